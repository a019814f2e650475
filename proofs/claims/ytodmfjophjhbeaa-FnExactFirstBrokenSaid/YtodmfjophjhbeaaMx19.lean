-- By this seat's own program over the kit's printer (arrays, functions told by hand); nothing of it is trusted: the kernel checks it.
import Derived.Test.YtodmfjophjhbeaaMx0
import Derived.Test.YtodmfjophjhbeaaMx11
import Derived.Test.YtodmfjophjhbeaaMx13
import Derived.Test.YtodmfjophjhbeaaMx14
import Derived.Test.YtodmfjophjhbeaaMx18
namespace Go.Proofs.Ytodmfjophjhbeaa.M
open Go.RowKit Go.Proofs.YtodmfjophjhbeaaW.PrintWords Go.Proofs.YtodmfjophjhbeaaW.PrintLast Go.Proofs.YtodmfjophjhbeaaW.PrintMore
attribute [local go_sem] max2_int min2_int max_two min_two max_three min_three max_four min_four   -- for this text's walks alone
set_option linter.unusedVariables false
set_option linter.unusedSimpArgs false

/-! ### spec_l02Broken: function 59 -/
mutual
def spec_l02Broken.l0 : Nat → List Int → Int → List (S60) → Int → List Int → Int → Int → Int → Int → Bool → Option (Int)
 | 0, _, _, _, _, _, _, _, _, _, _ => none
 | k + 1, x1, x5, x6, x7, x381000, x381001, x381002, x381003, x381004, x381005 => if x7 < (x1.length : Int) then (if 0 ≤ x7 then (if (wrap64 (rd x1 x7)) < (-1) then (spec_l02Broken.j1 k x1 x5 x6 x7 (wrap64 (rd x1 x7)) true x381000 x381001 x381002 x381003 x381004 x381005) else (if x7 = x5 then (spec_l02Broken.j1 k x1 x5 x6 x7 (wrap64 (rd x1 x7)) ((wrap64 (rd x1 x7)) != 0) x381000 x381001 x381002 x381003 x381004 x381005) else (spec_l02Broken.j1 k x1 x5 x6 x7 (wrap64 (rd x1 x7)) false x381000 x381001 x381002 x381003 x381004 x381005))) else (none)) else (some (-1))
def spec_l02Broken.j1 : Nat → List Int → Int → List (S60) → Int → Int → Bool → List Int → Int → Int → Int → Int → Bool → Option (Int)
 | 0, _, _, _, _, _, _, _, _, _, _, _, _ => none
 | k + 1, x1, x5, x6, x7, x8, x43, x381000, x381001, x381002, x381003, x381004, x381005 => if x43 = true then (some x7) else ((spec_l02At.f k x381000 x381001 x381002 x381003 x381004 x381005 x7).bind fun bt386 => (spec_l02Broken.l1 k x1 x5 x6 x7 x8 0 x381000 x381001 x381002 x381003 x381004 x381005 bt386.1 bt386.2.1 bt386.2.2.1 bt386.2.2.2))
def spec_l02Broken.l1 : Nat → List Int → Int → List (S60) → Int → Int → Int → List Int → Int → Int → Int → Int → Bool → Int → Int → Int → Int → Option (Int)
 | 0, _, _, _, _, _, _, _, _, _, _, _, _, _, _, _, _ => none
 | k + 1, x1, x5, x6, x7, x8, x10, x381000, x381001, x381002, x381003, x381004, x381005, x391000, x391001, x391002, x391003 => if x10 < (x6.length : Int) then (spec_l02Broken.j3 k x1 x5 x6 x7 x8 x10 (decide (x8 ≥ 0)) x381000 x381001 x381002 x381003 x381004 x381005 x391000 x391001 x391002 x391003) else (spec_l02Broken.j3 k x1 x5 x6 x7 x8 x10 false x381000 x381001 x381002 x381003 x381004 x381005 x391000 x391001 x391002 x391003)
def spec_l02Broken.j3 : Nat → List Int → Int → List (S60) → Int → Int → Int → Bool → List Int → Int → Int → Int → Int → Bool → Int → Int → Int → Int → Option (Int)
 | 0, _, _, _, _, _, _, _, _, _, _, _, _, _, _, _, _, _ => none
 | k + 1, x1, x5, x6, x7, x8, x10, x55, x381000, x381001, x381002, x381003, x381004, x381005, x391000, x391001, x391002, x391003 => if x55 = true then (if 0 ≤ x10 then (if x10 < (x6.length : Int) then ((spec_l02Move.f k x381000 x381001 x381002 x381003 x381004 x381005 x391000 x391001 x391002 x391003 ((rd_T60 x6 x10).f0) ((rd_T60 x6 x10).f1) ((rd_T60 x6 x10).f2)).bind fun bt392 => (if bt392.2.2.2.2 = 0 then ((spec_l02Index.f k x381000 x381001 x381002 x381003 x381004 x381005 bt392.1 bt392.2.1 bt392.2.2.1 bt392.2.2.2.1).bind fun t398 => (if 0 ≤ t398 then (if t398 < (x1.length : Int) then (if (wrap64 (rd x1 t398)) = (-1) then (some x7) else (if (wrap64 (rd x1 t398)) > (wrap64 (x8 + 1)) then (some x7) else (spec_l02Broken.l1 k x1 x5 x6 x7 x8 (wrap64 (x10 + 1)) x381000 x381001 x381002 x381003 x381004 x381005 x391000 x391001 x391002 x391003))) else (none)) else (none))) else (spec_l02Broken.l1 k x1 x5 x6 x7 x8 (wrap64 (x10 + 1)) x381000 x381001 x381002 x381003 x381004 x381005 x391000 x391001 x391002 x391003))) else (none)) else (none)) else (spec_l02Broken.l0 k x1 x5 x6 (wrap64 (x7 + 1)) x381000 x381001 x381002 x381003 x381004 x381005)
end
def spec_l02Broken.f (k : Nat) (l0_0 : List Int) (a0_1 : Int) (a0_2 : Int) (a0_3 : Int) (a0_4 : Int) (a0_5 : Bool) (l1 : List Int) : Option (Int) := (spec_l02Index.f k l0_0 a0_1 a0_2 a0_3 a0_4 a0_5 a0_1 a0_2 a0_3 a0_4).bind fun t381 => ((spec_l02All.f k l0_0 a0_1 a0_2 a0_3 a0_4 a0_5).bind fun t382 => (spec_l02Broken.l0 k l1 t381 t382 0 l0_0 a0_1 a0_2 a0_3 a0_4 a0_5))
theorem spec_l02Broken.mono_l : ∀ k, (∀ y0 y1 y2 y3 y4 y5 y6 y7 y8 y9, LeO (spec_l02Broken.l0 k y0 y1 y2 y3 y4 y5 y6 y7 y8 y9) (spec_l02Broken.l0 (k + 1) y0 y1 y2 y3 y4 y5 y6 y7 y8 y9)) ∧ (∀ y0 y1 y2 y3 y4 y5 y6 y7 y8 y9 y10 y11, LeO (spec_l02Broken.j1 k y0 y1 y2 y3 y4 y5 y6 y7 y8 y9 y10 y11) (spec_l02Broken.j1 (k + 1) y0 y1 y2 y3 y4 y5 y6 y7 y8 y9 y10 y11)) ∧ (∀ y0 y1 y2 y3 y4 y5 y6 y7 y8 y9 y10 y11 y12 y13 y14 y15, LeO (spec_l02Broken.l1 k y0 y1 y2 y3 y4 y5 y6 y7 y8 y9 y10 y11 y12 y13 y14 y15) (spec_l02Broken.l1 (k + 1) y0 y1 y2 y3 y4 y5 y6 y7 y8 y9 y10 y11 y12 y13 y14 y15)) ∧ (∀ y0 y1 y2 y3 y4 y5 y6 y7 y8 y9 y10 y11 y12 y13 y14 y15 y16, LeO (spec_l02Broken.j3 k y0 y1 y2 y3 y4 y5 y6 y7 y8 y9 y10 y11 y12 y13 y14 y15 y16) (spec_l02Broken.j3 (k + 1) y0 y1 y2 y3 y4 y5 y6 y7 y8 y9 y10 y11 y12 y13 y14 y15 y16))
 | 0 => ⟨fun _ _ _ _ _ _ _ _ _ _ r h => by simp [spec_l02Broken.l0] at h, fun _ _ _ _ _ _ _ _ _ _ _ _ r h => by simp [spec_l02Broken.j1] at h, fun _ _ _ _ _ _ _ _ _ _ _ _ _ _ _ _ r h => by simp [spec_l02Broken.l1] at h, fun _ _ _ _ _ _ _ _ _ _ _ _ _ _ _ _ _ r h => by simp [spec_l02Broken.j3] at h⟩
 | k + 1 => by
  obtain ⟨ih0, ih1, ih2, ih3⟩ := spec_l02Broken.mono_l k
  refine ⟨?_, ?_, ?_, ?_⟩
  ·intro y0 y1 y2 y3 y4 y5 y6 y7 y8 y9
   unfold spec_l02Broken.l0
   repeat' first
   | (with_reducible exact ih0 _ _ _ _ _ _ _ _ _ _)
   | (with_reducible exact ih1 _ _ _ _ _ _ _ _ _ _ _ _)
   | (with_reducible exact ih2 _ _ _ _ _ _ _ _ _ _ _ _ _ _ _ _)
   | (with_reducible exact ih3 _ _ _ _ _ _ _ _ _ _ _ _ _ _ _ _ _)
   | (with_reducible exact spec_l02All.mono _ _ _ _ _ _ _)
   | (with_reducible exact spec_l02At.mono _ _ _ _ _ _ _ _)
   | (with_reducible exact spec_l02Index.mono _ _ _ _ _ _ _ _ _ _ _)
   | (with_reducible exact spec_l02Move.mono _ _ _ _ _ _ _ _ _ _ _ _ _ _)
   | (with_reducible exact LeO.refl _)
   | (with_reducible exact LeO.none _)
   | (with_reducible refine LeO.ite ?_ ?_)
   | (with_reducible refine LeO.bind ?_ (fun _ => ?_))
   | exact ih0 _ _ _ _ _ _ _ _ _ _
   | exact ih1 _ _ _ _ _ _ _ _ _ _ _ _
   | exact ih2 _ _ _ _ _ _ _ _ _ _ _ _ _ _ _ _
   | exact ih3 _ _ _ _ _ _ _ _ _ _ _ _ _ _ _ _ _
   | exact spec_l02All.mono _ _ _ _ _ _ _
   | exact spec_l02At.mono _ _ _ _ _ _ _ _
   | exact spec_l02Index.mono _ _ _ _ _ _ _ _ _ _ _
   | exact spec_l02Move.mono _ _ _ _ _ _ _ _ _ _ _ _ _ _
   | exact LeO.none _
   | refine LeO.ite ?_ ?_
   | refine LeO.bind ?_ (fun _ => ?_)
  ·intro y0 y1 y2 y3 y4 y5 y6 y7 y8 y9 y10 y11
   unfold spec_l02Broken.j1
   repeat' first
   | (with_reducible exact ih0 _ _ _ _ _ _ _ _ _ _)
   | (with_reducible exact ih1 _ _ _ _ _ _ _ _ _ _ _ _)
   | (with_reducible exact ih2 _ _ _ _ _ _ _ _ _ _ _ _ _ _ _ _)
   | (with_reducible exact ih3 _ _ _ _ _ _ _ _ _ _ _ _ _ _ _ _ _)
   | (with_reducible exact spec_l02All.mono _ _ _ _ _ _ _)
   | (with_reducible exact spec_l02At.mono _ _ _ _ _ _ _ _)
   | (with_reducible exact spec_l02Index.mono _ _ _ _ _ _ _ _ _ _ _)
   | (with_reducible exact spec_l02Move.mono _ _ _ _ _ _ _ _ _ _ _ _ _ _)
   | (with_reducible exact LeO.refl _)
   | (with_reducible exact LeO.none _)
   | (with_reducible refine LeO.ite ?_ ?_)
   | (with_reducible refine LeO.bind ?_ (fun _ => ?_))
   | exact ih0 _ _ _ _ _ _ _ _ _ _
   | exact ih1 _ _ _ _ _ _ _ _ _ _ _ _
   | exact ih2 _ _ _ _ _ _ _ _ _ _ _ _ _ _ _ _
   | exact ih3 _ _ _ _ _ _ _ _ _ _ _ _ _ _ _ _ _
   | exact spec_l02All.mono _ _ _ _ _ _ _
   | exact spec_l02At.mono _ _ _ _ _ _ _ _
   | exact spec_l02Index.mono _ _ _ _ _ _ _ _ _ _ _
   | exact spec_l02Move.mono _ _ _ _ _ _ _ _ _ _ _ _ _ _
   | exact LeO.none _
   | refine LeO.ite ?_ ?_
   | refine LeO.bind ?_ (fun _ => ?_)
  ·intro y0 y1 y2 y3 y4 y5 y6 y7 y8 y9 y10 y11 y12 y13 y14 y15
   unfold spec_l02Broken.l1
   repeat' first
   | (with_reducible exact ih0 _ _ _ _ _ _ _ _ _ _)
   | (with_reducible exact ih1 _ _ _ _ _ _ _ _ _ _ _ _)
   | (with_reducible exact ih2 _ _ _ _ _ _ _ _ _ _ _ _ _ _ _ _)
   | (with_reducible exact ih3 _ _ _ _ _ _ _ _ _ _ _ _ _ _ _ _ _)
   | (with_reducible exact spec_l02All.mono _ _ _ _ _ _ _)
   | (with_reducible exact spec_l02At.mono _ _ _ _ _ _ _ _)
   | (with_reducible exact spec_l02Index.mono _ _ _ _ _ _ _ _ _ _ _)
   | (with_reducible exact spec_l02Move.mono _ _ _ _ _ _ _ _ _ _ _ _ _ _)
   | (with_reducible exact LeO.refl _)
   | (with_reducible exact LeO.none _)
   | (with_reducible refine LeO.ite ?_ ?_)
   | (with_reducible refine LeO.bind ?_ (fun _ => ?_))
   | exact ih0 _ _ _ _ _ _ _ _ _ _
   | exact ih1 _ _ _ _ _ _ _ _ _ _ _ _
   | exact ih2 _ _ _ _ _ _ _ _ _ _ _ _ _ _ _ _
   | exact ih3 _ _ _ _ _ _ _ _ _ _ _ _ _ _ _ _ _
   | exact spec_l02All.mono _ _ _ _ _ _ _
   | exact spec_l02At.mono _ _ _ _ _ _ _ _
   | exact spec_l02Index.mono _ _ _ _ _ _ _ _ _ _ _
   | exact spec_l02Move.mono _ _ _ _ _ _ _ _ _ _ _ _ _ _
   | exact LeO.none _
   | refine LeO.ite ?_ ?_
   | refine LeO.bind ?_ (fun _ => ?_)
  ·intro y0 y1 y2 y3 y4 y5 y6 y7 y8 y9 y10 y11 y12 y13 y14 y15 y16
   unfold spec_l02Broken.j3
   repeat' first
   | (with_reducible exact ih0 _ _ _ _ _ _ _ _ _ _)
   | (with_reducible exact ih1 _ _ _ _ _ _ _ _ _ _ _ _)
   | (with_reducible exact ih2 _ _ _ _ _ _ _ _ _ _ _ _ _ _ _ _)
   | (with_reducible exact ih3 _ _ _ _ _ _ _ _ _ _ _ _ _ _ _ _ _)
   | (with_reducible exact spec_l02All.mono _ _ _ _ _ _ _)
   | (with_reducible exact spec_l02At.mono _ _ _ _ _ _ _ _)
   | (with_reducible exact spec_l02Index.mono _ _ _ _ _ _ _ _ _ _ _)
   | (with_reducible exact spec_l02Move.mono _ _ _ _ _ _ _ _ _ _ _ _ _ _)
   | (with_reducible exact LeO.refl _)
   | (with_reducible exact LeO.none _)
   | (with_reducible refine LeO.ite ?_ ?_)
   | (with_reducible refine LeO.bind ?_ (fun _ => ?_))
   | exact ih0 _ _ _ _ _ _ _ _ _ _
   | exact ih1 _ _ _ _ _ _ _ _ _ _ _ _
   | exact ih2 _ _ _ _ _ _ _ _ _ _ _ _ _ _ _ _
   | exact ih3 _ _ _ _ _ _ _ _ _ _ _ _ _ _ _ _ _
   | exact spec_l02All.mono _ _ _ _ _ _ _
   | exact spec_l02At.mono _ _ _ _ _ _ _ _
   | exact spec_l02Index.mono _ _ _ _ _ _ _ _ _ _ _
   | exact spec_l02Move.mono _ _ _ _ _ _ _ _ _ _ _ _ _ _
   | exact LeO.none _
   | refine LeO.ite ?_ ?_
   | refine LeO.bind ?_ (fun _ => ?_)
theorem spec_l02Broken.mono : ∀ a0 a1 a2 a3 a4 a5 a6 k, LeO (spec_l02Broken.f k a0 a1 a2 a3 a4 a5 a6) (spec_l02Broken.f (k + 1) a0 a1 a2 a3 a4 a5 a6) := by
 intro a0 a1 a2 a3 a4 a5 a6 k
 obtain ⟨ih0, ih1, ih2, ih3⟩ := spec_l02Broken.mono_l k
 unfold spec_l02Broken.f
 repeat' first
   | (with_reducible exact ih0 _ _ _ _ _ _ _ _ _ _)
   | (with_reducible exact ih1 _ _ _ _ _ _ _ _ _ _ _ _)
   | (with_reducible exact ih2 _ _ _ _ _ _ _ _ _ _ _ _ _ _ _ _)
   | (with_reducible exact ih3 _ _ _ _ _ _ _ _ _ _ _ _ _ _ _ _ _)
   | (with_reducible exact spec_l02All.mono _ _ _ _ _ _ _)
   | (with_reducible exact spec_l02At.mono _ _ _ _ _ _ _ _)
   | (with_reducible exact spec_l02Index.mono _ _ _ _ _ _ _ _ _ _ _)
   | (with_reducible exact spec_l02Move.mono _ _ _ _ _ _ _ _ _ _ _ _ _ _)
   | (with_reducible exact LeO.refl _)
   | (with_reducible exact LeO.none _)
   | (with_reducible refine LeO.ite ?_ ?_)
   | (with_reducible refine LeO.bind ?_ (fun _ => ?_))
   | exact ih0 _ _ _ _ _ _ _ _ _ _
   | exact ih1 _ _ _ _ _ _ _ _ _ _ _ _
   | exact ih2 _ _ _ _ _ _ _ _ _ _ _ _ _ _ _ _
   | exact ih3 _ _ _ _ _ _ _ _ _ _ _ _ _ _ _ _ _
   | exact spec_l02All.mono _ _ _ _ _ _ _
   | exact spec_l02At.mono _ _ _ _ _ _ _ _
   | exact spec_l02Index.mono _ _ _ _ _ _ _ _ _ _ _
   | exact spec_l02Move.mono _ _ _ _ _ _ _ _ _ _ _ _ _ _
   | exact LeO.none _
   | refine LeO.ite ?_ ?_
   | refine LeO.bind ?_ (fun _ => ?_)
def spec_l02Broken.T13 : Bool × List (List Nat × List Nat) := (true, [([], []), ([], []), ([], []), ([], []), ([2, 3], [2, 3]), ([4], [4]), ([0, 1, 5], [0, 1, 5]), ([6], [6]), ([7], [7]), ([7], [7]), ([], []), ([10, 8, 6, 0, 1, 2, 3, 4, 5, 6, 7, 8, 10], [8, 10]), ([9, 11, 0, 1, 2, 3, 4, 5, 6, 7, 8, 9, 10, 11], [9])])
def spec_l02Broken.B13 : List Nat := [0, 0, 0, 0, 12, 28, 63, 127, 255, 255, 0, 1535, 4095]
theorem spec_l02Broken.tab13 : rtab .any (opsOf Try.f59 13) = spec_l02Broken.T13 := by kernel_rfl
theorem spec_l02Broken.bits13 : waitsOk spec_l02Broken.T13.2 spec_l02Broken.B13 = true := by kernel_rfl
set_option maxHeartbeats 8000000 in
set_option maxRecDepth 100000 in
theorem spec_l02Broken.calls (k : Nat) (gp0 : Nat) (A0_0 : Option Addr) (c0_0 : Nat) (l0_0 : List Int) (a0_1 : Int) (a0_2 : Int) (a0_3 : Int) (a0_4 : Int) (a0_5 : Bool) (A1 : Option Addr) (c1 : Nat) (l1 : List Int) (r : Int) (w : World) (hb0 : w.heap[gp0]? = some (.cells #[.slice A0_0 l0_0.length c0_0, .int .i16 a0_1, .int .i16 a0_2, .int .i16 a0_3, .int .i16 a0_4, .bool a0_5] 32 (0, 0))) (hr0_0 : Kd.C (Kd.int .i16) w A0_0 l0_0.length l0_0) (hc0_0 : l0_0.length ≤ c0_0) (hr1 : Kd.C (Kd.int .i16) w A1 l1.length l1) (hc1 : l1.length ≤ c1) (h : spec_l02Broken.f k l0_0 a0_1 a0_2 a0_3 a0_4 a0_5 l1 = some r) :
  Calls Try.prog 59 #[.pointer (some ⟨gp0, 0, none⟩), .slice A1 l1.length c1] w fun e w' => e = .returned (.int .i64 r) ∧ Below w.heap.size w w' := by
 have hu30 := Try.underlying30
 have hu60 := Try.underlying60
 have HR0_0 := Aside0.mk hr0_0
 have HC0_0 := Aside0.mk hc0_0
 clear hr0_0 hc0_0
 have HR1 := Aside0.mk hr1
 have HC1 := Aside0.mk hc1
 clear hr1 hc1
 have BK380 := Aside0.mk hb0
 clear hb0
 have HB := A_ (Below.refl w.heap.size w)
 have H : ((spec_l02Index.f k l0_0 a0_1 a0_2 a0_3 a0_4 a0_5 a0_1 a0_2 a0_3 a0_4).bind fun t381 => ((spec_l02All.f k l0_0 a0_1 a0_2 a0_3 a0_4 a0_5).bind fun t382 => (spec_l02Broken.l0 k l1 t381 t382 0 l0_0 a0_1 a0_2 a0_3 a0_4 a0_5))) = some r := h
 clear h
 replace H := Option.bind_eq_some_iff.mp H
 obtain ⟨t381, A30, H⟩ := H
 replace H : ((spec_l02All.f k l0_0 a0_1 a0_2 a0_3 a0_4 a0_5).bind fun t382 => (spec_l02Broken.l0 k l1 t381 t382 0 l0_0 a0_1 a0_2 a0_3 a0_4 a0_5)) = some r := H
 have A3 := Aside0.mk A30
 clear A30
 replace H := Option.bind_eq_some_iff.mp H
 obtain ⟨t382, A40, H⟩ := H
 replace H : (spec_l02Broken.l0 k l1 t381 t382 0 l0_0 a0_1 a0_2 a0_3 a0_4 a0_5) = some r := H
 have A4 := Aside0.mk A40
 clear A40
 have H' := Aside0.mk H
 clear H
 have hcz5_0 : w.cell? ⟨gp0, 0, none⟩ = some (.slice A0_0 l0_0.length c0_0) := (blk_cell BK380.out 0).trans rfl
 have hcz5_1 : w.cell? ⟨gp0, 1, none⟩ = some (.int .i16 a0_1) := (blk_cell BK380.out 1).trans rfl
 have hcz5_2 : w.cell? ⟨gp0, 2, none⟩ = some (.int .i16 a0_2) := (blk_cell BK380.out 2).trans rfl
 have hcz5_3 : w.cell? ⟨gp0, 3, none⟩ = some (.int .i16 a0_3) := (blk_cell BK380.out 3).trans rfl
 have hcz5_4 : w.cell? ⟨gp0, 4, none⟩ = some (.int .i16 a0_4) := (blk_cell BK380.out 4).trans rfl
 have hcz5_5 : w.cell? ⟨gp0, 5, none⟩ = some (.bool a0_5) := (blk_cell BK380.out 5).trans rfl
 have hfz5_0 := blk_frozen BK380.out 0
 have hfz5_1 := blk_frozen BK380.out 1
 have hfz5_2 := blk_frozen BK380.out 2
 have hfz5_3 := blk_frozen BK380.out 3
 have hfz5_4 := blk_frozen BK380.out 4
 have hfz5_5 := blk_frozen BK380.out 5
 go_enter Try.func59, Try.ntmps59
 go_wp2_with (first | ((with_reducible refine gate_callee (f := 78) rfl ?_); refine goesL_ (some 19) rfl rfl Try.func78 (by kernel_rfl) rfl #[.pointer (some ⟨gp0, 0, none⟩), .agg #[.int .i16 a0_1, .int .i16 a0_2, .int .i16 a0_3, .int .i16 a0_4]] rfl arg_ ?_; (with_reducible refine (spec_l02Index.calls k gp0 A0_0 c0_0 l0_0 a0_1 a0_2 a0_3 a0_4 a0_5 a0_1 a0_2 a0_3 a0_4 t381 _ ?side1 ?side2 ?side3 A3.out).mono ?_); (case side1 => exact (pl_ BK380)); (case side2 => repeat (first | exact HR0_0.out | (with_reducible refine Kd.C_alloc ?_ _) | (with_reducible refine Kd.C_drewN ?_ _) | (with_reducible refine Kd.C_drew ?_))); (case side3 => exact HC0_0.out); rintro e w6 ⟨rfl, hb⟩; refine ⟨_, rfl, ?_⟩; have n0_ := A_ (blk_below (pl_ BK380) hb); have n1_ := A_ (below_step (bl_ HB) hb); clear BK380; clear HB; have BK380 := n0_; have HB := n1_; clear n0_ n1_; (try clear hb); (try clear hb2); (try clear hk); (try clear hi)) | ((with_reducible refine gate_callee (f := 88) rfl ?_); refine goesL_ (some 21) rfl rfl Try.func88 (by kernel_rfl) rfl #[.pointer (some ⟨gp0, 0, none⟩)] rfl arg_ ?_; (with_reducible refine (spec_l02All.calls k gp0 A0_0 c0_0 l0_0 a0_1 a0_2 a0_3 a0_4 a0_5 t382 _ ?side1 ?side2 ?side3 A4.out).mono ?_); (case side1 => exact (pl_ BK380)); (case side2 => repeat (first | exact (Kd.C_below HR0_0.out HB.out) | (with_reducible refine Kd.C_alloc ?_ _) | (with_reducible refine Kd.C_drewN ?_ _) | (with_reducible refine Kd.C_drew ?_))); (case side3 => exact HC0_0.out); rintro e w7 ⟨v383, rfl, ho0, hb⟩; refine ⟨_, rfl, ?_⟩; have n0_ := A_ (Kd.R_lower ho0 (below_size (bl_ HB))); have n1_ := A_ (blk_below (pl_ BK380) hb); have n2_ := A_ (below_step (bl_ HB) hb); clear BK380; clear HB; have HO384 := n0_; have BK380 := n1_; have HB := n2_; clear n0_ n1_ n2_; (try clear hb); (try clear hb2); (try clear hk); (try clear hi); (try clear ho0)))
 go_loopg [7] k (fun kq v7 w' => ∃ (x7_1 : Int) (x381001_1 : Int) (x381002_1 : Int) (x381003_1 : Int) (x381004_1 : Int) (x381005_1 : Bool), v7 = .int .i64 x7_1 ∧ Aside0 (spec_l02Broken.l0 kq l1 t381 t382 x7_1 l0_0 x381001_1 x381002_1 x381003_1 x381004_1 x381005_1 = some r) ∧ Aside0 (kq ≤ k) ∧ Aside0 (Kd.R k60 60 w' w.heap.size (fun _ => True) v383 t382) ∧ Aside0 (w'.heap[gp0]? = some (.cells #[(.slice A0_0 l0_0.length c0_0), .int .i16 x381001_1, .int .i16 x381002_1, .int .i16 x381003_1, .int .i16 x381004_1, .bool x381005_1] 32 (0, 0))) ∧ Aside0 (Below w.heap.size w w'))
 case atStart => exact ⟨(0), (a0_1), (a0_2), (a0_3), (a0_4), (a0_5), rs_, H', ⟨Nat.le_refl _⟩, ⟨pr_ HO384⟩, ⟨pl_ BK380⟩, ⟨bl_ HB⟩⟩
 case round =>
  clear H'
  try clear c1
  try clear p2
  try clear c5
  try clear c7
  try clear hcz5_0
  try clear hcz5_1
  try clear hcz5_2
  try clear hcz5_3
  try clear hcz5_4
  try clear hcz5_5
  try clear hfz5_0
  try clear hfz5_1
  try clear hfz5_2
  try clear hfz5_3
  try clear hfz5_4
  try clear hfz5_5
  obtain ⟨x7_1, x381001_1, x381002_1, x381003_1, x381004_1, x381005_1, rfl, HA, HK1, HO_6, BK380, HB⟩ := hrel
  cases gk with
  | zero => exact absurd HA.out (by simp [spec_l02Broken.l0])
  | succ k1 =>
   have H := HA.out
   clear HA
   simp only [spec_l02Broken.l0] at H
   by_cases c8 : x7_1 < (l1.length : Int)
   ·rw [if_pos c8] at H
    have c8b0 : decide (x7_1 < (l1.length : Int)) = true := decide_eq_true c8
    clear c8
    by_cases c9 : 0 ≤ x7_1
    ·rw [if_pos c9] at H
     have c9b0 : decide (0 ≤ x7_1) = true := decide_eq_true c9
     clear c9
     have HC10 := Aside0.mk H
     clear H
     have p385 : 0 ≤ (x7_1 : Int) := asm_
     have q385 : x7_1 < (l1.length : Int) := asm_
     obtain ⟨ad385, e385, hx385_0⟩ := Kd.at_int HR1.out x7_1 p385 q385
     cases e385
     (try replace hx385_0 := (HB.out.cell (World.block_lt_of_cell? w _ hx385_0)).trans hx385_0)
     replace p385 := eq_true p385
     replace q385 := eq_true q385
     go_upto_region 7 with (fail)
     go_cut [43] (fun v43 wc => ∃ (kq : Nat) (x43_9 : Bool), v43 = .bool x43_9 ∧ Aside0 (spec_l02Broken.j1 kq l1 t381 t382 x7_1 (wrap64 (rd l1 x7_1)) x43_9 l0_0 x381001_1 x381002_1 x381003_1 x381004_1 x381005_1 = some r) ∧ Aside0 (kq ≤ k1) ∧ Aside0 (Kd.R k60 60 wc w.heap.size (fun _ => True) v383 t382) ∧ Aside0 (wc.heap[gp0]? = some (.cells #[(.slice A0_0 l0_0.length c0_0), .int .i16 x381001_1, .int .i16 x381002_1, .int .i16 x381003_1, .int .i16 x381004_1, .bool x381005_1] 32 (0, 0))) ∧ Aside0 (Below w.heap.size w wc))
     case first =>
      have H := HC10.out
      clear HC10
      by_cases c11 : (wrap64 (rd l1 x7_1)) < (-1)
      ·rw [if_pos c11] at H
       have c11b0 : decide ((wrap64 (rd l1 x7_1)) < (-1)) = true := decide_eq_true c11
       clear c11
       (first | rw [c11b0] | (simp only [i64_w, i32_w]; rw [c11b0]) | skip)
       have H' := Aside0.mk H
       clear H
       go_wp2
       go_meet
       case rel => exact ⟨_, (true), rs_, H', ⟨by have := HK1.out; first | omega | exact Nat.le_refl _⟩, ⟨pr_ HO_6⟩, ⟨pl_ BK380⟩, ⟨bl_ HB⟩⟩
      ·rw [if_neg c11] at H
       have c11b0 : decide ((wrap64 (rd l1 x7_1)) < (-1)) = false := decide_eq_false c11
       clear c11
       (first | rw [c11b0] | (simp only [i64_w, i32_w]; rw [c11b0]) | skip)
       by_cases c12 : x7_1 = t381
       ·rw [if_pos c12] at H
        have c12b0 : (x7_1 == t381) = true := beq_iff_eq.mpr c12
        have c12b1 : (x7_1 != t381) = false := bne_eq_false_iff_eq.mpr c12
        clear c12
        have H' := Aside0.mk H
        clear H
        go_wp2
        go_meet
        case rel => exact ⟨_, (((wrap64 (rd l1 x7_1)) != 0)), rs_, H', ⟨by have := HK1.out; first | omega | exact Nat.le_refl _⟩, ⟨pr_ HO_6⟩, ⟨pl_ BK380⟩, ⟨bl_ HB⟩⟩
       ·rw [if_neg c12] at H
        have c12b0 : (x7_1 == t381) = false := beq_eq_false_iff_ne.mpr c12
        have c12b1 : (x7_1 != t381) = true := bne_iff_ne.mpr c12
        have H' := Aside0.mk H
        clear H
        go_wp2
        go_meet
        case rel => exact ⟨_, (false), rs_, H', ⟨by have := HK1.out; first | omega | exact Nat.le_refl _⟩, ⟨pr_ HO_6⟩, ⟨pl_ BK380⟩, ⟨bl_ HB⟩⟩
     case rest =>
      clear HC10
      try clear c1
      try clear p2
      try clear p3
      try clear q3
      try clear hx3
      try clear c5
      try clear p6
      try clear c7
      try clear c8
      try clear c8b0
      try clear c9
      try clear c9b0
      try clear c11
      try clear c11b0
      try clear c12
      try clear c12b0
      try clear c12b1
      try clear hcz5_0
      try clear hcz5_1
      try clear hcz5_2
      try clear hcz5_3
      try clear hcz5_4
      try clear hcz5_5
      try clear hfz5_0
      try clear hfz5_1
      try clear hfz5_2
      try clear hfz5_3
      try clear hfz5_4
      try clear hfz5_5
      try clear hx385_0
      try clear p2
      try clear p385
      try clear q385
      obtain ⟨kq, x43_9, rfl, HA, HJ9, HO_6, BK380, HB⟩ := hcut
      cases kq with
      | zero => exact absurd HA.out (by simp [spec_l02Broken.j1])
      | succ kj9 =>
       have H := HA.out
       clear HA
       simp only [spec_l02Broken.j1] at H
       by_cases c13 : x43_9 = true
       ·subst c13
        have H1 : (some x7_1) = some r := by rw [if_pos rfl] at H; exact H
        clear H
        have H := H1
        clear H1
        obtain rfl := Option.some.inj H
        go_wp2
        go_ret
        exact ⟨by first | rfl | (simp [errW_none, errW_some] <;> rfl) | (simp [*, errW_none, errW_some] <;> rfl), bl_ HB⟩
       ·replace c13 := Bool.eq_false_iff.mpr c13
        subst c13
        have H1 : ((spec_l02At.f kj9 l0_0 x381001_1 x381002_1 x381003_1 x381004_1 x381005_1 x7_1).bind fun bt386 => (spec_l02Broken.l1 kj9 l1 t381 t382 x7_1 (wrap64 (rd l1 x7_1)) 0 l0_0 x381001_1 x381002_1 x381003_1 x381004_1 x381005_1 bt386.1 bt386.2.1 bt386.2.2.1 bt386.2.2.2)) = some r := by rw [if_neg (show ¬ (false = true) by decide)] at H; exact H
        clear H
        have H := H1
        clear H1
        replace H := Option.bind_eq_some_iff.mp H
        obtain ⟨⟨t386, t387, t388, t389⟩, A140, H⟩ := H
        replace H : (spec_l02Broken.l1 kj9 l1 t381 t382 x7_1 (wrap64 (rd l1 x7_1)) 0 l0_0 x381001_1 x381002_1 x381003_1 x381004_1 x381005_1 t386 t387 t388 t389) = some r := H
        have A14 := Aside0.mk A140
        clear A140
        have H' := Aside0.mk H
        clear H
        go_wp2_with (first | ((with_reducible refine gate_callee (f := 61) rfl ?_); refine goesL_ (some 47) rfl rfl Try.func61 (by kernel_rfl) rfl #[.pointer (some ⟨gp0, 0, none⟩), .int .i64 x7_1] rfl arg_ ?_; (with_reducible refine (spec_l02At.calls kj9 gp0 A0_0 c0_0 l0_0 x381001_1 x381002_1 x381003_1 x381004_1 x381005_1 x7_1 t386 t387 t388 t389 _ ?side1 ?side2 ?side3 A14.out).mono ?_); (case side1 => exact (pl_ BK380)); (case side2 => repeat (first | exact (Kd.C_below HR0_0.out HB.out) | (with_reducible refine Kd.C_alloc ?_ _) | (with_reducible refine Kd.C_drewN ?_ _) | (with_reducible refine Kd.C_drew ?_))); (case side3 => exact HC0_0.out); rintro e w15 ⟨rfl, hb⟩; refine ⟨_, rfl, ?_⟩; have n0_ := A_ (Kd.R_below (pr_ HO_6) hb); have n1_ := A_ (blk_below (pl_ BK380) hb); have n2_ := A_ (below_step (bl_ HB) hb); clear HO_6; clear BK380; clear HB; have HO_6 := n0_; have BK380 := n1_; have HB := n2_; clear n0_ n1_ n2_; (try clear hb); (try clear hb2); (try clear hk); (try clear hi)) | ((with_reducible refine gate_dst (N := 9) rfl ?_); refine box_event ?hg (N := 9) ?hd (cs := #[.int .i16 0, .int .i16 0, .int .i16 0, .int .i16 0]) (t := 30) ?hr ?_; (case hd => rfl); (case hg => rfl); (case hr => first | (go_simp; done) | (go_simp; rfl)); intro gb390 hg w16 hbox hb; have n0_ := A_ (Kd.R_below (pr_ HO_6) hb); have n1_ := A_ (blk_below (pl_ BK380) hb); have n2_ := A_ (below_step (bl_ HB) hb); have n3_ := A_ (hbox); have n4_ := A_ ((by rw [hg]; exact (below_size (bl_ HB)) : w.heap.size ≤ gb390)); have n5_ := n4_; have n6_ := A_ ((by rw [hg]; exact Nat.ne_of_lt (blk_lt (pl_ BK380)) : gp0 ≠ gb390)); have n7_ := Aside0.mk n6_.out.symm; clear HO_6; clear BK380; clear HB; have HO_6 := n0_; have BK380 := n1_; have HB := n2_; have BK390 := n3_; have GW390 := n4_; have GE390 := n5_; have NB380_390 := n6_; have NB390_380 := n7_; clear n0_ n1_ n2_ n3_ n4_ n5_ n6_ n7_; clear hb hbox hg; have hnb17 := NB390_380.out; have hnc17 := NB380_390.out; have hcz18_0 : w16.cell? ⟨gb390, 0, none⟩ = some (.int .i16 0) := (blk_cell BK390.out 0).trans rfl; have hcz18_1 : w16.cell? ⟨gb390, 1, none⟩ = some (.int .i16 0) := (blk_cell BK390.out 1).trans rfl; have hcz18_2 : w16.cell? ⟨gb390, 2, none⟩ = some (.int .i16 0) := (blk_cell BK390.out 2).trans rfl; have hcz18_3 : w16.cell? ⟨gb390, 3, none⟩ = some (.int .i16 0) := (blk_cell BK390.out 3).trans rfl; have hfz18_0 := blk_frozen BK390.out 0; have hfz18_1 := blk_frozen BK390.out 1; have hfz18_2 := blk_frozen BK390.out 2; have hfz18_3 := blk_frozen BK390.out 3))
        go_loopg [10] kj9 (fun kq v10 w' => ∃ (x10_3 : Int) (x381001_3 : Int) (x381002_3 : Int) (x381003_3 : Int) (x381004_3 : Int) (x381005_3 : Bool), v10 = .int .i64 x10_3 ∧ Aside0 (spec_l02Broken.l1 kq l1 t381 t382 x7_1 (wrap64 (rd l1 x7_1)) x10_3 l0_0 x381001_3 x381002_3 x381003_3 x381004_3 x381005_3 t386 t387 t388 t389 = some r) ∧ Aside0 (kq ≤ kj9) ∧ Aside0 (Kd.R k60 60 w' w.heap.size (fun _ => True) v383 t382) ∧ Aside0 (w'.heap[gp0]? = some (.cells #[(.slice A0_0 l0_0.length c0_0), .int .i16 x381001_3, .int .i16 x381002_3, .int .i16 x381003_3, .int .i16 x381004_3, .bool x381005_3] 32 (0, 0))) ∧ Aside0 (w'.heap[gb390]? = some (.cells #[.int .i16 t386, .int .i16 t387, .int .i16 t388, .int .i16 t389] 30 (0, 0))) ∧ Aside0 (Below w.heap.size w w'))
        case atStart => exact ⟨(0), (x381001_1), (x381002_1), (x381003_1), (x381004_1), (x381005_1), rs_, H', ⟨Nat.le_refl _⟩, ⟨by (with_reducible repeat (first | apply Kd.R_alloc | apply Kd.R_drewN | apply Kd.R_drew)); exact Kd.R_mono (Kd.R_far (p := ⟨gb390, 3, none⟩) (Kd.R_far (p := ⟨gb390, 2, none⟩) (Kd.R_far (p := ⟨gb390, 1, none⟩) (Kd.R_far (p := ⟨gb390, 0, none⟩) (Kd.R_types HO_6.out BK390.out (by decide)) (fun _ hk => hk.2) (.int .i16 t386)) (fun _ hk => hk.2) (.int .i16 t387)) (fun _ hk => hk.2) (.int .i16 t388)) (fun _ hk => hk.2) (.int .i16 t389)) (fun _ hk => trivial)⟩, ⟨pf_ BK380 NB380_390⟩, ⟨by (with_reducible repeat (first | refine blk_drewN ?_ _ | refine blk_drew ?_ | refine blk_alloc ?_ _)); refine blk_put (cs := #[.int .i16 t386, .int .i16 t387, .int .i16 t388, .int .i16 0]) ?_ 3 _ rfl; (with_reducible repeat (first | refine blk_drewN ?_ _ | refine blk_drew ?_ | refine blk_alloc ?_ _)); refine blk_put (cs := #[.int .i16 t386, .int .i16 t387, .int .i16 0, .int .i16 0]) ?_ 2 _ rfl; (with_reducible repeat (first | refine blk_drewN ?_ _ | refine blk_drew ?_ | refine blk_alloc ?_ _)); refine blk_put (cs := #[.int .i16 t386, .int .i16 0, .int .i16 0, .int .i16 0]) ?_ 1 _ rfl; (with_reducible repeat (first | refine blk_drewN ?_ _ | refine blk_drew ?_ | refine blk_alloc ?_ _)); refine blk_put (cs := #[.int .i16 0, .int .i16 0, .int .i16 0, .int .i16 0]) ?_ 0 _ rfl; (with_reducible repeat (first | refine blk_drewN ?_ _ | refine blk_drew ?_ | refine blk_alloc ?_ _)); exact BK390.out⟩, ⟨bs_ HB GE390⟩⟩
        case round =>
         clear H'
         try clear c1
         try clear p2
         try clear p3
         try clear q3
         try clear hx3
         try clear c5
         try clear c6
         try clear p6
         try clear c7
         try clear c8
         try clear c8b0
         try clear c9
         try clear c9b0
         try clear c11
         try clear c11b0
         try clear c12
         try clear c12b0
         try clear c12b1
         try clear c13
         try clear c17
         try clear hcz18_0
         try clear hcz18_1
         try clear hcz18_2
         try clear hcz18_3
         try clear hcz5_0
         try clear hcz5_1
         try clear hcz5_2
         try clear hcz5_3
         try clear hcz5_4
         try clear hcz5_5
         try clear hfz18_0
         try clear hfz18_1
         try clear hfz18_2
         try clear hfz18_3
         try clear hfz5_0
         try clear hfz5_1
         try clear hfz5_2
         try clear hfz5_3
         try clear hfz5_4
         try clear hfz5_5
         try clear hx385_0
         try clear p2
         try clear p3
         try clear p385
         try clear p6
         try clear q3
         try clear q385
         obtain ⟨x10_3, x381001_3, x381002_3, x381003_3, x381004_3, x381005_3, rfl, HA, HK3, HO_6, BK380, BK390, HB⟩ := hrel
         cases gk with
         | zero => exact absurd HA.out (by simp [spec_l02Broken.l1])
         | succ k3 =>
          have H := HA.out
          clear HA
          simp only [spec_l02Broken.l1] at H
          have HC19 := Aside0.mk H
          clear H
          go_upto_region 11 with (fail)
          go_cut [55] (fun v55 wc => ∃ (kq : Nat) (x55_18 : Bool), v55 = .bool x55_18 ∧ Aside0 (spec_l02Broken.j3 kq l1 t381 t382 x7_1 (wrap64 (rd l1 x7_1)) x10_3 x55_18 l0_0 x381001_3 x381002_3 x381003_3 x381004_3 x381005_3 t386 t387 t388 t389 = some r) ∧ Aside0 (kq ≤ k3) ∧ Aside0 (Kd.R k60 60 wc w.heap.size (fun _ => True) v383 t382) ∧ Aside0 (wc.heap[gp0]? = some (.cells #[(.slice A0_0 l0_0.length c0_0), .int .i16 x381001_3, .int .i16 x381002_3, .int .i16 x381003_3, .int .i16 x381004_3, .bool x381005_3] 32 (0, 0))) ∧ Aside0 (wc.heap[gb390]? = some (.cells #[.int .i16 t386, .int .i16 t387, .int .i16 t388, .int .i16 t389] 30 (0, 0))) ∧ Aside0 (Below w.heap.size w wc))
          case first =>
           have H := HC19.out
           clear HC19
           by_cases c20 : x10_3 < (t382.length : Int)
           ·rw [if_pos c20] at H
            have c20b0 : decide (x10_3 < (t382.length : Int)) = true := decide_eq_true c20
            clear c20
            (first | rw [c20b0] | (simp only [i64_w, i32_w]; rw [c20b0]) | skip)
            have H' := Aside0.mk H
            clear H
            obtain ⟨Ao21, co21, eo21⟩ := Kd.R_slice HO_6.out
            subst eo21
            go_wp2
            go_meet
            case rel => exact ⟨_, (decide ((wrap64 (rd l1 x7_1)) ≥ 0)), rs_, H', ⟨by have := HK1.out; have := HJ9.out; have := HK3.out; first | omega | exact Nat.le_refl _⟩, ⟨pr_ HO_6⟩, ⟨pl_ BK380⟩, ⟨pl_ BK390⟩, ⟨bl_ HB⟩⟩
           ·rw [if_neg c20] at H
            have c20b0 : decide (x10_3 < (t382.length : Int)) = false := decide_eq_false c20
            clear c20
            (first | rw [c20b0] | (simp only [i64_w, i32_w]; rw [c20b0]) | skip)
            have H' := Aside0.mk H
            clear H
            obtain ⟨Ao22, co22, eo22⟩ := Kd.R_slice HO_6.out
            subst eo22
            go_wp2
            go_meet
            case rel => exact ⟨_, (false), rs_, H', ⟨by have := HK1.out; have := HJ9.out; have := HK3.out; first | omega | exact Nat.le_refl _⟩, ⟨pr_ HO_6⟩, ⟨pl_ BK380⟩, ⟨pl_ BK390⟩, ⟨bl_ HB⟩⟩
          case rest =>
           clear HC19
           try clear c1
           try clear c2
           try clear p2
           try clear p3
           try clear q3
           try clear hx3
           try clear c5
           try clear c6
           try clear p6
           try clear c7
           try clear c8
           try clear c8b0
           try clear c9
           try clear c9b0
           try clear c11
           try clear c11b0
           try clear c12
           try clear c12b0
           try clear c12b1
           try clear c13
           try clear c17
           try clear c20
           try clear c20b0
           try clear hcz18_0
           try clear hcz18_1
           try clear hcz18_2
           try clear hcz18_3
           try clear hcz5_0
           try clear hcz5_1
           try clear hcz5_2
           try clear hcz5_3
           try clear hcz5_4
           try clear hcz5_5
           try clear hfz18_0
           try clear hfz18_1
           try clear hfz18_2
           try clear hfz18_3
           try clear hfz5_0
           try clear hfz5_1
           try clear hfz5_2
           try clear hfz5_3
           try clear hfz5_4
           try clear hfz5_5
           try clear hx385_0
           try clear p2
           try clear p3
           try clear p385
           try clear p6
           try clear q3
           try clear q385
           obtain ⟨kq, x55_18, rfl, HA, HJ18, HO_6, BK380, BK390, HB⟩ := hcut
           cases kq with
           | zero => exact absurd HA.out (by simp [spec_l02Broken.j3])
           | succ kj18 =>
            have H := HA.out
            clear HA
            simp only [spec_l02Broken.j3] at H
            by_cases c23 : x55_18 = true
            ·subst c23
             have H1 : (if 0 ≤ x10_3 then (if x10_3 < (t382.length : Int) then ((spec_l02Move.f kj18 l0_0 x381001_3 x381002_3 x381003_3 x381004_3 x381005_3 t386 t387 t388 t389 ((rd_T60 t382 x10_3).f0) ((rd_T60 t382 x10_3).f1) ((rd_T60 t382 x10_3).f2)).bind fun bt392 => (if bt392.2.2.2.2 = 0 then ((spec_l02Index.f kj18 l0_0 x381001_3 x381002_3 x381003_3 x381004_3 x381005_3 bt392.1 bt392.2.1 bt392.2.2.1 bt392.2.2.2.1).bind fun t398 => (if 0 ≤ t398 then (if t398 < (l1.length : Int) then (if (wrap64 (rd l1 t398)) = (-1) then (some x7_1) else (if (wrap64 (rd l1 t398)) > (wrap64 ((wrap64 (rd l1 x7_1)) + 1)) then (some x7_1) else (spec_l02Broken.l1 kj18 l1 t381 t382 x7_1 (wrap64 (rd l1 x7_1)) (wrap64 (x10_3 + 1)) l0_0 x381001_3 x381002_3 x381003_3 x381004_3 x381005_3 t386 t387 t388 t389))) else (none)) else (none))) else (spec_l02Broken.l1 kj18 l1 t381 t382 x7_1 (wrap64 (rd l1 x7_1)) (wrap64 (x10_3 + 1)) l0_0 x381001_3 x381002_3 x381003_3 x381004_3 x381005_3 t386 t387 t388 t389))) else (none)) else (none)) = some r := by rw [if_pos rfl] at H; exact H
             clear H
             have H := H1
             clear H1
             by_cases c24 : 0 ≤ x10_3
             ·rw [if_pos c24] at H
              have c24b0 : decide (0 ≤ x10_3) = true := decide_eq_true c24
              clear c24
              by_cases c25 : x10_3 < (t382.length : Int)
              ·rw [if_pos c25] at H
               have c25b0 : decide (x10_3 < (t382.length : Int)) = true := decide_eq_true c25
               clear c25
               replace H := Option.bind_eq_some_iff.mp H
               obtain ⟨⟨t392, t393, t394, t395, t396⟩, A260, H⟩ := H
               replace H : (if t396 = 0 then ((spec_l02Index.f kj18 l0_0 x381001_3 x381002_3 x381003_3 x381004_3 x381005_3 t392 t393 t394 t395).bind fun t398 => (if 0 ≤ t398 then (if t398 < (l1.length : Int) then (if (wrap64 (rd l1 t398)) = (-1) then (some x7_1) else (if (wrap64 (rd l1 t398)) > (wrap64 ((wrap64 (rd l1 x7_1)) + 1)) then (some x7_1) else (spec_l02Broken.l1 kj18 l1 t381 t382 x7_1 (wrap64 (rd l1 x7_1)) (wrap64 (x10_3 + 1)) l0_0 x381001_3 x381002_3 x381003_3 x381004_3 x381005_3 t386 t387 t388 t389))) else (none)) else (none))) else (spec_l02Broken.l1 kj18 l1 t381 t382 x7_1 (wrap64 (rd l1 x7_1)) (wrap64 (x10_3 + 1)) l0_0 x381001_3 x381002_3 x381003_3 x381004_3 x381005_3 t386 t387 t388 t389)) = some r := H
               have A26 := Aside0.mk A260
               clear A260
               by_cases c27 : t396 = 0
               ·rw [if_pos c27] at H
                have c27b0 : (t396 == 0) = true := beq_iff_eq.mpr c27
                have c27b1 : (t396 != 0) = false := bne_eq_false_iff_eq.mpr c27
                clear c27
                replace H := Option.bind_eq_some_iff.mp H
                obtain ⟨t398, A280, H⟩ := H
                replace H : (if 0 ≤ t398 then (if t398 < (l1.length : Int) then (if (wrap64 (rd l1 t398)) = (-1) then (some x7_1) else (if (wrap64 (rd l1 t398)) > (wrap64 ((wrap64 (rd l1 x7_1)) + 1)) then (some x7_1) else (spec_l02Broken.l1 kj18 l1 t381 t382 x7_1 (wrap64 (rd l1 x7_1)) (wrap64 (x10_3 + 1)) l0_0 x381001_3 x381002_3 x381003_3 x381004_3 x381005_3 t386 t387 t388 t389))) else (none)) else (none)) = some r := H
                have A28 := Aside0.mk A280
                clear A280
                by_cases c29 : 0 ≤ t398
                ·rw [if_pos c29] at H
                 have c29b0 : decide (0 ≤ t398) = true := decide_eq_true c29
                 clear c29
                 by_cases c30 : t398 < (l1.length : Int)
                 ·rw [if_pos c30] at H
                  have c30b0 : decide (t398 < (l1.length : Int)) = true := decide_eq_true c30
                  clear c30
                  by_cases c31 : (wrap64 (rd l1 t398)) = (-1)
                  ·rw [if_pos c31] at H
                   have c31b0 : ((wrap64 (rd l1 t398)) == (-1)) = true := beq_iff_eq.mpr c31
                   have c31b1 : ((wrap64 (rd l1 t398)) != (-1)) = false := bne_eq_false_iff_eq.mpr c31
                   clear c31
                   obtain rfl := Option.some.inj H
                   try go_wp2
                   have n0_ := A_ (Kd.R_drew HO_6.out)
                   have n1_ := A_ (blk_drew BK380.out)
                   have n2_ := A_ (blk_drew BK390.out)
                   have n3_ := A_ (below_drew1 HB.out)
                   clear HO_6
                   clear BK380
                   clear BK390
                   clear HB
                   have HO_6 := n0_
                   have BK380 := n1_
                   have BK390 := n2_
                   have HB := n3_
                   clear n0_ n1_ n2_ n3_
                   obtain ⟨Ao33, co33, eo33⟩ := Kd.R_slice HO_6.out
                   (first | subst eo33 | (injection eo33 with f1_ f2_ f3_; have f4_ := f1_.symm; have f5_ := f3_.symm; clear f1_ f2_ f3_; subst f4_; subst f5_))
                   have p391 : 0 ≤ (x10_3 : Int) := asm_
                   have q391 : x10_3 < (t382.length : Int) := asm_
                   obtain ⟨ad391, e391, hx391_0, hx391_1, hx391_2⟩ := at_T60 (Kd.R_reads' HO_6.out).2.2 x10_3 p391 q391
                   cases e391
                   replace p391 := eq_true p391
                   replace q391 := eq_true q391
                   refine start_ (n := 13) (S := fun w' => w'.cell? ⟨gb390, 0, none⟩ = some (.int .i16 t386) ∧ w'.cell? ⟨gb390, 1, none⟩ = some (.int .i16 t387) ∧ w'.cell? ⟨gb390, 2, none⟩ = some (.int .i16 t388) ∧ w'.cell? ⟨gb390, 3, none⟩ = some (.int .i16 t389) ∧ w'.cell? (ad391.add ((x10_3).toNat * 3)) = some (.int .i8 ((rd_T60 t382 x10_3).f0)) ∧ w'.cell? ⟨(ad391.add ((x10_3).toNat * 3)).block, (ad391.add ((x10_3).toNat * 3)).off + 1, none⟩ = some (.int .i8 ((rd_T60 t382 x10_3).f1)) ∧ w'.cell? ⟨(ad391.add ((x10_3).toNat * 3)).block, (ad391.add ((x10_3).toNat * 3)).off + 2, none⟩ = some (.int .i8 ((rd_T60 t382 x10_3).f2))) (ds := []) #[false, false, false, false, false, false, false, false, false, false, false, false, false] (by kernel_rfl) rfl rfl ⟨(blk_cell BK390.out 0).trans rfl, (blk_cell BK390.out 1).trans rfl, (blk_cell BK390.out 2).trans rfl, (blk_cell BK390.out 3).trans rfl, hx391_0, hx391_1, hx391_2⟩ (fun hHeld => ?_); refine with_tabW spec_l02Broken.tab13 spec_l02Broken.bits13 (fun HT_ HW_ => ?_)
                   generalize wc.drew = w32 at HO_6 BK380 BK390 HB hx391_0 hx391_1 hx391_2 hHeld ⊢
                   refine pure_ (i := 0) (N := some 59) (v := ?_) (a' := ?_) #[true, false, false, false, false, false, false, false, false, false, false, false, false] rfl rfl (any_of HT_.out (by kernel_rfl)) (fun _ _ _ h => h) (Or.inl ⟨by rfl, ?_⟩) ?_ ?_
                   rotate_left
                   ·intro w'
                    go_simp
                    with_reducible rfl
                   rotate_left
                   ·simp only [Act.put, List.setIfInBounds_toArray, List.set_cons_zero, List.set_cons_succ, i64_w, i32_w]
                    rfl
                   refine pure_ (i := 2) (N := some 61) (v := ?_) (a' := ?_) #[true, false, true, false, false, false, false, false, false, false, false, false, false] rfl rfl (any_of HT_.out (by kernel_rfl)) (fun _ _ _ h => h) (Or.inl ⟨by rfl, ?_⟩) ?_ ?_
                   rotate_left
                   ·intro w'
                    go_simp
                    with_reducible rfl
                   rotate_left
                   ·simp only [Act.put, List.setIfInBounds_toArray, List.set_cons_zero, List.set_cons_succ, i64_w, i32_w]
                    rfl
                   refine pure_ (i := 3) (N := some 62) (v := ?_) (a' := ?_) #[true, false, true, true, false, false, false, false, false, false, false, false, false] rfl rfl (any_of HT_.out (by kernel_rfl)) (fun _ _ _ h => h) (Or.inl ⟨by rfl, ?_⟩) ?_ ?_
                   rotate_left
                   ·intro w'
                    go_simp
                    with_reducible rfl
                   rotate_left
                   ·simp only [Act.put, List.setIfInBounds_toArray, List.set_cons_zero, List.set_cons_succ, i64_w, i32_w]
                    rfl
                   refine pure_ (i := 4) (N := some 63) (v := ?_) (a' := ?_) #[true, false, true, true, true, false, false, false, false, false, false, false, false] rfl rfl (any_of HT_.out (by kernel_rfl)) (fun _ _ _ h => h) (Or.inl ⟨by rfl, ?_⟩) ?_ ?_
                   rotate_left
                   ·intro w'
                    go_simp
                    with_reducible rfl
                   rotate_left
                   ·simp only [Act.put, List.setIfInBounds_toArray, List.set_cons_zero, List.set_cons_succ, i64_w, i32_w]
                    rfl
                   refine take_ (i := 1) (N := some 60) (v := ?_) (a' := ?_) #[true, true, true, true, true, false, false, false, false, false, false, false, false] rfl rfl (take_ofW HT_.out HW_.out (by kernel_rfl)) (fun _ _ _ h => h) (Or.inl ⟨by rfl, ?_⟩) hHeld ?_ ?_
                   rotate_left
                   ·rintro w' ⟨s0, s1, s2, s3, s4, s5, s6⟩
                    go_simp
                    with_reducible rfl
                   rotate_left
                   ·simp only [Act.put, List.setIfInBounds_toArray, List.set_cons_zero, List.set_cons_succ, i64_w, i32_w]
                    rfl
                   refine take_ (i := 5) (N := some 64) (v := ?_) (a' := ?_) #[true, true, true, true, true, true, false, false, false, false, false, false, false] rfl rfl (take_ofW HT_.out HW_.out (by kernel_rfl)) (fun _ _ _ h => h) (Or.inl ⟨by rfl, ?_⟩) hHeld ?_ ?_
                   rotate_left
                   ·rintro w' ⟨s0, s1, s2, s3, s4, s5, s6⟩
                    go_simp
                    with_reducible rfl
                   rotate_left
                   ·simp only [Act.put, List.setIfInBounds_toArray, List.set_cons_zero, List.set_cons_succ, i64_w, i32_w]
                    rfl
                   refine join_ (σ := Nat) 2 #[true, true, true, true, true, true, true, true, true, true, true, false, false] (fun s_ => [(65, .tuple #[.agg #[.int .i16 t392, .int .i16 t393, .int .i16 t394, .int .i16 t395], .int .i64 t396]), (11, .pointer (some ⟨s_, 0, none⟩)), (58, .tuple #[.agg #[.int .i16 t392, .int .i16 t393, .int .i16 t394, .int .i16 t395], .int .i64 t396]), (66, .agg #[.int .i16 t392, .int .i16 t393, .int .i16 t394, .int .i16 t395]), (67, .int .i64 t396)]) (fun s_ w' => (w'.cell? ⟨gb390, 0, none⟩ = some (.int .i16 t386) ∧ w'.cell? ⟨gb390, 1, none⟩ = some (.int .i16 t387) ∧ w'.cell? ⟨gb390, 2, none⟩ = some (.int .i16 t388) ∧ w'.cell? ⟨gb390, 3, none⟩ = some (.int .i16 t389) ∧ w'.cell? (ad391.add ((x10_3).toNat * 3)) = some (.int .i8 ((rd_T60 t382 x10_3).f0)) ∧ w'.cell? ⟨(ad391.add ((x10_3).toNat * 3)).block, (ad391.add ((x10_3).toNat * 3)).off + 1, none⟩ = some (.int .i8 ((rd_T60 t382 x10_3).f1)) ∧ w'.cell? ⟨(ad391.add ((x10_3).toNat * 3)).block, (ad391.add ((x10_3).toNat * 3)).off + 2, none⟩ = some (.int .i8 ((rd_T60 t382 x10_3).f2))) ∧ (Kd.R k60 60 w' w.heap.size (fun _ => True) (.slice (some ad391) t382.length co33) t382) ∧ (w'.heap[gp0]? = some (.cells #[.slice A0_0 l0_0.length c0_0, .int .i16 x381001_3, .int .i16 x381002_3, .int .i16 x381003_3, .int .i16 x381004_3, .bool x381005_3] 32 (0, 0))) ∧ (w'.heap[gb390]? = some (.cells #[.int .i16 t386, .int .i16 t387, .int .i16 t388, .int .i16 t389] 30 (0, 0))) ∧ (w'.heap[s_]? = some (.cells #[.int .i16 0, .int .i16 0, .int .i16 0, .int .i16 0] 30 (0, 0))) ∧ (w.heap.size ≤ s_) ∧ (w.heap.size ≤ s_) ∧ (gp0 ≠ s_) ∧ (s_ ≠ gp0) ∧ (gb390 ≠ s_) ∧ (s_ ≠ gb390) ∧ (Below w.heap.size w w')) ?_ ?_
                   rotate_left
                   ·intro hCont
                    refine two_ (i := 6) (j := 10) (Ni := some 65) (Nj := some 11) #[true, true, true, true, true, true, true, false, false, false, false, false, false] #[true, true, true, true, true, true, false, false, false, false, true, false, false] rfl rfl rfl rfl (two_of HT_.out (by kernel_rfl)) (by decide) (by decide) (fun K hK => ?_) (fun K hK => ?_)
                    ·skip
                     refine goes_ Try.func85 (by kernel_rfl) rfl #[.pointer (some ⟨gp0, 0, none⟩), .agg #[.int .i16 t386, .int .i16 t387, .int .i16 t388, .int .i16 t389], .agg #[.int .i8 ((rd_T60 t382 x10_3).f0), .int .i8 ((rd_T60 t382 x10_3).f1), .int .i8 ((rd_T60 t382 x10_3).f2)]] (by rfl) rfl rfl arg_ ?_
                     with_reducible refine (spec_l02Move.calls kj18 gp0 A0_0 c0_0 l0_0 x381001_3 x381002_3 x381003_3 x381004_3 x381005_3 t386 t387 t388 t389 ((rd_T60 t382 x10_3).f0) ((rd_T60 t382 x10_3).f1) ((rd_T60 t382 x10_3).f2) t392 t393 t394 t395 t396 _ ?side1 ?side2 ?side3 A26.out).mono ?_
                     (case side1 => exact (pl_ BK380))
                     (case side2 => repeat (first | exact (Kd.C_below HR0_0.out HB.out) | (with_reducible refine Kd.C_alloc ?_ _) | (with_reducible refine Kd.C_drewN ?_ _) | (with_reducible refine Kd.C_drew ?_)))
                     (case side3 => exact HC0_0.out)
                     rintro e w34 ⟨rfl, hb⟩
                     have HS4_ := (hb.cell (World.block_lt_of_cell? _ _ (hHeld.2.2.2.2.1))).trans (hHeld.2.2.2.2.1)
                     have HS5_ := (hb.cell (World.block_lt_of_cell? _ _ (hHeld.2.2.2.2.2.1))).trans (hHeld.2.2.2.2.2.1)
                     have HS6_ := (hb.cell (World.block_lt_of_cell? _ _ (hHeld.2.2.2.2.2.2))).trans (hHeld.2.2.2.2.2.2)
                     refine ⟨_, rfl, ?_⟩
                     have n0_ := A_ (Kd.R_below (pr_ HO_6) hb)
                     have n1_ := A_ (blk_below (pl_ BK380) hb)
                     have n2_ := A_ (blk_below (pl_ BK390) hb)
                     have n3_ := A_ (below_step (bl_ HB) hb)
                     clear HO_6
                     clear BK380
                     clear BK390
                     clear HB
                     have HO_6 := n0_
                     have BK380 := n1_
                     have BK390 := n2_
                     have HB := n3_
                     clear n0_ n1_ n2_ n3_
                     (try clear hb)
                     (try clear hb2)
                     (try clear hk)
                     (try clear hi)
                     refine hK.out _ _ ⟨(blk_cell BK390.out 0).trans rfl, (blk_cell BK390.out 1).trans rfl, (blk_cell BK390.out 2).trans rfl, (blk_cell BK390.out 3).trans rfl, HS4_, HS5_, HS6_⟩ (fun hHeld => ?_)
                     clear hK K
                     refine norm_ (a' := ?_) ?_ ?_
                     rotate_left
                     ·show Act.put _ (some 65) _ = _
                      simp only [Act.put, List.setIfInBounds_toArray, List.set_cons_zero, List.set_cons_succ, i64_w, i32_w]
                      rfl
                     refine pure_ (i := 7) (N := some 58) (v := ?_) (a' := ?_) #[true, true, true, true, true, true, true, true, false, false, false, false, false] rfl rfl (any_of HT_.out (by kernel_rfl)) (fun _ _ _ h => h) (Or.inl ⟨by rfl, ?_⟩) ?_ ?_
                     rotate_left
                     ·intro w'
                      go_simp
                      with_reducible rfl
                     rotate_left
                     ·simp only [Act.put, List.setIfInBounds_toArray, List.set_cons_zero, List.set_cons_succ, i64_w, i32_w]
                      rfl
                     refine pure_ (i := 8) (N := some 66) (v := ?_) (a' := ?_) #[true, true, true, true, true, true, true, true, true, false, false, false, false] rfl rfl (any_of HT_.out (by kernel_rfl)) (fun _ _ _ h => h) (Or.inl ⟨by rfl, ?_⟩) ?_ ?_
                     rotate_left
                     ·intro w'
                      go_simp
                      with_reducible rfl
                     rotate_left
                     ·simp only [Act.put, List.setIfInBounds_toArray, List.set_cons_zero, List.set_cons_succ, i64_w, i32_w]
                      rfl
                     refine pure_ (i := 9) (N := some 67) (v := ?_) (a' := ?_) #[true, true, true, true, true, true, true, true, true, true, false, false, false] rfl rfl (any_of HT_.out (by kernel_rfl)) (fun _ _ _ h => h) (Or.inl ⟨by rfl, ?_⟩) ?_ ?_
                     rotate_left
                     ·intro w'
                      go_simp
                      with_reducible rfl
                     rotate_left
                     ·simp only [Act.put, List.setIfInBounds_toArray, List.set_cons_zero, List.set_cons_succ, i64_w, i32_w]
                      rfl
                     refine one_ (i := 10) (N := some 11) #[true, true, true, true, true, true, true, true, true, true, true, false, false] rfl rfl (one_of HT_.out (by kernel_rfl)) (by decide) (fun K hK => ?_)
                     refine box_step ?hg (N := 11) ?hd (cs := #[.int .i16 0, .int .i16 0, .int .i16 0, .int .i16 0]) (t := 30) ?hr ?_; (case hd => rfl); (case hg => rfl); (case hr => first | (go_simp; done) | (go_simp; rfl))
                     intro gb397 hg w35 hbox hb
                     have HS4_ := (hb.cell (World.block_lt_of_cell? _ _ (hHeld.2.2.2.2.1))).trans (hHeld.2.2.2.2.1)
                     have HS5_ := (hb.cell (World.block_lt_of_cell? _ _ (hHeld.2.2.2.2.2.1))).trans (hHeld.2.2.2.2.2.1)
                     have HS6_ := (hb.cell (World.block_lt_of_cell? _ _ (hHeld.2.2.2.2.2.2))).trans (hHeld.2.2.2.2.2.2)
                     have n0_ := A_ (Kd.R_below (pr_ HO_6) hb)
                     have n1_ := A_ (blk_below (pl_ BK380) hb)
                     have n2_ := A_ (blk_below (pl_ BK390) hb)
                     have n3_ := A_ (below_step (bl_ HB) hb)
                     have n4_ := A_ (hbox)
                     have n5_ := A_ ((by rw [hg]; exact (below_size (bl_ HB)) : w.heap.size ≤ gb397))
                     have n6_ := n5_
                     have n7_ := A_ ((by rw [hg]; exact Nat.ne_of_lt (blk_lt (pl_ BK380)) : gp0 ≠ gb397))
                     have n8_ := Aside0.mk n7_.out.symm
                     have n9_ := A_ ((by rw [hg]; exact Nat.ne_of_lt (blk_lt (pl_ BK390)) : gb390 ≠ gb397))
                     have n10_ := Aside0.mk n9_.out.symm
                     clear HO_6
                     clear BK380
                     clear BK390
                     clear HB
                     have HO_6 := n0_
                     have BK380 := n1_
                     have BK390 := n2_
                     have HB := n3_
                     have BK397 := n4_
                     have GW397 := n5_
                     have GE397 := n6_
                     have NB380_397 := n7_
                     have NB397_380 := n8_
                     have NB390_397 := n9_
                     have NB397_390 := n10_
                     clear n0_ n1_ n2_ n3_ n4_ n5_ n6_ n7_ n8_ n9_ n10_
                     clear hb hbox hg
                     refine hK.out _ _ ⟨(blk_cell BK390.out 0).trans rfl, (blk_cell BK390.out 1).trans rfl, (blk_cell BK390.out 2).trans rfl, (blk_cell BK390.out 3).trans rfl, HS4_, HS5_, HS6_⟩ (fun hHeld => ?_)
                     clear hK K
                     refine norm_ (a' := ?_) ?_ ?_
                     rotate_left
                     ·show Act.put _ (some 11) _ = _
                      simp only [Act.put, List.setIfInBounds_toArray, List.set_cons_zero, List.set_cons_succ, i64_w, i32_w]
                      rfl
                     exact norm_ pa_ (hCont (gb397) _ ⟨hHeld, (pr_ HO_6), (pl_ BK380), (pl_ BK390), (pl_ BK397), GW397.out, GE397.out, NB380_397.out, NB397_380.out, NB390_397.out, NB397_390.out, (bl_ HB)⟩)
                    ·skip
                     refine box_step ?hg (N := 11) ?hd (cs := #[.int .i16 0, .int .i16 0, .int .i16 0, .int .i16 0]) (t := 30) ?hr ?_; (case hd => rfl); (case hg => rfl); (case hr => first | (go_simp; done) | (go_simp; rfl))
                     intro gb397 hg w34 hbox hb
                     have HS4_ := (hb.cell (World.block_lt_of_cell? _ _ (hHeld.2.2.2.2.1))).trans (hHeld.2.2.2.2.1)
                     have HS5_ := (hb.cell (World.block_lt_of_cell? _ _ (hHeld.2.2.2.2.2.1))).trans (hHeld.2.2.2.2.2.1)
                     have HS6_ := (hb.cell (World.block_lt_of_cell? _ _ (hHeld.2.2.2.2.2.2))).trans (hHeld.2.2.2.2.2.2)
                     have n0_ := A_ (Kd.R_below (pr_ HO_6) hb)
                     have n1_ := A_ (blk_below (pl_ BK380) hb)
                     have n2_ := A_ (blk_below (pl_ BK390) hb)
                     have n3_ := A_ (below_step (bl_ HB) hb)
                     have n4_ := A_ (hbox)
                     have n5_ := A_ ((by rw [hg]; exact (below_size (bl_ HB)) : w.heap.size ≤ gb397))
                     have n6_ := n5_
                     have n7_ := A_ ((by rw [hg]; exact Nat.ne_of_lt (blk_lt (pl_ BK380)) : gp0 ≠ gb397))
                     have n8_ := Aside0.mk n7_.out.symm
                     have n9_ := A_ ((by rw [hg]; exact Nat.ne_of_lt (blk_lt (pl_ BK390)) : gb390 ≠ gb397))
                     have n10_ := Aside0.mk n9_.out.symm
                     clear HO_6
                     clear BK380
                     clear BK390
                     clear HB
                     have HO_6 := n0_
                     have BK380 := n1_
                     have BK390 := n2_
                     have HB := n3_
                     have BK397 := n4_
                     have GW397 := n5_
                     have GE397 := n6_
                     have NB380_397 := n7_
                     have NB397_380 := n8_
                     have NB390_397 := n9_
                     have NB397_390 := n10_
                     clear n0_ n1_ n2_ n3_ n4_ n5_ n6_ n7_ n8_ n9_ n10_
                     clear hb hbox hg
                     refine hK.out _ _ ⟨(blk_cell BK390.out 0).trans rfl, (blk_cell BK390.out 1).trans rfl, (blk_cell BK390.out 2).trans rfl, (blk_cell BK390.out 3).trans rfl, HS4_, HS5_, HS6_⟩ (fun hHeld => ?_)
                     clear hK K
                     refine norm_ (a' := ?_) ?_ ?_
                     rotate_left
                     ·show Act.put _ (some 11) _ = _
                      simp only [Act.put, List.setIfInBounds_toArray, List.set_cons_zero, List.set_cons_succ, i64_w, i32_w]
                      rfl
                     refine one_ (i := 6) (N := some 65) #[true, true, true, true, true, true, true, false, false, false, true, false, false] rfl rfl (one_of HT_.out (by kernel_rfl)) (by decide) (fun K hK => ?_)
                     refine goes_ Try.func85 (by kernel_rfl) rfl #[.pointer (some ⟨gp0, 0, none⟩), .agg #[.int .i16 t386, .int .i16 t387, .int .i16 t388, .int .i16 t389], .agg #[.int .i8 ((rd_T60 t382 x10_3).f0), .int .i8 ((rd_T60 t382 x10_3).f1), .int .i8 ((rd_T60 t382 x10_3).f2)]] (by rfl) rfl rfl arg_ ?_
                     with_reducible refine (spec_l02Move.calls kj18 gp0 A0_0 c0_0 l0_0 x381001_3 x381002_3 x381003_3 x381004_3 x381005_3 t386 t387 t388 t389 ((rd_T60 t382 x10_3).f0) ((rd_T60 t382 x10_3).f1) ((rd_T60 t382 x10_3).f2) t392 t393 t394 t395 t396 _ ?side1 ?side2 ?side3 A26.out).mono ?_
                     (case side1 => exact (pl_ BK380))
                     (case side2 => repeat (first | exact (Kd.C_below HR0_0.out HB.out) | (with_reducible refine Kd.C_alloc ?_ _) | (with_reducible refine Kd.C_drewN ?_ _) | (with_reducible refine Kd.C_drew ?_)))
                     (case side3 => exact HC0_0.out)
                     rintro e w35 ⟨rfl, hb⟩
                     have HS4_ := (hb.cell (World.block_lt_of_cell? _ _ (hHeld.2.2.2.2.1))).trans (hHeld.2.2.2.2.1)
                     have HS5_ := (hb.cell (World.block_lt_of_cell? _ _ (hHeld.2.2.2.2.2.1))).trans (hHeld.2.2.2.2.2.1)
                     have HS6_ := (hb.cell (World.block_lt_of_cell? _ _ (hHeld.2.2.2.2.2.2))).trans (hHeld.2.2.2.2.2.2)
                     refine ⟨_, rfl, ?_⟩
                     have n0_ := A_ (Kd.R_below (pr_ HO_6) hb)
                     have n1_ := A_ (blk_below (pl_ BK380) hb)
                     have n2_ := A_ (blk_below (pl_ BK390) hb)
                     have n3_ := A_ (blk_below (pl_ BK397) hb)
                     have n4_ := A_ (below_step (bl_ HB) hb)
                     clear HO_6
                     clear BK380
                     clear BK390
                     clear BK397
                     clear HB
                     have HO_6 := n0_
                     have BK380 := n1_
                     have BK390 := n2_
                     have BK397 := n3_
                     have HB := n4_
                     clear n0_ n1_ n2_ n3_ n4_
                     (try clear hb)
                     (try clear hb2)
                     (try clear hk)
                     (try clear hi)
                     refine hK.out _ _ ⟨(blk_cell BK390.out 0).trans rfl, (blk_cell BK390.out 1).trans rfl, (blk_cell BK390.out 2).trans rfl, (blk_cell BK390.out 3).trans rfl, HS4_, HS5_, HS6_⟩ (fun hHeld => ?_)
                     clear hK K
                     refine norm_ (a' := ?_) ?_ ?_
                     rotate_left
                     ·show Act.put _ (some 65) _ = _
                      simp only [Act.put, List.setIfInBounds_toArray, List.set_cons_zero, List.set_cons_succ, i64_w, i32_w]
                      rfl
                     refine pure_ (i := 7) (N := some 58) (v := ?_) (a' := ?_) #[true, true, true, true, true, true, true, true, false, false, true, false, false] rfl rfl (any_of HT_.out (by kernel_rfl)) (fun _ _ _ h => h) (Or.inl ⟨by rfl, ?_⟩) ?_ ?_
                     rotate_left
                     ·intro w'
                      go_simp
                      with_reducible rfl
                     rotate_left
                     ·simp only [Act.put, List.setIfInBounds_toArray, List.set_cons_zero, List.set_cons_succ, i64_w, i32_w]
                      rfl
                     refine pure_ (i := 8) (N := some 66) (v := ?_) (a' := ?_) #[true, true, true, true, true, true, true, true, true, false, true, false, false] rfl rfl (any_of HT_.out (by kernel_rfl)) (fun _ _ _ h => h) (Or.inl ⟨by rfl, ?_⟩) ?_ ?_
                     rotate_left
                     ·intro w'
                      go_simp
                      with_reducible rfl
                     rotate_left
                     ·simp only [Act.put, List.setIfInBounds_toArray, List.set_cons_zero, List.set_cons_succ, i64_w, i32_w]
                      rfl
                     refine pure_ (i := 9) (N := some 67) (v := ?_) (a' := ?_) #[true, true, true, true, true, true, true, true, true, true, true, false, false] rfl rfl (any_of HT_.out (by kernel_rfl)) (fun _ _ _ h => h) (Or.inl ⟨by rfl, ?_⟩) ?_ ?_
                     rotate_left
                     ·intro w'
                      go_simp
                      with_reducible rfl
                     rotate_left
                     ·simp only [Act.put, List.setIfInBounds_toArray, List.set_cons_zero, List.set_cons_succ, i64_w, i32_w]
                      rfl
                     exact norm_ pa_ (hCont (gb397) _ ⟨hHeld, (pr_ HO_6), (pl_ BK380), (pl_ BK390), (pl_ BK397), GW397.out, GE397.out, NB380_397.out, NB397_380.out, NB390_397.out, NB397_390.out, (bl_ HB)⟩)
                   rintro gb397 w36 ⟨hS_, h0_, h1_, h2_, h3_, h4_, h5_, h6_, h7_, h8_, h9_, h10_⟩
                   have n0_ : Aside0 (Kd.R k60 60 w36 w.heap.size (fun _ => True) (.slice (some ad391) t382.length co33) t382) := ⟨h0_⟩
                   have n1_ : Aside0 (w36.heap[gp0]? = some (.cells #[.slice A0_0 l0_0.length c0_0, .int .i16 x381001_3, .int .i16 x381002_3, .int .i16 x381003_3, .int .i16 x381004_3, .bool x381005_3] 32 (0, 0))) := ⟨h1_⟩
                   have n2_ : Aside0 (w36.heap[gb390]? = some (.cells #[.int .i16 t386, .int .i16 t387, .int .i16 t388, .int .i16 t389] 30 (0, 0))) := ⟨h2_⟩
                   have n3_ : Aside0 (w36.heap[gb397]? = some (.cells #[.int .i16 0, .int .i16 0, .int .i16 0, .int .i16 0] 30 (0, 0))) := ⟨h3_⟩
                   have n4_ : Aside0 (w.heap.size ≤ gb397) := ⟨h4_⟩
                   have n5_ : Aside0 (w.heap.size ≤ gb397) := ⟨h5_⟩
                   have n6_ : Aside0 (gp0 ≠ gb397) := ⟨h6_⟩
                   have n7_ : Aside0 (gb397 ≠ gp0) := ⟨h7_⟩
                   have n8_ : Aside0 (gb390 ≠ gb397) := ⟨h8_⟩
                   have n9_ : Aside0 (gb397 ≠ gb390) := ⟨h9_⟩
                   have n10_ : Aside0 (Below w.heap.size w w36) := ⟨h10_⟩
                   clear HO_6
                   clear BK380
                   clear BK390
                   clear HB
                   clear h0_ h1_ h2_ h3_ h4_ h5_ h6_ h7_ h8_ h9_ h10_
                   have HO_6 := n0_
                   have BK380 := n1_
                   have BK390 := n2_
                   have BK397 := n3_
                   have GW397 := n4_
                   have GE397 := n5_
                   have NB380_397 := n6_
                   have NB397_380 := n7_
                   have NB390_397 := n8_
                   have NB397_390 := n9_
                   have HB := n10_
                   clear n0_ n1_ n2_ n3_ n4_ n5_ n6_ n7_ n8_ n9_ n10_
                   have hHeld : w36.cell? ⟨gb390, 0, none⟩ = some (.int .i16 t386) ∧ w36.cell? ⟨gb390, 1, none⟩ = some (.int .i16 t387) ∧ w36.cell? ⟨gb390, 2, none⟩ = some (.int .i16 t388) ∧ w36.cell? ⟨gb390, 3, none⟩ = some (.int .i16 t389) ∧ w36.cell? (ad391.add ((x10_3).toNat * 3)) = some (.int .i8 ((rd_T60 t382 x10_3).f0)) ∧ w36.cell? ⟨(ad391.add ((x10_3).toNat * 3)).block, (ad391.add ((x10_3).toNat * 3)).off + 1, none⟩ = some (.int .i8 ((rd_T60 t382 x10_3).f1)) ∧ w36.cell? ⟨(ad391.add ((x10_3).toNat * 3)).block, (ad391.add ((x10_3).toNat * 3)).off + 2, none⟩ = some (.int .i8 ((rd_T60 t382 x10_3).f2)) := hS_
                   refine norm_ (a' := ?_) ?_ ?_
                   rotate_left
                   ·simp only [putAll, Act.put, List.setIfInBounds_toArray, List.set_cons_zero, List.set_cons_succ]
                    rfl
                   refine one_ (i := 11) (N := none) #[true, true, true, true, true, true, true, true, true, true, true, true, false] rfl rfl (one_of HT_.out (by kernel_rfl)) (by decide) (fun K hK => ?_)
                   have hs37 : w36.cell? ⟨gb397, 0, none⟩ = some (.int .i16 0) := (blk_cell BK397.out 0).trans rfl
                   have hfs37 := blk_frozen BK397.out 0
                   have hns37_0 := NB380_397.out
                   have hns37_1 := NB390_397.out
                   have hms37_0 := NB397_380.out
                   have hms37_1 := NB397_390.out
                   have hs38 : w36.cell? ⟨gb397, 1, none⟩ = some (.int .i16 0) := (blk_cell BK397.out 1).trans rfl
                   have hfs38 := blk_frozen BK397.out 1
                   have hns38_0 := NB380_397.out
                   have hns38_1 := NB390_397.out
                   have hms38_0 := NB397_380.out
                   have hms38_1 := NB397_390.out
                   have hs39 : w36.cell? ⟨gb397, 2, none⟩ = some (.int .i16 0) := (blk_cell BK397.out 2).trans rfl
                   have hfs39 := blk_frozen BK397.out 2
                   have hns39_0 := NB380_397.out
                   have hns39_1 := NB390_397.out
                   have hms39_0 := NB397_380.out
                   have hms39_1 := NB397_390.out
                   have hs40 : w36.cell? ⟨gb397, 3, none⟩ = some (.int .i16 0) := (blk_cell BK397.out 3).trans rfl
                   have hfs40 := blk_frozen BK397.out 3
                   have hns40_0 := NB380_397.out
                   have hns40_1 := NB390_397.out
                   have hms40_0 := NB397_380.out
                   have hms40_1 := NB397_390.out
                   refine skip_ (w1 := ?_) (by rfl) rfl ?_ ?_
                   rotate_left
                   ·go_simp
                    rfl
                   refine hK.out _ _ ⟨((cell_far (p := ⟨gb397, _, none⟩) NB390_397.out _).trans ((cf3_ NB390_397 (hHeld.1)))), ((cell_far (p := ⟨gb397, _, none⟩) NB390_397.out _).trans ((cf3_ NB390_397 (hHeld.2.1)))), ((cell_far (p := ⟨gb397, _, none⟩) NB390_397.out _).trans ((cf3_ NB390_397 (hHeld.2.2.1)))), ((cell_far (p := ⟨gb397, _, none⟩) NB390_397.out _).trans ((cf3_ NB390_397 (hHeld.2.2.2.1)))), ((cell_far (p := ⟨gb397, _, none⟩) (by first | exact Kd.own_blk (Kd.R_ne HO_6.out BK397.out (by decide)) | (rw [add_block]; exact Kd.own_blk (Kd.R_ne HO_6.out BK397.out (by decide))) | (show (Addr.add _ _).block ≠ _; rw [add_block]; exact Kd.own_blk (Kd.R_ne HO_6.out BK397.out (by decide))) | (dsimp only; exact Kd.own_blk (Kd.R_ne HO_6.out BK397.out (by decide)))) _).trans (((cell_far (p := ⟨gb397, _, none⟩) (by first | exact Kd.own_blk (Kd.R_ne HO_6.out BK397.out (by decide)) | (rw [add_block]; exact Kd.own_blk (Kd.R_ne HO_6.out BK397.out (by decide))) | (show (Addr.add _ _).block ≠ _; rw [add_block]; exact Kd.own_blk (Kd.R_ne HO_6.out BK397.out (by decide))) | (dsimp only; exact Kd.own_blk (Kd.R_ne HO_6.out BK397.out (by decide)))) _).trans (((cell_far (p := ⟨gb397, _, none⟩) (by first | exact Kd.own_blk (Kd.R_ne HO_6.out BK397.out (by decide)) | (rw [add_block]; exact Kd.own_blk (Kd.R_ne HO_6.out BK397.out (by decide))) | (show (Addr.add _ _).block ≠ _; rw [add_block]; exact Kd.own_blk (Kd.R_ne HO_6.out BK397.out (by decide))) | (dsimp only; exact Kd.own_blk (Kd.R_ne HO_6.out BK397.out (by decide)))) _).trans (((cell_far (p := ⟨gb397, _, none⟩) (by first | exact Kd.own_blk (Kd.R_ne HO_6.out BK397.out (by decide)) | (rw [add_block]; exact Kd.own_blk (Kd.R_ne HO_6.out BK397.out (by decide))) | (show (Addr.add _ _).block ≠ _; rw [add_block]; exact Kd.own_blk (Kd.R_ne HO_6.out BK397.out (by decide))) | (dsimp only; exact Kd.own_blk (Kd.R_ne HO_6.out BK397.out (by decide)))) _).trans (hHeld.2.2.2.2.1)))))))), ((cell_far (p := ⟨gb397, _, none⟩) (by first | exact Kd.own_blk (Kd.R_ne HO_6.out BK397.out (by decide)) | (rw [add_block]; exact Kd.own_blk (Kd.R_ne HO_6.out BK397.out (by decide))) | (show (Addr.add _ _).block ≠ _; rw [add_block]; exact Kd.own_blk (Kd.R_ne HO_6.out BK397.out (by decide))) | (dsimp only; exact Kd.own_blk (Kd.R_ne HO_6.out BK397.out (by decide)))) _).trans (((cell_far (p := ⟨gb397, _, none⟩) (by first | exact Kd.own_blk (Kd.R_ne HO_6.out BK397.out (by decide)) | (rw [add_block]; exact Kd.own_blk (Kd.R_ne HO_6.out BK397.out (by decide))) | (show (Addr.add _ _).block ≠ _; rw [add_block]; exact Kd.own_blk (Kd.R_ne HO_6.out BK397.out (by decide))) | (dsimp only; exact Kd.own_blk (Kd.R_ne HO_6.out BK397.out (by decide)))) _).trans (((cell_far (p := ⟨gb397, _, none⟩) (by first | exact Kd.own_blk (Kd.R_ne HO_6.out BK397.out (by decide)) | (rw [add_block]; exact Kd.own_blk (Kd.R_ne HO_6.out BK397.out (by decide))) | (show (Addr.add _ _).block ≠ _; rw [add_block]; exact Kd.own_blk (Kd.R_ne HO_6.out BK397.out (by decide))) | (dsimp only; exact Kd.own_blk (Kd.R_ne HO_6.out BK397.out (by decide)))) _).trans (((cell_far (p := ⟨gb397, _, none⟩) (by first | exact Kd.own_blk (Kd.R_ne HO_6.out BK397.out (by decide)) | (rw [add_block]; exact Kd.own_blk (Kd.R_ne HO_6.out BK397.out (by decide))) | (show (Addr.add _ _).block ≠ _; rw [add_block]; exact Kd.own_blk (Kd.R_ne HO_6.out BK397.out (by decide))) | (dsimp only; exact Kd.own_blk (Kd.R_ne HO_6.out BK397.out (by decide)))) _).trans (hHeld.2.2.2.2.2.1)))))))), ((cell_far (p := ⟨gb397, _, none⟩) (by first | exact Kd.own_blk (Kd.R_ne HO_6.out BK397.out (by decide)) | (rw [add_block]; exact Kd.own_blk (Kd.R_ne HO_6.out BK397.out (by decide))) | (show (Addr.add _ _).block ≠ _; rw [add_block]; exact Kd.own_blk (Kd.R_ne HO_6.out BK397.out (by decide))) | (dsimp only; exact Kd.own_blk (Kd.R_ne HO_6.out BK397.out (by decide)))) _).trans (((cell_far (p := ⟨gb397, _, none⟩) (by first | exact Kd.own_blk (Kd.R_ne HO_6.out BK397.out (by decide)) | (rw [add_block]; exact Kd.own_blk (Kd.R_ne HO_6.out BK397.out (by decide))) | (show (Addr.add _ _).block ≠ _; rw [add_block]; exact Kd.own_blk (Kd.R_ne HO_6.out BK397.out (by decide))) | (dsimp only; exact Kd.own_blk (Kd.R_ne HO_6.out BK397.out (by decide)))) _).trans (((cell_far (p := ⟨gb397, _, none⟩) (by first | exact Kd.own_blk (Kd.R_ne HO_6.out BK397.out (by decide)) | (rw [add_block]; exact Kd.own_blk (Kd.R_ne HO_6.out BK397.out (by decide))) | (show (Addr.add _ _).block ≠ _; rw [add_block]; exact Kd.own_blk (Kd.R_ne HO_6.out BK397.out (by decide))) | (dsimp only; exact Kd.own_blk (Kd.R_ne HO_6.out BK397.out (by decide)))) _).trans (((cell_far (p := ⟨gb397, _, none⟩) (by first | exact Kd.own_blk (Kd.R_ne HO_6.out BK397.out (by decide)) | (rw [add_block]; exact Kd.own_blk (Kd.R_ne HO_6.out BK397.out (by decide))) | (show (Addr.add _ _).block ≠ _; rw [add_block]; exact Kd.own_blk (Kd.R_ne HO_6.out BK397.out (by decide))) | (dsimp only; exact Kd.own_blk (Kd.R_ne HO_6.out BK397.out (by decide)))) _).trans (hHeld.2.2.2.2.2.2))))))))⟩ (fun hHeld => ?_)
                   clear hK K
                   refine pure_ (i := 12) (N := some 12) (v := ?_) (a' := ?_) #[true, true, true, true, true, true, true, true, true, true, true, true, true] rfl rfl (any_of HT_.out (by kernel_rfl)) (fun _ _ _ h => h) (Or.inl ⟨by rfl, ?_⟩) ?_ ?_
                   rotate_left
                   ·intro w'
                    go_simp
                    with_reducible rfl
                   rotate_left
                   ·simp only [Act.put, List.setIfInBounds_toArray, List.set_cons_zero, List.set_cons_succ, i64_w, i32_w]
                    rfl
                   refine done_ (done_of HT_.out (by kernel_rfl)) ?_
                   have hnb41 := NB397_380.out
                   have hnc41 := NB380_397.out
                   have hnb42 := NB397_390.out
                   have hnc42 := NB390_397.out
                   have hcz43_0 : w36.cell? ⟨gb397, 0, none⟩ = some (.int .i16 0) := (blk_cell BK397.out 0).trans rfl
                   have hcz43_1 : w36.cell? ⟨gb397, 1, none⟩ = some (.int .i16 0) := (blk_cell BK397.out 1).trans rfl
                   have hcz43_2 : w36.cell? ⟨gb397, 2, none⟩ = some (.int .i16 0) := (blk_cell BK397.out 2).trans rfl
                   have hcz43_3 : w36.cell? ⟨gb397, 3, none⟩ = some (.int .i16 0) := (blk_cell BK397.out 3).trans rfl
                   have hfz43_0 := blk_frozen BK397.out 0
                   have hfz43_1 := blk_frozen BK397.out 1
                   have hfz43_2 := blk_frozen BK397.out 2
                   have hfz43_3 := blk_frozen BK397.out 3
                   try go_wp2_with (first | ((with_reducible refine gate_callee (f := 78) rfl ?_); refine goesL_ (some 73) rfl rfl Try.func78 (by kernel_rfl) rfl #[.pointer (some ⟨gp0, 0, none⟩), .agg #[.int .i16 t392, .int .i16 t393, .int .i16 t394, .int .i16 t395]] rfl arg_ ?_; (with_reducible refine (spec_l02Index.calls kj18 gp0 A0_0 c0_0 l0_0 x381001_3 x381002_3 x381003_3 x381004_3 x381005_3 t392 t393 t394 t395 t398 _ ?side1 ?side2 ?side3 A28.out).mono ?_); (case side1 => exact (pf_ BK380 NB380_397)); (case side2 => exact Kd.C_below HR0_0.out (bs_ HB GE397)); (case side3 => exact HC0_0.out); rintro e w44 ⟨rfl, hb⟩; refine ⟨_, rfl, ?_⟩; have n0_ := A_ (Kd.R_below (by (with_reducible repeat (first | apply Kd.R_alloc | apply Kd.R_drewN | apply Kd.R_drew)); exact (rf4_ HO_6 BK397 (by decide))) hb); have n1_ := A_ (blk_below (g := gp0) (o := .cells #[.slice A0_0 l0_0.length c0_0, .int .i16 x381001_3, .int .i16 x381002_3, .int .i16 x381003_3, .int .i16 x381004_3, .bool x381005_3] 32 (0, 0)) (pf_ BK380 NB380_397) hb); have n2_ := A_ (blk_below (g := gb390) (o := .cells #[.int .i16 t386, .int .i16 t387, .int .i16 t388, .int .i16 t389] 30 (0, 0)) (pf_ BK390 NB390_397) hb); have n3_ := A_ (blk_below (g := gb397) (o := .cells #[.int .i16 t392, .int .i16 t393, .int .i16 t394, .int .i16 t395] 30 (0, 0)) (by (with_reducible repeat (first | refine blk_drewN ?_ _ | refine blk_drew ?_ | refine blk_alloc ?_ _)); refine blk_put (cs := #[.int .i16 t392, .int .i16 t393, .int .i16 t394, .int .i16 0]) ?_ 3 _ rfl; (with_reducible repeat (first | refine blk_drewN ?_ _ | refine blk_drew ?_ | refine blk_alloc ?_ _)); refine blk_put (cs := #[.int .i16 t392, .int .i16 t393, .int .i16 0, .int .i16 0]) ?_ 2 _ rfl; (with_reducible repeat (first | refine blk_drewN ?_ _ | refine blk_drew ?_ | refine blk_alloc ?_ _)); refine blk_put (cs := #[.int .i16 t392, .int .i16 0, .int .i16 0, .int .i16 0]) ?_ 1 _ rfl; (with_reducible repeat (first | refine blk_drewN ?_ _ | refine blk_drew ?_ | refine blk_alloc ?_ _)); refine blk_put (cs := #[.int .i16 0, .int .i16 0, .int .i16 0, .int .i16 0]) ?_ 0 _ rfl; (with_reducible repeat (first | refine blk_drewN ?_ _ | refine blk_drew ?_ | refine blk_alloc ?_ _)); exact BK397.out) hb); have n4_ := A_ (below_step (bs_ HB GE397) hb); clear HO_6; clear BK380; clear BK390; clear BK397; clear HB; have HO_6 := n0_; have BK380 := n1_; have BK390 := n2_; have BK397 := n3_; have HB := n4_; clear n0_ n1_ n2_ n3_ n4_; (try clear hb); (try clear hb2); (try clear hk); (try clear hi); have p399 : 0 ≤ (t398 : Int) := asm_; have q399 : t398 < (l1.length : Int) := asm_; obtain ⟨ad399, e399, hx399_0⟩ := Kd.at_int HR1.out t398 p399 q399; obtain rfl : ad385 = ad399 := (by injection e399); (try replace hx399_0 := (HB.out.cell (World.block_lt_of_cell? w _ hx399_0)).trans hx399_0); replace p399 := eq_true p399; replace q399 := eq_true q399))
                   go_ret
                   exact ⟨by first | rfl | (simp [errW_none, errW_some] <;> rfl) | (simp [*, errW_none, errW_some] <;> rfl), bl_ HB⟩
                  ·rw [if_neg c31] at H
                   have c31b0 : ((wrap64 (rd l1 t398)) == (-1)) = false := beq_eq_false_iff_ne.mpr c31
                   have c31b1 : ((wrap64 (rd l1 t398)) != (-1)) = true := bne_iff_ne.mpr c31
                   by_cases c45 : (wrap64 (rd l1 t398)) > (wrap64 ((wrap64 (rd l1 x7_1)) + 1))
                   ·rw [if_pos c45] at H
                    have c45b0 : decide ((wrap64 ((wrap64 (rd l1 x7_1)) + 1)) < (wrap64 (rd l1 t398))) = true := decide_eq_true c45
                    clear c45
                    obtain rfl := Option.some.inj H
                    try go_wp2
                    have n0_ := A_ (Kd.R_drew HO_6.out)
                    have n1_ := A_ (blk_drew BK380.out)
                    have n2_ := A_ (blk_drew BK390.out)
                    have n3_ := A_ (below_drew1 HB.out)
                    clear HO_6
                    clear BK380
                    clear BK390
                    clear HB
                    have HO_6 := n0_
                    have BK380 := n1_
                    have BK390 := n2_
                    have HB := n3_
                    clear n0_ n1_ n2_ n3_
                    obtain ⟨Ao47, co47, eo47⟩ := Kd.R_slice HO_6.out
                    (first | subst eo47 | (injection eo47 with f1_ f2_ f3_; have f4_ := f1_.symm; have f5_ := f3_.symm; clear f1_ f2_ f3_; subst f4_; subst f5_))
                    have p391 : 0 ≤ (x10_3 : Int) := asm_
                    have q391 : x10_3 < (t382.length : Int) := asm_
                    obtain ⟨ad391, e391, hx391_0, hx391_1, hx391_2⟩ := at_T60 (Kd.R_reads' HO_6.out).2.2 x10_3 p391 q391
                    cases e391
                    replace p391 := eq_true p391
                    replace q391 := eq_true q391
                    refine start_ (n := 13) (S := fun w' => w'.cell? ⟨gb390, 0, none⟩ = some (.int .i16 t386) ∧ w'.cell? ⟨gb390, 1, none⟩ = some (.int .i16 t387) ∧ w'.cell? ⟨gb390, 2, none⟩ = some (.int .i16 t388) ∧ w'.cell? ⟨gb390, 3, none⟩ = some (.int .i16 t389) ∧ w'.cell? (ad391.add ((x10_3).toNat * 3)) = some (.int .i8 ((rd_T60 t382 x10_3).f0)) ∧ w'.cell? ⟨(ad391.add ((x10_3).toNat * 3)).block, (ad391.add ((x10_3).toNat * 3)).off + 1, none⟩ = some (.int .i8 ((rd_T60 t382 x10_3).f1)) ∧ w'.cell? ⟨(ad391.add ((x10_3).toNat * 3)).block, (ad391.add ((x10_3).toNat * 3)).off + 2, none⟩ = some (.int .i8 ((rd_T60 t382 x10_3).f2))) (ds := []) #[false, false, false, false, false, false, false, false, false, false, false, false, false] (by kernel_rfl) rfl rfl ⟨(blk_cell BK390.out 0).trans rfl, (blk_cell BK390.out 1).trans rfl, (blk_cell BK390.out 2).trans rfl, (blk_cell BK390.out 3).trans rfl, hx391_0, hx391_1, hx391_2⟩ (fun hHeld => ?_); refine with_tabW spec_l02Broken.tab13 spec_l02Broken.bits13 (fun HT_ HW_ => ?_)
                    generalize wc.drew = w46 at HO_6 BK380 BK390 HB hx391_0 hx391_1 hx391_2 hHeld ⊢
                    refine pure_ (i := 0) (N := some 59) (v := ?_) (a' := ?_) #[true, false, false, false, false, false, false, false, false, false, false, false, false] rfl rfl (any_of HT_.out (by kernel_rfl)) (fun _ _ _ h => h) (Or.inl ⟨by rfl, ?_⟩) ?_ ?_
                    rotate_left
                    ·intro w'
                     go_simp
                     with_reducible rfl
                    rotate_left
                    ·simp only [Act.put, List.setIfInBounds_toArray, List.set_cons_zero, List.set_cons_succ, i64_w, i32_w]
                     rfl
                    refine pure_ (i := 2) (N := some 61) (v := ?_) (a' := ?_) #[true, false, true, false, false, false, false, false, false, false, false, false, false] rfl rfl (any_of HT_.out (by kernel_rfl)) (fun _ _ _ h => h) (Or.inl ⟨by rfl, ?_⟩) ?_ ?_
                    rotate_left
                    ·intro w'
                     go_simp
                     with_reducible rfl
                    rotate_left
                    ·simp only [Act.put, List.setIfInBounds_toArray, List.set_cons_zero, List.set_cons_succ, i64_w, i32_w]
                     rfl
                    refine pure_ (i := 3) (N := some 62) (v := ?_) (a' := ?_) #[true, false, true, true, false, false, false, false, false, false, false, false, false] rfl rfl (any_of HT_.out (by kernel_rfl)) (fun _ _ _ h => h) (Or.inl ⟨by rfl, ?_⟩) ?_ ?_
                    rotate_left
                    ·intro w'
                     go_simp
                     with_reducible rfl
                    rotate_left
                    ·simp only [Act.put, List.setIfInBounds_toArray, List.set_cons_zero, List.set_cons_succ, i64_w, i32_w]
                     rfl
                    refine pure_ (i := 4) (N := some 63) (v := ?_) (a' := ?_) #[true, false, true, true, true, false, false, false, false, false, false, false, false] rfl rfl (any_of HT_.out (by kernel_rfl)) (fun _ _ _ h => h) (Or.inl ⟨by rfl, ?_⟩) ?_ ?_
                    rotate_left
                    ·intro w'
                     go_simp
                     with_reducible rfl
                    rotate_left
                    ·simp only [Act.put, List.setIfInBounds_toArray, List.set_cons_zero, List.set_cons_succ, i64_w, i32_w]
                     rfl
                    refine take_ (i := 1) (N := some 60) (v := ?_) (a' := ?_) #[true, true, true, true, true, false, false, false, false, false, false, false, false] rfl rfl (take_ofW HT_.out HW_.out (by kernel_rfl)) (fun _ _ _ h => h) (Or.inl ⟨by rfl, ?_⟩) hHeld ?_ ?_
                    rotate_left
                    ·rintro w' ⟨s0, s1, s2, s3, s4, s5, s6⟩
                     go_simp
                     with_reducible rfl
                    rotate_left
                    ·simp only [Act.put, List.setIfInBounds_toArray, List.set_cons_zero, List.set_cons_succ, i64_w, i32_w]
                     rfl
                    refine take_ (i := 5) (N := some 64) (v := ?_) (a' := ?_) #[true, true, true, true, true, true, false, false, false, false, false, false, false] rfl rfl (take_ofW HT_.out HW_.out (by kernel_rfl)) (fun _ _ _ h => h) (Or.inl ⟨by rfl, ?_⟩) hHeld ?_ ?_
                    rotate_left
                    ·rintro w' ⟨s0, s1, s2, s3, s4, s5, s6⟩
                     go_simp
                     with_reducible rfl
                    rotate_left
                    ·simp only [Act.put, List.setIfInBounds_toArray, List.set_cons_zero, List.set_cons_succ, i64_w, i32_w]
                     rfl
                    refine join_ (σ := Nat) 2 #[true, true, true, true, true, true, true, true, true, true, true, false, false] (fun s_ => [(65, .tuple #[.agg #[.int .i16 t392, .int .i16 t393, .int .i16 t394, .int .i16 t395], .int .i64 t396]), (11, .pointer (some ⟨s_, 0, none⟩)), (58, .tuple #[.agg #[.int .i16 t392, .int .i16 t393, .int .i16 t394, .int .i16 t395], .int .i64 t396]), (66, .agg #[.int .i16 t392, .int .i16 t393, .int .i16 t394, .int .i16 t395]), (67, .int .i64 t396)]) (fun s_ w' => (w'.cell? ⟨gb390, 0, none⟩ = some (.int .i16 t386) ∧ w'.cell? ⟨gb390, 1, none⟩ = some (.int .i16 t387) ∧ w'.cell? ⟨gb390, 2, none⟩ = some (.int .i16 t388) ∧ w'.cell? ⟨gb390, 3, none⟩ = some (.int .i16 t389) ∧ w'.cell? (ad391.add ((x10_3).toNat * 3)) = some (.int .i8 ((rd_T60 t382 x10_3).f0)) ∧ w'.cell? ⟨(ad391.add ((x10_3).toNat * 3)).block, (ad391.add ((x10_3).toNat * 3)).off + 1, none⟩ = some (.int .i8 ((rd_T60 t382 x10_3).f1)) ∧ w'.cell? ⟨(ad391.add ((x10_3).toNat * 3)).block, (ad391.add ((x10_3).toNat * 3)).off + 2, none⟩ = some (.int .i8 ((rd_T60 t382 x10_3).f2))) ∧ (Kd.R k60 60 w' w.heap.size (fun _ => True) (.slice (some ad391) t382.length co47) t382) ∧ (w'.heap[gp0]? = some (.cells #[.slice A0_0 l0_0.length c0_0, .int .i16 x381001_3, .int .i16 x381002_3, .int .i16 x381003_3, .int .i16 x381004_3, .bool x381005_3] 32 (0, 0))) ∧ (w'.heap[gb390]? = some (.cells #[.int .i16 t386, .int .i16 t387, .int .i16 t388, .int .i16 t389] 30 (0, 0))) ∧ (w'.heap[s_]? = some (.cells #[.int .i16 0, .int .i16 0, .int .i16 0, .int .i16 0] 30 (0, 0))) ∧ (w.heap.size ≤ s_) ∧ (w.heap.size ≤ s_) ∧ (gp0 ≠ s_) ∧ (s_ ≠ gp0) ∧ (gb390 ≠ s_) ∧ (s_ ≠ gb390) ∧ (Below w.heap.size w w')) ?_ ?_
                    rotate_left
                    ·intro hCont
                     refine two_ (i := 6) (j := 10) (Ni := some 65) (Nj := some 11) #[true, true, true, true, true, true, true, false, false, false, false, false, false] #[true, true, true, true, true, true, false, false, false, false, true, false, false] rfl rfl rfl rfl (two_of HT_.out (by kernel_rfl)) (by decide) (by decide) (fun K hK => ?_) (fun K hK => ?_)
                     ·skip
                      refine goes_ Try.func85 (by kernel_rfl) rfl #[.pointer (some ⟨gp0, 0, none⟩), .agg #[.int .i16 t386, .int .i16 t387, .int .i16 t388, .int .i16 t389], .agg #[.int .i8 ((rd_T60 t382 x10_3).f0), .int .i8 ((rd_T60 t382 x10_3).f1), .int .i8 ((rd_T60 t382 x10_3).f2)]] (by rfl) rfl rfl arg_ ?_
                      with_reducible refine (spec_l02Move.calls kj18 gp0 A0_0 c0_0 l0_0 x381001_3 x381002_3 x381003_3 x381004_3 x381005_3 t386 t387 t388 t389 ((rd_T60 t382 x10_3).f0) ((rd_T60 t382 x10_3).f1) ((rd_T60 t382 x10_3).f2) t392 t393 t394 t395 t396 _ ?side1 ?side2 ?side3 A26.out).mono ?_
                      (case side1 => exact (pl_ BK380))
                      (case side2 => repeat (first | exact (Kd.C_below HR0_0.out HB.out) | (with_reducible refine Kd.C_alloc ?_ _) | (with_reducible refine Kd.C_drewN ?_ _) | (with_reducible refine Kd.C_drew ?_)))
                      (case side3 => exact HC0_0.out)
                      rintro e w48 ⟨rfl, hb⟩
                      have HS4_ := (hb.cell (World.block_lt_of_cell? _ _ (hHeld.2.2.2.2.1))).trans (hHeld.2.2.2.2.1)
                      have HS5_ := (hb.cell (World.block_lt_of_cell? _ _ (hHeld.2.2.2.2.2.1))).trans (hHeld.2.2.2.2.2.1)
                      have HS6_ := (hb.cell (World.block_lt_of_cell? _ _ (hHeld.2.2.2.2.2.2))).trans (hHeld.2.2.2.2.2.2)
                      refine ⟨_, rfl, ?_⟩
                      have n0_ := A_ (Kd.R_below (pr_ HO_6) hb)
                      have n1_ := A_ (blk_below (pl_ BK380) hb)
                      have n2_ := A_ (blk_below (pl_ BK390) hb)
                      have n3_ := A_ (below_step (bl_ HB) hb)
                      clear HO_6
                      clear BK380
                      clear BK390
                      clear HB
                      have HO_6 := n0_
                      have BK380 := n1_
                      have BK390 := n2_
                      have HB := n3_
                      clear n0_ n1_ n2_ n3_
                      (try clear hb)
                      (try clear hb2)
                      (try clear hk)
                      (try clear hi)
                      refine hK.out _ _ ⟨(blk_cell BK390.out 0).trans rfl, (blk_cell BK390.out 1).trans rfl, (blk_cell BK390.out 2).trans rfl, (blk_cell BK390.out 3).trans rfl, HS4_, HS5_, HS6_⟩ (fun hHeld => ?_)
                      clear hK K
                      refine norm_ (a' := ?_) ?_ ?_
                      rotate_left
                      ·show Act.put _ (some 65) _ = _
                       simp only [Act.put, List.setIfInBounds_toArray, List.set_cons_zero, List.set_cons_succ, i64_w, i32_w]
                       rfl
                      refine pure_ (i := 7) (N := some 58) (v := ?_) (a' := ?_) #[true, true, true, true, true, true, true, true, false, false, false, false, false] rfl rfl (any_of HT_.out (by kernel_rfl)) (fun _ _ _ h => h) (Or.inl ⟨by rfl, ?_⟩) ?_ ?_
                      rotate_left
                      ·intro w'
                       go_simp
                       with_reducible rfl
                      rotate_left
                      ·simp only [Act.put, List.setIfInBounds_toArray, List.set_cons_zero, List.set_cons_succ, i64_w, i32_w]
                       rfl
                      refine pure_ (i := 8) (N := some 66) (v := ?_) (a' := ?_) #[true, true, true, true, true, true, true, true, true, false, false, false, false] rfl rfl (any_of HT_.out (by kernel_rfl)) (fun _ _ _ h => h) (Or.inl ⟨by rfl, ?_⟩) ?_ ?_
                      rotate_left
                      ·intro w'
                       go_simp
                       with_reducible rfl
                      rotate_left
                      ·simp only [Act.put, List.setIfInBounds_toArray, List.set_cons_zero, List.set_cons_succ, i64_w, i32_w]
                       rfl
                      refine pure_ (i := 9) (N := some 67) (v := ?_) (a' := ?_) #[true, true, true, true, true, true, true, true, true, true, false, false, false] rfl rfl (any_of HT_.out (by kernel_rfl)) (fun _ _ _ h => h) (Or.inl ⟨by rfl, ?_⟩) ?_ ?_
                      rotate_left
                      ·intro w'
                       go_simp
                       with_reducible rfl
                      rotate_left
                      ·simp only [Act.put, List.setIfInBounds_toArray, List.set_cons_zero, List.set_cons_succ, i64_w, i32_w]
                       rfl
                      refine one_ (i := 10) (N := some 11) #[true, true, true, true, true, true, true, true, true, true, true, false, false] rfl rfl (one_of HT_.out (by kernel_rfl)) (by decide) (fun K hK => ?_)
                      refine box_step ?hg (N := 11) ?hd (cs := #[.int .i16 0, .int .i16 0, .int .i16 0, .int .i16 0]) (t := 30) ?hr ?_; (case hd => rfl); (case hg => rfl); (case hr => first | (go_simp; done) | (go_simp; rfl))
                      intro gb397 hg w49 hbox hb
                      have HS4_ := (hb.cell (World.block_lt_of_cell? _ _ (hHeld.2.2.2.2.1))).trans (hHeld.2.2.2.2.1)
                      have HS5_ := (hb.cell (World.block_lt_of_cell? _ _ (hHeld.2.2.2.2.2.1))).trans (hHeld.2.2.2.2.2.1)
                      have HS6_ := (hb.cell (World.block_lt_of_cell? _ _ (hHeld.2.2.2.2.2.2))).trans (hHeld.2.2.2.2.2.2)
                      have n0_ := A_ (Kd.R_below (pr_ HO_6) hb)
                      have n1_ := A_ (blk_below (pl_ BK380) hb)
                      have n2_ := A_ (blk_below (pl_ BK390) hb)
                      have n3_ := A_ (below_step (bl_ HB) hb)
                      have n4_ := A_ (hbox)
                      have n5_ := A_ ((by rw [hg]; exact (below_size (bl_ HB)) : w.heap.size ≤ gb397))
                      have n6_ := n5_
                      have n7_ := A_ ((by rw [hg]; exact Nat.ne_of_lt (blk_lt (pl_ BK380)) : gp0 ≠ gb397))
                      have n8_ := Aside0.mk n7_.out.symm
                      have n9_ := A_ ((by rw [hg]; exact Nat.ne_of_lt (blk_lt (pl_ BK390)) : gb390 ≠ gb397))
                      have n10_ := Aside0.mk n9_.out.symm
                      clear HO_6
                      clear BK380
                      clear BK390
                      clear HB
                      have HO_6 := n0_
                      have BK380 := n1_
                      have BK390 := n2_
                      have HB := n3_
                      have BK397 := n4_
                      have GW397 := n5_
                      have GE397 := n6_
                      have NB380_397 := n7_
                      have NB397_380 := n8_
                      have NB390_397 := n9_
                      have NB397_390 := n10_
                      clear n0_ n1_ n2_ n3_ n4_ n5_ n6_ n7_ n8_ n9_ n10_
                      clear hb hbox hg
                      refine hK.out _ _ ⟨(blk_cell BK390.out 0).trans rfl, (blk_cell BK390.out 1).trans rfl, (blk_cell BK390.out 2).trans rfl, (blk_cell BK390.out 3).trans rfl, HS4_, HS5_, HS6_⟩ (fun hHeld => ?_)
                      clear hK K
                      refine norm_ (a' := ?_) ?_ ?_
                      rotate_left
                      ·show Act.put _ (some 11) _ = _
                       simp only [Act.put, List.setIfInBounds_toArray, List.set_cons_zero, List.set_cons_succ, i64_w, i32_w]
                       rfl
                      exact norm_ pa_ (hCont (gb397) _ ⟨hHeld, (pr_ HO_6), (pl_ BK380), (pl_ BK390), (pl_ BK397), GW397.out, GE397.out, NB380_397.out, NB397_380.out, NB390_397.out, NB397_390.out, (bl_ HB)⟩)
                     ·skip
                      refine box_step ?hg (N := 11) ?hd (cs := #[.int .i16 0, .int .i16 0, .int .i16 0, .int .i16 0]) (t := 30) ?hr ?_; (case hd => rfl); (case hg => rfl); (case hr => first | (go_simp; done) | (go_simp; rfl))
                      intro gb397 hg w48 hbox hb
                      have HS4_ := (hb.cell (World.block_lt_of_cell? _ _ (hHeld.2.2.2.2.1))).trans (hHeld.2.2.2.2.1)
                      have HS5_ := (hb.cell (World.block_lt_of_cell? _ _ (hHeld.2.2.2.2.2.1))).trans (hHeld.2.2.2.2.2.1)
                      have HS6_ := (hb.cell (World.block_lt_of_cell? _ _ (hHeld.2.2.2.2.2.2))).trans (hHeld.2.2.2.2.2.2)
                      have n0_ := A_ (Kd.R_below (pr_ HO_6) hb)
                      have n1_ := A_ (blk_below (pl_ BK380) hb)
                      have n2_ := A_ (blk_below (pl_ BK390) hb)
                      have n3_ := A_ (below_step (bl_ HB) hb)
                      have n4_ := A_ (hbox)
                      have n5_ := A_ ((by rw [hg]; exact (below_size (bl_ HB)) : w.heap.size ≤ gb397))
                      have n6_ := n5_
                      have n7_ := A_ ((by rw [hg]; exact Nat.ne_of_lt (blk_lt (pl_ BK380)) : gp0 ≠ gb397))
                      have n8_ := Aside0.mk n7_.out.symm
                      have n9_ := A_ ((by rw [hg]; exact Nat.ne_of_lt (blk_lt (pl_ BK390)) : gb390 ≠ gb397))
                      have n10_ := Aside0.mk n9_.out.symm
                      clear HO_6
                      clear BK380
                      clear BK390
                      clear HB
                      have HO_6 := n0_
                      have BK380 := n1_
                      have BK390 := n2_
                      have HB := n3_
                      have BK397 := n4_
                      have GW397 := n5_
                      have GE397 := n6_
                      have NB380_397 := n7_
                      have NB397_380 := n8_
                      have NB390_397 := n9_
                      have NB397_390 := n10_
                      clear n0_ n1_ n2_ n3_ n4_ n5_ n6_ n7_ n8_ n9_ n10_
                      clear hb hbox hg
                      refine hK.out _ _ ⟨(blk_cell BK390.out 0).trans rfl, (blk_cell BK390.out 1).trans rfl, (blk_cell BK390.out 2).trans rfl, (blk_cell BK390.out 3).trans rfl, HS4_, HS5_, HS6_⟩ (fun hHeld => ?_)
                      clear hK K
                      refine norm_ (a' := ?_) ?_ ?_
                      rotate_left
                      ·show Act.put _ (some 11) _ = _
                       simp only [Act.put, List.setIfInBounds_toArray, List.set_cons_zero, List.set_cons_succ, i64_w, i32_w]
                       rfl
                      refine one_ (i := 6) (N := some 65) #[true, true, true, true, true, true, true, false, false, false, true, false, false] rfl rfl (one_of HT_.out (by kernel_rfl)) (by decide) (fun K hK => ?_)
                      refine goes_ Try.func85 (by kernel_rfl) rfl #[.pointer (some ⟨gp0, 0, none⟩), .agg #[.int .i16 t386, .int .i16 t387, .int .i16 t388, .int .i16 t389], .agg #[.int .i8 ((rd_T60 t382 x10_3).f0), .int .i8 ((rd_T60 t382 x10_3).f1), .int .i8 ((rd_T60 t382 x10_3).f2)]] (by rfl) rfl rfl arg_ ?_
                      with_reducible refine (spec_l02Move.calls kj18 gp0 A0_0 c0_0 l0_0 x381001_3 x381002_3 x381003_3 x381004_3 x381005_3 t386 t387 t388 t389 ((rd_T60 t382 x10_3).f0) ((rd_T60 t382 x10_3).f1) ((rd_T60 t382 x10_3).f2) t392 t393 t394 t395 t396 _ ?side1 ?side2 ?side3 A26.out).mono ?_
                      (case side1 => exact (pl_ BK380))
                      (case side2 => repeat (first | exact (Kd.C_below HR0_0.out HB.out) | (with_reducible refine Kd.C_alloc ?_ _) | (with_reducible refine Kd.C_drewN ?_ _) | (with_reducible refine Kd.C_drew ?_)))
                      (case side3 => exact HC0_0.out)
                      rintro e w49 ⟨rfl, hb⟩
                      have HS4_ := (hb.cell (World.block_lt_of_cell? _ _ (hHeld.2.2.2.2.1))).trans (hHeld.2.2.2.2.1)
                      have HS5_ := (hb.cell (World.block_lt_of_cell? _ _ (hHeld.2.2.2.2.2.1))).trans (hHeld.2.2.2.2.2.1)
                      have HS6_ := (hb.cell (World.block_lt_of_cell? _ _ (hHeld.2.2.2.2.2.2))).trans (hHeld.2.2.2.2.2.2)
                      refine ⟨_, rfl, ?_⟩
                      have n0_ := A_ (Kd.R_below (pr_ HO_6) hb)
                      have n1_ := A_ (blk_below (pl_ BK380) hb)
                      have n2_ := A_ (blk_below (pl_ BK390) hb)
                      have n3_ := A_ (blk_below (pl_ BK397) hb)
                      have n4_ := A_ (below_step (bl_ HB) hb)
                      clear HO_6
                      clear BK380
                      clear BK390
                      clear BK397
                      clear HB
                      have HO_6 := n0_
                      have BK380 := n1_
                      have BK390 := n2_
                      have BK397 := n3_
                      have HB := n4_
                      clear n0_ n1_ n2_ n3_ n4_
                      (try clear hb)
                      (try clear hb2)
                      (try clear hk)
                      (try clear hi)
                      refine hK.out _ _ ⟨(blk_cell BK390.out 0).trans rfl, (blk_cell BK390.out 1).trans rfl, (blk_cell BK390.out 2).trans rfl, (blk_cell BK390.out 3).trans rfl, HS4_, HS5_, HS6_⟩ (fun hHeld => ?_)
                      clear hK K
                      refine norm_ (a' := ?_) ?_ ?_
                      rotate_left
                      ·show Act.put _ (some 65) _ = _
                       simp only [Act.put, List.setIfInBounds_toArray, List.set_cons_zero, List.set_cons_succ, i64_w, i32_w]
                       rfl
                      refine pure_ (i := 7) (N := some 58) (v := ?_) (a' := ?_) #[true, true, true, true, true, true, true, true, false, false, true, false, false] rfl rfl (any_of HT_.out (by kernel_rfl)) (fun _ _ _ h => h) (Or.inl ⟨by rfl, ?_⟩) ?_ ?_
                      rotate_left
                      ·intro w'
                       go_simp
                       with_reducible rfl
                      rotate_left
                      ·simp only [Act.put, List.setIfInBounds_toArray, List.set_cons_zero, List.set_cons_succ, i64_w, i32_w]
                       rfl
                      refine pure_ (i := 8) (N := some 66) (v := ?_) (a' := ?_) #[true, true, true, true, true, true, true, true, true, false, true, false, false] rfl rfl (any_of HT_.out (by kernel_rfl)) (fun _ _ _ h => h) (Or.inl ⟨by rfl, ?_⟩) ?_ ?_
                      rotate_left
                      ·intro w'
                       go_simp
                       with_reducible rfl
                      rotate_left
                      ·simp only [Act.put, List.setIfInBounds_toArray, List.set_cons_zero, List.set_cons_succ, i64_w, i32_w]
                       rfl
                      refine pure_ (i := 9) (N := some 67) (v := ?_) (a' := ?_) #[true, true, true, true, true, true, true, true, true, true, true, false, false] rfl rfl (any_of HT_.out (by kernel_rfl)) (fun _ _ _ h => h) (Or.inl ⟨by rfl, ?_⟩) ?_ ?_
                      rotate_left
                      ·intro w'
                       go_simp
                       with_reducible rfl
                      rotate_left
                      ·simp only [Act.put, List.setIfInBounds_toArray, List.set_cons_zero, List.set_cons_succ, i64_w, i32_w]
                       rfl
                      exact norm_ pa_ (hCont (gb397) _ ⟨hHeld, (pr_ HO_6), (pl_ BK380), (pl_ BK390), (pl_ BK397), GW397.out, GE397.out, NB380_397.out, NB397_380.out, NB390_397.out, NB397_390.out, (bl_ HB)⟩)
                    rintro gb397 w50 ⟨hS_, h0_, h1_, h2_, h3_, h4_, h5_, h6_, h7_, h8_, h9_, h10_⟩
                    have n0_ : Aside0 (Kd.R k60 60 w50 w.heap.size (fun _ => True) (.slice (some ad391) t382.length co47) t382) := ⟨h0_⟩
                    have n1_ : Aside0 (w50.heap[gp0]? = some (.cells #[.slice A0_0 l0_0.length c0_0, .int .i16 x381001_3, .int .i16 x381002_3, .int .i16 x381003_3, .int .i16 x381004_3, .bool x381005_3] 32 (0, 0))) := ⟨h1_⟩
                    have n2_ : Aside0 (w50.heap[gb390]? = some (.cells #[.int .i16 t386, .int .i16 t387, .int .i16 t388, .int .i16 t389] 30 (0, 0))) := ⟨h2_⟩
                    have n3_ : Aside0 (w50.heap[gb397]? = some (.cells #[.int .i16 0, .int .i16 0, .int .i16 0, .int .i16 0] 30 (0, 0))) := ⟨h3_⟩
                    have n4_ : Aside0 (w.heap.size ≤ gb397) := ⟨h4_⟩
                    have n5_ : Aside0 (w.heap.size ≤ gb397) := ⟨h5_⟩
                    have n6_ : Aside0 (gp0 ≠ gb397) := ⟨h6_⟩
                    have n7_ : Aside0 (gb397 ≠ gp0) := ⟨h7_⟩
                    have n8_ : Aside0 (gb390 ≠ gb397) := ⟨h8_⟩
                    have n9_ : Aside0 (gb397 ≠ gb390) := ⟨h9_⟩
                    have n10_ : Aside0 (Below w.heap.size w w50) := ⟨h10_⟩
                    clear HO_6
                    clear BK380
                    clear BK390
                    clear HB
                    clear h0_ h1_ h2_ h3_ h4_ h5_ h6_ h7_ h8_ h9_ h10_
                    have HO_6 := n0_
                    have BK380 := n1_
                    have BK390 := n2_
                    have BK397 := n3_
                    have GW397 := n4_
                    have GE397 := n5_
                    have NB380_397 := n6_
                    have NB397_380 := n7_
                    have NB390_397 := n8_
                    have NB397_390 := n9_
                    have HB := n10_
                    clear n0_ n1_ n2_ n3_ n4_ n5_ n6_ n7_ n8_ n9_ n10_
                    have hHeld : w50.cell? ⟨gb390, 0, none⟩ = some (.int .i16 t386) ∧ w50.cell? ⟨gb390, 1, none⟩ = some (.int .i16 t387) ∧ w50.cell? ⟨gb390, 2, none⟩ = some (.int .i16 t388) ∧ w50.cell? ⟨gb390, 3, none⟩ = some (.int .i16 t389) ∧ w50.cell? (ad391.add ((x10_3).toNat * 3)) = some (.int .i8 ((rd_T60 t382 x10_3).f0)) ∧ w50.cell? ⟨(ad391.add ((x10_3).toNat * 3)).block, (ad391.add ((x10_3).toNat * 3)).off + 1, none⟩ = some (.int .i8 ((rd_T60 t382 x10_3).f1)) ∧ w50.cell? ⟨(ad391.add ((x10_3).toNat * 3)).block, (ad391.add ((x10_3).toNat * 3)).off + 2, none⟩ = some (.int .i8 ((rd_T60 t382 x10_3).f2)) := hS_
                    refine norm_ (a' := ?_) ?_ ?_
                    rotate_left
                    ·simp only [putAll, Act.put, List.setIfInBounds_toArray, List.set_cons_zero, List.set_cons_succ]
                     rfl
                    refine one_ (i := 11) (N := none) #[true, true, true, true, true, true, true, true, true, true, true, true, false] rfl rfl (one_of HT_.out (by kernel_rfl)) (by decide) (fun K hK => ?_)
                    have hs51 : w50.cell? ⟨gb397, 0, none⟩ = some (.int .i16 0) := (blk_cell BK397.out 0).trans rfl
                    have hfs51 := blk_frozen BK397.out 0
                    have hns51_0 := NB380_397.out
                    have hns51_1 := NB390_397.out
                    have hms51_0 := NB397_380.out
                    have hms51_1 := NB397_390.out
                    have hs52 : w50.cell? ⟨gb397, 1, none⟩ = some (.int .i16 0) := (blk_cell BK397.out 1).trans rfl
                    have hfs52 := blk_frozen BK397.out 1
                    have hns52_0 := NB380_397.out
                    have hns52_1 := NB390_397.out
                    have hms52_0 := NB397_380.out
                    have hms52_1 := NB397_390.out
                    have hs53 : w50.cell? ⟨gb397, 2, none⟩ = some (.int .i16 0) := (blk_cell BK397.out 2).trans rfl
                    have hfs53 := blk_frozen BK397.out 2
                    have hns53_0 := NB380_397.out
                    have hns53_1 := NB390_397.out
                    have hms53_0 := NB397_380.out
                    have hms53_1 := NB397_390.out
                    have hs54 : w50.cell? ⟨gb397, 3, none⟩ = some (.int .i16 0) := (blk_cell BK397.out 3).trans rfl
                    have hfs54 := blk_frozen BK397.out 3
                    have hns54_0 := NB380_397.out
                    have hns54_1 := NB390_397.out
                    have hms54_0 := NB397_380.out
                    have hms54_1 := NB397_390.out
                    refine skip_ (w1 := ?_) (by rfl) rfl ?_ ?_
                    rotate_left
                    ·go_simp
                     rfl
                    refine hK.out _ _ ⟨((cell_far (p := ⟨gb397, _, none⟩) NB390_397.out _).trans ((cf3_ NB390_397 (hHeld.1)))), ((cell_far (p := ⟨gb397, _, none⟩) NB390_397.out _).trans ((cf3_ NB390_397 (hHeld.2.1)))), ((cell_far (p := ⟨gb397, _, none⟩) NB390_397.out _).trans ((cf3_ NB390_397 (hHeld.2.2.1)))), ((cell_far (p := ⟨gb397, _, none⟩) NB390_397.out _).trans ((cf3_ NB390_397 (hHeld.2.2.2.1)))), ((cell_far (p := ⟨gb397, _, none⟩) (by first | exact Kd.own_blk (Kd.R_ne HO_6.out BK397.out (by decide)) | (rw [add_block]; exact Kd.own_blk (Kd.R_ne HO_6.out BK397.out (by decide))) | (show (Addr.add _ _).block ≠ _; rw [add_block]; exact Kd.own_blk (Kd.R_ne HO_6.out BK397.out (by decide))) | (dsimp only; exact Kd.own_blk (Kd.R_ne HO_6.out BK397.out (by decide)))) _).trans (((cell_far (p := ⟨gb397, _, none⟩) (by first | exact Kd.own_blk (Kd.R_ne HO_6.out BK397.out (by decide)) | (rw [add_block]; exact Kd.own_blk (Kd.R_ne HO_6.out BK397.out (by decide))) | (show (Addr.add _ _).block ≠ _; rw [add_block]; exact Kd.own_blk (Kd.R_ne HO_6.out BK397.out (by decide))) | (dsimp only; exact Kd.own_blk (Kd.R_ne HO_6.out BK397.out (by decide)))) _).trans (((cell_far (p := ⟨gb397, _, none⟩) (by first | exact Kd.own_blk (Kd.R_ne HO_6.out BK397.out (by decide)) | (rw [add_block]; exact Kd.own_blk (Kd.R_ne HO_6.out BK397.out (by decide))) | (show (Addr.add _ _).block ≠ _; rw [add_block]; exact Kd.own_blk (Kd.R_ne HO_6.out BK397.out (by decide))) | (dsimp only; exact Kd.own_blk (Kd.R_ne HO_6.out BK397.out (by decide)))) _).trans (((cell_far (p := ⟨gb397, _, none⟩) (by first | exact Kd.own_blk (Kd.R_ne HO_6.out BK397.out (by decide)) | (rw [add_block]; exact Kd.own_blk (Kd.R_ne HO_6.out BK397.out (by decide))) | (show (Addr.add _ _).block ≠ _; rw [add_block]; exact Kd.own_blk (Kd.R_ne HO_6.out BK397.out (by decide))) | (dsimp only; exact Kd.own_blk (Kd.R_ne HO_6.out BK397.out (by decide)))) _).trans (hHeld.2.2.2.2.1)))))))), ((cell_far (p := ⟨gb397, _, none⟩) (by first | exact Kd.own_blk (Kd.R_ne HO_6.out BK397.out (by decide)) | (rw [add_block]; exact Kd.own_blk (Kd.R_ne HO_6.out BK397.out (by decide))) | (show (Addr.add _ _).block ≠ _; rw [add_block]; exact Kd.own_blk (Kd.R_ne HO_6.out BK397.out (by decide))) | (dsimp only; exact Kd.own_blk (Kd.R_ne HO_6.out BK397.out (by decide)))) _).trans (((cell_far (p := ⟨gb397, _, none⟩) (by first | exact Kd.own_blk (Kd.R_ne HO_6.out BK397.out (by decide)) | (rw [add_block]; exact Kd.own_blk (Kd.R_ne HO_6.out BK397.out (by decide))) | (show (Addr.add _ _).block ≠ _; rw [add_block]; exact Kd.own_blk (Kd.R_ne HO_6.out BK397.out (by decide))) | (dsimp only; exact Kd.own_blk (Kd.R_ne HO_6.out BK397.out (by decide)))) _).trans (((cell_far (p := ⟨gb397, _, none⟩) (by first | exact Kd.own_blk (Kd.R_ne HO_6.out BK397.out (by decide)) | (rw [add_block]; exact Kd.own_blk (Kd.R_ne HO_6.out BK397.out (by decide))) | (show (Addr.add _ _).block ≠ _; rw [add_block]; exact Kd.own_blk (Kd.R_ne HO_6.out BK397.out (by decide))) | (dsimp only; exact Kd.own_blk (Kd.R_ne HO_6.out BK397.out (by decide)))) _).trans (((cell_far (p := ⟨gb397, _, none⟩) (by first | exact Kd.own_blk (Kd.R_ne HO_6.out BK397.out (by decide)) | (rw [add_block]; exact Kd.own_blk (Kd.R_ne HO_6.out BK397.out (by decide))) | (show (Addr.add _ _).block ≠ _; rw [add_block]; exact Kd.own_blk (Kd.R_ne HO_6.out BK397.out (by decide))) | (dsimp only; exact Kd.own_blk (Kd.R_ne HO_6.out BK397.out (by decide)))) _).trans (hHeld.2.2.2.2.2.1)))))))), ((cell_far (p := ⟨gb397, _, none⟩) (by first | exact Kd.own_blk (Kd.R_ne HO_6.out BK397.out (by decide)) | (rw [add_block]; exact Kd.own_blk (Kd.R_ne HO_6.out BK397.out (by decide))) | (show (Addr.add _ _).block ≠ _; rw [add_block]; exact Kd.own_blk (Kd.R_ne HO_6.out BK397.out (by decide))) | (dsimp only; exact Kd.own_blk (Kd.R_ne HO_6.out BK397.out (by decide)))) _).trans (((cell_far (p := ⟨gb397, _, none⟩) (by first | exact Kd.own_blk (Kd.R_ne HO_6.out BK397.out (by decide)) | (rw [add_block]; exact Kd.own_blk (Kd.R_ne HO_6.out BK397.out (by decide))) | (show (Addr.add _ _).block ≠ _; rw [add_block]; exact Kd.own_blk (Kd.R_ne HO_6.out BK397.out (by decide))) | (dsimp only; exact Kd.own_blk (Kd.R_ne HO_6.out BK397.out (by decide)))) _).trans (((cell_far (p := ⟨gb397, _, none⟩) (by first | exact Kd.own_blk (Kd.R_ne HO_6.out BK397.out (by decide)) | (rw [add_block]; exact Kd.own_blk (Kd.R_ne HO_6.out BK397.out (by decide))) | (show (Addr.add _ _).block ≠ _; rw [add_block]; exact Kd.own_blk (Kd.R_ne HO_6.out BK397.out (by decide))) | (dsimp only; exact Kd.own_blk (Kd.R_ne HO_6.out BK397.out (by decide)))) _).trans (((cell_far (p := ⟨gb397, _, none⟩) (by first | exact Kd.own_blk (Kd.R_ne HO_6.out BK397.out (by decide)) | (rw [add_block]; exact Kd.own_blk (Kd.R_ne HO_6.out BK397.out (by decide))) | (show (Addr.add _ _).block ≠ _; rw [add_block]; exact Kd.own_blk (Kd.R_ne HO_6.out BK397.out (by decide))) | (dsimp only; exact Kd.own_blk (Kd.R_ne HO_6.out BK397.out (by decide)))) _).trans (hHeld.2.2.2.2.2.2))))))))⟩ (fun hHeld => ?_)
                    clear hK K
                    refine pure_ (i := 12) (N := some 12) (v := ?_) (a' := ?_) #[true, true, true, true, true, true, true, true, true, true, true, true, true] rfl rfl (any_of HT_.out (by kernel_rfl)) (fun _ _ _ h => h) (Or.inl ⟨by rfl, ?_⟩) ?_ ?_
                    rotate_left
                    ·intro w'
                     go_simp
                     with_reducible rfl
                    rotate_left
                    ·simp only [Act.put, List.setIfInBounds_toArray, List.set_cons_zero, List.set_cons_succ, i64_w, i32_w]
                     rfl
                    refine done_ (done_of HT_.out (by kernel_rfl)) ?_
                    have hnb55 := NB397_380.out
                    have hnc55 := NB380_397.out
                    have hnb56 := NB397_390.out
                    have hnc56 := NB390_397.out
                    have hcz57_0 : w50.cell? ⟨gb397, 0, none⟩ = some (.int .i16 0) := (blk_cell BK397.out 0).trans rfl
                    have hcz57_1 : w50.cell? ⟨gb397, 1, none⟩ = some (.int .i16 0) := (blk_cell BK397.out 1).trans rfl
                    have hcz57_2 : w50.cell? ⟨gb397, 2, none⟩ = some (.int .i16 0) := (blk_cell BK397.out 2).trans rfl
                    have hcz57_3 : w50.cell? ⟨gb397, 3, none⟩ = some (.int .i16 0) := (blk_cell BK397.out 3).trans rfl
                    have hfz57_0 := blk_frozen BK397.out 0
                    have hfz57_1 := blk_frozen BK397.out 1
                    have hfz57_2 := blk_frozen BK397.out 2
                    have hfz57_3 := blk_frozen BK397.out 3
                    try go_wp2_with (first | ((with_reducible refine gate_callee (f := 78) rfl ?_); refine goesL_ (some 73) rfl rfl Try.func78 (by kernel_rfl) rfl #[.pointer (some ⟨gp0, 0, none⟩), .agg #[.int .i16 t392, .int .i16 t393, .int .i16 t394, .int .i16 t395]] rfl arg_ ?_; (with_reducible refine (spec_l02Index.calls kj18 gp0 A0_0 c0_0 l0_0 x381001_3 x381002_3 x381003_3 x381004_3 x381005_3 t392 t393 t394 t395 t398 _ ?side1 ?side2 ?side3 A28.out).mono ?_); (case side1 => exact (pf_ BK380 NB380_397)); (case side2 => exact Kd.C_below HR0_0.out (bs_ HB GE397)); (case side3 => exact HC0_0.out); rintro e w58 ⟨rfl, hb⟩; refine ⟨_, rfl, ?_⟩; have n0_ := A_ (Kd.R_below (by (with_reducible repeat (first | apply Kd.R_alloc | apply Kd.R_drewN | apply Kd.R_drew)); exact (rf4_ HO_6 BK397 (by decide))) hb); have n1_ := A_ (blk_below (g := gp0) (o := .cells #[.slice A0_0 l0_0.length c0_0, .int .i16 x381001_3, .int .i16 x381002_3, .int .i16 x381003_3, .int .i16 x381004_3, .bool x381005_3] 32 (0, 0)) (pf_ BK380 NB380_397) hb); have n2_ := A_ (blk_below (g := gb390) (o := .cells #[.int .i16 t386, .int .i16 t387, .int .i16 t388, .int .i16 t389] 30 (0, 0)) (pf_ BK390 NB390_397) hb); have n3_ := A_ (blk_below (g := gb397) (o := .cells #[.int .i16 t392, .int .i16 t393, .int .i16 t394, .int .i16 t395] 30 (0, 0)) (by (with_reducible repeat (first | refine blk_drewN ?_ _ | refine blk_drew ?_ | refine blk_alloc ?_ _)); refine blk_put (cs := #[.int .i16 t392, .int .i16 t393, .int .i16 t394, .int .i16 0]) ?_ 3 _ rfl; (with_reducible repeat (first | refine blk_drewN ?_ _ | refine blk_drew ?_ | refine blk_alloc ?_ _)); refine blk_put (cs := #[.int .i16 t392, .int .i16 t393, .int .i16 0, .int .i16 0]) ?_ 2 _ rfl; (with_reducible repeat (first | refine blk_drewN ?_ _ | refine blk_drew ?_ | refine blk_alloc ?_ _)); refine blk_put (cs := #[.int .i16 t392, .int .i16 0, .int .i16 0, .int .i16 0]) ?_ 1 _ rfl; (with_reducible repeat (first | refine blk_drewN ?_ _ | refine blk_drew ?_ | refine blk_alloc ?_ _)); refine blk_put (cs := #[.int .i16 0, .int .i16 0, .int .i16 0, .int .i16 0]) ?_ 0 _ rfl; (with_reducible repeat (first | refine blk_drewN ?_ _ | refine blk_drew ?_ | refine blk_alloc ?_ _)); exact BK397.out) hb); have n4_ := A_ (below_step (bs_ HB GE397) hb); clear HO_6; clear BK380; clear BK390; clear BK397; clear HB; have HO_6 := n0_; have BK380 := n1_; have BK390 := n2_; have BK397 := n3_; have HB := n4_; clear n0_ n1_ n2_ n3_ n4_; (try clear hb); (try clear hb2); (try clear hk); (try clear hi); have p399 : 0 ≤ (t398 : Int) := asm_; have q399 : t398 < (l1.length : Int) := asm_; obtain ⟨ad399, e399, hx399_0⟩ := Kd.at_int HR1.out t398 p399 q399; obtain rfl : ad385 = ad399 := (by injection e399); (try replace hx399_0 := (HB.out.cell (World.block_lt_of_cell? w _ hx399_0)).trans hx399_0); replace p399 := eq_true p399; replace q399 := eq_true q399))
                    go_ret
                    exact ⟨by first | rfl | (simp [errW_none, errW_some] <;> rfl) | (simp [*, errW_none, errW_some] <;> rfl), bl_ HB⟩
                   ·rw [if_neg c45] at H
                    have c45b0 : decide ((wrap64 ((wrap64 (rd l1 x7_1)) + 1)) < (wrap64 (rd l1 t398))) = false := decide_eq_false c45
                    clear c45
                    have H' := Aside0.mk H
                    clear H
                    try go_wp2
                    have n0_ := A_ (Kd.R_drew HO_6.out)
                    have n1_ := A_ (blk_drew BK380.out)
                    have n2_ := A_ (blk_drew BK390.out)
                    have n3_ := A_ (below_drew1 HB.out)
                    clear HO_6
                    clear BK380
                    clear BK390
                    clear HB
                    have HO_6 := n0_
                    have BK380 := n1_
                    have BK390 := n2_
                    have HB := n3_
                    clear n0_ n1_ n2_ n3_
                    obtain ⟨Ao60, co60, eo60⟩ := Kd.R_slice HO_6.out
                    (first | subst eo60 | (injection eo60 with f1_ f2_ f3_; have f4_ := f1_.symm; have f5_ := f3_.symm; clear f1_ f2_ f3_; subst f4_; subst f5_))
                    have p391 : 0 ≤ (x10_3 : Int) := asm_
                    have q391 : x10_3 < (t382.length : Int) := asm_
                    obtain ⟨ad391, e391, hx391_0, hx391_1, hx391_2⟩ := at_T60 (Kd.R_reads' HO_6.out).2.2 x10_3 p391 q391
                    cases e391
                    replace p391 := eq_true p391
                    replace q391 := eq_true q391
                    refine start_ (n := 13) (S := fun w' => w'.cell? ⟨gb390, 0, none⟩ = some (.int .i16 t386) ∧ w'.cell? ⟨gb390, 1, none⟩ = some (.int .i16 t387) ∧ w'.cell? ⟨gb390, 2, none⟩ = some (.int .i16 t388) ∧ w'.cell? ⟨gb390, 3, none⟩ = some (.int .i16 t389) ∧ w'.cell? (ad391.add ((x10_3).toNat * 3)) = some (.int .i8 ((rd_T60 t382 x10_3).f0)) ∧ w'.cell? ⟨(ad391.add ((x10_3).toNat * 3)).block, (ad391.add ((x10_3).toNat * 3)).off + 1, none⟩ = some (.int .i8 ((rd_T60 t382 x10_3).f1)) ∧ w'.cell? ⟨(ad391.add ((x10_3).toNat * 3)).block, (ad391.add ((x10_3).toNat * 3)).off + 2, none⟩ = some (.int .i8 ((rd_T60 t382 x10_3).f2))) (ds := []) #[false, false, false, false, false, false, false, false, false, false, false, false, false] (by kernel_rfl) rfl rfl ⟨(blk_cell BK390.out 0).trans rfl, (blk_cell BK390.out 1).trans rfl, (blk_cell BK390.out 2).trans rfl, (blk_cell BK390.out 3).trans rfl, hx391_0, hx391_1, hx391_2⟩ (fun hHeld => ?_); refine with_tabW spec_l02Broken.tab13 spec_l02Broken.bits13 (fun HT_ HW_ => ?_)
                    generalize wc.drew = w59 at HO_6 BK380 BK390 HB hx391_0 hx391_1 hx391_2 hHeld ⊢
                    refine pure_ (i := 0) (N := some 59) (v := ?_) (a' := ?_) #[true, false, false, false, false, false, false, false, false, false, false, false, false] rfl rfl (any_of HT_.out (by kernel_rfl)) (fun _ _ _ h => h) (Or.inl ⟨by rfl, ?_⟩) ?_ ?_
                    rotate_left
                    ·intro w'
                     go_simp
                     with_reducible rfl
                    rotate_left
                    ·simp only [Act.put, List.setIfInBounds_toArray, List.set_cons_zero, List.set_cons_succ, i64_w, i32_w]
                     rfl
                    refine pure_ (i := 2) (N := some 61) (v := ?_) (a' := ?_) #[true, false, true, false, false, false, false, false, false, false, false, false, false] rfl rfl (any_of HT_.out (by kernel_rfl)) (fun _ _ _ h => h) (Or.inl ⟨by rfl, ?_⟩) ?_ ?_
                    rotate_left
                    ·intro w'
                     go_simp
                     with_reducible rfl
                    rotate_left
                    ·simp only [Act.put, List.setIfInBounds_toArray, List.set_cons_zero, List.set_cons_succ, i64_w, i32_w]
                     rfl
                    refine pure_ (i := 3) (N := some 62) (v := ?_) (a' := ?_) #[true, false, true, true, false, false, false, false, false, false, false, false, false] rfl rfl (any_of HT_.out (by kernel_rfl)) (fun _ _ _ h => h) (Or.inl ⟨by rfl, ?_⟩) ?_ ?_
                    rotate_left
                    ·intro w'
                     go_simp
                     with_reducible rfl
                    rotate_left
                    ·simp only [Act.put, List.setIfInBounds_toArray, List.set_cons_zero, List.set_cons_succ, i64_w, i32_w]
                     rfl
                    refine pure_ (i := 4) (N := some 63) (v := ?_) (a' := ?_) #[true, false, true, true, true, false, false, false, false, false, false, false, false] rfl rfl (any_of HT_.out (by kernel_rfl)) (fun _ _ _ h => h) (Or.inl ⟨by rfl, ?_⟩) ?_ ?_
                    rotate_left
                    ·intro w'
                     go_simp
                     with_reducible rfl
                    rotate_left
                    ·simp only [Act.put, List.setIfInBounds_toArray, List.set_cons_zero, List.set_cons_succ, i64_w, i32_w]
                     rfl
                    refine take_ (i := 1) (N := some 60) (v := ?_) (a' := ?_) #[true, true, true, true, true, false, false, false, false, false, false, false, false] rfl rfl (take_ofW HT_.out HW_.out (by kernel_rfl)) (fun _ _ _ h => h) (Or.inl ⟨by rfl, ?_⟩) hHeld ?_ ?_
                    rotate_left
                    ·rintro w' ⟨s0, s1, s2, s3, s4, s5, s6⟩
                     go_simp
                     with_reducible rfl
                    rotate_left
                    ·simp only [Act.put, List.setIfInBounds_toArray, List.set_cons_zero, List.set_cons_succ, i64_w, i32_w]
                     rfl
                    refine take_ (i := 5) (N := some 64) (v := ?_) (a' := ?_) #[true, true, true, true, true, true, false, false, false, false, false, false, false] rfl rfl (take_ofW HT_.out HW_.out (by kernel_rfl)) (fun _ _ _ h => h) (Or.inl ⟨by rfl, ?_⟩) hHeld ?_ ?_
                    rotate_left
                    ·rintro w' ⟨s0, s1, s2, s3, s4, s5, s6⟩
                     go_simp
                     with_reducible rfl
                    rotate_left
                    ·simp only [Act.put, List.setIfInBounds_toArray, List.set_cons_zero, List.set_cons_succ, i64_w, i32_w]
                     rfl
                    refine join_ (σ := Nat) 2 #[true, true, true, true, true, true, true, true, true, true, true, false, false] (fun s_ => [(65, .tuple #[.agg #[.int .i16 t392, .int .i16 t393, .int .i16 t394, .int .i16 t395], .int .i64 t396]), (11, .pointer (some ⟨s_, 0, none⟩)), (58, .tuple #[.agg #[.int .i16 t392, .int .i16 t393, .int .i16 t394, .int .i16 t395], .int .i64 t396]), (66, .agg #[.int .i16 t392, .int .i16 t393, .int .i16 t394, .int .i16 t395]), (67, .int .i64 t396)]) (fun s_ w' => (w'.cell? ⟨gb390, 0, none⟩ = some (.int .i16 t386) ∧ w'.cell? ⟨gb390, 1, none⟩ = some (.int .i16 t387) ∧ w'.cell? ⟨gb390, 2, none⟩ = some (.int .i16 t388) ∧ w'.cell? ⟨gb390, 3, none⟩ = some (.int .i16 t389) ∧ w'.cell? (ad391.add ((x10_3).toNat * 3)) = some (.int .i8 ((rd_T60 t382 x10_3).f0)) ∧ w'.cell? ⟨(ad391.add ((x10_3).toNat * 3)).block, (ad391.add ((x10_3).toNat * 3)).off + 1, none⟩ = some (.int .i8 ((rd_T60 t382 x10_3).f1)) ∧ w'.cell? ⟨(ad391.add ((x10_3).toNat * 3)).block, (ad391.add ((x10_3).toNat * 3)).off + 2, none⟩ = some (.int .i8 ((rd_T60 t382 x10_3).f2))) ∧ (Kd.R k60 60 w' w.heap.size (fun _ => True) (.slice (some ad391) t382.length co60) t382) ∧ (w'.heap[gp0]? = some (.cells #[.slice A0_0 l0_0.length c0_0, .int .i16 x381001_3, .int .i16 x381002_3, .int .i16 x381003_3, .int .i16 x381004_3, .bool x381005_3] 32 (0, 0))) ∧ (w'.heap[gb390]? = some (.cells #[.int .i16 t386, .int .i16 t387, .int .i16 t388, .int .i16 t389] 30 (0, 0))) ∧ (w'.heap[s_]? = some (.cells #[.int .i16 0, .int .i16 0, .int .i16 0, .int .i16 0] 30 (0, 0))) ∧ (w.heap.size ≤ s_) ∧ (w.heap.size ≤ s_) ∧ (gp0 ≠ s_) ∧ (s_ ≠ gp0) ∧ (gb390 ≠ s_) ∧ (s_ ≠ gb390) ∧ (Below w.heap.size w w')) ?_ ?_
                    rotate_left
                    ·intro hCont
                     refine two_ (i := 6) (j := 10) (Ni := some 65) (Nj := some 11) #[true, true, true, true, true, true, true, false, false, false, false, false, false] #[true, true, true, true, true, true, false, false, false, false, true, false, false] rfl rfl rfl rfl (two_of HT_.out (by kernel_rfl)) (by decide) (by decide) (fun K hK => ?_) (fun K hK => ?_)
                     ·skip
                      refine goes_ Try.func85 (by kernel_rfl) rfl #[.pointer (some ⟨gp0, 0, none⟩), .agg #[.int .i16 t386, .int .i16 t387, .int .i16 t388, .int .i16 t389], .agg #[.int .i8 ((rd_T60 t382 x10_3).f0), .int .i8 ((rd_T60 t382 x10_3).f1), .int .i8 ((rd_T60 t382 x10_3).f2)]] (by rfl) rfl rfl arg_ ?_
                      with_reducible refine (spec_l02Move.calls kj18 gp0 A0_0 c0_0 l0_0 x381001_3 x381002_3 x381003_3 x381004_3 x381005_3 t386 t387 t388 t389 ((rd_T60 t382 x10_3).f0) ((rd_T60 t382 x10_3).f1) ((rd_T60 t382 x10_3).f2) t392 t393 t394 t395 t396 _ ?side1 ?side2 ?side3 A26.out).mono ?_
                      (case side1 => exact (pl_ BK380))
                      (case side2 => repeat (first | exact (Kd.C_below HR0_0.out HB.out) | (with_reducible refine Kd.C_alloc ?_ _) | (with_reducible refine Kd.C_drewN ?_ _) | (with_reducible refine Kd.C_drew ?_)))
                      (case side3 => exact HC0_0.out)
                      rintro e w61 ⟨rfl, hb⟩
                      have HS4_ := (hb.cell (World.block_lt_of_cell? _ _ (hHeld.2.2.2.2.1))).trans (hHeld.2.2.2.2.1)
                      have HS5_ := (hb.cell (World.block_lt_of_cell? _ _ (hHeld.2.2.2.2.2.1))).trans (hHeld.2.2.2.2.2.1)
                      have HS6_ := (hb.cell (World.block_lt_of_cell? _ _ (hHeld.2.2.2.2.2.2))).trans (hHeld.2.2.2.2.2.2)
                      refine ⟨_, rfl, ?_⟩
                      have n0_ := A_ (Kd.R_below (pr_ HO_6) hb)
                      have n1_ := A_ (blk_below (pl_ BK380) hb)
                      have n2_ := A_ (blk_below (pl_ BK390) hb)
                      have n3_ := A_ (below_step (bl_ HB) hb)
                      clear HO_6
                      clear BK380
                      clear BK390
                      clear HB
                      have HO_6 := n0_
                      have BK380 := n1_
                      have BK390 := n2_
                      have HB := n3_
                      clear n0_ n1_ n2_ n3_
                      (try clear hb)
                      (try clear hb2)
                      (try clear hk)
                      (try clear hi)
                      refine hK.out _ _ ⟨(blk_cell BK390.out 0).trans rfl, (blk_cell BK390.out 1).trans rfl, (blk_cell BK390.out 2).trans rfl, (blk_cell BK390.out 3).trans rfl, HS4_, HS5_, HS6_⟩ (fun hHeld => ?_)
                      clear hK K
                      refine norm_ (a' := ?_) ?_ ?_
                      rotate_left
                      ·show Act.put _ (some 65) _ = _
                       simp only [Act.put, List.setIfInBounds_toArray, List.set_cons_zero, List.set_cons_succ, i64_w, i32_w]
                       rfl
                      refine pure_ (i := 7) (N := some 58) (v := ?_) (a' := ?_) #[true, true, true, true, true, true, true, true, false, false, false, false, false] rfl rfl (any_of HT_.out (by kernel_rfl)) (fun _ _ _ h => h) (Or.inl ⟨by rfl, ?_⟩) ?_ ?_
                      rotate_left
                      ·intro w'
                       go_simp
                       with_reducible rfl
                      rotate_left
                      ·simp only [Act.put, List.setIfInBounds_toArray, List.set_cons_zero, List.set_cons_succ, i64_w, i32_w]
                       rfl
                      refine pure_ (i := 8) (N := some 66) (v := ?_) (a' := ?_) #[true, true, true, true, true, true, true, true, true, false, false, false, false] rfl rfl (any_of HT_.out (by kernel_rfl)) (fun _ _ _ h => h) (Or.inl ⟨by rfl, ?_⟩) ?_ ?_
                      rotate_left
                      ·intro w'
                       go_simp
                       with_reducible rfl
                      rotate_left
                      ·simp only [Act.put, List.setIfInBounds_toArray, List.set_cons_zero, List.set_cons_succ, i64_w, i32_w]
                       rfl
                      refine pure_ (i := 9) (N := some 67) (v := ?_) (a' := ?_) #[true, true, true, true, true, true, true, true, true, true, false, false, false] rfl rfl (any_of HT_.out (by kernel_rfl)) (fun _ _ _ h => h) (Or.inl ⟨by rfl, ?_⟩) ?_ ?_
                      rotate_left
                      ·intro w'
                       go_simp
                       with_reducible rfl
                      rotate_left
                      ·simp only [Act.put, List.setIfInBounds_toArray, List.set_cons_zero, List.set_cons_succ, i64_w, i32_w]
                       rfl
                      refine one_ (i := 10) (N := some 11) #[true, true, true, true, true, true, true, true, true, true, true, false, false] rfl rfl (one_of HT_.out (by kernel_rfl)) (by decide) (fun K hK => ?_)
                      refine box_step ?hg (N := 11) ?hd (cs := #[.int .i16 0, .int .i16 0, .int .i16 0, .int .i16 0]) (t := 30) ?hr ?_; (case hd => rfl); (case hg => rfl); (case hr => first | (go_simp; done) | (go_simp; rfl))
                      intro gb397 hg w62 hbox hb
                      have HS4_ := (hb.cell (World.block_lt_of_cell? _ _ (hHeld.2.2.2.2.1))).trans (hHeld.2.2.2.2.1)
                      have HS5_ := (hb.cell (World.block_lt_of_cell? _ _ (hHeld.2.2.2.2.2.1))).trans (hHeld.2.2.2.2.2.1)
                      have HS6_ := (hb.cell (World.block_lt_of_cell? _ _ (hHeld.2.2.2.2.2.2))).trans (hHeld.2.2.2.2.2.2)
                      have n0_ := A_ (Kd.R_below (pr_ HO_6) hb)
                      have n1_ := A_ (blk_below (pl_ BK380) hb)
                      have n2_ := A_ (blk_below (pl_ BK390) hb)
                      have n3_ := A_ (below_step (bl_ HB) hb)
                      have n4_ := A_ (hbox)
                      have n5_ := A_ ((by rw [hg]; exact (below_size (bl_ HB)) : w.heap.size ≤ gb397))
                      have n6_ := n5_
                      have n7_ := A_ ((by rw [hg]; exact Nat.ne_of_lt (blk_lt (pl_ BK380)) : gp0 ≠ gb397))
                      have n8_ := Aside0.mk n7_.out.symm
                      have n9_ := A_ ((by rw [hg]; exact Nat.ne_of_lt (blk_lt (pl_ BK390)) : gb390 ≠ gb397))
                      have n10_ := Aside0.mk n9_.out.symm
                      clear HO_6
                      clear BK380
                      clear BK390
                      clear HB
                      have HO_6 := n0_
                      have BK380 := n1_
                      have BK390 := n2_
                      have HB := n3_
                      have BK397 := n4_
                      have GW397 := n5_
                      have GE397 := n6_
                      have NB380_397 := n7_
                      have NB397_380 := n8_
                      have NB390_397 := n9_
                      have NB397_390 := n10_
                      clear n0_ n1_ n2_ n3_ n4_ n5_ n6_ n7_ n8_ n9_ n10_
                      clear hb hbox hg
                      refine hK.out _ _ ⟨(blk_cell BK390.out 0).trans rfl, (blk_cell BK390.out 1).trans rfl, (blk_cell BK390.out 2).trans rfl, (blk_cell BK390.out 3).trans rfl, HS4_, HS5_, HS6_⟩ (fun hHeld => ?_)
                      clear hK K
                      refine norm_ (a' := ?_) ?_ ?_
                      rotate_left
                      ·show Act.put _ (some 11) _ = _
                       simp only [Act.put, List.setIfInBounds_toArray, List.set_cons_zero, List.set_cons_succ, i64_w, i32_w]
                       rfl
                      exact norm_ pa_ (hCont (gb397) _ ⟨hHeld, (pr_ HO_6), (pl_ BK380), (pl_ BK390), (pl_ BK397), GW397.out, GE397.out, NB380_397.out, NB397_380.out, NB390_397.out, NB397_390.out, (bl_ HB)⟩)
                     ·skip
                      refine box_step ?hg (N := 11) ?hd (cs := #[.int .i16 0, .int .i16 0, .int .i16 0, .int .i16 0]) (t := 30) ?hr ?_; (case hd => rfl); (case hg => rfl); (case hr => first | (go_simp; done) | (go_simp; rfl))
                      intro gb397 hg w61 hbox hb
                      have HS4_ := (hb.cell (World.block_lt_of_cell? _ _ (hHeld.2.2.2.2.1))).trans (hHeld.2.2.2.2.1)
                      have HS5_ := (hb.cell (World.block_lt_of_cell? _ _ (hHeld.2.2.2.2.2.1))).trans (hHeld.2.2.2.2.2.1)
                      have HS6_ := (hb.cell (World.block_lt_of_cell? _ _ (hHeld.2.2.2.2.2.2))).trans (hHeld.2.2.2.2.2.2)
                      have n0_ := A_ (Kd.R_below (pr_ HO_6) hb)
                      have n1_ := A_ (blk_below (pl_ BK380) hb)
                      have n2_ := A_ (blk_below (pl_ BK390) hb)
                      have n3_ := A_ (below_step (bl_ HB) hb)
                      have n4_ := A_ (hbox)
                      have n5_ := A_ ((by rw [hg]; exact (below_size (bl_ HB)) : w.heap.size ≤ gb397))
                      have n6_ := n5_
                      have n7_ := A_ ((by rw [hg]; exact Nat.ne_of_lt (blk_lt (pl_ BK380)) : gp0 ≠ gb397))
                      have n8_ := Aside0.mk n7_.out.symm
                      have n9_ := A_ ((by rw [hg]; exact Nat.ne_of_lt (blk_lt (pl_ BK390)) : gb390 ≠ gb397))
                      have n10_ := Aside0.mk n9_.out.symm
                      clear HO_6
                      clear BK380
                      clear BK390
                      clear HB
                      have HO_6 := n0_
                      have BK380 := n1_
                      have BK390 := n2_
                      have HB := n3_
                      have BK397 := n4_
                      have GW397 := n5_
                      have GE397 := n6_
                      have NB380_397 := n7_
                      have NB397_380 := n8_
                      have NB390_397 := n9_
                      have NB397_390 := n10_
                      clear n0_ n1_ n2_ n3_ n4_ n5_ n6_ n7_ n8_ n9_ n10_
                      clear hb hbox hg
                      refine hK.out _ _ ⟨(blk_cell BK390.out 0).trans rfl, (blk_cell BK390.out 1).trans rfl, (blk_cell BK390.out 2).trans rfl, (blk_cell BK390.out 3).trans rfl, HS4_, HS5_, HS6_⟩ (fun hHeld => ?_)
                      clear hK K
                      refine norm_ (a' := ?_) ?_ ?_
                      rotate_left
                      ·show Act.put _ (some 11) _ = _
                       simp only [Act.put, List.setIfInBounds_toArray, List.set_cons_zero, List.set_cons_succ, i64_w, i32_w]
                       rfl
                      refine one_ (i := 6) (N := some 65) #[true, true, true, true, true, true, true, false, false, false, true, false, false] rfl rfl (one_of HT_.out (by kernel_rfl)) (by decide) (fun K hK => ?_)
                      refine goes_ Try.func85 (by kernel_rfl) rfl #[.pointer (some ⟨gp0, 0, none⟩), .agg #[.int .i16 t386, .int .i16 t387, .int .i16 t388, .int .i16 t389], .agg #[.int .i8 ((rd_T60 t382 x10_3).f0), .int .i8 ((rd_T60 t382 x10_3).f1), .int .i8 ((rd_T60 t382 x10_3).f2)]] (by rfl) rfl rfl arg_ ?_
                      with_reducible refine (spec_l02Move.calls kj18 gp0 A0_0 c0_0 l0_0 x381001_3 x381002_3 x381003_3 x381004_3 x381005_3 t386 t387 t388 t389 ((rd_T60 t382 x10_3).f0) ((rd_T60 t382 x10_3).f1) ((rd_T60 t382 x10_3).f2) t392 t393 t394 t395 t396 _ ?side1 ?side2 ?side3 A26.out).mono ?_
                      (case side1 => exact (pl_ BK380))
                      (case side2 => repeat (first | exact (Kd.C_below HR0_0.out HB.out) | (with_reducible refine Kd.C_alloc ?_ _) | (with_reducible refine Kd.C_drewN ?_ _) | (with_reducible refine Kd.C_drew ?_)))
                      (case side3 => exact HC0_0.out)
                      rintro e w62 ⟨rfl, hb⟩
                      have HS4_ := (hb.cell (World.block_lt_of_cell? _ _ (hHeld.2.2.2.2.1))).trans (hHeld.2.2.2.2.1)
                      have HS5_ := (hb.cell (World.block_lt_of_cell? _ _ (hHeld.2.2.2.2.2.1))).trans (hHeld.2.2.2.2.2.1)
                      have HS6_ := (hb.cell (World.block_lt_of_cell? _ _ (hHeld.2.2.2.2.2.2))).trans (hHeld.2.2.2.2.2.2)
                      refine ⟨_, rfl, ?_⟩
                      have n0_ := A_ (Kd.R_below (pr_ HO_6) hb)
                      have n1_ := A_ (blk_below (pl_ BK380) hb)
                      have n2_ := A_ (blk_below (pl_ BK390) hb)
                      have n3_ := A_ (blk_below (pl_ BK397) hb)
                      have n4_ := A_ (below_step (bl_ HB) hb)
                      clear HO_6
                      clear BK380
                      clear BK390
                      clear BK397
                      clear HB
                      have HO_6 := n0_
                      have BK380 := n1_
                      have BK390 := n2_
                      have BK397 := n3_
                      have HB := n4_
                      clear n0_ n1_ n2_ n3_ n4_
                      (try clear hb)
                      (try clear hb2)
                      (try clear hk)
                      (try clear hi)
                      refine hK.out _ _ ⟨(blk_cell BK390.out 0).trans rfl, (blk_cell BK390.out 1).trans rfl, (blk_cell BK390.out 2).trans rfl, (blk_cell BK390.out 3).trans rfl, HS4_, HS5_, HS6_⟩ (fun hHeld => ?_)
                      clear hK K
                      refine norm_ (a' := ?_) ?_ ?_
                      rotate_left
                      ·show Act.put _ (some 65) _ = _
                       simp only [Act.put, List.setIfInBounds_toArray, List.set_cons_zero, List.set_cons_succ, i64_w, i32_w]
                       rfl
                      refine pure_ (i := 7) (N := some 58) (v := ?_) (a' := ?_) #[true, true, true, true, true, true, true, true, false, false, true, false, false] rfl rfl (any_of HT_.out (by kernel_rfl)) (fun _ _ _ h => h) (Or.inl ⟨by rfl, ?_⟩) ?_ ?_
                      rotate_left
                      ·intro w'
                       go_simp
                       with_reducible rfl
                      rotate_left
                      ·simp only [Act.put, List.setIfInBounds_toArray, List.set_cons_zero, List.set_cons_succ, i64_w, i32_w]
                       rfl
                      refine pure_ (i := 8) (N := some 66) (v := ?_) (a' := ?_) #[true, true, true, true, true, true, true, true, true, false, true, false, false] rfl rfl (any_of HT_.out (by kernel_rfl)) (fun _ _ _ h => h) (Or.inl ⟨by rfl, ?_⟩) ?_ ?_
                      rotate_left
                      ·intro w'
                       go_simp
                       with_reducible rfl
                      rotate_left
                      ·simp only [Act.put, List.setIfInBounds_toArray, List.set_cons_zero, List.set_cons_succ, i64_w, i32_w]
                       rfl
                      refine pure_ (i := 9) (N := some 67) (v := ?_) (a' := ?_) #[true, true, true, true, true, true, true, true, true, true, true, false, false] rfl rfl (any_of HT_.out (by kernel_rfl)) (fun _ _ _ h => h) (Or.inl ⟨by rfl, ?_⟩) ?_ ?_
                      rotate_left
                      ·intro w'
                       go_simp
                       with_reducible rfl
                      rotate_left
                      ·simp only [Act.put, List.setIfInBounds_toArray, List.set_cons_zero, List.set_cons_succ, i64_w, i32_w]
                       rfl
                      exact norm_ pa_ (hCont (gb397) _ ⟨hHeld, (pr_ HO_6), (pl_ BK380), (pl_ BK390), (pl_ BK397), GW397.out, GE397.out, NB380_397.out, NB397_380.out, NB390_397.out, NB397_390.out, (bl_ HB)⟩)
                    rintro gb397 w63 ⟨hS_, h0_, h1_, h2_, h3_, h4_, h5_, h6_, h7_, h8_, h9_, h10_⟩
                    have n0_ : Aside0 (Kd.R k60 60 w63 w.heap.size (fun _ => True) (.slice (some ad391) t382.length co60) t382) := ⟨h0_⟩
                    have n1_ : Aside0 (w63.heap[gp0]? = some (.cells #[.slice A0_0 l0_0.length c0_0, .int .i16 x381001_3, .int .i16 x381002_3, .int .i16 x381003_3, .int .i16 x381004_3, .bool x381005_3] 32 (0, 0))) := ⟨h1_⟩
                    have n2_ : Aside0 (w63.heap[gb390]? = some (.cells #[.int .i16 t386, .int .i16 t387, .int .i16 t388, .int .i16 t389] 30 (0, 0))) := ⟨h2_⟩
                    have n3_ : Aside0 (w63.heap[gb397]? = some (.cells #[.int .i16 0, .int .i16 0, .int .i16 0, .int .i16 0] 30 (0, 0))) := ⟨h3_⟩
                    have n4_ : Aside0 (w.heap.size ≤ gb397) := ⟨h4_⟩
                    have n5_ : Aside0 (w.heap.size ≤ gb397) := ⟨h5_⟩
                    have n6_ : Aside0 (gp0 ≠ gb397) := ⟨h6_⟩
                    have n7_ : Aside0 (gb397 ≠ gp0) := ⟨h7_⟩
                    have n8_ : Aside0 (gb390 ≠ gb397) := ⟨h8_⟩
                    have n9_ : Aside0 (gb397 ≠ gb390) := ⟨h9_⟩
                    have n10_ : Aside0 (Below w.heap.size w w63) := ⟨h10_⟩
                    clear HO_6
                    clear BK380
                    clear BK390
                    clear HB
                    clear h0_ h1_ h2_ h3_ h4_ h5_ h6_ h7_ h8_ h9_ h10_
                    have HO_6 := n0_
                    have BK380 := n1_
                    have BK390 := n2_
                    have BK397 := n3_
                    have GW397 := n4_
                    have GE397 := n5_
                    have NB380_397 := n6_
                    have NB397_380 := n7_
                    have NB390_397 := n8_
                    have NB397_390 := n9_
                    have HB := n10_
                    clear n0_ n1_ n2_ n3_ n4_ n5_ n6_ n7_ n8_ n9_ n10_
                    have hHeld : w63.cell? ⟨gb390, 0, none⟩ = some (.int .i16 t386) ∧ w63.cell? ⟨gb390, 1, none⟩ = some (.int .i16 t387) ∧ w63.cell? ⟨gb390, 2, none⟩ = some (.int .i16 t388) ∧ w63.cell? ⟨gb390, 3, none⟩ = some (.int .i16 t389) ∧ w63.cell? (ad391.add ((x10_3).toNat * 3)) = some (.int .i8 ((rd_T60 t382 x10_3).f0)) ∧ w63.cell? ⟨(ad391.add ((x10_3).toNat * 3)).block, (ad391.add ((x10_3).toNat * 3)).off + 1, none⟩ = some (.int .i8 ((rd_T60 t382 x10_3).f1)) ∧ w63.cell? ⟨(ad391.add ((x10_3).toNat * 3)).block, (ad391.add ((x10_3).toNat * 3)).off + 2, none⟩ = some (.int .i8 ((rd_T60 t382 x10_3).f2)) := hS_
                    refine norm_ (a' := ?_) ?_ ?_
                    rotate_left
                    ·simp only [putAll, Act.put, List.setIfInBounds_toArray, List.set_cons_zero, List.set_cons_succ]
                     rfl
                    refine one_ (i := 11) (N := none) #[true, true, true, true, true, true, true, true, true, true, true, true, false] rfl rfl (one_of HT_.out (by kernel_rfl)) (by decide) (fun K hK => ?_)
                    have hs64 : w63.cell? ⟨gb397, 0, none⟩ = some (.int .i16 0) := (blk_cell BK397.out 0).trans rfl
                    have hfs64 := blk_frozen BK397.out 0
                    have hns64_0 := NB380_397.out
                    have hns64_1 := NB390_397.out
                    have hms64_0 := NB397_380.out
                    have hms64_1 := NB397_390.out
                    have hs65 : w63.cell? ⟨gb397, 1, none⟩ = some (.int .i16 0) := (blk_cell BK397.out 1).trans rfl
                    have hfs65 := blk_frozen BK397.out 1
                    have hns65_0 := NB380_397.out
                    have hns65_1 := NB390_397.out
                    have hms65_0 := NB397_380.out
                    have hms65_1 := NB397_390.out
                    have hs66 : w63.cell? ⟨gb397, 2, none⟩ = some (.int .i16 0) := (blk_cell BK397.out 2).trans rfl
                    have hfs66 := blk_frozen BK397.out 2
                    have hns66_0 := NB380_397.out
                    have hns66_1 := NB390_397.out
                    have hms66_0 := NB397_380.out
                    have hms66_1 := NB397_390.out
                    have hs67 : w63.cell? ⟨gb397, 3, none⟩ = some (.int .i16 0) := (blk_cell BK397.out 3).trans rfl
                    have hfs67 := blk_frozen BK397.out 3
                    have hns67_0 := NB380_397.out
                    have hns67_1 := NB390_397.out
                    have hms67_0 := NB397_380.out
                    have hms67_1 := NB397_390.out
                    refine skip_ (w1 := ?_) (by rfl) rfl ?_ ?_
                    rotate_left
                    ·go_simp
                     rfl
                    refine hK.out _ _ ⟨((cell_far (p := ⟨gb397, _, none⟩) NB390_397.out _).trans ((cf3_ NB390_397 (hHeld.1)))), ((cell_far (p := ⟨gb397, _, none⟩) NB390_397.out _).trans ((cf3_ NB390_397 (hHeld.2.1)))), ((cell_far (p := ⟨gb397, _, none⟩) NB390_397.out _).trans ((cf3_ NB390_397 (hHeld.2.2.1)))), ((cell_far (p := ⟨gb397, _, none⟩) NB390_397.out _).trans ((cf3_ NB390_397 (hHeld.2.2.2.1)))), ((cell_far (p := ⟨gb397, _, none⟩) (by first | exact Kd.own_blk (Kd.R_ne HO_6.out BK397.out (by decide)) | (rw [add_block]; exact Kd.own_blk (Kd.R_ne HO_6.out BK397.out (by decide))) | (show (Addr.add _ _).block ≠ _; rw [add_block]; exact Kd.own_blk (Kd.R_ne HO_6.out BK397.out (by decide))) | (dsimp only; exact Kd.own_blk (Kd.R_ne HO_6.out BK397.out (by decide)))) _).trans (((cell_far (p := ⟨gb397, _, none⟩) (by first | exact Kd.own_blk (Kd.R_ne HO_6.out BK397.out (by decide)) | (rw [add_block]; exact Kd.own_blk (Kd.R_ne HO_6.out BK397.out (by decide))) | (show (Addr.add _ _).block ≠ _; rw [add_block]; exact Kd.own_blk (Kd.R_ne HO_6.out BK397.out (by decide))) | (dsimp only; exact Kd.own_blk (Kd.R_ne HO_6.out BK397.out (by decide)))) _).trans (((cell_far (p := ⟨gb397, _, none⟩) (by first | exact Kd.own_blk (Kd.R_ne HO_6.out BK397.out (by decide)) | (rw [add_block]; exact Kd.own_blk (Kd.R_ne HO_6.out BK397.out (by decide))) | (show (Addr.add _ _).block ≠ _; rw [add_block]; exact Kd.own_blk (Kd.R_ne HO_6.out BK397.out (by decide))) | (dsimp only; exact Kd.own_blk (Kd.R_ne HO_6.out BK397.out (by decide)))) _).trans (((cell_far (p := ⟨gb397, _, none⟩) (by first | exact Kd.own_blk (Kd.R_ne HO_6.out BK397.out (by decide)) | (rw [add_block]; exact Kd.own_blk (Kd.R_ne HO_6.out BK397.out (by decide))) | (show (Addr.add _ _).block ≠ _; rw [add_block]; exact Kd.own_blk (Kd.R_ne HO_6.out BK397.out (by decide))) | (dsimp only; exact Kd.own_blk (Kd.R_ne HO_6.out BK397.out (by decide)))) _).trans (hHeld.2.2.2.2.1)))))))), ((cell_far (p := ⟨gb397, _, none⟩) (by first | exact Kd.own_blk (Kd.R_ne HO_6.out BK397.out (by decide)) | (rw [add_block]; exact Kd.own_blk (Kd.R_ne HO_6.out BK397.out (by decide))) | (show (Addr.add _ _).block ≠ _; rw [add_block]; exact Kd.own_blk (Kd.R_ne HO_6.out BK397.out (by decide))) | (dsimp only; exact Kd.own_blk (Kd.R_ne HO_6.out BK397.out (by decide)))) _).trans (((cell_far (p := ⟨gb397, _, none⟩) (by first | exact Kd.own_blk (Kd.R_ne HO_6.out BK397.out (by decide)) | (rw [add_block]; exact Kd.own_blk (Kd.R_ne HO_6.out BK397.out (by decide))) | (show (Addr.add _ _).block ≠ _; rw [add_block]; exact Kd.own_blk (Kd.R_ne HO_6.out BK397.out (by decide))) | (dsimp only; exact Kd.own_blk (Kd.R_ne HO_6.out BK397.out (by decide)))) _).trans (((cell_far (p := ⟨gb397, _, none⟩) (by first | exact Kd.own_blk (Kd.R_ne HO_6.out BK397.out (by decide)) | (rw [add_block]; exact Kd.own_blk (Kd.R_ne HO_6.out BK397.out (by decide))) | (show (Addr.add _ _).block ≠ _; rw [add_block]; exact Kd.own_blk (Kd.R_ne HO_6.out BK397.out (by decide))) | (dsimp only; exact Kd.own_blk (Kd.R_ne HO_6.out BK397.out (by decide)))) _).trans (((cell_far (p := ⟨gb397, _, none⟩) (by first | exact Kd.own_blk (Kd.R_ne HO_6.out BK397.out (by decide)) | (rw [add_block]; exact Kd.own_blk (Kd.R_ne HO_6.out BK397.out (by decide))) | (show (Addr.add _ _).block ≠ _; rw [add_block]; exact Kd.own_blk (Kd.R_ne HO_6.out BK397.out (by decide))) | (dsimp only; exact Kd.own_blk (Kd.R_ne HO_6.out BK397.out (by decide)))) _).trans (hHeld.2.2.2.2.2.1)))))))), ((cell_far (p := ⟨gb397, _, none⟩) (by first | exact Kd.own_blk (Kd.R_ne HO_6.out BK397.out (by decide)) | (rw [add_block]; exact Kd.own_blk (Kd.R_ne HO_6.out BK397.out (by decide))) | (show (Addr.add _ _).block ≠ _; rw [add_block]; exact Kd.own_blk (Kd.R_ne HO_6.out BK397.out (by decide))) | (dsimp only; exact Kd.own_blk (Kd.R_ne HO_6.out BK397.out (by decide)))) _).trans (((cell_far (p := ⟨gb397, _, none⟩) (by first | exact Kd.own_blk (Kd.R_ne HO_6.out BK397.out (by decide)) | (rw [add_block]; exact Kd.own_blk (Kd.R_ne HO_6.out BK397.out (by decide))) | (show (Addr.add _ _).block ≠ _; rw [add_block]; exact Kd.own_blk (Kd.R_ne HO_6.out BK397.out (by decide))) | (dsimp only; exact Kd.own_blk (Kd.R_ne HO_6.out BK397.out (by decide)))) _).trans (((cell_far (p := ⟨gb397, _, none⟩) (by first | exact Kd.own_blk (Kd.R_ne HO_6.out BK397.out (by decide)) | (rw [add_block]; exact Kd.own_blk (Kd.R_ne HO_6.out BK397.out (by decide))) | (show (Addr.add _ _).block ≠ _; rw [add_block]; exact Kd.own_blk (Kd.R_ne HO_6.out BK397.out (by decide))) | (dsimp only; exact Kd.own_blk (Kd.R_ne HO_6.out BK397.out (by decide)))) _).trans (((cell_far (p := ⟨gb397, _, none⟩) (by first | exact Kd.own_blk (Kd.R_ne HO_6.out BK397.out (by decide)) | (rw [add_block]; exact Kd.own_blk (Kd.R_ne HO_6.out BK397.out (by decide))) | (show (Addr.add _ _).block ≠ _; rw [add_block]; exact Kd.own_blk (Kd.R_ne HO_6.out BK397.out (by decide))) | (dsimp only; exact Kd.own_blk (Kd.R_ne HO_6.out BK397.out (by decide)))) _).trans (hHeld.2.2.2.2.2.2))))))))⟩ (fun hHeld => ?_)
                    clear hK K
                    refine pure_ (i := 12) (N := some 12) (v := ?_) (a' := ?_) #[true, true, true, true, true, true, true, true, true, true, true, true, true] rfl rfl (any_of HT_.out (by kernel_rfl)) (fun _ _ _ h => h) (Or.inl ⟨by rfl, ?_⟩) ?_ ?_
                    rotate_left
                    ·intro w'
                     go_simp
                     with_reducible rfl
                    rotate_left
                    ·simp only [Act.put, List.setIfInBounds_toArray, List.set_cons_zero, List.set_cons_succ, i64_w, i32_w]
                     rfl
                    refine done_ (done_of HT_.out (by kernel_rfl)) ?_
                    have hnb68 := NB397_380.out
                    have hnc68 := NB380_397.out
                    have hnb69 := NB397_390.out
                    have hnc69 := NB390_397.out
                    have hcz70_0 : w63.cell? ⟨gb397, 0, none⟩ = some (.int .i16 0) := (blk_cell BK397.out 0).trans rfl
                    have hcz70_1 : w63.cell? ⟨gb397, 1, none⟩ = some (.int .i16 0) := (blk_cell BK397.out 1).trans rfl
                    have hcz70_2 : w63.cell? ⟨gb397, 2, none⟩ = some (.int .i16 0) := (blk_cell BK397.out 2).trans rfl
                    have hcz70_3 : w63.cell? ⟨gb397, 3, none⟩ = some (.int .i16 0) := (blk_cell BK397.out 3).trans rfl
                    have hfz70_0 := blk_frozen BK397.out 0
                    have hfz70_1 := blk_frozen BK397.out 1
                    have hfz70_2 := blk_frozen BK397.out 2
                    have hfz70_3 := blk_frozen BK397.out 3
                    try go_wp2_with (first | ((with_reducible refine gate_callee (f := 78) rfl ?_); refine goesL_ (some 73) rfl rfl Try.func78 (by kernel_rfl) rfl #[.pointer (some ⟨gp0, 0, none⟩), .agg #[.int .i16 t392, .int .i16 t393, .int .i16 t394, .int .i16 t395]] rfl arg_ ?_; (with_reducible refine (spec_l02Index.calls kj18 gp0 A0_0 c0_0 l0_0 x381001_3 x381002_3 x381003_3 x381004_3 x381005_3 t392 t393 t394 t395 t398 _ ?side1 ?side2 ?side3 A28.out).mono ?_); (case side1 => exact (pf_ BK380 NB380_397)); (case side2 => exact Kd.C_below HR0_0.out (bs_ HB GE397)); (case side3 => exact HC0_0.out); rintro e w71 ⟨rfl, hb⟩; refine ⟨_, rfl, ?_⟩; have n0_ := A_ (Kd.R_below (by (with_reducible repeat (first | apply Kd.R_alloc | apply Kd.R_drewN | apply Kd.R_drew)); exact (rf4_ HO_6 BK397 (by decide))) hb); have n1_ := A_ (blk_below (g := gp0) (o := .cells #[.slice A0_0 l0_0.length c0_0, .int .i16 x381001_3, .int .i16 x381002_3, .int .i16 x381003_3, .int .i16 x381004_3, .bool x381005_3] 32 (0, 0)) (pf_ BK380 NB380_397) hb); have n2_ := A_ (blk_below (g := gb390) (o := .cells #[.int .i16 t386, .int .i16 t387, .int .i16 t388, .int .i16 t389] 30 (0, 0)) (pf_ BK390 NB390_397) hb); have n3_ := A_ (blk_below (g := gb397) (o := .cells #[.int .i16 t392, .int .i16 t393, .int .i16 t394, .int .i16 t395] 30 (0, 0)) (by (with_reducible repeat (first | refine blk_drewN ?_ _ | refine blk_drew ?_ | refine blk_alloc ?_ _)); refine blk_put (cs := #[.int .i16 t392, .int .i16 t393, .int .i16 t394, .int .i16 0]) ?_ 3 _ rfl; (with_reducible repeat (first | refine blk_drewN ?_ _ | refine blk_drew ?_ | refine blk_alloc ?_ _)); refine blk_put (cs := #[.int .i16 t392, .int .i16 t393, .int .i16 0, .int .i16 0]) ?_ 2 _ rfl; (with_reducible repeat (first | refine blk_drewN ?_ _ | refine blk_drew ?_ | refine blk_alloc ?_ _)); refine blk_put (cs := #[.int .i16 t392, .int .i16 0, .int .i16 0, .int .i16 0]) ?_ 1 _ rfl; (with_reducible repeat (first | refine blk_drewN ?_ _ | refine blk_drew ?_ | refine blk_alloc ?_ _)); refine blk_put (cs := #[.int .i16 0, .int .i16 0, .int .i16 0, .int .i16 0]) ?_ 0 _ rfl; (with_reducible repeat (first | refine blk_drewN ?_ _ | refine blk_drew ?_ | refine blk_alloc ?_ _)); exact BK397.out) hb); have n4_ := A_ (below_step (bs_ HB GE397) hb); clear HO_6; clear BK380; clear BK390; clear BK397; clear HB; have HO_6 := n0_; have BK380 := n1_; have BK390 := n2_; have BK397 := n3_; have HB := n4_; clear n0_ n1_ n2_ n3_ n4_; (try clear hb); (try clear hb2); (try clear hk); (try clear hi); have p399 : 0 ≤ (t398 : Int) := asm_; have q399 : t398 < (l1.length : Int) := asm_; obtain ⟨ad399, e399, hx399_0⟩ := Kd.at_int HR1.out t398 p399 q399; obtain rfl : ad385 = ad399 := (by injection e399); (try replace hx399_0 := (HB.out.cell (World.block_lt_of_cell? w _ hx399_0)).trans hx399_0); replace p399 := eq_true p399; replace q399 := eq_true q399))
                    go_roundg kj18
                    case measure => have := HK1.out; have := HJ9.out; have := HK3.out; have := HJ18.out; omega
                    case rel => exact ⟨(wrap64 (x10_3 + 1)), (x381001_3), (x381002_3), (x381003_3), (x381004_3), (x381005_3), rs_, H', ⟨by have := HK1.out; have := HJ9.out; have := HK3.out; have := HJ18.out; omega⟩, ⟨pr_ HO_6⟩, ⟨pl_ BK380⟩, ⟨pl_ BK390⟩, ⟨bl_ HB⟩⟩
                 ·rw [if_neg c30] at H
                  exact absurd H (by simp)
                ·rw [if_neg c29] at H
                 exact absurd H (by simp)
               ·rw [if_neg c27] at H
                have c27b0 : (t396 == 0) = false := beq_eq_false_iff_ne.mpr c27
                have c27b1 : (t396 != 0) = true := bne_iff_ne.mpr c27
                have H' := Aside0.mk H
                clear H
                try go_wp2
                have n0_ := A_ (Kd.R_drew HO_6.out)
                have n1_ := A_ (blk_drew BK380.out)
                have n2_ := A_ (blk_drew BK390.out)
                have n3_ := A_ (below_drew1 HB.out)
                clear HO_6
                clear BK380
                clear BK390
                clear HB
                have HO_6 := n0_
                have BK380 := n1_
                have BK390 := n2_
                have HB := n3_
                clear n0_ n1_ n2_ n3_
                obtain ⟨Ao73, co73, eo73⟩ := Kd.R_slice HO_6.out
                (first | subst eo73 | (injection eo73 with f1_ f2_ f3_; have f4_ := f1_.symm; have f5_ := f3_.symm; clear f1_ f2_ f3_; subst f4_; subst f5_))
                have p391 : 0 ≤ (x10_3 : Int) := asm_
                have q391 : x10_3 < (t382.length : Int) := asm_
                obtain ⟨ad391, e391, hx391_0, hx391_1, hx391_2⟩ := at_T60 (Kd.R_reads' HO_6.out).2.2 x10_3 p391 q391
                cases e391
                replace p391 := eq_true p391
                replace q391 := eq_true q391
                refine start_ (n := 13) (S := fun w' => w'.cell? ⟨gb390, 0, none⟩ = some (.int .i16 t386) ∧ w'.cell? ⟨gb390, 1, none⟩ = some (.int .i16 t387) ∧ w'.cell? ⟨gb390, 2, none⟩ = some (.int .i16 t388) ∧ w'.cell? ⟨gb390, 3, none⟩ = some (.int .i16 t389) ∧ w'.cell? (ad391.add ((x10_3).toNat * 3)) = some (.int .i8 ((rd_T60 t382 x10_3).f0)) ∧ w'.cell? ⟨(ad391.add ((x10_3).toNat * 3)).block, (ad391.add ((x10_3).toNat * 3)).off + 1, none⟩ = some (.int .i8 ((rd_T60 t382 x10_3).f1)) ∧ w'.cell? ⟨(ad391.add ((x10_3).toNat * 3)).block, (ad391.add ((x10_3).toNat * 3)).off + 2, none⟩ = some (.int .i8 ((rd_T60 t382 x10_3).f2))) (ds := []) #[false, false, false, false, false, false, false, false, false, false, false, false, false] (by kernel_rfl) rfl rfl ⟨(blk_cell BK390.out 0).trans rfl, (blk_cell BK390.out 1).trans rfl, (blk_cell BK390.out 2).trans rfl, (blk_cell BK390.out 3).trans rfl, hx391_0, hx391_1, hx391_2⟩ (fun hHeld => ?_); refine with_tabW spec_l02Broken.tab13 spec_l02Broken.bits13 (fun HT_ HW_ => ?_)
                generalize wc.drew = w72 at HO_6 BK380 BK390 HB hx391_0 hx391_1 hx391_2 hHeld ⊢
                refine pure_ (i := 0) (N := some 59) (v := ?_) (a' := ?_) #[true, false, false, false, false, false, false, false, false, false, false, false, false] rfl rfl (any_of HT_.out (by kernel_rfl)) (fun _ _ _ h => h) (Or.inl ⟨by rfl, ?_⟩) ?_ ?_
                rotate_left
                ·intro w'
                 go_simp
                 with_reducible rfl
                rotate_left
                ·simp only [Act.put, List.setIfInBounds_toArray, List.set_cons_zero, List.set_cons_succ, i64_w, i32_w]
                 rfl
                refine pure_ (i := 2) (N := some 61) (v := ?_) (a' := ?_) #[true, false, true, false, false, false, false, false, false, false, false, false, false] rfl rfl (any_of HT_.out (by kernel_rfl)) (fun _ _ _ h => h) (Or.inl ⟨by rfl, ?_⟩) ?_ ?_
                rotate_left
                ·intro w'
                 go_simp
                 with_reducible rfl
                rotate_left
                ·simp only [Act.put, List.setIfInBounds_toArray, List.set_cons_zero, List.set_cons_succ, i64_w, i32_w]
                 rfl
                refine pure_ (i := 3) (N := some 62) (v := ?_) (a' := ?_) #[true, false, true, true, false, false, false, false, false, false, false, false, false] rfl rfl (any_of HT_.out (by kernel_rfl)) (fun _ _ _ h => h) (Or.inl ⟨by rfl, ?_⟩) ?_ ?_
                rotate_left
                ·intro w'
                 go_simp
                 with_reducible rfl
                rotate_left
                ·simp only [Act.put, List.setIfInBounds_toArray, List.set_cons_zero, List.set_cons_succ, i64_w, i32_w]
                 rfl
                refine pure_ (i := 4) (N := some 63) (v := ?_) (a' := ?_) #[true, false, true, true, true, false, false, false, false, false, false, false, false] rfl rfl (any_of HT_.out (by kernel_rfl)) (fun _ _ _ h => h) (Or.inl ⟨by rfl, ?_⟩) ?_ ?_
                rotate_left
                ·intro w'
                 go_simp
                 with_reducible rfl
                rotate_left
                ·simp only [Act.put, List.setIfInBounds_toArray, List.set_cons_zero, List.set_cons_succ, i64_w, i32_w]
                 rfl
                refine take_ (i := 1) (N := some 60) (v := ?_) (a' := ?_) #[true, true, true, true, true, false, false, false, false, false, false, false, false] rfl rfl (take_ofW HT_.out HW_.out (by kernel_rfl)) (fun _ _ _ h => h) (Or.inl ⟨by rfl, ?_⟩) hHeld ?_ ?_
                rotate_left
                ·rintro w' ⟨s0, s1, s2, s3, s4, s5, s6⟩
                 go_simp
                 with_reducible rfl
                rotate_left
                ·simp only [Act.put, List.setIfInBounds_toArray, List.set_cons_zero, List.set_cons_succ, i64_w, i32_w]
                 rfl
                refine take_ (i := 5) (N := some 64) (v := ?_) (a' := ?_) #[true, true, true, true, true, true, false, false, false, false, false, false, false] rfl rfl (take_ofW HT_.out HW_.out (by kernel_rfl)) (fun _ _ _ h => h) (Or.inl ⟨by rfl, ?_⟩) hHeld ?_ ?_
                rotate_left
                ·rintro w' ⟨s0, s1, s2, s3, s4, s5, s6⟩
                 go_simp
                 with_reducible rfl
                rotate_left
                ·simp only [Act.put, List.setIfInBounds_toArray, List.set_cons_zero, List.set_cons_succ, i64_w, i32_w]
                 rfl
                refine join_ (σ := Nat) 2 #[true, true, true, true, true, true, true, true, true, true, true, false, false] (fun s_ => [(65, .tuple #[.agg #[.int .i16 t392, .int .i16 t393, .int .i16 t394, .int .i16 t395], .int .i64 t396]), (11, .pointer (some ⟨s_, 0, none⟩)), (58, .tuple #[.agg #[.int .i16 t392, .int .i16 t393, .int .i16 t394, .int .i16 t395], .int .i64 t396]), (66, .agg #[.int .i16 t392, .int .i16 t393, .int .i16 t394, .int .i16 t395]), (67, .int .i64 t396)]) (fun s_ w' => (w'.cell? ⟨gb390, 0, none⟩ = some (.int .i16 t386) ∧ w'.cell? ⟨gb390, 1, none⟩ = some (.int .i16 t387) ∧ w'.cell? ⟨gb390, 2, none⟩ = some (.int .i16 t388) ∧ w'.cell? ⟨gb390, 3, none⟩ = some (.int .i16 t389) ∧ w'.cell? (ad391.add ((x10_3).toNat * 3)) = some (.int .i8 ((rd_T60 t382 x10_3).f0)) ∧ w'.cell? ⟨(ad391.add ((x10_3).toNat * 3)).block, (ad391.add ((x10_3).toNat * 3)).off + 1, none⟩ = some (.int .i8 ((rd_T60 t382 x10_3).f1)) ∧ w'.cell? ⟨(ad391.add ((x10_3).toNat * 3)).block, (ad391.add ((x10_3).toNat * 3)).off + 2, none⟩ = some (.int .i8 ((rd_T60 t382 x10_3).f2))) ∧ (Kd.R k60 60 w' w.heap.size (fun _ => True) (.slice (some ad391) t382.length co73) t382) ∧ (w'.heap[gp0]? = some (.cells #[.slice A0_0 l0_0.length c0_0, .int .i16 x381001_3, .int .i16 x381002_3, .int .i16 x381003_3, .int .i16 x381004_3, .bool x381005_3] 32 (0, 0))) ∧ (w'.heap[gb390]? = some (.cells #[.int .i16 t386, .int .i16 t387, .int .i16 t388, .int .i16 t389] 30 (0, 0))) ∧ (w'.heap[s_]? = some (.cells #[.int .i16 0, .int .i16 0, .int .i16 0, .int .i16 0] 30 (0, 0))) ∧ (w.heap.size ≤ s_) ∧ (w.heap.size ≤ s_) ∧ (gp0 ≠ s_) ∧ (s_ ≠ gp0) ∧ (gb390 ≠ s_) ∧ (s_ ≠ gb390) ∧ (Below w.heap.size w w')) ?_ ?_
                rotate_left
                ·intro hCont
                 refine two_ (i := 6) (j := 10) (Ni := some 65) (Nj := some 11) #[true, true, true, true, true, true, true, false, false, false, false, false, false] #[true, true, true, true, true, true, false, false, false, false, true, false, false] rfl rfl rfl rfl (two_of HT_.out (by kernel_rfl)) (by decide) (by decide) (fun K hK => ?_) (fun K hK => ?_)
                 ·skip
                  refine goes_ Try.func85 (by kernel_rfl) rfl #[.pointer (some ⟨gp0, 0, none⟩), .agg #[.int .i16 t386, .int .i16 t387, .int .i16 t388, .int .i16 t389], .agg #[.int .i8 ((rd_T60 t382 x10_3).f0), .int .i8 ((rd_T60 t382 x10_3).f1), .int .i8 ((rd_T60 t382 x10_3).f2)]] (by rfl) rfl rfl arg_ ?_
                  with_reducible refine (spec_l02Move.calls kj18 gp0 A0_0 c0_0 l0_0 x381001_3 x381002_3 x381003_3 x381004_3 x381005_3 t386 t387 t388 t389 ((rd_T60 t382 x10_3).f0) ((rd_T60 t382 x10_3).f1) ((rd_T60 t382 x10_3).f2) t392 t393 t394 t395 t396 _ ?side1 ?side2 ?side3 A26.out).mono ?_
                  (case side1 => exact (pl_ BK380))
                  (case side2 => repeat (first | exact (Kd.C_below HR0_0.out HB.out) | (with_reducible refine Kd.C_alloc ?_ _) | (with_reducible refine Kd.C_drewN ?_ _) | (with_reducible refine Kd.C_drew ?_)))
                  (case side3 => exact HC0_0.out)
                  rintro e w74 ⟨rfl, hb⟩
                  have HS4_ := (hb.cell (World.block_lt_of_cell? _ _ (hHeld.2.2.2.2.1))).trans (hHeld.2.2.2.2.1)
                  have HS5_ := (hb.cell (World.block_lt_of_cell? _ _ (hHeld.2.2.2.2.2.1))).trans (hHeld.2.2.2.2.2.1)
                  have HS6_ := (hb.cell (World.block_lt_of_cell? _ _ (hHeld.2.2.2.2.2.2))).trans (hHeld.2.2.2.2.2.2)
                  refine ⟨_, rfl, ?_⟩
                  have n0_ := A_ (Kd.R_below (pr_ HO_6) hb)
                  have n1_ := A_ (blk_below (pl_ BK380) hb)
                  have n2_ := A_ (blk_below (pl_ BK390) hb)
                  have n3_ := A_ (below_step (bl_ HB) hb)
                  clear HO_6
                  clear BK380
                  clear BK390
                  clear HB
                  have HO_6 := n0_
                  have BK380 := n1_
                  have BK390 := n2_
                  have HB := n3_
                  clear n0_ n1_ n2_ n3_
                  (try clear hb)
                  (try clear hb2)
                  (try clear hk)
                  (try clear hi)
                  refine hK.out _ _ ⟨(blk_cell BK390.out 0).trans rfl, (blk_cell BK390.out 1).trans rfl, (blk_cell BK390.out 2).trans rfl, (blk_cell BK390.out 3).trans rfl, HS4_, HS5_, HS6_⟩ (fun hHeld => ?_)
                  clear hK K
                  refine norm_ (a' := ?_) ?_ ?_
                  rotate_left
                  ·show Act.put _ (some 65) _ = _
                   simp only [Act.put, List.setIfInBounds_toArray, List.set_cons_zero, List.set_cons_succ, i64_w, i32_w]
                   rfl
                  refine pure_ (i := 7) (N := some 58) (v := ?_) (a' := ?_) #[true, true, true, true, true, true, true, true, false, false, false, false, false] rfl rfl (any_of HT_.out (by kernel_rfl)) (fun _ _ _ h => h) (Or.inl ⟨by rfl, ?_⟩) ?_ ?_
                  rotate_left
                  ·intro w'
                   go_simp
                   with_reducible rfl
                  rotate_left
                  ·simp only [Act.put, List.setIfInBounds_toArray, List.set_cons_zero, List.set_cons_succ, i64_w, i32_w]
                   rfl
                  refine pure_ (i := 8) (N := some 66) (v := ?_) (a' := ?_) #[true, true, true, true, true, true, true, true, true, false, false, false, false] rfl rfl (any_of HT_.out (by kernel_rfl)) (fun _ _ _ h => h) (Or.inl ⟨by rfl, ?_⟩) ?_ ?_
                  rotate_left
                  ·intro w'
                   go_simp
                   with_reducible rfl
                  rotate_left
                  ·simp only [Act.put, List.setIfInBounds_toArray, List.set_cons_zero, List.set_cons_succ, i64_w, i32_w]
                   rfl
                  refine pure_ (i := 9) (N := some 67) (v := ?_) (a' := ?_) #[true, true, true, true, true, true, true, true, true, true, false, false, false] rfl rfl (any_of HT_.out (by kernel_rfl)) (fun _ _ _ h => h) (Or.inl ⟨by rfl, ?_⟩) ?_ ?_
                  rotate_left
                  ·intro w'
                   go_simp
                   with_reducible rfl
                  rotate_left
                  ·simp only [Act.put, List.setIfInBounds_toArray, List.set_cons_zero, List.set_cons_succ, i64_w, i32_w]
                   rfl
                  refine one_ (i := 10) (N := some 11) #[true, true, true, true, true, true, true, true, true, true, true, false, false] rfl rfl (one_of HT_.out (by kernel_rfl)) (by decide) (fun K hK => ?_)
                  refine box_step ?hg (N := 11) ?hd (cs := #[.int .i16 0, .int .i16 0, .int .i16 0, .int .i16 0]) (t := 30) ?hr ?_; (case hd => rfl); (case hg => rfl); (case hr => first | (go_simp; done) | (go_simp; rfl))
                  intro gb397 hg w75 hbox hb
                  have HS4_ := (hb.cell (World.block_lt_of_cell? _ _ (hHeld.2.2.2.2.1))).trans (hHeld.2.2.2.2.1)
                  have HS5_ := (hb.cell (World.block_lt_of_cell? _ _ (hHeld.2.2.2.2.2.1))).trans (hHeld.2.2.2.2.2.1)
                  have HS6_ := (hb.cell (World.block_lt_of_cell? _ _ (hHeld.2.2.2.2.2.2))).trans (hHeld.2.2.2.2.2.2)
                  have n0_ := A_ (Kd.R_below (pr_ HO_6) hb)
                  have n1_ := A_ (blk_below (pl_ BK380) hb)
                  have n2_ := A_ (blk_below (pl_ BK390) hb)
                  have n3_ := A_ (below_step (bl_ HB) hb)
                  have n4_ := A_ (hbox)
                  have n5_ := A_ ((by rw [hg]; exact (below_size (bl_ HB)) : w.heap.size ≤ gb397))
                  have n6_ := n5_
                  have n7_ := A_ ((by rw [hg]; exact Nat.ne_of_lt (blk_lt (pl_ BK380)) : gp0 ≠ gb397))
                  have n8_ := Aside0.mk n7_.out.symm
                  have n9_ := A_ ((by rw [hg]; exact Nat.ne_of_lt (blk_lt (pl_ BK390)) : gb390 ≠ gb397))
                  have n10_ := Aside0.mk n9_.out.symm
                  clear HO_6
                  clear BK380
                  clear BK390
                  clear HB
                  have HO_6 := n0_
                  have BK380 := n1_
                  have BK390 := n2_
                  have HB := n3_
                  have BK397 := n4_
                  have GW397 := n5_
                  have GE397 := n6_
                  have NB380_397 := n7_
                  have NB397_380 := n8_
                  have NB390_397 := n9_
                  have NB397_390 := n10_
                  clear n0_ n1_ n2_ n3_ n4_ n5_ n6_ n7_ n8_ n9_ n10_
                  clear hb hbox hg
                  refine hK.out _ _ ⟨(blk_cell BK390.out 0).trans rfl, (blk_cell BK390.out 1).trans rfl, (blk_cell BK390.out 2).trans rfl, (blk_cell BK390.out 3).trans rfl, HS4_, HS5_, HS6_⟩ (fun hHeld => ?_)
                  clear hK K
                  refine norm_ (a' := ?_) ?_ ?_
                  rotate_left
                  ·show Act.put _ (some 11) _ = _
                   simp only [Act.put, List.setIfInBounds_toArray, List.set_cons_zero, List.set_cons_succ, i64_w, i32_w]
                   rfl
                  exact norm_ pa_ (hCont (gb397) _ ⟨hHeld, (pr_ HO_6), (pl_ BK380), (pl_ BK390), (pl_ BK397), GW397.out, GE397.out, NB380_397.out, NB397_380.out, NB390_397.out, NB397_390.out, (bl_ HB)⟩)
                 ·skip
                  refine box_step ?hg (N := 11) ?hd (cs := #[.int .i16 0, .int .i16 0, .int .i16 0, .int .i16 0]) (t := 30) ?hr ?_; (case hd => rfl); (case hg => rfl); (case hr => first | (go_simp; done) | (go_simp; rfl))
                  intro gb397 hg w74 hbox hb
                  have HS4_ := (hb.cell (World.block_lt_of_cell? _ _ (hHeld.2.2.2.2.1))).trans (hHeld.2.2.2.2.1)
                  have HS5_ := (hb.cell (World.block_lt_of_cell? _ _ (hHeld.2.2.2.2.2.1))).trans (hHeld.2.2.2.2.2.1)
                  have HS6_ := (hb.cell (World.block_lt_of_cell? _ _ (hHeld.2.2.2.2.2.2))).trans (hHeld.2.2.2.2.2.2)
                  have n0_ := A_ (Kd.R_below (pr_ HO_6) hb)
                  have n1_ := A_ (blk_below (pl_ BK380) hb)
                  have n2_ := A_ (blk_below (pl_ BK390) hb)
                  have n3_ := A_ (below_step (bl_ HB) hb)
                  have n4_ := A_ (hbox)
                  have n5_ := A_ ((by rw [hg]; exact (below_size (bl_ HB)) : w.heap.size ≤ gb397))
                  have n6_ := n5_
                  have n7_ := A_ ((by rw [hg]; exact Nat.ne_of_lt (blk_lt (pl_ BK380)) : gp0 ≠ gb397))
                  have n8_ := Aside0.mk n7_.out.symm
                  have n9_ := A_ ((by rw [hg]; exact Nat.ne_of_lt (blk_lt (pl_ BK390)) : gb390 ≠ gb397))
                  have n10_ := Aside0.mk n9_.out.symm
                  clear HO_6
                  clear BK380
                  clear BK390
                  clear HB
                  have HO_6 := n0_
                  have BK380 := n1_
                  have BK390 := n2_
                  have HB := n3_
                  have BK397 := n4_
                  have GW397 := n5_
                  have GE397 := n6_
                  have NB380_397 := n7_
                  have NB397_380 := n8_
                  have NB390_397 := n9_
                  have NB397_390 := n10_
                  clear n0_ n1_ n2_ n3_ n4_ n5_ n6_ n7_ n8_ n9_ n10_
                  clear hb hbox hg
                  refine hK.out _ _ ⟨(blk_cell BK390.out 0).trans rfl, (blk_cell BK390.out 1).trans rfl, (blk_cell BK390.out 2).trans rfl, (blk_cell BK390.out 3).trans rfl, HS4_, HS5_, HS6_⟩ (fun hHeld => ?_)
                  clear hK K
                  refine norm_ (a' := ?_) ?_ ?_
                  rotate_left
                  ·show Act.put _ (some 11) _ = _
                   simp only [Act.put, List.setIfInBounds_toArray, List.set_cons_zero, List.set_cons_succ, i64_w, i32_w]
                   rfl
                  refine one_ (i := 6) (N := some 65) #[true, true, true, true, true, true, true, false, false, false, true, false, false] rfl rfl (one_of HT_.out (by kernel_rfl)) (by decide) (fun K hK => ?_)
                  refine goes_ Try.func85 (by kernel_rfl) rfl #[.pointer (some ⟨gp0, 0, none⟩), .agg #[.int .i16 t386, .int .i16 t387, .int .i16 t388, .int .i16 t389], .agg #[.int .i8 ((rd_T60 t382 x10_3).f0), .int .i8 ((rd_T60 t382 x10_3).f1), .int .i8 ((rd_T60 t382 x10_3).f2)]] (by rfl) rfl rfl arg_ ?_
                  with_reducible refine (spec_l02Move.calls kj18 gp0 A0_0 c0_0 l0_0 x381001_3 x381002_3 x381003_3 x381004_3 x381005_3 t386 t387 t388 t389 ((rd_T60 t382 x10_3).f0) ((rd_T60 t382 x10_3).f1) ((rd_T60 t382 x10_3).f2) t392 t393 t394 t395 t396 _ ?side1 ?side2 ?side3 A26.out).mono ?_
                  (case side1 => exact (pl_ BK380))
                  (case side2 => repeat (first | exact (Kd.C_below HR0_0.out HB.out) | (with_reducible refine Kd.C_alloc ?_ _) | (with_reducible refine Kd.C_drewN ?_ _) | (with_reducible refine Kd.C_drew ?_)))
                  (case side3 => exact HC0_0.out)
                  rintro e w75 ⟨rfl, hb⟩
                  have HS4_ := (hb.cell (World.block_lt_of_cell? _ _ (hHeld.2.2.2.2.1))).trans (hHeld.2.2.2.2.1)
                  have HS5_ := (hb.cell (World.block_lt_of_cell? _ _ (hHeld.2.2.2.2.2.1))).trans (hHeld.2.2.2.2.2.1)
                  have HS6_ := (hb.cell (World.block_lt_of_cell? _ _ (hHeld.2.2.2.2.2.2))).trans (hHeld.2.2.2.2.2.2)
                  refine ⟨_, rfl, ?_⟩
                  have n0_ := A_ (Kd.R_below (pr_ HO_6) hb)
                  have n1_ := A_ (blk_below (pl_ BK380) hb)
                  have n2_ := A_ (blk_below (pl_ BK390) hb)
                  have n3_ := A_ (blk_below (pl_ BK397) hb)
                  have n4_ := A_ (below_step (bl_ HB) hb)
                  clear HO_6
                  clear BK380
                  clear BK390
                  clear BK397
                  clear HB
                  have HO_6 := n0_
                  have BK380 := n1_
                  have BK390 := n2_
                  have BK397 := n3_
                  have HB := n4_
                  clear n0_ n1_ n2_ n3_ n4_
                  (try clear hb)
                  (try clear hb2)
                  (try clear hk)
                  (try clear hi)
                  refine hK.out _ _ ⟨(blk_cell BK390.out 0).trans rfl, (blk_cell BK390.out 1).trans rfl, (blk_cell BK390.out 2).trans rfl, (blk_cell BK390.out 3).trans rfl, HS4_, HS5_, HS6_⟩ (fun hHeld => ?_)
                  clear hK K
                  refine norm_ (a' := ?_) ?_ ?_
                  rotate_left
                  ·show Act.put _ (some 65) _ = _
                   simp only [Act.put, List.setIfInBounds_toArray, List.set_cons_zero, List.set_cons_succ, i64_w, i32_w]
                   rfl
                  refine pure_ (i := 7) (N := some 58) (v := ?_) (a' := ?_) #[true, true, true, true, true, true, true, true, false, false, true, false, false] rfl rfl (any_of HT_.out (by kernel_rfl)) (fun _ _ _ h => h) (Or.inl ⟨by rfl, ?_⟩) ?_ ?_
                  rotate_left
                  ·intro w'
                   go_simp
                   with_reducible rfl
                  rotate_left
                  ·simp only [Act.put, List.setIfInBounds_toArray, List.set_cons_zero, List.set_cons_succ, i64_w, i32_w]
                   rfl
                  refine pure_ (i := 8) (N := some 66) (v := ?_) (a' := ?_) #[true, true, true, true, true, true, true, true, true, false, true, false, false] rfl rfl (any_of HT_.out (by kernel_rfl)) (fun _ _ _ h => h) (Or.inl ⟨by rfl, ?_⟩) ?_ ?_
                  rotate_left
                  ·intro w'
                   go_simp
                   with_reducible rfl
                  rotate_left
                  ·simp only [Act.put, List.setIfInBounds_toArray, List.set_cons_zero, List.set_cons_succ, i64_w, i32_w]
                   rfl
                  refine pure_ (i := 9) (N := some 67) (v := ?_) (a' := ?_) #[true, true, true, true, true, true, true, true, true, true, true, false, false] rfl rfl (any_of HT_.out (by kernel_rfl)) (fun _ _ _ h => h) (Or.inl ⟨by rfl, ?_⟩) ?_ ?_
                  rotate_left
                  ·intro w'
                   go_simp
                   with_reducible rfl
                  rotate_left
                  ·simp only [Act.put, List.setIfInBounds_toArray, List.set_cons_zero, List.set_cons_succ, i64_w, i32_w]
                   rfl
                  exact norm_ pa_ (hCont (gb397) _ ⟨hHeld, (pr_ HO_6), (pl_ BK380), (pl_ BK390), (pl_ BK397), GW397.out, GE397.out, NB380_397.out, NB397_380.out, NB390_397.out, NB397_390.out, (bl_ HB)⟩)
                rintro gb397 w76 ⟨hS_, h0_, h1_, h2_, h3_, h4_, h5_, h6_, h7_, h8_, h9_, h10_⟩
                have n0_ : Aside0 (Kd.R k60 60 w76 w.heap.size (fun _ => True) (.slice (some ad391) t382.length co73) t382) := ⟨h0_⟩
                have n1_ : Aside0 (w76.heap[gp0]? = some (.cells #[.slice A0_0 l0_0.length c0_0, .int .i16 x381001_3, .int .i16 x381002_3, .int .i16 x381003_3, .int .i16 x381004_3, .bool x381005_3] 32 (0, 0))) := ⟨h1_⟩
                have n2_ : Aside0 (w76.heap[gb390]? = some (.cells #[.int .i16 t386, .int .i16 t387, .int .i16 t388, .int .i16 t389] 30 (0, 0))) := ⟨h2_⟩
                have n3_ : Aside0 (w76.heap[gb397]? = some (.cells #[.int .i16 0, .int .i16 0, .int .i16 0, .int .i16 0] 30 (0, 0))) := ⟨h3_⟩
                have n4_ : Aside0 (w.heap.size ≤ gb397) := ⟨h4_⟩
                have n5_ : Aside0 (w.heap.size ≤ gb397) := ⟨h5_⟩
                have n6_ : Aside0 (gp0 ≠ gb397) := ⟨h6_⟩
                have n7_ : Aside0 (gb397 ≠ gp0) := ⟨h7_⟩
                have n8_ : Aside0 (gb390 ≠ gb397) := ⟨h8_⟩
                have n9_ : Aside0 (gb397 ≠ gb390) := ⟨h9_⟩
                have n10_ : Aside0 (Below w.heap.size w w76) := ⟨h10_⟩
                clear HO_6
                clear BK380
                clear BK390
                clear HB
                clear h0_ h1_ h2_ h3_ h4_ h5_ h6_ h7_ h8_ h9_ h10_
                have HO_6 := n0_
                have BK380 := n1_
                have BK390 := n2_
                have BK397 := n3_
                have GW397 := n4_
                have GE397 := n5_
                have NB380_397 := n6_
                have NB397_380 := n7_
                have NB390_397 := n8_
                have NB397_390 := n9_
                have HB := n10_
                clear n0_ n1_ n2_ n3_ n4_ n5_ n6_ n7_ n8_ n9_ n10_
                have hHeld : w76.cell? ⟨gb390, 0, none⟩ = some (.int .i16 t386) ∧ w76.cell? ⟨gb390, 1, none⟩ = some (.int .i16 t387) ∧ w76.cell? ⟨gb390, 2, none⟩ = some (.int .i16 t388) ∧ w76.cell? ⟨gb390, 3, none⟩ = some (.int .i16 t389) ∧ w76.cell? (ad391.add ((x10_3).toNat * 3)) = some (.int .i8 ((rd_T60 t382 x10_3).f0)) ∧ w76.cell? ⟨(ad391.add ((x10_3).toNat * 3)).block, (ad391.add ((x10_3).toNat * 3)).off + 1, none⟩ = some (.int .i8 ((rd_T60 t382 x10_3).f1)) ∧ w76.cell? ⟨(ad391.add ((x10_3).toNat * 3)).block, (ad391.add ((x10_3).toNat * 3)).off + 2, none⟩ = some (.int .i8 ((rd_T60 t382 x10_3).f2)) := hS_
                refine norm_ (a' := ?_) ?_ ?_
                rotate_left
                ·simp only [putAll, Act.put, List.setIfInBounds_toArray, List.set_cons_zero, List.set_cons_succ]
                 rfl
                refine one_ (i := 11) (N := none) #[true, true, true, true, true, true, true, true, true, true, true, true, false] rfl rfl (one_of HT_.out (by kernel_rfl)) (by decide) (fun K hK => ?_)
                have hs77 : w76.cell? ⟨gb397, 0, none⟩ = some (.int .i16 0) := (blk_cell BK397.out 0).trans rfl
                have hfs77 := blk_frozen BK397.out 0
                have hns77_0 := NB380_397.out
                have hns77_1 := NB390_397.out
                have hms77_0 := NB397_380.out
                have hms77_1 := NB397_390.out
                have hs78 : w76.cell? ⟨gb397, 1, none⟩ = some (.int .i16 0) := (blk_cell BK397.out 1).trans rfl
                have hfs78 := blk_frozen BK397.out 1
                have hns78_0 := NB380_397.out
                have hns78_1 := NB390_397.out
                have hms78_0 := NB397_380.out
                have hms78_1 := NB397_390.out
                have hs79 : w76.cell? ⟨gb397, 2, none⟩ = some (.int .i16 0) := (blk_cell BK397.out 2).trans rfl
                have hfs79 := blk_frozen BK397.out 2
                have hns79_0 := NB380_397.out
                have hns79_1 := NB390_397.out
                have hms79_0 := NB397_380.out
                have hms79_1 := NB397_390.out
                have hs80 : w76.cell? ⟨gb397, 3, none⟩ = some (.int .i16 0) := (blk_cell BK397.out 3).trans rfl
                have hfs80 := blk_frozen BK397.out 3
                have hns80_0 := NB380_397.out
                have hns80_1 := NB390_397.out
                have hms80_0 := NB397_380.out
                have hms80_1 := NB397_390.out
                refine skip_ (w1 := ?_) (by rfl) rfl ?_ ?_
                rotate_left
                ·go_simp
                 rfl
                refine hK.out _ _ ⟨((cell_far (p := ⟨gb397, _, none⟩) NB390_397.out _).trans ((cf3_ NB390_397 (hHeld.1)))), ((cell_far (p := ⟨gb397, _, none⟩) NB390_397.out _).trans ((cf3_ NB390_397 (hHeld.2.1)))), ((cell_far (p := ⟨gb397, _, none⟩) NB390_397.out _).trans ((cf3_ NB390_397 (hHeld.2.2.1)))), ((cell_far (p := ⟨gb397, _, none⟩) NB390_397.out _).trans ((cf3_ NB390_397 (hHeld.2.2.2.1)))), ((cell_far (p := ⟨gb397, _, none⟩) (by first | exact Kd.own_blk (Kd.R_ne HO_6.out BK397.out (by decide)) | (rw [add_block]; exact Kd.own_blk (Kd.R_ne HO_6.out BK397.out (by decide))) | (show (Addr.add _ _).block ≠ _; rw [add_block]; exact Kd.own_blk (Kd.R_ne HO_6.out BK397.out (by decide))) | (dsimp only; exact Kd.own_blk (Kd.R_ne HO_6.out BK397.out (by decide)))) _).trans (((cell_far (p := ⟨gb397, _, none⟩) (by first | exact Kd.own_blk (Kd.R_ne HO_6.out BK397.out (by decide)) | (rw [add_block]; exact Kd.own_blk (Kd.R_ne HO_6.out BK397.out (by decide))) | (show (Addr.add _ _).block ≠ _; rw [add_block]; exact Kd.own_blk (Kd.R_ne HO_6.out BK397.out (by decide))) | (dsimp only; exact Kd.own_blk (Kd.R_ne HO_6.out BK397.out (by decide)))) _).trans (((cell_far (p := ⟨gb397, _, none⟩) (by first | exact Kd.own_blk (Kd.R_ne HO_6.out BK397.out (by decide)) | (rw [add_block]; exact Kd.own_blk (Kd.R_ne HO_6.out BK397.out (by decide))) | (show (Addr.add _ _).block ≠ _; rw [add_block]; exact Kd.own_blk (Kd.R_ne HO_6.out BK397.out (by decide))) | (dsimp only; exact Kd.own_blk (Kd.R_ne HO_6.out BK397.out (by decide)))) _).trans (((cell_far (p := ⟨gb397, _, none⟩) (by first | exact Kd.own_blk (Kd.R_ne HO_6.out BK397.out (by decide)) | (rw [add_block]; exact Kd.own_blk (Kd.R_ne HO_6.out BK397.out (by decide))) | (show (Addr.add _ _).block ≠ _; rw [add_block]; exact Kd.own_blk (Kd.R_ne HO_6.out BK397.out (by decide))) | (dsimp only; exact Kd.own_blk (Kd.R_ne HO_6.out BK397.out (by decide)))) _).trans (hHeld.2.2.2.2.1)))))))), ((cell_far (p := ⟨gb397, _, none⟩) (by first | exact Kd.own_blk (Kd.R_ne HO_6.out BK397.out (by decide)) | (rw [add_block]; exact Kd.own_blk (Kd.R_ne HO_6.out BK397.out (by decide))) | (show (Addr.add _ _).block ≠ _; rw [add_block]; exact Kd.own_blk (Kd.R_ne HO_6.out BK397.out (by decide))) | (dsimp only; exact Kd.own_blk (Kd.R_ne HO_6.out BK397.out (by decide)))) _).trans (((cell_far (p := ⟨gb397, _, none⟩) (by first | exact Kd.own_blk (Kd.R_ne HO_6.out BK397.out (by decide)) | (rw [add_block]; exact Kd.own_blk (Kd.R_ne HO_6.out BK397.out (by decide))) | (show (Addr.add _ _).block ≠ _; rw [add_block]; exact Kd.own_blk (Kd.R_ne HO_6.out BK397.out (by decide))) | (dsimp only; exact Kd.own_blk (Kd.R_ne HO_6.out BK397.out (by decide)))) _).trans (((cell_far (p := ⟨gb397, _, none⟩) (by first | exact Kd.own_blk (Kd.R_ne HO_6.out BK397.out (by decide)) | (rw [add_block]; exact Kd.own_blk (Kd.R_ne HO_6.out BK397.out (by decide))) | (show (Addr.add _ _).block ≠ _; rw [add_block]; exact Kd.own_blk (Kd.R_ne HO_6.out BK397.out (by decide))) | (dsimp only; exact Kd.own_blk (Kd.R_ne HO_6.out BK397.out (by decide)))) _).trans (((cell_far (p := ⟨gb397, _, none⟩) (by first | exact Kd.own_blk (Kd.R_ne HO_6.out BK397.out (by decide)) | (rw [add_block]; exact Kd.own_blk (Kd.R_ne HO_6.out BK397.out (by decide))) | (show (Addr.add _ _).block ≠ _; rw [add_block]; exact Kd.own_blk (Kd.R_ne HO_6.out BK397.out (by decide))) | (dsimp only; exact Kd.own_blk (Kd.R_ne HO_6.out BK397.out (by decide)))) _).trans (hHeld.2.2.2.2.2.1)))))))), ((cell_far (p := ⟨gb397, _, none⟩) (by first | exact Kd.own_blk (Kd.R_ne HO_6.out BK397.out (by decide)) | (rw [add_block]; exact Kd.own_blk (Kd.R_ne HO_6.out BK397.out (by decide))) | (show (Addr.add _ _).block ≠ _; rw [add_block]; exact Kd.own_blk (Kd.R_ne HO_6.out BK397.out (by decide))) | (dsimp only; exact Kd.own_blk (Kd.R_ne HO_6.out BK397.out (by decide)))) _).trans (((cell_far (p := ⟨gb397, _, none⟩) (by first | exact Kd.own_blk (Kd.R_ne HO_6.out BK397.out (by decide)) | (rw [add_block]; exact Kd.own_blk (Kd.R_ne HO_6.out BK397.out (by decide))) | (show (Addr.add _ _).block ≠ _; rw [add_block]; exact Kd.own_blk (Kd.R_ne HO_6.out BK397.out (by decide))) | (dsimp only; exact Kd.own_blk (Kd.R_ne HO_6.out BK397.out (by decide)))) _).trans (((cell_far (p := ⟨gb397, _, none⟩) (by first | exact Kd.own_blk (Kd.R_ne HO_6.out BK397.out (by decide)) | (rw [add_block]; exact Kd.own_blk (Kd.R_ne HO_6.out BK397.out (by decide))) | (show (Addr.add _ _).block ≠ _; rw [add_block]; exact Kd.own_blk (Kd.R_ne HO_6.out BK397.out (by decide))) | (dsimp only; exact Kd.own_blk (Kd.R_ne HO_6.out BK397.out (by decide)))) _).trans (((cell_far (p := ⟨gb397, _, none⟩) (by first | exact Kd.own_blk (Kd.R_ne HO_6.out BK397.out (by decide)) | (rw [add_block]; exact Kd.own_blk (Kd.R_ne HO_6.out BK397.out (by decide))) | (show (Addr.add _ _).block ≠ _; rw [add_block]; exact Kd.own_blk (Kd.R_ne HO_6.out BK397.out (by decide))) | (dsimp only; exact Kd.own_blk (Kd.R_ne HO_6.out BK397.out (by decide)))) _).trans (hHeld.2.2.2.2.2.2))))))))⟩ (fun hHeld => ?_)
                clear hK K
                refine pure_ (i := 12) (N := some 12) (v := ?_) (a' := ?_) #[true, true, true, true, true, true, true, true, true, true, true, true, true] rfl rfl (any_of HT_.out (by kernel_rfl)) (fun _ _ _ h => h) (Or.inl ⟨by rfl, ?_⟩) ?_ ?_
                rotate_left
                ·intro w'
                 go_simp
                 with_reducible rfl
                rotate_left
                ·simp only [Act.put, List.setIfInBounds_toArray, List.set_cons_zero, List.set_cons_succ, i64_w, i32_w]
                 rfl
                refine done_ (done_of HT_.out (by kernel_rfl)) ?_
                try go_wp2
                go_roundg kj18
                case measure => have := HK1.out; have := HJ9.out; have := HK3.out; have := HJ18.out; omega
                case rel => exact ⟨(wrap64 (x10_3 + 1)), (x381001_3), (x381002_3), (x381003_3), (x381004_3), (x381005_3), rs_, H', ⟨by have := HK1.out; have := HJ9.out; have := HK3.out; have := HJ18.out; omega⟩, ⟨by (with_reducible repeat (first | apply Kd.R_alloc | apply Kd.R_drewN | apply Kd.R_drew)); exact Kd.R_mono (Kd.R_far (p := ⟨gb397, 3, none⟩) (Kd.R_far (p := ⟨gb397, 2, none⟩) (Kd.R_far (p := ⟨gb397, 1, none⟩) (Kd.R_far (p := ⟨gb397, 0, none⟩) (Kd.R_types HO_6.out BK397.out (by decide)) (fun _ hk => hk.2) (.int .i16 t392)) (fun _ hk => hk.2) (.int .i16 t393)) (fun _ hk => hk.2) (.int .i16 t394)) (fun _ hk => hk.2) (.int .i16 t395)) (fun _ hk => trivial)⟩, ⟨pf_ BK380 NB380_397⟩, ⟨pf_ BK390 NB390_397⟩, ⟨bs_ HB GE397⟩⟩
              ·rw [if_neg c25] at H
               exact absurd H (by simp)
             ·rw [if_neg c24] at H
              exact absurd H (by simp)
            ·replace c23 := Bool.eq_false_iff.mpr c23
             subst c23
             have H1 : (spec_l02Broken.l0 kj18 l1 t381 t382 (wrap64 (x7_1 + 1)) l0_0 x381001_3 x381002_3 x381003_3 x381004_3 x381005_3) = some r := by rw [if_neg (show ¬ (false = true) by decide)] at H; exact H
             clear H
             have H := H1
             clear H1
             have H' := Aside0.mk H
             clear H
             go_wp2
             go_roundg kj18
             case measure => have := HK1.out; have := HJ9.out; have := HK3.out; have := HJ18.out; omega
             case rel => exact ⟨(wrap64 (x7_1 + 1)), (x381001_3), (x381002_3), (x381003_3), (x381004_3), (x381005_3), rs_, H', ⟨by have := HK1.out; have := HJ9.out; have := HK3.out; have := HJ18.out; omega⟩, ⟨pr_ HO_6⟩, ⟨pl_ BK380⟩, ⟨bl_ HB⟩⟩
    ·rw [if_neg c9] at H
     exact absurd H (by simp)
   ·rw [if_neg c8] at H
    have c8b0 : decide (x7_1 < (l1.length : Int)) = false := decide_eq_false c8
    clear c8
    obtain rfl := Option.some.inj H
    go_wp2
    go_ret
    exact ⟨by first | rfl | (simp [errW_none, errW_some] <;> rfl) | (simp [*, errW_none, errW_some] <;> rfl), bl_ HB⟩

end Go.Proofs.Ytodmfjophjhbeaa.M
