-- By this seat's own program over the kit's printer (arrays, functions told by hand); nothing of it is trusted: the kernel checks it.
import Derived.Test.YtodmfjophjhbeaaMx0
import Derived.Test.YtodmfjophjhbeaaMx6
import Derived.Test.YtodmfjophjhbeaaMx7
import Derived.Test.YtodmfjophjhbeaaMx8
import Derived.Test.YtodmfjophjhbeaaMx9
namespace Go.Proofs.Ytodmfjophjhbeaa.M
open Go.RowKit Go.Proofs.YtodmfjophjhbeaaW.PrintWords Go.Proofs.YtodmfjophjhbeaaW.PrintLast Go.Proofs.YtodmfjophjhbeaaW.PrintMore
attribute [local go_sem] max2_int min2_int max_two min_two max_three min_three max_four min_four   -- for this text's walks alone
set_option linter.unusedVariables false
set_option linter.unusedSimpArgs false

/-! ### spec_l02Broken: function 59 -/
mutual
def spec_l02Broken.l0 : Nat → List Int → Int → List (S60) → Int → List Int → Int → Int → Int → Int → Bool → Option (Int)
 | 0, _, _, _, _, _, _, _, _, _, _ => none
 | k + 1, x1, x5, x6, x7, x147000, x147001, x147002, x147003, x147004, x147005 => if x7 < (x1.length : Int) then (if 0 ≤ x7 then (if (wrap64 (rd x1 x7)) < (-1) then (spec_l02Broken.j1 k x1 x5 x6 x7 (wrap64 (rd x1 x7)) true x147000 x147001 x147002 x147003 x147004 x147005) else (if x7 = x5 then (spec_l02Broken.j1 k x1 x5 x6 x7 (wrap64 (rd x1 x7)) ((wrap64 (rd x1 x7)) != 0) x147000 x147001 x147002 x147003 x147004 x147005) else (spec_l02Broken.j1 k x1 x5 x6 x7 (wrap64 (rd x1 x7)) false x147000 x147001 x147002 x147003 x147004 x147005))) else (none)) else (some (-1))
def spec_l02Broken.j1 : Nat → List Int → Int → List (S60) → Int → Int → Bool → List Int → Int → Int → Int → Int → Bool → Option (Int)
 | 0, _, _, _, _, _, _, _, _, _, _, _, _ => none
 | k + 1, x1, x5, x6, x7, x8, x43, x147000, x147001, x147002, x147003, x147004, x147005 => if x43 = true then (some x7) else ((spec_l02At.f k x147000 x147001 x147002 x147003 x147004 x147005 x7).bind fun bt152 => (spec_l02Broken.l1 k x1 x5 x6 x7 x8 0 x147000 x147001 x147002 x147003 x147004 x147005 bt152.1 bt152.2.1 bt152.2.2.1 bt152.2.2.2))
def spec_l02Broken.l1 : Nat → List Int → Int → List (S60) → Int → Int → Int → List Int → Int → Int → Int → Int → Bool → Int → Int → Int → Int → Option (Int)
 | 0, _, _, _, _, _, _, _, _, _, _, _, _, _, _, _, _ => none
 | k + 1, x1, x5, x6, x7, x8, x10, x147000, x147001, x147002, x147003, x147004, x147005, x157000, x157001, x157002, x157003 => if x10 < (x6.length : Int) then (spec_l02Broken.j3 k x1 x5 x6 x7 x8 x10 (decide (x8 ≥ 0)) x147000 x147001 x147002 x147003 x147004 x147005 x157000 x157001 x157002 x157003) else (spec_l02Broken.j3 k x1 x5 x6 x7 x8 x10 false x147000 x147001 x147002 x147003 x147004 x147005 x157000 x157001 x157002 x157003)
def spec_l02Broken.j3 : Nat → List Int → Int → List (S60) → Int → Int → Int → Bool → List Int → Int → Int → Int → Int → Bool → Int → Int → Int → Int → Option (Int)
 | 0, _, _, _, _, _, _, _, _, _, _, _, _, _, _, _, _, _ => none
 | k + 1, x1, x5, x6, x7, x8, x10, x55, x147000, x147001, x147002, x147003, x147004, x147005, x157000, x157001, x157002, x157003 => if x55 = true then (if 0 ≤ x10 then (if x10 < (x6.length : Int) then ((spec_l02Move.f k x147000 x147001 x147002 x147003 x147004 x147005 x157000 x157001 x157002 x157003 ((rd_T60 x6 x10).f0) ((rd_T60 x6 x10).f1) ((rd_T60 x6 x10).f2)).bind fun bt158 => (if bt158.2.2.2.2 = 0 then ((spec_l02Index.f k x147000 x147001 x147002 x147003 x147004 x147005 bt158.1 bt158.2.1 bt158.2.2.1 bt158.2.2.2.1).bind fun t164 => (if 0 ≤ t164 then (if t164 < (x1.length : Int) then (if (wrap64 (rd x1 t164)) = (-1) then (some x7) else (if (wrap64 (rd x1 t164)) > (wrap64 (x8 + 1)) then (some x7) else (spec_l02Broken.l1 k x1 x5 x6 x7 x8 (wrap64 (x10 + 1)) x147000 x147001 x147002 x147003 x147004 x147005 x157000 x157001 x157002 x157003))) else (none)) else (none))) else (spec_l02Broken.l1 k x1 x5 x6 x7 x8 (wrap64 (x10 + 1)) x147000 x147001 x147002 x147003 x147004 x147005 x157000 x157001 x157002 x157003))) else (none)) else (none)) else (spec_l02Broken.l0 k x1 x5 x6 (wrap64 (x7 + 1)) x147000 x147001 x147002 x147003 x147004 x147005)
end
def spec_l02Broken.f (k : Nat) (l0_0 : List Int) (a0_1 : Int) (a0_2 : Int) (a0_3 : Int) (a0_4 : Int) (a0_5 : Bool) (l1 : List Int) : Option (Int) := (spec_l02Index.f k l0_0 a0_1 a0_2 a0_3 a0_4 a0_5 a0_1 a0_2 a0_3 a0_4).bind fun t147 => ((spec_l02All.f k l0_0 a0_1 a0_2 a0_3 a0_4 a0_5).bind fun t148 => (spec_l02Broken.l0 k l1 t147 t148 0 l0_0 a0_1 a0_2 a0_3 a0_4 a0_5))
theorem spec_l02Broken.mono_l : ∀ k, (∀ y0 y1 y2 y3 y4 y5 y6 y7 y8 y9, LeO (spec_l02Broken.l0 k y0 y1 y2 y3 y4 y5 y6 y7 y8 y9) (spec_l02Broken.l0 (k + 1) y0 y1 y2 y3 y4 y5 y6 y7 y8 y9)) ∧ (∀ y0 y1 y2 y3 y4 y5 y6 y7 y8 y9 y10 y11, LeO (spec_l02Broken.j1 k y0 y1 y2 y3 y4 y5 y6 y7 y8 y9 y10 y11) (spec_l02Broken.j1 (k + 1) y0 y1 y2 y3 y4 y5 y6 y7 y8 y9 y10 y11)) ∧ (∀ y0 y1 y2 y3 y4 y5 y6 y7 y8 y9 y10 y11 y12 y13 y14 y15, LeO (spec_l02Broken.l1 k y0 y1 y2 y3 y4 y5 y6 y7 y8 y9 y10 y11 y12 y13 y14 y15) (spec_l02Broken.l1 (k + 1) y0 y1 y2 y3 y4 y5 y6 y7 y8 y9 y10 y11 y12 y13 y14 y15)) ∧ (∀ y0 y1 y2 y3 y4 y5 y6 y7 y8 y9 y10 y11 y12 y13 y14 y15 y16, LeO (spec_l02Broken.j3 k y0 y1 y2 y3 y4 y5 y6 y7 y8 y9 y10 y11 y12 y13 y14 y15 y16) (spec_l02Broken.j3 (k + 1) y0 y1 y2 y3 y4 y5 y6 y7 y8 y9 y10 y11 y12 y13 y14 y15 y16))
 | 0 => ⟨fun _ _ _ _ _ _ _ _ _ _ r h => by simp [spec_l02Broken.l0] at h, fun _ _ _ _ _ _ _ _ _ _ _ _ r h => by simp [spec_l02Broken.j1] at h, fun _ _ _ _ _ _ _ _ _ _ _ _ _ _ _ _ r h => by simp [spec_l02Broken.l1] at h, fun _ _ _ _ _ _ _ _ _ _ _ _ _ _ _ _ _ r h => by simp [spec_l02Broken.j3] at h⟩
 | k + 1 => by
  obtain ⟨ih0, ih1, ih2, ih3⟩ := spec_l02Broken.mono_l k
  refine ⟨?_, ?_, ?_, ?_⟩
  ·intro y0 y1 y2 y3 y4 y5 y6 y7 y8 y9
   unfold spec_l02Broken.l0
   repeat' first
   | (with_reducible exact ih0 _ _ _ _ _ _ _ _ _ _)
   | (with_reducible exact ih1 _ _ _ _ _ _ _ _ _ _ _ _)
   | (with_reducible exact ih2 _ _ _ _ _ _ _ _ _ _ _ _ _ _ _ _)
   | (with_reducible exact ih3 _ _ _ _ _ _ _ _ _ _ _ _ _ _ _ _ _)
   | (with_reducible exact spec_l02All.mono _ _ _ _ _ _ _)
   | (with_reducible exact spec_l02At.mono _ _ _ _ _ _ _ _)
   | (with_reducible exact spec_l02Index.mono _ _ _ _ _ _ _ _ _ _ _)
   | (with_reducible exact spec_l02Move.mono _ _ _ _ _ _ _ _ _ _ _ _ _ _)
   | (with_reducible exact LeO.refl _)
   | (with_reducible exact LeO.none _)
   | (with_reducible refine LeO.ite ?_ ?_)
   | (with_reducible refine LeO.bind ?_ (fun _ => ?_))
   | exact ih0 _ _ _ _ _ _ _ _ _ _
   | exact ih1 _ _ _ _ _ _ _ _ _ _ _ _
   | exact ih2 _ _ _ _ _ _ _ _ _ _ _ _ _ _ _ _
   | exact ih3 _ _ _ _ _ _ _ _ _ _ _ _ _ _ _ _ _
   | exact spec_l02All.mono _ _ _ _ _ _ _
   | exact spec_l02At.mono _ _ _ _ _ _ _ _
   | exact spec_l02Index.mono _ _ _ _ _ _ _ _ _ _ _
   | exact spec_l02Move.mono _ _ _ _ _ _ _ _ _ _ _ _ _ _
   | exact LeO.none _
   | refine LeO.ite ?_ ?_
   | refine LeO.bind ?_ (fun _ => ?_)
  ·intro y0 y1 y2 y3 y4 y5 y6 y7 y8 y9 y10 y11
   unfold spec_l02Broken.j1
   repeat' first
   | (with_reducible exact ih0 _ _ _ _ _ _ _ _ _ _)
   | (with_reducible exact ih1 _ _ _ _ _ _ _ _ _ _ _ _)
   | (with_reducible exact ih2 _ _ _ _ _ _ _ _ _ _ _ _ _ _ _ _)
   | (with_reducible exact ih3 _ _ _ _ _ _ _ _ _ _ _ _ _ _ _ _ _)
   | (with_reducible exact spec_l02All.mono _ _ _ _ _ _ _)
   | (with_reducible exact spec_l02At.mono _ _ _ _ _ _ _ _)
   | (with_reducible exact spec_l02Index.mono _ _ _ _ _ _ _ _ _ _ _)
   | (with_reducible exact spec_l02Move.mono _ _ _ _ _ _ _ _ _ _ _ _ _ _)
   | (with_reducible exact LeO.refl _)
   | (with_reducible exact LeO.none _)
   | (with_reducible refine LeO.ite ?_ ?_)
   | (with_reducible refine LeO.bind ?_ (fun _ => ?_))
   | exact ih0 _ _ _ _ _ _ _ _ _ _
   | exact ih1 _ _ _ _ _ _ _ _ _ _ _ _
   | exact ih2 _ _ _ _ _ _ _ _ _ _ _ _ _ _ _ _
   | exact ih3 _ _ _ _ _ _ _ _ _ _ _ _ _ _ _ _ _
   | exact spec_l02All.mono _ _ _ _ _ _ _
   | exact spec_l02At.mono _ _ _ _ _ _ _ _
   | exact spec_l02Index.mono _ _ _ _ _ _ _ _ _ _ _
   | exact spec_l02Move.mono _ _ _ _ _ _ _ _ _ _ _ _ _ _
   | exact LeO.none _
   | refine LeO.ite ?_ ?_
   | refine LeO.bind ?_ (fun _ => ?_)
  ·intro y0 y1 y2 y3 y4 y5 y6 y7 y8 y9 y10 y11 y12 y13 y14 y15
   unfold spec_l02Broken.l1
   repeat' first
   | (with_reducible exact ih0 _ _ _ _ _ _ _ _ _ _)
   | (with_reducible exact ih1 _ _ _ _ _ _ _ _ _ _ _ _)
   | (with_reducible exact ih2 _ _ _ _ _ _ _ _ _ _ _ _ _ _ _ _)
   | (with_reducible exact ih3 _ _ _ _ _ _ _ _ _ _ _ _ _ _ _ _ _)
   | (with_reducible exact spec_l02All.mono _ _ _ _ _ _ _)
   | (with_reducible exact spec_l02At.mono _ _ _ _ _ _ _ _)
   | (with_reducible exact spec_l02Index.mono _ _ _ _ _ _ _ _ _ _ _)
   | (with_reducible exact spec_l02Move.mono _ _ _ _ _ _ _ _ _ _ _ _ _ _)
   | (with_reducible exact LeO.refl _)
   | (with_reducible exact LeO.none _)
   | (with_reducible refine LeO.ite ?_ ?_)
   | (with_reducible refine LeO.bind ?_ (fun _ => ?_))
   | exact ih0 _ _ _ _ _ _ _ _ _ _
   | exact ih1 _ _ _ _ _ _ _ _ _ _ _ _
   | exact ih2 _ _ _ _ _ _ _ _ _ _ _ _ _ _ _ _
   | exact ih3 _ _ _ _ _ _ _ _ _ _ _ _ _ _ _ _ _
   | exact spec_l02All.mono _ _ _ _ _ _ _
   | exact spec_l02At.mono _ _ _ _ _ _ _ _
   | exact spec_l02Index.mono _ _ _ _ _ _ _ _ _ _ _
   | exact spec_l02Move.mono _ _ _ _ _ _ _ _ _ _ _ _ _ _
   | exact LeO.none _
   | refine LeO.ite ?_ ?_
   | refine LeO.bind ?_ (fun _ => ?_)
  ·intro y0 y1 y2 y3 y4 y5 y6 y7 y8 y9 y10 y11 y12 y13 y14 y15 y16
   unfold spec_l02Broken.j3
   repeat' first
   | (with_reducible exact ih0 _ _ _ _ _ _ _ _ _ _)
   | (with_reducible exact ih1 _ _ _ _ _ _ _ _ _ _ _ _)
   | (with_reducible exact ih2 _ _ _ _ _ _ _ _ _ _ _ _ _ _ _ _)
   | (with_reducible exact ih3 _ _ _ _ _ _ _ _ _ _ _ _ _ _ _ _ _)
   | (with_reducible exact spec_l02All.mono _ _ _ _ _ _ _)
   | (with_reducible exact spec_l02At.mono _ _ _ _ _ _ _ _)
   | (with_reducible exact spec_l02Index.mono _ _ _ _ _ _ _ _ _ _ _)
   | (with_reducible exact spec_l02Move.mono _ _ _ _ _ _ _ _ _ _ _ _ _ _)
   | (with_reducible exact LeO.refl _)
   | (with_reducible exact LeO.none _)
   | (with_reducible refine LeO.ite ?_ ?_)
   | (with_reducible refine LeO.bind ?_ (fun _ => ?_))
   | exact ih0 _ _ _ _ _ _ _ _ _ _
   | exact ih1 _ _ _ _ _ _ _ _ _ _ _ _
   | exact ih2 _ _ _ _ _ _ _ _ _ _ _ _ _ _ _ _
   | exact ih3 _ _ _ _ _ _ _ _ _ _ _ _ _ _ _ _ _
   | exact spec_l02All.mono _ _ _ _ _ _ _
   | exact spec_l02At.mono _ _ _ _ _ _ _ _
   | exact spec_l02Index.mono _ _ _ _ _ _ _ _ _ _ _
   | exact spec_l02Move.mono _ _ _ _ _ _ _ _ _ _ _ _ _ _
   | exact LeO.none _
   | refine LeO.ite ?_ ?_
   | refine LeO.bind ?_ (fun _ => ?_)
theorem spec_l02Broken.mono : ∀ a0 a1 a2 a3 a4 a5 a6 k, LeO (spec_l02Broken.f k a0 a1 a2 a3 a4 a5 a6) (spec_l02Broken.f (k + 1) a0 a1 a2 a3 a4 a5 a6) := by
 intro a0 a1 a2 a3 a4 a5 a6 k
 obtain ⟨ih0, ih1, ih2, ih3⟩ := spec_l02Broken.mono_l k
 unfold spec_l02Broken.f
 repeat' first
   | (with_reducible exact ih0 _ _ _ _ _ _ _ _ _ _)
   | (with_reducible exact ih1 _ _ _ _ _ _ _ _ _ _ _ _)
   | (with_reducible exact ih2 _ _ _ _ _ _ _ _ _ _ _ _ _ _ _ _)
   | (with_reducible exact ih3 _ _ _ _ _ _ _ _ _ _ _ _ _ _ _ _ _)
   | (with_reducible exact spec_l02All.mono _ _ _ _ _ _ _)
   | (with_reducible exact spec_l02At.mono _ _ _ _ _ _ _ _)
   | (with_reducible exact spec_l02Index.mono _ _ _ _ _ _ _ _ _ _ _)
   | (with_reducible exact spec_l02Move.mono _ _ _ _ _ _ _ _ _ _ _ _ _ _)
   | (with_reducible exact LeO.refl _)
   | (with_reducible exact LeO.none _)
   | (with_reducible refine LeO.ite ?_ ?_)
   | (with_reducible refine LeO.bind ?_ (fun _ => ?_))
   | exact ih0 _ _ _ _ _ _ _ _ _ _
   | exact ih1 _ _ _ _ _ _ _ _ _ _ _ _
   | exact ih2 _ _ _ _ _ _ _ _ _ _ _ _ _ _ _ _
   | exact ih3 _ _ _ _ _ _ _ _ _ _ _ _ _ _ _ _ _
   | exact spec_l02All.mono _ _ _ _ _ _ _
   | exact spec_l02At.mono _ _ _ _ _ _ _ _
   | exact spec_l02Index.mono _ _ _ _ _ _ _ _ _ _ _
   | exact spec_l02Move.mono _ _ _ _ _ _ _ _ _ _ _ _ _ _
   | exact LeO.none _
   | refine LeO.ite ?_ ?_
   | refine LeO.bind ?_ (fun _ => ?_)
def spec_l02Broken.T13 : Bool × List (List Nat × List Nat) := (true, [([], []), ([], []), ([], []), ([], []), ([2, 3], [2, 3]), ([4], [4]), ([0, 1, 5], [0, 1, 5]), ([6], [6]), ([7], [7]), ([7], [7]), ([], []), ([10, 8, 6, 0, 1, 2, 3, 4, 5, 6, 7, 8, 10], [8, 10]), ([9, 11, 0, 1, 2, 3, 4, 5, 6, 7, 8, 9, 10, 11], [9])])
def spec_l02Broken.B13 : List Nat := [0, 0, 0, 0, 12, 28, 63, 127, 255, 255, 0, 1535, 4095]
theorem spec_l02Broken.tab13 : rtab .any (opsOf Try.f59 13) = spec_l02Broken.T13 := by kernel_rfl
theorem spec_l02Broken.bits13 : waitsOk spec_l02Broken.T13.2 spec_l02Broken.B13 = true := by kernel_rfl
set_option maxHeartbeats 8000000 in
set_option maxRecDepth 100000 in
theorem spec_l02Broken.calls (k : Nat) (gp0 : Nat) (A0_0 : Option Addr) (c0_0 : Nat) (l0_0 : List Int) (a0_1 : Int) (a0_2 : Int) (a0_3 : Int) (a0_4 : Int) (a0_5 : Bool) (A1 : Option Addr) (c1 : Nat) (l1 : List Int) (r : Int) (w : World) (hb0 : w.heap[gp0]? = some (.cells #[.slice A0_0 l0_0.length c0_0, .int .i16 a0_1, .int .i16 a0_2, .int .i16 a0_3, .int .i16 a0_4, .bool a0_5] 32 (0, 0))) (hr0_0 : Kd.C (Kd.int .i16) w A0_0 l0_0.length l0_0) (hc0_0 : l0_0.length ≤ c0_0) (hr1 : Kd.C (Kd.int .i16) w A1 l1.length l1) (hc1 : l1.length ≤ c1) (h : spec_l02Broken.f k l0_0 a0_1 a0_2 a0_3 a0_4 a0_5 l1 = some r) :
  Calls Try.prog 59 #[.pointer (some ⟨gp0, 0, none⟩), .slice A1 l1.length c1] w fun e w' => e = .returned (.int .i64 r) ∧ Below w.heap.size w w' := by
 have hu30 := Try.underlying30
 have hu60 := Try.underlying60
 have HR0_0 := Aside0.mk hr0_0
 have HC0_0 := Aside0.mk hc0_0
 clear hr0_0 hc0_0
 have HR1 := Aside0.mk hr1
 have HC1 := Aside0.mk hc1
 clear hr1 hc1
 have BK146 := Aside0.mk hb0
 clear hb0
 have HB := A_ (Below.refl w.heap.size w)
 have H : ((spec_l02Index.f k l0_0 a0_1 a0_2 a0_3 a0_4 a0_5 a0_1 a0_2 a0_3 a0_4).bind fun t147 => ((spec_l02All.f k l0_0 a0_1 a0_2 a0_3 a0_4 a0_5).bind fun t148 => (spec_l02Broken.l0 k l1 t147 t148 0 l0_0 a0_1 a0_2 a0_3 a0_4 a0_5))) = some r := h
 clear h
 replace H := Option.bind_eq_some_iff.mp H
 obtain ⟨t147, A30, H⟩ := H
 replace H : ((spec_l02All.f k l0_0 a0_1 a0_2 a0_3 a0_4 a0_5).bind fun t148 => (spec_l02Broken.l0 k l1 t147 t148 0 l0_0 a0_1 a0_2 a0_3 a0_4 a0_5)) = some r := H
 have A3 := Aside0.mk A30
 clear A30
 replace H := Option.bind_eq_some_iff.mp H
 obtain ⟨t148, A40, H⟩ := H
 replace H : (spec_l02Broken.l0 k l1 t147 t148 0 l0_0 a0_1 a0_2 a0_3 a0_4 a0_5) = some r := H
 have A4 := Aside0.mk A40
 clear A40
 have H' := Aside0.mk H
 clear H
 obtain ⟨hcz5_0, hcz5_1, hcz5_2, hcz5_3, hcz5_4, hcz5_5, hfz5_0, hfz5_1, hfz5_2, hfz5_3, hfz5_4, hfz5_5⟩ := cl6_ BK146
 go_enter Try.func59, Try.ntmps59
 go_wp2_with (first | ((with_reducible refine gate_callee (f := 78) rfl ?_); refine goesL_ (some 19) rfl rfl Try.func78 (by kernel_rfl) rfl #[.pointer (some ⟨gp0, 0, none⟩), .agg #[.int .i16 a0_1, .int .i16 a0_2, .int .i16 a0_3, .int .i16 a0_4]] rfl arg_ ?_; (with_reducible refine (spec_l02Index.calls k gp0 A0_0 c0_0 l0_0 a0_1 a0_2 a0_3 a0_4 a0_5 a0_1 a0_2 a0_3 a0_4 t147 _ ?side1 ?side2 ?side3 A3.out).mono ?_); (case side1 => exact (pl_ BK146)); (case side2 => repeat (first | exact HR0_0.out | (with_reducible refine Kd.C_alloc ?_ _) | (with_reducible refine Kd.C_drewN ?_ _) | (with_reducible refine Kd.C_drew ?_))); (case side3 => exact HC0_0.out); rintro e w6 ⟨rfl, hb⟩; refine ⟨_, rfl, ?_⟩; have n0_ := A_ (blk_below (pl_ BK146) hb); have n1_ := A_ (below_step (bl_ HB) hb); clear BK146; clear HB; have BK146 := n0_; have HB := n1_; clear n0_ n1_; (try clear hb); (try clear hb2); (try clear hk); (try clear hi)) | ((with_reducible refine gate_callee (f := 88) rfl ?_); refine goesL_ (some 21) rfl rfl Try.func88 (by kernel_rfl) rfl #[.pointer (some ⟨gp0, 0, none⟩)] rfl arg_ ?_; (with_reducible refine (spec_l02All.calls k gp0 A0_0 c0_0 l0_0 a0_1 a0_2 a0_3 a0_4 a0_5 t148 _ ?side1 ?side2 ?side3 A4.out).mono ?_); (case side1 => exact (pl_ BK146)); (case side2 => exact Kd.C_below HR0_0.out (bl_ HB)); (case side3 => exact HC0_0.out); rintro e w7 ⟨v149, rfl, ho0, hb⟩; refine ⟨_, rfl, ?_⟩; have n0_ := A_ (Kd.R_lower ho0 (below_size (bl_ HB))); have n1_ := A_ (blk_below (pl_ BK146) hb); have n2_ := A_ (below_step (bl_ HB) hb); clear BK146; clear HB; have HO150 := n0_; have BK146 := n1_; have HB := n2_; clear n0_ n1_ n2_; (try clear hb); (try clear hb2); (try clear hk); (try clear hi); (try clear ho0)))
 go_loopg [7] k (fun kq v7 w' => ∃ (x7_1 : Int) (x147001_1 : Int) (x147002_1 : Int) (x147003_1 : Int) (x147004_1 : Int) (x147005_1 : Bool), v7 = .int .i64 x7_1 ∧ Aside0 (spec_l02Broken.l0 kq l1 t147 t148 x7_1 l0_0 x147001_1 x147002_1 x147003_1 x147004_1 x147005_1 = some r) ∧ Aside0 (kq ≤ k) ∧ Aside0 (Kd.R k60 60 w' w.heap.size (fun _ => True) v149 t148) ∧ Aside0 (w'.heap[gp0]? = some (.cells #[(.slice A0_0 l0_0.length c0_0), .int .i16 x147001_1, .int .i16 x147002_1, .int .i16 x147003_1, .int .i16 x147004_1, .bool x147005_1] 32 (0, 0))) ∧ Aside0 (Below w.heap.size w w'))
 case atStart => exact ⟨(0), (a0_1), (a0_2), (a0_3), (a0_4), (a0_5), rs_, H', ⟨Nat.le_refl _⟩, ⟨pr_ HO150⟩, ⟨pl_ BK146⟩, ⟨bl_ HB⟩⟩
 case round =>
  clear H'
  try clear c1
  try clear p2
  try clear c5
  try clear c7
  try clear hcz5_0
  try clear hcz5_1
  try clear hcz5_2
  try clear hcz5_3
  try clear hcz5_4
  try clear hcz5_5
  try clear hfz5_0
  try clear hfz5_1
  try clear hfz5_2
  try clear hfz5_3
  try clear hfz5_4
  try clear hfz5_5
  obtain ⟨x7_1, x147001_1, x147002_1, x147003_1, x147004_1, x147005_1, rfl, HA, HK1, HO_6, BK146, HB⟩ := hrel
  cases gk with
  | zero => exact absurd HA.out (by simp [spec_l02Broken.l0])
  | succ k1 =>
   have H := HA.out
   clear HA
   simp only [spec_l02Broken.l0] at H
   by_cases c8 : x7_1 < (l1.length : Int)
   ·rw [if_pos c8] at H
    have c8b0 : decide (x7_1 < (l1.length : Int)) = true := decide_eq_true c8
    clear c8
    by_cases c9 : 0 ≤ x7_1
    ·rw [if_pos c9] at H
     have c9b0 : decide (0 ≤ x7_1) = true := decide_eq_true c9
     clear c9
     have HC10 := Aside0.mk H
     clear H
     have p151 : 0 ≤ (x7_1 : Int) := asm_
     have q151 : x7_1 < (l1.length : Int) := asm_
     obtain ⟨ad151, e151, hx151_0⟩ := Kd.at_int HR1.out x7_1 p151 q151
     cases e151
     (try replace hx151_0 := (HB.out.cell (World.block_lt_of_cell? w _ hx151_0)).trans hx151_0)
     replace p151 := eq_true p151
     replace q151 := eq_true q151
     go_upto_region 7 with (fail)
     go_cut [43] (fun v43 wc => ∃ (kq : Nat) (x43_9 : Bool), v43 = .bool x43_9 ∧ Aside0 (spec_l02Broken.j1 kq l1 t147 t148 x7_1 (wrap64 (rd l1 x7_1)) x43_9 l0_0 x147001_1 x147002_1 x147003_1 x147004_1 x147005_1 = some r) ∧ Aside0 (kq ≤ k1) ∧ Aside0 (Kd.R k60 60 wc w.heap.size (fun _ => True) v149 t148) ∧ Aside0 (wc.heap[gp0]? = some (.cells #[(.slice A0_0 l0_0.length c0_0), .int .i16 x147001_1, .int .i16 x147002_1, .int .i16 x147003_1, .int .i16 x147004_1, .bool x147005_1] 32 (0, 0))) ∧ Aside0 (Below w.heap.size w wc))
     case first =>
      have H := HC10.out
      clear HC10
      by_cases c11 : (wrap64 (rd l1 x7_1)) < (-1)
      ·rw [if_pos c11] at H
       have c11b0 : decide ((wrap64 (rd l1 x7_1)) < (-1)) = true := decide_eq_true c11
       clear c11
       (first | rw [c11b0] | (simp only [i64_w, i32_w]; rw [c11b0]) | skip)
       have H' := Aside0.mk H
       clear H
       go_wp2
       go_meet
       case rel => exact ⟨_, (true), rs_, H', ⟨by have := HK1.out; first | omega | exact Nat.le_refl _⟩, ⟨pr_ HO_6⟩, ⟨pl_ BK146⟩, ⟨bl_ HB⟩⟩
      ·rw [if_neg c11] at H
       have c11b0 : decide ((wrap64 (rd l1 x7_1)) < (-1)) = false := decide_eq_false c11
       clear c11
       (first | rw [c11b0] | (simp only [i64_w, i32_w]; rw [c11b0]) | skip)
       by_cases c12 : x7_1 = t147
       ·rw [if_pos c12] at H
        have c12b0 : (x7_1 == t147) = true := beq_iff_eq.mpr c12
        have c12b1 : (x7_1 != t147) = false := bne_eq_false_iff_eq.mpr c12
        clear c12
        have H' := Aside0.mk H
        clear H
        go_wp2
        go_meet
        case rel => exact ⟨_, (((wrap64 (rd l1 x7_1)) != 0)), rs_, H', ⟨by have := HK1.out; first | omega | exact Nat.le_refl _⟩, ⟨pr_ HO_6⟩, ⟨pl_ BK146⟩, ⟨bl_ HB⟩⟩
       ·rw [if_neg c12] at H
        have c12b0 : (x7_1 == t147) = false := beq_eq_false_iff_ne.mpr c12
        have c12b1 : (x7_1 != t147) = true := bne_iff_ne.mpr c12
        have H' := Aside0.mk H
        clear H
        go_wp2
        go_meet
        case rel => exact ⟨_, (false), rs_, H', ⟨by have := HK1.out; first | omega | exact Nat.le_refl _⟩, ⟨pr_ HO_6⟩, ⟨pl_ BK146⟩, ⟨bl_ HB⟩⟩
     case rest =>
      clear HC10
      try clear c1
      try clear p1
      try clear q1
      try clear hx1
      try clear p2
      try clear c5
      try clear p6
      try clear c7
      try clear c8
      try clear c8b0
      try clear c9
      try clear c9b0
      try clear c11
      try clear c11b0
      try clear c12
      try clear c12b0
      try clear c12b1
      try clear hcz5_0
      try clear hcz5_1
      try clear hcz5_2
      try clear hcz5_3
      try clear hcz5_4
      try clear hcz5_5
      try clear hfz5_0
      try clear hfz5_1
      try clear hfz5_2
      try clear hfz5_3
      try clear hfz5_4
      try clear hfz5_5
      try clear hx151_0
      try clear p151
      try clear p2
      try clear q151
      obtain ⟨kq, x43_9, rfl, HA, HJ9, HO_6, BK146, HB⟩ := hcut
      cases kq with
      | zero => exact absurd HA.out (by simp [spec_l02Broken.j1])
      | succ kj9 =>
       have H := HA.out
       clear HA
       simp only [spec_l02Broken.j1] at H
       by_cases c13 : x43_9 = true
       ·subst c13
        have H1 : (some x7_1) = some r := by rw [if_pos rfl] at H; exact H
        clear H
        have H := H1
        clear H1
        obtain rfl := Option.some.inj H
        go_wp2
        go_ret
        exact ⟨by first | rfl | (simp [errW_none, errW_some] <;> rfl) | (simp [*, errW_none, errW_some] <;> rfl), bl_ HB⟩
       ·replace c13 := Bool.eq_false_iff.mpr c13
        subst c13
        have H1 : ((spec_l02At.f kj9 l0_0 x147001_1 x147002_1 x147003_1 x147004_1 x147005_1 x7_1).bind fun bt152 => (spec_l02Broken.l1 kj9 l1 t147 t148 x7_1 (wrap64 (rd l1 x7_1)) 0 l0_0 x147001_1 x147002_1 x147003_1 x147004_1 x147005_1 bt152.1 bt152.2.1 bt152.2.2.1 bt152.2.2.2)) = some r := by rw [if_neg (show ¬ (false = true) by decide)] at H; exact H
        clear H
        have H := H1
        clear H1
        replace H := Option.bind_eq_some_iff.mp H
        obtain ⟨⟨t152, t153, t154, t155⟩, A140, H⟩ := H
        replace H : (spec_l02Broken.l1 kj9 l1 t147 t148 x7_1 (wrap64 (rd l1 x7_1)) 0 l0_0 x147001_1 x147002_1 x147003_1 x147004_1 x147005_1 t152 t153 t154 t155) = some r := H
        have A14 := Aside0.mk A140
        clear A140
        have H' := Aside0.mk H
        clear H
        go_wp2_with (first | ((with_reducible refine gate_callee (f := 61) rfl ?_); refine goesL_ (some 47) rfl rfl Try.func61 (by kernel_rfl) rfl #[.pointer (some ⟨gp0, 0, none⟩), .int .i64 x7_1] rfl arg_ ?_; (with_reducible refine (spec_l02At.calls kj9 gp0 A0_0 c0_0 l0_0 x147001_1 x147002_1 x147003_1 x147004_1 x147005_1 x7_1 t152 t153 t154 t155 _ ?side1 ?side2 ?side3 A14.out).mono ?_); (case side1 => exact (pl_ BK146)); (case side2 => exact Kd.C_below HR0_0.out (bl_ HB)); (case side3 => exact HC0_0.out); rintro e w15 ⟨rfl, hb⟩; refine ⟨_, rfl, ?_⟩; have n0_ := A_ (Kd.R_below (pr_ HO_6) hb); have n1_ := A_ (blk_below (pl_ BK146) hb); have n2_ := A_ (below_step (bl_ HB) hb); clear HO_6; clear BK146; clear HB; have HO_6 := n0_; have BK146 := n1_; have HB := n2_; clear n0_ n1_ n2_; (try clear hb); (try clear hb2); (try clear hk); (try clear hi)) | ((with_reducible refine gate_dst (N := 9) rfl ?_); refine box_event ?hg (N := 9) ?hd (cs := #[.int .i16 0, .int .i16 0, .int .i16 0, .int .i16 0]) (t := 30) ?hr ?_; (case hd => rfl); (case hg => rfl); (case hr => first | (go_simp; done) | (go_simp; rfl)); intro gb156 hg w16 hbox hb; have n0_ := A_ (Kd.R_below (pr_ HO_6) hb); have n1_ := A_ (blk_below (pl_ BK146) hb); have n2_ := A_ (below_step (bl_ HB) hb); have n3_ := A_ (hbox); have n4_ := A_ ((by rw [hg]; exact (below_size (bl_ HB)) : w.heap.size ≤ gb156)); have n5_ := n4_; have n6_ := A_ ((by rw [hg]; exact Nat.ne_of_lt (blk_lt (pl_ BK146)) : gp0 ≠ gb156)); have n7_ := Aside0.mk n6_.out.symm; clear HO_6; clear BK146; clear HB; have HO_6 := n0_; have BK146 := n1_; have HB := n2_; have BK156 := n3_; have GW156 := n4_; have GE156 := n5_; have NB146_156 := n6_; have NB156_146 := n7_; clear n0_ n1_ n2_ n3_ n4_ n5_ n6_ n7_; clear hb hbox hg; have hnb17 := NB156_146.out; have hnc17 := NB146_156.out; obtain ⟨hcz18_0, hcz18_1, hcz18_2, hcz18_3, hfz18_0, hfz18_1, hfz18_2, hfz18_3⟩ := cl4_ BK156))
        go_loopg [10] kj9 (fun kq v10 w' => ∃ (x10_3 : Int) (x147001_3 : Int) (x147002_3 : Int) (x147003_3 : Int) (x147004_3 : Int) (x147005_3 : Bool), v10 = .int .i64 x10_3 ∧ Aside0 (spec_l02Broken.l1 kq l1 t147 t148 x7_1 (wrap64 (rd l1 x7_1)) x10_3 l0_0 x147001_3 x147002_3 x147003_3 x147004_3 x147005_3 t152 t153 t154 t155 = some r) ∧ Aside0 (kq ≤ kj9) ∧ Aside0 (Kd.R k60 60 w' w.heap.size (fun _ => True) v149 t148) ∧ Aside0 (w'.heap[gp0]? = some (.cells #[(.slice A0_0 l0_0.length c0_0), .int .i16 x147001_3, .int .i16 x147002_3, .int .i16 x147003_3, .int .i16 x147004_3, .bool x147005_3] 32 (0, 0))) ∧ Aside0 (w'.heap[gb156]? = some (.cells #[.int .i16 t152, .int .i16 t153, .int .i16 t154, .int .i16 t155] 30 (0, 0))) ∧ Aside0 (Below w.heap.size w w'))
        case atStart => exact ⟨(0), (x147001_1), (x147002_1), (x147003_1), (x147004_1), (x147005_1), rs_, H', ⟨Nat.le_refl _⟩, ⟨by (with_reducible repeat (first | apply Kd.R_alloc | apply Kd.R_drewN | apply Kd.R_drew)); exact Kd.R_mono (Kd.R_far (p := ⟨gb156, 3, none⟩) (Kd.R_far (p := ⟨gb156, 2, none⟩) (Kd.R_far (p := ⟨gb156, 1, none⟩) (Kd.R_far (p := ⟨gb156, 0, none⟩) (Kd.R_types HO_6.out BK156.out (by decide)) (fun _ hk => hk.2) (.int .i16 t152)) (fun _ hk => hk.2) (.int .i16 t153)) (fun _ hk => hk.2) (.int .i16 t154)) (fun _ hk => hk.2) (.int .i16 t155)) (fun _ hk => trivial)⟩, ⟨pf_ BK146 NB146_156⟩, ⟨by (with_reducible repeat (first | refine blk_drewN ?_ _ | refine blk_drew ?_ | refine blk_alloc ?_ _)); refine blk_put (cs := #[.int .i16 t152, .int .i16 t153, .int .i16 t154, .int .i16 0]) ?_ 3 _ rfl; (with_reducible repeat (first | refine blk_drewN ?_ _ | refine blk_drew ?_ | refine blk_alloc ?_ _)); refine blk_put (cs := #[.int .i16 t152, .int .i16 t153, .int .i16 0, .int .i16 0]) ?_ 2 _ rfl; (with_reducible repeat (first | refine blk_drewN ?_ _ | refine blk_drew ?_ | refine blk_alloc ?_ _)); refine blk_put (cs := #[.int .i16 t152, .int .i16 0, .int .i16 0, .int .i16 0]) ?_ 1 _ rfl; (with_reducible repeat (first | refine blk_drewN ?_ _ | refine blk_drew ?_ | refine blk_alloc ?_ _)); refine blk_put (cs := #[.int .i16 0, .int .i16 0, .int .i16 0, .int .i16 0]) ?_ 0 _ rfl; (with_reducible repeat (first | refine blk_drewN ?_ _ | refine blk_drew ?_ | refine blk_alloc ?_ _)); exact BK156.out⟩, ⟨bs_ HB GE156⟩⟩
        case round =>
         clear H'
         try clear c1
         try clear p1
         try clear q1
         try clear hx1
         try clear p2
         try clear c5
         try clear c6
         try clear p6
         try clear c7
         try clear c8
         try clear c8b0
         try clear c9
         try clear c9b0
         try clear c11
         try clear c11b0
         try clear c12
         try clear c12b0
         try clear c12b1
         try clear c13
         try clear p15
         try clear q15
         try clear hx15
         try clear c17
         try clear hcz18_0
         try clear hcz18_1
         try clear hcz18_2
         try clear hcz18_3
         try clear hcz5_0
         try clear hcz5_1
         try clear hcz5_2
         try clear hcz5_3
         try clear hcz5_4
         try clear hcz5_5
         try clear hfz18_0
         try clear hfz18_1
         try clear hfz18_2
         try clear hfz18_3
         try clear hfz5_0
         try clear hfz5_1
         try clear hfz5_2
         try clear hfz5_3
         try clear hfz5_4
         try clear hfz5_5
         try clear hx151_0
         try clear p1
         try clear p151
         try clear p2
         try clear p6
         try clear q1
         try clear q151
         obtain ⟨x10_3, x147001_3, x147002_3, x147003_3, x147004_3, x147005_3, rfl, HA, HK3, HO_6, BK146, BK156, HB⟩ := hrel
         cases gk with
         | zero => exact absurd HA.out (by simp [spec_l02Broken.l1])
         | succ k3 =>
          have H := HA.out
          clear HA
          simp only [spec_l02Broken.l1] at H
          have HC19 := Aside0.mk H
          clear H
          go_upto_region 11 with (fail)
          go_cut [55] (fun v55 wc => ∃ (kq : Nat) (x55_18 : Bool), v55 = .bool x55_18 ∧ Aside0 (spec_l02Broken.j3 kq l1 t147 t148 x7_1 (wrap64 (rd l1 x7_1)) x10_3 x55_18 l0_0 x147001_3 x147002_3 x147003_3 x147004_3 x147005_3 t152 t153 t154 t155 = some r) ∧ Aside0 (kq ≤ k3) ∧ Aside0 (Kd.R k60 60 wc w.heap.size (fun _ => True) v149 t148) ∧ Aside0 (wc.heap[gp0]? = some (.cells #[(.slice A0_0 l0_0.length c0_0), .int .i16 x147001_3, .int .i16 x147002_3, .int .i16 x147003_3, .int .i16 x147004_3, .bool x147005_3] 32 (0, 0))) ∧ Aside0 (wc.heap[gb156]? = some (.cells #[.int .i16 t152, .int .i16 t153, .int .i16 t154, .int .i16 t155] 30 (0, 0))) ∧ Aside0 (Below w.heap.size w wc))
          case first =>
           have H := HC19.out
           clear HC19
           by_cases c20 : x10_3 < (t148.length : Int)
           ·rw [if_pos c20] at H
            have c20b0 : decide (x10_3 < (t148.length : Int)) = true := decide_eq_true c20
            clear c20
            (first | rw [c20b0] | (simp only [i64_w, i32_w]; rw [c20b0]) | skip)
            have H' := Aside0.mk H
            clear H
            obtain ⟨Ao21, co21, eo21⟩ := Kd.R_slice HO_6.out
            subst eo21
            go_wp2
            go_meet
            case rel => exact ⟨_, (decide ((wrap64 (rd l1 x7_1)) ≥ 0)), rs_, H', ⟨by have := HK1.out; have := HJ9.out; have := HK3.out; first | omega | exact Nat.le_refl _⟩, ⟨pr_ HO_6⟩, ⟨pl_ BK146⟩, ⟨pl_ BK156⟩, ⟨bl_ HB⟩⟩
           ·rw [if_neg c20] at H
            have c20b0 : decide (x10_3 < (t148.length : Int)) = false := decide_eq_false c20
            clear c20
            (first | rw [c20b0] | (simp only [i64_w, i32_w]; rw [c20b0]) | skip)
            have H' := Aside0.mk H
            clear H
            obtain ⟨Ao22, co22, eo22⟩ := Kd.R_slice HO_6.out
            subst eo22
            go_wp2
            go_meet
            case rel => exact ⟨_, (false), rs_, H', ⟨by have := HK1.out; have := HJ9.out; have := HK3.out; first | omega | exact Nat.le_refl _⟩, ⟨pr_ HO_6⟩, ⟨pl_ BK146⟩, ⟨pl_ BK156⟩, ⟨bl_ HB⟩⟩
          case rest =>
           clear HC19
           try clear c1
           try clear p1
           try clear q1
           try clear hx1
           try clear c2
           try clear p2
           try clear c5
           try clear c6
           try clear p6
           try clear c7
           try clear c8
           try clear c8b0
           try clear c9
           try clear c9b0
           try clear c11
           try clear c11b0
           try clear c12
           try clear c12b0
           try clear c12b1
           try clear c13
           try clear p15
           try clear q15
           try clear hx15
           try clear c17
           try clear c20
           try clear c20b0
           try clear hcz18_0
           try clear hcz18_1
           try clear hcz18_2
           try clear hcz18_3
           try clear hcz5_0
           try clear hcz5_1
           try clear hcz5_2
           try clear hcz5_3
           try clear hcz5_4
           try clear hcz5_5
           try clear hfz18_0
           try clear hfz18_1
           try clear hfz18_2
           try clear hfz18_3
           try clear hfz5_0
           try clear hfz5_1
           try clear hfz5_2
           try clear hfz5_3
           try clear hfz5_4
           try clear hfz5_5
           try clear hx151_0
           try clear p1
           try clear p15
           try clear p151
           try clear p2
           try clear p6
           try clear q1
           try clear q15
           try clear q151
           obtain ⟨kq, x55_18, rfl, HA, HJ18, HO_6, BK146, BK156, HB⟩ := hcut
           cases kq with
           | zero => exact absurd HA.out (by simp [spec_l02Broken.j3])
           | succ kj18 =>
            have H := HA.out
            clear HA
            simp only [spec_l02Broken.j3] at H
            by_cases c23 : x55_18 = true
            ·subst c23
             have H1 : (if 0 ≤ x10_3 then (if x10_3 < (t148.length : Int) then ((spec_l02Move.f kj18 l0_0 x147001_3 x147002_3 x147003_3 x147004_3 x147005_3 t152 t153 t154 t155 ((rd_T60 t148 x10_3).f0) ((rd_T60 t148 x10_3).f1) ((rd_T60 t148 x10_3).f2)).bind fun bt158 => (if bt158.2.2.2.2 = 0 then ((spec_l02Index.f kj18 l0_0 x147001_3 x147002_3 x147003_3 x147004_3 x147005_3 bt158.1 bt158.2.1 bt158.2.2.1 bt158.2.2.2.1).bind fun t164 => (if 0 ≤ t164 then (if t164 < (l1.length : Int) then (if (wrap64 (rd l1 t164)) = (-1) then (some x7_1) else (if (wrap64 (rd l1 t164)) > (wrap64 ((wrap64 (rd l1 x7_1)) + 1)) then (some x7_1) else (spec_l02Broken.l1 kj18 l1 t147 t148 x7_1 (wrap64 (rd l1 x7_1)) (wrap64 (x10_3 + 1)) l0_0 x147001_3 x147002_3 x147003_3 x147004_3 x147005_3 t152 t153 t154 t155))) else (none)) else (none))) else (spec_l02Broken.l1 kj18 l1 t147 t148 x7_1 (wrap64 (rd l1 x7_1)) (wrap64 (x10_3 + 1)) l0_0 x147001_3 x147002_3 x147003_3 x147004_3 x147005_3 t152 t153 t154 t155))) else (none)) else (none)) = some r := by rw [if_pos rfl] at H; exact H
             clear H
             have H := H1
             clear H1
             by_cases c24 : 0 ≤ x10_3
             ·rw [if_pos c24] at H
              have c24b0 : decide (0 ≤ x10_3) = true := decide_eq_true c24
              clear c24
              by_cases c25 : x10_3 < (t148.length : Int)
              ·rw [if_pos c25] at H
               have c25b0 : decide (x10_3 < (t148.length : Int)) = true := decide_eq_true c25
               clear c25
               replace H := Option.bind_eq_some_iff.mp H
               obtain ⟨⟨t158, t159, t160, t161, t162⟩, A260, H⟩ := H
               replace H : (if t162 = 0 then ((spec_l02Index.f kj18 l0_0 x147001_3 x147002_3 x147003_3 x147004_3 x147005_3 t158 t159 t160 t161).bind fun t164 => (if 0 ≤ t164 then (if t164 < (l1.length : Int) then (if (wrap64 (rd l1 t164)) = (-1) then (some x7_1) else (if (wrap64 (rd l1 t164)) > (wrap64 ((wrap64 (rd l1 x7_1)) + 1)) then (some x7_1) else (spec_l02Broken.l1 kj18 l1 t147 t148 x7_1 (wrap64 (rd l1 x7_1)) (wrap64 (x10_3 + 1)) l0_0 x147001_3 x147002_3 x147003_3 x147004_3 x147005_3 t152 t153 t154 t155))) else (none)) else (none))) else (spec_l02Broken.l1 kj18 l1 t147 t148 x7_1 (wrap64 (rd l1 x7_1)) (wrap64 (x10_3 + 1)) l0_0 x147001_3 x147002_3 x147003_3 x147004_3 x147005_3 t152 t153 t154 t155)) = some r := H
               have A26 := Aside0.mk A260
               clear A260
               by_cases c27 : t162 = 0
               ·rw [if_pos c27] at H
                have c27b0 : (t162 == 0) = true := beq_iff_eq.mpr c27
                have c27b1 : (t162 != 0) = false := bne_eq_false_iff_eq.mpr c27
                clear c27
                replace H := Option.bind_eq_some_iff.mp H
                obtain ⟨t164, A280, H⟩ := H
                replace H : (if 0 ≤ t164 then (if t164 < (l1.length : Int) then (if (wrap64 (rd l1 t164)) = (-1) then (some x7_1) else (if (wrap64 (rd l1 t164)) > (wrap64 ((wrap64 (rd l1 x7_1)) + 1)) then (some x7_1) else (spec_l02Broken.l1 kj18 l1 t147 t148 x7_1 (wrap64 (rd l1 x7_1)) (wrap64 (x10_3 + 1)) l0_0 x147001_3 x147002_3 x147003_3 x147004_3 x147005_3 t152 t153 t154 t155))) else (none)) else (none)) = some r := H
                have A28 := Aside0.mk A280
                clear A280
                by_cases c29 : 0 ≤ t164
                ·rw [if_pos c29] at H
                 have c29b0 : decide (0 ≤ t164) = true := decide_eq_true c29
                 clear c29
                 by_cases c30 : t164 < (l1.length : Int)
                 ·rw [if_pos c30] at H
                  have c30b0 : decide (t164 < (l1.length : Int)) = true := decide_eq_true c30
                  clear c30
                  by_cases c31 : (wrap64 (rd l1 t164)) = (-1)
                  ·rw [if_pos c31] at H
                   have c31b0 : ((wrap64 (rd l1 t164)) == (-1)) = true := beq_iff_eq.mpr c31
                   have c31b1 : ((wrap64 (rd l1 t164)) != (-1)) = false := bne_eq_false_iff_eq.mpr c31
                   clear c31
                   obtain rfl := Option.some.inj H
                   try go_wp2
                   have n0_ := A_ (Kd.R_drew HO_6.out)
                   have n1_ := A_ (blk_drew BK146.out)
                   have n2_ := A_ (blk_drew BK156.out)
                   have n3_ := A_ (below_drew1 HB.out)
                   clear HO_6
                   clear BK146
                   clear BK156
                   clear HB
                   have HO_6 := n0_
                   have BK146 := n1_
                   have BK156 := n2_
                   have HB := n3_
                   clear n0_ n1_ n2_ n3_
                   obtain ⟨Ao33, co33, eo33⟩ := Kd.R_slice HO_6.out
                   (first | subst eo33 | (injection eo33 with f1_ f2_ f3_; have f4_ := f1_.symm; have f5_ := f3_.symm; clear f1_ f2_ f3_; subst f4_; subst f5_))
                   have p157 : 0 ≤ (x10_3 : Int) := asm_
                   have q157 : x10_3 < (t148.length : Int) := asm_
                   obtain ⟨ad157, e157, hx157_0, hx157_1, hx157_2⟩ := at_T60 (Kd.R_reads' HO_6.out).2.2 x10_3 p157 q157
                   cases e157
                   replace p157 := eq_true p157
                   replace q157 := eq_true q157
                   refine start_ (n := 13) (S := fun w' => w'.cell? ⟨gb156, 0, none⟩ = some (.int .i16 t152) ∧ w'.cell? ⟨gb156, 1, none⟩ = some (.int .i16 t153) ∧ w'.cell? ⟨gb156, 2, none⟩ = some (.int .i16 t154) ∧ w'.cell? ⟨gb156, 3, none⟩ = some (.int .i16 t155) ∧ w'.cell? (ad157.add ((x10_3).toNat * 3)) = some (.int .i8 ((rd_T60 t148 x10_3).f0)) ∧ w'.cell? ⟨(ad157.add ((x10_3).toNat * 3)).block, (ad157.add ((x10_3).toNat * 3)).off + 1, none⟩ = some (.int .i8 ((rd_T60 t148 x10_3).f1)) ∧ w'.cell? ⟨(ad157.add ((x10_3).toNat * 3)).block, (ad157.add ((x10_3).toNat * 3)).off + 2, none⟩ = some (.int .i8 ((rd_T60 t148 x10_3).f2))) (ds := []) #[false, false, false, false, false, false, false, false, false, false, false, false, false] (by kernel_rfl) rfl rfl ⟨(blk_cell BK156.out 0).trans rfl, (blk_cell BK156.out 1).trans rfl, (blk_cell BK156.out 2).trans rfl, (blk_cell BK156.out 3).trans rfl, hx157_0, hx157_1, hx157_2⟩ (fun hHeld => ?_); refine with_tabW spec_l02Broken.tab13 spec_l02Broken.bits13 (fun HT_ HW_ => ?_)
                   generalize wc.drew = w32 at HO_6 BK146 BK156 HB hx157_0 hx157_1 hx157_2 hHeld ⊢
                   refine pure_ (i := 0) (N := some 59) (v := ?_) (a' := ?_) #[true, false, false, false, false, false, false, false, false, false, false, false, false] rfl rfl (any_of HT_.out (by kernel_rfl)) (fun _ _ _ h => h) (Or.inl ⟨by rfl, ?_⟩) ?_ ?_
                   rotate_left
                   ·intro w'
                    go_simp
                    with_reducible rfl
                   rotate_left
                   ·simp only [Act.put, sp_]
                    rfl
                   refine pure_ (i := 2) (N := some 61) (v := ?_) (a' := ?_) #[true, false, true, false, false, false, false, false, false, false, false, false, false] rfl rfl (any_of HT_.out (by kernel_rfl)) (fun _ _ _ h => h) (Or.inl ⟨by rfl, ?_⟩) ?_ ?_
                   rotate_left
                   ·intro w'
                    go_simp
                    with_reducible rfl
                   rotate_left
                   ·simp only [Act.put, sp_]
                    rfl
                   refine pure_ (i := 3) (N := some 62) (v := ?_) (a' := ?_) #[true, false, true, true, false, false, false, false, false, false, false, false, false] rfl rfl (any_of HT_.out (by kernel_rfl)) (fun _ _ _ h => h) (Or.inl ⟨by rfl, ?_⟩) ?_ ?_
                   rotate_left
                   ·intro w'
                    go_simp
                    with_reducible rfl
                   rotate_left
                   ·simp only [Act.put, sp_]
                    rfl
                   refine pure_ (i := 4) (N := some 63) (v := ?_) (a' := ?_) #[true, false, true, true, true, false, false, false, false, false, false, false, false] rfl rfl (any_of HT_.out (by kernel_rfl)) (fun _ _ _ h => h) (Or.inl ⟨by rfl, ?_⟩) ?_ ?_
                   rotate_left
                   ·intro w'
                    go_simp
                    with_reducible rfl
                   rotate_left
                   ·simp only [Act.put, sp_]
                    rfl
                   refine take_ (i := 1) (N := some 60) (v := ?_) (a' := ?_) #[true, true, true, true, true, false, false, false, false, false, false, false, false] rfl rfl (take_ofW HT_.out HW_.out (by kernel_rfl)) (fun _ _ _ h => h) (Or.inl ⟨by rfl, ?_⟩) hHeld ?_ ?_
                   rotate_left
                   ·rintro w' ⟨s0, s1, s2, s3, s4, s5, s6⟩
                    go_simp
                    with_reducible rfl
                   rotate_left
                   ·simp only [Act.put, sp_]
                    rfl
                   refine take_ (i := 5) (N := some 64) (v := ?_) (a' := ?_) #[true, true, true, true, true, true, false, false, false, false, false, false, false] rfl rfl (take_ofW HT_.out HW_.out (by kernel_rfl)) (fun _ _ _ h => h) (Or.inl ⟨by rfl, ?_⟩) hHeld ?_ ?_
                   rotate_left
                   ·rintro w' ⟨s0, s1, s2, s3, s4, s5, s6⟩
                    go_simp
                    with_reducible rfl
                   rotate_left
                   ·simp only [Act.put, sp_]
                    rfl
                   refine join_ (σ := Nat) 2 #[true, true, true, true, true, true, true, true, true, true, true, false, false] (fun s_ => [(65, .tuple #[.agg #[.int .i16 t158, .int .i16 t159, .int .i16 t160, .int .i16 t161], .int .i64 t162]), (11, .pointer (some ⟨s_, 0, none⟩)), (58, .tuple #[.agg #[.int .i16 t158, .int .i16 t159, .int .i16 t160, .int .i16 t161], .int .i64 t162]), (66, .agg #[.int .i16 t158, .int .i16 t159, .int .i16 t160, .int .i16 t161]), (67, .int .i64 t162)]) (fun s_ w' => (w'.cell? ⟨gb156, 0, none⟩ = some (.int .i16 t152) ∧ w'.cell? ⟨gb156, 1, none⟩ = some (.int .i16 t153) ∧ w'.cell? ⟨gb156, 2, none⟩ = some (.int .i16 t154) ∧ w'.cell? ⟨gb156, 3, none⟩ = some (.int .i16 t155) ∧ w'.cell? (ad157.add ((x10_3).toNat * 3)) = some (.int .i8 ((rd_T60 t148 x10_3).f0)) ∧ w'.cell? ⟨(ad157.add ((x10_3).toNat * 3)).block, (ad157.add ((x10_3).toNat * 3)).off + 1, none⟩ = some (.int .i8 ((rd_T60 t148 x10_3).f1)) ∧ w'.cell? ⟨(ad157.add ((x10_3).toNat * 3)).block, (ad157.add ((x10_3).toNat * 3)).off + 2, none⟩ = some (.int .i8 ((rd_T60 t148 x10_3).f2))) ∧ (Kd.R k60 60 w' w.heap.size (fun _ => True) (.slice (some ad157) t148.length co33) t148) ∧ (w'.heap[gp0]? = some (.cells #[.slice A0_0 l0_0.length c0_0, .int .i16 x147001_3, .int .i16 x147002_3, .int .i16 x147003_3, .int .i16 x147004_3, .bool x147005_3] 32 (0, 0))) ∧ (w'.heap[gb156]? = some (.cells #[.int .i16 t152, .int .i16 t153, .int .i16 t154, .int .i16 t155] 30 (0, 0))) ∧ (w'.heap[s_]? = some (.cells #[.int .i16 0, .int .i16 0, .int .i16 0, .int .i16 0] 30 (0, 0))) ∧ (w.heap.size ≤ s_) ∧ (w.heap.size ≤ s_) ∧ (gp0 ≠ s_) ∧ (s_ ≠ gp0) ∧ (gb156 ≠ s_) ∧ (s_ ≠ gb156) ∧ (Below w.heap.size w w')) ?_ ?_
                   rotate_left
                   ·intro hCont
                    refine two_ (i := 6) (j := 10) (Ni := some 65) (Nj := some 11) #[true, true, true, true, true, true, true, false, false, false, false, false, false] #[true, true, true, true, true, true, false, false, false, false, true, false, false] rfl rfl rfl rfl (two_of HT_.out (by kernel_rfl)) (by decide) (by decide) (fun K hK => ?_) (fun K hK => ?_)
                    ·skip
                     refine goes_ Try.func85 (by kernel_rfl) rfl #[.pointer (some ⟨gp0, 0, none⟩), .agg #[.int .i16 t152, .int .i16 t153, .int .i16 t154, .int .i16 t155], .agg #[.int .i8 ((rd_T60 t148 x10_3).f0), .int .i8 ((rd_T60 t148 x10_3).f1), .int .i8 ((rd_T60 t148 x10_3).f2)]] (by rfl) rfl rfl arg_ ?_
                     with_reducible refine (spec_l02Move.calls kj18 gp0 A0_0 c0_0 l0_0 x147001_3 x147002_3 x147003_3 x147004_3 x147005_3 t152 t153 t154 t155 ((rd_T60 t148 x10_3).f0) ((rd_T60 t148 x10_3).f1) ((rd_T60 t148 x10_3).f2) t158 t159 t160 t161 t162 _ ?side1 ?side2 ?side3 A26.out).mono ?_
                     (case side1 => exact (pl_ BK146))
                     (case side2 => exact Kd.C_below HR0_0.out (bl_ HB))
                     (case side3 => exact HC0_0.out)
                     rintro e w34 ⟨rfl, hb⟩
                     have HS4_ := (hb.cell (World.block_lt_of_cell? _ _ (hHeld.2.2.2.2.1))).trans (hHeld.2.2.2.2.1)
                     have HS5_ := (hb.cell (World.block_lt_of_cell? _ _ (hHeld.2.2.2.2.2.1))).trans (hHeld.2.2.2.2.2.1)
                     have HS6_ := (hb.cell (World.block_lt_of_cell? _ _ (hHeld.2.2.2.2.2.2))).trans (hHeld.2.2.2.2.2.2)
                     refine ⟨_, rfl, ?_⟩
                     have n0_ := A_ (Kd.R_below (pr_ HO_6) hb)
                     have n1_ := A_ (blk_below (pl_ BK146) hb)
                     have n2_ := A_ (blk_below (pl_ BK156) hb)
                     have n3_ := A_ (below_step (bl_ HB) hb)
                     clear HO_6
                     clear BK146
                     clear BK156
                     clear HB
                     have HO_6 := n0_
                     have BK146 := n1_
                     have BK156 := n2_
                     have HB := n3_
                     clear n0_ n1_ n2_ n3_
                     (try clear hb)
                     (try clear hb2)
                     (try clear hk)
                     (try clear hi)
                     refine hK.out _ _ ⟨(blk_cell BK156.out 0).trans rfl, (blk_cell BK156.out 1).trans rfl, (blk_cell BK156.out 2).trans rfl, (blk_cell BK156.out 3).trans rfl, HS4_, HS5_, HS6_⟩ (fun hHeld => ?_)
                     clear hK K
                     refine norm_ (a' := ?_) ?_ ?_
                     rotate_left
                     ·show Act.put _ (some 65) _ = _
                      simp only [Act.put, sp_]
                      rfl
                     refine pure_ (i := 7) (N := some 58) (v := ?_) (a' := ?_) #[true, true, true, true, true, true, true, true, false, false, false, false, false] rfl rfl (any_of HT_.out (by kernel_rfl)) (fun _ _ _ h => h) (Or.inl ⟨by rfl, ?_⟩) ?_ ?_
                     rotate_left
                     ·intro w'
                      go_simp
                      with_reducible rfl
                     rotate_left
                     ·simp only [Act.put, sp_]
                      rfl
                     refine pure_ (i := 8) (N := some 66) (v := ?_) (a' := ?_) #[true, true, true, true, true, true, true, true, true, false, false, false, false] rfl rfl (any_of HT_.out (by kernel_rfl)) (fun _ _ _ h => h) (Or.inl ⟨by rfl, ?_⟩) ?_ ?_
                     rotate_left
                     ·intro w'
                      go_simp
                      with_reducible rfl
                     rotate_left
                     ·simp only [Act.put, sp_]
                      rfl
                     refine pure_ (i := 9) (N := some 67) (v := ?_) (a' := ?_) #[true, true, true, true, true, true, true, true, true, true, false, false, false] rfl rfl (any_of HT_.out (by kernel_rfl)) (fun _ _ _ h => h) (Or.inl ⟨by rfl, ?_⟩) ?_ ?_
                     rotate_left
                     ·intro w'
                      go_simp
                      with_reducible rfl
                     rotate_left
                     ·simp only [Act.put, sp_]
                      rfl
                     refine one_ (i := 10) (N := some 11) #[true, true, true, true, true, true, true, true, true, true, true, false, false] rfl rfl (one_of HT_.out (by kernel_rfl)) (by decide) (fun K hK => ?_)
                     refine box_step ?hg (N := 11) ?hd (cs := #[.int .i16 0, .int .i16 0, .int .i16 0, .int .i16 0]) (t := 30) ?hr ?_; (case hd => rfl); (case hg => rfl); (case hr => first | (go_simp; done) | (go_simp; rfl))
                     intro gb163 hg w35 hbox hb
                     have HS4_ := (hb.cell (World.block_lt_of_cell? _ _ (hHeld.2.2.2.2.1))).trans (hHeld.2.2.2.2.1)
                     have HS5_ := (hb.cell (World.block_lt_of_cell? _ _ (hHeld.2.2.2.2.2.1))).trans (hHeld.2.2.2.2.2.1)
                     have HS6_ := (hb.cell (World.block_lt_of_cell? _ _ (hHeld.2.2.2.2.2.2))).trans (hHeld.2.2.2.2.2.2)
                     have n0_ := A_ (Kd.R_below (pr_ HO_6) hb)
                     have n1_ := A_ (blk_below (pl_ BK146) hb)
                     have n2_ := A_ (blk_below (pl_ BK156) hb)
                     have n3_ := A_ (below_step (bl_ HB) hb)
                     have n4_ := A_ (hbox)
                     have n5_ := A_ ((by rw [hg]; exact (below_size (bl_ HB)) : w.heap.size ≤ gb163))
                     have n6_ := n5_
                     have n7_ := A_ ((by rw [hg]; exact Nat.ne_of_lt (blk_lt (pl_ BK146)) : gp0 ≠ gb163))
                     have n8_ := Aside0.mk n7_.out.symm
                     have n9_ := A_ ((by rw [hg]; exact Nat.ne_of_lt (blk_lt (pl_ BK156)) : gb156 ≠ gb163))
                     have n10_ := Aside0.mk n9_.out.symm
                     clear HO_6
                     clear BK146
                     clear BK156
                     clear HB
                     have HO_6 := n0_
                     have BK146 := n1_
                     have BK156 := n2_
                     have HB := n3_
                     have BK163 := n4_
                     have GW163 := n5_
                     have GE163 := n6_
                     have NB146_163 := n7_
                     have NB163_146 := n8_
                     have NB156_163 := n9_
                     have NB163_156 := n10_
                     clear n0_ n1_ n2_ n3_ n4_ n5_ n6_ n7_ n8_ n9_ n10_
                     clear hb hbox hg
                     refine hK.out _ _ ⟨(blk_cell BK156.out 0).trans rfl, (blk_cell BK156.out 1).trans rfl, (blk_cell BK156.out 2).trans rfl, (blk_cell BK156.out 3).trans rfl, HS4_, HS5_, HS6_⟩ (fun hHeld => ?_)
                     clear hK K
                     refine norm_ (a' := ?_) ?_ ?_
                     rotate_left
                     ·show Act.put _ (some 11) _ = _
                      simp only [Act.put, sp_]
                      rfl
                     exact norm_ pa_ (hCont (gb163) _ ⟨hHeld, (pr_ HO_6), (pl_ BK146), (pl_ BK156), (pl_ BK163), GW163.out, GE163.out, NB146_163.out, NB163_146.out, NB156_163.out, NB163_156.out, (bl_ HB)⟩)
                    ·skip
                     refine box_step ?hg (N := 11) ?hd (cs := #[.int .i16 0, .int .i16 0, .int .i16 0, .int .i16 0]) (t := 30) ?hr ?_; (case hd => rfl); (case hg => rfl); (case hr => first | (go_simp; done) | (go_simp; rfl))
                     intro gb163 hg w34 hbox hb
                     have HS4_ := (hb.cell (World.block_lt_of_cell? _ _ (hHeld.2.2.2.2.1))).trans (hHeld.2.2.2.2.1)
                     have HS5_ := (hb.cell (World.block_lt_of_cell? _ _ (hHeld.2.2.2.2.2.1))).trans (hHeld.2.2.2.2.2.1)
                     have HS6_ := (hb.cell (World.block_lt_of_cell? _ _ (hHeld.2.2.2.2.2.2))).trans (hHeld.2.2.2.2.2.2)
                     have n0_ := A_ (Kd.R_below (pr_ HO_6) hb)
                     have n1_ := A_ (blk_below (pl_ BK146) hb)
                     have n2_ := A_ (blk_below (pl_ BK156) hb)
                     have n3_ := A_ (below_step (bl_ HB) hb)
                     have n4_ := A_ (hbox)
                     have n5_ := A_ ((by rw [hg]; exact (below_size (bl_ HB)) : w.heap.size ≤ gb163))
                     have n6_ := n5_
                     have n7_ := A_ ((by rw [hg]; exact Nat.ne_of_lt (blk_lt (pl_ BK146)) : gp0 ≠ gb163))
                     have n8_ := Aside0.mk n7_.out.symm
                     have n9_ := A_ ((by rw [hg]; exact Nat.ne_of_lt (blk_lt (pl_ BK156)) : gb156 ≠ gb163))
                     have n10_ := Aside0.mk n9_.out.symm
                     clear HO_6
                     clear BK146
                     clear BK156
                     clear HB
                     have HO_6 := n0_
                     have BK146 := n1_
                     have BK156 := n2_
                     have HB := n3_
                     have BK163 := n4_
                     have GW163 := n5_
                     have GE163 := n6_
                     have NB146_163 := n7_
                     have NB163_146 := n8_
                     have NB156_163 := n9_
                     have NB163_156 := n10_
                     clear n0_ n1_ n2_ n3_ n4_ n5_ n6_ n7_ n8_ n9_ n10_
                     clear hb hbox hg
                     refine hK.out _ _ ⟨(blk_cell BK156.out 0).trans rfl, (blk_cell BK156.out 1).trans rfl, (blk_cell BK156.out 2).trans rfl, (blk_cell BK156.out 3).trans rfl, HS4_, HS5_, HS6_⟩ (fun hHeld => ?_)
                     clear hK K
                     refine norm_ (a' := ?_) ?_ ?_
                     rotate_left
                     ·show Act.put _ (some 11) _ = _
                      simp only [Act.put, sp_]
                      rfl
                     refine one_ (i := 6) (N := some 65) #[true, true, true, true, true, true, true, false, false, false, true, false, false] rfl rfl (one_of HT_.out (by kernel_rfl)) (by decide) (fun K hK => ?_)
                     refine goes_ Try.func85 (by kernel_rfl) rfl #[.pointer (some ⟨gp0, 0, none⟩), .agg #[.int .i16 t152, .int .i16 t153, .int .i16 t154, .int .i16 t155], .agg #[.int .i8 ((rd_T60 t148 x10_3).f0), .int .i8 ((rd_T60 t148 x10_3).f1), .int .i8 ((rd_T60 t148 x10_3).f2)]] (by rfl) rfl rfl arg_ ?_
                     with_reducible refine (spec_l02Move.calls kj18 gp0 A0_0 c0_0 l0_0 x147001_3 x147002_3 x147003_3 x147004_3 x147005_3 t152 t153 t154 t155 ((rd_T60 t148 x10_3).f0) ((rd_T60 t148 x10_3).f1) ((rd_T60 t148 x10_3).f2) t158 t159 t160 t161 t162 _ ?side1 ?side2 ?side3 A26.out).mono ?_
                     (case side1 => exact (pl_ BK146))
                     (case side2 => exact Kd.C_below HR0_0.out (bl_ HB))
                     (case side3 => exact HC0_0.out)
                     rintro e w35 ⟨rfl, hb⟩
                     have HS4_ := (hb.cell (World.block_lt_of_cell? _ _ (hHeld.2.2.2.2.1))).trans (hHeld.2.2.2.2.1)
                     have HS5_ := (hb.cell (World.block_lt_of_cell? _ _ (hHeld.2.2.2.2.2.1))).trans (hHeld.2.2.2.2.2.1)
                     have HS6_ := (hb.cell (World.block_lt_of_cell? _ _ (hHeld.2.2.2.2.2.2))).trans (hHeld.2.2.2.2.2.2)
                     refine ⟨_, rfl, ?_⟩
                     have n0_ := A_ (Kd.R_below (pr_ HO_6) hb)
                     have n1_ := A_ (blk_below (pl_ BK146) hb)
                     have n2_ := A_ (blk_below (pl_ BK156) hb)
                     have n3_ := A_ (blk_below (pl_ BK163) hb)
                     have n4_ := A_ (below_step (bl_ HB) hb)
                     clear HO_6
                     clear BK146
                     clear BK156
                     clear BK163
                     clear HB
                     have HO_6 := n0_
                     have BK146 := n1_
                     have BK156 := n2_
                     have BK163 := n3_
                     have HB := n4_
                     clear n0_ n1_ n2_ n3_ n4_
                     (try clear hb)
                     (try clear hb2)
                     (try clear hk)
                     (try clear hi)
                     refine hK.out _ _ ⟨(blk_cell BK156.out 0).trans rfl, (blk_cell BK156.out 1).trans rfl, (blk_cell BK156.out 2).trans rfl, (blk_cell BK156.out 3).trans rfl, HS4_, HS5_, HS6_⟩ (fun hHeld => ?_)
                     clear hK K
                     refine norm_ (a' := ?_) ?_ ?_
                     rotate_left
                     ·show Act.put _ (some 65) _ = _
                      simp only [Act.put, sp_]
                      rfl
                     refine pure_ (i := 7) (N := some 58) (v := ?_) (a' := ?_) #[true, true, true, true, true, true, true, true, false, false, true, false, false] rfl rfl (any_of HT_.out (by kernel_rfl)) (fun _ _ _ h => h) (Or.inl ⟨by rfl, ?_⟩) ?_ ?_
                     rotate_left
                     ·intro w'
                      go_simp
                      with_reducible rfl
                     rotate_left
                     ·simp only [Act.put, sp_]
                      rfl
                     refine pure_ (i := 8) (N := some 66) (v := ?_) (a' := ?_) #[true, true, true, true, true, true, true, true, true, false, true, false, false] rfl rfl (any_of HT_.out (by kernel_rfl)) (fun _ _ _ h => h) (Or.inl ⟨by rfl, ?_⟩) ?_ ?_
                     rotate_left
                     ·intro w'
                      go_simp
                      with_reducible rfl
                     rotate_left
                     ·simp only [Act.put, sp_]
                      rfl
                     refine pure_ (i := 9) (N := some 67) (v := ?_) (a' := ?_) #[true, true, true, true, true, true, true, true, true, true, true, false, false] rfl rfl (any_of HT_.out (by kernel_rfl)) (fun _ _ _ h => h) (Or.inl ⟨by rfl, ?_⟩) ?_ ?_
                     rotate_left
                     ·intro w'
                      go_simp
                      with_reducible rfl
                     rotate_left
                     ·simp only [Act.put, sp_]
                      rfl
                     exact norm_ pa_ (hCont (gb163) _ ⟨hHeld, (pr_ HO_6), (pl_ BK146), (pl_ BK156), (pl_ BK163), GW163.out, GE163.out, NB146_163.out, NB163_146.out, NB156_163.out, NB163_156.out, (bl_ HB)⟩)
                   rintro gb163 w36 ⟨hS_, h0_, h1_, h2_, h3_, h4_, h5_, h6_, h7_, h8_, h9_, h10_⟩
                   have n0_ : Aside0 (Kd.R k60 60 w36 w.heap.size (fun _ => True) (.slice (some ad157) t148.length co33) t148) := ⟨h0_⟩
                   have n1_ : Aside0 (w36.heap[gp0]? = some (.cells #[.slice A0_0 l0_0.length c0_0, .int .i16 x147001_3, .int .i16 x147002_3, .int .i16 x147003_3, .int .i16 x147004_3, .bool x147005_3] 32 (0, 0))) := ⟨h1_⟩
                   have n2_ : Aside0 (w36.heap[gb156]? = some (.cells #[.int .i16 t152, .int .i16 t153, .int .i16 t154, .int .i16 t155] 30 (0, 0))) := ⟨h2_⟩
                   have n3_ : Aside0 (w36.heap[gb163]? = some (.cells #[.int .i16 0, .int .i16 0, .int .i16 0, .int .i16 0] 30 (0, 0))) := ⟨h3_⟩
                   have n4_ : Aside0 (w.heap.size ≤ gb163) := ⟨h4_⟩
                   have n5_ : Aside0 (w.heap.size ≤ gb163) := ⟨h5_⟩
                   have n6_ : Aside0 (gp0 ≠ gb163) := ⟨h6_⟩
                   have n7_ : Aside0 (gb163 ≠ gp0) := ⟨h7_⟩
                   have n8_ : Aside0 (gb156 ≠ gb163) := ⟨h8_⟩
                   have n9_ : Aside0 (gb163 ≠ gb156) := ⟨h9_⟩
                   have n10_ : Aside0 (Below w.heap.size w w36) := ⟨h10_⟩
                   clear HO_6
                   clear BK146
                   clear BK156
                   clear HB
                   clear h0_ h1_ h2_ h3_ h4_ h5_ h6_ h7_ h8_ h9_ h10_
                   have HO_6 := n0_
                   have BK146 := n1_
                   have BK156 := n2_
                   have BK163 := n3_
                   have GW163 := n4_
                   have GE163 := n5_
                   have NB146_163 := n6_
                   have NB163_146 := n7_
                   have NB156_163 := n8_
                   have NB163_156 := n9_
                   have HB := n10_
                   clear n0_ n1_ n2_ n3_ n4_ n5_ n6_ n7_ n8_ n9_ n10_
                   have hHeld : w36.cell? ⟨gb156, 0, none⟩ = some (.int .i16 t152) ∧ w36.cell? ⟨gb156, 1, none⟩ = some (.int .i16 t153) ∧ w36.cell? ⟨gb156, 2, none⟩ = some (.int .i16 t154) ∧ w36.cell? ⟨gb156, 3, none⟩ = some (.int .i16 t155) ∧ w36.cell? (ad157.add ((x10_3).toNat * 3)) = some (.int .i8 ((rd_T60 t148 x10_3).f0)) ∧ w36.cell? ⟨(ad157.add ((x10_3).toNat * 3)).block, (ad157.add ((x10_3).toNat * 3)).off + 1, none⟩ = some (.int .i8 ((rd_T60 t148 x10_3).f1)) ∧ w36.cell? ⟨(ad157.add ((x10_3).toNat * 3)).block, (ad157.add ((x10_3).toNat * 3)).off + 2, none⟩ = some (.int .i8 ((rd_T60 t148 x10_3).f2)) := hS_
                   refine norm_ (a' := ?_) ?_ ?_
                   rotate_left
                   ·simp only [putAll, Act.put, List.setIfInBounds_toArray, List.set_cons_zero, List.set_cons_succ]
                    rfl
                   refine one_ (i := 11) (N := none) #[true, true, true, true, true, true, true, true, true, true, true, true, false] rfl rfl (one_of HT_.out (by kernel_rfl)) (by decide) (fun K hK => ?_)
                   have hs37 : w36.cell? ⟨gb163, 0, none⟩ = some (.int .i16 0) := (blk_cell BK163.out 0).trans rfl
                   have hfs37 := blk_frozen BK163.out 0
                   have hns37_0 := NB146_163.out
                   have hns37_1 := NB156_163.out
                   have hms37_0 := NB163_146.out
                   have hms37_1 := NB163_156.out
                   have hs38 : w36.cell? ⟨gb163, 1, none⟩ = some (.int .i16 0) := (blk_cell BK163.out 1).trans rfl
                   have hfs38 := blk_frozen BK163.out 1
                   have hns38_0 := NB146_163.out
                   have hns38_1 := NB156_163.out
                   have hms38_0 := NB163_146.out
                   have hms38_1 := NB163_156.out
                   have hs39 : w36.cell? ⟨gb163, 2, none⟩ = some (.int .i16 0) := (blk_cell BK163.out 2).trans rfl
                   have hfs39 := blk_frozen BK163.out 2
                   have hns39_0 := NB146_163.out
                   have hns39_1 := NB156_163.out
                   have hms39_0 := NB163_146.out
                   have hms39_1 := NB163_156.out
                   have hs40 : w36.cell? ⟨gb163, 3, none⟩ = some (.int .i16 0) := (blk_cell BK163.out 3).trans rfl
                   have hfs40 := blk_frozen BK163.out 3
                   have hns40_0 := NB146_163.out
                   have hns40_1 := NB156_163.out
                   have hms40_0 := NB163_146.out
                   have hms40_1 := NB163_156.out
                   refine skip_ (w1 := ?_) (by rfl) rfl ?_ ?_
                   rotate_left
                   ·go_simp
                    rfl
                   refine hK.out _ _ ⟨(cf4_ NB156_163 (hHeld.1)), (cf4_ NB156_163 (hHeld.2.1)), (cf4_ NB156_163 (hHeld.2.2.1)), (cf4_ NB156_163 (hHeld.2.2.2.1)), ((cell_far (p := ⟨gb163, _, none⟩) (by first | exact ob0_ HO_6 BK163 | exact ob1_ HO_6 BK163) _).trans (((cell_far (p := ⟨gb163, _, none⟩) (by first | exact ob0_ HO_6 BK163 | exact ob1_ HO_6 BK163) _).trans (((cell_far (p := ⟨gb163, _, none⟩) (by first | exact ob0_ HO_6 BK163 | exact ob1_ HO_6 BK163) _).trans (((cell_far (p := ⟨gb163, _, none⟩) (by first | exact ob0_ HO_6 BK163 | exact ob1_ HO_6 BK163) _).trans (hHeld.2.2.2.2.1)))))))), ((cell_far (p := ⟨gb163, _, none⟩) (by first | exact ob0_ HO_6 BK163 | exact ob1_ HO_6 BK163) _).trans (((cell_far (p := ⟨gb163, _, none⟩) (by first | exact ob0_ HO_6 BK163 | exact ob1_ HO_6 BK163) _).trans (((cell_far (p := ⟨gb163, _, none⟩) (by first | exact ob0_ HO_6 BK163 | exact ob1_ HO_6 BK163) _).trans (((cell_far (p := ⟨gb163, _, none⟩) (by first | exact ob0_ HO_6 BK163 | exact ob1_ HO_6 BK163) _).trans (hHeld.2.2.2.2.2.1)))))))), ((cell_far (p := ⟨gb163, _, none⟩) (by first | exact ob0_ HO_6 BK163 | exact ob1_ HO_6 BK163) _).trans (((cell_far (p := ⟨gb163, _, none⟩) (by first | exact ob0_ HO_6 BK163 | exact ob1_ HO_6 BK163) _).trans (((cell_far (p := ⟨gb163, _, none⟩) (by first | exact ob0_ HO_6 BK163 | exact ob1_ HO_6 BK163) _).trans (((cell_far (p := ⟨gb163, _, none⟩) (by first | exact ob0_ HO_6 BK163 | exact ob1_ HO_6 BK163) _).trans (hHeld.2.2.2.2.2.2))))))))⟩ (fun hHeld => ?_)
                   clear hK K
                   refine pure_ (i := 12) (N := some 12) (v := ?_) (a' := ?_) #[true, true, true, true, true, true, true, true, true, true, true, true, true] rfl rfl (any_of HT_.out (by kernel_rfl)) (fun _ _ _ h => h) (Or.inl ⟨by rfl, ?_⟩) ?_ ?_
                   rotate_left
                   ·intro w'
                    go_simp
                    with_reducible rfl
                   rotate_left
                   ·simp only [Act.put, sp_]
                    rfl
                   refine done_ (done_of HT_.out (by kernel_rfl)) ?_
                   have hnb41 := NB163_146.out
                   have hnc41 := NB146_163.out
                   have hnb42 := NB163_156.out
                   have hnc42 := NB156_163.out
                   obtain ⟨hcz43_0, hcz43_1, hcz43_2, hcz43_3, hfz43_0, hfz43_1, hfz43_2, hfz43_3⟩ := cl4_ BK163
                   try go_wp2_with (first | ((with_reducible refine gate_callee (f := 78) rfl ?_); refine goesL_ (some 73) rfl rfl Try.func78 (by kernel_rfl) rfl #[.pointer (some ⟨gp0, 0, none⟩), .agg #[.int .i16 t158, .int .i16 t159, .int .i16 t160, .int .i16 t161]] rfl arg_ ?_; (with_reducible refine (spec_l02Index.calls kj18 gp0 A0_0 c0_0 l0_0 x147001_3 x147002_3 x147003_3 x147004_3 x147005_3 t158 t159 t160 t161 t164 _ ?side1 ?side2 ?side3 A28.out).mono ?_); (case side1 => exact (pf_ BK146 NB146_163)); (case side2 => exact Kd.C_below HR0_0.out (bs_ HB GE163)); (case side3 => exact HC0_0.out); rintro e w44 ⟨rfl, hb⟩; refine ⟨_, rfl, ?_⟩; have n0_ := A_ (Kd.R_below (by (with_reducible repeat (first | apply Kd.R_alloc | apply Kd.R_drewN | apply Kd.R_drew)); exact (rf4_ HO_6 BK163 (by decide))) hb); have n1_ := A_ (blk_below (g := gp0) (o := .cells #[.slice A0_0 l0_0.length c0_0, .int .i16 x147001_3, .int .i16 x147002_3, .int .i16 x147003_3, .int .i16 x147004_3, .bool x147005_3] 32 (0, 0)) (pf_ BK146 NB146_163) hb); have n2_ := A_ (blk_below (g := gb156) (o := .cells #[.int .i16 t152, .int .i16 t153, .int .i16 t154, .int .i16 t155] 30 (0, 0)) (pf_ BK156 NB156_163) hb); have n3_ := A_ (blk_below (g := gb163) (o := .cells #[.int .i16 t158, .int .i16 t159, .int .i16 t160, .int .i16 t161] 30 (0, 0)) (by (with_reducible repeat (first | refine blk_drewN ?_ _ | refine blk_drew ?_ | refine blk_alloc ?_ _)); refine blk_put (cs := #[.int .i16 t158, .int .i16 t159, .int .i16 t160, .int .i16 0]) ?_ 3 _ rfl; (with_reducible repeat (first | refine blk_drewN ?_ _ | refine blk_drew ?_ | refine blk_alloc ?_ _)); refine blk_put (cs := #[.int .i16 t158, .int .i16 t159, .int .i16 0, .int .i16 0]) ?_ 2 _ rfl; (with_reducible repeat (first | refine blk_drewN ?_ _ | refine blk_drew ?_ | refine blk_alloc ?_ _)); refine blk_put (cs := #[.int .i16 t158, .int .i16 0, .int .i16 0, .int .i16 0]) ?_ 1 _ rfl; (with_reducible repeat (first | refine blk_drewN ?_ _ | refine blk_drew ?_ | refine blk_alloc ?_ _)); refine blk_put (cs := #[.int .i16 0, .int .i16 0, .int .i16 0, .int .i16 0]) ?_ 0 _ rfl; (with_reducible repeat (first | refine blk_drewN ?_ _ | refine blk_drew ?_ | refine blk_alloc ?_ _)); exact BK163.out) hb); have n4_ := A_ (below_step (bs_ HB GE163) hb); clear HO_6; clear BK146; clear BK156; clear BK163; clear HB; have HO_6 := n0_; have BK146 := n1_; have BK156 := n2_; have BK163 := n3_; have HB := n4_; clear n0_ n1_ n2_ n3_ n4_; (try clear hb); (try clear hb2); (try clear hk); (try clear hi); have p165 : 0 ≤ (t164 : Int) := asm_; have q165 : t164 < (l1.length : Int) := asm_; obtain ⟨ad165, e165, hx165_0⟩ := Kd.at_int HR1.out t164 p165 q165; obtain rfl : ad151 = ad165 := (by injection e165); (try replace hx165_0 := (HB.out.cell (World.block_lt_of_cell? w _ hx165_0)).trans hx165_0); replace p165 := eq_true p165; replace q165 := eq_true q165))
                   go_ret
                   exact ⟨by first | rfl | (simp [errW_none, errW_some] <;> rfl) | (simp [*, errW_none, errW_some] <;> rfl), bl_ HB⟩
                  ·rw [if_neg c31] at H
                   have c31b0 : ((wrap64 (rd l1 t164)) == (-1)) = false := beq_eq_false_iff_ne.mpr c31
                   have c31b1 : ((wrap64 (rd l1 t164)) != (-1)) = true := bne_iff_ne.mpr c31
                   by_cases c45 : (wrap64 (rd l1 t164)) > (wrap64 ((wrap64 (rd l1 x7_1)) + 1))
                   ·rw [if_pos c45] at H
                    have c45b0 : decide ((wrap64 ((wrap64 (rd l1 x7_1)) + 1)) < (wrap64 (rd l1 t164))) = true := decide_eq_true c45
                    clear c45
                    obtain rfl := Option.some.inj H
                    try go_wp2
                    have n0_ := A_ (Kd.R_drew HO_6.out)
                    have n1_ := A_ (blk_drew BK146.out)
                    have n2_ := A_ (blk_drew BK156.out)
                    have n3_ := A_ (below_drew1 HB.out)
                    clear HO_6
                    clear BK146
                    clear BK156
                    clear HB
                    have HO_6 := n0_
                    have BK146 := n1_
                    have BK156 := n2_
                    have HB := n3_
                    clear n0_ n1_ n2_ n3_
                    obtain ⟨Ao47, co47, eo47⟩ := Kd.R_slice HO_6.out
                    (first | subst eo47 | (injection eo47 with f1_ f2_ f3_; have f4_ := f1_.symm; have f5_ := f3_.symm; clear f1_ f2_ f3_; subst f4_; subst f5_))
                    have p157 : 0 ≤ (x10_3 : Int) := asm_
                    have q157 : x10_3 < (t148.length : Int) := asm_
                    obtain ⟨ad157, e157, hx157_0, hx157_1, hx157_2⟩ := at_T60 (Kd.R_reads' HO_6.out).2.2 x10_3 p157 q157
                    cases e157
                    replace p157 := eq_true p157
                    replace q157 := eq_true q157
                    refine start_ (n := 13) (S := fun w' => w'.cell? ⟨gb156, 0, none⟩ = some (.int .i16 t152) ∧ w'.cell? ⟨gb156, 1, none⟩ = some (.int .i16 t153) ∧ w'.cell? ⟨gb156, 2, none⟩ = some (.int .i16 t154) ∧ w'.cell? ⟨gb156, 3, none⟩ = some (.int .i16 t155) ∧ w'.cell? (ad157.add ((x10_3).toNat * 3)) = some (.int .i8 ((rd_T60 t148 x10_3).f0)) ∧ w'.cell? ⟨(ad157.add ((x10_3).toNat * 3)).block, (ad157.add ((x10_3).toNat * 3)).off + 1, none⟩ = some (.int .i8 ((rd_T60 t148 x10_3).f1)) ∧ w'.cell? ⟨(ad157.add ((x10_3).toNat * 3)).block, (ad157.add ((x10_3).toNat * 3)).off + 2, none⟩ = some (.int .i8 ((rd_T60 t148 x10_3).f2))) (ds := []) #[false, false, false, false, false, false, false, false, false, false, false, false, false] (by kernel_rfl) rfl rfl ⟨(blk_cell BK156.out 0).trans rfl, (blk_cell BK156.out 1).trans rfl, (blk_cell BK156.out 2).trans rfl, (blk_cell BK156.out 3).trans rfl, hx157_0, hx157_1, hx157_2⟩ (fun hHeld => ?_); refine with_tabW spec_l02Broken.tab13 spec_l02Broken.bits13 (fun HT_ HW_ => ?_)
                    generalize wc.drew = w46 at HO_6 BK146 BK156 HB hx157_0 hx157_1 hx157_2 hHeld ⊢
                    refine pure_ (i := 0) (N := some 59) (v := ?_) (a' := ?_) #[true, false, false, false, false, false, false, false, false, false, false, false, false] rfl rfl (any_of HT_.out (by kernel_rfl)) (fun _ _ _ h => h) (Or.inl ⟨by rfl, ?_⟩) ?_ ?_
                    rotate_left
                    ·intro w'
                     go_simp
                     with_reducible rfl
                    rotate_left
                    ·simp only [Act.put, sp_]
                     rfl
                    refine pure_ (i := 2) (N := some 61) (v := ?_) (a' := ?_) #[true, false, true, false, false, false, false, false, false, false, false, false, false] rfl rfl (any_of HT_.out (by kernel_rfl)) (fun _ _ _ h => h) (Or.inl ⟨by rfl, ?_⟩) ?_ ?_
                    rotate_left
                    ·intro w'
                     go_simp
                     with_reducible rfl
                    rotate_left
                    ·simp only [Act.put, sp_]
                     rfl
                    refine pure_ (i := 3) (N := some 62) (v := ?_) (a' := ?_) #[true, false, true, true, false, false, false, false, false, false, false, false, false] rfl rfl (any_of HT_.out (by kernel_rfl)) (fun _ _ _ h => h) (Or.inl ⟨by rfl, ?_⟩) ?_ ?_
                    rotate_left
                    ·intro w'
                     go_simp
                     with_reducible rfl
                    rotate_left
                    ·simp only [Act.put, sp_]
                     rfl
                    refine pure_ (i := 4) (N := some 63) (v := ?_) (a' := ?_) #[true, false, true, true, true, false, false, false, false, false, false, false, false] rfl rfl (any_of HT_.out (by kernel_rfl)) (fun _ _ _ h => h) (Or.inl ⟨by rfl, ?_⟩) ?_ ?_
                    rotate_left
                    ·intro w'
                     go_simp
                     with_reducible rfl
                    rotate_left
                    ·simp only [Act.put, sp_]
                     rfl
                    refine take_ (i := 1) (N := some 60) (v := ?_) (a' := ?_) #[true, true, true, true, true, false, false, false, false, false, false, false, false] rfl rfl (take_ofW HT_.out HW_.out (by kernel_rfl)) (fun _ _ _ h => h) (Or.inl ⟨by rfl, ?_⟩) hHeld ?_ ?_
                    rotate_left
                    ·rintro w' ⟨s0, s1, s2, s3, s4, s5, s6⟩
                     go_simp
                     with_reducible rfl
                    rotate_left
                    ·simp only [Act.put, sp_]
                     rfl
                    refine take_ (i := 5) (N := some 64) (v := ?_) (a' := ?_) #[true, true, true, true, true, true, false, false, false, false, false, false, false] rfl rfl (take_ofW HT_.out HW_.out (by kernel_rfl)) (fun _ _ _ h => h) (Or.inl ⟨by rfl, ?_⟩) hHeld ?_ ?_
                    rotate_left
                    ·rintro w' ⟨s0, s1, s2, s3, s4, s5, s6⟩
                     go_simp
                     with_reducible rfl
                    rotate_left
                    ·simp only [Act.put, sp_]
                     rfl
                    refine join_ (σ := Nat) 2 #[true, true, true, true, true, true, true, true, true, true, true, false, false] (fun s_ => [(65, .tuple #[.agg #[.int .i16 t158, .int .i16 t159, .int .i16 t160, .int .i16 t161], .int .i64 t162]), (11, .pointer (some ⟨s_, 0, none⟩)), (58, .tuple #[.agg #[.int .i16 t158, .int .i16 t159, .int .i16 t160, .int .i16 t161], .int .i64 t162]), (66, .agg #[.int .i16 t158, .int .i16 t159, .int .i16 t160, .int .i16 t161]), (67, .int .i64 t162)]) (fun s_ w' => (w'.cell? ⟨gb156, 0, none⟩ = some (.int .i16 t152) ∧ w'.cell? ⟨gb156, 1, none⟩ = some (.int .i16 t153) ∧ w'.cell? ⟨gb156, 2, none⟩ = some (.int .i16 t154) ∧ w'.cell? ⟨gb156, 3, none⟩ = some (.int .i16 t155) ∧ w'.cell? (ad157.add ((x10_3).toNat * 3)) = some (.int .i8 ((rd_T60 t148 x10_3).f0)) ∧ w'.cell? ⟨(ad157.add ((x10_3).toNat * 3)).block, (ad157.add ((x10_3).toNat * 3)).off + 1, none⟩ = some (.int .i8 ((rd_T60 t148 x10_3).f1)) ∧ w'.cell? ⟨(ad157.add ((x10_3).toNat * 3)).block, (ad157.add ((x10_3).toNat * 3)).off + 2, none⟩ = some (.int .i8 ((rd_T60 t148 x10_3).f2))) ∧ (Kd.R k60 60 w' w.heap.size (fun _ => True) (.slice (some ad157) t148.length co47) t148) ∧ (w'.heap[gp0]? = some (.cells #[.slice A0_0 l0_0.length c0_0, .int .i16 x147001_3, .int .i16 x147002_3, .int .i16 x147003_3, .int .i16 x147004_3, .bool x147005_3] 32 (0, 0))) ∧ (w'.heap[gb156]? = some (.cells #[.int .i16 t152, .int .i16 t153, .int .i16 t154, .int .i16 t155] 30 (0, 0))) ∧ (w'.heap[s_]? = some (.cells #[.int .i16 0, .int .i16 0, .int .i16 0, .int .i16 0] 30 (0, 0))) ∧ (w.heap.size ≤ s_) ∧ (w.heap.size ≤ s_) ∧ (gp0 ≠ s_) ∧ (s_ ≠ gp0) ∧ (gb156 ≠ s_) ∧ (s_ ≠ gb156) ∧ (Below w.heap.size w w')) ?_ ?_
                    rotate_left
                    ·intro hCont
                     refine two_ (i := 6) (j := 10) (Ni := some 65) (Nj := some 11) #[true, true, true, true, true, true, true, false, false, false, false, false, false] #[true, true, true, true, true, true, false, false, false, false, true, false, false] rfl rfl rfl rfl (two_of HT_.out (by kernel_rfl)) (by decide) (by decide) (fun K hK => ?_) (fun K hK => ?_)
                     ·skip
                      refine goes_ Try.func85 (by kernel_rfl) rfl #[.pointer (some ⟨gp0, 0, none⟩), .agg #[.int .i16 t152, .int .i16 t153, .int .i16 t154, .int .i16 t155], .agg #[.int .i8 ((rd_T60 t148 x10_3).f0), .int .i8 ((rd_T60 t148 x10_3).f1), .int .i8 ((rd_T60 t148 x10_3).f2)]] (by rfl) rfl rfl arg_ ?_
                      with_reducible refine (spec_l02Move.calls kj18 gp0 A0_0 c0_0 l0_0 x147001_3 x147002_3 x147003_3 x147004_3 x147005_3 t152 t153 t154 t155 ((rd_T60 t148 x10_3).f0) ((rd_T60 t148 x10_3).f1) ((rd_T60 t148 x10_3).f2) t158 t159 t160 t161 t162 _ ?side1 ?side2 ?side3 A26.out).mono ?_
                      (case side1 => exact (pl_ BK146))
                      (case side2 => exact Kd.C_below HR0_0.out (bl_ HB))
                      (case side3 => exact HC0_0.out)
                      rintro e w48 ⟨rfl, hb⟩
                      have HS4_ := (hb.cell (World.block_lt_of_cell? _ _ (hHeld.2.2.2.2.1))).trans (hHeld.2.2.2.2.1)
                      have HS5_ := (hb.cell (World.block_lt_of_cell? _ _ (hHeld.2.2.2.2.2.1))).trans (hHeld.2.2.2.2.2.1)
                      have HS6_ := (hb.cell (World.block_lt_of_cell? _ _ (hHeld.2.2.2.2.2.2))).trans (hHeld.2.2.2.2.2.2)
                      refine ⟨_, rfl, ?_⟩
                      have n0_ := A_ (Kd.R_below (pr_ HO_6) hb)
                      have n1_ := A_ (blk_below (pl_ BK146) hb)
                      have n2_ := A_ (blk_below (pl_ BK156) hb)
                      have n3_ := A_ (below_step (bl_ HB) hb)
                      clear HO_6
                      clear BK146
                      clear BK156
                      clear HB
                      have HO_6 := n0_
                      have BK146 := n1_
                      have BK156 := n2_
                      have HB := n3_
                      clear n0_ n1_ n2_ n3_
                      (try clear hb)
                      (try clear hb2)
                      (try clear hk)
                      (try clear hi)
                      refine hK.out _ _ ⟨(blk_cell BK156.out 0).trans rfl, (blk_cell BK156.out 1).trans rfl, (blk_cell BK156.out 2).trans rfl, (blk_cell BK156.out 3).trans rfl, HS4_, HS5_, HS6_⟩ (fun hHeld => ?_)
                      clear hK K
                      refine norm_ (a' := ?_) ?_ ?_
                      rotate_left
                      ·show Act.put _ (some 65) _ = _
                       simp only [Act.put, sp_]
                       rfl
                      refine pure_ (i := 7) (N := some 58) (v := ?_) (a' := ?_) #[true, true, true, true, true, true, true, true, false, false, false, false, false] rfl rfl (any_of HT_.out (by kernel_rfl)) (fun _ _ _ h => h) (Or.inl ⟨by rfl, ?_⟩) ?_ ?_
                      rotate_left
                      ·intro w'
                       go_simp
                       with_reducible rfl
                      rotate_left
                      ·simp only [Act.put, sp_]
                       rfl
                      refine pure_ (i := 8) (N := some 66) (v := ?_) (a' := ?_) #[true, true, true, true, true, true, true, true, true, false, false, false, false] rfl rfl (any_of HT_.out (by kernel_rfl)) (fun _ _ _ h => h) (Or.inl ⟨by rfl, ?_⟩) ?_ ?_
                      rotate_left
                      ·intro w'
                       go_simp
                       with_reducible rfl
                      rotate_left
                      ·simp only [Act.put, sp_]
                       rfl
                      refine pure_ (i := 9) (N := some 67) (v := ?_) (a' := ?_) #[true, true, true, true, true, true, true, true, true, true, false, false, false] rfl rfl (any_of HT_.out (by kernel_rfl)) (fun _ _ _ h => h) (Or.inl ⟨by rfl, ?_⟩) ?_ ?_
                      rotate_left
                      ·intro w'
                       go_simp
                       with_reducible rfl
                      rotate_left
                      ·simp only [Act.put, sp_]
                       rfl
                      refine one_ (i := 10) (N := some 11) #[true, true, true, true, true, true, true, true, true, true, true, false, false] rfl rfl (one_of HT_.out (by kernel_rfl)) (by decide) (fun K hK => ?_)
                      refine box_step ?hg (N := 11) ?hd (cs := #[.int .i16 0, .int .i16 0, .int .i16 0, .int .i16 0]) (t := 30) ?hr ?_; (case hd => rfl); (case hg => rfl); (case hr => first | (go_simp; done) | (go_simp; rfl))
                      intro gb163 hg w49 hbox hb
                      have HS4_ := (hb.cell (World.block_lt_of_cell? _ _ (hHeld.2.2.2.2.1))).trans (hHeld.2.2.2.2.1)
                      have HS5_ := (hb.cell (World.block_lt_of_cell? _ _ (hHeld.2.2.2.2.2.1))).trans (hHeld.2.2.2.2.2.1)
                      have HS6_ := (hb.cell (World.block_lt_of_cell? _ _ (hHeld.2.2.2.2.2.2))).trans (hHeld.2.2.2.2.2.2)
                      have n0_ := A_ (Kd.R_below (pr_ HO_6) hb)
                      have n1_ := A_ (blk_below (pl_ BK146) hb)
                      have n2_ := A_ (blk_below (pl_ BK156) hb)
                      have n3_ := A_ (below_step (bl_ HB) hb)
                      have n4_ := A_ (hbox)
                      have n5_ := A_ ((by rw [hg]; exact (below_size (bl_ HB)) : w.heap.size ≤ gb163))
                      have n6_ := n5_
                      have n7_ := A_ ((by rw [hg]; exact Nat.ne_of_lt (blk_lt (pl_ BK146)) : gp0 ≠ gb163))
                      have n8_ := Aside0.mk n7_.out.symm
                      have n9_ := A_ ((by rw [hg]; exact Nat.ne_of_lt (blk_lt (pl_ BK156)) : gb156 ≠ gb163))
                      have n10_ := Aside0.mk n9_.out.symm
                      clear HO_6
                      clear BK146
                      clear BK156
                      clear HB
                      have HO_6 := n0_
                      have BK146 := n1_
                      have BK156 := n2_
                      have HB := n3_
                      have BK163 := n4_
                      have GW163 := n5_
                      have GE163 := n6_
                      have NB146_163 := n7_
                      have NB163_146 := n8_
                      have NB156_163 := n9_
                      have NB163_156 := n10_
                      clear n0_ n1_ n2_ n3_ n4_ n5_ n6_ n7_ n8_ n9_ n10_
                      clear hb hbox hg
                      refine hK.out _ _ ⟨(blk_cell BK156.out 0).trans rfl, (blk_cell BK156.out 1).trans rfl, (blk_cell BK156.out 2).trans rfl, (blk_cell BK156.out 3).trans rfl, HS4_, HS5_, HS6_⟩ (fun hHeld => ?_)
                      clear hK K
                      refine norm_ (a' := ?_) ?_ ?_
                      rotate_left
                      ·show Act.put _ (some 11) _ = _
                       simp only [Act.put, sp_]
                       rfl
                      exact norm_ pa_ (hCont (gb163) _ ⟨hHeld, (pr_ HO_6), (pl_ BK146), (pl_ BK156), (pl_ BK163), GW163.out, GE163.out, NB146_163.out, NB163_146.out, NB156_163.out, NB163_156.out, (bl_ HB)⟩)
                     ·skip
                      refine box_step ?hg (N := 11) ?hd (cs := #[.int .i16 0, .int .i16 0, .int .i16 0, .int .i16 0]) (t := 30) ?hr ?_; (case hd => rfl); (case hg => rfl); (case hr => first | (go_simp; done) | (go_simp; rfl))
                      intro gb163 hg w48 hbox hb
                      have HS4_ := (hb.cell (World.block_lt_of_cell? _ _ (hHeld.2.2.2.2.1))).trans (hHeld.2.2.2.2.1)
                      have HS5_ := (hb.cell (World.block_lt_of_cell? _ _ (hHeld.2.2.2.2.2.1))).trans (hHeld.2.2.2.2.2.1)
                      have HS6_ := (hb.cell (World.block_lt_of_cell? _ _ (hHeld.2.2.2.2.2.2))).trans (hHeld.2.2.2.2.2.2)
                      have n0_ := A_ (Kd.R_below (pr_ HO_6) hb)
                      have n1_ := A_ (blk_below (pl_ BK146) hb)
                      have n2_ := A_ (blk_below (pl_ BK156) hb)
                      have n3_ := A_ (below_step (bl_ HB) hb)
                      have n4_ := A_ (hbox)
                      have n5_ := A_ ((by rw [hg]; exact (below_size (bl_ HB)) : w.heap.size ≤ gb163))
                      have n6_ := n5_
                      have n7_ := A_ ((by rw [hg]; exact Nat.ne_of_lt (blk_lt (pl_ BK146)) : gp0 ≠ gb163))
                      have n8_ := Aside0.mk n7_.out.symm
                      have n9_ := A_ ((by rw [hg]; exact Nat.ne_of_lt (blk_lt (pl_ BK156)) : gb156 ≠ gb163))
                      have n10_ := Aside0.mk n9_.out.symm
                      clear HO_6
                      clear BK146
                      clear BK156
                      clear HB
                      have HO_6 := n0_
                      have BK146 := n1_
                      have BK156 := n2_
                      have HB := n3_
                      have BK163 := n4_
                      have GW163 := n5_
                      have GE163 := n6_
                      have NB146_163 := n7_
                      have NB163_146 := n8_
                      have NB156_163 := n9_
                      have NB163_156 := n10_
                      clear n0_ n1_ n2_ n3_ n4_ n5_ n6_ n7_ n8_ n9_ n10_
                      clear hb hbox hg
                      refine hK.out _ _ ⟨(blk_cell BK156.out 0).trans rfl, (blk_cell BK156.out 1).trans rfl, (blk_cell BK156.out 2).trans rfl, (blk_cell BK156.out 3).trans rfl, HS4_, HS5_, HS6_⟩ (fun hHeld => ?_)
                      clear hK K
                      refine norm_ (a' := ?_) ?_ ?_
                      rotate_left
                      ·show Act.put _ (some 11) _ = _
                       simp only [Act.put, sp_]
                       rfl
                      refine one_ (i := 6) (N := some 65) #[true, true, true, true, true, true, true, false, false, false, true, false, false] rfl rfl (one_of HT_.out (by kernel_rfl)) (by decide) (fun K hK => ?_)
                      refine goes_ Try.func85 (by kernel_rfl) rfl #[.pointer (some ⟨gp0, 0, none⟩), .agg #[.int .i16 t152, .int .i16 t153, .int .i16 t154, .int .i16 t155], .agg #[.int .i8 ((rd_T60 t148 x10_3).f0), .int .i8 ((rd_T60 t148 x10_3).f1), .int .i8 ((rd_T60 t148 x10_3).f2)]] (by rfl) rfl rfl arg_ ?_
                      with_reducible refine (spec_l02Move.calls kj18 gp0 A0_0 c0_0 l0_0 x147001_3 x147002_3 x147003_3 x147004_3 x147005_3 t152 t153 t154 t155 ((rd_T60 t148 x10_3).f0) ((rd_T60 t148 x10_3).f1) ((rd_T60 t148 x10_3).f2) t158 t159 t160 t161 t162 _ ?side1 ?side2 ?side3 A26.out).mono ?_
                      (case side1 => exact (pl_ BK146))
                      (case side2 => exact Kd.C_below HR0_0.out (bl_ HB))
                      (case side3 => exact HC0_0.out)
                      rintro e w49 ⟨rfl, hb⟩
                      have HS4_ := (hb.cell (World.block_lt_of_cell? _ _ (hHeld.2.2.2.2.1))).trans (hHeld.2.2.2.2.1)
                      have HS5_ := (hb.cell (World.block_lt_of_cell? _ _ (hHeld.2.2.2.2.2.1))).trans (hHeld.2.2.2.2.2.1)
                      have HS6_ := (hb.cell (World.block_lt_of_cell? _ _ (hHeld.2.2.2.2.2.2))).trans (hHeld.2.2.2.2.2.2)
                      refine ⟨_, rfl, ?_⟩
                      have n0_ := A_ (Kd.R_below (pr_ HO_6) hb)
                      have n1_ := A_ (blk_below (pl_ BK146) hb)
                      have n2_ := A_ (blk_below (pl_ BK156) hb)
                      have n3_ := A_ (blk_below (pl_ BK163) hb)
                      have n4_ := A_ (below_step (bl_ HB) hb)
                      clear HO_6
                      clear BK146
                      clear BK156
                      clear BK163
                      clear HB
                      have HO_6 := n0_
                      have BK146 := n1_
                      have BK156 := n2_
                      have BK163 := n3_
                      have HB := n4_
                      clear n0_ n1_ n2_ n3_ n4_
                      (try clear hb)
                      (try clear hb2)
                      (try clear hk)
                      (try clear hi)
                      refine hK.out _ _ ⟨(blk_cell BK156.out 0).trans rfl, (blk_cell BK156.out 1).trans rfl, (blk_cell BK156.out 2).trans rfl, (blk_cell BK156.out 3).trans rfl, HS4_, HS5_, HS6_⟩ (fun hHeld => ?_)
                      clear hK K
                      refine norm_ (a' := ?_) ?_ ?_
                      rotate_left
                      ·show Act.put _ (some 65) _ = _
                       simp only [Act.put, sp_]
                       rfl
                      refine pure_ (i := 7) (N := some 58) (v := ?_) (a' := ?_) #[true, true, true, true, true, true, true, true, false, false, true, false, false] rfl rfl (any_of HT_.out (by kernel_rfl)) (fun _ _ _ h => h) (Or.inl ⟨by rfl, ?_⟩) ?_ ?_
                      rotate_left
                      ·intro w'
                       go_simp
                       with_reducible rfl
                      rotate_left
                      ·simp only [Act.put, sp_]
                       rfl
                      refine pure_ (i := 8) (N := some 66) (v := ?_) (a' := ?_) #[true, true, true, true, true, true, true, true, true, false, true, false, false] rfl rfl (any_of HT_.out (by kernel_rfl)) (fun _ _ _ h => h) (Or.inl ⟨by rfl, ?_⟩) ?_ ?_
                      rotate_left
                      ·intro w'
                       go_simp
                       with_reducible rfl
                      rotate_left
                      ·simp only [Act.put, sp_]
                       rfl
                      refine pure_ (i := 9) (N := some 67) (v := ?_) (a' := ?_) #[true, true, true, true, true, true, true, true, true, true, true, false, false] rfl rfl (any_of HT_.out (by kernel_rfl)) (fun _ _ _ h => h) (Or.inl ⟨by rfl, ?_⟩) ?_ ?_
                      rotate_left
                      ·intro w'
                       go_simp
                       with_reducible rfl
                      rotate_left
                      ·simp only [Act.put, sp_]
                       rfl
                      exact norm_ pa_ (hCont (gb163) _ ⟨hHeld, (pr_ HO_6), (pl_ BK146), (pl_ BK156), (pl_ BK163), GW163.out, GE163.out, NB146_163.out, NB163_146.out, NB156_163.out, NB163_156.out, (bl_ HB)⟩)
                    rintro gb163 w50 ⟨hS_, h0_, h1_, h2_, h3_, h4_, h5_, h6_, h7_, h8_, h9_, h10_⟩
                    have n0_ : Aside0 (Kd.R k60 60 w50 w.heap.size (fun _ => True) (.slice (some ad157) t148.length co47) t148) := ⟨h0_⟩
                    have n1_ : Aside0 (w50.heap[gp0]? = some (.cells #[.slice A0_0 l0_0.length c0_0, .int .i16 x147001_3, .int .i16 x147002_3, .int .i16 x147003_3, .int .i16 x147004_3, .bool x147005_3] 32 (0, 0))) := ⟨h1_⟩
                    have n2_ : Aside0 (w50.heap[gb156]? = some (.cells #[.int .i16 t152, .int .i16 t153, .int .i16 t154, .int .i16 t155] 30 (0, 0))) := ⟨h2_⟩
                    have n3_ : Aside0 (w50.heap[gb163]? = some (.cells #[.int .i16 0, .int .i16 0, .int .i16 0, .int .i16 0] 30 (0, 0))) := ⟨h3_⟩
                    have n4_ : Aside0 (w.heap.size ≤ gb163) := ⟨h4_⟩
                    have n5_ : Aside0 (w.heap.size ≤ gb163) := ⟨h5_⟩
                    have n6_ : Aside0 (gp0 ≠ gb163) := ⟨h6_⟩
                    have n7_ : Aside0 (gb163 ≠ gp0) := ⟨h7_⟩
                    have n8_ : Aside0 (gb156 ≠ gb163) := ⟨h8_⟩
                    have n9_ : Aside0 (gb163 ≠ gb156) := ⟨h9_⟩
                    have n10_ : Aside0 (Below w.heap.size w w50) := ⟨h10_⟩
                    clear HO_6
                    clear BK146
                    clear BK156
                    clear HB
                    clear h0_ h1_ h2_ h3_ h4_ h5_ h6_ h7_ h8_ h9_ h10_
                    have HO_6 := n0_
                    have BK146 := n1_
                    have BK156 := n2_
                    have BK163 := n3_
                    have GW163 := n4_
                    have GE163 := n5_
                    have NB146_163 := n6_
                    have NB163_146 := n7_
                    have NB156_163 := n8_
                    have NB163_156 := n9_
                    have HB := n10_
                    clear n0_ n1_ n2_ n3_ n4_ n5_ n6_ n7_ n8_ n9_ n10_
                    have hHeld : w50.cell? ⟨gb156, 0, none⟩ = some (.int .i16 t152) ∧ w50.cell? ⟨gb156, 1, none⟩ = some (.int .i16 t153) ∧ w50.cell? ⟨gb156, 2, none⟩ = some (.int .i16 t154) ∧ w50.cell? ⟨gb156, 3, none⟩ = some (.int .i16 t155) ∧ w50.cell? (ad157.add ((x10_3).toNat * 3)) = some (.int .i8 ((rd_T60 t148 x10_3).f0)) ∧ w50.cell? ⟨(ad157.add ((x10_3).toNat * 3)).block, (ad157.add ((x10_3).toNat * 3)).off + 1, none⟩ = some (.int .i8 ((rd_T60 t148 x10_3).f1)) ∧ w50.cell? ⟨(ad157.add ((x10_3).toNat * 3)).block, (ad157.add ((x10_3).toNat * 3)).off + 2, none⟩ = some (.int .i8 ((rd_T60 t148 x10_3).f2)) := hS_
                    refine norm_ (a' := ?_) ?_ ?_
                    rotate_left
                    ·simp only [putAll, Act.put, List.setIfInBounds_toArray, List.set_cons_zero, List.set_cons_succ]
                     rfl
                    refine one_ (i := 11) (N := none) #[true, true, true, true, true, true, true, true, true, true, true, true, false] rfl rfl (one_of HT_.out (by kernel_rfl)) (by decide) (fun K hK => ?_)
                    have hs51 : w50.cell? ⟨gb163, 0, none⟩ = some (.int .i16 0) := (blk_cell BK163.out 0).trans rfl
                    have hfs51 := blk_frozen BK163.out 0
                    have hns51_0 := NB146_163.out
                    have hns51_1 := NB156_163.out
                    have hms51_0 := NB163_146.out
                    have hms51_1 := NB163_156.out
                    have hs52 : w50.cell? ⟨gb163, 1, none⟩ = some (.int .i16 0) := (blk_cell BK163.out 1).trans rfl
                    have hfs52 := blk_frozen BK163.out 1
                    have hns52_0 := NB146_163.out
                    have hns52_1 := NB156_163.out
                    have hms52_0 := NB163_146.out
                    have hms52_1 := NB163_156.out
                    have hs53 : w50.cell? ⟨gb163, 2, none⟩ = some (.int .i16 0) := (blk_cell BK163.out 2).trans rfl
                    have hfs53 := blk_frozen BK163.out 2
                    have hns53_0 := NB146_163.out
                    have hns53_1 := NB156_163.out
                    have hms53_0 := NB163_146.out
                    have hms53_1 := NB163_156.out
                    have hs54 : w50.cell? ⟨gb163, 3, none⟩ = some (.int .i16 0) := (blk_cell BK163.out 3).trans rfl
                    have hfs54 := blk_frozen BK163.out 3
                    have hns54_0 := NB146_163.out
                    have hns54_1 := NB156_163.out
                    have hms54_0 := NB163_146.out
                    have hms54_1 := NB163_156.out
                    refine skip_ (w1 := ?_) (by rfl) rfl ?_ ?_
                    rotate_left
                    ·go_simp
                     rfl
                    refine hK.out _ _ ⟨(cf4_ NB156_163 (hHeld.1)), (cf4_ NB156_163 (hHeld.2.1)), (cf4_ NB156_163 (hHeld.2.2.1)), (cf4_ NB156_163 (hHeld.2.2.2.1)), ((cell_far (p := ⟨gb163, _, none⟩) (by first | exact ob0_ HO_6 BK163 | exact ob1_ HO_6 BK163) _).trans (((cell_far (p := ⟨gb163, _, none⟩) (by first | exact ob0_ HO_6 BK163 | exact ob1_ HO_6 BK163) _).trans (((cell_far (p := ⟨gb163, _, none⟩) (by first | exact ob0_ HO_6 BK163 | exact ob1_ HO_6 BK163) _).trans (((cell_far (p := ⟨gb163, _, none⟩) (by first | exact ob0_ HO_6 BK163 | exact ob1_ HO_6 BK163) _).trans (hHeld.2.2.2.2.1)))))))), ((cell_far (p := ⟨gb163, _, none⟩) (by first | exact ob0_ HO_6 BK163 | exact ob1_ HO_6 BK163) _).trans (((cell_far (p := ⟨gb163, _, none⟩) (by first | exact ob0_ HO_6 BK163 | exact ob1_ HO_6 BK163) _).trans (((cell_far (p := ⟨gb163, _, none⟩) (by first | exact ob0_ HO_6 BK163 | exact ob1_ HO_6 BK163) _).trans (((cell_far (p := ⟨gb163, _, none⟩) (by first | exact ob0_ HO_6 BK163 | exact ob1_ HO_6 BK163) _).trans (hHeld.2.2.2.2.2.1)))))))), ((cell_far (p := ⟨gb163, _, none⟩) (by first | exact ob0_ HO_6 BK163 | exact ob1_ HO_6 BK163) _).trans (((cell_far (p := ⟨gb163, _, none⟩) (by first | exact ob0_ HO_6 BK163 | exact ob1_ HO_6 BK163) _).trans (((cell_far (p := ⟨gb163, _, none⟩) (by first | exact ob0_ HO_6 BK163 | exact ob1_ HO_6 BK163) _).trans (((cell_far (p := ⟨gb163, _, none⟩) (by first | exact ob0_ HO_6 BK163 | exact ob1_ HO_6 BK163) _).trans (hHeld.2.2.2.2.2.2))))))))⟩ (fun hHeld => ?_)
                    clear hK K
                    refine pure_ (i := 12) (N := some 12) (v := ?_) (a' := ?_) #[true, true, true, true, true, true, true, true, true, true, true, true, true] rfl rfl (any_of HT_.out (by kernel_rfl)) (fun _ _ _ h => h) (Or.inl ⟨by rfl, ?_⟩) ?_ ?_
                    rotate_left
                    ·intro w'
                     go_simp
                     with_reducible rfl
                    rotate_left
                    ·simp only [Act.put, sp_]
                     rfl
                    refine done_ (done_of HT_.out (by kernel_rfl)) ?_
                    have hnb55 := NB163_146.out
                    have hnc55 := NB146_163.out
                    have hnb56 := NB163_156.out
                    have hnc56 := NB156_163.out
                    obtain ⟨hcz57_0, hcz57_1, hcz57_2, hcz57_3, hfz57_0, hfz57_1, hfz57_2, hfz57_3⟩ := cl4_ BK163
                    try go_wp2_with (first | ((with_reducible refine gate_callee (f := 78) rfl ?_); refine goesL_ (some 73) rfl rfl Try.func78 (by kernel_rfl) rfl #[.pointer (some ⟨gp0, 0, none⟩), .agg #[.int .i16 t158, .int .i16 t159, .int .i16 t160, .int .i16 t161]] rfl arg_ ?_; (with_reducible refine (spec_l02Index.calls kj18 gp0 A0_0 c0_0 l0_0 x147001_3 x147002_3 x147003_3 x147004_3 x147005_3 t158 t159 t160 t161 t164 _ ?side1 ?side2 ?side3 A28.out).mono ?_); (case side1 => exact (pf_ BK146 NB146_163)); (case side2 => exact Kd.C_below HR0_0.out (bs_ HB GE163)); (case side3 => exact HC0_0.out); rintro e w58 ⟨rfl, hb⟩; refine ⟨_, rfl, ?_⟩; have n0_ := A_ (Kd.R_below (by (with_reducible repeat (first | apply Kd.R_alloc | apply Kd.R_drewN | apply Kd.R_drew)); exact (rf4_ HO_6 BK163 (by decide))) hb); have n1_ := A_ (blk_below (g := gp0) (o := .cells #[.slice A0_0 l0_0.length c0_0, .int .i16 x147001_3, .int .i16 x147002_3, .int .i16 x147003_3, .int .i16 x147004_3, .bool x147005_3] 32 (0, 0)) (pf_ BK146 NB146_163) hb); have n2_ := A_ (blk_below (g := gb156) (o := .cells #[.int .i16 t152, .int .i16 t153, .int .i16 t154, .int .i16 t155] 30 (0, 0)) (pf_ BK156 NB156_163) hb); have n3_ := A_ (blk_below (g := gb163) (o := .cells #[.int .i16 t158, .int .i16 t159, .int .i16 t160, .int .i16 t161] 30 (0, 0)) (by (with_reducible repeat (first | refine blk_drewN ?_ _ | refine blk_drew ?_ | refine blk_alloc ?_ _)); refine blk_put (cs := #[.int .i16 t158, .int .i16 t159, .int .i16 t160, .int .i16 0]) ?_ 3 _ rfl; (with_reducible repeat (first | refine blk_drewN ?_ _ | refine blk_drew ?_ | refine blk_alloc ?_ _)); refine blk_put (cs := #[.int .i16 t158, .int .i16 t159, .int .i16 0, .int .i16 0]) ?_ 2 _ rfl; (with_reducible repeat (first | refine blk_drewN ?_ _ | refine blk_drew ?_ | refine blk_alloc ?_ _)); refine blk_put (cs := #[.int .i16 t158, .int .i16 0, .int .i16 0, .int .i16 0]) ?_ 1 _ rfl; (with_reducible repeat (first | refine blk_drewN ?_ _ | refine blk_drew ?_ | refine blk_alloc ?_ _)); refine blk_put (cs := #[.int .i16 0, .int .i16 0, .int .i16 0, .int .i16 0]) ?_ 0 _ rfl; (with_reducible repeat (first | refine blk_drewN ?_ _ | refine blk_drew ?_ | refine blk_alloc ?_ _)); exact BK163.out) hb); have n4_ := A_ (below_step (bs_ HB GE163) hb); clear HO_6; clear BK146; clear BK156; clear BK163; clear HB; have HO_6 := n0_; have BK146 := n1_; have BK156 := n2_; have BK163 := n3_; have HB := n4_; clear n0_ n1_ n2_ n3_ n4_; (try clear hb); (try clear hb2); (try clear hk); (try clear hi); have p165 : 0 ≤ (t164 : Int) := asm_; have q165 : t164 < (l1.length : Int) := asm_; obtain ⟨ad165, e165, hx165_0⟩ := Kd.at_int HR1.out t164 p165 q165; obtain rfl : ad151 = ad165 := (by injection e165); (try replace hx165_0 := (HB.out.cell (World.block_lt_of_cell? w _ hx165_0)).trans hx165_0); replace p165 := eq_true p165; replace q165 := eq_true q165))
                    go_ret
                    exact ⟨by first | rfl | (simp [errW_none, errW_some] <;> rfl) | (simp [*, errW_none, errW_some] <;> rfl), bl_ HB⟩
                   ·rw [if_neg c45] at H
                    have c45b0 : decide ((wrap64 ((wrap64 (rd l1 x7_1)) + 1)) < (wrap64 (rd l1 t164))) = false := decide_eq_false c45
                    clear c45
                    have H' := Aside0.mk H
                    clear H
                    try go_wp2
                    have n0_ := A_ (Kd.R_drew HO_6.out)
                    have n1_ := A_ (blk_drew BK146.out)
                    have n2_ := A_ (blk_drew BK156.out)
                    have n3_ := A_ (below_drew1 HB.out)
                    clear HO_6
                    clear BK146
                    clear BK156
                    clear HB
                    have HO_6 := n0_
                    have BK146 := n1_
                    have BK156 := n2_
                    have HB := n3_
                    clear n0_ n1_ n2_ n3_
                    obtain ⟨Ao60, co60, eo60⟩ := Kd.R_slice HO_6.out
                    (first | subst eo60 | (injection eo60 with f1_ f2_ f3_; have f4_ := f1_.symm; have f5_ := f3_.symm; clear f1_ f2_ f3_; subst f4_; subst f5_))
                    have p157 : 0 ≤ (x10_3 : Int) := asm_
                    have q157 : x10_3 < (t148.length : Int) := asm_
                    obtain ⟨ad157, e157, hx157_0, hx157_1, hx157_2⟩ := at_T60 (Kd.R_reads' HO_6.out).2.2 x10_3 p157 q157
                    cases e157
                    replace p157 := eq_true p157
                    replace q157 := eq_true q157
                    refine start_ (n := 13) (S := fun w' => w'.cell? ⟨gb156, 0, none⟩ = some (.int .i16 t152) ∧ w'.cell? ⟨gb156, 1, none⟩ = some (.int .i16 t153) ∧ w'.cell? ⟨gb156, 2, none⟩ = some (.int .i16 t154) ∧ w'.cell? ⟨gb156, 3, none⟩ = some (.int .i16 t155) ∧ w'.cell? (ad157.add ((x10_3).toNat * 3)) = some (.int .i8 ((rd_T60 t148 x10_3).f0)) ∧ w'.cell? ⟨(ad157.add ((x10_3).toNat * 3)).block, (ad157.add ((x10_3).toNat * 3)).off + 1, none⟩ = some (.int .i8 ((rd_T60 t148 x10_3).f1)) ∧ w'.cell? ⟨(ad157.add ((x10_3).toNat * 3)).block, (ad157.add ((x10_3).toNat * 3)).off + 2, none⟩ = some (.int .i8 ((rd_T60 t148 x10_3).f2))) (ds := []) #[false, false, false, false, false, false, false, false, false, false, false, false, false] (by kernel_rfl) rfl rfl ⟨(blk_cell BK156.out 0).trans rfl, (blk_cell BK156.out 1).trans rfl, (blk_cell BK156.out 2).trans rfl, (blk_cell BK156.out 3).trans rfl, hx157_0, hx157_1, hx157_2⟩ (fun hHeld => ?_); refine with_tabW spec_l02Broken.tab13 spec_l02Broken.bits13 (fun HT_ HW_ => ?_)
                    generalize wc.drew = w59 at HO_6 BK146 BK156 HB hx157_0 hx157_1 hx157_2 hHeld ⊢
                    refine pure_ (i := 0) (N := some 59) (v := ?_) (a' := ?_) #[true, false, false, false, false, false, false, false, false, false, false, false, false] rfl rfl (any_of HT_.out (by kernel_rfl)) (fun _ _ _ h => h) (Or.inl ⟨by rfl, ?_⟩) ?_ ?_
                    rotate_left
                    ·intro w'
                     go_simp
                     with_reducible rfl
                    rotate_left
                    ·simp only [Act.put, sp_]
                     rfl
                    refine pure_ (i := 2) (N := some 61) (v := ?_) (a' := ?_) #[true, false, true, false, false, false, false, false, false, false, false, false, false] rfl rfl (any_of HT_.out (by kernel_rfl)) (fun _ _ _ h => h) (Or.inl ⟨by rfl, ?_⟩) ?_ ?_
                    rotate_left
                    ·intro w'
                     go_simp
                     with_reducible rfl
                    rotate_left
                    ·simp only [Act.put, sp_]
                     rfl
                    refine pure_ (i := 3) (N := some 62) (v := ?_) (a' := ?_) #[true, false, true, true, false, false, false, false, false, false, false, false, false] rfl rfl (any_of HT_.out (by kernel_rfl)) (fun _ _ _ h => h) (Or.inl ⟨by rfl, ?_⟩) ?_ ?_
                    rotate_left
                    ·intro w'
                     go_simp
                     with_reducible rfl
                    rotate_left
                    ·simp only [Act.put, sp_]
                     rfl
                    refine pure_ (i := 4) (N := some 63) (v := ?_) (a' := ?_) #[true, false, true, true, true, false, false, false, false, false, false, false, false] rfl rfl (any_of HT_.out (by kernel_rfl)) (fun _ _ _ h => h) (Or.inl ⟨by rfl, ?_⟩) ?_ ?_
                    rotate_left
                    ·intro w'
                     go_simp
                     with_reducible rfl
                    rotate_left
                    ·simp only [Act.put, sp_]
                     rfl
                    refine take_ (i := 1) (N := some 60) (v := ?_) (a' := ?_) #[true, true, true, true, true, false, false, false, false, false, false, false, false] rfl rfl (take_ofW HT_.out HW_.out (by kernel_rfl)) (fun _ _ _ h => h) (Or.inl ⟨by rfl, ?_⟩) hHeld ?_ ?_
                    rotate_left
                    ·rintro w' ⟨s0, s1, s2, s3, s4, s5, s6⟩
                     go_simp
                     with_reducible rfl
                    rotate_left
                    ·simp only [Act.put, sp_]
                     rfl
                    refine take_ (i := 5) (N := some 64) (v := ?_) (a' := ?_) #[true, true, true, true, true, true, false, false, false, false, false, false, false] rfl rfl (take_ofW HT_.out HW_.out (by kernel_rfl)) (fun _ _ _ h => h) (Or.inl ⟨by rfl, ?_⟩) hHeld ?_ ?_
                    rotate_left
                    ·rintro w' ⟨s0, s1, s2, s3, s4, s5, s6⟩
                     go_simp
                     with_reducible rfl
                    rotate_left
                    ·simp only [Act.put, sp_]
                     rfl
                    refine join_ (σ := Nat) 2 #[true, true, true, true, true, true, true, true, true, true, true, false, false] (fun s_ => [(65, .tuple #[.agg #[.int .i16 t158, .int .i16 t159, .int .i16 t160, .int .i16 t161], .int .i64 t162]), (11, .pointer (some ⟨s_, 0, none⟩)), (58, .tuple #[.agg #[.int .i16 t158, .int .i16 t159, .int .i16 t160, .int .i16 t161], .int .i64 t162]), (66, .agg #[.int .i16 t158, .int .i16 t159, .int .i16 t160, .int .i16 t161]), (67, .int .i64 t162)]) (fun s_ w' => (w'.cell? ⟨gb156, 0, none⟩ = some (.int .i16 t152) ∧ w'.cell? ⟨gb156, 1, none⟩ = some (.int .i16 t153) ∧ w'.cell? ⟨gb156, 2, none⟩ = some (.int .i16 t154) ∧ w'.cell? ⟨gb156, 3, none⟩ = some (.int .i16 t155) ∧ w'.cell? (ad157.add ((x10_3).toNat * 3)) = some (.int .i8 ((rd_T60 t148 x10_3).f0)) ∧ w'.cell? ⟨(ad157.add ((x10_3).toNat * 3)).block, (ad157.add ((x10_3).toNat * 3)).off + 1, none⟩ = some (.int .i8 ((rd_T60 t148 x10_3).f1)) ∧ w'.cell? ⟨(ad157.add ((x10_3).toNat * 3)).block, (ad157.add ((x10_3).toNat * 3)).off + 2, none⟩ = some (.int .i8 ((rd_T60 t148 x10_3).f2))) ∧ (Kd.R k60 60 w' w.heap.size (fun _ => True) (.slice (some ad157) t148.length co60) t148) ∧ (w'.heap[gp0]? = some (.cells #[.slice A0_0 l0_0.length c0_0, .int .i16 x147001_3, .int .i16 x147002_3, .int .i16 x147003_3, .int .i16 x147004_3, .bool x147005_3] 32 (0, 0))) ∧ (w'.heap[gb156]? = some (.cells #[.int .i16 t152, .int .i16 t153, .int .i16 t154, .int .i16 t155] 30 (0, 0))) ∧ (w'.heap[s_]? = some (.cells #[.int .i16 0, .int .i16 0, .int .i16 0, .int .i16 0] 30 (0, 0))) ∧ (w.heap.size ≤ s_) ∧ (w.heap.size ≤ s_) ∧ (gp0 ≠ s_) ∧ (s_ ≠ gp0) ∧ (gb156 ≠ s_) ∧ (s_ ≠ gb156) ∧ (Below w.heap.size w w')) ?_ ?_
                    rotate_left
                    ·intro hCont
                     refine two_ (i := 6) (j := 10) (Ni := some 65) (Nj := some 11) #[true, true, true, true, true, true, true, false, false, false, false, false, false] #[true, true, true, true, true, true, false, false, false, false, true, false, false] rfl rfl rfl rfl (two_of HT_.out (by kernel_rfl)) (by decide) (by decide) (fun K hK => ?_) (fun K hK => ?_)
                     ·skip
                      refine goes_ Try.func85 (by kernel_rfl) rfl #[.pointer (some ⟨gp0, 0, none⟩), .agg #[.int .i16 t152, .int .i16 t153, .int .i16 t154, .int .i16 t155], .agg #[.int .i8 ((rd_T60 t148 x10_3).f0), .int .i8 ((rd_T60 t148 x10_3).f1), .int .i8 ((rd_T60 t148 x10_3).f2)]] (by rfl) rfl rfl arg_ ?_
                      with_reducible refine (spec_l02Move.calls kj18 gp0 A0_0 c0_0 l0_0 x147001_3 x147002_3 x147003_3 x147004_3 x147005_3 t152 t153 t154 t155 ((rd_T60 t148 x10_3).f0) ((rd_T60 t148 x10_3).f1) ((rd_T60 t148 x10_3).f2) t158 t159 t160 t161 t162 _ ?side1 ?side2 ?side3 A26.out).mono ?_
                      (case side1 => exact (pl_ BK146))
                      (case side2 => exact Kd.C_below HR0_0.out (bl_ HB))
                      (case side3 => exact HC0_0.out)
                      rintro e w61 ⟨rfl, hb⟩
                      have HS4_ := (hb.cell (World.block_lt_of_cell? _ _ (hHeld.2.2.2.2.1))).trans (hHeld.2.2.2.2.1)
                      have HS5_ := (hb.cell (World.block_lt_of_cell? _ _ (hHeld.2.2.2.2.2.1))).trans (hHeld.2.2.2.2.2.1)
                      have HS6_ := (hb.cell (World.block_lt_of_cell? _ _ (hHeld.2.2.2.2.2.2))).trans (hHeld.2.2.2.2.2.2)
                      refine ⟨_, rfl, ?_⟩
                      have n0_ := A_ (Kd.R_below (pr_ HO_6) hb)
                      have n1_ := A_ (blk_below (pl_ BK146) hb)
                      have n2_ := A_ (blk_below (pl_ BK156) hb)
                      have n3_ := A_ (below_step (bl_ HB) hb)
                      clear HO_6
                      clear BK146
                      clear BK156
                      clear HB
                      have HO_6 := n0_
                      have BK146 := n1_
                      have BK156 := n2_
                      have HB := n3_
                      clear n0_ n1_ n2_ n3_
                      (try clear hb)
                      (try clear hb2)
                      (try clear hk)
                      (try clear hi)
                      refine hK.out _ _ ⟨(blk_cell BK156.out 0).trans rfl, (blk_cell BK156.out 1).trans rfl, (blk_cell BK156.out 2).trans rfl, (blk_cell BK156.out 3).trans rfl, HS4_, HS5_, HS6_⟩ (fun hHeld => ?_)
                      clear hK K
                      refine norm_ (a' := ?_) ?_ ?_
                      rotate_left
                      ·show Act.put _ (some 65) _ = _
                       simp only [Act.put, sp_]
                       rfl
                      refine pure_ (i := 7) (N := some 58) (v := ?_) (a' := ?_) #[true, true, true, true, true, true, true, true, false, false, false, false, false] rfl rfl (any_of HT_.out (by kernel_rfl)) (fun _ _ _ h => h) (Or.inl ⟨by rfl, ?_⟩) ?_ ?_
                      rotate_left
                      ·intro w'
                       go_simp
                       with_reducible rfl
                      rotate_left
                      ·simp only [Act.put, sp_]
                       rfl
                      refine pure_ (i := 8) (N := some 66) (v := ?_) (a' := ?_) #[true, true, true, true, true, true, true, true, true, false, false, false, false] rfl rfl (any_of HT_.out (by kernel_rfl)) (fun _ _ _ h => h) (Or.inl ⟨by rfl, ?_⟩) ?_ ?_
                      rotate_left
                      ·intro w'
                       go_simp
                       with_reducible rfl
                      rotate_left
                      ·simp only [Act.put, sp_]
                       rfl
                      refine pure_ (i := 9) (N := some 67) (v := ?_) (a' := ?_) #[true, true, true, true, true, true, true, true, true, true, false, false, false] rfl rfl (any_of HT_.out (by kernel_rfl)) (fun _ _ _ h => h) (Or.inl ⟨by rfl, ?_⟩) ?_ ?_
                      rotate_left
                      ·intro w'
                       go_simp
                       with_reducible rfl
                      rotate_left
                      ·simp only [Act.put, sp_]
                       rfl
                      refine one_ (i := 10) (N := some 11) #[true, true, true, true, true, true, true, true, true, true, true, false, false] rfl rfl (one_of HT_.out (by kernel_rfl)) (by decide) (fun K hK => ?_)
                      refine box_step ?hg (N := 11) ?hd (cs := #[.int .i16 0, .int .i16 0, .int .i16 0, .int .i16 0]) (t := 30) ?hr ?_; (case hd => rfl); (case hg => rfl); (case hr => first | (go_simp; done) | (go_simp; rfl))
                      intro gb163 hg w62 hbox hb
                      have HS4_ := (hb.cell (World.block_lt_of_cell? _ _ (hHeld.2.2.2.2.1))).trans (hHeld.2.2.2.2.1)
                      have HS5_ := (hb.cell (World.block_lt_of_cell? _ _ (hHeld.2.2.2.2.2.1))).trans (hHeld.2.2.2.2.2.1)
                      have HS6_ := (hb.cell (World.block_lt_of_cell? _ _ (hHeld.2.2.2.2.2.2))).trans (hHeld.2.2.2.2.2.2)
                      have n0_ := A_ (Kd.R_below (pr_ HO_6) hb)
                      have n1_ := A_ (blk_below (pl_ BK146) hb)
                      have n2_ := A_ (blk_below (pl_ BK156) hb)
                      have n3_ := A_ (below_step (bl_ HB) hb)
                      have n4_ := A_ (hbox)
                      have n5_ := A_ ((by rw [hg]; exact (below_size (bl_ HB)) : w.heap.size ≤ gb163))
                      have n6_ := n5_
                      have n7_ := A_ ((by rw [hg]; exact Nat.ne_of_lt (blk_lt (pl_ BK146)) : gp0 ≠ gb163))
                      have n8_ := Aside0.mk n7_.out.symm
                      have n9_ := A_ ((by rw [hg]; exact Nat.ne_of_lt (blk_lt (pl_ BK156)) : gb156 ≠ gb163))
                      have n10_ := Aside0.mk n9_.out.symm
                      clear HO_6
                      clear BK146
                      clear BK156
                      clear HB
                      have HO_6 := n0_
                      have BK146 := n1_
                      have BK156 := n2_
                      have HB := n3_
                      have BK163 := n4_
                      have GW163 := n5_
                      have GE163 := n6_
                      have NB146_163 := n7_
                      have NB163_146 := n8_
                      have NB156_163 := n9_
                      have NB163_156 := n10_
                      clear n0_ n1_ n2_ n3_ n4_ n5_ n6_ n7_ n8_ n9_ n10_
                      clear hb hbox hg
                      refine hK.out _ _ ⟨(blk_cell BK156.out 0).trans rfl, (blk_cell BK156.out 1).trans rfl, (blk_cell BK156.out 2).trans rfl, (blk_cell BK156.out 3).trans rfl, HS4_, HS5_, HS6_⟩ (fun hHeld => ?_)
                      clear hK K
                      refine norm_ (a' := ?_) ?_ ?_
                      rotate_left
                      ·show Act.put _ (some 11) _ = _
                       simp only [Act.put, sp_]
                       rfl
                      exact norm_ pa_ (hCont (gb163) _ ⟨hHeld, (pr_ HO_6), (pl_ BK146), (pl_ BK156), (pl_ BK163), GW163.out, GE163.out, NB146_163.out, NB163_146.out, NB156_163.out, NB163_156.out, (bl_ HB)⟩)
                     ·skip
                      refine box_step ?hg (N := 11) ?hd (cs := #[.int .i16 0, .int .i16 0, .int .i16 0, .int .i16 0]) (t := 30) ?hr ?_; (case hd => rfl); (case hg => rfl); (case hr => first | (go_simp; done) | (go_simp; rfl))
                      intro gb163 hg w61 hbox hb
                      have HS4_ := (hb.cell (World.block_lt_of_cell? _ _ (hHeld.2.2.2.2.1))).trans (hHeld.2.2.2.2.1)
                      have HS5_ := (hb.cell (World.block_lt_of_cell? _ _ (hHeld.2.2.2.2.2.1))).trans (hHeld.2.2.2.2.2.1)
                      have HS6_ := (hb.cell (World.block_lt_of_cell? _ _ (hHeld.2.2.2.2.2.2))).trans (hHeld.2.2.2.2.2.2)
                      have n0_ := A_ (Kd.R_below (pr_ HO_6) hb)
                      have n1_ := A_ (blk_below (pl_ BK146) hb)
                      have n2_ := A_ (blk_below (pl_ BK156) hb)
                      have n3_ := A_ (below_step (bl_ HB) hb)
                      have n4_ := A_ (hbox)
                      have n5_ := A_ ((by rw [hg]; exact (below_size (bl_ HB)) : w.heap.size ≤ gb163))
                      have n6_ := n5_
                      have n7_ := A_ ((by rw [hg]; exact Nat.ne_of_lt (blk_lt (pl_ BK146)) : gp0 ≠ gb163))
                      have n8_ := Aside0.mk n7_.out.symm
                      have n9_ := A_ ((by rw [hg]; exact Nat.ne_of_lt (blk_lt (pl_ BK156)) : gb156 ≠ gb163))
                      have n10_ := Aside0.mk n9_.out.symm
                      clear HO_6
                      clear BK146
                      clear BK156
                      clear HB
                      have HO_6 := n0_
                      have BK146 := n1_
                      have BK156 := n2_
                      have HB := n3_
                      have BK163 := n4_
                      have GW163 := n5_
                      have GE163 := n6_
                      have NB146_163 := n7_
                      have NB163_146 := n8_
                      have NB156_163 := n9_
                      have NB163_156 := n10_
                      clear n0_ n1_ n2_ n3_ n4_ n5_ n6_ n7_ n8_ n9_ n10_
                      clear hb hbox hg
                      refine hK.out _ _ ⟨(blk_cell BK156.out 0).trans rfl, (blk_cell BK156.out 1).trans rfl, (blk_cell BK156.out 2).trans rfl, (blk_cell BK156.out 3).trans rfl, HS4_, HS5_, HS6_⟩ (fun hHeld => ?_)
                      clear hK K
                      refine norm_ (a' := ?_) ?_ ?_
                      rotate_left
                      ·show Act.put _ (some 11) _ = _
                       simp only [Act.put, sp_]
                       rfl
                      refine one_ (i := 6) (N := some 65) #[true, true, true, true, true, true, true, false, false, false, true, false, false] rfl rfl (one_of HT_.out (by kernel_rfl)) (by decide) (fun K hK => ?_)
                      refine goes_ Try.func85 (by kernel_rfl) rfl #[.pointer (some ⟨gp0, 0, none⟩), .agg #[.int .i16 t152, .int .i16 t153, .int .i16 t154, .int .i16 t155], .agg #[.int .i8 ((rd_T60 t148 x10_3).f0), .int .i8 ((rd_T60 t148 x10_3).f1), .int .i8 ((rd_T60 t148 x10_3).f2)]] (by rfl) rfl rfl arg_ ?_
                      with_reducible refine (spec_l02Move.calls kj18 gp0 A0_0 c0_0 l0_0 x147001_3 x147002_3 x147003_3 x147004_3 x147005_3 t152 t153 t154 t155 ((rd_T60 t148 x10_3).f0) ((rd_T60 t148 x10_3).f1) ((rd_T60 t148 x10_3).f2) t158 t159 t160 t161 t162 _ ?side1 ?side2 ?side3 A26.out).mono ?_
                      (case side1 => exact (pl_ BK146))
                      (case side2 => exact Kd.C_below HR0_0.out (bl_ HB))
                      (case side3 => exact HC0_0.out)
                      rintro e w62 ⟨rfl, hb⟩
                      have HS4_ := (hb.cell (World.block_lt_of_cell? _ _ (hHeld.2.2.2.2.1))).trans (hHeld.2.2.2.2.1)
                      have HS5_ := (hb.cell (World.block_lt_of_cell? _ _ (hHeld.2.2.2.2.2.1))).trans (hHeld.2.2.2.2.2.1)
                      have HS6_ := (hb.cell (World.block_lt_of_cell? _ _ (hHeld.2.2.2.2.2.2))).trans (hHeld.2.2.2.2.2.2)
                      refine ⟨_, rfl, ?_⟩
                      have n0_ := A_ (Kd.R_below (pr_ HO_6) hb)
                      have n1_ := A_ (blk_below (pl_ BK146) hb)
                      have n2_ := A_ (blk_below (pl_ BK156) hb)
                      have n3_ := A_ (blk_below (pl_ BK163) hb)
                      have n4_ := A_ (below_step (bl_ HB) hb)
                      clear HO_6
                      clear BK146
                      clear BK156
                      clear BK163
                      clear HB
                      have HO_6 := n0_
                      have BK146 := n1_
                      have BK156 := n2_
                      have BK163 := n3_
                      have HB := n4_
                      clear n0_ n1_ n2_ n3_ n4_
                      (try clear hb)
                      (try clear hb2)
                      (try clear hk)
                      (try clear hi)
                      refine hK.out _ _ ⟨(blk_cell BK156.out 0).trans rfl, (blk_cell BK156.out 1).trans rfl, (blk_cell BK156.out 2).trans rfl, (blk_cell BK156.out 3).trans rfl, HS4_, HS5_, HS6_⟩ (fun hHeld => ?_)
                      clear hK K
                      refine norm_ (a' := ?_) ?_ ?_
                      rotate_left
                      ·show Act.put _ (some 65) _ = _
                       simp only [Act.put, sp_]
                       rfl
                      refine pure_ (i := 7) (N := some 58) (v := ?_) (a' := ?_) #[true, true, true, true, true, true, true, true, false, false, true, false, false] rfl rfl (any_of HT_.out (by kernel_rfl)) (fun _ _ _ h => h) (Or.inl ⟨by rfl, ?_⟩) ?_ ?_
                      rotate_left
                      ·intro w'
                       go_simp
                       with_reducible rfl
                      rotate_left
                      ·simp only [Act.put, sp_]
                       rfl
                      refine pure_ (i := 8) (N := some 66) (v := ?_) (a' := ?_) #[true, true, true, true, true, true, true, true, true, false, true, false, false] rfl rfl (any_of HT_.out (by kernel_rfl)) (fun _ _ _ h => h) (Or.inl ⟨by rfl, ?_⟩) ?_ ?_
                      rotate_left
                      ·intro w'
                       go_simp
                       with_reducible rfl
                      rotate_left
                      ·simp only [Act.put, sp_]
                       rfl
                      refine pure_ (i := 9) (N := some 67) (v := ?_) (a' := ?_) #[true, true, true, true, true, true, true, true, true, true, true, false, false] rfl rfl (any_of HT_.out (by kernel_rfl)) (fun _ _ _ h => h) (Or.inl ⟨by rfl, ?_⟩) ?_ ?_
                      rotate_left
                      ·intro w'
                       go_simp
                       with_reducible rfl
                      rotate_left
                      ·simp only [Act.put, sp_]
                       rfl
                      exact norm_ pa_ (hCont (gb163) _ ⟨hHeld, (pr_ HO_6), (pl_ BK146), (pl_ BK156), (pl_ BK163), GW163.out, GE163.out, NB146_163.out, NB163_146.out, NB156_163.out, NB163_156.out, (bl_ HB)⟩)
                    rintro gb163 w63 ⟨hS_, h0_, h1_, h2_, h3_, h4_, h5_, h6_, h7_, h8_, h9_, h10_⟩
                    have n0_ : Aside0 (Kd.R k60 60 w63 w.heap.size (fun _ => True) (.slice (some ad157) t148.length co60) t148) := ⟨h0_⟩
                    have n1_ : Aside0 (w63.heap[gp0]? = some (.cells #[.slice A0_0 l0_0.length c0_0, .int .i16 x147001_3, .int .i16 x147002_3, .int .i16 x147003_3, .int .i16 x147004_3, .bool x147005_3] 32 (0, 0))) := ⟨h1_⟩
                    have n2_ : Aside0 (w63.heap[gb156]? = some (.cells #[.int .i16 t152, .int .i16 t153, .int .i16 t154, .int .i16 t155] 30 (0, 0))) := ⟨h2_⟩
                    have n3_ : Aside0 (w63.heap[gb163]? = some (.cells #[.int .i16 0, .int .i16 0, .int .i16 0, .int .i16 0] 30 (0, 0))) := ⟨h3_⟩
                    have n4_ : Aside0 (w.heap.size ≤ gb163) := ⟨h4_⟩
                    have n5_ : Aside0 (w.heap.size ≤ gb163) := ⟨h5_⟩
                    have n6_ : Aside0 (gp0 ≠ gb163) := ⟨h6_⟩
                    have n7_ : Aside0 (gb163 ≠ gp0) := ⟨h7_⟩
                    have n8_ : Aside0 (gb156 ≠ gb163) := ⟨h8_⟩
                    have n9_ : Aside0 (gb163 ≠ gb156) := ⟨h9_⟩
                    have n10_ : Aside0 (Below w.heap.size w w63) := ⟨h10_⟩
                    clear HO_6
                    clear BK146
                    clear BK156
                    clear HB
                    clear h0_ h1_ h2_ h3_ h4_ h5_ h6_ h7_ h8_ h9_ h10_
                    have HO_6 := n0_
                    have BK146 := n1_
                    have BK156 := n2_
                    have BK163 := n3_
                    have GW163 := n4_
                    have GE163 := n5_
                    have NB146_163 := n6_
                    have NB163_146 := n7_
                    have NB156_163 := n8_
                    have NB163_156 := n9_
                    have HB := n10_
                    clear n0_ n1_ n2_ n3_ n4_ n5_ n6_ n7_ n8_ n9_ n10_
                    have hHeld : w63.cell? ⟨gb156, 0, none⟩ = some (.int .i16 t152) ∧ w63.cell? ⟨gb156, 1, none⟩ = some (.int .i16 t153) ∧ w63.cell? ⟨gb156, 2, none⟩ = some (.int .i16 t154) ∧ w63.cell? ⟨gb156, 3, none⟩ = some (.int .i16 t155) ∧ w63.cell? (ad157.add ((x10_3).toNat * 3)) = some (.int .i8 ((rd_T60 t148 x10_3).f0)) ∧ w63.cell? ⟨(ad157.add ((x10_3).toNat * 3)).block, (ad157.add ((x10_3).toNat * 3)).off + 1, none⟩ = some (.int .i8 ((rd_T60 t148 x10_3).f1)) ∧ w63.cell? ⟨(ad157.add ((x10_3).toNat * 3)).block, (ad157.add ((x10_3).toNat * 3)).off + 2, none⟩ = some (.int .i8 ((rd_T60 t148 x10_3).f2)) := hS_
                    refine norm_ (a' := ?_) ?_ ?_
                    rotate_left
                    ·simp only [putAll, Act.put, List.setIfInBounds_toArray, List.set_cons_zero, List.set_cons_succ]
                     rfl
                    refine one_ (i := 11) (N := none) #[true, true, true, true, true, true, true, true, true, true, true, true, false] rfl rfl (one_of HT_.out (by kernel_rfl)) (by decide) (fun K hK => ?_)
                    have hs64 : w63.cell? ⟨gb163, 0, none⟩ = some (.int .i16 0) := (blk_cell BK163.out 0).trans rfl
                    have hfs64 := blk_frozen BK163.out 0
                    have hns64_0 := NB146_163.out
                    have hns64_1 := NB156_163.out
                    have hms64_0 := NB163_146.out
                    have hms64_1 := NB163_156.out
                    have hs65 : w63.cell? ⟨gb163, 1, none⟩ = some (.int .i16 0) := (blk_cell BK163.out 1).trans rfl
                    have hfs65 := blk_frozen BK163.out 1
                    have hns65_0 := NB146_163.out
                    have hns65_1 := NB156_163.out
                    have hms65_0 := NB163_146.out
                    have hms65_1 := NB163_156.out
                    have hs66 : w63.cell? ⟨gb163, 2, none⟩ = some (.int .i16 0) := (blk_cell BK163.out 2).trans rfl
                    have hfs66 := blk_frozen BK163.out 2
                    have hns66_0 := NB146_163.out
                    have hns66_1 := NB156_163.out
                    have hms66_0 := NB163_146.out
                    have hms66_1 := NB163_156.out
                    have hs67 : w63.cell? ⟨gb163, 3, none⟩ = some (.int .i16 0) := (blk_cell BK163.out 3).trans rfl
                    have hfs67 := blk_frozen BK163.out 3
                    have hns67_0 := NB146_163.out
                    have hns67_1 := NB156_163.out
                    have hms67_0 := NB163_146.out
                    have hms67_1 := NB163_156.out
                    refine skip_ (w1 := ?_) (by rfl) rfl ?_ ?_
                    rotate_left
                    ·go_simp
                     rfl
                    refine hK.out _ _ ⟨(cf4_ NB156_163 (hHeld.1)), (cf4_ NB156_163 (hHeld.2.1)), (cf4_ NB156_163 (hHeld.2.2.1)), (cf4_ NB156_163 (hHeld.2.2.2.1)), ((cell_far (p := ⟨gb163, _, none⟩) (by first | exact ob0_ HO_6 BK163 | exact ob1_ HO_6 BK163) _).trans (((cell_far (p := ⟨gb163, _, none⟩) (by first | exact ob0_ HO_6 BK163 | exact ob1_ HO_6 BK163) _).trans (((cell_far (p := ⟨gb163, _, none⟩) (by first | exact ob0_ HO_6 BK163 | exact ob1_ HO_6 BK163) _).trans (((cell_far (p := ⟨gb163, _, none⟩) (by first | exact ob0_ HO_6 BK163 | exact ob1_ HO_6 BK163) _).trans (hHeld.2.2.2.2.1)))))))), ((cell_far (p := ⟨gb163, _, none⟩) (by first | exact ob0_ HO_6 BK163 | exact ob1_ HO_6 BK163) _).trans (((cell_far (p := ⟨gb163, _, none⟩) (by first | exact ob0_ HO_6 BK163 | exact ob1_ HO_6 BK163) _).trans (((cell_far (p := ⟨gb163, _, none⟩) (by first | exact ob0_ HO_6 BK163 | exact ob1_ HO_6 BK163) _).trans (((cell_far (p := ⟨gb163, _, none⟩) (by first | exact ob0_ HO_6 BK163 | exact ob1_ HO_6 BK163) _).trans (hHeld.2.2.2.2.2.1)))))))), ((cell_far (p := ⟨gb163, _, none⟩) (by first | exact ob0_ HO_6 BK163 | exact ob1_ HO_6 BK163) _).trans (((cell_far (p := ⟨gb163, _, none⟩) (by first | exact ob0_ HO_6 BK163 | exact ob1_ HO_6 BK163) _).trans (((cell_far (p := ⟨gb163, _, none⟩) (by first | exact ob0_ HO_6 BK163 | exact ob1_ HO_6 BK163) _).trans (((cell_far (p := ⟨gb163, _, none⟩) (by first | exact ob0_ HO_6 BK163 | exact ob1_ HO_6 BK163) _).trans (hHeld.2.2.2.2.2.2))))))))⟩ (fun hHeld => ?_)
                    clear hK K
                    refine pure_ (i := 12) (N := some 12) (v := ?_) (a' := ?_) #[true, true, true, true, true, true, true, true, true, true, true, true, true] rfl rfl (any_of HT_.out (by kernel_rfl)) (fun _ _ _ h => h) (Or.inl ⟨by rfl, ?_⟩) ?_ ?_
                    rotate_left
                    ·intro w'
                     go_simp
                     with_reducible rfl
                    rotate_left
                    ·simp only [Act.put, sp_]
                     rfl
                    refine done_ (done_of HT_.out (by kernel_rfl)) ?_
                    have hnb68 := NB163_146.out
                    have hnc68 := NB146_163.out
                    have hnb69 := NB163_156.out
                    have hnc69 := NB156_163.out
                    obtain ⟨hcz70_0, hcz70_1, hcz70_2, hcz70_3, hfz70_0, hfz70_1, hfz70_2, hfz70_3⟩ := cl4_ BK163
                    try go_wp2_with (first | ((with_reducible refine gate_callee (f := 78) rfl ?_); refine goesL_ (some 73) rfl rfl Try.func78 (by kernel_rfl) rfl #[.pointer (some ⟨gp0, 0, none⟩), .agg #[.int .i16 t158, .int .i16 t159, .int .i16 t160, .int .i16 t161]] rfl arg_ ?_; (with_reducible refine (spec_l02Index.calls kj18 gp0 A0_0 c0_0 l0_0 x147001_3 x147002_3 x147003_3 x147004_3 x147005_3 t158 t159 t160 t161 t164 _ ?side1 ?side2 ?side3 A28.out).mono ?_); (case side1 => exact (pf_ BK146 NB146_163)); (case side2 => exact Kd.C_below HR0_0.out (bs_ HB GE163)); (case side3 => exact HC0_0.out); rintro e w71 ⟨rfl, hb⟩; refine ⟨_, rfl, ?_⟩; have n0_ := A_ (Kd.R_below (by (with_reducible repeat (first | apply Kd.R_alloc | apply Kd.R_drewN | apply Kd.R_drew)); exact (rf4_ HO_6 BK163 (by decide))) hb); have n1_ := A_ (blk_below (g := gp0) (o := .cells #[.slice A0_0 l0_0.length c0_0, .int .i16 x147001_3, .int .i16 x147002_3, .int .i16 x147003_3, .int .i16 x147004_3, .bool x147005_3] 32 (0, 0)) (pf_ BK146 NB146_163) hb); have n2_ := A_ (blk_below (g := gb156) (o := .cells #[.int .i16 t152, .int .i16 t153, .int .i16 t154, .int .i16 t155] 30 (0, 0)) (pf_ BK156 NB156_163) hb); have n3_ := A_ (blk_below (g := gb163) (o := .cells #[.int .i16 t158, .int .i16 t159, .int .i16 t160, .int .i16 t161] 30 (0, 0)) (by (with_reducible repeat (first | refine blk_drewN ?_ _ | refine blk_drew ?_ | refine blk_alloc ?_ _)); refine blk_put (cs := #[.int .i16 t158, .int .i16 t159, .int .i16 t160, .int .i16 0]) ?_ 3 _ rfl; (with_reducible repeat (first | refine blk_drewN ?_ _ | refine blk_drew ?_ | refine blk_alloc ?_ _)); refine blk_put (cs := #[.int .i16 t158, .int .i16 t159, .int .i16 0, .int .i16 0]) ?_ 2 _ rfl; (with_reducible repeat (first | refine blk_drewN ?_ _ | refine blk_drew ?_ | refine blk_alloc ?_ _)); refine blk_put (cs := #[.int .i16 t158, .int .i16 0, .int .i16 0, .int .i16 0]) ?_ 1 _ rfl; (with_reducible repeat (first | refine blk_drewN ?_ _ | refine blk_drew ?_ | refine blk_alloc ?_ _)); refine blk_put (cs := #[.int .i16 0, .int .i16 0, .int .i16 0, .int .i16 0]) ?_ 0 _ rfl; (with_reducible repeat (first | refine blk_drewN ?_ _ | refine blk_drew ?_ | refine blk_alloc ?_ _)); exact BK163.out) hb); have n4_ := A_ (below_step (bs_ HB GE163) hb); clear HO_6; clear BK146; clear BK156; clear BK163; clear HB; have HO_6 := n0_; have BK146 := n1_; have BK156 := n2_; have BK163 := n3_; have HB := n4_; clear n0_ n1_ n2_ n3_ n4_; (try clear hb); (try clear hb2); (try clear hk); (try clear hi); have p165 : 0 ≤ (t164 : Int) := asm_; have q165 : t164 < (l1.length : Int) := asm_; obtain ⟨ad165, e165, hx165_0⟩ := Kd.at_int HR1.out t164 p165 q165; obtain rfl : ad151 = ad165 := (by injection e165); (try replace hx165_0 := (HB.out.cell (World.block_lt_of_cell? w _ hx165_0)).trans hx165_0); replace p165 := eq_true p165; replace q165 := eq_true q165))
                    go_roundg kj18
                    case measure => have := HK1.out; have := HJ9.out; have := HK3.out; have := HJ18.out; omega
                    case rel => exact ⟨(wrap64 (x10_3 + 1)), (x147001_3), (x147002_3), (x147003_3), (x147004_3), (x147005_3), rs_, H', ⟨by have := HK1.out; have := HJ9.out; have := HK3.out; have := HJ18.out; omega⟩, ⟨pr_ HO_6⟩, ⟨pl_ BK146⟩, ⟨pl_ BK156⟩, ⟨bl_ HB⟩⟩
                 ·rw [if_neg c30] at H
                  exact absurd H (by simp)
                ·rw [if_neg c29] at H
                 exact absurd H (by simp)
               ·rw [if_neg c27] at H
                have c27b0 : (t162 == 0) = false := beq_eq_false_iff_ne.mpr c27
                have c27b1 : (t162 != 0) = true := bne_iff_ne.mpr c27
                have H' := Aside0.mk H
                clear H
                try go_wp2
                have n0_ := A_ (Kd.R_drew HO_6.out)
                have n1_ := A_ (blk_drew BK146.out)
                have n2_ := A_ (blk_drew BK156.out)
                have n3_ := A_ (below_drew1 HB.out)
                clear HO_6
                clear BK146
                clear BK156
                clear HB
                have HO_6 := n0_
                have BK146 := n1_
                have BK156 := n2_
                have HB := n3_
                clear n0_ n1_ n2_ n3_
                obtain ⟨Ao73, co73, eo73⟩ := Kd.R_slice HO_6.out
                (first | subst eo73 | (injection eo73 with f1_ f2_ f3_; have f4_ := f1_.symm; have f5_ := f3_.symm; clear f1_ f2_ f3_; subst f4_; subst f5_))
                have p157 : 0 ≤ (x10_3 : Int) := asm_
                have q157 : x10_3 < (t148.length : Int) := asm_
                obtain ⟨ad157, e157, hx157_0, hx157_1, hx157_2⟩ := at_T60 (Kd.R_reads' HO_6.out).2.2 x10_3 p157 q157
                cases e157
                replace p157 := eq_true p157
                replace q157 := eq_true q157
                refine start_ (n := 13) (S := fun w' => w'.cell? ⟨gb156, 0, none⟩ = some (.int .i16 t152) ∧ w'.cell? ⟨gb156, 1, none⟩ = some (.int .i16 t153) ∧ w'.cell? ⟨gb156, 2, none⟩ = some (.int .i16 t154) ∧ w'.cell? ⟨gb156, 3, none⟩ = some (.int .i16 t155) ∧ w'.cell? (ad157.add ((x10_3).toNat * 3)) = some (.int .i8 ((rd_T60 t148 x10_3).f0)) ∧ w'.cell? ⟨(ad157.add ((x10_3).toNat * 3)).block, (ad157.add ((x10_3).toNat * 3)).off + 1, none⟩ = some (.int .i8 ((rd_T60 t148 x10_3).f1)) ∧ w'.cell? ⟨(ad157.add ((x10_3).toNat * 3)).block, (ad157.add ((x10_3).toNat * 3)).off + 2, none⟩ = some (.int .i8 ((rd_T60 t148 x10_3).f2))) (ds := []) #[false, false, false, false, false, false, false, false, false, false, false, false, false] (by kernel_rfl) rfl rfl ⟨(blk_cell BK156.out 0).trans rfl, (blk_cell BK156.out 1).trans rfl, (blk_cell BK156.out 2).trans rfl, (blk_cell BK156.out 3).trans rfl, hx157_0, hx157_1, hx157_2⟩ (fun hHeld => ?_); refine with_tabW spec_l02Broken.tab13 spec_l02Broken.bits13 (fun HT_ HW_ => ?_)
                generalize wc.drew = w72 at HO_6 BK146 BK156 HB hx157_0 hx157_1 hx157_2 hHeld ⊢
                refine pure_ (i := 0) (N := some 59) (v := ?_) (a' := ?_) #[true, false, false, false, false, false, false, false, false, false, false, false, false] rfl rfl (any_of HT_.out (by kernel_rfl)) (fun _ _ _ h => h) (Or.inl ⟨by rfl, ?_⟩) ?_ ?_
                rotate_left
                ·intro w'
                 go_simp
                 with_reducible rfl
                rotate_left
                ·simp only [Act.put, sp_]
                 rfl
                refine pure_ (i := 2) (N := some 61) (v := ?_) (a' := ?_) #[true, false, true, false, false, false, false, false, false, false, false, false, false] rfl rfl (any_of HT_.out (by kernel_rfl)) (fun _ _ _ h => h) (Or.inl ⟨by rfl, ?_⟩) ?_ ?_
                rotate_left
                ·intro w'
                 go_simp
                 with_reducible rfl
                rotate_left
                ·simp only [Act.put, sp_]
                 rfl
                refine pure_ (i := 3) (N := some 62) (v := ?_) (a' := ?_) #[true, false, true, true, false, false, false, false, false, false, false, false, false] rfl rfl (any_of HT_.out (by kernel_rfl)) (fun _ _ _ h => h) (Or.inl ⟨by rfl, ?_⟩) ?_ ?_
                rotate_left
                ·intro w'
                 go_simp
                 with_reducible rfl
                rotate_left
                ·simp only [Act.put, sp_]
                 rfl
                refine pure_ (i := 4) (N := some 63) (v := ?_) (a' := ?_) #[true, false, true, true, true, false, false, false, false, false, false, false, false] rfl rfl (any_of HT_.out (by kernel_rfl)) (fun _ _ _ h => h) (Or.inl ⟨by rfl, ?_⟩) ?_ ?_
                rotate_left
                ·intro w'
                 go_simp
                 with_reducible rfl
                rotate_left
                ·simp only [Act.put, sp_]
                 rfl
                refine take_ (i := 1) (N := some 60) (v := ?_) (a' := ?_) #[true, true, true, true, true, false, false, false, false, false, false, false, false] rfl rfl (take_ofW HT_.out HW_.out (by kernel_rfl)) (fun _ _ _ h => h) (Or.inl ⟨by rfl, ?_⟩) hHeld ?_ ?_
                rotate_left
                ·rintro w' ⟨s0, s1, s2, s3, s4, s5, s6⟩
                 go_simp
                 with_reducible rfl
                rotate_left
                ·simp only [Act.put, sp_]
                 rfl
                refine take_ (i := 5) (N := some 64) (v := ?_) (a' := ?_) #[true, true, true, true, true, true, false, false, false, false, false, false, false] rfl rfl (take_ofW HT_.out HW_.out (by kernel_rfl)) (fun _ _ _ h => h) (Or.inl ⟨by rfl, ?_⟩) hHeld ?_ ?_
                rotate_left
                ·rintro w' ⟨s0, s1, s2, s3, s4, s5, s6⟩
                 go_simp
                 with_reducible rfl
                rotate_left
                ·simp only [Act.put, sp_]
                 rfl
                refine join_ (σ := Nat) 2 #[true, true, true, true, true, true, true, true, true, true, true, false, false] (fun s_ => [(65, .tuple #[.agg #[.int .i16 t158, .int .i16 t159, .int .i16 t160, .int .i16 t161], .int .i64 t162]), (11, .pointer (some ⟨s_, 0, none⟩)), (58, .tuple #[.agg #[.int .i16 t158, .int .i16 t159, .int .i16 t160, .int .i16 t161], .int .i64 t162]), (66, .agg #[.int .i16 t158, .int .i16 t159, .int .i16 t160, .int .i16 t161]), (67, .int .i64 t162)]) (fun s_ w' => (w'.cell? ⟨gb156, 0, none⟩ = some (.int .i16 t152) ∧ w'.cell? ⟨gb156, 1, none⟩ = some (.int .i16 t153) ∧ w'.cell? ⟨gb156, 2, none⟩ = some (.int .i16 t154) ∧ w'.cell? ⟨gb156, 3, none⟩ = some (.int .i16 t155) ∧ w'.cell? (ad157.add ((x10_3).toNat * 3)) = some (.int .i8 ((rd_T60 t148 x10_3).f0)) ∧ w'.cell? ⟨(ad157.add ((x10_3).toNat * 3)).block, (ad157.add ((x10_3).toNat * 3)).off + 1, none⟩ = some (.int .i8 ((rd_T60 t148 x10_3).f1)) ∧ w'.cell? ⟨(ad157.add ((x10_3).toNat * 3)).block, (ad157.add ((x10_3).toNat * 3)).off + 2, none⟩ = some (.int .i8 ((rd_T60 t148 x10_3).f2))) ∧ (Kd.R k60 60 w' w.heap.size (fun _ => True) (.slice (some ad157) t148.length co73) t148) ∧ (w'.heap[gp0]? = some (.cells #[.slice A0_0 l0_0.length c0_0, .int .i16 x147001_3, .int .i16 x147002_3, .int .i16 x147003_3, .int .i16 x147004_3, .bool x147005_3] 32 (0, 0))) ∧ (w'.heap[gb156]? = some (.cells #[.int .i16 t152, .int .i16 t153, .int .i16 t154, .int .i16 t155] 30 (0, 0))) ∧ (w'.heap[s_]? = some (.cells #[.int .i16 0, .int .i16 0, .int .i16 0, .int .i16 0] 30 (0, 0))) ∧ (w.heap.size ≤ s_) ∧ (w.heap.size ≤ s_) ∧ (gp0 ≠ s_) ∧ (s_ ≠ gp0) ∧ (gb156 ≠ s_) ∧ (s_ ≠ gb156) ∧ (Below w.heap.size w w')) ?_ ?_
                rotate_left
                ·intro hCont
                 refine two_ (i := 6) (j := 10) (Ni := some 65) (Nj := some 11) #[true, true, true, true, true, true, true, false, false, false, false, false, false] #[true, true, true, true, true, true, false, false, false, false, true, false, false] rfl rfl rfl rfl (two_of HT_.out (by kernel_rfl)) (by decide) (by decide) (fun K hK => ?_) (fun K hK => ?_)
                 ·skip
                  refine goes_ Try.func85 (by kernel_rfl) rfl #[.pointer (some ⟨gp0, 0, none⟩), .agg #[.int .i16 t152, .int .i16 t153, .int .i16 t154, .int .i16 t155], .agg #[.int .i8 ((rd_T60 t148 x10_3).f0), .int .i8 ((rd_T60 t148 x10_3).f1), .int .i8 ((rd_T60 t148 x10_3).f2)]] (by rfl) rfl rfl arg_ ?_
                  with_reducible refine (spec_l02Move.calls kj18 gp0 A0_0 c0_0 l0_0 x147001_3 x147002_3 x147003_3 x147004_3 x147005_3 t152 t153 t154 t155 ((rd_T60 t148 x10_3).f0) ((rd_T60 t148 x10_3).f1) ((rd_T60 t148 x10_3).f2) t158 t159 t160 t161 t162 _ ?side1 ?side2 ?side3 A26.out).mono ?_
                  (case side1 => exact (pl_ BK146))
                  (case side2 => exact Kd.C_below HR0_0.out (bl_ HB))
                  (case side3 => exact HC0_0.out)
                  rintro e w74 ⟨rfl, hb⟩
                  have HS4_ := (hb.cell (World.block_lt_of_cell? _ _ (hHeld.2.2.2.2.1))).trans (hHeld.2.2.2.2.1)
                  have HS5_ := (hb.cell (World.block_lt_of_cell? _ _ (hHeld.2.2.2.2.2.1))).trans (hHeld.2.2.2.2.2.1)
                  have HS6_ := (hb.cell (World.block_lt_of_cell? _ _ (hHeld.2.2.2.2.2.2))).trans (hHeld.2.2.2.2.2.2)
                  refine ⟨_, rfl, ?_⟩
                  have n0_ := A_ (Kd.R_below (pr_ HO_6) hb)
                  have n1_ := A_ (blk_below (pl_ BK146) hb)
                  have n2_ := A_ (blk_below (pl_ BK156) hb)
                  have n3_ := A_ (below_step (bl_ HB) hb)
                  clear HO_6
                  clear BK146
                  clear BK156
                  clear HB
                  have HO_6 := n0_
                  have BK146 := n1_
                  have BK156 := n2_
                  have HB := n3_
                  clear n0_ n1_ n2_ n3_
                  (try clear hb)
                  (try clear hb2)
                  (try clear hk)
                  (try clear hi)
                  refine hK.out _ _ ⟨(blk_cell BK156.out 0).trans rfl, (blk_cell BK156.out 1).trans rfl, (blk_cell BK156.out 2).trans rfl, (blk_cell BK156.out 3).trans rfl, HS4_, HS5_, HS6_⟩ (fun hHeld => ?_)
                  clear hK K
                  refine norm_ (a' := ?_) ?_ ?_
                  rotate_left
                  ·show Act.put _ (some 65) _ = _
                   simp only [Act.put, sp_]
                   rfl
                  refine pure_ (i := 7) (N := some 58) (v := ?_) (a' := ?_) #[true, true, true, true, true, true, true, true, false, false, false, false, false] rfl rfl (any_of HT_.out (by kernel_rfl)) (fun _ _ _ h => h) (Or.inl ⟨by rfl, ?_⟩) ?_ ?_
                  rotate_left
                  ·intro w'
                   go_simp
                   with_reducible rfl
                  rotate_left
                  ·simp only [Act.put, sp_]
                   rfl
                  refine pure_ (i := 8) (N := some 66) (v := ?_) (a' := ?_) #[true, true, true, true, true, true, true, true, true, false, false, false, false] rfl rfl (any_of HT_.out (by kernel_rfl)) (fun _ _ _ h => h) (Or.inl ⟨by rfl, ?_⟩) ?_ ?_
                  rotate_left
                  ·intro w'
                   go_simp
                   with_reducible rfl
                  rotate_left
                  ·simp only [Act.put, sp_]
                   rfl
                  refine pure_ (i := 9) (N := some 67) (v := ?_) (a' := ?_) #[true, true, true, true, true, true, true, true, true, true, false, false, false] rfl rfl (any_of HT_.out (by kernel_rfl)) (fun _ _ _ h => h) (Or.inl ⟨by rfl, ?_⟩) ?_ ?_
                  rotate_left
                  ·intro w'
                   go_simp
                   with_reducible rfl
                  rotate_left
                  ·simp only [Act.put, sp_]
                   rfl
                  refine one_ (i := 10) (N := some 11) #[true, true, true, true, true, true, true, true, true, true, true, false, false] rfl rfl (one_of HT_.out (by kernel_rfl)) (by decide) (fun K hK => ?_)
                  refine box_step ?hg (N := 11) ?hd (cs := #[.int .i16 0, .int .i16 0, .int .i16 0, .int .i16 0]) (t := 30) ?hr ?_; (case hd => rfl); (case hg => rfl); (case hr => first | (go_simp; done) | (go_simp; rfl))
                  intro gb163 hg w75 hbox hb
                  have HS4_ := (hb.cell (World.block_lt_of_cell? _ _ (hHeld.2.2.2.2.1))).trans (hHeld.2.2.2.2.1)
                  have HS5_ := (hb.cell (World.block_lt_of_cell? _ _ (hHeld.2.2.2.2.2.1))).trans (hHeld.2.2.2.2.2.1)
                  have HS6_ := (hb.cell (World.block_lt_of_cell? _ _ (hHeld.2.2.2.2.2.2))).trans (hHeld.2.2.2.2.2.2)
                  have n0_ := A_ (Kd.R_below (pr_ HO_6) hb)
                  have n1_ := A_ (blk_below (pl_ BK146) hb)
                  have n2_ := A_ (blk_below (pl_ BK156) hb)
                  have n3_ := A_ (below_step (bl_ HB) hb)
                  have n4_ := A_ (hbox)
                  have n5_ := A_ ((by rw [hg]; exact (below_size (bl_ HB)) : w.heap.size ≤ gb163))
                  have n6_ := n5_
                  have n7_ := A_ ((by rw [hg]; exact Nat.ne_of_lt (blk_lt (pl_ BK146)) : gp0 ≠ gb163))
                  have n8_ := Aside0.mk n7_.out.symm
                  have n9_ := A_ ((by rw [hg]; exact Nat.ne_of_lt (blk_lt (pl_ BK156)) : gb156 ≠ gb163))
                  have n10_ := Aside0.mk n9_.out.symm
                  clear HO_6
                  clear BK146
                  clear BK156
                  clear HB
                  have HO_6 := n0_
                  have BK146 := n1_
                  have BK156 := n2_
                  have HB := n3_
                  have BK163 := n4_
                  have GW163 := n5_
                  have GE163 := n6_
                  have NB146_163 := n7_
                  have NB163_146 := n8_
                  have NB156_163 := n9_
                  have NB163_156 := n10_
                  clear n0_ n1_ n2_ n3_ n4_ n5_ n6_ n7_ n8_ n9_ n10_
                  clear hb hbox hg
                  refine hK.out _ _ ⟨(blk_cell BK156.out 0).trans rfl, (blk_cell BK156.out 1).trans rfl, (blk_cell BK156.out 2).trans rfl, (blk_cell BK156.out 3).trans rfl, HS4_, HS5_, HS6_⟩ (fun hHeld => ?_)
                  clear hK K
                  refine norm_ (a' := ?_) ?_ ?_
                  rotate_left
                  ·show Act.put _ (some 11) _ = _
                   simp only [Act.put, sp_]
                   rfl
                  exact norm_ pa_ (hCont (gb163) _ ⟨hHeld, (pr_ HO_6), (pl_ BK146), (pl_ BK156), (pl_ BK163), GW163.out, GE163.out, NB146_163.out, NB163_146.out, NB156_163.out, NB163_156.out, (bl_ HB)⟩)
                 ·skip
                  refine box_step ?hg (N := 11) ?hd (cs := #[.int .i16 0, .int .i16 0, .int .i16 0, .int .i16 0]) (t := 30) ?hr ?_; (case hd => rfl); (case hg => rfl); (case hr => first | (go_simp; done) | (go_simp; rfl))
                  intro gb163 hg w74 hbox hb
                  have HS4_ := (hb.cell (World.block_lt_of_cell? _ _ (hHeld.2.2.2.2.1))).trans (hHeld.2.2.2.2.1)
                  have HS5_ := (hb.cell (World.block_lt_of_cell? _ _ (hHeld.2.2.2.2.2.1))).trans (hHeld.2.2.2.2.2.1)
                  have HS6_ := (hb.cell (World.block_lt_of_cell? _ _ (hHeld.2.2.2.2.2.2))).trans (hHeld.2.2.2.2.2.2)
                  have n0_ := A_ (Kd.R_below (pr_ HO_6) hb)
                  have n1_ := A_ (blk_below (pl_ BK146) hb)
                  have n2_ := A_ (blk_below (pl_ BK156) hb)
                  have n3_ := A_ (below_step (bl_ HB) hb)
                  have n4_ := A_ (hbox)
                  have n5_ := A_ ((by rw [hg]; exact (below_size (bl_ HB)) : w.heap.size ≤ gb163))
                  have n6_ := n5_
                  have n7_ := A_ ((by rw [hg]; exact Nat.ne_of_lt (blk_lt (pl_ BK146)) : gp0 ≠ gb163))
                  have n8_ := Aside0.mk n7_.out.symm
                  have n9_ := A_ ((by rw [hg]; exact Nat.ne_of_lt (blk_lt (pl_ BK156)) : gb156 ≠ gb163))
                  have n10_ := Aside0.mk n9_.out.symm
                  clear HO_6
                  clear BK146
                  clear BK156
                  clear HB
                  have HO_6 := n0_
                  have BK146 := n1_
                  have BK156 := n2_
                  have HB := n3_
                  have BK163 := n4_
                  have GW163 := n5_
                  have GE163 := n6_
                  have NB146_163 := n7_
                  have NB163_146 := n8_
                  have NB156_163 := n9_
                  have NB163_156 := n10_
                  clear n0_ n1_ n2_ n3_ n4_ n5_ n6_ n7_ n8_ n9_ n10_
                  clear hb hbox hg
                  refine hK.out _ _ ⟨(blk_cell BK156.out 0).trans rfl, (blk_cell BK156.out 1).trans rfl, (blk_cell BK156.out 2).trans rfl, (blk_cell BK156.out 3).trans rfl, HS4_, HS5_, HS6_⟩ (fun hHeld => ?_)
                  clear hK K
                  refine norm_ (a' := ?_) ?_ ?_
                  rotate_left
                  ·show Act.put _ (some 11) _ = _
                   simp only [Act.put, sp_]
                   rfl
                  refine one_ (i := 6) (N := some 65) #[true, true, true, true, true, true, true, false, false, false, true, false, false] rfl rfl (one_of HT_.out (by kernel_rfl)) (by decide) (fun K hK => ?_)
                  refine goes_ Try.func85 (by kernel_rfl) rfl #[.pointer (some ⟨gp0, 0, none⟩), .agg #[.int .i16 t152, .int .i16 t153, .int .i16 t154, .int .i16 t155], .agg #[.int .i8 ((rd_T60 t148 x10_3).f0), .int .i8 ((rd_T60 t148 x10_3).f1), .int .i8 ((rd_T60 t148 x10_3).f2)]] (by rfl) rfl rfl arg_ ?_
                  with_reducible refine (spec_l02Move.calls kj18 gp0 A0_0 c0_0 l0_0 x147001_3 x147002_3 x147003_3 x147004_3 x147005_3 t152 t153 t154 t155 ((rd_T60 t148 x10_3).f0) ((rd_T60 t148 x10_3).f1) ((rd_T60 t148 x10_3).f2) t158 t159 t160 t161 t162 _ ?side1 ?side2 ?side3 A26.out).mono ?_
                  (case side1 => exact (pl_ BK146))
                  (case side2 => exact Kd.C_below HR0_0.out (bl_ HB))
                  (case side3 => exact HC0_0.out)
                  rintro e w75 ⟨rfl, hb⟩
                  have HS4_ := (hb.cell (World.block_lt_of_cell? _ _ (hHeld.2.2.2.2.1))).trans (hHeld.2.2.2.2.1)
                  have HS5_ := (hb.cell (World.block_lt_of_cell? _ _ (hHeld.2.2.2.2.2.1))).trans (hHeld.2.2.2.2.2.1)
                  have HS6_ := (hb.cell (World.block_lt_of_cell? _ _ (hHeld.2.2.2.2.2.2))).trans (hHeld.2.2.2.2.2.2)
                  refine ⟨_, rfl, ?_⟩
                  have n0_ := A_ (Kd.R_below (pr_ HO_6) hb)
                  have n1_ := A_ (blk_below (pl_ BK146) hb)
                  have n2_ := A_ (blk_below (pl_ BK156) hb)
                  have n3_ := A_ (blk_below (pl_ BK163) hb)
                  have n4_ := A_ (below_step (bl_ HB) hb)
                  clear HO_6
                  clear BK146
                  clear BK156
                  clear BK163
                  clear HB
                  have HO_6 := n0_
                  have BK146 := n1_
                  have BK156 := n2_
                  have BK163 := n3_
                  have HB := n4_
                  clear n0_ n1_ n2_ n3_ n4_
                  (try clear hb)
                  (try clear hb2)
                  (try clear hk)
                  (try clear hi)
                  refine hK.out _ _ ⟨(blk_cell BK156.out 0).trans rfl, (blk_cell BK156.out 1).trans rfl, (blk_cell BK156.out 2).trans rfl, (blk_cell BK156.out 3).trans rfl, HS4_, HS5_, HS6_⟩ (fun hHeld => ?_)
                  clear hK K
                  refine norm_ (a' := ?_) ?_ ?_
                  rotate_left
                  ·show Act.put _ (some 65) _ = _
                   simp only [Act.put, sp_]
                   rfl
                  refine pure_ (i := 7) (N := some 58) (v := ?_) (a' := ?_) #[true, true, true, true, true, true, true, true, false, false, true, false, false] rfl rfl (any_of HT_.out (by kernel_rfl)) (fun _ _ _ h => h) (Or.inl ⟨by rfl, ?_⟩) ?_ ?_
                  rotate_left
                  ·intro w'
                   go_simp
                   with_reducible rfl
                  rotate_left
                  ·simp only [Act.put, sp_]
                   rfl
                  refine pure_ (i := 8) (N := some 66) (v := ?_) (a' := ?_) #[true, true, true, true, true, true, true, true, true, false, true, false, false] rfl rfl (any_of HT_.out (by kernel_rfl)) (fun _ _ _ h => h) (Or.inl ⟨by rfl, ?_⟩) ?_ ?_
                  rotate_left
                  ·intro w'
                   go_simp
                   with_reducible rfl
                  rotate_left
                  ·simp only [Act.put, sp_]
                   rfl
                  refine pure_ (i := 9) (N := some 67) (v := ?_) (a' := ?_) #[true, true, true, true, true, true, true, true, true, true, true, false, false] rfl rfl (any_of HT_.out (by kernel_rfl)) (fun _ _ _ h => h) (Or.inl ⟨by rfl, ?_⟩) ?_ ?_
                  rotate_left
                  ·intro w'
                   go_simp
                   with_reducible rfl
                  rotate_left
                  ·simp only [Act.put, sp_]
                   rfl
                  exact norm_ pa_ (hCont (gb163) _ ⟨hHeld, (pr_ HO_6), (pl_ BK146), (pl_ BK156), (pl_ BK163), GW163.out, GE163.out, NB146_163.out, NB163_146.out, NB156_163.out, NB163_156.out, (bl_ HB)⟩)
                rintro gb163 w76 ⟨hS_, h0_, h1_, h2_, h3_, h4_, h5_, h6_, h7_, h8_, h9_, h10_⟩
                have n0_ : Aside0 (Kd.R k60 60 w76 w.heap.size (fun _ => True) (.slice (some ad157) t148.length co73) t148) := ⟨h0_⟩
                have n1_ : Aside0 (w76.heap[gp0]? = some (.cells #[.slice A0_0 l0_0.length c0_0, .int .i16 x147001_3, .int .i16 x147002_3, .int .i16 x147003_3, .int .i16 x147004_3, .bool x147005_3] 32 (0, 0))) := ⟨h1_⟩
                have n2_ : Aside0 (w76.heap[gb156]? = some (.cells #[.int .i16 t152, .int .i16 t153, .int .i16 t154, .int .i16 t155] 30 (0, 0))) := ⟨h2_⟩
                have n3_ : Aside0 (w76.heap[gb163]? = some (.cells #[.int .i16 0, .int .i16 0, .int .i16 0, .int .i16 0] 30 (0, 0))) := ⟨h3_⟩
                have n4_ : Aside0 (w.heap.size ≤ gb163) := ⟨h4_⟩
                have n5_ : Aside0 (w.heap.size ≤ gb163) := ⟨h5_⟩
                have n6_ : Aside0 (gp0 ≠ gb163) := ⟨h6_⟩
                have n7_ : Aside0 (gb163 ≠ gp0) := ⟨h7_⟩
                have n8_ : Aside0 (gb156 ≠ gb163) := ⟨h8_⟩
                have n9_ : Aside0 (gb163 ≠ gb156) := ⟨h9_⟩
                have n10_ : Aside0 (Below w.heap.size w w76) := ⟨h10_⟩
                clear HO_6
                clear BK146
                clear BK156
                clear HB
                clear h0_ h1_ h2_ h3_ h4_ h5_ h6_ h7_ h8_ h9_ h10_
                have HO_6 := n0_
                have BK146 := n1_
                have BK156 := n2_
                have BK163 := n3_
                have GW163 := n4_
                have GE163 := n5_
                have NB146_163 := n6_
                have NB163_146 := n7_
                have NB156_163 := n8_
                have NB163_156 := n9_
                have HB := n10_
                clear n0_ n1_ n2_ n3_ n4_ n5_ n6_ n7_ n8_ n9_ n10_
                have hHeld : w76.cell? ⟨gb156, 0, none⟩ = some (.int .i16 t152) ∧ w76.cell? ⟨gb156, 1, none⟩ = some (.int .i16 t153) ∧ w76.cell? ⟨gb156, 2, none⟩ = some (.int .i16 t154) ∧ w76.cell? ⟨gb156, 3, none⟩ = some (.int .i16 t155) ∧ w76.cell? (ad157.add ((x10_3).toNat * 3)) = some (.int .i8 ((rd_T60 t148 x10_3).f0)) ∧ w76.cell? ⟨(ad157.add ((x10_3).toNat * 3)).block, (ad157.add ((x10_3).toNat * 3)).off + 1, none⟩ = some (.int .i8 ((rd_T60 t148 x10_3).f1)) ∧ w76.cell? ⟨(ad157.add ((x10_3).toNat * 3)).block, (ad157.add ((x10_3).toNat * 3)).off + 2, none⟩ = some (.int .i8 ((rd_T60 t148 x10_3).f2)) := hS_
                refine norm_ (a' := ?_) ?_ ?_
                rotate_left
                ·simp only [putAll, Act.put, List.setIfInBounds_toArray, List.set_cons_zero, List.set_cons_succ]
                 rfl
                refine one_ (i := 11) (N := none) #[true, true, true, true, true, true, true, true, true, true, true, true, false] rfl rfl (one_of HT_.out (by kernel_rfl)) (by decide) (fun K hK => ?_)
                have hs77 : w76.cell? ⟨gb163, 0, none⟩ = some (.int .i16 0) := (blk_cell BK163.out 0).trans rfl
                have hfs77 := blk_frozen BK163.out 0
                have hns77_0 := NB146_163.out
                have hns77_1 := NB156_163.out
                have hms77_0 := NB163_146.out
                have hms77_1 := NB163_156.out
                have hs78 : w76.cell? ⟨gb163, 1, none⟩ = some (.int .i16 0) := (blk_cell BK163.out 1).trans rfl
                have hfs78 := blk_frozen BK163.out 1
                have hns78_0 := NB146_163.out
                have hns78_1 := NB156_163.out
                have hms78_0 := NB163_146.out
                have hms78_1 := NB163_156.out
                have hs79 : w76.cell? ⟨gb163, 2, none⟩ = some (.int .i16 0) := (blk_cell BK163.out 2).trans rfl
                have hfs79 := blk_frozen BK163.out 2
                have hns79_0 := NB146_163.out
                have hns79_1 := NB156_163.out
                have hms79_0 := NB163_146.out
                have hms79_1 := NB163_156.out
                have hs80 : w76.cell? ⟨gb163, 3, none⟩ = some (.int .i16 0) := (blk_cell BK163.out 3).trans rfl
                have hfs80 := blk_frozen BK163.out 3
                have hns80_0 := NB146_163.out
                have hns80_1 := NB156_163.out
                have hms80_0 := NB163_146.out
                have hms80_1 := NB163_156.out
                refine skip_ (w1 := ?_) (by rfl) rfl ?_ ?_
                rotate_left
                ·go_simp
                 rfl
                refine hK.out _ _ ⟨(cf4_ NB156_163 (hHeld.1)), (cf4_ NB156_163 (hHeld.2.1)), (cf4_ NB156_163 (hHeld.2.2.1)), (cf4_ NB156_163 (hHeld.2.2.2.1)), ((cell_far (p := ⟨gb163, _, none⟩) (by first | exact ob0_ HO_6 BK163 | exact ob1_ HO_6 BK163) _).trans (((cell_far (p := ⟨gb163, _, none⟩) (by first | exact ob0_ HO_6 BK163 | exact ob1_ HO_6 BK163) _).trans (((cell_far (p := ⟨gb163, _, none⟩) (by first | exact ob0_ HO_6 BK163 | exact ob1_ HO_6 BK163) _).trans (((cell_far (p := ⟨gb163, _, none⟩) (by first | exact ob0_ HO_6 BK163 | exact ob1_ HO_6 BK163) _).trans (hHeld.2.2.2.2.1)))))))), ((cell_far (p := ⟨gb163, _, none⟩) (by first | exact ob0_ HO_6 BK163 | exact ob1_ HO_6 BK163) _).trans (((cell_far (p := ⟨gb163, _, none⟩) (by first | exact ob0_ HO_6 BK163 | exact ob1_ HO_6 BK163) _).trans (((cell_far (p := ⟨gb163, _, none⟩) (by first | exact ob0_ HO_6 BK163 | exact ob1_ HO_6 BK163) _).trans (((cell_far (p := ⟨gb163, _, none⟩) (by first | exact ob0_ HO_6 BK163 | exact ob1_ HO_6 BK163) _).trans (hHeld.2.2.2.2.2.1)))))))), ((cell_far (p := ⟨gb163, _, none⟩) (by first | exact ob0_ HO_6 BK163 | exact ob1_ HO_6 BK163) _).trans (((cell_far (p := ⟨gb163, _, none⟩) (by first | exact ob0_ HO_6 BK163 | exact ob1_ HO_6 BK163) _).trans (((cell_far (p := ⟨gb163, _, none⟩) (by first | exact ob0_ HO_6 BK163 | exact ob1_ HO_6 BK163) _).trans (((cell_far (p := ⟨gb163, _, none⟩) (by first | exact ob0_ HO_6 BK163 | exact ob1_ HO_6 BK163) _).trans (hHeld.2.2.2.2.2.2))))))))⟩ (fun hHeld => ?_)
                clear hK K
                refine pure_ (i := 12) (N := some 12) (v := ?_) (a' := ?_) #[true, true, true, true, true, true, true, true, true, true, true, true, true] rfl rfl (any_of HT_.out (by kernel_rfl)) (fun _ _ _ h => h) (Or.inl ⟨by rfl, ?_⟩) ?_ ?_
                rotate_left
                ·intro w'
                 go_simp
                 with_reducible rfl
                rotate_left
                ·simp only [Act.put, sp_]
                 rfl
                refine done_ (done_of HT_.out (by kernel_rfl)) ?_
                try go_wp2
                go_roundg kj18
                case measure => have := HK1.out; have := HJ9.out; have := HK3.out; have := HJ18.out; omega
                case rel => exact ⟨(wrap64 (x10_3 + 1)), (x147001_3), (x147002_3), (x147003_3), (x147004_3), (x147005_3), rs_, H', ⟨by have := HK1.out; have := HJ9.out; have := HK3.out; have := HJ18.out; omega⟩, ⟨by (with_reducible repeat (first | apply Kd.R_alloc | apply Kd.R_drewN | apply Kd.R_drew)); exact Kd.R_mono (Kd.R_far (p := ⟨gb163, 3, none⟩) (Kd.R_far (p := ⟨gb163, 2, none⟩) (Kd.R_far (p := ⟨gb163, 1, none⟩) (Kd.R_far (p := ⟨gb163, 0, none⟩) (Kd.R_types HO_6.out BK163.out (by decide)) (fun _ hk => hk.2) (.int .i16 t158)) (fun _ hk => hk.2) (.int .i16 t159)) (fun _ hk => hk.2) (.int .i16 t160)) (fun _ hk => hk.2) (.int .i16 t161)) (fun _ hk => trivial)⟩, ⟨pf_ BK146 NB146_163⟩, ⟨pf_ BK156 NB156_163⟩, ⟨bs_ HB GE163⟩⟩
              ·rw [if_neg c25] at H
               exact absurd H (by simp)
             ·rw [if_neg c24] at H
              exact absurd H (by simp)
            ·replace c23 := Bool.eq_false_iff.mpr c23
             subst c23
             have H1 : (spec_l02Broken.l0 kj18 l1 t147 t148 (wrap64 (x7_1 + 1)) l0_0 x147001_3 x147002_3 x147003_3 x147004_3 x147005_3) = some r := by rw [if_neg (show ¬ (false = true) by decide)] at H; exact H
             clear H
             have H := H1
             clear H1
             have H' := Aside0.mk H
             clear H
             go_wp2
             go_roundg kj18
             case measure => have := HK1.out; have := HJ9.out; have := HK3.out; have := HJ18.out; omega
             case rel => exact ⟨(wrap64 (x7_1 + 1)), (x147001_3), (x147002_3), (x147003_3), (x147004_3), (x147005_3), rs_, H', ⟨by have := HK1.out; have := HJ9.out; have := HK3.out; have := HJ18.out; omega⟩, ⟨pr_ HO_6⟩, ⟨pl_ BK146⟩, ⟨bl_ HB⟩⟩
    ·rw [if_neg c9] at H
     exact absurd H (by simp)
   ·rw [if_neg c8] at H
    have c8b0 : decide (x7_1 < (l1.length : Int)) = false := decide_eq_false c8
    clear c8
    obtain rfl := Option.some.inj H
    go_wp2
    go_ret
    exact ⟨by first | rfl | (simp [errW_none, errW_some] <;> rfl) | (simp [*, errW_none, errW_some] <;> rfl), bl_ HB⟩

end Go.Proofs.Ytodmfjophjhbeaa.M
