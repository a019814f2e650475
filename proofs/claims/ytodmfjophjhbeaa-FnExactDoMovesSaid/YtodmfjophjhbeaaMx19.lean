-- By this seat's own program over the kit's printer (arrays, functions told by hand); nothing of it is trusted: the kernel checks it.
import Derived.Test.YtodmfjophjhbeaaMx0
import Derived.Test.YtodmfjophjhbeaaMx8
import Derived.Test.YtodmfjophjhbeaaMx10
import Derived.Test.YtodmfjophjhbeaaMx12
namespace Go.Proofs.Ytodmfjophjhbeaa.M
open Go.RowKit Go.Proofs.YtodmfjophjhbeaaW.PrintWords Go.Proofs.YtodmfjophjhbeaaW.PrintLast Go.Proofs.YtodmfjophjhbeaaW.PrintMore
attribute [local go_sem] max2_int min2_int max_two min_two max_three min_three max_four min_four   -- for this text's walks alone
set_option linter.unusedVariables false
set_option linter.unusedSimpArgs false

/-! ### spec_DoMoves: function 45 -/
mutual
def spec_DoMoves.j0 : Nat → List (S60) → Bool → List Int → Int → Int → Int → Int → Bool → Int → Int → Int → Int → Option (Int × Int × Int × Int × Int)
 | 0, _, _, _, _, _, _, _, _, _, _, _, _ => none
 | k + 1, x2, x19, x166000, x166001, x166002, x166003, x166004, x166005, x167000, x167001, x167002, x167003 => if x19 = true then (some (0, 0, 0, 0, 1)) else (if (x2.length : Int) > 200 then (some (0, 0, 0, 0, 3)) else (spec_DoMoves.l0 k x2 0 x166000 x166001 x166002 x166003 x166004 x166005 x167000 x167001 x167002 x167003))
def spec_DoMoves.l0 : Nat → List (S60) → Int → List Int → Int → Int → Int → Int → Bool → Int → Int → Int → Int → Option (Int × Int × Int × Int × Int)
 | 0, _, _, _, _, _, _, _, _, _, _, _, _ => none
 | k + 1, x2, x8, x166000, x166001, x166002, x166003, x166004, x166005, x167000, x167001, x167002, x167003 => if x8 < (x2.length : Int) then (if 0 ≤ x8 then ((spec_l02Move.f k x166000 x166001 x166002 x166003 x166004 x166005 x167000 x167001 x167002 x167003 ((rd_T60 x2 x8).f0) ((rd_T60 x2 x8).f1) ((rd_T60 x2 x8).f2)).bind fun bt171 => (if bt171.2.2.2.2 = 0 then (spec_DoMoves.l0 k x2 (wrap64 (x8 + 1)) x166000 x166001 x166002 x166003 x166004 x166005 bt171.1 bt171.2.1 bt171.2.2.1 bt171.2.2.2.1) else (some (0, 0, 0, 0, bt171.2.2.2.2)))) else (none)) else (some (x167000, x167001, x167002, x167003, 0))
end
def spec_DoMoves.f (k : Nat) (l0_0 : List Int) (a0_1 : Int) (a0_2 : Int) (a0_3 : Int) (a0_4 : Int) (a0_5 : Bool) (a1_0 : Int) (a1_1 : Int) (a1_2 : Int) (a1_3 : Int) (l2 : List (S60)) : Option (Int × Int × Int × Int × Int) := (spec_l02Ok.f k l0_0 a0_1 a0_2 a0_3 a0_4 a0_5).bind fun t168 => (if t168 = true then ((spec_l02Water.f k l0_0 a1_0 a1_1 a1_2 a1_3).bind fun t169 => (spec_DoMoves.j0 k l2 (!t169) l0_0 a0_1 a0_2 a0_3 a0_4 a0_5 a1_0 a1_1 a1_2 a1_3)) else (spec_DoMoves.j0 k l2 true l0_0 a0_1 a0_2 a0_3 a0_4 a0_5 a1_0 a1_1 a1_2 a1_3))
theorem spec_DoMoves.mono_l : ∀ k, (∀ y0 y1 y2 y3 y4 y5 y6 y7 y8 y9 y10 y11, LeO (spec_DoMoves.j0 k y0 y1 y2 y3 y4 y5 y6 y7 y8 y9 y10 y11) (spec_DoMoves.j0 (k + 1) y0 y1 y2 y3 y4 y5 y6 y7 y8 y9 y10 y11)) ∧ (∀ y0 y1 y2 y3 y4 y5 y6 y7 y8 y9 y10 y11, LeO (spec_DoMoves.l0 k y0 y1 y2 y3 y4 y5 y6 y7 y8 y9 y10 y11) (spec_DoMoves.l0 (k + 1) y0 y1 y2 y3 y4 y5 y6 y7 y8 y9 y10 y11))
 | 0 => ⟨fun _ _ _ _ _ _ _ _ _ _ _ _ r h => by simp [spec_DoMoves.j0] at h, fun _ _ _ _ _ _ _ _ _ _ _ _ r h => by simp [spec_DoMoves.l0] at h⟩
 | k + 1 => by
  obtain ⟨ih0, ih1⟩ := spec_DoMoves.mono_l k
  refine ⟨?_, ?_⟩
  ·intro y0 y1 y2 y3 y4 y5 y6 y7 y8 y9 y10 y11
   unfold spec_DoMoves.j0
   repeat' first
   | (with_reducible exact ih0 _ _ _ _ _ _ _ _ _ _ _ _)
   | (with_reducible exact ih1 _ _ _ _ _ _ _ _ _ _ _ _)
   | (with_reducible exact spec_l02Move.mono _ _ _ _ _ _ _ _ _ _ _ _ _ _)
   | (with_reducible exact spec_l02Ok.mono _ _ _ _ _ _ _)
   | (with_reducible exact spec_l02Water.mono _ _ _ _ _ _)
   | (with_reducible exact LeO.refl _)
   | (with_reducible exact LeO.none _)
   | (with_reducible refine LeO.ite ?_ ?_)
   | (with_reducible refine LeO.bind ?_ (fun _ => ?_))
   | exact ih0 _ _ _ _ _ _ _ _ _ _ _ _
   | exact ih1 _ _ _ _ _ _ _ _ _ _ _ _
   | exact spec_l02Move.mono _ _ _ _ _ _ _ _ _ _ _ _ _ _
   | exact spec_l02Ok.mono _ _ _ _ _ _ _
   | exact spec_l02Water.mono _ _ _ _ _ _
   | exact LeO.none _
   | refine LeO.ite ?_ ?_
   | refine LeO.bind ?_ (fun _ => ?_)
  ·intro y0 y1 y2 y3 y4 y5 y6 y7 y8 y9 y10 y11
   unfold spec_DoMoves.l0
   repeat' first
   | (with_reducible exact ih0 _ _ _ _ _ _ _ _ _ _ _ _)
   | (with_reducible exact ih1 _ _ _ _ _ _ _ _ _ _ _ _)
   | (with_reducible exact spec_l02Move.mono _ _ _ _ _ _ _ _ _ _ _ _ _ _)
   | (with_reducible exact spec_l02Ok.mono _ _ _ _ _ _ _)
   | (with_reducible exact spec_l02Water.mono _ _ _ _ _ _)
   | (with_reducible exact LeO.refl _)
   | (with_reducible exact LeO.none _)
   | (with_reducible refine LeO.ite ?_ ?_)
   | (with_reducible refine LeO.bind ?_ (fun _ => ?_))
   | exact ih0 _ _ _ _ _ _ _ _ _ _ _ _
   | exact ih1 _ _ _ _ _ _ _ _ _ _ _ _
   | exact spec_l02Move.mono _ _ _ _ _ _ _ _ _ _ _ _ _ _
   | exact spec_l02Ok.mono _ _ _ _ _ _ _
   | exact spec_l02Water.mono _ _ _ _ _ _
   | exact LeO.none _
   | refine LeO.ite ?_ ?_
   | refine LeO.bind ?_ (fun _ => ?_)
theorem spec_DoMoves.mono : ∀ a0 a1 a2 a3 a4 a5 a6 a7 a8 a9 a10 k, LeO (spec_DoMoves.f k a0 a1 a2 a3 a4 a5 a6 a7 a8 a9 a10) (spec_DoMoves.f (k + 1) a0 a1 a2 a3 a4 a5 a6 a7 a8 a9 a10) := by
 intro a0 a1 a2 a3 a4 a5 a6 a7 a8 a9 a10 k
 obtain ⟨ih0, ih1⟩ := spec_DoMoves.mono_l k
 unfold spec_DoMoves.f
 repeat' first
   | (with_reducible exact ih0 _ _ _ _ _ _ _ _ _ _ _ _)
   | (with_reducible exact ih1 _ _ _ _ _ _ _ _ _ _ _ _)
   | (with_reducible exact spec_l02Move.mono _ _ _ _ _ _ _ _ _ _ _ _ _ _)
   | (with_reducible exact spec_l02Ok.mono _ _ _ _ _ _ _)
   | (with_reducible exact spec_l02Water.mono _ _ _ _ _ _)
   | (with_reducible exact LeO.refl _)
   | (with_reducible exact LeO.none _)
   | (with_reducible refine LeO.ite ?_ ?_)
   | (with_reducible refine LeO.bind ?_ (fun _ => ?_))
   | exact ih0 _ _ _ _ _ _ _ _ _ _ _ _
   | exact ih1 _ _ _ _ _ _ _ _ _ _ _ _
   | exact spec_l02Move.mono _ _ _ _ _ _ _ _ _ _ _ _ _ _
   | exact spec_l02Ok.mono _ _ _ _ _ _ _
   | exact spec_l02Water.mono _ _ _ _ _ _
   | exact LeO.none _
   | refine LeO.ite ?_ ?_
   | refine LeO.bind ?_ (fun _ => ?_)
def spec_DoMoves.T8 : Bool × List (List Nat × List Nat) := (true, [([], []), ([], []), ([], []), ([1, 2], [1, 2]), ([3], [3]), ([0, 4], [0, 4]), ([5], [5]), ([6], [6]), ([6], [6]), ([], []), ([9, 7, 5, 0, 1, 2, 3, 4, 5, 6, 7, 9], [7, 9]), ([8, 10, 0, 1, 2, 3, 4, 5, 6, 7, 8, 9, 10], [8])])
def spec_DoMoves.B8 : List Nat := [0, 0, 0, 6, 14, 31, 63, 127, 127, 0, 767, 2047]
theorem spec_DoMoves.tab8 : rtab .any (opsOf Try.f45 8) = spec_DoMoves.T8 := by kernel_rfl
theorem spec_DoMoves.bits8 : waitsOk spec_DoMoves.T8.2 spec_DoMoves.B8 = true := by kernel_rfl
set_option maxHeartbeats 8000000 in
set_option maxRecDepth 100000 in
theorem spec_DoMoves.calls (k : Nat) (A0_0 : Option Addr) (c0_0 : Nat) (l0_0 : List Int) (a0_1 : Int) (a0_2 : Int) (a0_3 : Int) (a0_4 : Int) (a0_5 : Bool) (a1_0 : Int) (a1_1 : Int) (a1_2 : Int) (a1_3 : Int) (A2 : Option Addr) (c2 : Nat) (l2 : List (S60)) (r1 : Int) (r2 : Int) (r3 : Int) (r4 : Int) (r5 : Int) (w : World) (hr0_0 : Kd.C (Kd.int .i16) w A0_0 l0_0.length l0_0) (hc0_0 : l0_0.length ≤ c0_0) (hr2 : Kd.C k60 w A2 l2.length l2) (hc2 : l2.length ≤ c2) (h : spec_DoMoves.f k l0_0 a0_1 a0_2 a0_3 a0_4 a0_5 a1_0 a1_1 a1_2 a1_3 l2 = some (r1, r2, r3, r4, r5)) :
  Calls Try.prog 45 #[.agg #[.slice A0_0 l0_0.length c0_0, .int .i16 a0_1, .int .i16 a0_2, .int .i16 a0_3, .int .i16 a0_4, .bool a0_5], .agg #[.int .i16 a1_0, .int .i16 a1_1, .int .i16 a1_2, .int .i16 a1_3], .slice A2 l2.length c2] w fun e w' => e = .returned (.tuple #[.agg #[.int .i16 r1, .int .i16 r2, .int .i16 r3, .int .i16 r4], .int .i64 r5]) ∧ Below w.heap.size w w' := by
 have hu32 := Try.underlying32
 have hu30 := Try.underlying30
 have hu60 := Try.underlying60
 have HR0_0 := Aside0.mk hr0_0
 have HC0_0 := Aside0.mk hc0_0
 clear hr0_0 hc0_0
 have HR2 := Aside0.mk hr2
 have HC2 := Aside0.mk hc2
 clear hr2 hc2
 have HB := A_ (Below.refl w.heap.size w)
 have H : ((spec_l02Ok.f k l0_0 a0_1 a0_2 a0_3 a0_4 a0_5).bind fun t168 => (if t168 = true then ((spec_l02Water.f k l0_0 a1_0 a1_1 a1_2 a1_3).bind fun t169 => (spec_DoMoves.j0 k l2 (!t169) l0_0 a0_1 a0_2 a0_3 a0_4 a0_5 a1_0 a1_1 a1_2 a1_3)) else (spec_DoMoves.j0 k l2 true l0_0 a0_1 a0_2 a0_3 a0_4 a0_5 a1_0 a1_1 a1_2 a1_3))) = some (r1, r2, r3, r4, r5) := h
 clear h
 have HC4 := Aside0.mk H
 clear H
 go_enter Try.func45, Try.ntmps45
 go_upto_region 1 with (first | ((with_reducible refine gate_dst (N := 3) rfl ?_); refine box_event ?hg (N := 3) ?hd (cs := #[.slice A0_0 l0_0.length c0_0, .int .i16 a0_1, .int .i16 a0_2, .int .i16 a0_3, .int .i16 a0_4, .bool a0_5]) (t := 32) ?hr ?_; (case hd => rfl); (case hg => rfl); (case hr => first | (go_simp; done) | (go_simp; rfl)); intro gb165 hg w5 hbox hb; have n0_ := A_ (below_step (bl_ HB) hb); have n1_ := A_ (hbox); have n2_ := A_ ((by rw [hg]; exact (below_size (bl_ HB)) : w.heap.size ≤ gb165)); have n3_ := n2_; clear HB; have HB := n0_; have BK165 := n1_; have GW165 := n2_; have GE165 := n3_; clear n0_ n1_ n2_ n3_; clear hb hbox hg) | ((with_reducible refine gate_dst (N := 4) rfl ?_); refine box_event ?hg (N := 4) ?hd (cs := #[.int .i16 a1_0, .int .i16 a1_1, .int .i16 a1_2, .int .i16 a1_3]) (t := 30) ?hr ?_; (case hd => rfl); (case hg => rfl); (case hr => first | (go_simp; done) | (go_simp; rfl)); intro gb166 hg w6 hbox hb; have n0_ := A_ (blk_below (pl_ BK165) hb); have n1_ := A_ (below_step (bl_ HB) hb); have n2_ := A_ (hbox); have n3_ := A_ ((by rw [hg]; exact (below_size (bl_ HB)) : w.heap.size ≤ gb166)); have n4_ := n3_; have n5_ := A_ ((by rw [hg]; exact Nat.ne_of_lt (blk_lt (pl_ BK165)) : gb165 ≠ gb166)); have n6_ := Aside0.mk n5_.out.symm; clear BK165; clear HB; have BK165 := n0_; have HB := n1_; have BK166 := n2_; have GW166 := n3_; have GE166 := n4_; have NB165_166 := n5_; have NB166_165 := n6_; clear n0_ n1_ n2_ n3_ n4_ n5_ n6_; clear hb hbox hg) | ((with_reducible refine gate_dst (N := 6) rfl ?_); refine box_event ?hg (N := 6) ?hd (cs := #[.int .i16 0, .int .i16 0, .int .i16 0, .int .i16 0]) (t := 30) ?hr ?_; (case hd => rfl); (case hg => rfl); (case hr => first | (go_simp; done) | (go_simp; rfl)); intro gb167 hg w7 hbox hb; have n0_ := A_ (blk_below (pl_ BK165) hb); have n1_ := A_ (blk_below (pl_ BK166) hb); have n2_ := A_ (below_step (bl_ HB) hb); have n3_ := A_ (hbox); have n4_ := A_ ((by rw [hg]; exact (below_size (bl_ HB)) : w.heap.size ≤ gb167)); have n5_ := n4_; have n6_ := A_ ((by rw [hg]; exact Nat.ne_of_lt (blk_lt (pl_ BK165)) : gb165 ≠ gb167)); have n7_ := Aside0.mk n6_.out.symm; have n8_ := A_ ((by rw [hg]; exact Nat.ne_of_lt (blk_lt (pl_ BK166)) : gb166 ≠ gb167)); have n9_ := Aside0.mk n8_.out.symm; clear BK165; clear BK166; clear HB; have BK165 := n0_; have BK166 := n1_; have HB := n2_; have BK167 := n3_; have GW167 := n4_; have GE167 := n5_; have NB165_167 := n6_; have NB167_165 := n7_; have NB166_167 := n8_; have NB167_166 := n9_; clear n0_ n1_ n2_ n3_ n4_ n5_ n6_ n7_ n8_ n9_; clear hb hbox hg))
 (try simp only [Act.put, List.setIfInBounds_toArray, List.set_cons_zero, List.set_cons_succ])
 go_cut [19] (fun v19 wc => ∃ (kq : Nat) (x19_3 : Bool) (x166001_3 : Int) (x166002_3 : Int) (x166003_3 : Int) (x166004_3 : Int) (x166005_3 : Bool), v19 = .bool x19_3 ∧ Aside0 (spec_DoMoves.j0 kq l2 x19_3 l0_0 x166001_3 x166002_3 x166003_3 x166004_3 x166005_3 a1_0 a1_1 a1_2 a1_3 = some (r1, r2, r3, r4, r5)) ∧ Aside0 (kq ≤ k) ∧ Aside0 (wc.heap[gb165]? = some (.cells #[(.slice A0_0 l0_0.length c0_0), .int .i16 x166001_3, .int .i16 x166002_3, .int .i16 x166003_3, .int .i16 x166004_3, .bool x166005_3] 32 (0, 0))) ∧ Aside0 (wc.heap[gb166]? = some (.cells #[.int .i16 a1_0, .int .i16 a1_1, .int .i16 a1_2, .int .i16 a1_3] 30 (0, 0))) ∧ Aside0 (wc.heap[gb167]? = some (.cells #[.int .i16 0, .int .i16 0, .int .i16 0, .int .i16 0] 30 (0, 0))) ∧ Aside0 (Below w.heap.size w wc))
 case first =>
  have H := HC4.out
  clear HC4
  replace H := Option.bind_eq_some_iff.mp H
  obtain ⟨t168, A80, H⟩ := H
  replace H : (if t168 = true then ((spec_l02Water.f k l0_0 a1_0 a1_1 a1_2 a1_3).bind fun t169 => (spec_DoMoves.j0 k l2 (!t169) l0_0 a0_1 a0_2 a0_3 a0_4 a0_5 a1_0 a1_1 a1_2 a1_3)) else (spec_DoMoves.j0 k l2 true l0_0 a0_1 a0_2 a0_3 a0_4 a0_5 a1_0 a1_1 a1_2 a1_3)) = some (r1, r2, r3, r4, r5) := H
  have A8 := Aside0.mk A80
  clear A80
  by_cases c9 : t168 = true
  ·subst c9
   have H1 : ((spec_l02Water.f k l0_0 a1_0 a1_1 a1_2 a1_3).bind fun t169 => (spec_DoMoves.j0 k l2 (!t169) l0_0 a0_1 a0_2 a0_3 a0_4 a0_5 a1_0 a1_1 a1_2 a1_3)) = some (r1, r2, r3, r4, r5) := by rw [if_pos rfl] at H; exact H
   clear H
   have H := H1
   clear H1
   replace H := Option.bind_eq_some_iff.mp H
   obtain ⟨t169, A100, H⟩ := H
   replace H : (spec_DoMoves.j0 k l2 (!t169) l0_0 a0_1 a0_2 a0_3 a0_4 a0_5 a1_0 a1_1 a1_2 a1_3) = some (r1, r2, r3, r4, r5) := H
   have A10 := Aside0.mk A100
   clear A100
   have H' := Aside0.mk H
   clear H
   go_wp2_with (first | ((with_reducible refine gate_callee (f := 68) rfl ?_); refine goesL_ (some 11) rfl rfl Try.func68 (by kernel_rfl) rfl #[.pointer (some ⟨gb165, 0, none⟩)] rfl arg_ ?_; (with_reducible refine (spec_l02Ok.calls k gb165 A0_0 c0_0 l0_0 a0_1 a0_2 a0_3 a0_4 a0_5 true _ ?side1 ?side2 ?side3 A8.out).mono ?_); (case side1 => exact (pl_ BK165)); (case side2 => repeat (first | exact (Kd.C_below HR0_0.out HB.out) | (with_reducible refine Kd.C_alloc ?_ _) | (with_reducible refine Kd.C_drewN ?_ _) | (with_reducible refine Kd.C_drew ?_))); (case side3 => exact HC0_0.out); rintro e w11 ⟨rfl, hb⟩; refine ⟨_, rfl, ?_⟩; have n0_ := A_ (blk_below (pl_ BK165) hb); have n1_ := A_ (blk_below (pl_ BK166) hb); have n2_ := A_ (blk_below (pl_ BK167) hb); have n3_ := A_ (below_step (bl_ HB) hb); clear BK165; clear BK166; clear BK167; clear HB; have BK165 := n0_; have BK166 := n1_; have BK167 := n2_; have HB := n3_; clear n0_ n1_ n2_ n3_; (try clear hb); (try clear hb2); (try clear hk); (try clear hi); have hnb12 := NB165_166.out; have hnc12 := NB166_165.out; have hnb13 := NB165_167.out; have hnc13 := NB167_165.out; have hcz14_0 : w11.cell? ⟨gb165, 0, none⟩ = some (.slice A0_0 l0_0.length c0_0) := (blk_cell BK165.out 0).trans rfl; have hcz14_1 : w11.cell? ⟨gb165, 1, none⟩ = some (.int .i16 a0_1) := (blk_cell BK165.out 1).trans rfl; have hcz14_2 : w11.cell? ⟨gb165, 2, none⟩ = some (.int .i16 a0_2) := (blk_cell BK165.out 2).trans rfl; have hcz14_3 : w11.cell? ⟨gb165, 3, none⟩ = some (.int .i16 a0_3) := (blk_cell BK165.out 3).trans rfl; have hcz14_4 : w11.cell? ⟨gb165, 4, none⟩ = some (.int .i16 a0_4) := (blk_cell BK165.out 4).trans rfl; have hcz14_5 : w11.cell? ⟨gb165, 5, none⟩ = some (.bool a0_5) := (blk_cell BK165.out 5).trans rfl; have hfz14_0 := blk_frozen BK165.out 0; have hfz14_1 := blk_frozen BK165.out 1; have hfz14_2 := blk_frozen BK165.out 2; have hfz14_3 := blk_frozen BK165.out 3; have hfz14_4 := blk_frozen BK165.out 4; have hfz14_5 := blk_frozen BK165.out 5; have hnb15 := NB166_167.out; have hnc15 := NB167_166.out; have hcz16_0 : w11.cell? ⟨gb166, 0, none⟩ = some (.int .i16 a1_0) := (blk_cell BK166.out 0).trans rfl; have hcz16_1 : w11.cell? ⟨gb166, 1, none⟩ = some (.int .i16 a1_1) := (blk_cell BK166.out 1).trans rfl; have hcz16_2 : w11.cell? ⟨gb166, 2, none⟩ = some (.int .i16 a1_2) := (blk_cell BK166.out 2).trans rfl; have hcz16_3 : w11.cell? ⟨gb166, 3, none⟩ = some (.int .i16 a1_3) := (blk_cell BK166.out 3).trans rfl; have hfz16_0 := blk_frozen BK166.out 0; have hfz16_1 := blk_frozen BK166.out 1; have hfz16_2 := blk_frozen BK166.out 2; have hfz16_3 := blk_frozen BK166.out 3) | (go_at_call 73; (with_reducible refine (spec_l02Water.calls k _ _ l0_0 a1_0 a1_1 a1_2 a1_3 t169 _ ?side1 ?side2 A10.out).mono ?_); (case side1 => repeat (first | exact (Kd.C_below HR0_0.out HB.out) | (with_reducible refine Kd.C_alloc ?_ _) | (with_reducible refine Kd.C_drewN ?_ _) | (with_reducible refine Kd.C_drew ?_))); (case side2 => exact HC0_0.out); rintro e w17 ⟨rfl, hb⟩; have n0_ := A_ (blk_below (pl_ BK165) hb); have n1_ := A_ (blk_below (pl_ BK166) hb); have n2_ := A_ (blk_below (pl_ BK167) hb); have n3_ := A_ (below_step (bl_ HB) hb); clear BK165; clear BK166; clear BK167; clear HB; have BK165 := n0_; have BK166 := n1_; have BK167 := n2_; have HB := n3_; clear n0_ n1_ n2_ n3_; (try clear hb); (try clear hb2); (try clear hk); (try clear hi)))
   go_meet
   case rel => exact ⟨_, (!t169), (a0_1), (a0_2), (a0_3), (a0_4), (a0_5), rs_, H', ⟨by first | omega | exact Nat.le_refl _⟩, ⟨pl_ BK165⟩, ⟨pl_ BK166⟩, ⟨pl_ BK167⟩, ⟨bl_ HB⟩⟩
  ·replace c9 := Bool.eq_false_iff.mpr c9
   subst c9
   have H1 : (spec_DoMoves.j0 k l2 true l0_0 a0_1 a0_2 a0_3 a0_4 a0_5 a1_0 a1_1 a1_2 a1_3) = some (r1, r2, r3, r4, r5) := by rw [if_neg (show ¬ (false = true) by decide)] at H; exact H
   clear H
   have H := H1
   clear H1
   have H' := Aside0.mk H
   clear H
   go_wp2_with (first | ((with_reducible refine gate_callee (f := 68) rfl ?_); refine goesL_ (some 11) rfl rfl Try.func68 (by kernel_rfl) rfl #[.pointer (some ⟨gb165, 0, none⟩)] rfl arg_ ?_; (with_reducible refine (spec_l02Ok.calls k gb165 A0_0 c0_0 l0_0 a0_1 a0_2 a0_3 a0_4 a0_5 false _ ?side1 ?side2 ?side3 A8.out).mono ?_); (case side1 => exact (pl_ BK165)); (case side2 => repeat (first | exact (Kd.C_below HR0_0.out HB.out) | (with_reducible refine Kd.C_alloc ?_ _) | (with_reducible refine Kd.C_drewN ?_ _) | (with_reducible refine Kd.C_drew ?_))); (case side3 => exact HC0_0.out); rintro e w18 ⟨rfl, hb⟩; refine ⟨_, rfl, ?_⟩; have n0_ := A_ (blk_below (pl_ BK165) hb); have n1_ := A_ (blk_below (pl_ BK166) hb); have n2_ := A_ (blk_below (pl_ BK167) hb); have n3_ := A_ (below_step (bl_ HB) hb); clear BK165; clear BK166; clear BK167; clear HB; have BK165 := n0_; have BK166 := n1_; have BK167 := n2_; have HB := n3_; clear n0_ n1_ n2_ n3_; (try clear hb); (try clear hb2); (try clear hk); (try clear hi)))
   go_meet
   case rel => exact ⟨_, (true), (a0_1), (a0_2), (a0_3), (a0_4), (a0_5), rs_, H', ⟨by first | omega | exact Nat.le_refl _⟩, ⟨pl_ BK165⟩, ⟨pl_ BK166⟩, ⟨pl_ BK167⟩, ⟨bl_ HB⟩⟩
 case rest =>
  clear HC4
  try clear c1
  try clear c2
  try clear p2
  try clear c4
  try clear c6
  try clear c9
  try clear c12
  try clear c13
  try clear c15
  try clear hcz14_0
  try clear hcz14_1
  try clear hcz14_2
  try clear hcz14_3
  try clear hcz14_4
  try clear hcz14_5
  try clear hcz16_0
  try clear hcz16_1
  try clear hcz16_2
  try clear hcz16_3
  try clear hfz14_0
  try clear hfz14_1
  try clear hfz14_2
  try clear hfz14_3
  try clear hfz14_4
  try clear hfz14_5
  try clear hfz16_0
  try clear hfz16_1
  try clear hfz16_2
  try clear hfz16_3
  obtain ⟨kq, x19_3, x166001_3, x166002_3, x166003_3, x166004_3, x166005_3, rfl, HA, HJ3, BK165, BK166, BK167, HB⟩ := hcut
  cases kq with
  | zero => exact absurd HA.out (by simp [spec_DoMoves.j0])
  | succ kj3 =>
   have H := HA.out
   clear HA
   simp only [spec_DoMoves.j0] at H
   by_cases c19 : x19_3 = true
   ·subst c19
    have H1 : (some (0, 0, 0, 0, 1)) = some (r1, r2, r3, r4, r5) := by rw [if_pos rfl] at H; exact H
    clear H
    have H := H1
    clear H1
    simp only [Option.some.injEq, Prod.mk.injEq] at H
    obtain ⟨rfl, rfl, rfl, rfl, rfl⟩ := H
    have hnb20 := NB167_165.out
    have hnc20 := NB165_167.out
    have hnb21 := NB167_166.out
    have hnc21 := NB166_167.out
    have hcz22_0 : wc.cell? ⟨gb167, 0, none⟩ = some (.int .i16 0) := (blk_cell BK167.out 0).trans rfl
    have hcz22_1 : wc.cell? ⟨gb167, 1, none⟩ = some (.int .i16 0) := (blk_cell BK167.out 1).trans rfl
    have hcz22_2 : wc.cell? ⟨gb167, 2, none⟩ = some (.int .i16 0) := (blk_cell BK167.out 2).trans rfl
    have hcz22_3 : wc.cell? ⟨gb167, 3, none⟩ = some (.int .i16 0) := (blk_cell BK167.out 3).trans rfl
    have hfz22_0 := blk_frozen BK167.out 0
    have hfz22_1 := blk_frozen BK167.out 1
    have hfz22_2 := blk_frozen BK167.out 2
    have hfz22_3 := blk_frozen BK167.out 3
    go_wp2
    refine bodyPost_ret (results_ct rfl _ _ gb167 30 #[.int .i16 0, .int .i16 0, .int .i16 0, .int .i16 0] (0, 0) _ rfl (by (with_reducible repeat (first | refine blk_drewN ?_ _ | refine blk_drew ?_ | refine blk_alloc ?_ _)); refine blk_put (cs := #[.int .i16 0, .int .i16 0, .int .i16 0, .int .i16 0]) ?_ 3 _ rfl; (with_reducible repeat (first | refine blk_drewN ?_ _ | refine blk_drew ?_ | refine blk_alloc ?_ _)); refine blk_put (cs := #[.int .i16 0, .int .i16 0, .int .i16 0, .int .i16 0]) ?_ 2 _ rfl; (with_reducible repeat (first | refine blk_drewN ?_ _ | refine blk_drew ?_ | refine blk_alloc ?_ _)); refine blk_put (cs := #[.int .i16 0, .int .i16 0, .int .i16 0, .int .i16 0]) ?_ 1 _ rfl; (with_reducible repeat (first | refine blk_drewN ?_ _ | refine blk_drew ?_ | refine blk_alloc ?_ _)); refine blk_put (cs := #[.int .i16 0, .int .i16 0, .int .i16 0, .int .i16 0]) ?_ 0 _ rfl; (with_reducible repeat (first | refine blk_drewN ?_ _ | refine blk_drew ?_ | refine blk_alloc ?_ _)); exact BK167.out) Try.underlying30 rfl (by kernel_rfl)) rfl ?_
    exact ⟨by first | rfl | (simp [errW_none, errW_some] <;> rfl) | (simp [*, errW_none, errW_some] <;> rfl), bs_ HB GE167⟩
   ·replace c19 := Bool.eq_false_iff.mpr c19
    subst c19
    have H1 : (if (l2.length : Int) > 200 then (some (0, 0, 0, 0, 3)) else (spec_DoMoves.l0 kj3 l2 0 l0_0 x166001_3 x166002_3 x166003_3 x166004_3 x166005_3 a1_0 a1_1 a1_2 a1_3)) = some (r1, r2, r3, r4, r5) := by rw [if_neg (show ¬ (false = true) by decide)] at H; exact H
    clear H
    have H := H1
    clear H1
    by_cases c23 : (l2.length : Int) > 200
    ·rw [if_pos c23] at H
     have c23b0 : decide (200 < (l2.length : Int)) = true := decide_eq_true c23
     have c23b1 : decide (200 < l2.length) = true := decide_eq_true (by omega)
     clear c23
     simp only [Option.some.injEq, Prod.mk.injEq] at H
     obtain ⟨rfl, rfl, rfl, rfl, rfl⟩ := H
     have hnb24 := NB167_165.out
     have hnc24 := NB165_167.out
     have hnb25 := NB167_166.out
     have hnc25 := NB166_167.out
     have hcz26_0 : wc.cell? ⟨gb167, 0, none⟩ = some (.int .i16 0) := (blk_cell BK167.out 0).trans rfl
     have hcz26_1 : wc.cell? ⟨gb167, 1, none⟩ = some (.int .i16 0) := (blk_cell BK167.out 1).trans rfl
     have hcz26_2 : wc.cell? ⟨gb167, 2, none⟩ = some (.int .i16 0) := (blk_cell BK167.out 2).trans rfl
     have hcz26_3 : wc.cell? ⟨gb167, 3, none⟩ = some (.int .i16 0) := (blk_cell BK167.out 3).trans rfl
     have hfz26_0 := blk_frozen BK167.out 0
     have hfz26_1 := blk_frozen BK167.out 1
     have hfz26_2 := blk_frozen BK167.out 2
     have hfz26_3 := blk_frozen BK167.out 3
     go_wp2
     refine bodyPost_ret (results_ct rfl _ _ gb167 30 #[.int .i16 0, .int .i16 0, .int .i16 0, .int .i16 0] (0, 0) _ rfl (by (with_reducible repeat (first | refine blk_drewN ?_ _ | refine blk_drew ?_ | refine blk_alloc ?_ _)); refine blk_put (cs := #[.int .i16 0, .int .i16 0, .int .i16 0, .int .i16 0]) ?_ 3 _ rfl; (with_reducible repeat (first | refine blk_drewN ?_ _ | refine blk_drew ?_ | refine blk_alloc ?_ _)); refine blk_put (cs := #[.int .i16 0, .int .i16 0, .int .i16 0, .int .i16 0]) ?_ 2 _ rfl; (with_reducible repeat (first | refine blk_drewN ?_ _ | refine blk_drew ?_ | refine blk_alloc ?_ _)); refine blk_put (cs := #[.int .i16 0, .int .i16 0, .int .i16 0, .int .i16 0]) ?_ 1 _ rfl; (with_reducible repeat (first | refine blk_drewN ?_ _ | refine blk_drew ?_ | refine blk_alloc ?_ _)); refine blk_put (cs := #[.int .i16 0, .int .i16 0, .int .i16 0, .int .i16 0]) ?_ 0 _ rfl; (with_reducible repeat (first | refine blk_drewN ?_ _ | refine blk_drew ?_ | refine blk_alloc ?_ _)); exact BK167.out) Try.underlying30 rfl (by kernel_rfl)) rfl ?_
     exact ⟨by first | rfl | (simp [errW_none, errW_some] <;> rfl) | (simp [*, errW_none, errW_some] <;> rfl), bs_ HB GE167⟩
    ·rw [if_neg c23] at H
     have c23b0 : decide (200 < (l2.length : Int)) = false := decide_eq_false c23
     have c23b1 : decide (200 < l2.length) = false := decide_eq_false (by omega)
     clear c23
     have H' := Aside0.mk H
     clear H
     go_wp2
     go_loopg [8] kj3 (fun kq v8 w' => ∃ (x8_2 : Int) (x166001_2 : Int) (x166002_2 : Int) (x166003_2 : Int) (x166004_2 : Int) (x166005_2 : Bool) (x167000_2 : Int) (x167001_2 : Int) (x167002_2 : Int) (x167003_2 : Int) (x168000_2 : Int) (x168001_2 : Int) (x168002_2 : Int) (x168003_2 : Int), v8 = .int .i64 x8_2 ∧ Aside0 (spec_DoMoves.l0 kq l2 x8_2 l0_0 x166001_2 x166002_2 x166003_2 x166004_2 x166005_2 x167000_2 x167001_2 x167002_2 x167003_2 = some (r1, r2, r3, r4, r5)) ∧ Aside0 (kq ≤ kj3) ∧ Aside0 (w'.heap[gb165]? = some (.cells #[(.slice A0_0 l0_0.length c0_0), .int .i16 x166001_2, .int .i16 x166002_2, .int .i16 x166003_2, .int .i16 x166004_2, .bool x166005_2] 32 (0, 0))) ∧ Aside0 (w'.heap[gb166]? = some (.cells #[.int .i16 x167000_2, .int .i16 x167001_2, .int .i16 x167002_2, .int .i16 x167003_2] 30 (0, 0))) ∧ Aside0 (w'.heap[gb167]? = some (.cells #[.int .i16 x168000_2, .int .i16 x168001_2, .int .i16 x168002_2, .int .i16 x168003_2] 30 (0, 0))) ∧ Aside0 (Below w.heap.size w w'))
     case atStart => exact ⟨(0), (x166001_3), (x166002_3), (x166003_3), (x166004_3), (x166005_3), (a1_0), (a1_1), (a1_2), (a1_3), (0), (0), (0), (0), rs_, H', ⟨Nat.le_refl _⟩, ⟨pl_ BK165⟩, ⟨pl_ BK166⟩, ⟨pl_ BK167⟩, ⟨bl_ HB⟩⟩
     case round =>
      clear H'
      try clear c1
      try clear c2
      try clear p2
      try clear c4
      try clear c6
      try clear c9
      try clear c12
      try clear c13
      try clear c15
      try clear c19
      try clear c20
      try clear c21
      try clear c23
      try clear c23b0
      try clear c23b1
      try clear c24
      try clear c25
      try clear hcz14_0
      try clear hcz14_1
      try clear hcz14_2
      try clear hcz14_3
      try clear hcz14_4
      try clear hcz14_5
      try clear hcz16_0
      try clear hcz16_1
      try clear hcz16_2
      try clear hcz16_3
      try clear hcz22_0
      try clear hcz22_1
      try clear hcz22_2
      try clear hcz22_3
      try clear hcz26_0
      try clear hcz26_1
      try clear hcz26_2
      try clear hcz26_3
      try clear hfz14_0
      try clear hfz14_1
      try clear hfz14_2
      try clear hfz14_3
      try clear hfz14_4
      try clear hfz14_5
      try clear hfz16_0
      try clear hfz16_1
      try clear hfz16_2
      try clear hfz16_3
      try clear hfz22_0
      try clear hfz22_1
      try clear hfz22_2
      try clear hfz22_3
      try clear hfz26_0
      try clear hfz26_1
      try clear hfz26_2
      try clear hfz26_3
      try clear p2
      obtain ⟨x8_2, x166001_2, x166002_2, x166003_2, x166004_2, x166005_2, x167000_2, x167001_2, x167002_2, x167003_2, x168000_2, x168001_2, x168002_2, x168003_2, rfl, HA, HK2, BK165, BK166, BK167, HB⟩ := hrel
      cases gk with
      | zero => exact absurd HA.out (by simp [spec_DoMoves.l0])
      | succ k2 =>
       have H := HA.out
       clear HA
       simp only [spec_DoMoves.l0] at H
       by_cases c27 : x8_2 < (l2.length : Int)
       ·rw [if_pos c27] at H
        have c27b0 : decide (x8_2 < (l2.length : Int)) = true := decide_eq_true c27
        clear c27
        by_cases c28 : 0 ≤ x8_2
        ·rw [if_pos c28] at H
         have c28b0 : decide (0 ≤ x8_2) = true := decide_eq_true c28
         clear c28
         replace H := Option.bind_eq_some_iff.mp H
         obtain ⟨⟨t171, t172, t173, t174, t175⟩, A290, H⟩ := H
         replace H : (if t175 = 0 then (spec_DoMoves.l0 k2 l2 (wrap64 (x8_2 + 1)) l0_0 x166001_2 x166002_2 x166003_2 x166004_2 x166005_2 t171 t172 t173 t174) else (some (0, 0, 0, 0, t175))) = some (r1, r2, r3, r4, r5) := H
         have A29 := Aside0.mk A290
         clear A290
         by_cases c30 : t175 = 0
         ·rw [if_pos c30] at H
          have c30b0 : (t175 == 0) = true := beq_iff_eq.mpr c30
          have c30b1 : (t175 != 0) = false := bne_eq_false_iff_eq.mpr c30
          clear c30
          have H' := Aside0.mk H
          clear H
          try go_wp2
          have n0_ := A_ (blk_drew BK165.out)
          have n1_ := A_ (blk_drew BK166.out)
          have n2_ := A_ (blk_drew BK167.out)
          have n3_ := A_ (below_drew1 HB.out)
          clear BK165
          clear BK166
          clear BK167
          clear HB
          have BK165 := n0_
          have BK166 := n1_
          have BK167 := n2_
          have HB := n3_
          clear n0_ n1_ n2_ n3_
          have p170 : 0 ≤ (x8_2 : Int) := asm_
          have q170 : x8_2 < (l2.length : Int) := asm_
          obtain ⟨ad170, e170, hx170_0, hx170_1, hx170_2⟩ := at_T60 HR2.out x8_2 p170 q170
          have hw170_2 := hx170_2
          have hw170_1 := hx170_1
          have hw170_0 := hx170_0
          cases e170
          (try replace hx170_0 := (HB.out.cell (World.block_lt_of_cell? w _ hx170_0)).trans hx170_0)
          (try replace hx170_1 := (HB.out.cell (World.block_lt_of_cell? w _ hx170_1)).trans hx170_1)
          (try replace hx170_2 := (HB.out.cell (World.block_lt_of_cell? w _ hx170_2)).trans hx170_2)
          replace p170 := eq_true p170
          replace q170 := eq_true q170
          refine start_ (n := 12) (S := fun w' => w'.cell? ⟨gb166, 0, none⟩ = some (.int .i16 x167000_2) ∧ w'.cell? ⟨gb166, 1, none⟩ = some (.int .i16 x167001_2) ∧ w'.cell? ⟨gb166, 2, none⟩ = some (.int .i16 x167002_2) ∧ w'.cell? ⟨gb166, 3, none⟩ = some (.int .i16 x167003_2) ∧ w'.cell? (ad170.add ((x8_2).toNat * 3)) = some (.int .i8 ((rd_T60 l2 x8_2).f0)) ∧ w'.cell? ⟨(ad170.add ((x8_2).toNat * 3)).block, (ad170.add ((x8_2).toNat * 3)).off + 1, none⟩ = some (.int .i8 ((rd_T60 l2 x8_2).f1)) ∧ w'.cell? ⟨(ad170.add ((x8_2).toNat * 3)).block, (ad170.add ((x8_2).toNat * 3)).off + 2, none⟩ = some (.int .i8 ((rd_T60 l2 x8_2).f2))) (ds := []) #[false, false, false, false, false, false, false, false, false, false, false, false] (by kernel_rfl) rfl rfl ⟨(blk_cell BK166.out 0).trans rfl, (blk_cell BK166.out 1).trans rfl, (blk_cell BK166.out 2).trans rfl, (blk_cell BK166.out 3).trans rfl, (by first | exact (HB.out.cell (World.block_lt_of_cell? w _ hw170_0)).trans hw170_0 | exact hw170_0), (by first | exact (HB.out.cell (World.block_lt_of_cell? w _ hw170_1)).trans hw170_1 | exact hw170_1), (by first | exact (HB.out.cell (World.block_lt_of_cell? w _ hw170_2)).trans hw170_2 | exact hw170_2)⟩ (fun hHeld => ?_); refine with_tabW spec_DoMoves.tab8 spec_DoMoves.bits8 (fun HT_ HW_ => ?_)
          generalize wr.drew = w31 at BK165 BK166 BK167 HB hx170_0 hx170_1 hx170_2 hHeld ⊢
          refine pure_ (i := 1) (N := some 33) (v := ?_) (a' := ?_) #[false, true, false, false, false, false, false, false, false, false, false, false] rfl rfl (any_of HT_.out (by kernel_rfl)) (fun _ _ _ h => h) (Or.inl ⟨by rfl, ?_⟩) ?_ ?_
          rotate_left
          ·intro w'
           go_simp
           with_reducible rfl
          rotate_left
          ·simp only [Act.put, List.setIfInBounds_toArray, List.set_cons_zero, List.set_cons_succ, i64_w, i32_w]
           rfl
          refine pure_ (i := 2) (N := some 34) (v := ?_) (a' := ?_) #[false, true, true, false, false, false, false, false, false, false, false, false] rfl rfl (any_of HT_.out (by kernel_rfl)) (fun _ _ _ h => h) (Or.inl ⟨by rfl, ?_⟩) ?_ ?_
          rotate_left
          ·intro w'
           go_simp
           with_reducible rfl
          rotate_left
          ·simp only [Act.put, List.setIfInBounds_toArray, List.set_cons_zero, List.set_cons_succ, i64_w, i32_w]
           rfl
          refine pure_ (i := 3) (N := some 35) (v := ?_) (a' := ?_) #[false, true, true, true, false, false, false, false, false, false, false, false] rfl rfl (any_of HT_.out (by kernel_rfl)) (fun _ _ _ h => h) (Or.inl ⟨by rfl, ?_⟩) ?_ ?_
          rotate_left
          ·intro w'
           go_simp
           with_reducible rfl
          rotate_left
          ·simp only [Act.put, List.setIfInBounds_toArray, List.set_cons_zero, List.set_cons_succ, i64_w, i32_w]
           rfl
          refine take_ (i := 0) (N := some 32) (v := ?_) (a' := ?_) #[true, true, true, true, false, false, false, false, false, false, false, false] rfl rfl (take_ofW HT_.out HW_.out (by kernel_rfl)) (fun _ _ _ h => h) (Or.inl ⟨by rfl, ?_⟩) hHeld ?_ ?_
          rotate_left
          ·rintro w' ⟨s0, s1, s2, s3, s4, s5, s6⟩
           go_simp
           with_reducible rfl
          rotate_left
          ·simp only [Act.put, List.setIfInBounds_toArray, List.set_cons_zero, List.set_cons_succ, i64_w, i32_w]
           rfl
          refine take_ (i := 4) (N := some 36) (v := ?_) (a' := ?_) #[true, true, true, true, true, false, false, false, false, false, false, false] rfl rfl (take_ofW HT_.out HW_.out (by kernel_rfl)) (fun _ _ _ h => h) (Or.inl ⟨by rfl, ?_⟩) hHeld ?_ ?_
          rotate_left
          ·rintro w' ⟨s0, s1, s2, s3, s4, s5, s6⟩
           go_simp
           with_reducible rfl
          rotate_left
          ·simp only [Act.put, List.setIfInBounds_toArray, List.set_cons_zero, List.set_cons_succ, i64_w, i32_w]
           rfl
          refine join_ (σ := Nat) 2 #[true, true, true, true, true, true, true, true, true, true, false, false] (fun s_ => [(37, .tuple #[.agg #[.int .i16 t171, .int .i16 t172, .int .i16 t173, .int .i16 t174], .int .i64 t175]), (9, .pointer (some ⟨s_, 0, none⟩)), (31, .tuple #[.agg #[.int .i16 t171, .int .i16 t172, .int .i16 t173, .int .i16 t174], .int .i64 t175]), (38, .agg #[.int .i16 t171, .int .i16 t172, .int .i16 t173, .int .i16 t174]), (39, .int .i64 t175)]) (fun s_ w' => (w'.cell? ⟨gb166, 0, none⟩ = some (.int .i16 x167000_2) ∧ w'.cell? ⟨gb166, 1, none⟩ = some (.int .i16 x167001_2) ∧ w'.cell? ⟨gb166, 2, none⟩ = some (.int .i16 x167002_2) ∧ w'.cell? ⟨gb166, 3, none⟩ = some (.int .i16 x167003_2) ∧ w'.cell? (ad170.add ((x8_2).toNat * 3)) = some (.int .i8 ((rd_T60 l2 x8_2).f0)) ∧ w'.cell? ⟨(ad170.add ((x8_2).toNat * 3)).block, (ad170.add ((x8_2).toNat * 3)).off + 1, none⟩ = some (.int .i8 ((rd_T60 l2 x8_2).f1)) ∧ w'.cell? ⟨(ad170.add ((x8_2).toNat * 3)).block, (ad170.add ((x8_2).toNat * 3)).off + 2, none⟩ = some (.int .i8 ((rd_T60 l2 x8_2).f2))) ∧ (w'.heap[gb165]? = some (.cells #[.slice A0_0 l0_0.length c0_0, .int .i16 x166001_2, .int .i16 x166002_2, .int .i16 x166003_2, .int .i16 x166004_2, .bool x166005_2] 32 (0, 0))) ∧ (w'.heap[gb166]? = some (.cells #[.int .i16 x167000_2, .int .i16 x167001_2, .int .i16 x167002_2, .int .i16 x167003_2] 30 (0, 0))) ∧ (w'.heap[gb167]? = some (.cells #[.int .i16 x168000_2, .int .i16 x168001_2, .int .i16 x168002_2, .int .i16 x168003_2] 30 (0, 0))) ∧ (w'.heap[s_]? = some (.cells #[.int .i16 0, .int .i16 0, .int .i16 0, .int .i16 0] 30 (0, 0))) ∧ (w.heap.size ≤ s_) ∧ (w.heap.size ≤ s_) ∧ (gb165 ≠ s_) ∧ (s_ ≠ gb165) ∧ (gb166 ≠ s_) ∧ (s_ ≠ gb166) ∧ (gb167 ≠ s_) ∧ (s_ ≠ gb167) ∧ (Below w.heap.size w w')) ?_ ?_
          rotate_left
          ·intro hCont
           refine two_ (i := 5) (j := 9) (Ni := some 37) (Nj := some 9) #[true, true, true, true, true, true, false, false, false, false, false, false] #[true, true, true, true, true, false, false, false, false, true, false, false] rfl rfl rfl rfl (two_of HT_.out (by kernel_rfl)) (by decide) (by decide) (fun K hK => ?_) (fun K hK => ?_)
           ·skip
            refine goes_ Try.func85 (by kernel_rfl) rfl #[.pointer (some ⟨gb165, 0, none⟩), .agg #[.int .i16 x167000_2, .int .i16 x167001_2, .int .i16 x167002_2, .int .i16 x167003_2], .agg #[.int .i8 ((rd_T60 l2 x8_2).f0), .int .i8 ((rd_T60 l2 x8_2).f1), .int .i8 ((rd_T60 l2 x8_2).f2)]] (by rfl) rfl rfl arg_ ?_
            with_reducible refine (spec_l02Move.calls k2 gb165 A0_0 c0_0 l0_0 x166001_2 x166002_2 x166003_2 x166004_2 x166005_2 x167000_2 x167001_2 x167002_2 x167003_2 ((rd_T60 l2 x8_2).f0) ((rd_T60 l2 x8_2).f1) ((rd_T60 l2 x8_2).f2) t171 t172 t173 t174 t175 _ ?side1 ?side2 ?side3 A29.out).mono ?_
            (case side1 => exact (pl_ BK165))
            (case side2 => repeat (first | exact (Kd.C_below HR0_0.out HB.out) | (with_reducible refine Kd.C_alloc ?_ _) | (with_reducible refine Kd.C_drewN ?_ _) | (with_reducible refine Kd.C_drew ?_)))
            (case side3 => exact HC0_0.out)
            rintro e w32 ⟨rfl, hb⟩
            refine ⟨_, rfl, ?_⟩
            have n0_ := A_ (blk_below (pl_ BK165) hb)
            have n1_ := A_ (blk_below (pl_ BK166) hb)
            have n2_ := A_ (blk_below (pl_ BK167) hb)
            have n3_ := A_ (below_step (bl_ HB) hb)
            clear BK165
            clear BK166
            clear BK167
            clear HB
            have BK165 := n0_
            have BK166 := n1_
            have BK167 := n2_
            have HB := n3_
            clear n0_ n1_ n2_ n3_
            (try clear hb)
            (try clear hb2)
            (try clear hk)
            (try clear hi)
            refine hK.out _ _ ⟨(blk_cell BK166.out 0).trans rfl, (blk_cell BK166.out 1).trans rfl, (blk_cell BK166.out 2).trans rfl, (blk_cell BK166.out 3).trans rfl, (by first | exact (HB.out.cell (World.block_lt_of_cell? w _ hw170_0)).trans hw170_0 | exact hw170_0), (by first | exact (HB.out.cell (World.block_lt_of_cell? w _ hw170_1)).trans hw170_1 | exact hw170_1), (by first | exact (HB.out.cell (World.block_lt_of_cell? w _ hw170_2)).trans hw170_2 | exact hw170_2)⟩ (fun hHeld => ?_)
            clear hK K
            refine norm_ (a' := ?_) ?_ ?_
            rotate_left
            ·show Act.put _ (some 37) _ = _
             simp only [Act.put, List.setIfInBounds_toArray, List.set_cons_zero, List.set_cons_succ, i64_w, i32_w]
             rfl
            refine pure_ (i := 6) (N := some 31) (v := ?_) (a' := ?_) #[true, true, true, true, true, true, true, false, false, false, false, false] rfl rfl (any_of HT_.out (by kernel_rfl)) (fun _ _ _ h => h) (Or.inl ⟨by rfl, ?_⟩) ?_ ?_
            rotate_left
            ·intro w'
             go_simp
             with_reducible rfl
            rotate_left
            ·simp only [Act.put, List.setIfInBounds_toArray, List.set_cons_zero, List.set_cons_succ, i64_w, i32_w]
             rfl
            refine pure_ (i := 7) (N := some 38) (v := ?_) (a' := ?_) #[true, true, true, true, true, true, true, true, false, false, false, false] rfl rfl (any_of HT_.out (by kernel_rfl)) (fun _ _ _ h => h) (Or.inl ⟨by rfl, ?_⟩) ?_ ?_
            rotate_left
            ·intro w'
             go_simp
             with_reducible rfl
            rotate_left
            ·simp only [Act.put, List.setIfInBounds_toArray, List.set_cons_zero, List.set_cons_succ, i64_w, i32_w]
             rfl
            refine pure_ (i := 8) (N := some 39) (v := ?_) (a' := ?_) #[true, true, true, true, true, true, true, true, true, false, false, false] rfl rfl (any_of HT_.out (by kernel_rfl)) (fun _ _ _ h => h) (Or.inl ⟨by rfl, ?_⟩) ?_ ?_
            rotate_left
            ·intro w'
             go_simp
             with_reducible rfl
            rotate_left
            ·simp only [Act.put, List.setIfInBounds_toArray, List.set_cons_zero, List.set_cons_succ, i64_w, i32_w]
             rfl
            refine one_ (i := 9) (N := some 9) #[true, true, true, true, true, true, true, true, true, true, false, false] rfl rfl (one_of HT_.out (by kernel_rfl)) (by decide) (fun K hK => ?_)
            refine box_step ?hg (N := 9) ?hd (cs := #[.int .i16 0, .int .i16 0, .int .i16 0, .int .i16 0]) (t := 30) ?hr ?_; (case hd => rfl); (case hg => rfl); (case hr => first | (go_simp; done) | (go_simp; rfl))
            intro gb176 hg w33 hbox hb
            have n0_ := A_ (blk_below (pl_ BK165) hb)
            have n1_ := A_ (blk_below (pl_ BK166) hb)
            have n2_ := A_ (blk_below (pl_ BK167) hb)
            have n3_ := A_ (below_step (bl_ HB) hb)
            have n4_ := A_ (hbox)
            have n5_ := A_ ((by rw [hg]; exact (below_size (bl_ HB)) : w.heap.size ≤ gb176))
            have n6_ := n5_
            have n7_ := A_ ((by rw [hg]; exact Nat.ne_of_lt (blk_lt (pl_ BK165)) : gb165 ≠ gb176))
            have n8_ := Aside0.mk n7_.out.symm
            have n9_ := A_ ((by rw [hg]; exact Nat.ne_of_lt (blk_lt (pl_ BK166)) : gb166 ≠ gb176))
            have n10_ := Aside0.mk n9_.out.symm
            have n11_ := A_ ((by rw [hg]; exact Nat.ne_of_lt (blk_lt (pl_ BK167)) : gb167 ≠ gb176))
            have n12_ := Aside0.mk n11_.out.symm
            clear BK165
            clear BK166
            clear BK167
            clear HB
            have BK165 := n0_
            have BK166 := n1_
            have BK167 := n2_
            have HB := n3_
            have BK176 := n4_
            have GW176 := n5_
            have GE176 := n6_
            have NB165_176 := n7_
            have NB176_165 := n8_
            have NB166_176 := n9_
            have NB176_166 := n10_
            have NB167_176 := n11_
            have NB176_167 := n12_
            clear n0_ n1_ n2_ n3_ n4_ n5_ n6_ n7_ n8_ n9_ n10_ n11_ n12_
            clear hb hbox hg
            refine hK.out _ _ ⟨(blk_cell BK166.out 0).trans rfl, (blk_cell BK166.out 1).trans rfl, (blk_cell BK166.out 2).trans rfl, (blk_cell BK166.out 3).trans rfl, (by first | exact (HB.out.cell (World.block_lt_of_cell? w _ hw170_0)).trans hw170_0 | exact hw170_0), (by first | exact (HB.out.cell (World.block_lt_of_cell? w _ hw170_1)).trans hw170_1 | exact hw170_1), (by first | exact (HB.out.cell (World.block_lt_of_cell? w _ hw170_2)).trans hw170_2 | exact hw170_2)⟩ (fun hHeld => ?_)
            clear hK K
            refine norm_ (a' := ?_) ?_ ?_
            rotate_left
            ·show Act.put _ (some 9) _ = _
             simp only [Act.put, List.setIfInBounds_toArray, List.set_cons_zero, List.set_cons_succ, i64_w, i32_w]
             rfl
            exact norm_ pa_ (hCont (gb176) _ ⟨hHeld, (pl_ BK165), (pl_ BK166), (pl_ BK167), (pl_ BK176), GW176.out, GE176.out, NB165_176.out, NB176_165.out, NB166_176.out, NB176_166.out, NB167_176.out, NB176_167.out, (bl_ HB)⟩)
           ·skip
            refine box_step ?hg (N := 9) ?hd (cs := #[.int .i16 0, .int .i16 0, .int .i16 0, .int .i16 0]) (t := 30) ?hr ?_; (case hd => rfl); (case hg => rfl); (case hr => first | (go_simp; done) | (go_simp; rfl))
            intro gb176 hg w32 hbox hb
            have n0_ := A_ (blk_below (pl_ BK165) hb)
            have n1_ := A_ (blk_below (pl_ BK166) hb)
            have n2_ := A_ (blk_below (pl_ BK167) hb)
            have n3_ := A_ (below_step (bl_ HB) hb)
            have n4_ := A_ (hbox)
            have n5_ := A_ ((by rw [hg]; exact (below_size (bl_ HB)) : w.heap.size ≤ gb176))
            have n6_ := n5_
            have n7_ := A_ ((by rw [hg]; exact Nat.ne_of_lt (blk_lt (pl_ BK165)) : gb165 ≠ gb176))
            have n8_ := Aside0.mk n7_.out.symm
            have n9_ := A_ ((by rw [hg]; exact Nat.ne_of_lt (blk_lt (pl_ BK166)) : gb166 ≠ gb176))
            have n10_ := Aside0.mk n9_.out.symm
            have n11_ := A_ ((by rw [hg]; exact Nat.ne_of_lt (blk_lt (pl_ BK167)) : gb167 ≠ gb176))
            have n12_ := Aside0.mk n11_.out.symm
            clear BK165
            clear BK166
            clear BK167
            clear HB
            have BK165 := n0_
            have BK166 := n1_
            have BK167 := n2_
            have HB := n3_
            have BK176 := n4_
            have GW176 := n5_
            have GE176 := n6_
            have NB165_176 := n7_
            have NB176_165 := n8_
            have NB166_176 := n9_
            have NB176_166 := n10_
            have NB167_176 := n11_
            have NB176_167 := n12_
            clear n0_ n1_ n2_ n3_ n4_ n5_ n6_ n7_ n8_ n9_ n10_ n11_ n12_
            clear hb hbox hg
            refine hK.out _ _ ⟨(blk_cell BK166.out 0).trans rfl, (blk_cell BK166.out 1).trans rfl, (blk_cell BK166.out 2).trans rfl, (blk_cell BK166.out 3).trans rfl, (by first | exact (HB.out.cell (World.block_lt_of_cell? w _ hw170_0)).trans hw170_0 | exact hw170_0), (by first | exact (HB.out.cell (World.block_lt_of_cell? w _ hw170_1)).trans hw170_1 | exact hw170_1), (by first | exact (HB.out.cell (World.block_lt_of_cell? w _ hw170_2)).trans hw170_2 | exact hw170_2)⟩ (fun hHeld => ?_)
            clear hK K
            refine norm_ (a' := ?_) ?_ ?_
            rotate_left
            ·show Act.put _ (some 9) _ = _
             simp only [Act.put, List.setIfInBounds_toArray, List.set_cons_zero, List.set_cons_succ, i64_w, i32_w]
             rfl
            refine one_ (i := 5) (N := some 37) #[true, true, true, true, true, true, false, false, false, true, false, false] rfl rfl (one_of HT_.out (by kernel_rfl)) (by decide) (fun K hK => ?_)
            refine goes_ Try.func85 (by kernel_rfl) rfl #[.pointer (some ⟨gb165, 0, none⟩), .agg #[.int .i16 x167000_2, .int .i16 x167001_2, .int .i16 x167002_2, .int .i16 x167003_2], .agg #[.int .i8 ((rd_T60 l2 x8_2).f0), .int .i8 ((rd_T60 l2 x8_2).f1), .int .i8 ((rd_T60 l2 x8_2).f2)]] (by rfl) rfl rfl arg_ ?_
            with_reducible refine (spec_l02Move.calls k2 gb165 A0_0 c0_0 l0_0 x166001_2 x166002_2 x166003_2 x166004_2 x166005_2 x167000_2 x167001_2 x167002_2 x167003_2 ((rd_T60 l2 x8_2).f0) ((rd_T60 l2 x8_2).f1) ((rd_T60 l2 x8_2).f2) t171 t172 t173 t174 t175 _ ?side1 ?side2 ?side3 A29.out).mono ?_
            (case side1 => exact (pl_ BK165))
            (case side2 => repeat (first | exact (Kd.C_below HR0_0.out HB.out) | (with_reducible refine Kd.C_alloc ?_ _) | (with_reducible refine Kd.C_drewN ?_ _) | (with_reducible refine Kd.C_drew ?_)))
            (case side3 => exact HC0_0.out)
            rintro e w33 ⟨rfl, hb⟩
            refine ⟨_, rfl, ?_⟩
            have n0_ := A_ (blk_below (pl_ BK165) hb)
            have n1_ := A_ (blk_below (pl_ BK166) hb)
            have n2_ := A_ (blk_below (pl_ BK167) hb)
            have n3_ := A_ (blk_below (pl_ BK176) hb)
            have n4_ := A_ (below_step (bl_ HB) hb)
            clear BK165
            clear BK166
            clear BK167
            clear BK176
            clear HB
            have BK165 := n0_
            have BK166 := n1_
            have BK167 := n2_
            have BK176 := n3_
            have HB := n4_
            clear n0_ n1_ n2_ n3_ n4_
            (try clear hb)
            (try clear hb2)
            (try clear hk)
            (try clear hi)
            refine hK.out _ _ ⟨(blk_cell BK166.out 0).trans rfl, (blk_cell BK166.out 1).trans rfl, (blk_cell BK166.out 2).trans rfl, (blk_cell BK166.out 3).trans rfl, (by first | exact (HB.out.cell (World.block_lt_of_cell? w _ hw170_0)).trans hw170_0 | exact hw170_0), (by first | exact (HB.out.cell (World.block_lt_of_cell? w _ hw170_1)).trans hw170_1 | exact hw170_1), (by first | exact (HB.out.cell (World.block_lt_of_cell? w _ hw170_2)).trans hw170_2 | exact hw170_2)⟩ (fun hHeld => ?_)
            clear hK K
            refine norm_ (a' := ?_) ?_ ?_
            rotate_left
            ·show Act.put _ (some 37) _ = _
             simp only [Act.put, List.setIfInBounds_toArray, List.set_cons_zero, List.set_cons_succ, i64_w, i32_w]
             rfl
            refine pure_ (i := 6) (N := some 31) (v := ?_) (a' := ?_) #[true, true, true, true, true, true, true, false, false, true, false, false] rfl rfl (any_of HT_.out (by kernel_rfl)) (fun _ _ _ h => h) (Or.inl ⟨by rfl, ?_⟩) ?_ ?_
            rotate_left
            ·intro w'
             go_simp
             with_reducible rfl
            rotate_left
            ·simp only [Act.put, List.setIfInBounds_toArray, List.set_cons_zero, List.set_cons_succ, i64_w, i32_w]
             rfl
            refine pure_ (i := 7) (N := some 38) (v := ?_) (a' := ?_) #[true, true, true, true, true, true, true, true, false, true, false, false] rfl rfl (any_of HT_.out (by kernel_rfl)) (fun _ _ _ h => h) (Or.inl ⟨by rfl, ?_⟩) ?_ ?_
            rotate_left
            ·intro w'
             go_simp
             with_reducible rfl
            rotate_left
            ·simp only [Act.put, List.setIfInBounds_toArray, List.set_cons_zero, List.set_cons_succ, i64_w, i32_w]
             rfl
            refine pure_ (i := 8) (N := some 39) (v := ?_) (a' := ?_) #[true, true, true, true, true, true, true, true, true, true, false, false] rfl rfl (any_of HT_.out (by kernel_rfl)) (fun _ _ _ h => h) (Or.inl ⟨by rfl, ?_⟩) ?_ ?_
            rotate_left
            ·intro w'
             go_simp
             with_reducible rfl
            rotate_left
            ·simp only [Act.put, List.setIfInBounds_toArray, List.set_cons_zero, List.set_cons_succ, i64_w, i32_w]
             rfl
            exact norm_ pa_ (hCont (gb176) _ ⟨hHeld, (pl_ BK165), (pl_ BK166), (pl_ BK167), (pl_ BK176), GW176.out, GE176.out, NB165_176.out, NB176_165.out, NB166_176.out, NB176_166.out, NB167_176.out, NB176_167.out, (bl_ HB)⟩)
          rintro gb176 w34 ⟨hS_, h0_, h1_, h2_, h3_, h4_, h5_, h6_, h7_, h8_, h9_, h10_, h11_, h12_⟩
          have n0_ : Aside0 (w34.heap[gb165]? = some (.cells #[.slice A0_0 l0_0.length c0_0, .int .i16 x166001_2, .int .i16 x166002_2, .int .i16 x166003_2, .int .i16 x166004_2, .bool x166005_2] 32 (0, 0))) := ⟨h0_⟩
          have n1_ : Aside0 (w34.heap[gb166]? = some (.cells #[.int .i16 x167000_2, .int .i16 x167001_2, .int .i16 x167002_2, .int .i16 x167003_2] 30 (0, 0))) := ⟨h1_⟩
          have n2_ : Aside0 (w34.heap[gb167]? = some (.cells #[.int .i16 x168000_2, .int .i16 x168001_2, .int .i16 x168002_2, .int .i16 x168003_2] 30 (0, 0))) := ⟨h2_⟩
          have n3_ : Aside0 (w34.heap[gb176]? = some (.cells #[.int .i16 0, .int .i16 0, .int .i16 0, .int .i16 0] 30 (0, 0))) := ⟨h3_⟩
          have n4_ : Aside0 (w.heap.size ≤ gb176) := ⟨h4_⟩
          have n5_ : Aside0 (w.heap.size ≤ gb176) := ⟨h5_⟩
          have n6_ : Aside0 (gb165 ≠ gb176) := ⟨h6_⟩
          have n7_ : Aside0 (gb176 ≠ gb165) := ⟨h7_⟩
          have n8_ : Aside0 (gb166 ≠ gb176) := ⟨h8_⟩
          have n9_ : Aside0 (gb176 ≠ gb166) := ⟨h9_⟩
          have n10_ : Aside0 (gb167 ≠ gb176) := ⟨h10_⟩
          have n11_ : Aside0 (gb176 ≠ gb167) := ⟨h11_⟩
          have n12_ : Aside0 (Below w.heap.size w w34) := ⟨h12_⟩
          clear BK165
          clear BK166
          clear BK167
          clear HB
          clear h0_ h1_ h2_ h3_ h4_ h5_ h6_ h7_ h8_ h9_ h10_ h11_ h12_
          have BK165 := n0_
          have BK166 := n1_
          have BK167 := n2_
          have BK176 := n3_
          have GW176 := n4_
          have GE176 := n5_
          have NB165_176 := n6_
          have NB176_165 := n7_
          have NB166_176 := n8_
          have NB176_166 := n9_
          have NB167_176 := n10_
          have NB176_167 := n11_
          have HB := n12_
          clear n0_ n1_ n2_ n3_ n4_ n5_ n6_ n7_ n8_ n9_ n10_ n11_ n12_
          have hHeld : w34.cell? ⟨gb166, 0, none⟩ = some (.int .i16 x167000_2) ∧ w34.cell? ⟨gb166, 1, none⟩ = some (.int .i16 x167001_2) ∧ w34.cell? ⟨gb166, 2, none⟩ = some (.int .i16 x167002_2) ∧ w34.cell? ⟨gb166, 3, none⟩ = some (.int .i16 x167003_2) ∧ w34.cell? (ad170.add ((x8_2).toNat * 3)) = some (.int .i8 ((rd_T60 l2 x8_2).f0)) ∧ w34.cell? ⟨(ad170.add ((x8_2).toNat * 3)).block, (ad170.add ((x8_2).toNat * 3)).off + 1, none⟩ = some (.int .i8 ((rd_T60 l2 x8_2).f1)) ∧ w34.cell? ⟨(ad170.add ((x8_2).toNat * 3)).block, (ad170.add ((x8_2).toNat * 3)).off + 2, none⟩ = some (.int .i8 ((rd_T60 l2 x8_2).f2)) := hS_
          refine norm_ (a' := ?_) ?_ ?_
          rotate_left
          ·simp only [putAll, Act.put, List.setIfInBounds_toArray, List.set_cons_zero, List.set_cons_succ]
           rfl
          refine one_ (i := 10) (N := none) #[true, true, true, true, true, true, true, true, true, true, true, false] rfl rfl (one_of HT_.out (by kernel_rfl)) (by decide) (fun K hK => ?_)
          have hs35 : w34.cell? ⟨gb176, 0, none⟩ = some (.int .i16 0) := (blk_cell BK176.out 0).trans rfl
          have hfs35 := blk_frozen BK176.out 0
          have hns35_0 := NB165_176.out
          have hns35_1 := NB166_176.out
          have hns35_2 := NB167_176.out
          have hms35_0 := NB176_165.out
          have hms35_1 := NB176_166.out
          have hms35_2 := NB176_167.out
          have hs36 : w34.cell? ⟨gb176, 1, none⟩ = some (.int .i16 0) := (blk_cell BK176.out 1).trans rfl
          have hfs36 := blk_frozen BK176.out 1
          have hns36_0 := NB165_176.out
          have hns36_1 := NB166_176.out
          have hns36_2 := NB167_176.out
          have hms36_0 := NB176_165.out
          have hms36_1 := NB176_166.out
          have hms36_2 := NB176_167.out
          have hs37 : w34.cell? ⟨gb176, 2, none⟩ = some (.int .i16 0) := (blk_cell BK176.out 2).trans rfl
          have hfs37 := blk_frozen BK176.out 2
          have hns37_0 := NB165_176.out
          have hns37_1 := NB166_176.out
          have hns37_2 := NB167_176.out
          have hms37_0 := NB176_165.out
          have hms37_1 := NB176_166.out
          have hms37_2 := NB176_167.out
          have hs38 : w34.cell? ⟨gb176, 3, none⟩ = some (.int .i16 0) := (blk_cell BK176.out 3).trans rfl
          have hfs38 := blk_frozen BK176.out 3
          have hns38_0 := NB165_176.out
          have hns38_1 := NB166_176.out
          have hns38_2 := NB167_176.out
          have hms38_0 := NB176_165.out
          have hms38_1 := NB176_166.out
          have hms38_2 := NB176_167.out
          refine skip_ (w1 := ?_) (by rfl) rfl ?_ ?_
          rotate_left
          ·go_simp
           rfl
          refine hK.out _ _ ⟨((cell_far (p := ⟨gb176, _, none⟩) NB166_176.out _).trans ((cf3_ NB166_176 (hHeld.1)))), ((cell_far (p := ⟨gb176, _, none⟩) NB166_176.out _).trans ((cf3_ NB166_176 (hHeld.2.1)))), ((cell_far (p := ⟨gb176, _, none⟩) NB166_176.out _).trans ((cf3_ NB166_176 (hHeld.2.2.1)))), ((cell_far (p := ⟨gb176, _, none⟩) NB166_176.out _).trans ((cf3_ NB166_176 (hHeld.2.2.2.1)))), ((cell_far (p := ⟨gb176, _, none⟩) (by first | exact Nat.ne_of_lt (Nat.lt_of_lt_of_le (by have := World.block_lt_of_cell? _ _ hw170_0; first | rwa [add_block] at this | exact this) GW176.out) | (rw [add_block]; exact Nat.ne_of_lt (Nat.lt_of_lt_of_le (by have := World.block_lt_of_cell? _ _ hw170_0; first | rwa [add_block] at this | exact this) GW176.out)) | (show (Addr.add _ _).block ≠ _; rw [add_block]; exact Nat.ne_of_lt (Nat.lt_of_lt_of_le (by have := World.block_lt_of_cell? _ _ hw170_0; first | rwa [add_block] at this | exact this) GW176.out)) | (dsimp only; exact Nat.ne_of_lt (Nat.lt_of_lt_of_le (by have := World.block_lt_of_cell? _ _ hw170_0; first | rwa [add_block] at this | exact this) GW176.out))) _).trans (((cell_far (p := ⟨gb176, _, none⟩) (by first | exact Nat.ne_of_lt (Nat.lt_of_lt_of_le (by have := World.block_lt_of_cell? _ _ hw170_0; first | rwa [add_block] at this | exact this) GW176.out) | (rw [add_block]; exact Nat.ne_of_lt (Nat.lt_of_lt_of_le (by have := World.block_lt_of_cell? _ _ hw170_0; first | rwa [add_block] at this | exact this) GW176.out)) | (show (Addr.add _ _).block ≠ _; rw [add_block]; exact Nat.ne_of_lt (Nat.lt_of_lt_of_le (by have := World.block_lt_of_cell? _ _ hw170_0; first | rwa [add_block] at this | exact this) GW176.out)) | (dsimp only; exact Nat.ne_of_lt (Nat.lt_of_lt_of_le (by have := World.block_lt_of_cell? _ _ hw170_0; first | rwa [add_block] at this | exact this) GW176.out))) _).trans (((cell_far (p := ⟨gb176, _, none⟩) (by first | exact Nat.ne_of_lt (Nat.lt_of_lt_of_le (by have := World.block_lt_of_cell? _ _ hw170_0; first | rwa [add_block] at this | exact this) GW176.out) | (rw [add_block]; exact Nat.ne_of_lt (Nat.lt_of_lt_of_le (by have := World.block_lt_of_cell? _ _ hw170_0; first | rwa [add_block] at this | exact this) GW176.out)) | (show (Addr.add _ _).block ≠ _; rw [add_block]; exact Nat.ne_of_lt (Nat.lt_of_lt_of_le (by have := World.block_lt_of_cell? _ _ hw170_0; first | rwa [add_block] at this | exact this) GW176.out)) | (dsimp only; exact Nat.ne_of_lt (Nat.lt_of_lt_of_le (by have := World.block_lt_of_cell? _ _ hw170_0; first | rwa [add_block] at this | exact this) GW176.out))) _).trans (((cell_far (p := ⟨gb176, _, none⟩) (by first | exact Nat.ne_of_lt (Nat.lt_of_lt_of_le (by have := World.block_lt_of_cell? _ _ hw170_0; first | rwa [add_block] at this | exact this) GW176.out) | (rw [add_block]; exact Nat.ne_of_lt (Nat.lt_of_lt_of_le (by have := World.block_lt_of_cell? _ _ hw170_0; first | rwa [add_block] at this | exact this) GW176.out)) | (show (Addr.add _ _).block ≠ _; rw [add_block]; exact Nat.ne_of_lt (Nat.lt_of_lt_of_le (by have := World.block_lt_of_cell? _ _ hw170_0; first | rwa [add_block] at this | exact this) GW176.out)) | (dsimp only; exact Nat.ne_of_lt (Nat.lt_of_lt_of_le (by have := World.block_lt_of_cell? _ _ hw170_0; first | rwa [add_block] at this | exact this) GW176.out))) _).trans (hHeld.2.2.2.2.1)))))))), ((cell_far (p := ⟨gb176, _, none⟩) (by first | exact Nat.ne_of_lt (Nat.lt_of_lt_of_le (by have := World.block_lt_of_cell? _ _ hw170_1; first | rwa [add_block] at this | exact this) GW176.out) | (rw [add_block]; exact Nat.ne_of_lt (Nat.lt_of_lt_of_le (by have := World.block_lt_of_cell? _ _ hw170_1; first | rwa [add_block] at this | exact this) GW176.out)) | (show (Addr.add _ _).block ≠ _; rw [add_block]; exact Nat.ne_of_lt (Nat.lt_of_lt_of_le (by have := World.block_lt_of_cell? _ _ hw170_1; first | rwa [add_block] at this | exact this) GW176.out)) | (dsimp only; exact Nat.ne_of_lt (Nat.lt_of_lt_of_le (by have := World.block_lt_of_cell? _ _ hw170_1; first | rwa [add_block] at this | exact this) GW176.out))) _).trans (((cell_far (p := ⟨gb176, _, none⟩) (by first | exact Nat.ne_of_lt (Nat.lt_of_lt_of_le (by have := World.block_lt_of_cell? _ _ hw170_1; first | rwa [add_block] at this | exact this) GW176.out) | (rw [add_block]; exact Nat.ne_of_lt (Nat.lt_of_lt_of_le (by have := World.block_lt_of_cell? _ _ hw170_1; first | rwa [add_block] at this | exact this) GW176.out)) | (show (Addr.add _ _).block ≠ _; rw [add_block]; exact Nat.ne_of_lt (Nat.lt_of_lt_of_le (by have := World.block_lt_of_cell? _ _ hw170_1; first | rwa [add_block] at this | exact this) GW176.out)) | (dsimp only; exact Nat.ne_of_lt (Nat.lt_of_lt_of_le (by have := World.block_lt_of_cell? _ _ hw170_1; first | rwa [add_block] at this | exact this) GW176.out))) _).trans (((cell_far (p := ⟨gb176, _, none⟩) (by first | exact Nat.ne_of_lt (Nat.lt_of_lt_of_le (by have := World.block_lt_of_cell? _ _ hw170_1; first | rwa [add_block] at this | exact this) GW176.out) | (rw [add_block]; exact Nat.ne_of_lt (Nat.lt_of_lt_of_le (by have := World.block_lt_of_cell? _ _ hw170_1; first | rwa [add_block] at this | exact this) GW176.out)) | (show (Addr.add _ _).block ≠ _; rw [add_block]; exact Nat.ne_of_lt (Nat.lt_of_lt_of_le (by have := World.block_lt_of_cell? _ _ hw170_1; first | rwa [add_block] at this | exact this) GW176.out)) | (dsimp only; exact Nat.ne_of_lt (Nat.lt_of_lt_of_le (by have := World.block_lt_of_cell? _ _ hw170_1; first | rwa [add_block] at this | exact this) GW176.out))) _).trans (((cell_far (p := ⟨gb176, _, none⟩) (by first | exact Nat.ne_of_lt (Nat.lt_of_lt_of_le (by have := World.block_lt_of_cell? _ _ hw170_1; first | rwa [add_block] at this | exact this) GW176.out) | (rw [add_block]; exact Nat.ne_of_lt (Nat.lt_of_lt_of_le (by have := World.block_lt_of_cell? _ _ hw170_1; first | rwa [add_block] at this | exact this) GW176.out)) | (show (Addr.add _ _).block ≠ _; rw [add_block]; exact Nat.ne_of_lt (Nat.lt_of_lt_of_le (by have := World.block_lt_of_cell? _ _ hw170_1; first | rwa [add_block] at this | exact this) GW176.out)) | (dsimp only; exact Nat.ne_of_lt (Nat.lt_of_lt_of_le (by have := World.block_lt_of_cell? _ _ hw170_1; first | rwa [add_block] at this | exact this) GW176.out))) _).trans (hHeld.2.2.2.2.2.1)))))))), ((cell_far (p := ⟨gb176, _, none⟩) (by first | exact Nat.ne_of_lt (Nat.lt_of_lt_of_le (by have := World.block_lt_of_cell? _ _ hw170_2; first | rwa [add_block] at this | exact this) GW176.out) | (rw [add_block]; exact Nat.ne_of_lt (Nat.lt_of_lt_of_le (by have := World.block_lt_of_cell? _ _ hw170_2; first | rwa [add_block] at this | exact this) GW176.out)) | (show (Addr.add _ _).block ≠ _; rw [add_block]; exact Nat.ne_of_lt (Nat.lt_of_lt_of_le (by have := World.block_lt_of_cell? _ _ hw170_2; first | rwa [add_block] at this | exact this) GW176.out)) | (dsimp only; exact Nat.ne_of_lt (Nat.lt_of_lt_of_le (by have := World.block_lt_of_cell? _ _ hw170_2; first | rwa [add_block] at this | exact this) GW176.out))) _).trans (((cell_far (p := ⟨gb176, _, none⟩) (by first | exact Nat.ne_of_lt (Nat.lt_of_lt_of_le (by have := World.block_lt_of_cell? _ _ hw170_2; first | rwa [add_block] at this | exact this) GW176.out) | (rw [add_block]; exact Nat.ne_of_lt (Nat.lt_of_lt_of_le (by have := World.block_lt_of_cell? _ _ hw170_2; first | rwa [add_block] at this | exact this) GW176.out)) | (show (Addr.add _ _).block ≠ _; rw [add_block]; exact Nat.ne_of_lt (Nat.lt_of_lt_of_le (by have := World.block_lt_of_cell? _ _ hw170_2; first | rwa [add_block] at this | exact this) GW176.out)) | (dsimp only; exact Nat.ne_of_lt (Nat.lt_of_lt_of_le (by have := World.block_lt_of_cell? _ _ hw170_2; first | rwa [add_block] at this | exact this) GW176.out))) _).trans (((cell_far (p := ⟨gb176, _, none⟩) (by first | exact Nat.ne_of_lt (Nat.lt_of_lt_of_le (by have := World.block_lt_of_cell? _ _ hw170_2; first | rwa [add_block] at this | exact this) GW176.out) | (rw [add_block]; exact Nat.ne_of_lt (Nat.lt_of_lt_of_le (by have := World.block_lt_of_cell? _ _ hw170_2; first | rwa [add_block] at this | exact this) GW176.out)) | (show (Addr.add _ _).block ≠ _; rw [add_block]; exact Nat.ne_of_lt (Nat.lt_of_lt_of_le (by have := World.block_lt_of_cell? _ _ hw170_2; first | rwa [add_block] at this | exact this) GW176.out)) | (dsimp only; exact Nat.ne_of_lt (Nat.lt_of_lt_of_le (by have := World.block_lt_of_cell? _ _ hw170_2; first | rwa [add_block] at this | exact this) GW176.out))) _).trans (((cell_far (p := ⟨gb176, _, none⟩) (by first | exact Nat.ne_of_lt (Nat.lt_of_lt_of_le (by have := World.block_lt_of_cell? _ _ hw170_2; first | rwa [add_block] at this | exact this) GW176.out) | (rw [add_block]; exact Nat.ne_of_lt (Nat.lt_of_lt_of_le (by have := World.block_lt_of_cell? _ _ hw170_2; first | rwa [add_block] at this | exact this) GW176.out)) | (show (Addr.add _ _).block ≠ _; rw [add_block]; exact Nat.ne_of_lt (Nat.lt_of_lt_of_le (by have := World.block_lt_of_cell? _ _ hw170_2; first | rwa [add_block] at this | exact this) GW176.out)) | (dsimp only; exact Nat.ne_of_lt (Nat.lt_of_lt_of_le (by have := World.block_lt_of_cell? _ _ hw170_2; first | rwa [add_block] at this | exact this) GW176.out))) _).trans (hHeld.2.2.2.2.2.2))))))))⟩ (fun hHeld => ?_)
          clear hK K
          refine pure_ (i := 11) (N := some 10) (v := ?_) (a' := ?_) #[true, true, true, true, true, true, true, true, true, true, true, true] rfl rfl (any_of HT_.out (by kernel_rfl)) (fun _ _ _ h => h) (Or.inl ⟨by rfl, ?_⟩) ?_ ?_
          rotate_left
          ·intro w'
           go_simp
           with_reducible rfl
          rotate_left
          ·simp only [Act.put, List.setIfInBounds_toArray, List.set_cons_zero, List.set_cons_succ, i64_w, i32_w]
           rfl
          refine done_ (done_of HT_.out (by kernel_rfl)) ?_
          have hnb39 := NB176_165.out
          have hnc39 := NB165_176.out
          have hnb40 := NB176_166.out
          have hnc40 := NB166_176.out
          have hnb41 := NB176_167.out
          have hnc41 := NB167_176.out
          have hcz42_0 : w34.cell? ⟨gb176, 0, none⟩ = some (.int .i16 0) := (blk_cell BK176.out 0).trans rfl
          have hcz42_1 : w34.cell? ⟨gb176, 1, none⟩ = some (.int .i16 0) := (blk_cell BK176.out 1).trans rfl
          have hcz42_2 : w34.cell? ⟨gb176, 2, none⟩ = some (.int .i16 0) := (blk_cell BK176.out 2).trans rfl
          have hcz42_3 : w34.cell? ⟨gb176, 3, none⟩ = some (.int .i16 0) := (blk_cell BK176.out 3).trans rfl
          have hfz42_0 := blk_frozen BK176.out 0
          have hfz42_1 := blk_frozen BK176.out 1
          have hfz42_2 := blk_frozen BK176.out 2
          have hfz42_3 := blk_frozen BK176.out 3
          have hnb43 := NB166_165.out
          have hnc43 := NB165_166.out
          have hnb44 := NB166_167.out
          have hnc44 := NB167_166.out
          have hcz45_0 : w34.cell? ⟨gb166, 0, none⟩ = some (.int .i16 x167000_2) := (blk_cell BK166.out 0).trans rfl
          have hcz45_1 : w34.cell? ⟨gb166, 1, none⟩ = some (.int .i16 x167001_2) := (blk_cell BK166.out 1).trans rfl
          have hcz45_2 : w34.cell? ⟨gb166, 2, none⟩ = some (.int .i16 x167002_2) := (blk_cell BK166.out 2).trans rfl
          have hcz45_3 : w34.cell? ⟨gb166, 3, none⟩ = some (.int .i16 x167003_2) := (blk_cell BK166.out 3).trans rfl
          have hfz45_0 := blk_frozen BK166.out 0
          have hfz45_1 := blk_frozen BK166.out 1
          have hfz45_2 := blk_frozen BK166.out 2
          have hfz45_3 := blk_frozen BK166.out 3
          try go_wp2
          go_roundg k2
          case measure => have := HJ3.out; have := HK2.out; omega
          case rel => exact ⟨(wrap64 (x8_2 + 1)), (x166001_2), (x166002_2), (x166003_2), (x166004_2), (x166005_2), (t171), (t172), (t173), (t174), (x168000_2), (x168001_2), (x168002_2), (x168003_2), rs_, H', ⟨by have := HJ3.out; have := HK2.out; omega⟩, ⟨by (with_reducible repeat (first | refine blk_drewN ?_ _ | refine blk_drew ?_ | refine blk_alloc ?_ _)); refine blk_far ?_ NB165_166.out _; (with_reducible repeat (first | refine blk_drewN ?_ _ | refine blk_drew ?_ | refine blk_alloc ?_ _)); refine blk_far ?_ NB165_166.out _; (with_reducible repeat (first | refine blk_drewN ?_ _ | refine blk_drew ?_ | refine blk_alloc ?_ _)); refine blk_far ?_ NB165_166.out _; (with_reducible repeat (first | refine blk_drewN ?_ _ | refine blk_drew ?_ | refine blk_alloc ?_ _)); refine blk_far ?_ NB165_166.out _; (with_reducible repeat (first | refine blk_drewN ?_ _ | refine blk_drew ?_ | refine blk_alloc ?_ _)); refine blk_far ?_ NB165_176.out _; (with_reducible repeat (first | refine blk_drewN ?_ _ | refine blk_drew ?_ | refine blk_alloc ?_ _)); refine blk_far ?_ NB165_176.out _; (with_reducible repeat (first | refine blk_drewN ?_ _ | refine blk_drew ?_ | refine blk_alloc ?_ _)); refine blk_far ?_ NB165_176.out _; (with_reducible repeat (first | refine blk_drewN ?_ _ | refine blk_drew ?_ | refine blk_alloc ?_ _)); refine blk_far ?_ NB165_176.out _; (with_reducible repeat (first | refine blk_drewN ?_ _ | refine blk_drew ?_ | refine blk_alloc ?_ _)); exact BK165.out⟩, ⟨by (with_reducible repeat (first | refine blk_drewN ?_ _ | refine blk_drew ?_ | refine blk_alloc ?_ _)); refine blk_put (cs := #[.int .i16 t171, .int .i16 t172, .int .i16 t173, .int .i16 x167003_2]) ?_ 3 _ rfl; (with_reducible repeat (first | refine blk_drewN ?_ _ | refine blk_drew ?_ | refine blk_alloc ?_ _)); refine blk_put (cs := #[.int .i16 t171, .int .i16 t172, .int .i16 x167002_2, .int .i16 x167003_2]) ?_ 2 _ rfl; (with_reducible repeat (first | refine blk_drewN ?_ _ | refine blk_drew ?_ | refine blk_alloc ?_ _)); refine blk_put (cs := #[.int .i16 t171, .int .i16 x167001_2, .int .i16 x167002_2, .int .i16 x167003_2]) ?_ 1 _ rfl; (with_reducible repeat (first | refine blk_drewN ?_ _ | refine blk_drew ?_ | refine blk_alloc ?_ _)); refine blk_put (cs := #[.int .i16 x167000_2, .int .i16 x167001_2, .int .i16 x167002_2, .int .i16 x167003_2]) ?_ 0 _ rfl; (with_reducible repeat (first | refine blk_drewN ?_ _ | refine blk_drew ?_ | refine blk_alloc ?_ _)); refine blk_far ?_ NB166_176.out _; (with_reducible repeat (first | refine blk_drewN ?_ _ | refine blk_drew ?_ | refine blk_alloc ?_ _)); refine blk_far ?_ NB166_176.out _; (with_reducible repeat (first | refine blk_drewN ?_ _ | refine blk_drew ?_ | refine blk_alloc ?_ _)); refine blk_far ?_ NB166_176.out _; (with_reducible repeat (first | refine blk_drewN ?_ _ | refine blk_drew ?_ | refine blk_alloc ?_ _)); refine blk_far ?_ NB166_176.out _; (with_reducible repeat (first | refine blk_drewN ?_ _ | refine blk_drew ?_ | refine blk_alloc ?_ _)); exact BK166.out⟩, ⟨by (with_reducible repeat (first | refine blk_drewN ?_ _ | refine blk_drew ?_ | refine blk_alloc ?_ _)); refine blk_far ?_ NB167_166.out _; (with_reducible repeat (first | refine blk_drewN ?_ _ | refine blk_drew ?_ | refine blk_alloc ?_ _)); refine blk_far ?_ NB167_166.out _; (with_reducible repeat (first | refine blk_drewN ?_ _ | refine blk_drew ?_ | refine blk_alloc ?_ _)); refine blk_far ?_ NB167_166.out _; (with_reducible repeat (first | refine blk_drewN ?_ _ | refine blk_drew ?_ | refine blk_alloc ?_ _)); refine blk_far ?_ NB167_166.out _; (with_reducible repeat (first | refine blk_drewN ?_ _ | refine blk_drew ?_ | refine blk_alloc ?_ _)); refine blk_far ?_ NB167_176.out _; (with_reducible repeat (first | refine blk_drewN ?_ _ | refine blk_drew ?_ | refine blk_alloc ?_ _)); refine blk_far ?_ NB167_176.out _; (with_reducible repeat (first | refine blk_drewN ?_ _ | refine blk_drew ?_ | refine blk_alloc ?_ _)); refine blk_far ?_ NB167_176.out _; (with_reducible repeat (first | refine blk_drewN ?_ _ | refine blk_drew ?_ | refine blk_alloc ?_ _)); refine blk_far ?_ NB167_176.out _; (with_reducible repeat (first | refine blk_drewN ?_ _ | refine blk_drew ?_ | refine blk_alloc ?_ _)); exact BK167.out⟩, ⟨by repeat (first | (with_reducible first | exact HB.out | apply below_alloc | apply pw_below_drewN | apply below_drew1 | refine below_set ?_ GE166.out | refine below_set ?_ GE176.out) | exact HB.out)⟩⟩
         ·rw [if_neg c30] at H
          have c30b0 : (t175 == 0) = false := beq_eq_false_iff_ne.mpr c30
          have c30b1 : (t175 != 0) = true := bne_iff_ne.mpr c30
          simp only [Option.some.injEq, Prod.mk.injEq] at H
          obtain ⟨rfl, rfl, rfl, rfl, rfl⟩ := H
          try go_wp2
          have n0_ := A_ (blk_drew BK165.out)
          have n1_ := A_ (blk_drew BK166.out)
          have n2_ := A_ (blk_drew BK167.out)
          have n3_ := A_ (below_drew1 HB.out)
          clear BK165
          clear BK166
          clear BK167
          clear HB
          have BK165 := n0_
          have BK166 := n1_
          have BK167 := n2_
          have HB := n3_
          clear n0_ n1_ n2_ n3_
          have p170 : 0 ≤ (x8_2 : Int) := asm_
          have q170 : x8_2 < (l2.length : Int) := asm_
          obtain ⟨ad170, e170, hx170_0, hx170_1, hx170_2⟩ := at_T60 HR2.out x8_2 p170 q170
          have hw170_2 := hx170_2
          have hw170_1 := hx170_1
          have hw170_0 := hx170_0
          cases e170
          (try replace hx170_0 := (HB.out.cell (World.block_lt_of_cell? w _ hx170_0)).trans hx170_0)
          (try replace hx170_1 := (HB.out.cell (World.block_lt_of_cell? w _ hx170_1)).trans hx170_1)
          (try replace hx170_2 := (HB.out.cell (World.block_lt_of_cell? w _ hx170_2)).trans hx170_2)
          replace p170 := eq_true p170
          replace q170 := eq_true q170
          refine start_ (n := 12) (S := fun w' => w'.cell? ⟨gb166, 0, none⟩ = some (.int .i16 x167000_2) ∧ w'.cell? ⟨gb166, 1, none⟩ = some (.int .i16 x167001_2) ∧ w'.cell? ⟨gb166, 2, none⟩ = some (.int .i16 x167002_2) ∧ w'.cell? ⟨gb166, 3, none⟩ = some (.int .i16 x167003_2) ∧ w'.cell? (ad170.add ((x8_2).toNat * 3)) = some (.int .i8 ((rd_T60 l2 x8_2).f0)) ∧ w'.cell? ⟨(ad170.add ((x8_2).toNat * 3)).block, (ad170.add ((x8_2).toNat * 3)).off + 1, none⟩ = some (.int .i8 ((rd_T60 l2 x8_2).f1)) ∧ w'.cell? ⟨(ad170.add ((x8_2).toNat * 3)).block, (ad170.add ((x8_2).toNat * 3)).off + 2, none⟩ = some (.int .i8 ((rd_T60 l2 x8_2).f2))) (ds := []) #[false, false, false, false, false, false, false, false, false, false, false, false] (by kernel_rfl) rfl rfl ⟨(blk_cell BK166.out 0).trans rfl, (blk_cell BK166.out 1).trans rfl, (blk_cell BK166.out 2).trans rfl, (blk_cell BK166.out 3).trans rfl, (by first | exact (HB.out.cell (World.block_lt_of_cell? w _ hw170_0)).trans hw170_0 | exact hw170_0), (by first | exact (HB.out.cell (World.block_lt_of_cell? w _ hw170_1)).trans hw170_1 | exact hw170_1), (by first | exact (HB.out.cell (World.block_lt_of_cell? w _ hw170_2)).trans hw170_2 | exact hw170_2)⟩ (fun hHeld => ?_); refine with_tabW spec_DoMoves.tab8 spec_DoMoves.bits8 (fun HT_ HW_ => ?_)
          generalize wr.drew = w46 at BK165 BK166 BK167 HB hx170_0 hx170_1 hx170_2 hHeld ⊢
          refine pure_ (i := 1) (N := some 33) (v := ?_) (a' := ?_) #[false, true, false, false, false, false, false, false, false, false, false, false] rfl rfl (any_of HT_.out (by kernel_rfl)) (fun _ _ _ h => h) (Or.inl ⟨by rfl, ?_⟩) ?_ ?_
          rotate_left
          ·intro w'
           go_simp
           with_reducible rfl
          rotate_left
          ·simp only [Act.put, List.setIfInBounds_toArray, List.set_cons_zero, List.set_cons_succ, i64_w, i32_w]
           rfl
          refine pure_ (i := 2) (N := some 34) (v := ?_) (a' := ?_) #[false, true, true, false, false, false, false, false, false, false, false, false] rfl rfl (any_of HT_.out (by kernel_rfl)) (fun _ _ _ h => h) (Or.inl ⟨by rfl, ?_⟩) ?_ ?_
          rotate_left
          ·intro w'
           go_simp
           with_reducible rfl
          rotate_left
          ·simp only [Act.put, List.setIfInBounds_toArray, List.set_cons_zero, List.set_cons_succ, i64_w, i32_w]
           rfl
          refine pure_ (i := 3) (N := some 35) (v := ?_) (a' := ?_) #[false, true, true, true, false, false, false, false, false, false, false, false] rfl rfl (any_of HT_.out (by kernel_rfl)) (fun _ _ _ h => h) (Or.inl ⟨by rfl, ?_⟩) ?_ ?_
          rotate_left
          ·intro w'
           go_simp
           with_reducible rfl
          rotate_left
          ·simp only [Act.put, List.setIfInBounds_toArray, List.set_cons_zero, List.set_cons_succ, i64_w, i32_w]
           rfl
          refine take_ (i := 0) (N := some 32) (v := ?_) (a' := ?_) #[true, true, true, true, false, false, false, false, false, false, false, false] rfl rfl (take_ofW HT_.out HW_.out (by kernel_rfl)) (fun _ _ _ h => h) (Or.inl ⟨by rfl, ?_⟩) hHeld ?_ ?_
          rotate_left
          ·rintro w' ⟨s0, s1, s2, s3, s4, s5, s6⟩
           go_simp
           with_reducible rfl
          rotate_left
          ·simp only [Act.put, List.setIfInBounds_toArray, List.set_cons_zero, List.set_cons_succ, i64_w, i32_w]
           rfl
          refine take_ (i := 4) (N := some 36) (v := ?_) (a' := ?_) #[true, true, true, true, true, false, false, false, false, false, false, false] rfl rfl (take_ofW HT_.out HW_.out (by kernel_rfl)) (fun _ _ _ h => h) (Or.inl ⟨by rfl, ?_⟩) hHeld ?_ ?_
          rotate_left
          ·rintro w' ⟨s0, s1, s2, s3, s4, s5, s6⟩
           go_simp
           with_reducible rfl
          rotate_left
          ·simp only [Act.put, List.setIfInBounds_toArray, List.set_cons_zero, List.set_cons_succ, i64_w, i32_w]
           rfl
          refine join_ (σ := Nat) 2 #[true, true, true, true, true, true, true, true, true, true, false, false] (fun s_ => [(37, .tuple #[.agg #[.int .i16 t171, .int .i16 t172, .int .i16 t173, .int .i16 t174], .int .i64 t175]), (9, .pointer (some ⟨s_, 0, none⟩)), (31, .tuple #[.agg #[.int .i16 t171, .int .i16 t172, .int .i16 t173, .int .i16 t174], .int .i64 t175]), (38, .agg #[.int .i16 t171, .int .i16 t172, .int .i16 t173, .int .i16 t174]), (39, .int .i64 t175)]) (fun s_ w' => (w'.cell? ⟨gb166, 0, none⟩ = some (.int .i16 x167000_2) ∧ w'.cell? ⟨gb166, 1, none⟩ = some (.int .i16 x167001_2) ∧ w'.cell? ⟨gb166, 2, none⟩ = some (.int .i16 x167002_2) ∧ w'.cell? ⟨gb166, 3, none⟩ = some (.int .i16 x167003_2) ∧ w'.cell? (ad170.add ((x8_2).toNat * 3)) = some (.int .i8 ((rd_T60 l2 x8_2).f0)) ∧ w'.cell? ⟨(ad170.add ((x8_2).toNat * 3)).block, (ad170.add ((x8_2).toNat * 3)).off + 1, none⟩ = some (.int .i8 ((rd_T60 l2 x8_2).f1)) ∧ w'.cell? ⟨(ad170.add ((x8_2).toNat * 3)).block, (ad170.add ((x8_2).toNat * 3)).off + 2, none⟩ = some (.int .i8 ((rd_T60 l2 x8_2).f2))) ∧ (w'.heap[gb165]? = some (.cells #[.slice A0_0 l0_0.length c0_0, .int .i16 x166001_2, .int .i16 x166002_2, .int .i16 x166003_2, .int .i16 x166004_2, .bool x166005_2] 32 (0, 0))) ∧ (w'.heap[gb166]? = some (.cells #[.int .i16 x167000_2, .int .i16 x167001_2, .int .i16 x167002_2, .int .i16 x167003_2] 30 (0, 0))) ∧ (w'.heap[gb167]? = some (.cells #[.int .i16 x168000_2, .int .i16 x168001_2, .int .i16 x168002_2, .int .i16 x168003_2] 30 (0, 0))) ∧ (w'.heap[s_]? = some (.cells #[.int .i16 0, .int .i16 0, .int .i16 0, .int .i16 0] 30 (0, 0))) ∧ (w.heap.size ≤ s_) ∧ (w.heap.size ≤ s_) ∧ (gb165 ≠ s_) ∧ (s_ ≠ gb165) ∧ (gb166 ≠ s_) ∧ (s_ ≠ gb166) ∧ (gb167 ≠ s_) ∧ (s_ ≠ gb167) ∧ (Below w.heap.size w w')) ?_ ?_
          rotate_left
          ·intro hCont
           refine two_ (i := 5) (j := 9) (Ni := some 37) (Nj := some 9) #[true, true, true, true, true, true, false, false, false, false, false, false] #[true, true, true, true, true, false, false, false, false, true, false, false] rfl rfl rfl rfl (two_of HT_.out (by kernel_rfl)) (by decide) (by decide) (fun K hK => ?_) (fun K hK => ?_)
           ·skip
            refine goes_ Try.func85 (by kernel_rfl) rfl #[.pointer (some ⟨gb165, 0, none⟩), .agg #[.int .i16 x167000_2, .int .i16 x167001_2, .int .i16 x167002_2, .int .i16 x167003_2], .agg #[.int .i8 ((rd_T60 l2 x8_2).f0), .int .i8 ((rd_T60 l2 x8_2).f1), .int .i8 ((rd_T60 l2 x8_2).f2)]] (by rfl) rfl rfl arg_ ?_
            with_reducible refine (spec_l02Move.calls k2 gb165 A0_0 c0_0 l0_0 x166001_2 x166002_2 x166003_2 x166004_2 x166005_2 x167000_2 x167001_2 x167002_2 x167003_2 ((rd_T60 l2 x8_2).f0) ((rd_T60 l2 x8_2).f1) ((rd_T60 l2 x8_2).f2) t171 t172 t173 t174 t175 _ ?side1 ?side2 ?side3 A29.out).mono ?_
            (case side1 => exact (pl_ BK165))
            (case side2 => repeat (first | exact (Kd.C_below HR0_0.out HB.out) | (with_reducible refine Kd.C_alloc ?_ _) | (with_reducible refine Kd.C_drewN ?_ _) | (with_reducible refine Kd.C_drew ?_)))
            (case side3 => exact HC0_0.out)
            rintro e w47 ⟨rfl, hb⟩
            refine ⟨_, rfl, ?_⟩
            have n0_ := A_ (blk_below (pl_ BK165) hb)
            have n1_ := A_ (blk_below (pl_ BK166) hb)
            have n2_ := A_ (blk_below (pl_ BK167) hb)
            have n3_ := A_ (below_step (bl_ HB) hb)
            clear BK165
            clear BK166
            clear BK167
            clear HB
            have BK165 := n0_
            have BK166 := n1_
            have BK167 := n2_
            have HB := n3_
            clear n0_ n1_ n2_ n3_
            (try clear hb)
            (try clear hb2)
            (try clear hk)
            (try clear hi)
            refine hK.out _ _ ⟨(blk_cell BK166.out 0).trans rfl, (blk_cell BK166.out 1).trans rfl, (blk_cell BK166.out 2).trans rfl, (blk_cell BK166.out 3).trans rfl, (by first | exact (HB.out.cell (World.block_lt_of_cell? w _ hw170_0)).trans hw170_0 | exact hw170_0), (by first | exact (HB.out.cell (World.block_lt_of_cell? w _ hw170_1)).trans hw170_1 | exact hw170_1), (by first | exact (HB.out.cell (World.block_lt_of_cell? w _ hw170_2)).trans hw170_2 | exact hw170_2)⟩ (fun hHeld => ?_)
            clear hK K
            refine norm_ (a' := ?_) ?_ ?_
            rotate_left
            ·show Act.put _ (some 37) _ = _
             simp only [Act.put, List.setIfInBounds_toArray, List.set_cons_zero, List.set_cons_succ, i64_w, i32_w]
             rfl
            refine pure_ (i := 6) (N := some 31) (v := ?_) (a' := ?_) #[true, true, true, true, true, true, true, false, false, false, false, false] rfl rfl (any_of HT_.out (by kernel_rfl)) (fun _ _ _ h => h) (Or.inl ⟨by rfl, ?_⟩) ?_ ?_
            rotate_left
            ·intro w'
             go_simp
             with_reducible rfl
            rotate_left
            ·simp only [Act.put, List.setIfInBounds_toArray, List.set_cons_zero, List.set_cons_succ, i64_w, i32_w]
             rfl
            refine pure_ (i := 7) (N := some 38) (v := ?_) (a' := ?_) #[true, true, true, true, true, true, true, true, false, false, false, false] rfl rfl (any_of HT_.out (by kernel_rfl)) (fun _ _ _ h => h) (Or.inl ⟨by rfl, ?_⟩) ?_ ?_
            rotate_left
            ·intro w'
             go_simp
             with_reducible rfl
            rotate_left
            ·simp only [Act.put, List.setIfInBounds_toArray, List.set_cons_zero, List.set_cons_succ, i64_w, i32_w]
             rfl
            refine pure_ (i := 8) (N := some 39) (v := ?_) (a' := ?_) #[true, true, true, true, true, true, true, true, true, false, false, false] rfl rfl (any_of HT_.out (by kernel_rfl)) (fun _ _ _ h => h) (Or.inl ⟨by rfl, ?_⟩) ?_ ?_
            rotate_left
            ·intro w'
             go_simp
             with_reducible rfl
            rotate_left
            ·simp only [Act.put, List.setIfInBounds_toArray, List.set_cons_zero, List.set_cons_succ, i64_w, i32_w]
             rfl
            refine one_ (i := 9) (N := some 9) #[true, true, true, true, true, true, true, true, true, true, false, false] rfl rfl (one_of HT_.out (by kernel_rfl)) (by decide) (fun K hK => ?_)
            refine box_step ?hg (N := 9) ?hd (cs := #[.int .i16 0, .int .i16 0, .int .i16 0, .int .i16 0]) (t := 30) ?hr ?_; (case hd => rfl); (case hg => rfl); (case hr => first | (go_simp; done) | (go_simp; rfl))
            intro gb176 hg w48 hbox hb
            have n0_ := A_ (blk_below (pl_ BK165) hb)
            have n1_ := A_ (blk_below (pl_ BK166) hb)
            have n2_ := A_ (blk_below (pl_ BK167) hb)
            have n3_ := A_ (below_step (bl_ HB) hb)
            have n4_ := A_ (hbox)
            have n5_ := A_ ((by rw [hg]; exact (below_size (bl_ HB)) : w.heap.size ≤ gb176))
            have n6_ := n5_
            have n7_ := A_ ((by rw [hg]; exact Nat.ne_of_lt (blk_lt (pl_ BK165)) : gb165 ≠ gb176))
            have n8_ := Aside0.mk n7_.out.symm
            have n9_ := A_ ((by rw [hg]; exact Nat.ne_of_lt (blk_lt (pl_ BK166)) : gb166 ≠ gb176))
            have n10_ := Aside0.mk n9_.out.symm
            have n11_ := A_ ((by rw [hg]; exact Nat.ne_of_lt (blk_lt (pl_ BK167)) : gb167 ≠ gb176))
            have n12_ := Aside0.mk n11_.out.symm
            clear BK165
            clear BK166
            clear BK167
            clear HB
            have BK165 := n0_
            have BK166 := n1_
            have BK167 := n2_
            have HB := n3_
            have BK176 := n4_
            have GW176 := n5_
            have GE176 := n6_
            have NB165_176 := n7_
            have NB176_165 := n8_
            have NB166_176 := n9_
            have NB176_166 := n10_
            have NB167_176 := n11_
            have NB176_167 := n12_
            clear n0_ n1_ n2_ n3_ n4_ n5_ n6_ n7_ n8_ n9_ n10_ n11_ n12_
            clear hb hbox hg
            refine hK.out _ _ ⟨(blk_cell BK166.out 0).trans rfl, (blk_cell BK166.out 1).trans rfl, (blk_cell BK166.out 2).trans rfl, (blk_cell BK166.out 3).trans rfl, (by first | exact (HB.out.cell (World.block_lt_of_cell? w _ hw170_0)).trans hw170_0 | exact hw170_0), (by first | exact (HB.out.cell (World.block_lt_of_cell? w _ hw170_1)).trans hw170_1 | exact hw170_1), (by first | exact (HB.out.cell (World.block_lt_of_cell? w _ hw170_2)).trans hw170_2 | exact hw170_2)⟩ (fun hHeld => ?_)
            clear hK K
            refine norm_ (a' := ?_) ?_ ?_
            rotate_left
            ·show Act.put _ (some 9) _ = _
             simp only [Act.put, List.setIfInBounds_toArray, List.set_cons_zero, List.set_cons_succ, i64_w, i32_w]
             rfl
            exact norm_ pa_ (hCont (gb176) _ ⟨hHeld, (pl_ BK165), (pl_ BK166), (pl_ BK167), (pl_ BK176), GW176.out, GE176.out, NB165_176.out, NB176_165.out, NB166_176.out, NB176_166.out, NB167_176.out, NB176_167.out, (bl_ HB)⟩)
           ·skip
            refine box_step ?hg (N := 9) ?hd (cs := #[.int .i16 0, .int .i16 0, .int .i16 0, .int .i16 0]) (t := 30) ?hr ?_; (case hd => rfl); (case hg => rfl); (case hr => first | (go_simp; done) | (go_simp; rfl))
            intro gb176 hg w47 hbox hb
            have n0_ := A_ (blk_below (pl_ BK165) hb)
            have n1_ := A_ (blk_below (pl_ BK166) hb)
            have n2_ := A_ (blk_below (pl_ BK167) hb)
            have n3_ := A_ (below_step (bl_ HB) hb)
            have n4_ := A_ (hbox)
            have n5_ := A_ ((by rw [hg]; exact (below_size (bl_ HB)) : w.heap.size ≤ gb176))
            have n6_ := n5_
            have n7_ := A_ ((by rw [hg]; exact Nat.ne_of_lt (blk_lt (pl_ BK165)) : gb165 ≠ gb176))
            have n8_ := Aside0.mk n7_.out.symm
            have n9_ := A_ ((by rw [hg]; exact Nat.ne_of_lt (blk_lt (pl_ BK166)) : gb166 ≠ gb176))
            have n10_ := Aside0.mk n9_.out.symm
            have n11_ := A_ ((by rw [hg]; exact Nat.ne_of_lt (blk_lt (pl_ BK167)) : gb167 ≠ gb176))
            have n12_ := Aside0.mk n11_.out.symm
            clear BK165
            clear BK166
            clear BK167
            clear HB
            have BK165 := n0_
            have BK166 := n1_
            have BK167 := n2_
            have HB := n3_
            have BK176 := n4_
            have GW176 := n5_
            have GE176 := n6_
            have NB165_176 := n7_
            have NB176_165 := n8_
            have NB166_176 := n9_
            have NB176_166 := n10_
            have NB167_176 := n11_
            have NB176_167 := n12_
            clear n0_ n1_ n2_ n3_ n4_ n5_ n6_ n7_ n8_ n9_ n10_ n11_ n12_
            clear hb hbox hg
            refine hK.out _ _ ⟨(blk_cell BK166.out 0).trans rfl, (blk_cell BK166.out 1).trans rfl, (blk_cell BK166.out 2).trans rfl, (blk_cell BK166.out 3).trans rfl, (by first | exact (HB.out.cell (World.block_lt_of_cell? w _ hw170_0)).trans hw170_0 | exact hw170_0), (by first | exact (HB.out.cell (World.block_lt_of_cell? w _ hw170_1)).trans hw170_1 | exact hw170_1), (by first | exact (HB.out.cell (World.block_lt_of_cell? w _ hw170_2)).trans hw170_2 | exact hw170_2)⟩ (fun hHeld => ?_)
            clear hK K
            refine norm_ (a' := ?_) ?_ ?_
            rotate_left
            ·show Act.put _ (some 9) _ = _
             simp only [Act.put, List.setIfInBounds_toArray, List.set_cons_zero, List.set_cons_succ, i64_w, i32_w]
             rfl
            refine one_ (i := 5) (N := some 37) #[true, true, true, true, true, true, false, false, false, true, false, false] rfl rfl (one_of HT_.out (by kernel_rfl)) (by decide) (fun K hK => ?_)
            refine goes_ Try.func85 (by kernel_rfl) rfl #[.pointer (some ⟨gb165, 0, none⟩), .agg #[.int .i16 x167000_2, .int .i16 x167001_2, .int .i16 x167002_2, .int .i16 x167003_2], .agg #[.int .i8 ((rd_T60 l2 x8_2).f0), .int .i8 ((rd_T60 l2 x8_2).f1), .int .i8 ((rd_T60 l2 x8_2).f2)]] (by rfl) rfl rfl arg_ ?_
            with_reducible refine (spec_l02Move.calls k2 gb165 A0_0 c0_0 l0_0 x166001_2 x166002_2 x166003_2 x166004_2 x166005_2 x167000_2 x167001_2 x167002_2 x167003_2 ((rd_T60 l2 x8_2).f0) ((rd_T60 l2 x8_2).f1) ((rd_T60 l2 x8_2).f2) t171 t172 t173 t174 t175 _ ?side1 ?side2 ?side3 A29.out).mono ?_
            (case side1 => exact (pl_ BK165))
            (case side2 => repeat (first | exact (Kd.C_below HR0_0.out HB.out) | (with_reducible refine Kd.C_alloc ?_ _) | (with_reducible refine Kd.C_drewN ?_ _) | (with_reducible refine Kd.C_drew ?_)))
            (case side3 => exact HC0_0.out)
            rintro e w48 ⟨rfl, hb⟩
            refine ⟨_, rfl, ?_⟩
            have n0_ := A_ (blk_below (pl_ BK165) hb)
            have n1_ := A_ (blk_below (pl_ BK166) hb)
            have n2_ := A_ (blk_below (pl_ BK167) hb)
            have n3_ := A_ (blk_below (pl_ BK176) hb)
            have n4_ := A_ (below_step (bl_ HB) hb)
            clear BK165
            clear BK166
            clear BK167
            clear BK176
            clear HB
            have BK165 := n0_
            have BK166 := n1_
            have BK167 := n2_
            have BK176 := n3_
            have HB := n4_
            clear n0_ n1_ n2_ n3_ n4_
            (try clear hb)
            (try clear hb2)
            (try clear hk)
            (try clear hi)
            refine hK.out _ _ ⟨(blk_cell BK166.out 0).trans rfl, (blk_cell BK166.out 1).trans rfl, (blk_cell BK166.out 2).trans rfl, (blk_cell BK166.out 3).trans rfl, (by first | exact (HB.out.cell (World.block_lt_of_cell? w _ hw170_0)).trans hw170_0 | exact hw170_0), (by first | exact (HB.out.cell (World.block_lt_of_cell? w _ hw170_1)).trans hw170_1 | exact hw170_1), (by first | exact (HB.out.cell (World.block_lt_of_cell? w _ hw170_2)).trans hw170_2 | exact hw170_2)⟩ (fun hHeld => ?_)
            clear hK K
            refine norm_ (a' := ?_) ?_ ?_
            rotate_left
            ·show Act.put _ (some 37) _ = _
             simp only [Act.put, List.setIfInBounds_toArray, List.set_cons_zero, List.set_cons_succ, i64_w, i32_w]
             rfl
            refine pure_ (i := 6) (N := some 31) (v := ?_) (a' := ?_) #[true, true, true, true, true, true, true, false, false, true, false, false] rfl rfl (any_of HT_.out (by kernel_rfl)) (fun _ _ _ h => h) (Or.inl ⟨by rfl, ?_⟩) ?_ ?_
            rotate_left
            ·intro w'
             go_simp
             with_reducible rfl
            rotate_left
            ·simp only [Act.put, List.setIfInBounds_toArray, List.set_cons_zero, List.set_cons_succ, i64_w, i32_w]
             rfl
            refine pure_ (i := 7) (N := some 38) (v := ?_) (a' := ?_) #[true, true, true, true, true, true, true, true, false, true, false, false] rfl rfl (any_of HT_.out (by kernel_rfl)) (fun _ _ _ h => h) (Or.inl ⟨by rfl, ?_⟩) ?_ ?_
            rotate_left
            ·intro w'
             go_simp
             with_reducible rfl
            rotate_left
            ·simp only [Act.put, List.setIfInBounds_toArray, List.set_cons_zero, List.set_cons_succ, i64_w, i32_w]
             rfl
            refine pure_ (i := 8) (N := some 39) (v := ?_) (a' := ?_) #[true, true, true, true, true, true, true, true, true, true, false, false] rfl rfl (any_of HT_.out (by kernel_rfl)) (fun _ _ _ h => h) (Or.inl ⟨by rfl, ?_⟩) ?_ ?_
            rotate_left
            ·intro w'
             go_simp
             with_reducible rfl
            rotate_left
            ·simp only [Act.put, List.setIfInBounds_toArray, List.set_cons_zero, List.set_cons_succ, i64_w, i32_w]
             rfl
            exact norm_ pa_ (hCont (gb176) _ ⟨hHeld, (pl_ BK165), (pl_ BK166), (pl_ BK167), (pl_ BK176), GW176.out, GE176.out, NB165_176.out, NB176_165.out, NB166_176.out, NB176_166.out, NB167_176.out, NB176_167.out, (bl_ HB)⟩)
          rintro gb176 w49 ⟨hS_, h0_, h1_, h2_, h3_, h4_, h5_, h6_, h7_, h8_, h9_, h10_, h11_, h12_⟩
          have n0_ : Aside0 (w49.heap[gb165]? = some (.cells #[.slice A0_0 l0_0.length c0_0, .int .i16 x166001_2, .int .i16 x166002_2, .int .i16 x166003_2, .int .i16 x166004_2, .bool x166005_2] 32 (0, 0))) := ⟨h0_⟩
          have n1_ : Aside0 (w49.heap[gb166]? = some (.cells #[.int .i16 x167000_2, .int .i16 x167001_2, .int .i16 x167002_2, .int .i16 x167003_2] 30 (0, 0))) := ⟨h1_⟩
          have n2_ : Aside0 (w49.heap[gb167]? = some (.cells #[.int .i16 x168000_2, .int .i16 x168001_2, .int .i16 x168002_2, .int .i16 x168003_2] 30 (0, 0))) := ⟨h2_⟩
          have n3_ : Aside0 (w49.heap[gb176]? = some (.cells #[.int .i16 0, .int .i16 0, .int .i16 0, .int .i16 0] 30 (0, 0))) := ⟨h3_⟩
          have n4_ : Aside0 (w.heap.size ≤ gb176) := ⟨h4_⟩
          have n5_ : Aside0 (w.heap.size ≤ gb176) := ⟨h5_⟩
          have n6_ : Aside0 (gb165 ≠ gb176) := ⟨h6_⟩
          have n7_ : Aside0 (gb176 ≠ gb165) := ⟨h7_⟩
          have n8_ : Aside0 (gb166 ≠ gb176) := ⟨h8_⟩
          have n9_ : Aside0 (gb176 ≠ gb166) := ⟨h9_⟩
          have n10_ : Aside0 (gb167 ≠ gb176) := ⟨h10_⟩
          have n11_ : Aside0 (gb176 ≠ gb167) := ⟨h11_⟩
          have n12_ : Aside0 (Below w.heap.size w w49) := ⟨h12_⟩
          clear BK165
          clear BK166
          clear BK167
          clear HB
          clear h0_ h1_ h2_ h3_ h4_ h5_ h6_ h7_ h8_ h9_ h10_ h11_ h12_
          have BK165 := n0_
          have BK166 := n1_
          have BK167 := n2_
          have BK176 := n3_
          have GW176 := n4_
          have GE176 := n5_
          have NB165_176 := n6_
          have NB176_165 := n7_
          have NB166_176 := n8_
          have NB176_166 := n9_
          have NB167_176 := n10_
          have NB176_167 := n11_
          have HB := n12_
          clear n0_ n1_ n2_ n3_ n4_ n5_ n6_ n7_ n8_ n9_ n10_ n11_ n12_
          have hHeld : w49.cell? ⟨gb166, 0, none⟩ = some (.int .i16 x167000_2) ∧ w49.cell? ⟨gb166, 1, none⟩ = some (.int .i16 x167001_2) ∧ w49.cell? ⟨gb166, 2, none⟩ = some (.int .i16 x167002_2) ∧ w49.cell? ⟨gb166, 3, none⟩ = some (.int .i16 x167003_2) ∧ w49.cell? (ad170.add ((x8_2).toNat * 3)) = some (.int .i8 ((rd_T60 l2 x8_2).f0)) ∧ w49.cell? ⟨(ad170.add ((x8_2).toNat * 3)).block, (ad170.add ((x8_2).toNat * 3)).off + 1, none⟩ = some (.int .i8 ((rd_T60 l2 x8_2).f1)) ∧ w49.cell? ⟨(ad170.add ((x8_2).toNat * 3)).block, (ad170.add ((x8_2).toNat * 3)).off + 2, none⟩ = some (.int .i8 ((rd_T60 l2 x8_2).f2)) := hS_
          refine norm_ (a' := ?_) ?_ ?_
          rotate_left
          ·simp only [putAll, Act.put, List.setIfInBounds_toArray, List.set_cons_zero, List.set_cons_succ]
           rfl
          refine one_ (i := 10) (N := none) #[true, true, true, true, true, true, true, true, true, true, true, false] rfl rfl (one_of HT_.out (by kernel_rfl)) (by decide) (fun K hK => ?_)
          have hs50 : w49.cell? ⟨gb176, 0, none⟩ = some (.int .i16 0) := (blk_cell BK176.out 0).trans rfl
          have hfs50 := blk_frozen BK176.out 0
          have hns50_0 := NB165_176.out
          have hns50_1 := NB166_176.out
          have hns50_2 := NB167_176.out
          have hms50_0 := NB176_165.out
          have hms50_1 := NB176_166.out
          have hms50_2 := NB176_167.out
          have hs51 : w49.cell? ⟨gb176, 1, none⟩ = some (.int .i16 0) := (blk_cell BK176.out 1).trans rfl
          have hfs51 := blk_frozen BK176.out 1
          have hns51_0 := NB165_176.out
          have hns51_1 := NB166_176.out
          have hns51_2 := NB167_176.out
          have hms51_0 := NB176_165.out
          have hms51_1 := NB176_166.out
          have hms51_2 := NB176_167.out
          have hs52 : w49.cell? ⟨gb176, 2, none⟩ = some (.int .i16 0) := (blk_cell BK176.out 2).trans rfl
          have hfs52 := blk_frozen BK176.out 2
          have hns52_0 := NB165_176.out
          have hns52_1 := NB166_176.out
          have hns52_2 := NB167_176.out
          have hms52_0 := NB176_165.out
          have hms52_1 := NB176_166.out
          have hms52_2 := NB176_167.out
          have hs53 : w49.cell? ⟨gb176, 3, none⟩ = some (.int .i16 0) := (blk_cell BK176.out 3).trans rfl
          have hfs53 := blk_frozen BK176.out 3
          have hns53_0 := NB165_176.out
          have hns53_1 := NB166_176.out
          have hns53_2 := NB167_176.out
          have hms53_0 := NB176_165.out
          have hms53_1 := NB176_166.out
          have hms53_2 := NB176_167.out
          refine skip_ (w1 := ?_) (by rfl) rfl ?_ ?_
          rotate_left
          ·go_simp
           rfl
          refine hK.out _ _ ⟨((cell_far (p := ⟨gb176, _, none⟩) NB166_176.out _).trans ((cf3_ NB166_176 (hHeld.1)))), ((cell_far (p := ⟨gb176, _, none⟩) NB166_176.out _).trans ((cf3_ NB166_176 (hHeld.2.1)))), ((cell_far (p := ⟨gb176, _, none⟩) NB166_176.out _).trans ((cf3_ NB166_176 (hHeld.2.2.1)))), ((cell_far (p := ⟨gb176, _, none⟩) NB166_176.out _).trans ((cf3_ NB166_176 (hHeld.2.2.2.1)))), ((cell_far (p := ⟨gb176, _, none⟩) (by first | exact Nat.ne_of_lt (Nat.lt_of_lt_of_le (by have := World.block_lt_of_cell? _ _ hw170_0; first | rwa [add_block] at this | exact this) GW176.out) | (rw [add_block]; exact Nat.ne_of_lt (Nat.lt_of_lt_of_le (by have := World.block_lt_of_cell? _ _ hw170_0; first | rwa [add_block] at this | exact this) GW176.out)) | (show (Addr.add _ _).block ≠ _; rw [add_block]; exact Nat.ne_of_lt (Nat.lt_of_lt_of_le (by have := World.block_lt_of_cell? _ _ hw170_0; first | rwa [add_block] at this | exact this) GW176.out)) | (dsimp only; exact Nat.ne_of_lt (Nat.lt_of_lt_of_le (by have := World.block_lt_of_cell? _ _ hw170_0; first | rwa [add_block] at this | exact this) GW176.out))) _).trans (((cell_far (p := ⟨gb176, _, none⟩) (by first | exact Nat.ne_of_lt (Nat.lt_of_lt_of_le (by have := World.block_lt_of_cell? _ _ hw170_0; first | rwa [add_block] at this | exact this) GW176.out) | (rw [add_block]; exact Nat.ne_of_lt (Nat.lt_of_lt_of_le (by have := World.block_lt_of_cell? _ _ hw170_0; first | rwa [add_block] at this | exact this) GW176.out)) | (show (Addr.add _ _).block ≠ _; rw [add_block]; exact Nat.ne_of_lt (Nat.lt_of_lt_of_le (by have := World.block_lt_of_cell? _ _ hw170_0; first | rwa [add_block] at this | exact this) GW176.out)) | (dsimp only; exact Nat.ne_of_lt (Nat.lt_of_lt_of_le (by have := World.block_lt_of_cell? _ _ hw170_0; first | rwa [add_block] at this | exact this) GW176.out))) _).trans (((cell_far (p := ⟨gb176, _, none⟩) (by first | exact Nat.ne_of_lt (Nat.lt_of_lt_of_le (by have := World.block_lt_of_cell? _ _ hw170_0; first | rwa [add_block] at this | exact this) GW176.out) | (rw [add_block]; exact Nat.ne_of_lt (Nat.lt_of_lt_of_le (by have := World.block_lt_of_cell? _ _ hw170_0; first | rwa [add_block] at this | exact this) GW176.out)) | (show (Addr.add _ _).block ≠ _; rw [add_block]; exact Nat.ne_of_lt (Nat.lt_of_lt_of_le (by have := World.block_lt_of_cell? _ _ hw170_0; first | rwa [add_block] at this | exact this) GW176.out)) | (dsimp only; exact Nat.ne_of_lt (Nat.lt_of_lt_of_le (by have := World.block_lt_of_cell? _ _ hw170_0; first | rwa [add_block] at this | exact this) GW176.out))) _).trans (((cell_far (p := ⟨gb176, _, none⟩) (by first | exact Nat.ne_of_lt (Nat.lt_of_lt_of_le (by have := World.block_lt_of_cell? _ _ hw170_0; first | rwa [add_block] at this | exact this) GW176.out) | (rw [add_block]; exact Nat.ne_of_lt (Nat.lt_of_lt_of_le (by have := World.block_lt_of_cell? _ _ hw170_0; first | rwa [add_block] at this | exact this) GW176.out)) | (show (Addr.add _ _).block ≠ _; rw [add_block]; exact Nat.ne_of_lt (Nat.lt_of_lt_of_le (by have := World.block_lt_of_cell? _ _ hw170_0; first | rwa [add_block] at this | exact this) GW176.out)) | (dsimp only; exact Nat.ne_of_lt (Nat.lt_of_lt_of_le (by have := World.block_lt_of_cell? _ _ hw170_0; first | rwa [add_block] at this | exact this) GW176.out))) _).trans (hHeld.2.2.2.2.1)))))))), ((cell_far (p := ⟨gb176, _, none⟩) (by first | exact Nat.ne_of_lt (Nat.lt_of_lt_of_le (by have := World.block_lt_of_cell? _ _ hw170_1; first | rwa [add_block] at this | exact this) GW176.out) | (rw [add_block]; exact Nat.ne_of_lt (Nat.lt_of_lt_of_le (by have := World.block_lt_of_cell? _ _ hw170_1; first | rwa [add_block] at this | exact this) GW176.out)) | (show (Addr.add _ _).block ≠ _; rw [add_block]; exact Nat.ne_of_lt (Nat.lt_of_lt_of_le (by have := World.block_lt_of_cell? _ _ hw170_1; first | rwa [add_block] at this | exact this) GW176.out)) | (dsimp only; exact Nat.ne_of_lt (Nat.lt_of_lt_of_le (by have := World.block_lt_of_cell? _ _ hw170_1; first | rwa [add_block] at this | exact this) GW176.out))) _).trans (((cell_far (p := ⟨gb176, _, none⟩) (by first | exact Nat.ne_of_lt (Nat.lt_of_lt_of_le (by have := World.block_lt_of_cell? _ _ hw170_1; first | rwa [add_block] at this | exact this) GW176.out) | (rw [add_block]; exact Nat.ne_of_lt (Nat.lt_of_lt_of_le (by have := World.block_lt_of_cell? _ _ hw170_1; first | rwa [add_block] at this | exact this) GW176.out)) | (show (Addr.add _ _).block ≠ _; rw [add_block]; exact Nat.ne_of_lt (Nat.lt_of_lt_of_le (by have := World.block_lt_of_cell? _ _ hw170_1; first | rwa [add_block] at this | exact this) GW176.out)) | (dsimp only; exact Nat.ne_of_lt (Nat.lt_of_lt_of_le (by have := World.block_lt_of_cell? _ _ hw170_1; first | rwa [add_block] at this | exact this) GW176.out))) _).trans (((cell_far (p := ⟨gb176, _, none⟩) (by first | exact Nat.ne_of_lt (Nat.lt_of_lt_of_le (by have := World.block_lt_of_cell? _ _ hw170_1; first | rwa [add_block] at this | exact this) GW176.out) | (rw [add_block]; exact Nat.ne_of_lt (Nat.lt_of_lt_of_le (by have := World.block_lt_of_cell? _ _ hw170_1; first | rwa [add_block] at this | exact this) GW176.out)) | (show (Addr.add _ _).block ≠ _; rw [add_block]; exact Nat.ne_of_lt (Nat.lt_of_lt_of_le (by have := World.block_lt_of_cell? _ _ hw170_1; first | rwa [add_block] at this | exact this) GW176.out)) | (dsimp only; exact Nat.ne_of_lt (Nat.lt_of_lt_of_le (by have := World.block_lt_of_cell? _ _ hw170_1; first | rwa [add_block] at this | exact this) GW176.out))) _).trans (((cell_far (p := ⟨gb176, _, none⟩) (by first | exact Nat.ne_of_lt (Nat.lt_of_lt_of_le (by have := World.block_lt_of_cell? _ _ hw170_1; first | rwa [add_block] at this | exact this) GW176.out) | (rw [add_block]; exact Nat.ne_of_lt (Nat.lt_of_lt_of_le (by have := World.block_lt_of_cell? _ _ hw170_1; first | rwa [add_block] at this | exact this) GW176.out)) | (show (Addr.add _ _).block ≠ _; rw [add_block]; exact Nat.ne_of_lt (Nat.lt_of_lt_of_le (by have := World.block_lt_of_cell? _ _ hw170_1; first | rwa [add_block] at this | exact this) GW176.out)) | (dsimp only; exact Nat.ne_of_lt (Nat.lt_of_lt_of_le (by have := World.block_lt_of_cell? _ _ hw170_1; first | rwa [add_block] at this | exact this) GW176.out))) _).trans (hHeld.2.2.2.2.2.1)))))))), ((cell_far (p := ⟨gb176, _, none⟩) (by first | exact Nat.ne_of_lt (Nat.lt_of_lt_of_le (by have := World.block_lt_of_cell? _ _ hw170_2; first | rwa [add_block] at this | exact this) GW176.out) | (rw [add_block]; exact Nat.ne_of_lt (Nat.lt_of_lt_of_le (by have := World.block_lt_of_cell? _ _ hw170_2; first | rwa [add_block] at this | exact this) GW176.out)) | (show (Addr.add _ _).block ≠ _; rw [add_block]; exact Nat.ne_of_lt (Nat.lt_of_lt_of_le (by have := World.block_lt_of_cell? _ _ hw170_2; first | rwa [add_block] at this | exact this) GW176.out)) | (dsimp only; exact Nat.ne_of_lt (Nat.lt_of_lt_of_le (by have := World.block_lt_of_cell? _ _ hw170_2; first | rwa [add_block] at this | exact this) GW176.out))) _).trans (((cell_far (p := ⟨gb176, _, none⟩) (by first | exact Nat.ne_of_lt (Nat.lt_of_lt_of_le (by have := World.block_lt_of_cell? _ _ hw170_2; first | rwa [add_block] at this | exact this) GW176.out) | (rw [add_block]; exact Nat.ne_of_lt (Nat.lt_of_lt_of_le (by have := World.block_lt_of_cell? _ _ hw170_2; first | rwa [add_block] at this | exact this) GW176.out)) | (show (Addr.add _ _).block ≠ _; rw [add_block]; exact Nat.ne_of_lt (Nat.lt_of_lt_of_le (by have := World.block_lt_of_cell? _ _ hw170_2; first | rwa [add_block] at this | exact this) GW176.out)) | (dsimp only; exact Nat.ne_of_lt (Nat.lt_of_lt_of_le (by have := World.block_lt_of_cell? _ _ hw170_2; first | rwa [add_block] at this | exact this) GW176.out))) _).trans (((cell_far (p := ⟨gb176, _, none⟩) (by first | exact Nat.ne_of_lt (Nat.lt_of_lt_of_le (by have := World.block_lt_of_cell? _ _ hw170_2; first | rwa [add_block] at this | exact this) GW176.out) | (rw [add_block]; exact Nat.ne_of_lt (Nat.lt_of_lt_of_le (by have := World.block_lt_of_cell? _ _ hw170_2; first | rwa [add_block] at this | exact this) GW176.out)) | (show (Addr.add _ _).block ≠ _; rw [add_block]; exact Nat.ne_of_lt (Nat.lt_of_lt_of_le (by have := World.block_lt_of_cell? _ _ hw170_2; first | rwa [add_block] at this | exact this) GW176.out)) | (dsimp only; exact Nat.ne_of_lt (Nat.lt_of_lt_of_le (by have := World.block_lt_of_cell? _ _ hw170_2; first | rwa [add_block] at this | exact this) GW176.out))) _).trans (((cell_far (p := ⟨gb176, _, none⟩) (by first | exact Nat.ne_of_lt (Nat.lt_of_lt_of_le (by have := World.block_lt_of_cell? _ _ hw170_2; first | rwa [add_block] at this | exact this) GW176.out) | (rw [add_block]; exact Nat.ne_of_lt (Nat.lt_of_lt_of_le (by have := World.block_lt_of_cell? _ _ hw170_2; first | rwa [add_block] at this | exact this) GW176.out)) | (show (Addr.add _ _).block ≠ _; rw [add_block]; exact Nat.ne_of_lt (Nat.lt_of_lt_of_le (by have := World.block_lt_of_cell? _ _ hw170_2; first | rwa [add_block] at this | exact this) GW176.out)) | (dsimp only; exact Nat.ne_of_lt (Nat.lt_of_lt_of_le (by have := World.block_lt_of_cell? _ _ hw170_2; first | rwa [add_block] at this | exact this) GW176.out))) _).trans (hHeld.2.2.2.2.2.2))))))))⟩ (fun hHeld => ?_)
          clear hK K
          refine pure_ (i := 11) (N := some 10) (v := ?_) (a' := ?_) #[true, true, true, true, true, true, true, true, true, true, true, true] rfl rfl (any_of HT_.out (by kernel_rfl)) (fun _ _ _ h => h) (Or.inl ⟨by rfl, ?_⟩) ?_ ?_
          rotate_left
          ·intro w'
           go_simp
           with_reducible rfl
          rotate_left
          ·simp only [Act.put, List.setIfInBounds_toArray, List.set_cons_zero, List.set_cons_succ, i64_w, i32_w]
           rfl
          refine done_ (done_of HT_.out (by kernel_rfl)) ?_
          have hnb54 := NB167_165.out
          have hnc54 := NB165_167.out
          have hnb55 := NB167_166.out
          have hnc55 := NB166_167.out
          have hnb56 := NB167_176.out
          have hnc56 := NB176_167.out
          have hcz57_0 : w49.cell? ⟨gb167, 0, none⟩ = some (.int .i16 x168000_2) := (blk_cell BK167.out 0).trans rfl
          have hcz57_1 : w49.cell? ⟨gb167, 1, none⟩ = some (.int .i16 x168001_2) := (blk_cell BK167.out 1).trans rfl
          have hcz57_2 : w49.cell? ⟨gb167, 2, none⟩ = some (.int .i16 x168002_2) := (blk_cell BK167.out 2).trans rfl
          have hcz57_3 : w49.cell? ⟨gb167, 3, none⟩ = some (.int .i16 x168003_2) := (blk_cell BK167.out 3).trans rfl
          have hfz57_0 := blk_frozen BK167.out 0
          have hfz57_1 := blk_frozen BK167.out 1
          have hfz57_2 := blk_frozen BK167.out 2
          have hfz57_3 := blk_frozen BK167.out 3
          try go_wp2
          refine bodyPost_ret (results_ct rfl _ _ gb167 30 #[.int .i16 0, .int .i16 0, .int .i16 0, .int .i16 0] (0, 0) _ rfl (by (with_reducible repeat (first | refine blk_drewN ?_ _ | refine blk_drew ?_ | refine blk_alloc ?_ _)); refine blk_put (cs := #[.int .i16 0, .int .i16 0, .int .i16 0, .int .i16 x168003_2]) ?_ 3 _ rfl; (with_reducible repeat (first | refine blk_drewN ?_ _ | refine blk_drew ?_ | refine blk_alloc ?_ _)); refine blk_put (cs := #[.int .i16 0, .int .i16 0, .int .i16 x168002_2, .int .i16 x168003_2]) ?_ 2 _ rfl; (with_reducible repeat (first | refine blk_drewN ?_ _ | refine blk_drew ?_ | refine blk_alloc ?_ _)); refine blk_put (cs := #[.int .i16 0, .int .i16 x168001_2, .int .i16 x168002_2, .int .i16 x168003_2]) ?_ 1 _ rfl; (with_reducible repeat (first | refine blk_drewN ?_ _ | refine blk_drew ?_ | refine blk_alloc ?_ _)); refine blk_put (cs := #[.int .i16 x168000_2, .int .i16 x168001_2, .int .i16 x168002_2, .int .i16 x168003_2]) ?_ 0 _ rfl; (with_reducible repeat (first | refine blk_drewN ?_ _ | refine blk_drew ?_ | refine blk_alloc ?_ _)); refine blk_far ?_ NB167_176.out _; (with_reducible repeat (first | refine blk_drewN ?_ _ | refine blk_drew ?_ | refine blk_alloc ?_ _)); refine blk_far ?_ NB167_176.out _; (with_reducible repeat (first | refine blk_drewN ?_ _ | refine blk_drew ?_ | refine blk_alloc ?_ _)); refine blk_far ?_ NB167_176.out _; (with_reducible repeat (first | refine blk_drewN ?_ _ | refine blk_drew ?_ | refine blk_alloc ?_ _)); refine blk_far ?_ NB167_176.out _; (with_reducible repeat (first | refine blk_drewN ?_ _ | refine blk_drew ?_ | refine blk_alloc ?_ _)); exact BK167.out) Try.underlying30 rfl (by kernel_rfl)) rfl ?_
          exact ⟨by first | rfl | (simp [errW_none, errW_some] <;> rfl) | (simp [*, errW_none, errW_some] <;> rfl), by repeat (first | (with_reducible first | exact HB.out | apply below_alloc | apply pw_below_drewN | apply below_drew1 | refine below_set ?_ GE167.out | refine below_set ?_ GE176.out) | exact HB.out)⟩
        ·rw [if_neg c28] at H
         exact absurd H (by simp)
       ·rw [if_neg c27] at H
        have c27b0 : decide (x8_2 < (l2.length : Int)) = false := decide_eq_false c27
        clear c27
        simp only [Option.some.injEq, Prod.mk.injEq] at H
        obtain ⟨rfl, rfl, rfl, rfl, rfl⟩ := H
        have hnb58 := NB166_165.out
        have hnc58 := NB165_166.out
        have hnb59 := NB166_167.out
        have hnc59 := NB167_166.out
        have hcz60_0 : wr.cell? ⟨gb166, 0, none⟩ = some (.int .i16 x167000_2) := (blk_cell BK166.out 0).trans rfl
        have hcz60_1 : wr.cell? ⟨gb166, 1, none⟩ = some (.int .i16 x167001_2) := (blk_cell BK166.out 1).trans rfl
        have hcz60_2 : wr.cell? ⟨gb166, 2, none⟩ = some (.int .i16 x167002_2) := (blk_cell BK166.out 2).trans rfl
        have hcz60_3 : wr.cell? ⟨gb166, 3, none⟩ = some (.int .i16 x167003_2) := (blk_cell BK166.out 3).trans rfl
        have hfz60_0 := blk_frozen BK166.out 0
        have hfz60_1 := blk_frozen BK166.out 1
        have hfz60_2 := blk_frozen BK166.out 2
        have hfz60_3 := blk_frozen BK166.out 3
        have hnb61 := NB167_165.out
        have hnc61 := NB165_167.out
        have hcz62_0 : wr.cell? ⟨gb167, 0, none⟩ = some (.int .i16 x168000_2) := (blk_cell BK167.out 0).trans rfl
        have hcz62_1 : wr.cell? ⟨gb167, 1, none⟩ = some (.int .i16 x168001_2) := (blk_cell BK167.out 1).trans rfl
        have hcz62_2 : wr.cell? ⟨gb167, 2, none⟩ = some (.int .i16 x168002_2) := (blk_cell BK167.out 2).trans rfl
        have hcz62_3 : wr.cell? ⟨gb167, 3, none⟩ = some (.int .i16 x168003_2) := (blk_cell BK167.out 3).trans rfl
        have hfz62_0 := blk_frozen BK167.out 0
        have hfz62_1 := blk_frozen BK167.out 1
        have hfz62_2 := blk_frozen BK167.out 2
        have hfz62_3 := blk_frozen BK167.out 3
        go_wp2
        refine bodyPost_ret (results_ct rfl _ _ gb167 30 #[.int .i16 x167000_2, .int .i16 x167001_2, .int .i16 x167002_2, .int .i16 x167003_2] (0, 0) _ rfl (by (with_reducible repeat (first | refine blk_drewN ?_ _ | refine blk_drew ?_ | refine blk_alloc ?_ _)); refine blk_put (cs := #[.int .i16 x167000_2, .int .i16 x167001_2, .int .i16 x167002_2, .int .i16 x168003_2]) ?_ 3 _ rfl; (with_reducible repeat (first | refine blk_drewN ?_ _ | refine blk_drew ?_ | refine blk_alloc ?_ _)); refine blk_put (cs := #[.int .i16 x167000_2, .int .i16 x167001_2, .int .i16 x168002_2, .int .i16 x168003_2]) ?_ 2 _ rfl; (with_reducible repeat (first | refine blk_drewN ?_ _ | refine blk_drew ?_ | refine blk_alloc ?_ _)); refine blk_put (cs := #[.int .i16 x167000_2, .int .i16 x168001_2, .int .i16 x168002_2, .int .i16 x168003_2]) ?_ 1 _ rfl; (with_reducible repeat (first | refine blk_drewN ?_ _ | refine blk_drew ?_ | refine blk_alloc ?_ _)); refine blk_put (cs := #[.int .i16 x168000_2, .int .i16 x168001_2, .int .i16 x168002_2, .int .i16 x168003_2]) ?_ 0 _ rfl; (with_reducible repeat (first | refine blk_drewN ?_ _ | refine blk_drew ?_ | refine blk_alloc ?_ _)); exact BK167.out) Try.underlying30 rfl (by kernel_rfl)) rfl ?_
        exact ⟨by first | rfl | (simp [errW_none, errW_some] <;> rfl) | (simp [*, errW_none, errW_some] <;> rfl), bs_ HB GE167⟩

end Go.Proofs.Ytodmfjophjhbeaa.M
