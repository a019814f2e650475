-- By this seat's own program over the kit's printer (arrays, functions told by hand); nothing of it is trusted: the kernel checks it.
import Derived.Test.YtodmfjophjhbeaaMx0
import Derived.Test.YtodmfjophjhbeaaMx3
import Derived.Test.YtodmfjophjhbeaaMx5
import Derived.Test.YtodmfjophjhbeaaMx30
namespace Go.Proofs.Ytodmfjophjhbeaa.M
open Go.RowKit Go.Proofs.YtodmfjophjhbeaaW.PrintWords Go.Proofs.YtodmfjophjhbeaaW.PrintLast Go.Proofs.YtodmfjophjhbeaaW.PrintMore
attribute [local go_sem] max2_int min2_int max_two min_two max_three min_three max_four min_four   -- for this text's walks alone
set_option linter.unusedVariables false
set_option linter.unusedSimpArgs false

/-! ### laws_FnExactStateIndex: function 9 -/
def laws_FnExactStateIndex.j0 : Nat → Bool → List Int → Int → Int → Int → Int → Bool → List Int → Int → Int → Int → Int → Bool → Option (Bool)
 | 0, _, _, _, _, _, _, _, _, _, _, _, _, _ => none
 | k + 1, x40, x333000, x333001, x333002, x333003, x333004, x333005, x358000, x358001, x358002, x358003, x358004, x358005 => if x40 = true then (some false) else ((laws_toPuzzle.f k x333000 x333001 x333002 x333003 x333004 x333005).bind fun bt364 => ((laws_eqPuzzle.f k x358000 x358001 x358002 x358003 x358004 x358005 bt364.1 bt364.2.1 bt364.2.2.1 bt364.2.2.2.1 bt364.2.2.2.2.1 bt364.2.2.2.2.2).bind fun t372 => (if t372 = true then (some true) else (some false))))
def laws_FnExactStateIndex.f (k : Nat) (l0_0 : List Int) (a0_1 : Int) (a0_2 : Int) (a0_3 : Int) (a0_4 : Int) (a0_5 : Bool) (a1_0 : Int) (a1_1 : Int) (a1_2 : Int) (a1_3 : Int) : Option (Bool) := (laws_szPuzzle.f l0_0 a0_1 a0_2 a0_3 a0_4 a0_5 1048576).bind fun t334 => (if t334 < 0 then (some true) else ((laws_toPuzzle.f k l0_0 a0_1 a0_2 a0_3 a0_4 a0_5).bind fun bt335 => ((laws_toWater.f k a1_0 a1_1 a1_2 a1_3).bind fun bt343 => ((spec_StateIndex.f k bt335.1 bt335.2.1 bt335.2.2.1 bt335.2.2.2.1 bt335.2.2.2.2.1 bt335.2.2.2.2.2 bt343.1 bt343.2.1 bt343.2.2.1 bt343.2.2.2).bind fun bt347 => ((laws_toPuzzle.f k l0_0 a0_1 a0_2 a0_3 a0_4 a0_5).bind fun bt349 => ((laws_toWater.f k a1_0 a1_1 a1_2 a1_3).bind fun bt358 => ((impl_StateIndex.f k bt349.1 bt349.2.1 bt349.2.2.1 bt349.2.2.2.1 bt349.2.2.2.2.1 bt349.2.2.2.2.2 bt358.1 bt358.2.1 bt358.2.2.1 bt358.2.2.2).bind fun bt362 => (if bt362.1 = bt347.1 then (laws_FnExactStateIndex.j0 k (bt362.2 != bt347.2) l0_0 a0_1 a0_2 a0_3 a0_4 a0_5 bt349.1 bt349.2.1 bt349.2.2.1 bt349.2.2.2.1 bt349.2.2.2.2.1 bt349.2.2.2.2.2) else (laws_FnExactStateIndex.j0 k true l0_0 a0_1 a0_2 a0_3 a0_4 a0_5 bt349.1 bt349.2.1 bt349.2.2.1 bt349.2.2.2.1 bt349.2.2.2.2.1 bt349.2.2.2.2.2)))))))))
theorem laws_FnExactStateIndex.mono_l : ∀ k, (∀ y0 y1 y2 y3 y4 y5 y6 y7 y8 y9 y10 y11 y12, LeO (laws_FnExactStateIndex.j0 k y0 y1 y2 y3 y4 y5 y6 y7 y8 y9 y10 y11 y12) (laws_FnExactStateIndex.j0 (k + 1) y0 y1 y2 y3 y4 y5 y6 y7 y8 y9 y10 y11 y12))
 | 0 => fun _ _ _ _ _ _ _ _ _ _ _ _ _ r h => by simp [laws_FnExactStateIndex.j0] at h
 | k + 1 => by
  have ih0 := laws_FnExactStateIndex.mono_l k
  ·intro y0 y1 y2 y3 y4 y5 y6 y7 y8 y9 y10 y11 y12
   unfold laws_FnExactStateIndex.j0
   repeat' first
   | (with_reducible exact ih0 _ _ _ _ _ _ _ _ _ _ _ _ _)
   | (with_reducible exact impl_StateIndex.mono _ _ _ _ _ _ _ _ _ _ _)
   | (with_reducible exact laws_eqPuzzle.mono _ _ _ _ _ _ _ _ _ _ _ _ _)
   | (with_reducible exact laws_toPuzzle.mono _ _ _ _ _ _ _)
   | (with_reducible exact laws_toWater.mono _ _ _ _ _)
   | (with_reducible exact spec_StateIndex.mono _ _ _ _ _ _ _ _ _ _ _)
   | (with_reducible exact LeO.refl _)
   | (with_reducible exact LeO.none _)
   | (with_reducible refine LeO.ite ?_ ?_)
   | (with_reducible refine LeO.bind ?_ (fun _ => ?_))
   | exact ih0 _ _ _ _ _ _ _ _ _ _ _ _ _
   | exact impl_StateIndex.mono _ _ _ _ _ _ _ _ _ _ _
   | exact laws_eqPuzzle.mono _ _ _ _ _ _ _ _ _ _ _ _ _
   | exact laws_toPuzzle.mono _ _ _ _ _ _ _
   | exact laws_toWater.mono _ _ _ _ _
   | exact spec_StateIndex.mono _ _ _ _ _ _ _ _ _ _ _
   | exact LeO.none _
   | refine LeO.ite ?_ ?_
   | refine LeO.bind ?_ (fun _ => ?_)
theorem laws_FnExactStateIndex.mono : ∀ a0 a1 a2 a3 a4 a5 a6 a7 a8 a9 k, LeO (laws_FnExactStateIndex.f k a0 a1 a2 a3 a4 a5 a6 a7 a8 a9) (laws_FnExactStateIndex.f (k + 1) a0 a1 a2 a3 a4 a5 a6 a7 a8 a9) := by
 intro a0 a1 a2 a3 a4 a5 a6 a7 a8 a9 k
 have ih0 := laws_FnExactStateIndex.mono_l k
 unfold laws_FnExactStateIndex.f
 repeat' first
   | (with_reducible exact ih0 _ _ _ _ _ _ _ _ _ _ _ _ _)
   | (with_reducible exact impl_StateIndex.mono _ _ _ _ _ _ _ _ _ _ _)
   | (with_reducible exact laws_eqPuzzle.mono _ _ _ _ _ _ _ _ _ _ _ _ _)
   | (with_reducible exact laws_toPuzzle.mono _ _ _ _ _ _ _)
   | (with_reducible exact laws_toWater.mono _ _ _ _ _)
   | (with_reducible exact spec_StateIndex.mono _ _ _ _ _ _ _ _ _ _ _)
   | (with_reducible exact LeO.refl _)
   | (with_reducible exact LeO.none _)
   | (with_reducible refine LeO.ite ?_ ?_)
   | (with_reducible refine LeO.bind ?_ (fun _ => ?_))
   | exact ih0 _ _ _ _ _ _ _ _ _ _ _ _ _
   | exact impl_StateIndex.mono _ _ _ _ _ _ _ _ _ _ _
   | exact laws_eqPuzzle.mono _ _ _ _ _ _ _ _ _ _ _ _ _
   | exact laws_toPuzzle.mono _ _ _ _ _ _ _
   | exact laws_toWater.mono _ _ _ _ _
   | exact spec_StateIndex.mono _ _ _ _ _ _ _ _ _ _ _
   | exact LeO.none _
   | refine LeO.ite ?_ ?_
   | refine LeO.bind ?_ (fun _ => ?_)
def laws_FnExactStateIndex.T5 : Bool × List (List Nat × List Nat) := (true, [([], []), ([0], [0]), ([], []), ([2, 1], [2]), ([1, 3, 3], [1, 3]), ([4], [4]), ([5], [5]), ([5], [5]), ([6, 4, 0, 1, 2, 3, 4, 5, 6], [6]), ([7, 8, 0, 1, 2, 3, 4, 5, 6, 7, 8], [7])])
def laws_FnExactStateIndex.B5 : List Nat := [0, 1, 0, 7, 15, 31, 63, 63, 127, 511]
theorem laws_FnExactStateIndex.tab5 : rtab .any (opsOf Try.f9 5) = laws_FnExactStateIndex.T5 := by kernel_rfl
theorem laws_FnExactStateIndex.bits5 : waitsOk laws_FnExactStateIndex.T5.2 laws_FnExactStateIndex.B5 = true := by kernel_rfl
def laws_FnExactStateIndex.T7 : Bool × List (List Nat × List Nat) := (true, [([], []), ([], []), ([1], [1]), ([0, 2, 2], [0, 2]), ([3], [3]), ([4], [4]), ([4], [4]), ([5, 3, 0, 1, 2, 3, 4, 5], [5]), ([6, 7, 0, 1, 2, 3, 4, 5, 6, 7], [6])])
def laws_FnExactStateIndex.B7 : List Nat := [0, 0, 2, 7, 15, 31, 31, 63, 255]
theorem laws_FnExactStateIndex.tab7 : rtab .any (opsOf Try.f9 7) = laws_FnExactStateIndex.T7 := by kernel_rfl
theorem laws_FnExactStateIndex.bits7 : waitsOk laws_FnExactStateIndex.T7.2 laws_FnExactStateIndex.B7 = true := by kernel_rfl
set_option maxHeartbeats 8000000 in
set_option maxRecDepth 100000 in
theorem laws_FnExactStateIndex.calls (k : Nat) (A0_0 : Option Addr) (c0_0 : Nat) (l0_0 : List Int) (a0_1 : Int) (a0_2 : Int) (a0_3 : Int) (a0_4 : Int) (a0_5 : Bool) (a1_0 : Int) (a1_1 : Int) (a1_2 : Int) (a1_3 : Int) (r : Bool) (w : World) (hr0_0 : Kd.C (Kd.int .i16) w A0_0 l0_0.length l0_0) (hc0_0 : l0_0.length ≤ c0_0) (h : laws_FnExactStateIndex.f k l0_0 a0_1 a0_2 a0_3 a0_4 a0_5 a1_0 a1_1 a1_2 a1_3 = some r) :
  Calls Try.prog 9 #[.agg #[.slice A0_0 l0_0.length c0_0, .int .i16 a0_1, .int .i16 a0_2, .int .i16 a0_3, .int .i16 a0_4, .bool a0_5], .agg #[.int .i16 a1_0, .int .i16 a1_1, .int .i16 a1_2, .int .i16 a1_3]] w fun e w' => e = .returned (.bool r) ∧ Below w.heap.size w w' := by
 have hu26 := Try.underlying26
 have hu24 := Try.underlying24
 have hu32 := Try.underlying32
 have HR0_0 := Aside0.mk hr0_0
 have HC0_0 := Aside0.mk hc0_0
 clear hr0_0 hc0_0
 have HB := A_ (Below.refl w.heap.size w)
 have H : ((laws_szPuzzle.f l0_0 a0_1 a0_2 a0_3 a0_4 a0_5 1048576).bind fun t334 => (if t334 < 0 then (some true) else ((laws_toPuzzle.f k l0_0 a0_1 a0_2 a0_3 a0_4 a0_5).bind fun bt335 => ((laws_toWater.f k a1_0 a1_1 a1_2 a1_3).bind fun bt343 => ((spec_StateIndex.f k bt335.1 bt335.2.1 bt335.2.2.1 bt335.2.2.2.1 bt335.2.2.2.2.1 bt335.2.2.2.2.2 bt343.1 bt343.2.1 bt343.2.2.1 bt343.2.2.2).bind fun bt347 => ((laws_toPuzzle.f k l0_0 a0_1 a0_2 a0_3 a0_4 a0_5).bind fun bt349 => ((laws_toWater.f k a1_0 a1_1 a1_2 a1_3).bind fun bt358 => ((impl_StateIndex.f k bt349.1 bt349.2.1 bt349.2.2.1 bt349.2.2.2.1 bt349.2.2.2.2.1 bt349.2.2.2.2.2 bt358.1 bt358.2.1 bt358.2.2.1 bt358.2.2.2).bind fun bt362 => (if bt362.1 = bt347.1 then (laws_FnExactStateIndex.j0 k (bt362.2 != bt347.2) l0_0 a0_1 a0_2 a0_3 a0_4 a0_5 bt349.1 bt349.2.1 bt349.2.2.1 bt349.2.2.2.1 bt349.2.2.2.2.1 bt349.2.2.2.2.2) else (laws_FnExactStateIndex.j0 k true l0_0 a0_1 a0_2 a0_3 a0_4 a0_5 bt349.1 bt349.2.1 bt349.2.2.1 bt349.2.2.2.1 bt349.2.2.2.2.1 bt349.2.2.2.2.2)))))))))) = some r := h
 clear h
 replace H := Option.bind_eq_some_iff.mp H
 obtain ⟨t334, A30, H⟩ := H
 replace H : (if t334 < 0 then (some true) else ((laws_toPuzzle.f k l0_0 a0_1 a0_2 a0_3 a0_4 a0_5).bind fun bt335 => ((laws_toWater.f k a1_0 a1_1 a1_2 a1_3).bind fun bt343 => ((spec_StateIndex.f k bt335.1 bt335.2.1 bt335.2.2.1 bt335.2.2.2.1 bt335.2.2.2.2.1 bt335.2.2.2.2.2 bt343.1 bt343.2.1 bt343.2.2.1 bt343.2.2.2).bind fun bt347 => ((laws_toPuzzle.f k l0_0 a0_1 a0_2 a0_3 a0_4 a0_5).bind fun bt349 => ((laws_toWater.f k a1_0 a1_1 a1_2 a1_3).bind fun bt358 => ((impl_StateIndex.f k bt349.1 bt349.2.1 bt349.2.2.1 bt349.2.2.2.1 bt349.2.2.2.2.1 bt349.2.2.2.2.2 bt358.1 bt358.2.1 bt358.2.2.1 bt358.2.2.2).bind fun bt362 => (if bt362.1 = bt347.1 then (laws_FnExactStateIndex.j0 k (bt362.2 != bt347.2) l0_0 a0_1 a0_2 a0_3 a0_4 a0_5 bt349.1 bt349.2.1 bt349.2.2.1 bt349.2.2.2.1 bt349.2.2.2.2.1 bt349.2.2.2.2.2) else (laws_FnExactStateIndex.j0 k true l0_0 a0_1 a0_2 a0_3 a0_4 a0_5 bt349.1 bt349.2.1 bt349.2.2.1 bt349.2.2.2.1 bt349.2.2.2.2.1 bt349.2.2.2.2.2))))))))) = some r := H
 have A3 := Aside0.mk A30
 clear A30
 by_cases c4 : t334 < 0
 ·rw [if_pos c4] at H
  have c4b0 : decide (t334 < 0) = true := decide_eq_true c4
  clear c4
  obtain rfl := Option.some.inj H
  go_enter Try.func9, Try.ntmps9
  go_wp2_with (first | ((with_reducible refine gate_dst (N := 2) rfl ?_); refine box_event ?hg (N := 2) ?hd (cs := #[.slice A0_0 l0_0.length c0_0, .int .i16 a0_1, .int .i16 a0_2, .int .i16 a0_3, .int .i16 a0_4, .bool a0_5]) (t := 26) ?hr ?_; (case hd => rfl); (case hg => rfl); (case hr => first | (go_simp; done) | (go_simp; rfl)); intro gb332 hg w5 hbox hb; have n0_ := A_ (below_step (bl_ HB) hb); have n1_ := A_ (hbox); have n2_ := A_ ((by rw [hg]; exact (below_size (bl_ HB)) : w.heap.size ≤ gb332)); have n3_ := n2_; clear HB; have HB := n0_; have BK332 := n1_; have GW332 := n2_; have GE332 := n3_; clear n0_ n1_ n2_ n3_; clear hb hbox hg) | ((with_reducible refine gate_dst (N := 3) rfl ?_); refine box_event ?hg (N := 3) ?hd (cs := #[.int .i16 a1_0, .int .i16 a1_1, .int .i16 a1_2, .int .i16 a1_3]) (t := 24) ?hr ?_; (case hd => rfl); (case hg => rfl); (case hr => first | (go_simp; done) | (go_simp; rfl)); intro gb333 hg w6 hbox hb; have n0_ := A_ (blk_below (pl_ BK332) hb); have n1_ := A_ (below_step (bl_ HB) hb); have n2_ := A_ (hbox); have n3_ := A_ ((by rw [hg]; exact (below_size (bl_ HB)) : w.heap.size ≤ gb333)); have n4_ := n3_; have n5_ := A_ ((by rw [hg]; exact Nat.ne_of_lt (blk_lt (pl_ BK332)) : gb332 ≠ gb333)); have n6_ := Aside0.mk n5_.out.symm; clear BK332; clear HB; have BK332 := n0_; have HB := n1_; have BK333 := n2_; have GW333 := n3_; have GE333 := n4_; have NB332_333 := n5_; have NB333_332 := n6_; clear n0_ n1_ n2_ n3_ n4_ n5_ n6_; clear hb hbox hg; have hnb7 := NB332_333.out; have hnc7 := NB333_332.out; have hcz8_0 : w6.cell? ⟨gb332, 0, none⟩ = some (.slice A0_0 l0_0.length c0_0) := (blk_cell BK332.out 0).trans rfl; have hcz8_1 : w6.cell? ⟨gb332, 1, none⟩ = some (.int .i16 a0_1) := (blk_cell BK332.out 1).trans rfl; have hcz8_2 : w6.cell? ⟨gb332, 2, none⟩ = some (.int .i16 a0_2) := (blk_cell BK332.out 2).trans rfl; have hcz8_3 : w6.cell? ⟨gb332, 3, none⟩ = some (.int .i16 a0_3) := (blk_cell BK332.out 3).trans rfl; have hcz8_4 : w6.cell? ⟨gb332, 4, none⟩ = some (.int .i16 a0_4) := (blk_cell BK332.out 4).trans rfl; have hcz8_5 : w6.cell? ⟨gb332, 5, none⟩ = some (.bool a0_5) := (blk_cell BK332.out 5).trans rfl; have hfz8_0 := blk_frozen BK332.out 0; have hfz8_1 := blk_frozen BK332.out 1; have hfz8_2 := blk_frozen BK332.out 2; have hfz8_3 := blk_frozen BK332.out 3; have hfz8_4 := blk_frozen BK332.out 4; have hfz8_5 := blk_frozen BK332.out 5) | ((with_reducible refine gate_callee (f := 16) rfl ?_); refine goesL_ (some 13) rfl rfl Try.func16 (by kernel_rfl) rfl #[.agg #[.slice A0_0 l0_0.length c0_0, .int .i16 a0_1, .int .i16 a0_2, .int .i16 a0_3, .int .i16 a0_4, .bool a0_5], .int .i64 1048576] rfl arg_ ?_; (with_reducible refine (laws_szPuzzle.calls _ _ l0_0 a0_1 a0_2 a0_3 a0_4 a0_5 1048576 t334 _ ?side1 ?side2 A3.out).mono ?_); (case side1 => repeat (first | exact (Kd.C_below HR0_0.out HB.out) | (with_reducible refine Kd.C_alloc ?_ _) | (with_reducible refine Kd.C_drewN ?_ _) | (with_reducible refine Kd.C_drew ?_))); (case side2 => exact HC0_0.out); rintro e w9 ⟨rfl, hb⟩; refine ⟨_, rfl, ?_⟩; have n0_ := A_ (blk_below (pl_ BK332) hb); have n1_ := A_ (blk_below (pl_ BK333) hb); have n2_ := A_ (below_step (bl_ HB) hb); clear BK332; clear BK333; clear HB; have BK332 := n0_; have BK333 := n1_; have HB := n2_; clear n0_ n1_ n2_; (try clear hb); (try clear hb2); (try clear hk); (try clear hi)))
  go_ret
  exact ⟨by first | rfl | (simp [errW_none, errW_some] <;> rfl) | (simp [*, errW_none, errW_some] <;> rfl), bl_ HB⟩
 ·rw [if_neg c4] at H
  have c4b0 : decide (t334 < 0) = false := decide_eq_false c4
  clear c4
  replace H := Option.bind_eq_some_iff.mp H
  obtain ⟨⟨t335, t338, t339, t340, t341, t342⟩, A100, H⟩ := H
  replace H : ((laws_toWater.f k a1_0 a1_1 a1_2 a1_3).bind fun bt343 => ((spec_StateIndex.f k t335 t338 t339 t340 t341 t342 bt343.1 bt343.2.1 bt343.2.2.1 bt343.2.2.2).bind fun bt347 => ((laws_toPuzzle.f k l0_0 a0_1 a0_2 a0_3 a0_4 a0_5).bind fun bt349 => ((laws_toWater.f k a1_0 a1_1 a1_2 a1_3).bind fun bt358 => ((impl_StateIndex.f k bt349.1 bt349.2.1 bt349.2.2.1 bt349.2.2.2.1 bt349.2.2.2.2.1 bt349.2.2.2.2.2 bt358.1 bt358.2.1 bt358.2.2.1 bt358.2.2.2).bind fun bt362 => (if bt362.1 = bt347.1 then (laws_FnExactStateIndex.j0 k (bt362.2 != bt347.2) l0_0 a0_1 a0_2 a0_3 a0_4 a0_5 bt349.1 bt349.2.1 bt349.2.2.1 bt349.2.2.2.1 bt349.2.2.2.2.1 bt349.2.2.2.2.2) else (laws_FnExactStateIndex.j0 k true l0_0 a0_1 a0_2 a0_3 a0_4 a0_5 bt349.1 bt349.2.1 bt349.2.2.1 bt349.2.2.2.1 bt349.2.2.2.2.1 bt349.2.2.2.2.2))))))) = some r := H
  have A10 := Aside0.mk A100
  clear A100
  replace H := Option.bind_eq_some_iff.mp H
  obtain ⟨⟨t343, t344, t345, t346⟩, A110, H⟩ := H
  replace H : ((spec_StateIndex.f k t335 t338 t339 t340 t341 t342 t343 t344 t345 t346).bind fun bt347 => ((laws_toPuzzle.f k l0_0 a0_1 a0_2 a0_3 a0_4 a0_5).bind fun bt349 => ((laws_toWater.f k a1_0 a1_1 a1_2 a1_3).bind fun bt358 => ((impl_StateIndex.f k bt349.1 bt349.2.1 bt349.2.2.1 bt349.2.2.2.1 bt349.2.2.2.2.1 bt349.2.2.2.2.2 bt358.1 bt358.2.1 bt358.2.2.1 bt358.2.2.2).bind fun bt362 => (if bt362.1 = bt347.1 then (laws_FnExactStateIndex.j0 k (bt362.2 != bt347.2) l0_0 a0_1 a0_2 a0_3 a0_4 a0_5 bt349.1 bt349.2.1 bt349.2.2.1 bt349.2.2.2.1 bt349.2.2.2.2.1 bt349.2.2.2.2.2) else (laws_FnExactStateIndex.j0 k true l0_0 a0_1 a0_2 a0_3 a0_4 a0_5 bt349.1 bt349.2.1 bt349.2.2.1 bt349.2.2.2.1 bt349.2.2.2.2.1 bt349.2.2.2.2.2)))))) = some r := H
  have A11 := Aside0.mk A110
  clear A110
  replace H := Option.bind_eq_some_iff.mp H
  obtain ⟨⟨t347, t348⟩, A120, H⟩ := H
  replace H : ((laws_toPuzzle.f k l0_0 a0_1 a0_2 a0_3 a0_4 a0_5).bind fun bt349 => ((laws_toWater.f k a1_0 a1_1 a1_2 a1_3).bind fun bt358 => ((impl_StateIndex.f k bt349.1 bt349.2.1 bt349.2.2.1 bt349.2.2.2.1 bt349.2.2.2.2.1 bt349.2.2.2.2.2 bt358.1 bt358.2.1 bt358.2.2.1 bt358.2.2.2).bind fun bt362 => (if bt362.1 = t347 then (laws_FnExactStateIndex.j0 k (bt362.2 != t348) l0_0 a0_1 a0_2 a0_3 a0_4 a0_5 bt349.1 bt349.2.1 bt349.2.2.1 bt349.2.2.2.1 bt349.2.2.2.2.1 bt349.2.2.2.2.2) else (laws_FnExactStateIndex.j0 k true l0_0 a0_1 a0_2 a0_3 a0_4 a0_5 bt349.1 bt349.2.1 bt349.2.2.1 bt349.2.2.2.1 bt349.2.2.2.2.1 bt349.2.2.2.2.2))))) = some r := H
  have A12 := Aside0.mk A120
  clear A120
  replace H := Option.bind_eq_some_iff.mp H
  obtain ⟨⟨t349, t352, t353, t354, t355, t356⟩, A130, H⟩ := H
  replace H : ((laws_toWater.f k a1_0 a1_1 a1_2 a1_3).bind fun bt358 => ((impl_StateIndex.f k t349 t352 t353 t354 t355 t356 bt358.1 bt358.2.1 bt358.2.2.1 bt358.2.2.2).bind fun bt362 => (if bt362.1 = t347 then (laws_FnExactStateIndex.j0 k (bt362.2 != t348) l0_0 a0_1 a0_2 a0_3 a0_4 a0_5 t349 t352 t353 t354 t355 t356) else (laws_FnExactStateIndex.j0 k true l0_0 a0_1 a0_2 a0_3 a0_4 a0_5 t349 t352 t353 t354 t355 t356)))) = some r := H
  have A13 := Aside0.mk A130
  clear A130
  replace H := Option.bind_eq_some_iff.mp H
  obtain ⟨⟨t358, t359, t360, t361⟩, A140, H⟩ := H
  replace H : ((impl_StateIndex.f k t349 t352 t353 t354 t355 t356 t358 t359 t360 t361).bind fun bt362 => (if bt362.1 = t347 then (laws_FnExactStateIndex.j0 k (bt362.2 != t348) l0_0 a0_1 a0_2 a0_3 a0_4 a0_5 t349 t352 t353 t354 t355 t356) else (laws_FnExactStateIndex.j0 k true l0_0 a0_1 a0_2 a0_3 a0_4 a0_5 t349 t352 t353 t354 t355 t356))) = some r := H
  have A14 := Aside0.mk A140
  clear A140
  replace H := Option.bind_eq_some_iff.mp H
  obtain ⟨⟨t362, t363⟩, A150, H⟩ := H
  replace H : (if t362 = t347 then (laws_FnExactStateIndex.j0 k (t363 != t348) l0_0 a0_1 a0_2 a0_3 a0_4 a0_5 t349 t352 t353 t354 t355 t356) else (laws_FnExactStateIndex.j0 k true l0_0 a0_1 a0_2 a0_3 a0_4 a0_5 t349 t352 t353 t354 t355 t356)) = some r := H
  have A15 := Aside0.mk A150
  clear A150
  have HC16 := Aside0.mk H
  clear H
  go_enter Try.func9, Try.ntmps9
  try go_wp2_with (first | ((with_reducible refine gate_dst (N := 2) rfl ?_); refine box_event ?hg (N := 2) ?hd (cs := #[.slice A0_0 l0_0.length c0_0, .int .i16 a0_1, .int .i16 a0_2, .int .i16 a0_3, .int .i16 a0_4, .bool a0_5]) (t := 26) ?hr ?_; (case hd => rfl); (case hg => rfl); (case hr => first | (go_simp; done) | (go_simp; rfl)); intro gb332 hg w17 hbox hb; have n0_ := A_ (below_step (bl_ HB) hb); have n1_ := A_ (hbox); have n2_ := A_ ((by rw [hg]; exact (below_size (bl_ HB)) : w.heap.size ≤ gb332)); have n3_ := n2_; clear HB; have HB := n0_; have BK332 := n1_; have GW332 := n2_; have GE332 := n3_; clear n0_ n1_ n2_ n3_; clear hb hbox hg) | ((with_reducible refine gate_dst (N := 3) rfl ?_); refine box_event ?hg (N := 3) ?hd (cs := #[.int .i16 a1_0, .int .i16 a1_1, .int .i16 a1_2, .int .i16 a1_3]) (t := 24) ?hr ?_; (case hd => rfl); (case hg => rfl); (case hr => first | (go_simp; done) | (go_simp; rfl)); intro gb333 hg w18 hbox hb; have n0_ := A_ (blk_below (pl_ BK332) hb); have n1_ := A_ (below_step (bl_ HB) hb); have n2_ := A_ (hbox); have n3_ := A_ ((by rw [hg]; exact (below_size (bl_ HB)) : w.heap.size ≤ gb333)); have n4_ := n3_; have n5_ := A_ ((by rw [hg]; exact Nat.ne_of_lt (blk_lt (pl_ BK332)) : gb332 ≠ gb333)); have n6_ := Aside0.mk n5_.out.symm; clear BK332; clear HB; have BK332 := n0_; have HB := n1_; have BK333 := n2_; have GW333 := n3_; have GE333 := n4_; have NB332_333 := n5_; have NB333_332 := n6_; clear n0_ n1_ n2_ n3_ n4_ n5_ n6_; clear hb hbox hg; have hnb19 := NB332_333.out; have hnc19 := NB333_332.out; have hcz20_0 : w18.cell? ⟨gb332, 0, none⟩ = some (.slice A0_0 l0_0.length c0_0) := (blk_cell BK332.out 0).trans rfl; have hcz20_1 : w18.cell? ⟨gb332, 1, none⟩ = some (.int .i16 a0_1) := (blk_cell BK332.out 1).trans rfl; have hcz20_2 : w18.cell? ⟨gb332, 2, none⟩ = some (.int .i16 a0_2) := (blk_cell BK332.out 2).trans rfl; have hcz20_3 : w18.cell? ⟨gb332, 3, none⟩ = some (.int .i16 a0_3) := (blk_cell BK332.out 3).trans rfl; have hcz20_4 : w18.cell? ⟨gb332, 4, none⟩ = some (.int .i16 a0_4) := (blk_cell BK332.out 4).trans rfl; have hcz20_5 : w18.cell? ⟨gb332, 5, none⟩ = some (.bool a0_5) := (blk_cell BK332.out 5).trans rfl; have hfz20_0 := blk_frozen BK332.out 0; have hfz20_1 := blk_frozen BK332.out 1; have hfz20_2 := blk_frozen BK332.out 2; have hfz20_3 := blk_frozen BK332.out 3; have hfz20_4 := blk_frozen BK332.out 4; have hfz20_5 := blk_frozen BK332.out 5) | ((with_reducible refine gate_callee (f := 16) rfl ?_); refine goesL_ (some 13) rfl rfl Try.func16 (by kernel_rfl) rfl #[.agg #[.slice A0_0 l0_0.length c0_0, .int .i16 a0_1, .int .i16 a0_2, .int .i16 a0_3, .int .i16 a0_4, .bool a0_5], .int .i64 1048576] rfl arg_ ?_; (with_reducible refine (laws_szPuzzle.calls _ _ l0_0 a0_1 a0_2 a0_3 a0_4 a0_5 1048576 t334 _ ?side1 ?side2 A3.out).mono ?_); (case side1 => repeat (first | exact (Kd.C_below HR0_0.out HB.out) | (with_reducible refine Kd.C_alloc ?_ _) | (with_reducible refine Kd.C_drewN ?_ _) | (with_reducible refine Kd.C_drew ?_))); (case side2 => exact HC0_0.out); rintro e w21 ⟨rfl, hb⟩; refine ⟨_, rfl, ?_⟩; have n0_ := A_ (blk_below (pl_ BK332) hb); have n1_ := A_ (blk_below (pl_ BK333) hb); have n2_ := A_ (below_step (bl_ HB) hb); clear BK332; clear BK333; clear HB; have BK332 := n0_; have BK333 := n1_; have HB := n2_; clear n0_ n1_ n2_; (try clear hb); (try clear hb2); (try clear hk); (try clear hi)))
  have n0_ := A_ (blk_drew BK332.out)
  have n1_ := A_ (blk_drew BK333.out)
  have n2_ := A_ (below_drew1 HB.out)
  clear BK332
  clear BK333
  clear HB
  have BK332 := n0_
  have BK333 := n1_
  have HB := n2_
  clear n0_ n1_ n2_
  refine start_ (n := 10) (S := fun w' => w'.cell? ⟨gb332, 0, none⟩ = some (.slice A0_0 l0_0.length c0_0) ∧ w'.cell? ⟨gb332, 1, none⟩ = some (.int .i16 a0_1) ∧ w'.cell? ⟨gb332, 2, none⟩ = some (.int .i16 a0_2) ∧ w'.cell? ⟨gb332, 3, none⟩ = some (.int .i16 a0_3) ∧ w'.cell? ⟨gb332, 4, none⟩ = some (.int .i16 a0_4) ∧ w'.cell? ⟨gb332, 5, none⟩ = some (.bool a0_5) ∧ w'.cell? ⟨gb333, 0, none⟩ = some (.int .i16 a1_0) ∧ w'.cell? ⟨gb333, 1, none⟩ = some (.int .i16 a1_1) ∧ w'.cell? ⟨gb333, 2, none⟩ = some (.int .i16 a1_2) ∧ w'.cell? ⟨gb333, 3, none⟩ = some (.int .i16 a1_3)) (ds := []) #[false, false, false, false, false, false, false, false, false, false] (by kernel_rfl) rfl rfl ⟨(blk_cell BK332.out 0).trans rfl, (blk_cell BK332.out 1).trans rfl, (blk_cell BK332.out 2).trans rfl, (blk_cell BK332.out 3).trans rfl, (blk_cell BK332.out 4).trans rfl, (blk_cell BK332.out 5).trans rfl, (blk_cell BK333.out 0).trans rfl, (blk_cell BK333.out 1).trans rfl, (blk_cell BK333.out 2).trans rfl, (blk_cell BK333.out 3).trans rfl⟩ (fun hHeld => ?_); refine with_tabW laws_FnExactStateIndex.tab5 laws_FnExactStateIndex.bits5 (fun HT_ HW_ => ?_)
  generalize w21.drew = w22 at BK332 BK333 HB hHeld ⊢
  refine take_ (i := 0) (N := some 17) (v := ?_) (a' := ?_) #[true, false, false, false, false, false, false, false, false, false] rfl rfl (take_ofW HT_.out HW_.out (by kernel_rfl)) (fun _ _ _ h => h) (Or.inl ⟨by rfl, ?_⟩) hHeld ?_ ?_
  rotate_left
  ·rintro w' ⟨s0, s1, s2, s3, s4, s5, s6, s7, s8, s9⟩
   go_simp
   with_reducible rfl
  rotate_left
  ·simp only [Act.put, List.setIfInBounds_toArray, List.set_cons_zero, List.set_cons_succ, i64_w, i32_w]
   rfl
  refine take_ (i := 2) (N := some 19) (v := ?_) (a' := ?_) #[true, false, true, false, false, false, false, false, false, false] rfl rfl (take_ofW HT_.out HW_.out (by kernel_rfl)) (fun _ _ _ h => h) (Or.inl ⟨by rfl, ?_⟩) hHeld ?_ ?_
  rotate_left
  ·rintro w' ⟨s0, s1, s2, s3, s4, s5, s6, s7, s8, s9⟩
   go_simp
   with_reducible rfl
  rotate_left
  ·simp only [Act.put, List.setIfInBounds_toArray, List.set_cons_zero, List.set_cons_succ, i64_w, i32_w]
   rfl
  refine one_ (i := 1) (N := some 18) #[true, true, true, false, false, false, false, false, false, false] rfl rfl (one_of HT_.out (by kernel_rfl)) (by decide) (fun K hK => ?_)
  refine goes_ Try.func18 (by kernel_rfl) rfl #[.agg #[.slice A0_0 l0_0.length c0_0, .int .i16 a0_1, .int .i16 a0_2, .int .i16 a0_3, .int .i16 a0_4, .bool a0_5]] (by rfl) rfl rfl arg_ ?_
  with_reducible refine (laws_toPuzzle.calls k _ _ l0_0 a0_1 a0_2 a0_3 a0_4 a0_5 t335 t338 t339 t340 t341 t342 _ ?side1 ?side2 A10.out).mono ?_
  (case side1 => repeat (first | exact (Kd.C_below HR0_0.out HB.out) | (with_reducible refine Kd.C_alloc ?_ _) | (with_reducible refine Kd.C_drewN ?_ _) | (with_reducible refine Kd.C_drew ?_)))
  (case side2 => exact HC0_0.out)
  rintro e w23 ⟨v336, rfl, ho0, hb⟩
  refine ⟨_, rfl, ?_⟩
  have n0_ := A_ (Kd.R_lower ho0 (below_size (bl_ HB)))
  have n1_ := A_ (blk_below (pl_ BK332) hb)
  have n2_ := A_ (blk_below (pl_ BK333) hb)
  have n3_ := A_ (below_step (bl_ HB) hb)
  clear BK332
  clear BK333
  clear HB
  have HO337 := n0_
  have BK332 := n1_
  have BK333 := n2_
  have HB := n3_
  clear n0_ n1_ n2_ n3_
  (try clear hb)
  (try clear hb2)
  (try clear hk)
  (try clear hi)
  (try clear ho0)
  refine hK.out _ _ ⟨(blk_cell BK332.out 0).trans rfl, (blk_cell BK332.out 1).trans rfl, (blk_cell BK332.out 2).trans rfl, (blk_cell BK332.out 3).trans rfl, (blk_cell BK332.out 4).trans rfl, (blk_cell BK332.out 5).trans rfl, (blk_cell BK333.out 0).trans rfl, (blk_cell BK333.out 1).trans rfl, (blk_cell BK333.out 2).trans rfl, (blk_cell BK333.out 3).trans rfl⟩ (fun hHeld => ?_)
  clear hK K
  refine norm_ (a' := ?_) ?_ ?_
  rotate_left
  ·show Act.put _ (some 18) _ = _
   simp only [Act.put, List.setIfInBounds_toArray, List.set_cons_zero, List.set_cons_succ, i64_w, i32_w]
   rfl
  refine one_ (i := 3) (N := some 20) #[true, true, true, true, false, false, false, false, false, false] rfl rfl (one_of HT_.out (by kernel_rfl)) (by decide) (fun K hK => ?_)
  refine goes_ Try.func26 (by kernel_rfl) rfl #[.agg #[.int .i16 a1_0, .int .i16 a1_1, .int .i16 a1_2, .int .i16 a1_3]] (by rfl) rfl rfl arg_ ?_
  with_reducible refine (laws_toWater.calls k a1_0 a1_1 a1_2 a1_3 t343 t344 t345 t346 _ A11.out).mono ?_
  rintro e w24 ⟨rfl, hb⟩
  refine ⟨_, rfl, ?_⟩
  have n0_ := A_ (Kd.R_below (pr_ HO337) hb)
  have n1_ := A_ (blk_below (pl_ BK332) hb)
  have n2_ := A_ (blk_below (pl_ BK333) hb)
  have n3_ := A_ (below_step (bl_ HB) hb)
  clear HO337
  clear BK332
  clear BK333
  clear HB
  have HO337 := n0_
  have BK332 := n1_
  have BK333 := n2_
  have HB := n3_
  clear n0_ n1_ n2_ n3_
  (try clear hb)
  (try clear hb2)
  (try clear hk)
  (try clear hi)
  obtain ⟨Ao25, co25, eo25⟩ := Kd.R_slice HO337.out
  (first | subst eo25 | (injection eo25 with f1_ f2_ f3_; have f4_ := f1_.symm; have f5_ := f3_.symm; clear f1_ f2_ f3_; subst f4_; subst f5_))
  refine hK.out _ _ ⟨(blk_cell BK332.out 0).trans rfl, (blk_cell BK332.out 1).trans rfl, (blk_cell BK332.out 2).trans rfl, (blk_cell BK332.out 3).trans rfl, (blk_cell BK332.out 4).trans rfl, (blk_cell BK332.out 5).trans rfl, (blk_cell BK333.out 0).trans rfl, (blk_cell BK333.out 1).trans rfl, (blk_cell BK333.out 2).trans rfl, (blk_cell BK333.out 3).trans rfl⟩ (fun hHeld => ?_)
  clear hK K
  refine norm_ (a' := ?_) ?_ ?_
  rotate_left
  ·show Act.put _ (some 20) _ = _
   simp only [Act.put, List.setIfInBounds_toArray, List.set_cons_zero, List.set_cons_succ, i64_w, i32_w]
   rfl
  refine one_ (i := 4) (N := some 21) #[true, true, true, true, true, false, false, false, false, false] rfl rfl (one_of HT_.out (by kernel_rfl)) (by decide) (fun K hK => ?_)
  refine goes_ Try.func35 (by kernel_rfl) rfl #[.agg #[.slice Ao25 t335.length co25, .int .i16 t338, .int .i16 t339, .int .i16 t340, .int .i16 t341, .bool t342], .agg #[.int .i16 t343, .int .i16 t344, .int .i16 t345, .int .i16 t346]] (by rfl) rfl rfl arg_ ?_
  with_reducible refine (spec_StateIndex.calls k _ _ t335 t338 t339 t340 t341 t342 t343 t344 t345 t346 t347 t348 _ ?side1 ?side2 A12.out).mono ?_
  (case side1 => repeat (first | exact (Kd.R_reads' HO337.out).2.2 | (with_reducible refine Kd.C_alloc ?_ _) | (with_reducible refine Kd.C_drewN ?_ _) | (with_reducible refine Kd.C_drew ?_)))
  (case side2 => exact (Kd.R_reads' HO337.out).2.1)
  rintro e w26 ⟨rfl, hb⟩
  refine ⟨_, rfl, ?_⟩
  have n0_ := A_ (Kd.R_below (pr_ HO337) hb)
  have n1_ := A_ (blk_below (pl_ BK332) hb)
  have n2_ := A_ (blk_below (pl_ BK333) hb)
  have n3_ := A_ (below_step (bl_ HB) hb)
  clear HO337
  clear BK332
  clear BK333
  clear HB
  have HO337 := n0_
  have BK332 := n1_
  have BK333 := n2_
  have HB := n3_
  clear n0_ n1_ n2_ n3_
  (try clear hb)
  (try clear hb2)
  (try clear hk)
  (try clear hi)
  refine hK.out _ _ ⟨(blk_cell BK332.out 0).trans rfl, (blk_cell BK332.out 1).trans rfl, (blk_cell BK332.out 2).trans rfl, (blk_cell BK332.out 3).trans rfl, (blk_cell BK332.out 4).trans rfl, (blk_cell BK332.out 5).trans rfl, (blk_cell BK333.out 0).trans rfl, (blk_cell BK333.out 1).trans rfl, (blk_cell BK333.out 2).trans rfl, (blk_cell BK333.out 3).trans rfl⟩ (fun hHeld => ?_)
  clear hK K
  refine norm_ (a' := ?_) ?_ ?_
  rotate_left
  ·show Act.put _ (some 21) _ = _
   simp only [Act.put, List.setIfInBounds_toArray, List.set_cons_zero, List.set_cons_succ, i64_w, i32_w]
   rfl
  refine pure_ (i := 5) (N := some 16) (v := ?_) (a' := ?_) #[true, true, true, true, true, true, false, false, false, false] rfl rfl (any_of HT_.out (by kernel_rfl)) (fun _ _ _ h => h) (Or.inl ⟨by rfl, ?_⟩) ?_ ?_
  rotate_left
  ·intro w'
   go_simp
   with_reducible rfl
  rotate_left
  ·simp only [Act.put, List.setIfInBounds_toArray, List.set_cons_zero, List.set_cons_succ, i64_w, i32_w]
   rfl
  refine pure_ (i := 6) (N := some 22) (v := ?_) (a' := ?_) #[true, true, true, true, true, true, true, false, false, false] rfl rfl (any_of HT_.out (by kernel_rfl)) (fun _ _ _ h => h) (Or.inl ⟨by rfl, ?_⟩) ?_ ?_
  rotate_left
  ·intro w'
   go_simp
   with_reducible rfl
  rotate_left
  ·simp only [Act.put, List.setIfInBounds_toArray, List.set_cons_zero, List.set_cons_succ, i64_w, i32_w]
   rfl
  refine pure_ (i := 7) (N := some 23) (v := ?_) (a' := ?_) #[true, true, true, true, true, true, true, true, false, false] rfl rfl (any_of HT_.out (by kernel_rfl)) (fun _ _ _ h => h) (Or.inl ⟨by rfl, ?_⟩) ?_ ?_
  rotate_left
  ·intro w'
   go_simp
   with_reducible rfl
  rotate_left
  ·simp only [Act.put, List.setIfInBounds_toArray, List.set_cons_zero, List.set_cons_succ, i64_w, i32_w]
   rfl
  refine pure_ (i := 8) (N := some 6) (v := ?_) (a' := ?_) #[true, true, true, true, true, true, true, true, true, false] rfl rfl (any_of HT_.out (by kernel_rfl)) (fun _ _ _ h => h) (Or.inl ⟨by rfl, ?_⟩) ?_ ?_
  rotate_left
  ·intro w'
   go_simp
   with_reducible rfl
  rotate_left
  ·simp only [Act.put, List.setIfInBounds_toArray, List.set_cons_zero, List.set_cons_succ, i64_w, i32_w]
   rfl
  refine pure_ (i := 9) (N := some 7) (v := ?_) (a' := ?_) #[true, true, true, true, true, true, true, true, true, true] rfl rfl (any_of HT_.out (by kernel_rfl)) (fun _ _ _ h => h) (Or.inl ⟨by rfl, ?_⟩) ?_ ?_
  rotate_left
  ·intro w'
   go_simp
   with_reducible rfl
  rotate_left
  ·simp only [Act.put, List.setIfInBounds_toArray, List.set_cons_zero, List.set_cons_succ, i64_w, i32_w]
   rfl
  refine done_ (done_of HT_.out (by kernel_rfl)) ?_
  have hcz27_0 : w26.cell? ⟨gb332, 0, none⟩ = some (.slice A0_0 l0_0.length c0_0) := (blk_cell BK332.out 0).trans rfl
  have hcz27_1 : w26.cell? ⟨gb332, 1, none⟩ = some (.int .i16 a0_1) := (blk_cell BK332.out 1).trans rfl
  have hcz27_2 : w26.cell? ⟨gb332, 2, none⟩ = some (.int .i16 a0_2) := (blk_cell BK332.out 2).trans rfl
  have hcz27_3 : w26.cell? ⟨gb332, 3, none⟩ = some (.int .i16 a0_3) := (blk_cell BK332.out 3).trans rfl
  have hcz27_4 : w26.cell? ⟨gb332, 4, none⟩ = some (.int .i16 a0_4) := (blk_cell BK332.out 4).trans rfl
  have hcz27_5 : w26.cell? ⟨gb332, 5, none⟩ = some (.bool a0_5) := (blk_cell BK332.out 5).trans rfl
  have hfz27_0 := blk_frozen BK332.out 0
  have hfz27_1 := blk_frozen BK332.out 1
  have hfz27_2 := blk_frozen BK332.out 2
  have hfz27_3 := blk_frozen BK332.out 3
  have hfz27_4 := blk_frozen BK332.out 4
  have hfz27_5 := blk_frozen BK332.out 5
  try go_wp2_with (first | ((with_reducible refine gate_callee (f := 18) rfl ?_); refine goesL_ (some 25) rfl rfl Try.func18 (by kernel_rfl) rfl #[.agg #[.slice A0_0 l0_0.length c0_0, .int .i16 a0_1, .int .i16 a0_2, .int .i16 a0_3, .int .i16 a0_4, .bool a0_5]] rfl arg_ ?_; (with_reducible refine (laws_toPuzzle.calls k _ _ l0_0 a0_1 a0_2 a0_3 a0_4 a0_5 t349 t352 t353 t354 t355 t356 _ ?side1 ?side2 A13.out).mono ?_); (case side1 => repeat (first | exact (Kd.C_below HR0_0.out HB.out) | (with_reducible refine Kd.C_alloc ?_ _) | (with_reducible refine Kd.C_drewN ?_ _) | (with_reducible refine Kd.C_drew ?_))); (case side2 => exact HC0_0.out); rintro e w28 ⟨v350, rfl, ho0, hb⟩; refine ⟨_, rfl, ?_⟩; have n0_ := A_ (Kd.R_elder' (pr_ HO337) (Kd.R_base ho0) hb); have n1_ := A_ (Kd.R_lower (Kd.R_new' ho0 (Kd.R_lt (pr_ HO337))) (below_size (bl_ HB))); have n2_ := A_ (blk_below (pl_ BK332) hb); have n3_ := A_ (blk_below (pl_ BK333) hb); have n4_ := A_ (below_step (bl_ HB) hb); clear HO337; clear BK332; clear BK333; clear HB; have HO337 := n0_; have HO351 := n1_; have BK332 := n2_; have BK333 := n3_; have HB := n4_; clear n0_ n1_ n2_ n3_ n4_; (try clear hb); (try clear hb2); (try clear hk); (try clear hi); (try clear ho0)) | ((with_reducible refine gate_dst (N := 8) rfl ?_); refine box_event ?hg (N := 8) ?hd (cs := #[.slice none 0 0, .int .i16 0, .int .i16 0, .int .i16 0, .int .i16 0, .bool false]) (t := 32) ?hr ?_; (case hd => rfl); (case hg => rfl); (case hr => first | (go_simp; done) | (go_simp; rfl)); intro gb357 hg w29 hbox hb; have n0_ := A_ (Kd.R_below (pr_ HO337) hb); have n1_ := A_ (Kd.R_below (pr_ HO351) hb); have n2_ := A_ (blk_below (pl_ BK332) hb); have n3_ := A_ (blk_below (pl_ BK333) hb); have n4_ := A_ (below_step (bl_ HB) hb); have n5_ := A_ (hbox); have n6_ := A_ ((by rw [hg]; exact (below_size (bl_ HB)) : w.heap.size ≤ gb357)); have n7_ := n6_; have n8_ := A_ ((by rw [hg]; exact Nat.ne_of_lt (blk_lt (pl_ BK332)) : gb332 ≠ gb357)); have n9_ := Aside0.mk n8_.out.symm; have n10_ := A_ ((by rw [hg]; exact Nat.ne_of_lt (blk_lt (pl_ BK333)) : gb333 ≠ gb357)); have n11_ := Aside0.mk n10_.out.symm; clear HO337; clear HO351; clear BK332; clear BK333; clear HB; have HO337 := n0_; have HO351 := n1_; have BK332 := n2_; have BK333 := n3_; have HB := n4_; have BK357 := n5_; have GW357 := n6_; have GE357 := n7_; have NB332_357 := n8_; have NB357_332 := n9_; have NB333_357 := n10_; have NB357_333 := n11_; clear n0_ n1_ n2_ n3_ n4_ n5_ n6_ n7_ n8_ n9_ n10_ n11_; clear hb hbox hg; obtain ⟨Ao30, co30, eo30⟩ := Kd.R_slice HO351.out; subst eo30; have hnb31 := NB357_332.out; have hnc31 := NB332_357.out; have hnb32 := NB357_333.out; have hnc32 := NB333_357.out; have hcz33_0 : w29.cell? ⟨gb357, 0, none⟩ = some (.slice none 0 0) := (blk_cell BK357.out 0).trans rfl; have hcz33_1 : w29.cell? ⟨gb357, 1, none⟩ = some (.int .i16 0) := (blk_cell BK357.out 1).trans rfl; have hcz33_2 : w29.cell? ⟨gb357, 2, none⟩ = some (.int .i16 0) := (blk_cell BK357.out 2).trans rfl; have hcz33_3 : w29.cell? ⟨gb357, 3, none⟩ = some (.int .i16 0) := (blk_cell BK357.out 3).trans rfl; have hcz33_4 : w29.cell? ⟨gb357, 4, none⟩ = some (.int .i16 0) := (blk_cell BK357.out 4).trans rfl; have hcz33_5 : w29.cell? ⟨gb357, 5, none⟩ = some (.bool false) := (blk_cell BK357.out 5).trans rfl; have hfz33_0 := blk_frozen BK357.out 0; have hfz33_1 := blk_frozen BK357.out 1; have hfz33_2 := blk_frozen BK357.out 2; have hfz33_3 := blk_frozen BK357.out 3; have hfz33_4 := blk_frozen BK357.out 4; have hfz33_5 := blk_frozen BK357.out 5))
  have n0_ : Aside0 (Kd.R (Kd.int .i16) 23 ((((((w29.setCell ⟨gb357, 0, none⟩ (.slice Ao30 t349.length co30)).setCell ⟨gb357, 1, none⟩ (.int .i16 t352)).setCell ⟨gb357, 2, none⟩ (.int .i16 t353)).setCell ⟨gb357, 3, none⟩ (.int .i16 t354)).setCell ⟨gb357, 4, none⟩ (.int .i16 t355)).setCell ⟨gb357, 5, none⟩ (.bool t356)) w.heap.size (fun k_ => some k_ ≠ (.slice Ao30 t349.length co30 : Value).ownBlock) (.slice Ao25 t335.length co25) t335) := ⟨by (with_reducible repeat (first | apply Kd.R_alloc | apply Kd.R_drewN | apply Kd.R_drew)); exact Kd.R_mono (Kd.R_far (p := ⟨gb357, 5, none⟩) (Kd.R_far (p := ⟨gb357, 4, none⟩) (Kd.R_far (p := ⟨gb357, 3, none⟩) (Kd.R_far (p := ⟨gb357, 2, none⟩) (Kd.R_far (p := ⟨gb357, 1, none⟩) (Kd.R_far (p := ⟨gb357, 0, none⟩) (Kd.R_types HO337.out BK357.out (by decide)) (fun _ hk => hk.2) (.slice Ao30 t349.length co30)) (fun _ hk => hk.2) (.int .i16 t352)) (fun _ hk => hk.2) (.int .i16 t353)) (fun _ hk => hk.2) (.int .i16 t354)) (fun _ hk => hk.2) (.int .i16 t355)) (fun _ hk => hk.2) (.bool t356)) (fun _ hk => hk.1.2)⟩
  have n1_ : Aside0 (Kd.R (Kd.int .i16) 23 ((((((w29.setCell ⟨gb357, 0, none⟩ (.slice Ao30 t349.length co30)).setCell ⟨gb357, 1, none⟩ (.int .i16 t352)).setCell ⟨gb357, 2, none⟩ (.int .i16 t353)).setCell ⟨gb357, 3, none⟩ (.int .i16 t354)).setCell ⟨gb357, 4, none⟩ (.int .i16 t355)).setCell ⟨gb357, 5, none⟩ (.bool t356)) w.heap.size (fun k_ => some k_ ≠ (.slice Ao25 t335.length co25 : Value).ownBlock) (.slice Ao30 t349.length co30) t349) := ⟨by (with_reducible repeat (first | apply Kd.R_alloc | apply Kd.R_drewN | apply Kd.R_drew)); exact Kd.R_mono (Kd.R_far (p := ⟨gb357, 5, none⟩) (Kd.R_far (p := ⟨gb357, 4, none⟩) (Kd.R_far (p := ⟨gb357, 3, none⟩) (Kd.R_far (p := ⟨gb357, 2, none⟩) (Kd.R_far (p := ⟨gb357, 1, none⟩) (Kd.R_far (p := ⟨gb357, 0, none⟩) (Kd.R_types HO351.out BK357.out (by decide)) (fun _ hk => hk.2) (.slice Ao30 t349.length co30)) (fun _ hk => hk.2) (.int .i16 t352)) (fun _ hk => hk.2) (.int .i16 t353)) (fun _ hk => hk.2) (.int .i16 t354)) (fun _ hk => hk.2) (.int .i16 t355)) (fun _ hk => hk.2) (.bool t356)) (fun _ hk => hk.1.2)⟩
  have n2_ : Aside0 (((((((w29.setCell ⟨gb357, 0, none⟩ (.slice Ao30 t349.length co30)).setCell ⟨gb357, 1, none⟩ (.int .i16 t352)).setCell ⟨gb357, 2, none⟩ (.int .i16 t353)).setCell ⟨gb357, 3, none⟩ (.int .i16 t354)).setCell ⟨gb357, 4, none⟩ (.int .i16 t355)).setCell ⟨gb357, 5, none⟩ (.bool t356)).heap[gb332]? = some (.cells #[.slice A0_0 l0_0.length c0_0, .int .i16 a0_1, .int .i16 a0_2, .int .i16 a0_3, .int .i16 a0_4, .bool a0_5] 26 (0, 0))) := ⟨pf_ BK332 NB332_357⟩
  have n3_ : Aside0 (((((((w29.setCell ⟨gb357, 0, none⟩ (.slice Ao30 t349.length co30)).setCell ⟨gb357, 1, none⟩ (.int .i16 t352)).setCell ⟨gb357, 2, none⟩ (.int .i16 t353)).setCell ⟨gb357, 3, none⟩ (.int .i16 t354)).setCell ⟨gb357, 4, none⟩ (.int .i16 t355)).setCell ⟨gb357, 5, none⟩ (.bool t356)).heap[gb333]? = some (.cells #[.int .i16 a1_0, .int .i16 a1_1, .int .i16 a1_2, .int .i16 a1_3] 24 (0, 0))) := ⟨pf_ BK333 NB333_357⟩
  have n4_ : Aside0 (((((((w29.setCell ⟨gb357, 0, none⟩ (.slice Ao30 t349.length co30)).setCell ⟨gb357, 1, none⟩ (.int .i16 t352)).setCell ⟨gb357, 2, none⟩ (.int .i16 t353)).setCell ⟨gb357, 3, none⟩ (.int .i16 t354)).setCell ⟨gb357, 4, none⟩ (.int .i16 t355)).setCell ⟨gb357, 5, none⟩ (.bool t356)).heap[gb357]? = some (.cells #[.slice Ao30 t349.length co30, .int .i16 t352, .int .i16 t353, .int .i16 t354, .int .i16 t355, .bool t356] 32 (0, 0))) := ⟨by (with_reducible repeat (first | refine blk_drewN ?_ _ | refine blk_drew ?_ | refine blk_alloc ?_ _)); refine blk_put (cs := #[.slice Ao30 t349.length co30, .int .i16 t352, .int .i16 t353, .int .i16 t354, .int .i16 t355, .bool false]) ?_ 5 _ rfl; (with_reducible repeat (first | refine blk_drewN ?_ _ | refine blk_drew ?_ | refine blk_alloc ?_ _)); refine blk_put (cs := #[.slice Ao30 t349.length co30, .int .i16 t352, .int .i16 t353, .int .i16 t354, .int .i16 0, .bool false]) ?_ 4 _ rfl; (with_reducible repeat (first | refine blk_drewN ?_ _ | refine blk_drew ?_ | refine blk_alloc ?_ _)); refine blk_put (cs := #[.slice Ao30 t349.length co30, .int .i16 t352, .int .i16 t353, .int .i16 0, .int .i16 0, .bool false]) ?_ 3 _ rfl; (with_reducible repeat (first | refine blk_drewN ?_ _ | refine blk_drew ?_ | refine blk_alloc ?_ _)); refine blk_put (cs := #[.slice Ao30 t349.length co30, .int .i16 t352, .int .i16 0, .int .i16 0, .int .i16 0, .bool false]) ?_ 2 _ rfl; (with_reducible repeat (first | refine blk_drewN ?_ _ | refine blk_drew ?_ | refine blk_alloc ?_ _)); refine blk_put (cs := #[.slice Ao30 t349.length co30, .int .i16 0, .int .i16 0, .int .i16 0, .int .i16 0, .bool false]) ?_ 1 _ rfl; (with_reducible repeat (first | refine blk_drewN ?_ _ | refine blk_drew ?_ | refine blk_alloc ?_ _)); refine blk_put (cs := #[.slice none 0 0, .int .i16 0, .int .i16 0, .int .i16 0, .int .i16 0, .bool false]) ?_ 0 _ rfl; (with_reducible repeat (first | refine blk_drewN ?_ _ | refine blk_drew ?_ | refine blk_alloc ?_ _)); exact BK357.out⟩
  have n5_ : Aside0 (Below w.heap.size w ((((((w29.setCell ⟨gb357, 0, none⟩ (.slice Ao30 t349.length co30)).setCell ⟨gb357, 1, none⟩ (.int .i16 t352)).setCell ⟨gb357, 2, none⟩ (.int .i16 t353)).setCell ⟨gb357, 3, none⟩ (.int .i16 t354)).setCell ⟨gb357, 4, none⟩ (.int .i16 t355)).setCell ⟨gb357, 5, none⟩ (.bool t356))) := ⟨bs_ HB GE357⟩
  (try clear HO337)
  (try clear HO351)
  (try clear BK332)
  (try clear BK333)
  (try clear BK357)
  (try clear HB)
  generalize ((((((w29.setCell ⟨gb357, 0, none⟩ (.slice Ao30 t349.length co30)).setCell ⟨gb357, 1, none⟩ (.int .i16 t352)).setCell ⟨gb357, 2, none⟩ (.int .i16 t353)).setCell ⟨gb357, 3, none⟩ (.int .i16 t354)).setCell ⟨gb357, 4, none⟩ (.int .i16 t355)).setCell ⟨gb357, 5, none⟩ (.bool t356)) = w34 at n0_ n1_ n2_ n3_ n4_ n5_ ⊢
  have HO337 := n0_
  have HO351 := n1_
  have BK332 := n2_
  have BK333 := n3_
  have BK357 := n4_
  have HB := n5_
  clear n0_ n1_ n2_ n3_ n4_ n5_
  have n0_ := A_ (Kd.R_drew HO337.out)
  have n1_ := A_ (Kd.R_drew HO351.out)
  have n2_ := A_ (blk_drew BK332.out)
  have n3_ := A_ (blk_drew BK333.out)
  have n4_ := A_ (blk_drew BK357.out)
  have n5_ := A_ (below_drew1 HB.out)
  clear HO337
  clear HO351
  clear BK332
  clear BK333
  clear BK357
  clear HB
  have HO337 := n0_
  have HO351 := n1_
  have BK332 := n2_
  have BK333 := n3_
  have BK357 := n4_
  have HB := n5_
  clear n0_ n1_ n2_ n3_ n4_ n5_
  refine start_ (n := 9) (S := fun w' => w'.cell? ⟨gb357, 0, none⟩ = some (.slice Ao30 t349.length co30) ∧ w'.cell? ⟨gb357, 1, none⟩ = some (.int .i16 t352) ∧ w'.cell? ⟨gb357, 2, none⟩ = some (.int .i16 t353) ∧ w'.cell? ⟨gb357, 3, none⟩ = some (.int .i16 t354) ∧ w'.cell? ⟨gb357, 4, none⟩ = some (.int .i16 t355) ∧ w'.cell? ⟨gb357, 5, none⟩ = some (.bool t356) ∧ w'.cell? ⟨gb333, 0, none⟩ = some (.int .i16 a1_0) ∧ w'.cell? ⟨gb333, 1, none⟩ = some (.int .i16 a1_1) ∧ w'.cell? ⟨gb333, 2, none⟩ = some (.int .i16 a1_2) ∧ w'.cell? ⟨gb333, 3, none⟩ = some (.int .i16 a1_3)) (ds := []) #[false, false, false, false, false, false, false, false, false] (by kernel_rfl) rfl rfl ⟨(blk_cell BK357.out 0).trans rfl, (blk_cell BK357.out 1).trans rfl, (blk_cell BK357.out 2).trans rfl, (blk_cell BK357.out 3).trans rfl, (blk_cell BK357.out 4).trans rfl, (blk_cell BK357.out 5).trans rfl, (blk_cell BK333.out 0).trans rfl, (blk_cell BK333.out 1).trans rfl, (blk_cell BK333.out 2).trans rfl, (blk_cell BK333.out 3).trans rfl⟩ (fun hHeld => ?_); refine with_tabW laws_FnExactStateIndex.tab7 laws_FnExactStateIndex.bits7 (fun HT_ HW_ => ?_)
  generalize w34.drew = w35 at HO337 HO351 BK332 BK333 BK357 HB hHeld ⊢
  refine take_ (i := 0) (N := some 27) (v := ?_) (a' := ?_) #[true, false, false, false, false, false, false, false, false] rfl rfl (take_ofW HT_.out HW_.out (by kernel_rfl)) (fun _ _ _ h => h) (Or.inl ⟨by rfl, ?_⟩) hHeld ?_ ?_
  rotate_left
  ·rintro w' ⟨s0, s1, s2, s3, s4, s5, s6, s7, s8, s9⟩
   go_simp
   with_reducible rfl
  rotate_left
  ·simp only [Act.put, List.setIfInBounds_toArray, List.set_cons_zero, List.set_cons_succ, i64_w, i32_w]
   rfl
  refine take_ (i := 1) (N := some 28) (v := ?_) (a' := ?_) #[true, true, false, false, false, false, false, false, false] rfl rfl (take_ofW HT_.out HW_.out (by kernel_rfl)) (fun _ _ _ h => h) (Or.inl ⟨by rfl, ?_⟩) hHeld ?_ ?_
  rotate_left
  ·rintro w' ⟨s0, s1, s2, s3, s4, s5, s6, s7, s8, s9⟩
   go_simp
   with_reducible rfl
  rotate_left
  ·simp only [Act.put, List.setIfInBounds_toArray, List.set_cons_zero, List.set_cons_succ, i64_w, i32_w]
   rfl
  refine one_ (i := 2) (N := some 29) #[true, true, true, false, false, false, false, false, false] rfl rfl (one_of HT_.out (by kernel_rfl)) (by decide) (fun K hK => ?_)
  refine goes_ Try.func26 (by kernel_rfl) rfl #[.agg #[.int .i16 a1_0, .int .i16 a1_1, .int .i16 a1_2, .int .i16 a1_3]] (by rfl) rfl rfl arg_ ?_
  with_reducible refine (laws_toWater.calls k a1_0 a1_1 a1_2 a1_3 t358 t359 t360 t361 _ A14.out).mono ?_
  rintro e w36 ⟨rfl, hb⟩
  refine ⟨_, rfl, ?_⟩
  have n0_ := A_ (Kd.R_below (pr_ HO337) hb)
  have n1_ := A_ (Kd.R_below (pr_ HO351) hb)
  have n2_ := A_ (blk_below (pl_ BK332) hb)
  have n3_ := A_ (blk_below (pl_ BK333) hb)
  have n4_ := A_ (blk_below (pl_ BK357) hb)
  have n5_ := A_ (below_step (bl_ HB) hb)
  clear HO337
  clear HO351
  clear BK332
  clear BK333
  clear BK357
  clear HB
  have HO337 := n0_
  have HO351 := n1_
  have BK332 := n2_
  have BK333 := n3_
  have BK357 := n4_
  have HB := n5_
  clear n0_ n1_ n2_ n3_ n4_ n5_
  (try clear hb)
  (try clear hb2)
  (try clear hk)
  (try clear hi)
  refine hK.out _ _ ⟨(blk_cell BK357.out 0).trans rfl, (blk_cell BK357.out 1).trans rfl, (blk_cell BK357.out 2).trans rfl, (blk_cell BK357.out 3).trans rfl, (blk_cell BK357.out 4).trans rfl, (blk_cell BK357.out 5).trans rfl, (blk_cell BK333.out 0).trans rfl, (blk_cell BK333.out 1).trans rfl, (blk_cell BK333.out 2).trans rfl, (blk_cell BK333.out 3).trans rfl⟩ (fun hHeld => ?_)
  clear hK K
  refine norm_ (a' := ?_) ?_ ?_
  rotate_left
  ·show Act.put _ (some 29) _ = _
   simp only [Act.put, List.setIfInBounds_toArray, List.set_cons_zero, List.set_cons_succ, i64_w, i32_w]
   rfl
  refine one_ (i := 3) (N := some 30) #[true, true, true, true, false, false, false, false, false] rfl rfl (one_of HT_.out (by kernel_rfl)) (by decide) (fun K hK => ?_)
  refine goes_ Try.func36 (by kernel_rfl) rfl #[.agg #[.slice Ao30 t349.length co30, .int .i16 t352, .int .i16 t353, .int .i16 t354, .int .i16 t355, .bool t356], .agg #[.int .i16 t358, .int .i16 t359, .int .i16 t360, .int .i16 t361]] (by rfl) rfl rfl arg_ ?_
  with_reducible refine (impl_StateIndex.calls k _ _ t349 t352 t353 t354 t355 t356 t358 t359 t360 t361 t362 t363 _ ?side1 ?side2 A15.out).mono ?_
  (case side1 => repeat (first | exact (Kd.R_reads' HO351.out).2.2 | (with_reducible refine Kd.C_alloc ?_ _) | (with_reducible refine Kd.C_drewN ?_ _) | (with_reducible refine Kd.C_drew ?_)))
  (case side2 => exact (Kd.R_reads' HO351.out).2.1)
  rintro e w37 ⟨rfl, hb⟩
  refine ⟨_, rfl, ?_⟩
  have n0_ := A_ (Kd.R_below (pr_ HO337) hb)
  have n1_ := A_ (Kd.R_below (pr_ HO351) hb)
  have n2_ := A_ (blk_below (pl_ BK332) hb)
  have n3_ := A_ (blk_below (pl_ BK333) hb)
  have n4_ := A_ (blk_below (pl_ BK357) hb)
  have n5_ := A_ (below_step (bl_ HB) hb)
  clear HO337
  clear HO351
  clear BK332
  clear BK333
  clear BK357
  clear HB
  have HO337 := n0_
  have HO351 := n1_
  have BK332 := n2_
  have BK333 := n3_
  have BK357 := n4_
  have HB := n5_
  clear n0_ n1_ n2_ n3_ n4_ n5_
  (try clear hb)
  (try clear hb2)
  (try clear hk)
  (try clear hi)
  refine hK.out _ _ ⟨(blk_cell BK357.out 0).trans rfl, (blk_cell BK357.out 1).trans rfl, (blk_cell BK357.out 2).trans rfl, (blk_cell BK357.out 3).trans rfl, (blk_cell BK357.out 4).trans rfl, (blk_cell BK357.out 5).trans rfl, (blk_cell BK333.out 0).trans rfl, (blk_cell BK333.out 1).trans rfl, (blk_cell BK333.out 2).trans rfl, (blk_cell BK333.out 3).trans rfl⟩ (fun hHeld => ?_)
  clear hK K
  refine norm_ (a' := ?_) ?_ ?_
  rotate_left
  ·show Act.put _ (some 30) _ = _
   simp only [Act.put, List.setIfInBounds_toArray, List.set_cons_zero, List.set_cons_succ, i64_w, i32_w]
   rfl
  refine pure_ (i := 4) (N := some 26) (v := ?_) (a' := ?_) #[true, true, true, true, true, false, false, false, false] rfl rfl (any_of HT_.out (by kernel_rfl)) (fun _ _ _ h => h) (Or.inl ⟨by rfl, ?_⟩) ?_ ?_
  rotate_left
  ·intro w'
   go_simp
   with_reducible rfl
  rotate_left
  ·simp only [Act.put, List.setIfInBounds_toArray, List.set_cons_zero, List.set_cons_succ, i64_w, i32_w]
   rfl
  refine pure_ (i := 5) (N := some 31) (v := ?_) (a' := ?_) #[true, true, true, true, true, true, false, false, false] rfl rfl (any_of HT_.out (by kernel_rfl)) (fun _ _ _ h => h) (Or.inl ⟨by rfl, ?_⟩) ?_ ?_
  rotate_left
  ·intro w'
   go_simp
   with_reducible rfl
  rotate_left
  ·simp only [Act.put, List.setIfInBounds_toArray, List.set_cons_zero, List.set_cons_succ, i64_w, i32_w]
   rfl
  refine pure_ (i := 6) (N := some 32) (v := ?_) (a' := ?_) #[true, true, true, true, true, true, true, false, false] rfl rfl (any_of HT_.out (by kernel_rfl)) (fun _ _ _ h => h) (Or.inl ⟨by rfl, ?_⟩) ?_ ?_
  rotate_left
  ·intro w'
   go_simp
   with_reducible rfl
  rotate_left
  ·simp only [Act.put, List.setIfInBounds_toArray, List.set_cons_zero, List.set_cons_succ, i64_w, i32_w]
   rfl
  refine pure_ (i := 7) (N := some 9) (v := ?_) (a' := ?_) #[true, true, true, true, true, true, true, true, false] rfl rfl (any_of HT_.out (by kernel_rfl)) (fun _ _ _ h => h) (Or.inl ⟨by rfl, ?_⟩) ?_ ?_
  rotate_left
  ·intro w'
   go_simp
   with_reducible rfl
  rotate_left
  ·simp only [Act.put, List.setIfInBounds_toArray, List.set_cons_zero, List.set_cons_succ, i64_w, i32_w]
   rfl
  refine pure_ (i := 8) (N := some 10) (v := ?_) (a' := ?_) #[true, true, true, true, true, true, true, true, true] rfl rfl (any_of HT_.out (by kernel_rfl)) (fun _ _ _ h => h) (Or.inl ⟨by rfl, ?_⟩) ?_ ?_
  rotate_left
  ·intro w'
   go_simp
   with_reducible rfl
  rotate_left
  ·simp only [Act.put, List.setIfInBounds_toArray, List.set_cons_zero, List.set_cons_succ, i64_w, i32_w]
   rfl
  refine done_ (done_of HT_.out (by kernel_rfl)) ?_
  go_upto_region 8 with (fail)
  go_cut [40] (fun v40 wc => ∃ (kq : Nat) (x40_15 : Bool), v40 = .bool x40_15 ∧ Aside0 (laws_FnExactStateIndex.j0 kq x40_15 l0_0 a0_1 a0_2 a0_3 a0_4 a0_5 t349 t352 t353 t354 t355 t356 = some r) ∧ Aside0 (kq ≤ k) ∧ Aside0 (Kd.R (Kd.int .i16) 23 wc w.heap.size (fun _ => True) (.slice Ao30 t349.length co30) t349) ∧ Aside0 (wc.heap[gb332]? = some (.cells #[(.slice A0_0 l0_0.length c0_0), .int .i16 a0_1, .int .i16 a0_2, .int .i16 a0_3, .int .i16 a0_4, .bool a0_5] 26 (0, 0))) ∧ Aside0 (wc.heap[gb333]? = some (.cells #[.int .i16 a1_0, .int .i16 a1_1, .int .i16 a1_2, .int .i16 a1_3] 24 (0, 0))) ∧ Aside0 (wc.heap[gb357]? = some (.cells #[(.slice Ao30 t349.length co30), .int .i16 t352, .int .i16 t353, .int .i16 t354, .int .i16 t355, .bool t356] 32 (0, 0))) ∧ Aside0 (Below w.heap.size w wc))
  case first =>
   have H := HC16.out
   clear HC16
   by_cases c38 : t362 = t347
   ·rw [if_pos c38] at H
    have c38b0 : (t362 == t347) = true := beq_iff_eq.mpr c38
    have c38b1 : (t362 != t347) = false := bne_eq_false_iff_eq.mpr c38
    clear c38
    (first | rw [c38b0] | (simp only [i64_w, i32_w]; rw [c38b0]) | skip)
    have H' := Aside0.mk H
    clear H
    go_wp2
    go_meet
    case rel => exact ⟨_, ((t363 != t348)), rs_, H', ⟨by first | omega | exact Nat.le_refl _⟩, ⟨by (with_reducible repeat (first | apply Kd.R_alloc | apply Kd.R_drewN | apply Kd.R_drew)); exact Kd.R_mono HO351.out (fun _ hk => trivial)⟩, ⟨pl_ BK332⟩, ⟨pl_ BK333⟩, ⟨pl_ BK357⟩, ⟨bl_ HB⟩⟩
   ·rw [if_neg c38] at H
    have c38b0 : (t362 == t347) = false := beq_eq_false_iff_ne.mpr c38
    have c38b1 : (t362 != t347) = true := bne_iff_ne.mpr c38
    (first | rw [c38b0] | (simp only [i64_w, i32_w]; rw [c38b0]) | skip)
    have H' := Aside0.mk H
    clear H
    go_wp2
    go_meet
    case rel => exact ⟨_, (true), rs_, H', ⟨by first | omega | exact Nat.le_refl _⟩, ⟨by (with_reducible repeat (first | apply Kd.R_alloc | apply Kd.R_drewN | apply Kd.R_drew)); exact Kd.R_mono HO351.out (fun _ hk => trivial)⟩, ⟨pl_ BK332⟩, ⟨pl_ BK333⟩, ⟨pl_ BK357⟩, ⟨bl_ HB⟩⟩
  case rest =>
   clear HC16
   try clear c1
   try clear c2
   try clear p2
   try clear c3
   try clear c4
   try clear c4b0
   try clear c7
   try clear c9
   try clear c16
   try clear c18
   try clear c19
   try clear c26
   try clear c31
   try clear c32
   try clear c35
   try clear c36
   try clear c38
   try clear c38b0
   try clear c38b1
   try clear hcz20_0
   try clear hcz20_1
   try clear hcz20_2
   try clear hcz20_3
   try clear hcz20_4
   try clear hcz20_5
   try clear hcz27_0
   try clear hcz27_1
   try clear hcz27_2
   try clear hcz27_3
   try clear hcz27_4
   try clear hcz27_5
   try clear hcz33_0
   try clear hcz33_1
   try clear hcz33_2
   try clear hcz33_3
   try clear hcz33_4
   try clear hcz33_5
   try clear hcz8_0
   try clear hcz8_1
   try clear hcz8_2
   try clear hcz8_3
   try clear hcz8_4
   try clear hcz8_5
   try clear hfz20_0
   try clear hfz20_1
   try clear hfz20_2
   try clear hfz20_3
   try clear hfz20_4
   try clear hfz20_5
   try clear hfz27_0
   try clear hfz27_1
   try clear hfz27_2
   try clear hfz27_3
   try clear hfz27_4
   try clear hfz27_5
   try clear hfz33_0
   try clear hfz33_1
   try clear hfz33_2
   try clear hfz33_3
   try clear hfz33_4
   try clear hfz33_5
   try clear hfz8_0
   try clear hfz8_1
   try clear hfz8_2
   try clear hfz8_3
   try clear hfz8_4
   try clear hfz8_5
   obtain ⟨kq, x40_15, rfl, HA, HJ15, HO_358000, BK332, BK333, BK357, HB⟩ := hcut
   cases kq with
   | zero => exact absurd HA.out (by simp [laws_FnExactStateIndex.j0])
   | succ kj15 =>
    have H := HA.out
    clear HA
    simp only [laws_FnExactStateIndex.j0] at H
    by_cases c39 : x40_15 = true
    ·subst c39
     have H1 : (some false) = some r := by rw [if_pos rfl] at H; exact H
     clear H
     have H := H1
     clear H1
     obtain rfl := Option.some.inj H
     go_wp2
     go_ret
     exact ⟨by first | rfl | (simp [errW_none, errW_some] <;> rfl) | (simp [*, errW_none, errW_some] <;> rfl), bl_ HB⟩
    ·replace c39 := Bool.eq_false_iff.mpr c39
     subst c39
     have H1 : ((laws_toPuzzle.f kj15 l0_0 a0_1 a0_2 a0_3 a0_4 a0_5).bind fun bt364 => ((laws_eqPuzzle.f kj15 t349 t352 t353 t354 t355 t356 bt364.1 bt364.2.1 bt364.2.2.1 bt364.2.2.2.1 bt364.2.2.2.2.1 bt364.2.2.2.2.2).bind fun t372 => (if t372 = true then (some true) else (some false)))) = some r := by rw [if_neg (show ¬ (false = true) by decide)] at H; exact H
     clear H
     have H := H1
     clear H1
     replace H := Option.bind_eq_some_iff.mp H
     obtain ⟨⟨t364, t367, t368, t369, t370, t371⟩, A400, H⟩ := H
     replace H : ((laws_eqPuzzle.f kj15 t349 t352 t353 t354 t355 t356 t364 t367 t368 t369 t370 t371).bind fun t372 => (if t372 = true then (some true) else (some false))) = some r := H
     have A40 := Aside0.mk A400
     clear A400
     replace H := Option.bind_eq_some_iff.mp H
     obtain ⟨t372, A410, H⟩ := H
     replace H : (if t372 = true then (some true) else (some false)) = some r := H
     have A41 := Aside0.mk A410
     clear A410
     by_cases c42 : t372 = true
     ·subst c42
      have H1 : (some true) = some r := by rw [if_pos rfl] at H; exact H
      clear H
      have H := H1
      clear H1
      obtain rfl := Option.some.inj H
      try go_wp2
      have n0_ := A_ (Kd.R_drew HO_358000.out)
      have n1_ := A_ (blk_drew BK332.out)
      have n2_ := A_ (blk_drew BK333.out)
      have n3_ := A_ (blk_drew BK357.out)
      have n4_ := A_ (below_drew1 HB.out)
      clear HO_358000
      clear BK332
      clear BK333
      clear BK357
      clear HB
      have HO_358000 := n0_
      have BK332 := n1_
      have BK333 := n2_
      have BK357 := n3_
      have HB := n4_
      clear n0_ n1_ n2_ n3_ n4_
      refine start_ (n := 5) (S := fun w' => w'.cell? ⟨gb357, 0, none⟩ = some (.slice Ao30 t349.length co30) ∧ w'.cell? ⟨gb357, 1, none⟩ = some (.int .i16 t352) ∧ w'.cell? ⟨gb357, 2, none⟩ = some (.int .i16 t353) ∧ w'.cell? ⟨gb357, 3, none⟩ = some (.int .i16 t354) ∧ w'.cell? ⟨gb357, 4, none⟩ = some (.int .i16 t355) ∧ w'.cell? ⟨gb357, 5, none⟩ = some (.bool t356) ∧ w'.cell? ⟨gb332, 0, none⟩ = some (.slice A0_0 l0_0.length c0_0) ∧ w'.cell? ⟨gb332, 1, none⟩ = some (.int .i16 a0_1) ∧ w'.cell? ⟨gb332, 2, none⟩ = some (.int .i16 a0_2) ∧ w'.cell? ⟨gb332, 3, none⟩ = some (.int .i16 a0_3) ∧ w'.cell? ⟨gb332, 4, none⟩ = some (.int .i16 a0_4) ∧ w'.cell? ⟨gb332, 5, none⟩ = some (.bool a0_5)) (ds := []) #[false, false, false, false, false] (by kernel_rfl) rfl rfl ⟨(blk_cell BK357.out 0).trans rfl, (blk_cell BK357.out 1).trans rfl, (blk_cell BK357.out 2).trans rfl, (blk_cell BK357.out 3).trans rfl, (blk_cell BK357.out 4).trans rfl, (blk_cell BK357.out 5).trans rfl, (blk_cell BK332.out 0).trans rfl, (blk_cell BK332.out 1).trans rfl, (blk_cell BK332.out 2).trans rfl, (blk_cell BK332.out 3).trans rfl, (blk_cell BK332.out 4).trans rfl, (blk_cell BK332.out 5).trans rfl⟩ (fun hHeld => ?_)
      generalize wc.drew = w43 at HO_358000 BK332 BK333 BK357 HB hHeld ⊢
      refine take_ (i := 0) (N := some 41) (v := ?_) (a' := ?_) #[true, false, false, false, false] rfl rfl (by kernel_rfl) (fun _ _ _ h => h) (Or.inl ⟨by rfl, ?_⟩) hHeld ?_ ?_
      rotate_left
      ·rintro w' ⟨s0, s1, s2, s3, s4, s5, s6, s7, s8, s9, s10, s11⟩
       go_simp
       with_reducible rfl
      rotate_left
      ·simp only [Act.put, List.setIfInBounds_toArray, List.set_cons_zero, List.set_cons_succ, i64_w, i32_w]
       rfl
      refine take_ (i := 1) (N := some 42) (v := ?_) (a' := ?_) #[true, true, false, false, false] rfl rfl (by kernel_rfl) (fun _ _ _ h => h) (Or.inl ⟨by rfl, ?_⟩) hHeld ?_ ?_
      rotate_left
      ·rintro w' ⟨s0, s1, s2, s3, s4, s5, s6, s7, s8, s9, s10, s11⟩
       go_simp
       with_reducible rfl
      rotate_left
      ·simp only [Act.put, List.setIfInBounds_toArray, List.set_cons_zero, List.set_cons_succ, i64_w, i32_w]
       rfl
      refine one_ (i := 2) (N := some 43) #[true, true, true, false, false] rfl rfl (by kernel_rfl) (by decide) (fun K hK => ?_)
      refine goes_ Try.func18 (by kernel_rfl) rfl #[.agg #[.slice A0_0 l0_0.length c0_0, .int .i16 a0_1, .int .i16 a0_2, .int .i16 a0_3, .int .i16 a0_4, .bool a0_5]] (by rfl) rfl rfl arg_ ?_
      with_reducible refine (laws_toPuzzle.calls kj15 _ _ l0_0 a0_1 a0_2 a0_3 a0_4 a0_5 t364 t367 t368 t369 t370 t371 _ ?side1 ?side2 A40.out).mono ?_
      (case side1 => repeat (first | exact (Kd.C_below HR0_0.out HB.out) | (with_reducible refine Kd.C_alloc ?_ _) | (with_reducible refine Kd.C_drewN ?_ _) | (with_reducible refine Kd.C_drew ?_)))
      (case side2 => exact HC0_0.out)
      rintro e w44 ⟨v365, rfl, ho0, hb⟩
      refine ⟨_, rfl, ?_⟩
      have n0_ := A_ (Kd.R_elder' (pr_ HO_358000) (Kd.R_base ho0) hb)
      have n1_ := A_ (Kd.R_lower (Kd.R_new' ho0 (Kd.R_lt (pr_ HO_358000))) (below_size (bl_ HB)))
      have n2_ := A_ (blk_below (pl_ BK332) hb)
      have n3_ := A_ (blk_below (pl_ BK333) hb)
      have n4_ := A_ (blk_below (pl_ BK357) hb)
      have n5_ := A_ (below_step (bl_ HB) hb)
      clear HO_358000
      clear BK332
      clear BK333
      clear BK357
      clear HB
      have HO_358000 := n0_
      have HO366 := n1_
      have BK332 := n2_
      have BK333 := n3_
      have BK357 := n4_
      have HB := n5_
      clear n0_ n1_ n2_ n3_ n4_ n5_
      (try clear hb)
      (try clear hb2)
      (try clear hk)
      (try clear hi)
      (try clear ho0)
      obtain ⟨Ao45, co45, eo45⟩ := Kd.R_slice HO366.out
      (first | subst eo45 | (injection eo45 with f1_ f2_ f3_; have f4_ := f1_.symm; have f5_ := f3_.symm; clear f1_ f2_ f3_; subst f4_; subst f5_))
      refine hK.out _ _ ⟨(blk_cell BK357.out 0).trans rfl, (blk_cell BK357.out 1).trans rfl, (blk_cell BK357.out 2).trans rfl, (blk_cell BK357.out 3).trans rfl, (blk_cell BK357.out 4).trans rfl, (blk_cell BK357.out 5).trans rfl, (blk_cell BK332.out 0).trans rfl, (blk_cell BK332.out 1).trans rfl, (blk_cell BK332.out 2).trans rfl, (blk_cell BK332.out 3).trans rfl, (blk_cell BK332.out 4).trans rfl, (blk_cell BK332.out 5).trans rfl⟩ (fun hHeld => ?_)
      clear hK K
      refine norm_ (a' := ?_) ?_ ?_
      rotate_left
      ·show Act.put _ (some 43) _ = _
       simp only [Act.put, List.setIfInBounds_toArray, List.set_cons_zero, List.set_cons_succ, i64_w, i32_w]
       rfl
      refine one_ (i := 3) (N := some 44) #[true, true, true, true, false] rfl rfl (by kernel_rfl) (by decide) (fun K hK => ?_)
      refine goes_ Try.func21 (by kernel_rfl) rfl #[.agg #[.slice Ao30 t349.length co30, .int .i16 t352, .int .i16 t353, .int .i16 t354, .int .i16 t355, .bool t356], .agg #[.slice Ao45 t364.length co45, .int .i16 t367, .int .i16 t368, .int .i16 t369, .int .i16 t370, .bool t371]] (by rfl) rfl rfl arg_ ?_
      with_reducible refine (laws_eqPuzzle.calls kj15 _ _ t349 t352 t353 t354 t355 t356 _ _ t364 t367 t368 t369 t370 t371 true _ ?side1 ?side2 ?side3 ?side4 A41.out).mono ?_
      (case side1 => repeat (first | exact (Kd.R_reads' HO_358000.out).2.2 | (with_reducible refine Kd.C_alloc ?_ _) | (with_reducible refine Kd.C_drewN ?_ _) | (with_reducible refine Kd.C_drew ?_)))
      (case side2 => exact (Kd.R_reads' HO_358000.out).2.1)
      (case side3 => repeat (first | exact (Kd.R_reads' HO366.out).2.2 | (with_reducible refine Kd.C_alloc ?_ _) | (with_reducible refine Kd.C_drewN ?_ _) | (with_reducible refine Kd.C_drew ?_)))
      (case side4 => exact (Kd.R_reads' HO366.out).2.1)
      rintro e w46 ⟨rfl, hb⟩
      refine ⟨_, rfl, ?_⟩
      have n0_ := A_ (Kd.R_below (pr_ HO_358000) hb)
      have n1_ := A_ (Kd.R_below (pr_ HO366) hb)
      have n2_ := A_ (blk_below (pl_ BK332) hb)
      have n3_ := A_ (blk_below (pl_ BK333) hb)
      have n4_ := A_ (blk_below (pl_ BK357) hb)
      have n5_ := A_ (below_step (bl_ HB) hb)
      clear HO_358000
      clear HO366
      clear BK332
      clear BK333
      clear BK357
      clear HB
      have HO_358000 := n0_
      have HO366 := n1_
      have BK332 := n2_
      have BK333 := n3_
      have BK357 := n4_
      have HB := n5_
      clear n0_ n1_ n2_ n3_ n4_ n5_
      (try clear hb)
      (try clear hb2)
      (try clear hk)
      (try clear hi)
      refine hK.out _ _ ⟨(blk_cell BK357.out 0).trans rfl, (blk_cell BK357.out 1).trans rfl, (blk_cell BK357.out 2).trans rfl, (blk_cell BK357.out 3).trans rfl, (blk_cell BK357.out 4).trans rfl, (blk_cell BK357.out 5).trans rfl, (blk_cell BK332.out 0).trans rfl, (blk_cell BK332.out 1).trans rfl, (blk_cell BK332.out 2).trans rfl, (blk_cell BK332.out 3).trans rfl, (blk_cell BK332.out 4).trans rfl, (blk_cell BK332.out 5).trans rfl⟩ (fun hHeld => ?_)
      clear hK K
      refine norm_ (a' := ?_) ?_ ?_
      rotate_left
      ·show Act.put _ (some 44) _ = _
       simp only [Act.put, List.setIfInBounds_toArray, List.set_cons_zero, List.set_cons_succ, i64_w, i32_w]
       rfl
      refine pure_ (i := 4) (N := some 45) (v := ?_) (a' := ?_) #[true, true, true, true, true] rfl rfl (by kernel_rfl) (fun _ _ _ h => h) (Or.inl ⟨by rfl, ?_⟩) ?_ ?_
      rotate_left
      ·intro w'
       go_simp
       with_reducible rfl
      rotate_left
      ·simp only [Act.put, List.setIfInBounds_toArray, List.set_cons_zero, List.set_cons_succ, i64_w, i32_w]
       rfl
      refine done_ (by kernel_rfl) ?_
      try go_wp2
      go_ret
      exact ⟨by first | rfl | (simp [errW_none, errW_some] <;> rfl) | (simp [*, errW_none, errW_some] <;> rfl), bl_ HB⟩
     ·replace c42 := Bool.eq_false_iff.mpr c42
      subst c42
      have H1 : (some false) = some r := by rw [if_neg (show ¬ (false = true) by decide)] at H; exact H
      clear H
      have H := H1
      clear H1
      obtain rfl := Option.some.inj H
      try go_wp2
      have n0_ := A_ (Kd.R_drew HO_358000.out)
      have n1_ := A_ (blk_drew BK332.out)
      have n2_ := A_ (blk_drew BK333.out)
      have n3_ := A_ (blk_drew BK357.out)
      have n4_ := A_ (below_drew1 HB.out)
      clear HO_358000
      clear BK332
      clear BK333
      clear BK357
      clear HB
      have HO_358000 := n0_
      have BK332 := n1_
      have BK333 := n2_
      have BK357 := n3_
      have HB := n4_
      clear n0_ n1_ n2_ n3_ n4_
      refine start_ (n := 5) (S := fun w' => w'.cell? ⟨gb357, 0, none⟩ = some (.slice Ao30 t349.length co30) ∧ w'.cell? ⟨gb357, 1, none⟩ = some (.int .i16 t352) ∧ w'.cell? ⟨gb357, 2, none⟩ = some (.int .i16 t353) ∧ w'.cell? ⟨gb357, 3, none⟩ = some (.int .i16 t354) ∧ w'.cell? ⟨gb357, 4, none⟩ = some (.int .i16 t355) ∧ w'.cell? ⟨gb357, 5, none⟩ = some (.bool t356) ∧ w'.cell? ⟨gb332, 0, none⟩ = some (.slice A0_0 l0_0.length c0_0) ∧ w'.cell? ⟨gb332, 1, none⟩ = some (.int .i16 a0_1) ∧ w'.cell? ⟨gb332, 2, none⟩ = some (.int .i16 a0_2) ∧ w'.cell? ⟨gb332, 3, none⟩ = some (.int .i16 a0_3) ∧ w'.cell? ⟨gb332, 4, none⟩ = some (.int .i16 a0_4) ∧ w'.cell? ⟨gb332, 5, none⟩ = some (.bool a0_5)) (ds := []) #[false, false, false, false, false] (by kernel_rfl) rfl rfl ⟨(blk_cell BK357.out 0).trans rfl, (blk_cell BK357.out 1).trans rfl, (blk_cell BK357.out 2).trans rfl, (blk_cell BK357.out 3).trans rfl, (blk_cell BK357.out 4).trans rfl, (blk_cell BK357.out 5).trans rfl, (blk_cell BK332.out 0).trans rfl, (blk_cell BK332.out 1).trans rfl, (blk_cell BK332.out 2).trans rfl, (blk_cell BK332.out 3).trans rfl, (blk_cell BK332.out 4).trans rfl, (blk_cell BK332.out 5).trans rfl⟩ (fun hHeld => ?_)
      generalize wc.drew = w47 at HO_358000 BK332 BK333 BK357 HB hHeld ⊢
      refine take_ (i := 0) (N := some 41) (v := ?_) (a' := ?_) #[true, false, false, false, false] rfl rfl (by kernel_rfl) (fun _ _ _ h => h) (Or.inl ⟨by rfl, ?_⟩) hHeld ?_ ?_
      rotate_left
      ·rintro w' ⟨s0, s1, s2, s3, s4, s5, s6, s7, s8, s9, s10, s11⟩
       go_simp
       with_reducible rfl
      rotate_left
      ·simp only [Act.put, List.setIfInBounds_toArray, List.set_cons_zero, List.set_cons_succ, i64_w, i32_w]
       rfl
      refine take_ (i := 1) (N := some 42) (v := ?_) (a' := ?_) #[true, true, false, false, false] rfl rfl (by kernel_rfl) (fun _ _ _ h => h) (Or.inl ⟨by rfl, ?_⟩) hHeld ?_ ?_
      rotate_left
      ·rintro w' ⟨s0, s1, s2, s3, s4, s5, s6, s7, s8, s9, s10, s11⟩
       go_simp
       with_reducible rfl
      rotate_left
      ·simp only [Act.put, List.setIfInBounds_toArray, List.set_cons_zero, List.set_cons_succ, i64_w, i32_w]
       rfl
      refine one_ (i := 2) (N := some 43) #[true, true, true, false, false] rfl rfl (by kernel_rfl) (by decide) (fun K hK => ?_)
      refine goes_ Try.func18 (by kernel_rfl) rfl #[.agg #[.slice A0_0 l0_0.length c0_0, .int .i16 a0_1, .int .i16 a0_2, .int .i16 a0_3, .int .i16 a0_4, .bool a0_5]] (by rfl) rfl rfl arg_ ?_
      with_reducible refine (laws_toPuzzle.calls kj15 _ _ l0_0 a0_1 a0_2 a0_3 a0_4 a0_5 t364 t367 t368 t369 t370 t371 _ ?side1 ?side2 A40.out).mono ?_
      (case side1 => repeat (first | exact (Kd.C_below HR0_0.out HB.out) | (with_reducible refine Kd.C_alloc ?_ _) | (with_reducible refine Kd.C_drewN ?_ _) | (with_reducible refine Kd.C_drew ?_)))
      (case side2 => exact HC0_0.out)
      rintro e w48 ⟨v365, rfl, ho0, hb⟩
      refine ⟨_, rfl, ?_⟩
      have n0_ := A_ (Kd.R_elder' (pr_ HO_358000) (Kd.R_base ho0) hb)
      have n1_ := A_ (Kd.R_lower (Kd.R_new' ho0 (Kd.R_lt (pr_ HO_358000))) (below_size (bl_ HB)))
      have n2_ := A_ (blk_below (pl_ BK332) hb)
      have n3_ := A_ (blk_below (pl_ BK333) hb)
      have n4_ := A_ (blk_below (pl_ BK357) hb)
      have n5_ := A_ (below_step (bl_ HB) hb)
      clear HO_358000
      clear BK332
      clear BK333
      clear BK357
      clear HB
      have HO_358000 := n0_
      have HO366 := n1_
      have BK332 := n2_
      have BK333 := n3_
      have BK357 := n4_
      have HB := n5_
      clear n0_ n1_ n2_ n3_ n4_ n5_
      (try clear hb)
      (try clear hb2)
      (try clear hk)
      (try clear hi)
      (try clear ho0)
      obtain ⟨Ao49, co49, eo49⟩ := Kd.R_slice HO366.out
      (first | subst eo49 | (injection eo49 with f1_ f2_ f3_; have f4_ := f1_.symm; have f5_ := f3_.symm; clear f1_ f2_ f3_; subst f4_; subst f5_))
      refine hK.out _ _ ⟨(blk_cell BK357.out 0).trans rfl, (blk_cell BK357.out 1).trans rfl, (blk_cell BK357.out 2).trans rfl, (blk_cell BK357.out 3).trans rfl, (blk_cell BK357.out 4).trans rfl, (blk_cell BK357.out 5).trans rfl, (blk_cell BK332.out 0).trans rfl, (blk_cell BK332.out 1).trans rfl, (blk_cell BK332.out 2).trans rfl, (blk_cell BK332.out 3).trans rfl, (blk_cell BK332.out 4).trans rfl, (blk_cell BK332.out 5).trans rfl⟩ (fun hHeld => ?_)
      clear hK K
      refine norm_ (a' := ?_) ?_ ?_
      rotate_left
      ·show Act.put _ (some 43) _ = _
       simp only [Act.put, List.setIfInBounds_toArray, List.set_cons_zero, List.set_cons_succ, i64_w, i32_w]
       rfl
      refine one_ (i := 3) (N := some 44) #[true, true, true, true, false] rfl rfl (by kernel_rfl) (by decide) (fun K hK => ?_)
      refine goes_ Try.func21 (by kernel_rfl) rfl #[.agg #[.slice Ao30 t349.length co30, .int .i16 t352, .int .i16 t353, .int .i16 t354, .int .i16 t355, .bool t356], .agg #[.slice Ao49 t364.length co49, .int .i16 t367, .int .i16 t368, .int .i16 t369, .int .i16 t370, .bool t371]] (by rfl) rfl rfl arg_ ?_
      with_reducible refine (laws_eqPuzzle.calls kj15 _ _ t349 t352 t353 t354 t355 t356 _ _ t364 t367 t368 t369 t370 t371 false _ ?side1 ?side2 ?side3 ?side4 A41.out).mono ?_
      (case side1 => repeat (first | exact (Kd.R_reads' HO_358000.out).2.2 | (with_reducible refine Kd.C_alloc ?_ _) | (with_reducible refine Kd.C_drewN ?_ _) | (with_reducible refine Kd.C_drew ?_)))
      (case side2 => exact (Kd.R_reads' HO_358000.out).2.1)
      (case side3 => repeat (first | exact (Kd.R_reads' HO366.out).2.2 | (with_reducible refine Kd.C_alloc ?_ _) | (with_reducible refine Kd.C_drewN ?_ _) | (with_reducible refine Kd.C_drew ?_)))
      (case side4 => exact (Kd.R_reads' HO366.out).2.1)
      rintro e w50 ⟨rfl, hb⟩
      refine ⟨_, rfl, ?_⟩
      have n0_ := A_ (Kd.R_below (pr_ HO_358000) hb)
      have n1_ := A_ (Kd.R_below (pr_ HO366) hb)
      have n2_ := A_ (blk_below (pl_ BK332) hb)
      have n3_ := A_ (blk_below (pl_ BK333) hb)
      have n4_ := A_ (blk_below (pl_ BK357) hb)
      have n5_ := A_ (below_step (bl_ HB) hb)
      clear HO_358000
      clear HO366
      clear BK332
      clear BK333
      clear BK357
      clear HB
      have HO_358000 := n0_
      have HO366 := n1_
      have BK332 := n2_
      have BK333 := n3_
      have BK357 := n4_
      have HB := n5_
      clear n0_ n1_ n2_ n3_ n4_ n5_
      (try clear hb)
      (try clear hb2)
      (try clear hk)
      (try clear hi)
      refine hK.out _ _ ⟨(blk_cell BK357.out 0).trans rfl, (blk_cell BK357.out 1).trans rfl, (blk_cell BK357.out 2).trans rfl, (blk_cell BK357.out 3).trans rfl, (blk_cell BK357.out 4).trans rfl, (blk_cell BK357.out 5).trans rfl, (blk_cell BK332.out 0).trans rfl, (blk_cell BK332.out 1).trans rfl, (blk_cell BK332.out 2).trans rfl, (blk_cell BK332.out 3).trans rfl, (blk_cell BK332.out 4).trans rfl, (blk_cell BK332.out 5).trans rfl⟩ (fun hHeld => ?_)
      clear hK K
      refine norm_ (a' := ?_) ?_ ?_
      rotate_left
      ·show Act.put _ (some 44) _ = _
       simp only [Act.put, List.setIfInBounds_toArray, List.set_cons_zero, List.set_cons_succ, i64_w, i32_w]
       rfl
      refine pure_ (i := 4) (N := some 45) (v := ?_) (a' := ?_) #[true, true, true, true, true] rfl rfl (by kernel_rfl) (fun _ _ _ h => h) (Or.inl ⟨by rfl, ?_⟩) ?_ ?_
      rotate_left
      ·intro w'
       go_simp
       with_reducible rfl
      rotate_left
      ·simp only [Act.put, List.setIfInBounds_toArray, List.set_cons_zero, List.set_cons_succ, i64_w, i32_w]
       rfl
      refine done_ (by kernel_rfl) ?_
      try go_wp2
      go_ret
      exact ⟨by first | rfl | (simp [errW_none, errW_some] <;> rfl) | (simp [*, errW_none, errW_some] <;> rfl), bl_ HB⟩

end Go.Proofs.Ytodmfjophjhbeaa.M
