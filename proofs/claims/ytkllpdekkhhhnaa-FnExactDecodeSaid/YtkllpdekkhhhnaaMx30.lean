-- By this seat's own program over the kit's printer (arrays, functions told by hand); nothing of it is trusted: the kernel checks it.
import Derived.Test.YtkllpdekkhhhnaaMx0
import Derived.Test.YtkllpdekkhhhnaaMx2
import Derived.Test.YtkllpdekkhhhnaaMx3
import Derived.Test.YtkllpdekkhhhnaaMx6
import Derived.Test.YtkllpdekkhhhnaaMx20
import Derived.Test.YtkllpdekkhhhnaaMx26
import Derived.Test.YtkllpdekkhhhnaaMx29
namespace Go.Proofs.Ytkllpdekkhhhnaa.M
open Go.RowKit Go.Proofs.YtkllpdekkhhhnaaW.PrintWords Go.Proofs.YtkllpdekkhhhnaaW.PrintLast Go.Proofs.YtkllpdekkhhhnaaW.PrintMore
attribute [local go_sem] max2_int min2_int max_two min_two max_three min_three max_four min_four   -- for this text's walks alone
set_option linter.unusedVariables false
set_option linter.unusedSimpArgs false

/-! ### laws_FnExactDecode: function 6 -/
def laws_FnExactDecode.j0 : Nat → Bool → Int → Int → List (S29) → Int → Int → List (S30) → Option (Bool)
 | 0, _, _, _, _, _, _, _ => none
 | k + 1, x41, x399000, x399001, x399002, x420000, x420001, x420002 => if x41 = true then (some false) else ((laws_toFixed.f k x399000 x399001 x399002).bind fun bt429 => ((laws_eqFixed.f k x420000 x420001 x420002 bt429.1 bt429.2.1 bt429.2.2).bind fun t434 => (if t434 = true then (some true) else (some false))))
def laws_FnExactDecode.f (k : Nat) (a0_0 : Int) (a0_1 : Int) (l0_2 : List (S29)) (a1_0 : Int) (a1_1 : Int) (a1_2 : Int) (a1_3 : Int) : Option (Bool) := (laws_szFixed.f a0_0 a0_1 l0_2 1048576).bind fun t400 => (if t400 < 0 then (some true) else ((laws_toFixed.f k a0_0 a0_1 l0_2).bind fun bt401 => ((laws_toWord.f k a1_0 a1_1 a1_2 a1_3).bind fun bt406 => ((spec_Decode.f k bt401.1 bt401.2.1 bt401.2.2 bt406.1 bt406.2.1 bt406.2.2.1 bt406.2.2.2).bind fun bt410 => ((laws_toFixed.f k a0_0 a0_1 l0_2).bind fun bt414 => ((laws_toWord.f k a1_0 a1_1 a1_2 a1_3).bind fun bt420 => ((impl_Decode.f k bt414.1 bt414.2.1 bt414.2.2 bt420.1 bt420.2.1 bt420.2.2.1 bt420.2.2.2).bind fun bt424 => ((laws_eqCase.f bt424.1 bt424.2.1 bt410.1 bt410.2.1).bind fun t428 => (if t428 = true then (laws_FnExactDecode.j0 k (bt424.2.2 != bt410.2.2) a0_0 a0_1 l0_2 bt414.1 bt414.2.1 bt414.2.2) else (laws_FnExactDecode.j0 k true a0_0 a0_1 l0_2 bt414.1 bt414.2.1 bt414.2.2))))))))))
theorem laws_FnExactDecode.mono_l : ∀ k, (∀ y0 y1 y2 y3 y4 y5 y6, LeO (laws_FnExactDecode.j0 k y0 y1 y2 y3 y4 y5 y6) (laws_FnExactDecode.j0 (k + 1) y0 y1 y2 y3 y4 y5 y6))
 | 0 => fun _ _ _ _ _ _ _ r h => by simp [laws_FnExactDecode.j0] at h
 | k + 1 => by
  have ih0 := laws_FnExactDecode.mono_l k
  ·intro y0 y1 y2 y3 y4 y5 y6
   unfold laws_FnExactDecode.j0
   repeat' first
   | (with_reducible exact ih0 _ _ _ _ _ _ _)
   | (with_reducible exact impl_Decode.mono _ _ _ _ _ _ _ _)
   | (with_reducible exact laws_eqFixed.mono _ _ _ _ _ _ _)
   | (with_reducible exact laws_toFixed.mono _ _ _ _)
   | (with_reducible exact laws_toWord.mono _ _ _ _ _)
   | (with_reducible exact spec_Decode.mono _ _ _ _ _ _ _ _)
   | (with_reducible exact LeO.refl _)
   | (with_reducible exact LeO.none _)
   | (with_reducible refine LeO.ite ?_ ?_)
   | (with_reducible refine LeO.bind ?_ (fun _ => ?_))
   | exact ih0 _ _ _ _ _ _ _
   | exact impl_Decode.mono _ _ _ _ _ _ _ _
   | exact laws_eqFixed.mono _ _ _ _ _ _ _
   | exact laws_toFixed.mono _ _ _ _
   | exact laws_toWord.mono _ _ _ _ _
   | exact spec_Decode.mono _ _ _ _ _ _ _ _
   | exact LeO.none _
   | refine LeO.ite ?_ ?_
   | refine LeO.bind ?_ (fun _ => ?_)
theorem laws_FnExactDecode.mono : ∀ a0 a1 a2 a3 a4 a5 a6 k, LeO (laws_FnExactDecode.f k a0 a1 a2 a3 a4 a5 a6) (laws_FnExactDecode.f (k + 1) a0 a1 a2 a3 a4 a5 a6) := by
 intro a0 a1 a2 a3 a4 a5 a6 k
 have ih0 := laws_FnExactDecode.mono_l k
 unfold laws_FnExactDecode.f
 repeat' first
   | (with_reducible exact ih0 _ _ _ _ _ _ _)
   | (with_reducible exact impl_Decode.mono _ _ _ _ _ _ _ _)
   | (with_reducible exact laws_eqFixed.mono _ _ _ _ _ _ _)
   | (with_reducible exact laws_toFixed.mono _ _ _ _)
   | (with_reducible exact laws_toWord.mono _ _ _ _ _)
   | (with_reducible exact spec_Decode.mono _ _ _ _ _ _ _ _)
   | (with_reducible exact LeO.refl _)
   | (with_reducible exact LeO.none _)
   | (with_reducible refine LeO.ite ?_ ?_)
   | (with_reducible refine LeO.bind ?_ (fun _ => ?_))
   | exact ih0 _ _ _ _ _ _ _
   | exact impl_Decode.mono _ _ _ _ _ _ _ _
   | exact laws_eqFixed.mono _ _ _ _ _ _ _
   | exact laws_toFixed.mono _ _ _ _
   | exact laws_toWord.mono _ _ _ _ _
   | exact spec_Decode.mono _ _ _ _ _ _ _ _
   | exact LeO.none _
   | refine LeO.ite ?_ ?_
   | refine LeO.bind ?_ (fun _ => ?_)
def laws_FnExactDecode.T5 : Bool × List (List Nat × List Nat) := (true, [([], []), ([0], [0]), ([], []), ([2, 1], [2]), ([1, 3, 3], [1, 3]), ([4], [4]), ([5], [5]), ([5], [5]), ([], []), ([8, 6, 4, 0, 1, 2, 3, 4, 5, 6, 8], [6, 8]), ([7, 9, 0, 1, 2, 3, 4, 5, 6, 7, 8, 9], [7])])
def laws_FnExactDecode.B5 : List Nat := [0, 1, 0, 7, 15, 31, 63, 63, 0, 383, 1023]
theorem laws_FnExactDecode.tab5 : rtab .any (opsOf Try.f6 5) = laws_FnExactDecode.T5 := by kernel_rfl
theorem laws_FnExactDecode.bits5 : waitsOk laws_FnExactDecode.T5.2 laws_FnExactDecode.B5 = true := by kernel_rfl
def laws_FnExactDecode.T7 : Bool × List (List Nat × List Nat) := (true, [([], []), ([], []), ([1], [1]), ([0, 2, 2], [0, 2]), ([3], [3]), ([4], [4]), ([4], [4]), ([], []), ([7, 5, 3, 0, 1, 2, 3, 4, 5, 7], [5, 7]), ([6, 8, 0, 1, 2, 3, 4, 5, 6, 7, 8], [6])])
def laws_FnExactDecode.B7 : List Nat := [0, 0, 2, 7, 15, 31, 31, 0, 191, 511]
theorem laws_FnExactDecode.tab7 : rtab .any (opsOf Try.f6 7) = laws_FnExactDecode.T7 := by kernel_rfl
theorem laws_FnExactDecode.bits7 : waitsOk laws_FnExactDecode.T7.2 laws_FnExactDecode.B7 = true := by kernel_rfl
set_option maxHeartbeats 8000000 in
set_option maxRecDepth 100000 in
theorem laws_FnExactDecode.calls (k : Nat) (a0_0 : Int) (a0_1 : Int) (A0_2 : Option Addr) (c0_2 : Nat) (l0_2 : List (S29)) (a1_0 : Int) (a1_1 : Int) (a1_2 : Int) (a1_3 : Int) (r : Bool) (w : World) (hr0_2 : Kd.C k29 w A0_2 l0_2.length l0_2) (hc0_2 : l0_2.length ≤ c0_2) (h : laws_FnExactDecode.f k a0_0 a0_1 l0_2 a1_0 a1_1 a1_2 a1_3 = some r) :
  Calls Try.prog 6 #[.agg #[.int .i8 a0_0, .int .i8 a0_1, .slice A0_2 l0_2.length c0_2], .agg #[.int .i8 a1_0, .int .i8 a1_1, .int .i8 a1_2, .int .i8 a1_3]] w fun e w' => e = .returned (.bool r) ∧ Below w.heap.size w w' := by
 have hu25 := Try.underlying25
 have hu29 := Try.underlying29
 have hu37 := Try.underlying37
 have hu35 := Try.underlying35
 have HR0_2 := Aside0.mk hr0_2
 have HC0_2 := Aside0.mk hc0_2
 clear hr0_2 hc0_2
 have HB := Aside0.mk (Below.refl w.heap.size w)
 have H : ((laws_szFixed.f a0_0 a0_1 l0_2 1048576).bind fun t400 => (if t400 < 0 then (some true) else ((laws_toFixed.f k a0_0 a0_1 l0_2).bind fun bt401 => ((laws_toWord.f k a1_0 a1_1 a1_2 a1_3).bind fun bt406 => ((spec_Decode.f k bt401.1 bt401.2.1 bt401.2.2 bt406.1 bt406.2.1 bt406.2.2.1 bt406.2.2.2).bind fun bt410 => ((laws_toFixed.f k a0_0 a0_1 l0_2).bind fun bt414 => ((laws_toWord.f k a1_0 a1_1 a1_2 a1_3).bind fun bt420 => ((impl_Decode.f k bt414.1 bt414.2.1 bt414.2.2 bt420.1 bt420.2.1 bt420.2.2.1 bt420.2.2.2).bind fun bt424 => ((laws_eqCase.f bt424.1 bt424.2.1 bt410.1 bt410.2.1).bind fun t428 => (if t428 = true then (laws_FnExactDecode.j0 k (bt424.2.2 != bt410.2.2) a0_0 a0_1 l0_2 bt414.1 bt414.2.1 bt414.2.2) else (laws_FnExactDecode.j0 k true a0_0 a0_1 l0_2 bt414.1 bt414.2.1 bt414.2.2))))))))))) = some r := h
 clear h
 replace H := Option.bind_eq_some_iff.mp H
 obtain ⟨t400, A30, H⟩ := H
 replace H : (if t400 < 0 then (some true) else ((laws_toFixed.f k a0_0 a0_1 l0_2).bind fun bt401 => ((laws_toWord.f k a1_0 a1_1 a1_2 a1_3).bind fun bt406 => ((spec_Decode.f k bt401.1 bt401.2.1 bt401.2.2 bt406.1 bt406.2.1 bt406.2.2.1 bt406.2.2.2).bind fun bt410 => ((laws_toFixed.f k a0_0 a0_1 l0_2).bind fun bt414 => ((laws_toWord.f k a1_0 a1_1 a1_2 a1_3).bind fun bt420 => ((impl_Decode.f k bt414.1 bt414.2.1 bt414.2.2 bt420.1 bt420.2.1 bt420.2.2.1 bt420.2.2.2).bind fun bt424 => ((laws_eqCase.f bt424.1 bt424.2.1 bt410.1 bt410.2.1).bind fun t428 => (if t428 = true then (laws_FnExactDecode.j0 k (bt424.2.2 != bt410.2.2) a0_0 a0_1 l0_2 bt414.1 bt414.2.1 bt414.2.2) else (laws_FnExactDecode.j0 k true a0_0 a0_1 l0_2 bt414.1 bt414.2.1 bt414.2.2)))))))))) = some r := H
 have A3 := Aside0.mk A30
 clear A30
 by_cases c4 : t400 < 0
 ·rw [if_pos c4] at H
  have c4b0 : decide (t400 < 0) = true := decide_eq_true c4
  clear c4
  obtain rfl := Option.some.inj H
  go_enter Try.func6, Try.ntmps6
  go_wp2_with (first | ((with_reducible refine gate_dst (N := 2) rfl ?_); refine box_event ?hg (N := 2) ?hd (cs := #[.int .i8 a0_0, .int .i8 a0_1, .slice A0_2 l0_2.length c0_2]) (t := 25) ?hr ?_; (case hd => rfl); (case hg => rfl); (case hr => first | (go_simp; done) | (go_simp; rfl)); intro gb398 hg w5 hbox hb; have n0_ := Aside0.mk (below_step (bl_ HB) hb); have n1_ := Aside0.mk (hbox); have n2_ := Aside0.mk ((by rw [hg]; exact (below_size (bl_ HB)) : w.heap.size ≤ gb398)); have n3_ := Aside0.mk ((by rw [hg]; exact (below_size (bl_ HB)) : w.heap.size ≤ gb398)); clear HB; have HB := n0_; have BK398 := n1_; have GW398 := n2_; have GE398 := n3_; clear n0_ n1_ n2_ n3_; clear hb hbox hg) | ((with_reducible refine gate_dst (N := 3) rfl ?_); refine box_event ?hg (N := 3) ?hd (cs := #[.int .i8 a1_0, .int .i8 a1_1, .int .i8 a1_2, .int .i8 a1_3]) (t := 29) ?hr ?_; (case hd => rfl); (case hg => rfl); (case hr => first | (go_simp; done) | (go_simp; rfl)); intro gb399 hg w6 hbox hb; have n0_ := Aside0.mk (blk_below (g := gb398) (o := .cells #[.int .i8 a0_0, .int .i8 a0_1, .slice A0_2 l0_2.length c0_2] 25 (0, 0)) (pl_ BK398) hb); have n1_ := Aside0.mk (below_step (by repeat (first | (with_reducible first | exact HB.out | apply below_alloc | apply pw_below_drewN | apply below_drew1 | refine below_set ?_ GE398.out) | exact HB.out)) hb); have n2_ := Aside0.mk (hbox); have n3_ := Aside0.mk ((by rw [hg]; exact (below_size (by repeat (first | (with_reducible first | exact HB.out | apply below_alloc | apply pw_below_drewN | apply below_drew1 | refine below_set ?_ GE398.out) | exact HB.out))) : w.heap.size ≤ gb399)); have n4_ := Aside0.mk ((by rw [hg]; exact (below_size (by repeat (first | (with_reducible first | exact HB.out | apply below_alloc | apply pw_below_drewN | apply below_drew1 | refine below_set ?_ GE398.out) | exact HB.out))) : w.heap.size ≤ gb399)); have n5_ := Aside0.mk ((by rw [hg]; exact Nat.ne_of_lt (blk_lt (g := gb398) (o := .cells #[.int .i8 a0_0, .int .i8 a0_1, .slice A0_2 l0_2.length c0_2] 25 (0, 0)) (pl_ BK398)) : gb398 ≠ gb399)); have n6_ := Aside0.mk ((by rw [hg]; exact Nat.ne_of_gt (blk_lt (g := gb398) (o := .cells #[.int .i8 a0_0, .int .i8 a0_1, .slice A0_2 l0_2.length c0_2] 25 (0, 0)) (pl_ BK398)) : gb399 ≠ gb398)); clear BK398; clear HB; have BK398 := n0_; have HB := n1_; have BK399 := n2_; have GW399 := n3_; have GE399 := n4_; have NB398_399 := n5_; have NB399_398 := n6_; clear n0_ n1_ n2_ n3_ n4_ n5_ n6_; clear hb hbox hg; have hnb7 := NB398_399.out; have hnc7 := NB399_398.out; have hcz8_0 : w6.cell? ⟨gb398, 0, none⟩ = some (.int .i8 a0_0) := (blk_cell BK398.out 0).trans rfl; have hcz8_1 : w6.cell? ⟨gb398, 1, none⟩ = some (.int .i8 a0_1) := (blk_cell BK398.out 1).trans rfl; have hcz8_2 : w6.cell? ⟨gb398, 2, none⟩ = some (.slice A0_2 l0_2.length c0_2) := (blk_cell BK398.out 2).trans rfl; have hfz8_0 := blk_frozen BK398.out 0; have hfz8_1 := blk_frozen BK398.out 1; have hfz8_2 := blk_frozen BK398.out 2) | ((with_reducible refine gate_callee (f := 9) rfl ?_); refine goesL_ (some 13) rfl rfl Try.func9 (by kernel_rfl) rfl #[.agg #[.int .i8 a0_0, .int .i8 a0_1, .slice A0_2 l0_2.length c0_2], .int .i64 1048576] rfl (by (try simp only [List.map_toArray, List.map_cons, List.map_nil]); first | done | rfl | (simp only [List.length_drop, List.length_take]; rfl)) ?_; (with_reducible refine (laws_szFixed.calls a0_0 a0_1 _ _ l0_2 1048576 t400 _ ?side1 ?side2 A3.out).mono ?_); (case side1 => repeat (first | exact (Kd.C_below HR0_2.out HB.out) | (with_reducible refine Kd.C_alloc ?_ _) | (with_reducible refine Kd.C_drewN ?_ _) | (with_reducible refine Kd.C_drew ?_))); (case side2 => exact HC0_2.out); rintro e w9 ⟨rfl, hb⟩; refine ⟨_, rfl, ?_⟩; have n0_ := Aside0.mk (blk_below (g := gb398) (o := .cells #[.int .i8 a0_0, .int .i8 a0_1, .slice A0_2 l0_2.length c0_2] 25 (0, 0)) (pl_ BK398) hb); have n1_ := Aside0.mk (blk_below (g := gb399) (o := .cells #[.int .i8 a1_0, .int .i8 a1_1, .int .i8 a1_2, .int .i8 a1_3] 29 (0, 0)) (pl_ BK399) hb); have n2_ := Aside0.mk (below_step (by repeat (first | (with_reducible first | exact HB.out | apply below_alloc | apply pw_below_drewN | apply below_drew1 | refine below_set ?_ GE398.out | refine below_set ?_ GE399.out) | exact HB.out)) hb); clear BK398; clear BK399; clear HB; have BK398 := n0_; have BK399 := n1_; have HB := n2_; clear n0_ n1_ n2_; (try clear hb); (try clear hb2); (try clear hk); (try clear hi)))
  go_ret
  exact ⟨by first | rfl | (simp [errW_none, errW_some] <;> rfl) | (simp [*, errW_none, errW_some] <;> rfl), by repeat (first | (with_reducible first | exact HB.out | apply below_alloc | apply pw_below_drewN | apply below_drew1 | refine below_set ?_ GE398.out | refine below_set ?_ GE399.out) | exact HB.out)⟩
 ·rw [if_neg c4] at H
  have c4b0 : decide (t400 < 0) = false := decide_eq_false c4
  clear c4
  replace H := Option.bind_eq_some_iff.mp H
  obtain ⟨⟨t401, t402, t403⟩, A100, H⟩ := H
  replace H : ((laws_toWord.f k a1_0 a1_1 a1_2 a1_3).bind fun bt406 => ((spec_Decode.f k t401 t402 t403 bt406.1 bt406.2.1 bt406.2.2.1 bt406.2.2.2).bind fun bt410 => ((laws_toFixed.f k a0_0 a0_1 l0_2).bind fun bt414 => ((laws_toWord.f k a1_0 a1_1 a1_2 a1_3).bind fun bt420 => ((impl_Decode.f k bt414.1 bt414.2.1 bt414.2.2 bt420.1 bt420.2.1 bt420.2.2.1 bt420.2.2.2).bind fun bt424 => ((laws_eqCase.f bt424.1 bt424.2.1 bt410.1 bt410.2.1).bind fun t428 => (if t428 = true then (laws_FnExactDecode.j0 k (bt424.2.2 != bt410.2.2) a0_0 a0_1 l0_2 bt414.1 bt414.2.1 bt414.2.2) else (laws_FnExactDecode.j0 k true a0_0 a0_1 l0_2 bt414.1 bt414.2.1 bt414.2.2)))))))) = some r := H
  have A10 := Aside0.mk A100
  clear A100
  replace H := Option.bind_eq_some_iff.mp H
  obtain ⟨⟨t406, t407, t408, t409⟩, A110, H⟩ := H
  replace H : ((spec_Decode.f k t401 t402 t403 t406 t407 t408 t409).bind fun bt410 => ((laws_toFixed.f k a0_0 a0_1 l0_2).bind fun bt414 => ((laws_toWord.f k a1_0 a1_1 a1_2 a1_3).bind fun bt420 => ((impl_Decode.f k bt414.1 bt414.2.1 bt414.2.2 bt420.1 bt420.2.1 bt420.2.2.1 bt420.2.2.2).bind fun bt424 => ((laws_eqCase.f bt424.1 bt424.2.1 bt410.1 bt410.2.1).bind fun t428 => (if t428 = true then (laws_FnExactDecode.j0 k (bt424.2.2 != bt410.2.2) a0_0 a0_1 l0_2 bt414.1 bt414.2.1 bt414.2.2) else (laws_FnExactDecode.j0 k true a0_0 a0_1 l0_2 bt414.1 bt414.2.1 bt414.2.2))))))) = some r := H
  have A11 := Aside0.mk A110
  clear A110
  replace H := Option.bind_eq_some_iff.mp H
  obtain ⟨⟨t410, t411, t412⟩, A120, H⟩ := H
  replace H : ((laws_toFixed.f k a0_0 a0_1 l0_2).bind fun bt414 => ((laws_toWord.f k a1_0 a1_1 a1_2 a1_3).bind fun bt420 => ((impl_Decode.f k bt414.1 bt414.2.1 bt414.2.2 bt420.1 bt420.2.1 bt420.2.2.1 bt420.2.2.2).bind fun bt424 => ((laws_eqCase.f bt424.1 bt424.2.1 t410 t411).bind fun t428 => (if t428 = true then (laws_FnExactDecode.j0 k (bt424.2.2 != t412) a0_0 a0_1 l0_2 bt414.1 bt414.2.1 bt414.2.2) else (laws_FnExactDecode.j0 k true a0_0 a0_1 l0_2 bt414.1 bt414.2.1 bt414.2.2)))))) = some r := H
  have A12 := Aside0.mk A120
  clear A120
  replace H := Option.bind_eq_some_iff.mp H
  obtain ⟨⟨t414, t415, t416⟩, A130, H⟩ := H
  replace H : ((laws_toWord.f k a1_0 a1_1 a1_2 a1_3).bind fun bt420 => ((impl_Decode.f k t414 t415 t416 bt420.1 bt420.2.1 bt420.2.2.1 bt420.2.2.2).bind fun bt424 => ((laws_eqCase.f bt424.1 bt424.2.1 t410 t411).bind fun t428 => (if t428 = true then (laws_FnExactDecode.j0 k (bt424.2.2 != t412) a0_0 a0_1 l0_2 t414 t415 t416) else (laws_FnExactDecode.j0 k true a0_0 a0_1 l0_2 t414 t415 t416))))) = some r := H
  have A13 := Aside0.mk A130
  clear A130
  replace H := Option.bind_eq_some_iff.mp H
  obtain ⟨⟨t420, t421, t422, t423⟩, A140, H⟩ := H
  replace H : ((impl_Decode.f k t414 t415 t416 t420 t421 t422 t423).bind fun bt424 => ((laws_eqCase.f bt424.1 bt424.2.1 t410 t411).bind fun t428 => (if t428 = true then (laws_FnExactDecode.j0 k (bt424.2.2 != t412) a0_0 a0_1 l0_2 t414 t415 t416) else (laws_FnExactDecode.j0 k true a0_0 a0_1 l0_2 t414 t415 t416)))) = some r := H
  have A14 := Aside0.mk A140
  clear A140
  replace H := Option.bind_eq_some_iff.mp H
  obtain ⟨⟨t424, t425, t426⟩, A150, H⟩ := H
  replace H : ((laws_eqCase.f t424 t425 t410 t411).bind fun t428 => (if t428 = true then (laws_FnExactDecode.j0 k (t426 != t412) a0_0 a0_1 l0_2 t414 t415 t416) else (laws_FnExactDecode.j0 k true a0_0 a0_1 l0_2 t414 t415 t416))) = some r := H
  have A15 := Aside0.mk A150
  clear A150
  have HC16 := Aside0.mk H
  clear H
  go_enter Try.func6, Try.ntmps6
  try go_wp2_with (first | ((with_reducible refine gate_dst (N := 2) rfl ?_); refine box_event ?hg (N := 2) ?hd (cs := #[.int .i8 a0_0, .int .i8 a0_1, .slice A0_2 l0_2.length c0_2]) (t := 25) ?hr ?_; (case hd => rfl); (case hg => rfl); (case hr => first | (go_simp; done) | (go_simp; rfl)); intro gb398 hg w17 hbox hb; have n0_ := Aside0.mk (below_step (bl_ HB) hb); have n1_ := Aside0.mk (hbox); have n2_ := Aside0.mk ((by rw [hg]; exact (below_size (bl_ HB)) : w.heap.size ≤ gb398)); have n3_ := Aside0.mk ((by rw [hg]; exact (below_size (bl_ HB)) : w.heap.size ≤ gb398)); clear HB; have HB := n0_; have BK398 := n1_; have GW398 := n2_; have GE398 := n3_; clear n0_ n1_ n2_ n3_; clear hb hbox hg) | ((with_reducible refine gate_dst (N := 3) rfl ?_); refine box_event ?hg (N := 3) ?hd (cs := #[.int .i8 a1_0, .int .i8 a1_1, .int .i8 a1_2, .int .i8 a1_3]) (t := 29) ?hr ?_; (case hd => rfl); (case hg => rfl); (case hr => first | (go_simp; done) | (go_simp; rfl)); intro gb399 hg w18 hbox hb; have n0_ := Aside0.mk (blk_below (g := gb398) (o := .cells #[.int .i8 a0_0, .int .i8 a0_1, .slice A0_2 l0_2.length c0_2] 25 (0, 0)) (pl_ BK398) hb); have n1_ := Aside0.mk (below_step (by repeat (first | (with_reducible first | exact HB.out | apply below_alloc | apply pw_below_drewN | apply below_drew1 | refine below_set ?_ GE398.out) | exact HB.out)) hb); have n2_ := Aside0.mk (hbox); have n3_ := Aside0.mk ((by rw [hg]; exact (below_size (by repeat (first | (with_reducible first | exact HB.out | apply below_alloc | apply pw_below_drewN | apply below_drew1 | refine below_set ?_ GE398.out) | exact HB.out))) : w.heap.size ≤ gb399)); have n4_ := Aside0.mk ((by rw [hg]; exact (below_size (by repeat (first | (with_reducible first | exact HB.out | apply below_alloc | apply pw_below_drewN | apply below_drew1 | refine below_set ?_ GE398.out) | exact HB.out))) : w.heap.size ≤ gb399)); have n5_ := Aside0.mk ((by rw [hg]; exact Nat.ne_of_lt (blk_lt (g := gb398) (o := .cells #[.int .i8 a0_0, .int .i8 a0_1, .slice A0_2 l0_2.length c0_2] 25 (0, 0)) (pl_ BK398)) : gb398 ≠ gb399)); have n6_ := Aside0.mk ((by rw [hg]; exact Nat.ne_of_gt (blk_lt (g := gb398) (o := .cells #[.int .i8 a0_0, .int .i8 a0_1, .slice A0_2 l0_2.length c0_2] 25 (0, 0)) (pl_ BK398)) : gb399 ≠ gb398)); clear BK398; clear HB; have BK398 := n0_; have HB := n1_; have BK399 := n2_; have GW399 := n3_; have GE399 := n4_; have NB398_399 := n5_; have NB399_398 := n6_; clear n0_ n1_ n2_ n3_ n4_ n5_ n6_; clear hb hbox hg; have hnb19 := NB398_399.out; have hnc19 := NB399_398.out; have hcz20_0 : w18.cell? ⟨gb398, 0, none⟩ = some (.int .i8 a0_0) := (blk_cell BK398.out 0).trans rfl; have hcz20_1 : w18.cell? ⟨gb398, 1, none⟩ = some (.int .i8 a0_1) := (blk_cell BK398.out 1).trans rfl; have hcz20_2 : w18.cell? ⟨gb398, 2, none⟩ = some (.slice A0_2 l0_2.length c0_2) := (blk_cell BK398.out 2).trans rfl; have hfz20_0 := blk_frozen BK398.out 0; have hfz20_1 := blk_frozen BK398.out 1; have hfz20_2 := blk_frozen BK398.out 2) | ((with_reducible refine gate_callee (f := 9) rfl ?_); refine goesL_ (some 13) rfl rfl Try.func9 (by kernel_rfl) rfl #[.agg #[.int .i8 a0_0, .int .i8 a0_1, .slice A0_2 l0_2.length c0_2], .int .i64 1048576] rfl (by (try simp only [List.map_toArray, List.map_cons, List.map_nil]); first | done | rfl | (simp only [List.length_drop, List.length_take]; rfl)) ?_; (with_reducible refine (laws_szFixed.calls a0_0 a0_1 _ _ l0_2 1048576 t400 _ ?side1 ?side2 A3.out).mono ?_); (case side1 => repeat (first | exact (Kd.C_below HR0_2.out HB.out) | (with_reducible refine Kd.C_alloc ?_ _) | (with_reducible refine Kd.C_drewN ?_ _) | (with_reducible refine Kd.C_drew ?_))); (case side2 => exact HC0_2.out); rintro e w21 ⟨rfl, hb⟩; refine ⟨_, rfl, ?_⟩; have n0_ := Aside0.mk (blk_below (g := gb398) (o := .cells #[.int .i8 a0_0, .int .i8 a0_1, .slice A0_2 l0_2.length c0_2] 25 (0, 0)) (pl_ BK398) hb); have n1_ := Aside0.mk (blk_below (g := gb399) (o := .cells #[.int .i8 a1_0, .int .i8 a1_1, .int .i8 a1_2, .int .i8 a1_3] 29 (0, 0)) (pl_ BK399) hb); have n2_ := Aside0.mk (below_step (by repeat (first | (with_reducible first | exact HB.out | apply below_alloc | apply pw_below_drewN | apply below_drew1 | refine below_set ?_ GE398.out | refine below_set ?_ GE399.out) | exact HB.out)) hb); clear BK398; clear BK399; clear HB; have BK398 := n0_; have BK399 := n1_; have HB := n2_; clear n0_ n1_ n2_; (try clear hb); (try clear hb2); (try clear hk); (try clear hi)))
  have n0_ := Aside0.mk (blk_drew BK398.out)
  have n1_ := Aside0.mk (blk_drew BK399.out)
  have n2_ := Aside0.mk (below_drew1 HB.out)
  clear BK398
  clear BK399
  clear HB
  have BK398 := n0_
  have BK399 := n1_
  have HB := n2_
  clear n0_ n1_ n2_
  refine start_ (n := 11) (S := fun w' => w'.cell? ⟨gb398, 0, none⟩ = some (.int .i8 a0_0) ∧ w'.cell? ⟨gb398, 1, none⟩ = some (.int .i8 a0_1) ∧ w'.cell? ⟨gb398, 2, none⟩ = some (.slice A0_2 l0_2.length c0_2) ∧ w'.cell? ⟨gb399, 0, none⟩ = some (.int .i8 a1_0) ∧ w'.cell? ⟨gb399, 1, none⟩ = some (.int .i8 a1_1) ∧ w'.cell? ⟨gb399, 2, none⟩ = some (.int .i8 a1_2) ∧ w'.cell? ⟨gb399, 3, none⟩ = some (.int .i8 a1_3)) (ds := []) #[false, false, false, false, false, false, false, false, false, false, false] (by kernel_rfl) rfl rfl ⟨(blk_cell BK398.out 0).trans rfl, (blk_cell BK398.out 1).trans rfl, (blk_cell BK398.out 2).trans rfl, (blk_cell BK399.out 0).trans rfl, (blk_cell BK399.out 1).trans rfl, (blk_cell BK399.out 2).trans rfl, (blk_cell BK399.out 3).trans rfl⟩ (fun hHeld => ?_); refine with_tabW laws_FnExactDecode.tab5 laws_FnExactDecode.bits5 (fun HT_ HW_ => ?_)
  generalize w21.drew = w22 at BK398 BK399 HB hHeld ⊢
  refine take_ (i := 0) (N := some 17) (v := ?_) (a' := ?_) #[true, false, false, false, false, false, false, false, false, false, false] rfl rfl (take_ofW HT_.out HW_.out (by kernel_rfl)) (fun _ _ _ h => h) (Or.inl ⟨by rfl, ?_⟩) hHeld ?_ ?_
  rotate_left
  ·rintro w' ⟨s0, s1, s2, s3, s4, s5, s6⟩
   go_simp
   with_reducible rfl
  rotate_left
  ·simp only [Act.put, List.setIfInBounds_toArray, List.set_cons_zero, List.set_cons_succ, i64_w, i32_w]
   rfl
  refine take_ (i := 2) (N := some 19) (v := ?_) (a' := ?_) #[true, false, true, false, false, false, false, false, false, false, false] rfl rfl (take_ofW HT_.out HW_.out (by kernel_rfl)) (fun _ _ _ h => h) (Or.inl ⟨by rfl, ?_⟩) hHeld ?_ ?_
  rotate_left
  ·rintro w' ⟨s0, s1, s2, s3, s4, s5, s6⟩
   go_simp
   with_reducible rfl
  rotate_left
  ·simp only [Act.put, List.setIfInBounds_toArray, List.set_cons_zero, List.set_cons_succ, i64_w, i32_w]
   rfl
  refine join_ (σ := Value × Nat) 2 #[true, true, true, true, true, true, true, true, true, false, false] (fun s_ => [(18, .agg #[.int .i8 t401, .int .i8 t402, s_.1]), (20, .agg #[.int .i8 t406, .int .i8 t407, .int .i8 t408, .int .i8 t409]), (21, .tuple #[.agg #[.int .i8 t410, .bool t411], .int .i64 t412]), (6, .pointer (some ⟨s_.2, 0, none⟩)), (16, .tuple #[.agg #[.int .i8 t410, .bool t411], .int .i64 t412]), (22, .agg #[.int .i8 t410, .bool t411]), (23, .int .i64 t412)]) (fun s_ w' => (w'.cell? ⟨gb398, 0, none⟩ = some (.int .i8 a0_0) ∧ w'.cell? ⟨gb398, 1, none⟩ = some (.int .i8 a0_1) ∧ w'.cell? ⟨gb398, 2, none⟩ = some (.slice A0_2 l0_2.length c0_2) ∧ w'.cell? ⟨gb399, 0, none⟩ = some (.int .i8 a1_0) ∧ w'.cell? ⟨gb399, 1, none⟩ = some (.int .i8 a1_1) ∧ w'.cell? ⟨gb399, 2, none⟩ = some (.int .i8 a1_2) ∧ w'.cell? ⟨gb399, 3, none⟩ = some (.int .i8 a1_3)) ∧ (Kd.R k30 30 w' w.heap.size (fun _ => True) s_.1 t403) ∧ (w'.heap[gb398]? = some (.cells #[.int .i8 a0_0, .int .i8 a0_1, .slice A0_2 l0_2.length c0_2] 25 (0, 0))) ∧ (w'.heap[gb399]? = some (.cells #[.int .i8 a1_0, .int .i8 a1_1, .int .i8 a1_2, .int .i8 a1_3] 29 (0, 0))) ∧ (w'.heap[s_.2]? = some (.cells #[.int .i8 0, .bool false] 37 (0, 0))) ∧ (w.heap.size ≤ s_.2) ∧ (w.heap.size ≤ s_.2) ∧ (gb398 ≠ s_.2) ∧ (s_.2 ≠ gb398) ∧ (gb399 ≠ s_.2) ∧ (s_.2 ≠ gb399) ∧ (Below w.heap.size w w')) ?_ ?_
  rotate_left
  ·intro hCont
   refine two_ (i := 1) (j := 8) (Ni := some 18) (Nj := some 6) #[true, true, true, false, false, false, false, false, false, false, false] #[true, false, true, false, false, false, false, false, true, false, false] rfl rfl rfl rfl (two_of HT_.out (by kernel_rfl)) (by decide) (by decide) (fun K hK => ?_) (fun K hK => ?_)
   ·skip
    refine goes_ Try.func11 (by kernel_rfl) rfl #[.agg #[.int .i8 a0_0, .int .i8 a0_1, .slice A0_2 l0_2.length c0_2]] (by rfl) rfl rfl (by (try simp only [List.map_toArray, List.map_cons, List.map_nil]); first | done | rfl | (simp only [List.length_drop, List.length_take]; rfl)) ?_
    with_reducible refine (laws_toFixed.calls k a0_0 a0_1 _ _ l0_2 t401 t402 t403 _ ?side1 ?side2 A10.out).mono ?_
    (case side1 => repeat (first | exact (Kd.C_below HR0_2.out HB.out) | (with_reducible refine Kd.C_alloc ?_ _) | (with_reducible refine Kd.C_drewN ?_ _) | (with_reducible refine Kd.C_drew ?_)))
    (case side2 => exact HC0_2.out)
    rintro e w23 ⟨v404, rfl, ho0, hb⟩
    refine ⟨_, rfl, ?_⟩
    have n0_ := Aside0.mk (Kd.R_lower ho0 (below_size (by repeat (first | (with_reducible first | exact HB.out | apply below_alloc | apply pw_below_drewN | apply below_drew1 | refine below_set ?_ GE398.out | refine below_set ?_ GE399.out) | exact HB.out))))
    have n1_ := Aside0.mk (blk_below (g := gb398) (o := .cells #[.int .i8 a0_0, .int .i8 a0_1, .slice A0_2 l0_2.length c0_2] 25 (0, 0)) (pl_ BK398) hb)
    have n2_ := Aside0.mk (blk_below (g := gb399) (o := .cells #[.int .i8 a1_0, .int .i8 a1_1, .int .i8 a1_2, .int .i8 a1_3] 29 (0, 0)) (pl_ BK399) hb)
    have n3_ := Aside0.mk (below_step (by repeat (first | (with_reducible first | exact HB.out | apply below_alloc | apply pw_below_drewN | apply below_drew1 | refine below_set ?_ GE398.out | refine below_set ?_ GE399.out) | exact HB.out)) hb)
    clear BK398
    clear BK399
    clear HB
    have HO405 := n0_
    have BK398 := n1_
    have BK399 := n2_
    have HB := n3_
    clear n0_ n1_ n2_ n3_
    (try clear hb)
    (try clear hb2)
    (try clear hk)
    (try clear hi)
    (try clear ho0)
    refine hK.out _ _ ⟨(blk_cell BK398.out 0).trans rfl, (blk_cell BK398.out 1).trans rfl, (blk_cell BK398.out 2).trans rfl, (blk_cell BK399.out 0).trans rfl, (blk_cell BK399.out 1).trans rfl, (blk_cell BK399.out 2).trans rfl, (blk_cell BK399.out 3).trans rfl⟩ (fun hHeld => ?_)
    clear hK K
    refine norm_ (a' := ?_) ?_ ?_
    rotate_left
    ·show Act.put _ (some 18) _ = _
     simp only [Act.put, List.setIfInBounds_toArray, List.set_cons_zero, List.set_cons_succ, i64_w, i32_w]
     rfl
    refine two_ (i := 3) (j := 8) (Ni := some 20) (Nj := some 6) #[true, true, true, true, false, false, false, false, false, false, false] #[true, true, true, false, false, false, false, false, true, false, false] rfl rfl rfl rfl (two_of HT_.out (by kernel_rfl)) (by decide) (by decide) (fun K hK => ?_) (fun K hK => ?_)
    ·skip
     refine goes_ Try.func22 (by kernel_rfl) rfl #[.agg #[.int .i8 a1_0, .int .i8 a1_1, .int .i8 a1_2, .int .i8 a1_3]] (by rfl) rfl rfl (by (try simp only [List.map_toArray, List.map_cons, List.map_nil]); first | done | rfl | (simp only [List.length_drop, List.length_take]; rfl)) ?_
     with_reducible refine (laws_toWord.calls k a1_0 a1_1 a1_2 a1_3 t406 t407 t408 t409 _ A11.out).mono ?_
     rintro e w24 ⟨rfl, hb⟩
     refine ⟨_, rfl, ?_⟩
     have n0_ := Aside0.mk (Kd.R_below (pr_ HO405) hb)
     have n1_ := Aside0.mk (blk_below (g := gb398) (o := .cells #[.int .i8 a0_0, .int .i8 a0_1, .slice A0_2 l0_2.length c0_2] 25 (0, 0)) (pl_ BK398) hb)
     have n2_ := Aside0.mk (blk_below (g := gb399) (o := .cells #[.int .i8 a1_0, .int .i8 a1_1, .int .i8 a1_2, .int .i8 a1_3] 29 (0, 0)) (pl_ BK399) hb)
     have n3_ := Aside0.mk (below_step (by repeat (first | (with_reducible first | exact HB.out | apply below_alloc | apply pw_below_drewN | apply below_drew1 | refine below_set ?_ GE398.out | refine below_set ?_ GE399.out) | exact HB.out)) hb)
     clear HO405
     clear BK398
     clear BK399
     clear HB
     have HO405 := n0_
     have BK398 := n1_
     have BK399 := n2_
     have HB := n3_
     clear n0_ n1_ n2_ n3_
     (try clear hb)
     (try clear hb2)
     (try clear hk)
     (try clear hi)
     obtain ⟨Ao25, co25, eo25⟩ := Kd.R_slice HO405.out
     (first | subst eo25 | (injection eo25 with f1_ f2_ f3_; have f4_ := f1_.symm; have f5_ := f3_.symm; clear f1_ f2_ f3_; subst f4_; subst f5_))
     refine hK.out _ _ ⟨(blk_cell BK398.out 0).trans rfl, (blk_cell BK398.out 1).trans rfl, (blk_cell BK398.out 2).trans rfl, (blk_cell BK399.out 0).trans rfl, (blk_cell BK399.out 1).trans rfl, (blk_cell BK399.out 2).trans rfl, (blk_cell BK399.out 3).trans rfl⟩ (fun hHeld => ?_)
     clear hK K
     refine norm_ (a' := ?_) ?_ ?_
     rotate_left
     ·show Act.put _ (some 20) _ = _
      simp only [Act.put, List.setIfInBounds_toArray, List.set_cons_zero, List.set_cons_succ, i64_w, i32_w]
      rfl
     refine two_ (i := 4) (j := 8) (Ni := some 21) (Nj := some 6) #[true, true, true, true, true, false, false, false, false, false, false] #[true, true, true, true, false, false, false, false, true, false, false] rfl rfl rfl rfl (two_of HT_.out (by kernel_rfl)) (by decide) (by decide) (fun K hK => ?_) (fun K hK => ?_)
     ·skip
      refine goes_ Try.func21 (by kernel_rfl) rfl #[.agg #[.int .i8 t401, .int .i8 t402, .slice Ao25 t403.length co25], .agg #[.int .i8 t406, .int .i8 t407, .int .i8 t408, .int .i8 t409]] (by rfl) rfl rfl (by (try simp only [List.map_toArray, List.map_cons, List.map_nil]); first | done | rfl | (simp only [List.length_drop, List.length_take]; rfl)) ?_
      with_reducible refine (spec_Decode.calls k t401 t402 _ _ t403 t406 t407 t408 t409 t410 t411 t412 _ ?side1 ?side2 A12.out).mono ?_
      (case side1 => repeat (first | exact (Kd.R_reads' HO405.out).2.2 | (with_reducible refine Kd.C_alloc ?_ _) | (with_reducible refine Kd.C_drewN ?_ _) | (with_reducible refine Kd.C_drew ?_)))
      (case side2 => exact (Kd.R_reads' HO405.out).2.1)
      rintro e w26 ⟨rfl, hb⟩
      refine ⟨_, rfl, ?_⟩
      have n0_ := Aside0.mk (Kd.R_below (pr_ HO405) hb)
      have n1_ := Aside0.mk (blk_below (g := gb398) (o := .cells #[.int .i8 a0_0, .int .i8 a0_1, .slice A0_2 l0_2.length c0_2] 25 (0, 0)) (pl_ BK398) hb)
      have n2_ := Aside0.mk (blk_below (g := gb399) (o := .cells #[.int .i8 a1_0, .int .i8 a1_1, .int .i8 a1_2, .int .i8 a1_3] 29 (0, 0)) (pl_ BK399) hb)
      have n3_ := Aside0.mk (below_step (by repeat (first | (with_reducible first | exact HB.out | apply below_alloc | apply pw_below_drewN | apply below_drew1 | refine below_set ?_ GE398.out | refine below_set ?_ GE399.out) | exact HB.out)) hb)
      clear HO405
      clear BK398
      clear BK399
      clear HB
      have HO405 := n0_
      have BK398 := n1_
      have BK399 := n2_
      have HB := n3_
      clear n0_ n1_ n2_ n3_
      (try clear hb)
      (try clear hb2)
      (try clear hk)
      (try clear hi)
      refine hK.out _ _ ⟨(blk_cell BK398.out 0).trans rfl, (blk_cell BK398.out 1).trans rfl, (blk_cell BK398.out 2).trans rfl, (blk_cell BK399.out 0).trans rfl, (blk_cell BK399.out 1).trans rfl, (blk_cell BK399.out 2).trans rfl, (blk_cell BK399.out 3).trans rfl⟩ (fun hHeld => ?_)
      clear hK K
      refine norm_ (a' := ?_) ?_ ?_
      rotate_left
      ·show Act.put _ (some 21) _ = _
       simp only [Act.put, List.setIfInBounds_toArray, List.set_cons_zero, List.set_cons_succ, i64_w, i32_w]
       rfl
      refine pure_ (i := 5) (N := some 16) (v := ?_) (a' := ?_) #[true, true, true, true, true, true, false, false, false, false, false] rfl rfl (any_of HT_.out (by kernel_rfl)) (fun _ _ _ h => h) (Or.inl ⟨by rfl, ?_⟩) ?_ ?_
      rotate_left
      ·intro w'
       go_simp
       with_reducible rfl
      rotate_left
      ·simp only [Act.put, List.setIfInBounds_toArray, List.set_cons_zero, List.set_cons_succ, i64_w, i32_w]
       rfl
      refine pure_ (i := 6) (N := some 22) (v := ?_) (a' := ?_) #[true, true, true, true, true, true, true, false, false, false, false] rfl rfl (any_of HT_.out (by kernel_rfl)) (fun _ _ _ h => h) (Or.inl ⟨by rfl, ?_⟩) ?_ ?_
      rotate_left
      ·intro w'
       go_simp
       with_reducible rfl
      rotate_left
      ·simp only [Act.put, List.setIfInBounds_toArray, List.set_cons_zero, List.set_cons_succ, i64_w, i32_w]
       rfl
      refine pure_ (i := 7) (N := some 23) (v := ?_) (a' := ?_) #[true, true, true, true, true, true, true, true, false, false, false] rfl rfl (any_of HT_.out (by kernel_rfl)) (fun _ _ _ h => h) (Or.inl ⟨by rfl, ?_⟩) ?_ ?_
      rotate_left
      ·intro w'
       go_simp
       with_reducible rfl
      rotate_left
      ·simp only [Act.put, List.setIfInBounds_toArray, List.set_cons_zero, List.set_cons_succ, i64_w, i32_w]
       rfl
      refine one_ (i := 8) (N := some 6) #[true, true, true, true, true, true, true, true, true, false, false] rfl rfl (one_of HT_.out (by kernel_rfl)) (by decide) (fun K hK => ?_)
      refine box_step ?hg (N := 6) ?hd (cs := #[.int .i8 0, .bool false]) (t := 37) ?hr ?_; (case hd => rfl); (case hg => rfl); (case hr => first | (go_simp; done) | (go_simp; rfl))
      intro gb413 hg w27 hbox hb
      have n0_ := Aside0.mk (Kd.R_below (pr_ HO405) hb)
      have n1_ := Aside0.mk (blk_below (g := gb398) (o := .cells #[.int .i8 a0_0, .int .i8 a0_1, .slice A0_2 l0_2.length c0_2] 25 (0, 0)) (pl_ BK398) hb)
      have n2_ := Aside0.mk (blk_below (g := gb399) (o := .cells #[.int .i8 a1_0, .int .i8 a1_1, .int .i8 a1_2, .int .i8 a1_3] 29 (0, 0)) (pl_ BK399) hb)
      have n3_ := Aside0.mk (below_step (by repeat (first | (with_reducible first | exact HB.out | apply below_alloc | apply pw_below_drewN | apply below_drew1 | refine below_set ?_ GE398.out | refine below_set ?_ GE399.out) | exact HB.out)) hb)
      have n4_ := Aside0.mk (hbox)
      have n5_ := Aside0.mk ((by rw [hg]; exact (below_size (by repeat (first | (with_reducible first | exact HB.out | apply below_alloc | apply pw_below_drewN | apply below_drew1 | refine below_set ?_ GE398.out | refine below_set ?_ GE399.out) | exact HB.out))) : w.heap.size ≤ gb413))
      have n6_ := Aside0.mk ((by rw [hg]; exact (below_size (by repeat (first | (with_reducible first | exact HB.out | apply below_alloc | apply pw_below_drewN | apply below_drew1 | refine below_set ?_ GE398.out | refine below_set ?_ GE399.out) | exact HB.out))) : w.heap.size ≤ gb413))
      have n7_ := Aside0.mk ((by rw [hg]; exact Nat.ne_of_lt (blk_lt (g := gb398) (o := .cells #[.int .i8 a0_0, .int .i8 a0_1, .slice A0_2 l0_2.length c0_2] 25 (0, 0)) (pl_ BK398)) : gb398 ≠ gb413))
      have n8_ := Aside0.mk ((by rw [hg]; exact Nat.ne_of_gt (blk_lt (g := gb398) (o := .cells #[.int .i8 a0_0, .int .i8 a0_1, .slice A0_2 l0_2.length c0_2] 25 (0, 0)) (pl_ BK398)) : gb413 ≠ gb398))
      have n9_ := Aside0.mk ((by rw [hg]; exact Nat.ne_of_lt (blk_lt (g := gb399) (o := .cells #[.int .i8 a1_0, .int .i8 a1_1, .int .i8 a1_2, .int .i8 a1_3] 29 (0, 0)) (pl_ BK399)) : gb399 ≠ gb413))
      have n10_ := Aside0.mk ((by rw [hg]; exact Nat.ne_of_gt (blk_lt (g := gb399) (o := .cells #[.int .i8 a1_0, .int .i8 a1_1, .int .i8 a1_2, .int .i8 a1_3] 29 (0, 0)) (pl_ BK399)) : gb413 ≠ gb399))
      clear HO405
      clear BK398
      clear BK399
      clear HB
      have HO405 := n0_
      have BK398 := n1_
      have BK399 := n2_
      have HB := n3_
      have BK413 := n4_
      have GW413 := n5_
      have GE413 := n6_
      have NB398_413 := n7_
      have NB413_398 := n8_
      have NB399_413 := n9_
      have NB413_399 := n10_
      clear n0_ n1_ n2_ n3_ n4_ n5_ n6_ n7_ n8_ n9_ n10_
      clear hb hbox hg
      refine hK.out _ _ ⟨(blk_cell BK398.out 0).trans rfl, (blk_cell BK398.out 1).trans rfl, (blk_cell BK398.out 2).trans rfl, (blk_cell BK399.out 0).trans rfl, (blk_cell BK399.out 1).trans rfl, (blk_cell BK399.out 2).trans rfl, (blk_cell BK399.out 3).trans rfl⟩ (fun hHeld => ?_)
      clear hK K
      refine norm_ (a' := ?_) ?_ ?_
      rotate_left
      ·show Act.put _ (some 6) _ = _
       simp only [Act.put, List.setIfInBounds_toArray, List.set_cons_zero, List.set_cons_succ, i64_w, i32_w]
       rfl
      exact norm_ (by simp only [putAll, Act.put, List.setIfInBounds_toArray, List.set_cons_zero, List.set_cons_succ]) (hCont (.slice Ao25 t403.length co25, gb413) _ ⟨hHeld, (pr_ HO405), (pl_ BK398), (pl_ BK399), (pl_ BK413), GW413.out, GE413.out, NB398_413.out, NB413_398.out, NB399_413.out, NB413_399.out, (by repeat (first | (with_reducible first | exact HB.out | apply below_alloc | apply pw_below_drewN | apply below_drew1 | refine below_set ?_ GE398.out | refine below_set ?_ GE399.out | refine below_set ?_ GE413.out) | exact HB.out))⟩)
     ·skip
      refine box_step ?hg (N := 6) ?hd (cs := #[.int .i8 0, .bool false]) (t := 37) ?hr ?_; (case hd => rfl); (case hg => rfl); (case hr => first | (go_simp; done) | (go_simp; rfl))
      intro gb413 hg w25 hbox hb
      have n0_ := Aside0.mk (Kd.R_below (pr_ HO405) hb)
      have n1_ := Aside0.mk (blk_below (g := gb398) (o := .cells #[.int .i8 a0_0, .int .i8 a0_1, .slice A0_2 l0_2.length c0_2] 25 (0, 0)) (pl_ BK398) hb)
      have n2_ := Aside0.mk (blk_below (g := gb399) (o := .cells #[.int .i8 a1_0, .int .i8 a1_1, .int .i8 a1_2, .int .i8 a1_3] 29 (0, 0)) (pl_ BK399) hb)
      have n3_ := Aside0.mk (below_step (by repeat (first | (with_reducible first | exact HB.out | apply below_alloc | apply pw_below_drewN | apply below_drew1 | refine below_set ?_ GE398.out | refine below_set ?_ GE399.out) | exact HB.out)) hb)
      have n4_ := Aside0.mk (hbox)
      have n5_ := Aside0.mk ((by rw [hg]; exact (below_size (by repeat (first | (with_reducible first | exact HB.out | apply below_alloc | apply pw_below_drewN | apply below_drew1 | refine below_set ?_ GE398.out | refine below_set ?_ GE399.out) | exact HB.out))) : w.heap.size ≤ gb413))
      have n6_ := Aside0.mk ((by rw [hg]; exact (below_size (by repeat (first | (with_reducible first | exact HB.out | apply below_alloc | apply pw_below_drewN | apply below_drew1 | refine below_set ?_ GE398.out | refine below_set ?_ GE399.out) | exact HB.out))) : w.heap.size ≤ gb413))
      have n7_ := Aside0.mk ((by rw [hg]; exact Nat.ne_of_lt (blk_lt (g := gb398) (o := .cells #[.int .i8 a0_0, .int .i8 a0_1, .slice A0_2 l0_2.length c0_2] 25 (0, 0)) (pl_ BK398)) : gb398 ≠ gb413))
      have n8_ := Aside0.mk ((by rw [hg]; exact Nat.ne_of_gt (blk_lt (g := gb398) (o := .cells #[.int .i8 a0_0, .int .i8 a0_1, .slice A0_2 l0_2.length c0_2] 25 (0, 0)) (pl_ BK398)) : gb413 ≠ gb398))
      have n9_ := Aside0.mk ((by rw [hg]; exact Nat.ne_of_lt (blk_lt (g := gb399) (o := .cells #[.int .i8 a1_0, .int .i8 a1_1, .int .i8 a1_2, .int .i8 a1_3] 29 (0, 0)) (pl_ BK399)) : gb399 ≠ gb413))
      have n10_ := Aside0.mk ((by rw [hg]; exact Nat.ne_of_gt (blk_lt (g := gb399) (o := .cells #[.int .i8 a1_0, .int .i8 a1_1, .int .i8 a1_2, .int .i8 a1_3] 29 (0, 0)) (pl_ BK399)) : gb413 ≠ gb399))
      clear HO405
      clear BK398
      clear BK399
      clear HB
      have HO405 := n0_
      have BK398 := n1_
      have BK399 := n2_
      have HB := n3_
      have BK413 := n4_
      have GW413 := n5_
      have GE413 := n6_
      have NB398_413 := n7_
      have NB413_398 := n8_
      have NB399_413 := n9_
      have NB413_399 := n10_
      clear n0_ n1_ n2_ n3_ n4_ n5_ n6_ n7_ n8_ n9_ n10_
      clear hb hbox hg
      obtain ⟨Ao26, co26, eo26⟩ := Kd.R_slice HO405.out
      (first | subst eo26 | (injection eo26 with f1_ f2_ f3_; have f4_ := f1_.symm; have f5_ := f3_.symm; clear f1_ f2_ f3_; subst f4_; subst f5_))
      refine hK.out _ _ ⟨(blk_cell BK398.out 0).trans rfl, (blk_cell BK398.out 1).trans rfl, (blk_cell BK398.out 2).trans rfl, (blk_cell BK399.out 0).trans rfl, (blk_cell BK399.out 1).trans rfl, (blk_cell BK399.out 2).trans rfl, (blk_cell BK399.out 3).trans rfl⟩ (fun hHeld => ?_)
      clear hK K
      refine norm_ (a' := ?_) ?_ ?_
      rotate_left
      ·show Act.put _ (some 6) _ = _
       simp only [Act.put, List.setIfInBounds_toArray, List.set_cons_zero, List.set_cons_succ, i64_w, i32_w]
       rfl
      refine one_ (i := 4) (N := some 21) #[true, true, true, true, true, false, false, false, true, false, false] rfl rfl (one_of HT_.out (by kernel_rfl)) (by decide) (fun K hK => ?_)
      refine goes_ Try.func21 (by kernel_rfl) rfl #[.agg #[.int .i8 t401, .int .i8 t402, .slice Ao26 t403.length co26], .agg #[.int .i8 t406, .int .i8 t407, .int .i8 t408, .int .i8 t409]] (by rfl) rfl rfl (by (try simp only [List.map_toArray, List.map_cons, List.map_nil]); first | done | rfl | (simp only [List.length_drop, List.length_take]; rfl)) ?_
      with_reducible refine (spec_Decode.calls k t401 t402 _ _ t403 t406 t407 t408 t409 t410 t411 t412 _ ?side1 ?side2 A12.out).mono ?_
      (case side1 => repeat (first | exact (Kd.R_reads' HO405.out).2.2 | (with_reducible refine Kd.C_alloc ?_ _) | (with_reducible refine Kd.C_drewN ?_ _) | (with_reducible refine Kd.C_drew ?_)))
      (case side2 => exact (Kd.R_reads' HO405.out).2.1)
      rintro e w27 ⟨rfl, hb⟩
      refine ⟨_, rfl, ?_⟩
      have n0_ := Aside0.mk (Kd.R_below (pr_ HO405) hb)
      have n1_ := Aside0.mk (blk_below (g := gb398) (o := .cells #[.int .i8 a0_0, .int .i8 a0_1, .slice A0_2 l0_2.length c0_2] 25 (0, 0)) (pl_ BK398) hb)
      have n2_ := Aside0.mk (blk_below (g := gb399) (o := .cells #[.int .i8 a1_0, .int .i8 a1_1, .int .i8 a1_2, .int .i8 a1_3] 29 (0, 0)) (pl_ BK399) hb)
      have n3_ := Aside0.mk (blk_below (g := gb413) (o := .cells #[.int .i8 0, .bool false] 37 (0, 0)) (pl_ BK413) hb)
      have n4_ := Aside0.mk (below_step (by repeat (first | (with_reducible first | exact HB.out | apply below_alloc | apply pw_below_drewN | apply below_drew1 | refine below_set ?_ GE398.out | refine below_set ?_ GE399.out | refine below_set ?_ GE413.out) | exact HB.out)) hb)
      clear HO405
      clear BK398
      clear BK399
      clear BK413
      clear HB
      have HO405 := n0_
      have BK398 := n1_
      have BK399 := n2_
      have BK413 := n3_
      have HB := n4_
      clear n0_ n1_ n2_ n3_ n4_
      (try clear hb)
      (try clear hb2)
      (try clear hk)
      (try clear hi)
      refine hK.out _ _ ⟨(blk_cell BK398.out 0).trans rfl, (blk_cell BK398.out 1).trans rfl, (blk_cell BK398.out 2).trans rfl, (blk_cell BK399.out 0).trans rfl, (blk_cell BK399.out 1).trans rfl, (blk_cell BK399.out 2).trans rfl, (blk_cell BK399.out 3).trans rfl⟩ (fun hHeld => ?_)
      clear hK K
      refine norm_ (a' := ?_) ?_ ?_
      rotate_left
      ·show Act.put _ (some 21) _ = _
       simp only [Act.put, List.setIfInBounds_toArray, List.set_cons_zero, List.set_cons_succ, i64_w, i32_w]
       rfl
      refine pure_ (i := 5) (N := some 16) (v := ?_) (a' := ?_) #[true, true, true, true, true, true, false, false, true, false, false] rfl rfl (any_of HT_.out (by kernel_rfl)) (fun _ _ _ h => h) (Or.inl ⟨by rfl, ?_⟩) ?_ ?_
      rotate_left
      ·intro w'
       go_simp
       with_reducible rfl
      rotate_left
      ·simp only [Act.put, List.setIfInBounds_toArray, List.set_cons_zero, List.set_cons_succ, i64_w, i32_w]
       rfl
      refine pure_ (i := 6) (N := some 22) (v := ?_) (a' := ?_) #[true, true, true, true, true, true, true, false, true, false, false] rfl rfl (any_of HT_.out (by kernel_rfl)) (fun _ _ _ h => h) (Or.inl ⟨by rfl, ?_⟩) ?_ ?_
      rotate_left
      ·intro w'
       go_simp
       with_reducible rfl
      rotate_left
      ·simp only [Act.put, List.setIfInBounds_toArray, List.set_cons_zero, List.set_cons_succ, i64_w, i32_w]
       rfl
      refine pure_ (i := 7) (N := some 23) (v := ?_) (a' := ?_) #[true, true, true, true, true, true, true, true, true, false, false] rfl rfl (any_of HT_.out (by kernel_rfl)) (fun _ _ _ h => h) (Or.inl ⟨by rfl, ?_⟩) ?_ ?_
      rotate_left
      ·intro w'
       go_simp
       with_reducible rfl
      rotate_left
      ·simp only [Act.put, List.setIfInBounds_toArray, List.set_cons_zero, List.set_cons_succ, i64_w, i32_w]
       rfl
      exact norm_ (by simp only [putAll, Act.put, List.setIfInBounds_toArray, List.set_cons_zero, List.set_cons_succ]) (hCont (.slice Ao26 t403.length co26, gb413) _ ⟨hHeld, (pr_ HO405), (pl_ BK398), (pl_ BK399), (pl_ BK413), GW413.out, GE413.out, NB398_413.out, NB413_398.out, NB399_413.out, NB413_399.out, (by repeat (first | (with_reducible first | exact HB.out | apply below_alloc | apply pw_below_drewN | apply below_drew1 | refine below_set ?_ GE398.out | refine below_set ?_ GE399.out | refine below_set ?_ GE413.out) | exact HB.out))⟩)
    ·skip
     refine box_step ?hg (N := 6) ?hd (cs := #[.int .i8 0, .bool false]) (t := 37) ?hr ?_; (case hd => rfl); (case hg => rfl); (case hr => first | (go_simp; done) | (go_simp; rfl))
     intro gb413 hg w24 hbox hb
     have n0_ := Aside0.mk (Kd.R_below (pr_ HO405) hb)
     have n1_ := Aside0.mk (blk_below (g := gb398) (o := .cells #[.int .i8 a0_0, .int .i8 a0_1, .slice A0_2 l0_2.length c0_2] 25 (0, 0)) (pl_ BK398) hb)
     have n2_ := Aside0.mk (blk_below (g := gb399) (o := .cells #[.int .i8 a1_0, .int .i8 a1_1, .int .i8 a1_2, .int .i8 a1_3] 29 (0, 0)) (pl_ BK399) hb)
     have n3_ := Aside0.mk (below_step (by repeat (first | (with_reducible first | exact HB.out | apply below_alloc | apply pw_below_drewN | apply below_drew1 | refine below_set ?_ GE398.out | refine below_set ?_ GE399.out) | exact HB.out)) hb)
     have n4_ := Aside0.mk (hbox)
     have n5_ := Aside0.mk ((by rw [hg]; exact (below_size (by repeat (first | (with_reducible first | exact HB.out | apply below_alloc | apply pw_below_drewN | apply below_drew1 | refine below_set ?_ GE398.out | refine below_set ?_ GE399.out) | exact HB.out))) : w.heap.size ≤ gb413))
     have n6_ := Aside0.mk ((by rw [hg]; exact (below_size (by repeat (first | (with_reducible first | exact HB.out | apply below_alloc | apply pw_below_drewN | apply below_drew1 | refine below_set ?_ GE398.out | refine below_set ?_ GE399.out) | exact HB.out))) : w.heap.size ≤ gb413))
     have n7_ := Aside0.mk ((by rw [hg]; exact Nat.ne_of_lt (blk_lt (g := gb398) (o := .cells #[.int .i8 a0_0, .int .i8 a0_1, .slice A0_2 l0_2.length c0_2] 25 (0, 0)) (pl_ BK398)) : gb398 ≠ gb413))
     have n8_ := Aside0.mk ((by rw [hg]; exact Nat.ne_of_gt (blk_lt (g := gb398) (o := .cells #[.int .i8 a0_0, .int .i8 a0_1, .slice A0_2 l0_2.length c0_2] 25 (0, 0)) (pl_ BK398)) : gb413 ≠ gb398))
     have n9_ := Aside0.mk ((by rw [hg]; exact Nat.ne_of_lt (blk_lt (g := gb399) (o := .cells #[.int .i8 a1_0, .int .i8 a1_1, .int .i8 a1_2, .int .i8 a1_3] 29 (0, 0)) (pl_ BK399)) : gb399 ≠ gb413))
     have n10_ := Aside0.mk ((by rw [hg]; exact Nat.ne_of_gt (blk_lt (g := gb399) (o := .cells #[.int .i8 a1_0, .int .i8 a1_1, .int .i8 a1_2, .int .i8 a1_3] 29 (0, 0)) (pl_ BK399)) : gb413 ≠ gb399))
     clear HO405
     clear BK398
     clear BK399
     clear HB
     have HO405 := n0_
     have BK398 := n1_
     have BK399 := n2_
     have HB := n3_
     have BK413 := n4_
     have GW413 := n5_
     have GE413 := n6_
     have NB398_413 := n7_
     have NB413_398 := n8_
     have NB399_413 := n9_
     have NB413_399 := n10_
     clear n0_ n1_ n2_ n3_ n4_ n5_ n6_ n7_ n8_ n9_ n10_
     clear hb hbox hg
     refine hK.out _ _ ⟨(blk_cell BK398.out 0).trans rfl, (blk_cell BK398.out 1).trans rfl, (blk_cell BK398.out 2).trans rfl, (blk_cell BK399.out 0).trans rfl, (blk_cell BK399.out 1).trans rfl, (blk_cell BK399.out 2).trans rfl, (blk_cell BK399.out 3).trans rfl⟩ (fun hHeld => ?_)
     clear hK K
     refine norm_ (a' := ?_) ?_ ?_
     rotate_left
     ·show Act.put _ (some 6) _ = _
      simp only [Act.put, List.setIfInBounds_toArray, List.set_cons_zero, List.set_cons_succ, i64_w, i32_w]
      rfl
     refine one_ (i := 3) (N := some 20) #[true, true, true, true, false, false, false, false, true, false, false] rfl rfl (one_of HT_.out (by kernel_rfl)) (by decide) (fun K hK => ?_)
     refine goes_ Try.func22 (by kernel_rfl) rfl #[.agg #[.int .i8 a1_0, .int .i8 a1_1, .int .i8 a1_2, .int .i8 a1_3]] (by rfl) rfl rfl (by (try simp only [List.map_toArray, List.map_cons, List.map_nil]); first | done | rfl | (simp only [List.length_drop, List.length_take]; rfl)) ?_
     with_reducible refine (laws_toWord.calls k a1_0 a1_1 a1_2 a1_3 t406 t407 t408 t409 _ A11.out).mono ?_
     rintro e w25 ⟨rfl, hb⟩
     refine ⟨_, rfl, ?_⟩
     have n0_ := Aside0.mk (Kd.R_below (pr_ HO405) hb)
     have n1_ := Aside0.mk (blk_below (g := gb398) (o := .cells #[.int .i8 a0_0, .int .i8 a0_1, .slice A0_2 l0_2.length c0_2] 25 (0, 0)) (pl_ BK398) hb)
     have n2_ := Aside0.mk (blk_below (g := gb399) (o := .cells #[.int .i8 a1_0, .int .i8 a1_1, .int .i8 a1_2, .int .i8 a1_3] 29 (0, 0)) (pl_ BK399) hb)
     have n3_ := Aside0.mk (blk_below (g := gb413) (o := .cells #[.int .i8 0, .bool false] 37 (0, 0)) (pl_ BK413) hb)
     have n4_ := Aside0.mk (below_step (by repeat (first | (with_reducible first | exact HB.out | apply below_alloc | apply pw_below_drewN | apply below_drew1 | refine below_set ?_ GE398.out | refine below_set ?_ GE399.out | refine below_set ?_ GE413.out) | exact HB.out)) hb)
     clear HO405
     clear BK398
     clear BK399
     clear BK413
     clear HB
     have HO405 := n0_
     have BK398 := n1_
     have BK399 := n2_
     have BK413 := n3_
     have HB := n4_
     clear n0_ n1_ n2_ n3_ n4_
     (try clear hb)
     (try clear hb2)
     (try clear hk)
     (try clear hi)
     obtain ⟨Ao26, co26, eo26⟩ := Kd.R_slice HO405.out
     (first | subst eo26 | (injection eo26 with f1_ f2_ f3_; have f4_ := f1_.symm; have f5_ := f3_.symm; clear f1_ f2_ f3_; subst f4_; subst f5_))
     refine hK.out _ _ ⟨(blk_cell BK398.out 0).trans rfl, (blk_cell BK398.out 1).trans rfl, (blk_cell BK398.out 2).trans rfl, (blk_cell BK399.out 0).trans rfl, (blk_cell BK399.out 1).trans rfl, (blk_cell BK399.out 2).trans rfl, (blk_cell BK399.out 3).trans rfl⟩ (fun hHeld => ?_)
     clear hK K
     refine norm_ (a' := ?_) ?_ ?_
     rotate_left
     ·show Act.put _ (some 20) _ = _
      simp only [Act.put, List.setIfInBounds_toArray, List.set_cons_zero, List.set_cons_succ, i64_w, i32_w]
      rfl
     refine one_ (i := 4) (N := some 21) #[true, true, true, true, true, false, false, false, true, false, false] rfl rfl (one_of HT_.out (by kernel_rfl)) (by decide) (fun K hK => ?_)
     refine goes_ Try.func21 (by kernel_rfl) rfl #[.agg #[.int .i8 t401, .int .i8 t402, .slice Ao26 t403.length co26], .agg #[.int .i8 t406, .int .i8 t407, .int .i8 t408, .int .i8 t409]] (by rfl) rfl rfl (by (try simp only [List.map_toArray, List.map_cons, List.map_nil]); first | done | rfl | (simp only [List.length_drop, List.length_take]; rfl)) ?_
     with_reducible refine (spec_Decode.calls k t401 t402 _ _ t403 t406 t407 t408 t409 t410 t411 t412 _ ?side1 ?side2 A12.out).mono ?_
     (case side1 => repeat (first | exact (Kd.R_reads' HO405.out).2.2 | (with_reducible refine Kd.C_alloc ?_ _) | (with_reducible refine Kd.C_drewN ?_ _) | (with_reducible refine Kd.C_drew ?_)))
     (case side2 => exact (Kd.R_reads' HO405.out).2.1)
     rintro e w27 ⟨rfl, hb⟩
     refine ⟨_, rfl, ?_⟩
     have n0_ := Aside0.mk (Kd.R_below (pr_ HO405) hb)
     have n1_ := Aside0.mk (blk_below (g := gb398) (o := .cells #[.int .i8 a0_0, .int .i8 a0_1, .slice A0_2 l0_2.length c0_2] 25 (0, 0)) (pl_ BK398) hb)
     have n2_ := Aside0.mk (blk_below (g := gb399) (o := .cells #[.int .i8 a1_0, .int .i8 a1_1, .int .i8 a1_2, .int .i8 a1_3] 29 (0, 0)) (pl_ BK399) hb)
     have n3_ := Aside0.mk (blk_below (g := gb413) (o := .cells #[.int .i8 0, .bool false] 37 (0, 0)) (pl_ BK413) hb)
     have n4_ := Aside0.mk (below_step (by repeat (first | (with_reducible first | exact HB.out | apply below_alloc | apply pw_below_drewN | apply below_drew1 | refine below_set ?_ GE398.out | refine below_set ?_ GE399.out | refine below_set ?_ GE413.out) | exact HB.out)) hb)
     clear HO405
     clear BK398
     clear BK399
     clear BK413
     clear HB
     have HO405 := n0_
     have BK398 := n1_
     have BK399 := n2_
     have BK413 := n3_
     have HB := n4_
     clear n0_ n1_ n2_ n3_ n4_
     (try clear hb)
     (try clear hb2)
     (try clear hk)
     (try clear hi)
     refine hK.out _ _ ⟨(blk_cell BK398.out 0).trans rfl, (blk_cell BK398.out 1).trans rfl, (blk_cell BK398.out 2).trans rfl, (blk_cell BK399.out 0).trans rfl, (blk_cell BK399.out 1).trans rfl, (blk_cell BK399.out 2).trans rfl, (blk_cell BK399.out 3).trans rfl⟩ (fun hHeld => ?_)
     clear hK K
     refine norm_ (a' := ?_) ?_ ?_
     rotate_left
     ·show Act.put _ (some 21) _ = _
      simp only [Act.put, List.setIfInBounds_toArray, List.set_cons_zero, List.set_cons_succ, i64_w, i32_w]
      rfl
     refine pure_ (i := 5) (N := some 16) (v := ?_) (a' := ?_) #[true, true, true, true, true, true, false, false, true, false, false] rfl rfl (any_of HT_.out (by kernel_rfl)) (fun _ _ _ h => h) (Or.inl ⟨by rfl, ?_⟩) ?_ ?_
     rotate_left
     ·intro w'
      go_simp
      with_reducible rfl
     rotate_left
     ·simp only [Act.put, List.setIfInBounds_toArray, List.set_cons_zero, List.set_cons_succ, i64_w, i32_w]
      rfl
     refine pure_ (i := 6) (N := some 22) (v := ?_) (a' := ?_) #[true, true, true, true, true, true, true, false, true, false, false] rfl rfl (any_of HT_.out (by kernel_rfl)) (fun _ _ _ h => h) (Or.inl ⟨by rfl, ?_⟩) ?_ ?_
     rotate_left
     ·intro w'
      go_simp
      with_reducible rfl
     rotate_left
     ·simp only [Act.put, List.setIfInBounds_toArray, List.set_cons_zero, List.set_cons_succ, i64_w, i32_w]
      rfl
     refine pure_ (i := 7) (N := some 23) (v := ?_) (a' := ?_) #[true, true, true, true, true, true, true, true, true, false, false] rfl rfl (any_of HT_.out (by kernel_rfl)) (fun _ _ _ h => h) (Or.inl ⟨by rfl, ?_⟩) ?_ ?_
     rotate_left
     ·intro w'
      go_simp
      with_reducible rfl
     rotate_left
     ·simp only [Act.put, List.setIfInBounds_toArray, List.set_cons_zero, List.set_cons_succ, i64_w, i32_w]
      rfl
     exact norm_ (by simp only [putAll, Act.put, List.setIfInBounds_toArray, List.set_cons_zero, List.set_cons_succ]) (hCont (.slice Ao26 t403.length co26, gb413) _ ⟨hHeld, (pr_ HO405), (pl_ BK398), (pl_ BK399), (pl_ BK413), GW413.out, GE413.out, NB398_413.out, NB413_398.out, NB399_413.out, NB413_399.out, (by repeat (first | (with_reducible first | exact HB.out | apply below_alloc | apply pw_below_drewN | apply below_drew1 | refine below_set ?_ GE398.out | refine below_set ?_ GE399.out | refine below_set ?_ GE413.out) | exact HB.out))⟩)
   ·skip
    refine box_step ?hg (N := 6) ?hd (cs := #[.int .i8 0, .bool false]) (t := 37) ?hr ?_; (case hd => rfl); (case hg => rfl); (case hr => first | (go_simp; done) | (go_simp; rfl))
    intro gb413 hg w23 hbox hb
    have n0_ := Aside0.mk (blk_below (g := gb398) (o := .cells #[.int .i8 a0_0, .int .i8 a0_1, .slice A0_2 l0_2.length c0_2] 25 (0, 0)) (pl_ BK398) hb)
    have n1_ := Aside0.mk (blk_below (g := gb399) (o := .cells #[.int .i8 a1_0, .int .i8 a1_1, .int .i8 a1_2, .int .i8 a1_3] 29 (0, 0)) (pl_ BK399) hb)
    have n2_ := Aside0.mk (below_step (by repeat (first | (with_reducible first | exact HB.out | apply below_alloc | apply pw_below_drewN | apply below_drew1 | refine below_set ?_ GE398.out | refine below_set ?_ GE399.out) | exact HB.out)) hb)
    have n3_ := Aside0.mk (hbox)
    have n4_ := Aside0.mk ((by rw [hg]; exact (below_size (by repeat (first | (with_reducible first | exact HB.out | apply below_alloc | apply pw_below_drewN | apply below_drew1 | refine below_set ?_ GE398.out | refine below_set ?_ GE399.out) | exact HB.out))) : w.heap.size ≤ gb413))
    have n5_ := Aside0.mk ((by rw [hg]; exact (below_size (by repeat (first | (with_reducible first | exact HB.out | apply below_alloc | apply pw_below_drewN | apply below_drew1 | refine below_set ?_ GE398.out | refine below_set ?_ GE399.out) | exact HB.out))) : w.heap.size ≤ gb413))
    have n6_ := Aside0.mk ((by rw [hg]; exact Nat.ne_of_lt (blk_lt (g := gb398) (o := .cells #[.int .i8 a0_0, .int .i8 a0_1, .slice A0_2 l0_2.length c0_2] 25 (0, 0)) (pl_ BK398)) : gb398 ≠ gb413))
    have n7_ := Aside0.mk ((by rw [hg]; exact Nat.ne_of_gt (blk_lt (g := gb398) (o := .cells #[.int .i8 a0_0, .int .i8 a0_1, .slice A0_2 l0_2.length c0_2] 25 (0, 0)) (pl_ BK398)) : gb413 ≠ gb398))
    have n8_ := Aside0.mk ((by rw [hg]; exact Nat.ne_of_lt (blk_lt (g := gb399) (o := .cells #[.int .i8 a1_0, .int .i8 a1_1, .int .i8 a1_2, .int .i8 a1_3] 29 (0, 0)) (pl_ BK399)) : gb399 ≠ gb413))
    have n9_ := Aside0.mk ((by rw [hg]; exact Nat.ne_of_gt (blk_lt (g := gb399) (o := .cells #[.int .i8 a1_0, .int .i8 a1_1, .int .i8 a1_2, .int .i8 a1_3] 29 (0, 0)) (pl_ BK399)) : gb413 ≠ gb399))
    clear BK398
    clear BK399
    clear HB
    have BK398 := n0_
    have BK399 := n1_
    have HB := n2_
    have BK413 := n3_
    have GW413 := n4_
    have GE413 := n5_
    have NB398_413 := n6_
    have NB413_398 := n7_
    have NB399_413 := n8_
    have NB413_399 := n9_
    clear n0_ n1_ n2_ n3_ n4_ n5_ n6_ n7_ n8_ n9_
    clear hb hbox hg
    refine hK.out _ _ ⟨(blk_cell BK398.out 0).trans rfl, (blk_cell BK398.out 1).trans rfl, (blk_cell BK398.out 2).trans rfl, (blk_cell BK399.out 0).trans rfl, (blk_cell BK399.out 1).trans rfl, (blk_cell BK399.out 2).trans rfl, (blk_cell BK399.out 3).trans rfl⟩ (fun hHeld => ?_)
    clear hK K
    refine norm_ (a' := ?_) ?_ ?_
    rotate_left
    ·show Act.put _ (some 6) _ = _
     simp only [Act.put, List.setIfInBounds_toArray, List.set_cons_zero, List.set_cons_succ, i64_w, i32_w]
     rfl
    refine one_ (i := 1) (N := some 18) #[true, true, true, false, false, false, false, false, true, false, false] rfl rfl (one_of HT_.out (by kernel_rfl)) (by decide) (fun K hK => ?_)
    refine goes_ Try.func11 (by kernel_rfl) rfl #[.agg #[.int .i8 a0_0, .int .i8 a0_1, .slice A0_2 l0_2.length c0_2]] (by rfl) rfl rfl (by (try simp only [List.map_toArray, List.map_cons, List.map_nil]); first | done | rfl | (simp only [List.length_drop, List.length_take]; rfl)) ?_
    with_reducible refine (laws_toFixed.calls k a0_0 a0_1 _ _ l0_2 t401 t402 t403 _ ?side1 ?side2 A10.out).mono ?_
    (case side1 => repeat (first | exact (Kd.C_below HR0_2.out HB.out) | (with_reducible refine Kd.C_alloc ?_ _) | (with_reducible refine Kd.C_drewN ?_ _) | (with_reducible refine Kd.C_drew ?_)))
    (case side2 => exact HC0_2.out)
    rintro e w24 ⟨v404, rfl, ho0, hb⟩
    refine ⟨_, rfl, ?_⟩
    have n0_ := Aside0.mk (Kd.R_lower ho0 (below_size (by repeat (first | (with_reducible first | exact HB.out | apply below_alloc | apply pw_below_drewN | apply below_drew1 | refine below_set ?_ GE398.out | refine below_set ?_ GE399.out | refine below_set ?_ GE413.out) | exact HB.out))))
    have n1_ := Aside0.mk (blk_below (g := gb398) (o := .cells #[.int .i8 a0_0, .int .i8 a0_1, .slice A0_2 l0_2.length c0_2] 25 (0, 0)) (pl_ BK398) hb)
    have n2_ := Aside0.mk (blk_below (g := gb399) (o := .cells #[.int .i8 a1_0, .int .i8 a1_1, .int .i8 a1_2, .int .i8 a1_3] 29 (0, 0)) (pl_ BK399) hb)
    have n3_ := Aside0.mk (blk_below (g := gb413) (o := .cells #[.int .i8 0, .bool false] 37 (0, 0)) (pl_ BK413) hb)
    have n4_ := Aside0.mk (below_step (by repeat (first | (with_reducible first | exact HB.out | apply below_alloc | apply pw_below_drewN | apply below_drew1 | refine below_set ?_ GE398.out | refine below_set ?_ GE399.out | refine below_set ?_ GE413.out) | exact HB.out)) hb)
    clear BK398
    clear BK399
    clear BK413
    clear HB
    have HO405 := n0_
    have BK398 := n1_
    have BK399 := n2_
    have BK413 := n3_
    have HB := n4_
    clear n0_ n1_ n2_ n3_ n4_
    (try clear hb)
    (try clear hb2)
    (try clear hk)
    (try clear hi)
    (try clear ho0)
    refine hK.out _ _ ⟨(blk_cell BK398.out 0).trans rfl, (blk_cell BK398.out 1).trans rfl, (blk_cell BK398.out 2).trans rfl, (blk_cell BK399.out 0).trans rfl, (blk_cell BK399.out 1).trans rfl, (blk_cell BK399.out 2).trans rfl, (blk_cell BK399.out 3).trans rfl⟩ (fun hHeld => ?_)
    clear hK K
    refine norm_ (a' := ?_) ?_ ?_
    rotate_left
    ·show Act.put _ (some 18) _ = _
     simp only [Act.put, List.setIfInBounds_toArray, List.set_cons_zero, List.set_cons_succ, i64_w, i32_w]
     rfl
    refine one_ (i := 3) (N := some 20) #[true, true, true, true, false, false, false, false, true, false, false] rfl rfl (one_of HT_.out (by kernel_rfl)) (by decide) (fun K hK => ?_)
    refine goes_ Try.func22 (by kernel_rfl) rfl #[.agg #[.int .i8 a1_0, .int .i8 a1_1, .int .i8 a1_2, .int .i8 a1_3]] (by rfl) rfl rfl (by (try simp only [List.map_toArray, List.map_cons, List.map_nil]); first | done | rfl | (simp only [List.length_drop, List.length_take]; rfl)) ?_
    with_reducible refine (laws_toWord.calls k a1_0 a1_1 a1_2 a1_3 t406 t407 t408 t409 _ A11.out).mono ?_
    rintro e w25 ⟨rfl, hb⟩
    refine ⟨_, rfl, ?_⟩
    have n0_ := Aside0.mk (Kd.R_below (pr_ HO405) hb)
    have n1_ := Aside0.mk (blk_below (g := gb398) (o := .cells #[.int .i8 a0_0, .int .i8 a0_1, .slice A0_2 l0_2.length c0_2] 25 (0, 0)) (pl_ BK398) hb)
    have n2_ := Aside0.mk (blk_below (g := gb399) (o := .cells #[.int .i8 a1_0, .int .i8 a1_1, .int .i8 a1_2, .int .i8 a1_3] 29 (0, 0)) (pl_ BK399) hb)
    have n3_ := Aside0.mk (blk_below (g := gb413) (o := .cells #[.int .i8 0, .bool false] 37 (0, 0)) (pl_ BK413) hb)
    have n4_ := Aside0.mk (below_step (by repeat (first | (with_reducible first | exact HB.out | apply below_alloc | apply pw_below_drewN | apply below_drew1 | refine below_set ?_ GE398.out | refine below_set ?_ GE399.out | refine below_set ?_ GE413.out) | exact HB.out)) hb)
    clear HO405
    clear BK398
    clear BK399
    clear BK413
    clear HB
    have HO405 := n0_
    have BK398 := n1_
    have BK399 := n2_
    have BK413 := n3_
    have HB := n4_
    clear n0_ n1_ n2_ n3_ n4_
    (try clear hb)
    (try clear hb2)
    (try clear hk)
    (try clear hi)
    obtain ⟨Ao26, co26, eo26⟩ := Kd.R_slice HO405.out
    (first | subst eo26 | (injection eo26 with f1_ f2_ f3_; have f4_ := f1_.symm; have f5_ := f3_.symm; clear f1_ f2_ f3_; subst f4_; subst f5_))
    refine hK.out _ _ ⟨(blk_cell BK398.out 0).trans rfl, (blk_cell BK398.out 1).trans rfl, (blk_cell BK398.out 2).trans rfl, (blk_cell BK399.out 0).trans rfl, (blk_cell BK399.out 1).trans rfl, (blk_cell BK399.out 2).trans rfl, (blk_cell BK399.out 3).trans rfl⟩ (fun hHeld => ?_)
    clear hK K
    refine norm_ (a' := ?_) ?_ ?_
    rotate_left
    ·show Act.put _ (some 20) _ = _
     simp only [Act.put, List.setIfInBounds_toArray, List.set_cons_zero, List.set_cons_succ, i64_w, i32_w]
     rfl
    refine one_ (i := 4) (N := some 21) #[true, true, true, true, true, false, false, false, true, false, false] rfl rfl (one_of HT_.out (by kernel_rfl)) (by decide) (fun K hK => ?_)
    refine goes_ Try.func21 (by kernel_rfl) rfl #[.agg #[.int .i8 t401, .int .i8 t402, .slice Ao26 t403.length co26], .agg #[.int .i8 t406, .int .i8 t407, .int .i8 t408, .int .i8 t409]] (by rfl) rfl rfl (by (try simp only [List.map_toArray, List.map_cons, List.map_nil]); first | done | rfl | (simp only [List.length_drop, List.length_take]; rfl)) ?_
    with_reducible refine (spec_Decode.calls k t401 t402 _ _ t403 t406 t407 t408 t409 t410 t411 t412 _ ?side1 ?side2 A12.out).mono ?_
    (case side1 => repeat (first | exact (Kd.R_reads' HO405.out).2.2 | (with_reducible refine Kd.C_alloc ?_ _) | (with_reducible refine Kd.C_drewN ?_ _) | (with_reducible refine Kd.C_drew ?_)))
    (case side2 => exact (Kd.R_reads' HO405.out).2.1)
    rintro e w27 ⟨rfl, hb⟩
    refine ⟨_, rfl, ?_⟩
    have n0_ := Aside0.mk (Kd.R_below (pr_ HO405) hb)
    have n1_ := Aside0.mk (blk_below (g := gb398) (o := .cells #[.int .i8 a0_0, .int .i8 a0_1, .slice A0_2 l0_2.length c0_2] 25 (0, 0)) (pl_ BK398) hb)
    have n2_ := Aside0.mk (blk_below (g := gb399) (o := .cells #[.int .i8 a1_0, .int .i8 a1_1, .int .i8 a1_2, .int .i8 a1_3] 29 (0, 0)) (pl_ BK399) hb)
    have n3_ := Aside0.mk (blk_below (g := gb413) (o := .cells #[.int .i8 0, .bool false] 37 (0, 0)) (pl_ BK413) hb)
    have n4_ := Aside0.mk (below_step (by repeat (first | (with_reducible first | exact HB.out | apply below_alloc | apply pw_below_drewN | apply below_drew1 | refine below_set ?_ GE398.out | refine below_set ?_ GE399.out | refine below_set ?_ GE413.out) | exact HB.out)) hb)
    clear HO405
    clear BK398
    clear BK399
    clear BK413
    clear HB
    have HO405 := n0_
    have BK398 := n1_
    have BK399 := n2_
    have BK413 := n3_
    have HB := n4_
    clear n0_ n1_ n2_ n3_ n4_
    (try clear hb)
    (try clear hb2)
    (try clear hk)
    (try clear hi)
    refine hK.out _ _ ⟨(blk_cell BK398.out 0).trans rfl, (blk_cell BK398.out 1).trans rfl, (blk_cell BK398.out 2).trans rfl, (blk_cell BK399.out 0).trans rfl, (blk_cell BK399.out 1).trans rfl, (blk_cell BK399.out 2).trans rfl, (blk_cell BK399.out 3).trans rfl⟩ (fun hHeld => ?_)
    clear hK K
    refine norm_ (a' := ?_) ?_ ?_
    rotate_left
    ·show Act.put _ (some 21) _ = _
     simp only [Act.put, List.setIfInBounds_toArray, List.set_cons_zero, List.set_cons_succ, i64_w, i32_w]
     rfl
    refine pure_ (i := 5) (N := some 16) (v := ?_) (a' := ?_) #[true, true, true, true, true, true, false, false, true, false, false] rfl rfl (any_of HT_.out (by kernel_rfl)) (fun _ _ _ h => h) (Or.inl ⟨by rfl, ?_⟩) ?_ ?_
    rotate_left
    ·intro w'
     go_simp
     with_reducible rfl
    rotate_left
    ·simp only [Act.put, List.setIfInBounds_toArray, List.set_cons_zero, List.set_cons_succ, i64_w, i32_w]
     rfl
    refine pure_ (i := 6) (N := some 22) (v := ?_) (a' := ?_) #[true, true, true, true, true, true, true, false, true, false, false] rfl rfl (any_of HT_.out (by kernel_rfl)) (fun _ _ _ h => h) (Or.inl ⟨by rfl, ?_⟩) ?_ ?_
    rotate_left
    ·intro w'
     go_simp
     with_reducible rfl
    rotate_left
    ·simp only [Act.put, List.setIfInBounds_toArray, List.set_cons_zero, List.set_cons_succ, i64_w, i32_w]
     rfl
    refine pure_ (i := 7) (N := some 23) (v := ?_) (a' := ?_) #[true, true, true, true, true, true, true, true, true, false, false] rfl rfl (any_of HT_.out (by kernel_rfl)) (fun _ _ _ h => h) (Or.inl ⟨by rfl, ?_⟩) ?_ ?_
    rotate_left
    ·intro w'
     go_simp
     with_reducible rfl
    rotate_left
    ·simp only [Act.put, List.setIfInBounds_toArray, List.set_cons_zero, List.set_cons_succ, i64_w, i32_w]
     rfl
    exact norm_ (by simp only [putAll, Act.put, List.setIfInBounds_toArray, List.set_cons_zero, List.set_cons_succ]) (hCont (.slice Ao26 t403.length co26, gb413) _ ⟨hHeld, (pr_ HO405), (pl_ BK398), (pl_ BK399), (pl_ BK413), GW413.out, GE413.out, NB398_413.out, NB413_398.out, NB399_413.out, NB413_399.out, (by repeat (first | (with_reducible first | exact HB.out | apply below_alloc | apply pw_below_drewN | apply below_drew1 | refine below_set ?_ GE398.out | refine below_set ?_ GE399.out | refine below_set ?_ GE413.out) | exact HB.out))⟩)
  rintro ⟨v404, gb413⟩ w28 ⟨hS_, h0_, h1_, h2_, h3_, h4_, h5_, h6_, h7_, h8_, h9_, h10_⟩
  have n0_ : Aside0 (Kd.R k30 30 w28 w.heap.size (fun _ => True) v404 t403) := ⟨h0_⟩
  have n1_ : Aside0 (w28.heap[gb398]? = some (.cells #[.int .i8 a0_0, .int .i8 a0_1, .slice A0_2 l0_2.length c0_2] 25 (0, 0))) := ⟨h1_⟩
  have n2_ : Aside0 (w28.heap[gb399]? = some (.cells #[.int .i8 a1_0, .int .i8 a1_1, .int .i8 a1_2, .int .i8 a1_3] 29 (0, 0))) := ⟨h2_⟩
  have n3_ : Aside0 (w28.heap[gb413]? = some (.cells #[.int .i8 0, .bool false] 37 (0, 0))) := ⟨h3_⟩
  have n4_ : Aside0 (w.heap.size ≤ gb413) := ⟨h4_⟩
  have n5_ : Aside0 (w.heap.size ≤ gb413) := ⟨h5_⟩
  have n6_ : Aside0 (gb398 ≠ gb413) := ⟨h6_⟩
  have n7_ : Aside0 (gb413 ≠ gb398) := ⟨h7_⟩
  have n8_ : Aside0 (gb399 ≠ gb413) := ⟨h8_⟩
  have n9_ : Aside0 (gb413 ≠ gb399) := ⟨h9_⟩
  have n10_ : Aside0 (Below w.heap.size w w28) := ⟨h10_⟩
  clear BK398
  clear BK399
  clear HB
  clear h0_ h1_ h2_ h3_ h4_ h5_ h6_ h7_ h8_ h9_ h10_
  have HO405 := n0_
  have BK398 := n1_
  have BK399 := n2_
  have BK413 := n3_
  have GW413 := n4_
  have GE413 := n5_
  have NB398_413 := n6_
  have NB413_398 := n7_
  have NB399_413 := n8_
  have NB413_399 := n9_
  have HB := n10_
  clear n0_ n1_ n2_ n3_ n4_ n5_ n6_ n7_ n8_ n9_ n10_
  have hHeld : w28.cell? ⟨gb398, 0, none⟩ = some (.int .i8 a0_0) ∧ w28.cell? ⟨gb398, 1, none⟩ = some (.int .i8 a0_1) ∧ w28.cell? ⟨gb398, 2, none⟩ = some (.slice A0_2 l0_2.length c0_2) ∧ w28.cell? ⟨gb399, 0, none⟩ = some (.int .i8 a1_0) ∧ w28.cell? ⟨gb399, 1, none⟩ = some (.int .i8 a1_1) ∧ w28.cell? ⟨gb399, 2, none⟩ = some (.int .i8 a1_2) ∧ w28.cell? ⟨gb399, 3, none⟩ = some (.int .i8 a1_3) := hS_
  refine norm_ (a' := ?_) ?_ ?_
  rotate_left
  ·simp only [putAll, Act.put, List.setIfInBounds_toArray, List.set_cons_zero, List.set_cons_succ]
   rfl
  refine one_ (i := 9) (N := none) #[true, true, true, true, true, true, true, true, true, true, false] rfl rfl (one_of HT_.out (by kernel_rfl)) (by decide) (fun K hK => ?_)
  have hs29 : w28.cell? ⟨gb413, 0, none⟩ = some (.int .i8 0) := (blk_cell BK413.out 0).trans rfl
  have hfs29 := blk_frozen BK413.out 0
  have hns29_0 := NB398_413.out
  have hns29_1 := NB399_413.out
  have hms29_0 := NB413_398.out
  have hms29_1 := NB413_399.out
  have hs30 : w28.cell? ⟨gb413, 1, none⟩ = some (.bool false) := (blk_cell BK413.out 1).trans rfl
  have hfs30 := blk_frozen BK413.out 1
  have hns30_0 := NB398_413.out
  have hns30_1 := NB399_413.out
  have hms30_0 := NB413_398.out
  have hms30_1 := NB413_399.out
  refine skip_ (w1 := ?_) (by rfl) rfl ?_ ?_
  rotate_left
  ·go_simp
   rfl
  refine hK.out _ _ ⟨((cell_far (p := ⟨gb413, _, none⟩) NB398_413.out _).trans (((cell_far (p := ⟨gb413, _, none⟩) NB398_413.out _).trans (hHeld.1)))), ((cell_far (p := ⟨gb413, _, none⟩) NB398_413.out _).trans (((cell_far (p := ⟨gb413, _, none⟩) NB398_413.out _).trans (hHeld.2.1)))), ((cell_far (p := ⟨gb413, _, none⟩) NB398_413.out _).trans (((cell_far (p := ⟨gb413, _, none⟩) NB398_413.out _).trans (hHeld.2.2.1)))), ((cell_far (p := ⟨gb413, _, none⟩) NB399_413.out _).trans (((cell_far (p := ⟨gb413, _, none⟩) NB399_413.out _).trans (hHeld.2.2.2.1)))), ((cell_far (p := ⟨gb413, _, none⟩) NB399_413.out _).trans (((cell_far (p := ⟨gb413, _, none⟩) NB399_413.out _).trans (hHeld.2.2.2.2.1)))), ((cell_far (p := ⟨gb413, _, none⟩) NB399_413.out _).trans (((cell_far (p := ⟨gb413, _, none⟩) NB399_413.out _).trans (hHeld.2.2.2.2.2.1)))), ((cell_far (p := ⟨gb413, _, none⟩) NB399_413.out _).trans (((cell_far (p := ⟨gb413, _, none⟩) NB399_413.out _).trans (hHeld.2.2.2.2.2.2))))⟩ (fun hHeld => ?_)
  clear hK K
  refine pure_ (i := 10) (N := some 7) (v := ?_) (a' := ?_) #[true, true, true, true, true, true, true, true, true, true, true] rfl rfl (any_of HT_.out (by kernel_rfl)) (fun _ _ _ h => h) (Or.inl ⟨by rfl, ?_⟩) ?_ ?_
  rotate_left
  ·intro w'
   go_simp
   with_reducible rfl
  rotate_left
  ·simp only [Act.put, List.setIfInBounds_toArray, List.set_cons_zero, List.set_cons_succ, i64_w, i32_w]
   rfl
  refine done_ (done_of HT_.out (by kernel_rfl)) ?_
  have hnb31 := NB398_413.out
  have hnc31 := NB413_398.out
  have hcz32_0 : w28.cell? ⟨gb398, 0, none⟩ = some (.int .i8 a0_0) := (blk_cell BK398.out 0).trans rfl
  have hcz32_1 : w28.cell? ⟨gb398, 1, none⟩ = some (.int .i8 a0_1) := (blk_cell BK398.out 1).trans rfl
  have hcz32_2 : w28.cell? ⟨gb398, 2, none⟩ = some (.slice A0_2 l0_2.length c0_2) := (blk_cell BK398.out 2).trans rfl
  have hfz32_0 := blk_frozen BK398.out 0
  have hfz32_1 := blk_frozen BK398.out 1
  have hfz32_2 := blk_frozen BK398.out 2
  try go_wp2_with (first | ((with_reducible refine gate_callee (f := 11) rfl ?_); refine goesL_ (some 25) rfl rfl Try.func11 (by kernel_rfl) rfl #[.agg #[.int .i8 a0_0, .int .i8 a0_1, .slice A0_2 l0_2.length c0_2]] rfl (by (try simp only [List.map_toArray, List.map_cons, List.map_nil]); first | done | rfl | (simp only [List.length_drop, List.length_take]; rfl)) ?_; (with_reducible refine (laws_toFixed.calls k a0_0 a0_1 _ _ l0_2 t414 t415 t416 _ ?side1 ?side2 A13.out).mono ?_); (case side1 => exact Kd.C_below HR0_2.out (by repeat (first | (with_reducible first | exact HB.out | apply below_alloc | apply pw_below_drewN | apply below_drew1 | refine below_set ?_ GE398.out | refine below_set ?_ GE399.out | refine below_set ?_ GE413.out) | exact HB.out))); (case side2 => exact HC0_2.out); rintro e w33 ⟨v417, rfl, ho0, hb⟩; refine ⟨_, rfl, ?_⟩; have n0_ := Aside0.mk (Kd.R_elder' (by (with_reducible repeat (first | apply Kd.R_alloc | apply Kd.R_drewN | apply Kd.R_drew)); exact (Kd.R_mono (Kd.R_far (p := ⟨gb413, 1, none⟩) (Kd.R_far (p := ⟨gb413, 0, none⟩) (Kd.R_types HO405.out BK413.out (by decide)) (fun _ hk => hk.2) (.int .i8 t410)) (fun _ hk => hk.2) (.bool t411)) (fun _ h_ => h_.1))) (Kd.R_base ho0) hb); have n1_ := Aside0.mk (Kd.R_lower (Kd.R_new' ho0 (Kd.R_lt (by (with_reducible repeat (first | apply Kd.R_alloc | apply Kd.R_drewN | apply Kd.R_drew)); exact (Kd.R_mono (Kd.R_far (p := ⟨gb413, 1, none⟩) (Kd.R_far (p := ⟨gb413, 0, none⟩) (Kd.R_types HO405.out BK413.out (by decide)) (fun _ hk => hk.2) (.int .i8 t410)) (fun _ hk => hk.2) (.bool t411)) (fun _ h_ => h_.1))))) (below_size (by repeat (first | (with_reducible first | exact HB.out | apply below_alloc | apply pw_below_drewN | apply below_drew1 | refine below_set ?_ GE398.out | refine below_set ?_ GE399.out | refine below_set ?_ GE413.out) | exact HB.out)))); have n2_ := Aside0.mk (blk_below (g := gb398) (o := .cells #[.int .i8 a0_0, .int .i8 a0_1, .slice A0_2 l0_2.length c0_2] 25 (0, 0)) (by (with_reducible repeat (first | refine blk_drewN ?_ _ | refine blk_drew ?_ | refine blk_alloc ?_ _)); refine blk_far ?_ NB398_413.out _; (with_reducible repeat (first | refine blk_drewN ?_ _ | refine blk_drew ?_ | refine blk_alloc ?_ _)); refine blk_far ?_ NB398_413.out _; (with_reducible repeat (first | refine blk_drewN ?_ _ | refine blk_drew ?_ | refine blk_alloc ?_ _)); exact BK398.out) hb); have n3_ := Aside0.mk (blk_below (g := gb399) (o := .cells #[.int .i8 a1_0, .int .i8 a1_1, .int .i8 a1_2, .int .i8 a1_3] 29 (0, 0)) (by (with_reducible repeat (first | refine blk_drewN ?_ _ | refine blk_drew ?_ | refine blk_alloc ?_ _)); refine blk_far ?_ NB399_413.out _; (with_reducible repeat (first | refine blk_drewN ?_ _ | refine blk_drew ?_ | refine blk_alloc ?_ _)); refine blk_far ?_ NB399_413.out _; (with_reducible repeat (first | refine blk_drewN ?_ _ | refine blk_drew ?_ | refine blk_alloc ?_ _)); exact BK399.out) hb); have n4_ := Aside0.mk (blk_below (g := gb413) (o := .cells #[.int .i8 t410, .bool t411] 37 (0, 0)) (by (with_reducible repeat (first | refine blk_drewN ?_ _ | refine blk_drew ?_ | refine blk_alloc ?_ _)); refine blk_put (cs := #[.int .i8 t410, .bool false]) ?_ 1 _ rfl; (with_reducible repeat (first | refine blk_drewN ?_ _ | refine blk_drew ?_ | refine blk_alloc ?_ _)); refine blk_put (cs := #[.int .i8 0, .bool false]) ?_ 0 _ rfl; (with_reducible repeat (first | refine blk_drewN ?_ _ | refine blk_drew ?_ | refine blk_alloc ?_ _)); exact BK413.out) hb); have n5_ := Aside0.mk (below_step (by repeat (first | (with_reducible first | exact HB.out | apply below_alloc | apply pw_below_drewN | apply below_drew1 | refine below_set ?_ GE398.out | refine below_set ?_ GE399.out | refine below_set ?_ GE413.out) | exact HB.out)) hb); clear HO405; clear BK398; clear BK399; clear BK413; clear HB; have HO405 := n0_; have HO418 := n1_; have BK398 := n2_; have BK399 := n3_; have BK413 := n4_; have HB := n5_; clear n0_ n1_ n2_ n3_ n4_ n5_; (try clear hb); (try clear hb2); (try clear hk); (try clear hi); (try clear ho0)) | ((with_reducible refine gate_dst (N := 8) rfl ?_); refine box_event ?hg (N := 8) ?hd (cs := #[.int .i8 0, .int .i8 0, .slice none 0 0]) (t := 35) ?hr ?_; (case hd => rfl); (case hg => rfl); (case hr => first | (go_simp; done) | (go_simp; rfl)); intro gb419 hg w34 hbox hb; have n0_ := Aside0.mk (Kd.R_below (pr_ HO405) hb); have n1_ := Aside0.mk (Kd.R_below (pr_ HO418) hb); have n2_ := Aside0.mk (blk_below (g := gb398) (o := .cells #[.int .i8 a0_0, .int .i8 a0_1, .slice A0_2 l0_2.length c0_2] 25 (0, 0)) (pl_ BK398) hb); have n3_ := Aside0.mk (blk_below (g := gb399) (o := .cells #[.int .i8 a1_0, .int .i8 a1_1, .int .i8 a1_2, .int .i8 a1_3] 29 (0, 0)) (pl_ BK399) hb); have n4_ := Aside0.mk (blk_below (g := gb413) (o := .cells #[.int .i8 t410, .bool t411] 37 (0, 0)) (pl_ BK413) hb); have n5_ := Aside0.mk (below_step (by repeat (first | (with_reducible first | exact HB.out | apply below_alloc | apply pw_below_drewN | apply below_drew1 | refine below_set ?_ GE398.out | refine below_set ?_ GE399.out | refine below_set ?_ GE413.out) | exact HB.out)) hb); have n6_ := Aside0.mk (hbox); have n7_ := Aside0.mk ((by rw [hg]; exact (below_size (by repeat (first | (with_reducible first | exact HB.out | apply below_alloc | apply pw_below_drewN | apply below_drew1 | refine below_set ?_ GE398.out | refine below_set ?_ GE399.out | refine below_set ?_ GE413.out) | exact HB.out))) : w.heap.size ≤ gb419)); have n8_ := Aside0.mk ((by rw [hg]; exact (below_size (by repeat (first | (with_reducible first | exact HB.out | apply below_alloc | apply pw_below_drewN | apply below_drew1 | refine below_set ?_ GE398.out | refine below_set ?_ GE399.out | refine below_set ?_ GE413.out) | exact HB.out))) : w.heap.size ≤ gb419)); have n9_ := Aside0.mk ((by rw [hg]; exact Nat.ne_of_lt (blk_lt (g := gb398) (o := .cells #[.int .i8 a0_0, .int .i8 a0_1, .slice A0_2 l0_2.length c0_2] 25 (0, 0)) (pl_ BK398)) : gb398 ≠ gb419)); have n10_ := Aside0.mk ((by rw [hg]; exact Nat.ne_of_gt (blk_lt (g := gb398) (o := .cells #[.int .i8 a0_0, .int .i8 a0_1, .slice A0_2 l0_2.length c0_2] 25 (0, 0)) (pl_ BK398)) : gb419 ≠ gb398)); have n11_ := Aside0.mk ((by rw [hg]; exact Nat.ne_of_lt (blk_lt (g := gb399) (o := .cells #[.int .i8 a1_0, .int .i8 a1_1, .int .i8 a1_2, .int .i8 a1_3] 29 (0, 0)) (pl_ BK399)) : gb399 ≠ gb419)); have n12_ := Aside0.mk ((by rw [hg]; exact Nat.ne_of_gt (blk_lt (g := gb399) (o := .cells #[.int .i8 a1_0, .int .i8 a1_1, .int .i8 a1_2, .int .i8 a1_3] 29 (0, 0)) (pl_ BK399)) : gb419 ≠ gb399)); have n13_ := Aside0.mk ((by rw [hg]; exact Nat.ne_of_lt (blk_lt (g := gb413) (o := .cells #[.int .i8 t410, .bool t411] 37 (0, 0)) (pl_ BK413)) : gb413 ≠ gb419)); have n14_ := Aside0.mk ((by rw [hg]; exact Nat.ne_of_gt (blk_lt (g := gb413) (o := .cells #[.int .i8 t410, .bool t411] 37 (0, 0)) (pl_ BK413)) : gb419 ≠ gb413)); clear HO405; clear HO418; clear BK398; clear BK399; clear BK413; clear HB; have HO405 := n0_; have HO418 := n1_; have BK398 := n2_; have BK399 := n3_; have BK413 := n4_; have HB := n5_; have BK419 := n6_; have GW419 := n7_; have GE419 := n8_; have NB398_419 := n9_; have NB419_398 := n10_; have NB399_419 := n11_; have NB419_399 := n12_; have NB413_419 := n13_; have NB419_413 := n14_; clear n0_ n1_ n2_ n3_ n4_ n5_ n6_ n7_ n8_ n9_ n10_ n11_ n12_ n13_ n14_; clear hb hbox hg; have hnb35 := NB419_398.out; have hnc35 := NB398_419.out; have hnb36 := NB419_399.out; have hnc36 := NB399_419.out; have hnb37 := NB419_413.out; have hnc37 := NB413_419.out; have hcz38_0 : w34.cell? ⟨gb419, 0, none⟩ = some (.int .i8 0) := (blk_cell BK419.out 0).trans rfl; have hcz38_1 : w34.cell? ⟨gb419, 1, none⟩ = some (.int .i8 0) := (blk_cell BK419.out 1).trans rfl; have hcz38_2 : w34.cell? ⟨gb419, 2, none⟩ = some (.slice none 0 0) := (blk_cell BK419.out 2).trans rfl; have hfz38_0 := blk_frozen BK419.out 0; have hfz38_1 := blk_frozen BK419.out 1; have hfz38_2 := blk_frozen BK419.out 2; obtain ⟨Ao39, co39, eo39⟩ := Kd.R_slice HO418.out; subst eo39))
  have n0_ : Aside0 (Kd.R k30 30 (((w34.setCell ⟨gb419, 0, none⟩ (.int .i8 t414)).setCell ⟨gb419, 1, none⟩ (.int .i8 t415)).setCell ⟨gb419, 2, none⟩ (.slice Ao39 t416.length co39)) w.heap.size (fun k_ => some k_ ≠ (.slice Ao39 t416.length co39 : Value).ownBlock) v404 t403) := ⟨by (with_reducible repeat (first | apply Kd.R_alloc | apply Kd.R_drewN | apply Kd.R_drew)); exact Kd.R_mono (Kd.R_far (p := ⟨gb419, 2, none⟩) (Kd.R_far (p := ⟨gb419, 1, none⟩) (Kd.R_far (p := ⟨gb419, 0, none⟩) (Kd.R_types HO405.out BK419.out (by decide)) (fun _ hk => hk.2) (.int .i8 t414)) (fun _ hk => hk.2) (.int .i8 t415)) (fun _ hk => hk.2) (.slice Ao39 t416.length co39)) (fun _ hk => hk.1.2)⟩
  have n1_ : Aside0 (Kd.R k30 30 (((w34.setCell ⟨gb419, 0, none⟩ (.int .i8 t414)).setCell ⟨gb419, 1, none⟩ (.int .i8 t415)).setCell ⟨gb419, 2, none⟩ (.slice Ao39 t416.length co39)) w.heap.size (fun k_ => some k_ ≠ (v404 : Value).ownBlock) (.slice Ao39 t416.length co39) t416) := ⟨by (with_reducible repeat (first | apply Kd.R_alloc | apply Kd.R_drewN | apply Kd.R_drew)); exact Kd.R_mono (Kd.R_far (p := ⟨gb419, 2, none⟩) (Kd.R_far (p := ⟨gb419, 1, none⟩) (Kd.R_far (p := ⟨gb419, 0, none⟩) (Kd.R_types HO418.out BK419.out (by decide)) (fun _ hk => hk.2) (.int .i8 t414)) (fun _ hk => hk.2) (.int .i8 t415)) (fun _ hk => hk.2) (.slice Ao39 t416.length co39)) (fun _ hk => hk.1.2)⟩
  have n2_ : Aside0 ((((w34.setCell ⟨gb419, 0, none⟩ (.int .i8 t414)).setCell ⟨gb419, 1, none⟩ (.int .i8 t415)).setCell ⟨gb419, 2, none⟩ (.slice Ao39 t416.length co39)).heap[gb398]? = some (.cells #[.int .i8 a0_0, .int .i8 a0_1, .slice A0_2 l0_2.length c0_2] 25 (0, 0))) := ⟨by (with_reducible repeat (first | refine blk_drewN ?_ _ | refine blk_drew ?_ | refine blk_alloc ?_ _)); refine blk_far ?_ NB398_419.out _; (with_reducible repeat (first | refine blk_drewN ?_ _ | refine blk_drew ?_ | refine blk_alloc ?_ _)); refine blk_far ?_ NB398_419.out _; (with_reducible repeat (first | refine blk_drewN ?_ _ | refine blk_drew ?_ | refine blk_alloc ?_ _)); refine blk_far ?_ NB398_419.out _; (with_reducible repeat (first | refine blk_drewN ?_ _ | refine blk_drew ?_ | refine blk_alloc ?_ _)); exact BK398.out⟩
  have n3_ : Aside0 ((((w34.setCell ⟨gb419, 0, none⟩ (.int .i8 t414)).setCell ⟨gb419, 1, none⟩ (.int .i8 t415)).setCell ⟨gb419, 2, none⟩ (.slice Ao39 t416.length co39)).heap[gb399]? = some (.cells #[.int .i8 a1_0, .int .i8 a1_1, .int .i8 a1_2, .int .i8 a1_3] 29 (0, 0))) := ⟨by (with_reducible repeat (first | refine blk_drewN ?_ _ | refine blk_drew ?_ | refine blk_alloc ?_ _)); refine blk_far ?_ NB399_419.out _; (with_reducible repeat (first | refine blk_drewN ?_ _ | refine blk_drew ?_ | refine blk_alloc ?_ _)); refine blk_far ?_ NB399_419.out _; (with_reducible repeat (first | refine blk_drewN ?_ _ | refine blk_drew ?_ | refine blk_alloc ?_ _)); refine blk_far ?_ NB399_419.out _; (with_reducible repeat (first | refine blk_drewN ?_ _ | refine blk_drew ?_ | refine blk_alloc ?_ _)); exact BK399.out⟩
  have n4_ : Aside0 ((((w34.setCell ⟨gb419, 0, none⟩ (.int .i8 t414)).setCell ⟨gb419, 1, none⟩ (.int .i8 t415)).setCell ⟨gb419, 2, none⟩ (.slice Ao39 t416.length co39)).heap[gb413]? = some (.cells #[.int .i8 t410, .bool t411] 37 (0, 0))) := ⟨by (with_reducible repeat (first | refine blk_drewN ?_ _ | refine blk_drew ?_ | refine blk_alloc ?_ _)); refine blk_far ?_ NB413_419.out _; (with_reducible repeat (first | refine blk_drewN ?_ _ | refine blk_drew ?_ | refine blk_alloc ?_ _)); refine blk_far ?_ NB413_419.out _; (with_reducible repeat (first | refine blk_drewN ?_ _ | refine blk_drew ?_ | refine blk_alloc ?_ _)); refine blk_far ?_ NB413_419.out _; (with_reducible repeat (first | refine blk_drewN ?_ _ | refine blk_drew ?_ | refine blk_alloc ?_ _)); exact BK413.out⟩
  have n5_ : Aside0 ((((w34.setCell ⟨gb419, 0, none⟩ (.int .i8 t414)).setCell ⟨gb419, 1, none⟩ (.int .i8 t415)).setCell ⟨gb419, 2, none⟩ (.slice Ao39 t416.length co39)).heap[gb419]? = some (.cells #[.int .i8 t414, .int .i8 t415, .slice Ao39 t416.length co39] 35 (0, 0))) := ⟨by (with_reducible repeat (first | refine blk_drewN ?_ _ | refine blk_drew ?_ | refine blk_alloc ?_ _)); refine blk_put (cs := #[.int .i8 t414, .int .i8 t415, .slice none 0 0]) ?_ 2 _ rfl; (with_reducible repeat (first | refine blk_drewN ?_ _ | refine blk_drew ?_ | refine blk_alloc ?_ _)); refine blk_put (cs := #[.int .i8 t414, .int .i8 0, .slice none 0 0]) ?_ 1 _ rfl; (with_reducible repeat (first | refine blk_drewN ?_ _ | refine blk_drew ?_ | refine blk_alloc ?_ _)); refine blk_put (cs := #[.int .i8 0, .int .i8 0, .slice none 0 0]) ?_ 0 _ rfl; (with_reducible repeat (first | refine blk_drewN ?_ _ | refine blk_drew ?_ | refine blk_alloc ?_ _)); exact BK419.out⟩
  have n6_ : Aside0 (Below w.heap.size w (((w34.setCell ⟨gb419, 0, none⟩ (.int .i8 t414)).setCell ⟨gb419, 1, none⟩ (.int .i8 t415)).setCell ⟨gb419, 2, none⟩ (.slice Ao39 t416.length co39))) := ⟨by repeat (first | (with_reducible first | exact HB.out | apply below_alloc | apply pw_below_drewN | apply below_drew1 | refine below_set ?_ GE398.out | refine below_set ?_ GE399.out | refine below_set ?_ GE413.out | refine below_set ?_ GE419.out) | exact HB.out)⟩
  (try clear HO405)
  (try clear HO418)
  (try clear BK398)
  (try clear BK399)
  (try clear BK413)
  (try clear BK419)
  (try clear HB)
  generalize (((w34.setCell ⟨gb419, 0, none⟩ (.int .i8 t414)).setCell ⟨gb419, 1, none⟩ (.int .i8 t415)).setCell ⟨gb419, 2, none⟩ (.slice Ao39 t416.length co39)) = w40 at n0_ n1_ n2_ n3_ n4_ n5_ n6_ ⊢
  have HO405 := n0_
  have HO418 := n1_
  have BK398 := n2_
  have BK399 := n3_
  have BK413 := n4_
  have BK419 := n5_
  have HB := n6_
  clear n0_ n1_ n2_ n3_ n4_ n5_ n6_
  have n0_ := Aside0.mk (Kd.R_drew HO405.out)
  have n1_ := Aside0.mk (Kd.R_drew HO418.out)
  have n2_ := Aside0.mk (blk_drew BK398.out)
  have n3_ := Aside0.mk (blk_drew BK399.out)
  have n4_ := Aside0.mk (blk_drew BK413.out)
  have n5_ := Aside0.mk (blk_drew BK419.out)
  have n6_ := Aside0.mk (below_drew1 HB.out)
  clear HO405
  clear HO418
  clear BK398
  clear BK399
  clear BK413
  clear BK419
  clear HB
  have HO405 := n0_
  have HO418 := n1_
  have BK398 := n2_
  have BK399 := n3_
  have BK413 := n4_
  have BK419 := n5_
  have HB := n6_
  clear n0_ n1_ n2_ n3_ n4_ n5_ n6_
  refine start_ (n := 10) (S := fun w' => w'.cell? ⟨gb419, 0, none⟩ = some (.int .i8 t414) ∧ w'.cell? ⟨gb419, 1, none⟩ = some (.int .i8 t415) ∧ w'.cell? ⟨gb419, 2, none⟩ = some (.slice Ao39 t416.length co39) ∧ w'.cell? ⟨gb399, 0, none⟩ = some (.int .i8 a1_0) ∧ w'.cell? ⟨gb399, 1, none⟩ = some (.int .i8 a1_1) ∧ w'.cell? ⟨gb399, 2, none⟩ = some (.int .i8 a1_2) ∧ w'.cell? ⟨gb399, 3, none⟩ = some (.int .i8 a1_3)) (ds := []) #[false, false, false, false, false, false, false, false, false, false] (by kernel_rfl) rfl rfl ⟨(blk_cell BK419.out 0).trans rfl, (blk_cell BK419.out 1).trans rfl, (blk_cell BK419.out 2).trans rfl, (blk_cell BK399.out 0).trans rfl, (blk_cell BK399.out 1).trans rfl, (blk_cell BK399.out 2).trans rfl, (blk_cell BK399.out 3).trans rfl⟩ (fun hHeld => ?_); refine with_tabW laws_FnExactDecode.tab7 laws_FnExactDecode.bits7 (fun HT_ HW_ => ?_)
  generalize w40.drew = w41 at HO405 HO418 BK398 BK399 BK413 BK419 HB hHeld ⊢
  refine take_ (i := 0) (N := some 27) (v := ?_) (a' := ?_) #[true, false, false, false, false, false, false, false, false, false] rfl rfl (take_ofW HT_.out HW_.out (by kernel_rfl)) (fun _ _ _ h => h) (Or.inl ⟨by rfl, ?_⟩) hHeld ?_ ?_
  rotate_left
  ·rintro w' ⟨s0, s1, s2, s3, s4, s5, s6⟩
   go_simp
   with_reducible rfl
  rotate_left
  ·simp only [Act.put, List.setIfInBounds_toArray, List.set_cons_zero, List.set_cons_succ, i64_w, i32_w]
   rfl
  refine take_ (i := 1) (N := some 28) (v := ?_) (a' := ?_) #[true, true, false, false, false, false, false, false, false, false] rfl rfl (take_ofW HT_.out HW_.out (by kernel_rfl)) (fun _ _ _ h => h) (Or.inl ⟨by rfl, ?_⟩) hHeld ?_ ?_
  rotate_left
  ·rintro w' ⟨s0, s1, s2, s3, s4, s5, s6⟩
   go_simp
   with_reducible rfl
  rotate_left
  ·simp only [Act.put, List.setIfInBounds_toArray, List.set_cons_zero, List.set_cons_succ, i64_w, i32_w]
   rfl
  refine join_ (σ := Nat) 2 #[true, true, true, true, true, true, true, true, false, false] (fun s_ => [(29, .agg #[.int .i8 t420, .int .i8 t421, .int .i8 t422, .int .i8 t423]), (30, .tuple #[.agg #[.int .i8 t424, .bool t425], .int .i64 t426]), (9, .pointer (some ⟨s_, 0, none⟩)), (26, .tuple #[.agg #[.int .i8 t424, .bool t425], .int .i64 t426]), (31, .agg #[.int .i8 t424, .bool t425]), (32, .int .i64 t426)]) (fun s_ w' => (w'.cell? ⟨gb419, 0, none⟩ = some (.int .i8 t414) ∧ w'.cell? ⟨gb419, 1, none⟩ = some (.int .i8 t415) ∧ w'.cell? ⟨gb419, 2, none⟩ = some (.slice Ao39 t416.length co39) ∧ w'.cell? ⟨gb399, 0, none⟩ = some (.int .i8 a1_0) ∧ w'.cell? ⟨gb399, 1, none⟩ = some (.int .i8 a1_1) ∧ w'.cell? ⟨gb399, 2, none⟩ = some (.int .i8 a1_2) ∧ w'.cell? ⟨gb399, 3, none⟩ = some (.int .i8 a1_3)) ∧ (Kd.R k30 30 w' w.heap.size (fun k_ => some k_ ≠ (.slice Ao39 t416.length co39 : Value).ownBlock) v404 t403) ∧ (Kd.R k30 30 w' w.heap.size (fun k_ => some k_ ≠ (v404 : Value).ownBlock) (.slice Ao39 t416.length co39) t416) ∧ (w'.heap[gb398]? = some (.cells #[.int .i8 a0_0, .int .i8 a0_1, .slice A0_2 l0_2.length c0_2] 25 (0, 0))) ∧ (w'.heap[gb399]? = some (.cells #[.int .i8 a1_0, .int .i8 a1_1, .int .i8 a1_2, .int .i8 a1_3] 29 (0, 0))) ∧ (w'.heap[gb413]? = some (.cells #[.int .i8 t410, .bool t411] 37 (0, 0))) ∧ (w'.heap[gb419]? = some (.cells #[.int .i8 t414, .int .i8 t415, .slice Ao39 t416.length co39] 35 (0, 0))) ∧ (w'.heap[s_]? = some (.cells #[.int .i8 0, .bool false] 37 (0, 0))) ∧ (w.heap.size ≤ s_) ∧ (w.heap.size ≤ s_) ∧ (gb398 ≠ s_) ∧ (s_ ≠ gb398) ∧ (gb399 ≠ s_) ∧ (s_ ≠ gb399) ∧ (gb413 ≠ s_) ∧ (s_ ≠ gb413) ∧ (gb419 ≠ s_) ∧ (s_ ≠ gb419) ∧ (Below w.heap.size w w')) ?_ ?_
  rotate_left
  ·intro hCont
   refine two_ (i := 2) (j := 7) (Ni := some 29) (Nj := some 9) #[true, true, true, false, false, false, false, false, false, false] #[true, true, false, false, false, false, false, true, false, false] rfl rfl rfl rfl (two_of HT_.out (by kernel_rfl)) (by decide) (by decide) (fun K hK => ?_) (fun K hK => ?_)
   ·skip
    refine goes_ Try.func22 (by kernel_rfl) rfl #[.agg #[.int .i8 a1_0, .int .i8 a1_1, .int .i8 a1_2, .int .i8 a1_3]] (by rfl) rfl rfl (by (try simp only [List.map_toArray, List.map_cons, List.map_nil]); first | done | rfl | (simp only [List.length_drop, List.length_take]; rfl)) ?_
    with_reducible refine (laws_toWord.calls k a1_0 a1_1 a1_2 a1_3 t420 t421 t422 t423 _ A14.out).mono ?_
    rintro e w42 ⟨rfl, hb⟩
    refine ⟨_, rfl, ?_⟩
    have n0_ := Aside0.mk (Kd.R_below (pr_ HO405) hb)
    have n1_ := Aside0.mk (Kd.R_below (pr_ HO418) hb)
    have n2_ := Aside0.mk (blk_below (g := gb398) (o := .cells #[.int .i8 a0_0, .int .i8 a0_1, .slice A0_2 l0_2.length c0_2] 25 (0, 0)) (pl_ BK398) hb)
    have n3_ := Aside0.mk (blk_below (g := gb399) (o := .cells #[.int .i8 a1_0, .int .i8 a1_1, .int .i8 a1_2, .int .i8 a1_3] 29 (0, 0)) (pl_ BK399) hb)
    have n4_ := Aside0.mk (blk_below (g := gb413) (o := .cells #[.int .i8 t410, .bool t411] 37 (0, 0)) (pl_ BK413) hb)
    have n5_ := Aside0.mk (blk_below (g := gb419) (o := .cells #[.int .i8 t414, .int .i8 t415, .slice Ao39 t416.length co39] 35 (0, 0)) (pl_ BK419) hb)
    have n6_ := Aside0.mk (below_step (by repeat (first | (with_reducible first | exact HB.out | apply below_alloc | apply pw_below_drewN | apply below_drew1 | refine below_set ?_ GE398.out | refine below_set ?_ GE399.out | refine below_set ?_ GE413.out | refine below_set ?_ GE419.out) | exact HB.out)) hb)
    clear HO405
    clear HO418
    clear BK398
    clear BK399
    clear BK413
    clear BK419
    clear HB
    have HO405 := n0_
    have HO418 := n1_
    have BK398 := n2_
    have BK399 := n3_
    have BK413 := n4_
    have BK419 := n5_
    have HB := n6_
    clear n0_ n1_ n2_ n3_ n4_ n5_ n6_
    (try clear hb)
    (try clear hb2)
    (try clear hk)
    (try clear hi)
    refine hK.out _ _ ⟨(blk_cell BK419.out 0).trans rfl, (blk_cell BK419.out 1).trans rfl, (blk_cell BK419.out 2).trans rfl, (blk_cell BK399.out 0).trans rfl, (blk_cell BK399.out 1).trans rfl, (blk_cell BK399.out 2).trans rfl, (blk_cell BK399.out 3).trans rfl⟩ (fun hHeld => ?_)
    clear hK K
    refine norm_ (a' := ?_) ?_ ?_
    rotate_left
    ·show Act.put _ (some 29) _ = _
     simp only [Act.put, List.setIfInBounds_toArray, List.set_cons_zero, List.set_cons_succ, i64_w, i32_w]
     rfl
    refine two_ (i := 3) (j := 7) (Ni := some 30) (Nj := some 9) #[true, true, true, true, false, false, false, false, false, false] #[true, true, true, false, false, false, false, true, false, false] rfl rfl rfl rfl (two_of HT_.out (by kernel_rfl)) (by decide) (by decide) (fun K hK => ?_) (fun K hK => ?_)
    ·skip
     refine goes_ Try.func23 (by kernel_rfl) rfl #[.agg #[.int .i8 t414, .int .i8 t415, .slice Ao39 t416.length co39], .agg #[.int .i8 t420, .int .i8 t421, .int .i8 t422, .int .i8 t423]] (by rfl) rfl rfl (by (try simp only [List.map_toArray, List.map_cons, List.map_nil]); first | done | rfl | (simp only [List.length_drop, List.length_take]; rfl)) ?_
     with_reducible refine (impl_Decode.calls k t414 t415 _ _ t416 t420 t421 t422 t423 t424 t425 t426 _ ?side1 ?side2 A15.out).mono ?_
     (case side1 => repeat (first | exact (Kd.R_reads' HO418.out).2.2 | (with_reducible refine Kd.C_alloc ?_ _) | (with_reducible refine Kd.C_drewN ?_ _) | (with_reducible refine Kd.C_drew ?_)))
     (case side2 => exact (Kd.R_reads' HO418.out).2.1)
     rintro e w43 ⟨rfl, hb⟩
     refine ⟨_, rfl, ?_⟩
     have n0_ := Aside0.mk (Kd.R_below (pr_ HO405) hb)
     have n1_ := Aside0.mk (Kd.R_below (pr_ HO418) hb)
     have n2_ := Aside0.mk (blk_below (g := gb398) (o := .cells #[.int .i8 a0_0, .int .i8 a0_1, .slice A0_2 l0_2.length c0_2] 25 (0, 0)) (pl_ BK398) hb)
     have n3_ := Aside0.mk (blk_below (g := gb399) (o := .cells #[.int .i8 a1_0, .int .i8 a1_1, .int .i8 a1_2, .int .i8 a1_3] 29 (0, 0)) (pl_ BK399) hb)
     have n4_ := Aside0.mk (blk_below (g := gb413) (o := .cells #[.int .i8 t410, .bool t411] 37 (0, 0)) (pl_ BK413) hb)
     have n5_ := Aside0.mk (blk_below (g := gb419) (o := .cells #[.int .i8 t414, .int .i8 t415, .slice Ao39 t416.length co39] 35 (0, 0)) (pl_ BK419) hb)
     have n6_ := Aside0.mk (below_step (by repeat (first | (with_reducible first | exact HB.out | apply below_alloc | apply pw_below_drewN | apply below_drew1 | refine below_set ?_ GE398.out | refine below_set ?_ GE399.out | refine below_set ?_ GE413.out | refine below_set ?_ GE419.out) | exact HB.out)) hb)
     clear HO405
     clear HO418
     clear BK398
     clear BK399
     clear BK413
     clear BK419
     clear HB
     have HO405 := n0_
     have HO418 := n1_
     have BK398 := n2_
     have BK399 := n3_
     have BK413 := n4_
     have BK419 := n5_
     have HB := n6_
     clear n0_ n1_ n2_ n3_ n4_ n5_ n6_
     (try clear hb)
     (try clear hb2)
     (try clear hk)
     (try clear hi)
     refine hK.out _ _ ⟨(blk_cell BK419.out 0).trans rfl, (blk_cell BK419.out 1).trans rfl, (blk_cell BK419.out 2).trans rfl, (blk_cell BK399.out 0).trans rfl, (blk_cell BK399.out 1).trans rfl, (blk_cell BK399.out 2).trans rfl, (blk_cell BK399.out 3).trans rfl⟩ (fun hHeld => ?_)
     clear hK K
     refine norm_ (a' := ?_) ?_ ?_
     rotate_left
     ·show Act.put _ (some 30) _ = _
      simp only [Act.put, List.setIfInBounds_toArray, List.set_cons_zero, List.set_cons_succ, i64_w, i32_w]
      rfl
     refine pure_ (i := 4) (N := some 26) (v := ?_) (a' := ?_) #[true, true, true, true, true, false, false, false, false, false] rfl rfl (any_of HT_.out (by kernel_rfl)) (fun _ _ _ h => h) (Or.inl ⟨by rfl, ?_⟩) ?_ ?_
     rotate_left
     ·intro w'
      go_simp
      with_reducible rfl
     rotate_left
     ·simp only [Act.put, List.setIfInBounds_toArray, List.set_cons_zero, List.set_cons_succ, i64_w, i32_w]
      rfl
     refine pure_ (i := 5) (N := some 31) (v := ?_) (a' := ?_) #[true, true, true, true, true, true, false, false, false, false] rfl rfl (any_of HT_.out (by kernel_rfl)) (fun _ _ _ h => h) (Or.inl ⟨by rfl, ?_⟩) ?_ ?_
     rotate_left
     ·intro w'
      go_simp
      with_reducible rfl
     rotate_left
     ·simp only [Act.put, List.setIfInBounds_toArray, List.set_cons_zero, List.set_cons_succ, i64_w, i32_w]
      rfl
     refine pure_ (i := 6) (N := some 32) (v := ?_) (a' := ?_) #[true, true, true, true, true, true, true, false, false, false] rfl rfl (any_of HT_.out (by kernel_rfl)) (fun _ _ _ h => h) (Or.inl ⟨by rfl, ?_⟩) ?_ ?_
     rotate_left
     ·intro w'
      go_simp
      with_reducible rfl
     rotate_left
     ·simp only [Act.put, List.setIfInBounds_toArray, List.set_cons_zero, List.set_cons_succ, i64_w, i32_w]
      rfl
     refine one_ (i := 7) (N := some 9) #[true, true, true, true, true, true, true, true, false, false] rfl rfl (one_of HT_.out (by kernel_rfl)) (by decide) (fun K hK => ?_)
     refine box_step ?hg (N := 9) ?hd (cs := #[.int .i8 0, .bool false]) (t := 37) ?hr ?_; (case hd => rfl); (case hg => rfl); (case hr => first | (go_simp; done) | (go_simp; rfl))
     intro gb427 hg w44 hbox hb
     have n0_ := Aside0.mk (Kd.R_below (pr_ HO405) hb)
     have n1_ := Aside0.mk (Kd.R_below (pr_ HO418) hb)
     have n2_ := Aside0.mk (blk_below (g := gb398) (o := .cells #[.int .i8 a0_0, .int .i8 a0_1, .slice A0_2 l0_2.length c0_2] 25 (0, 0)) (pl_ BK398) hb)
     have n3_ := Aside0.mk (blk_below (g := gb399) (o := .cells #[.int .i8 a1_0, .int .i8 a1_1, .int .i8 a1_2, .int .i8 a1_3] 29 (0, 0)) (pl_ BK399) hb)
     have n4_ := Aside0.mk (blk_below (g := gb413) (o := .cells #[.int .i8 t410, .bool t411] 37 (0, 0)) (pl_ BK413) hb)
     have n5_ := Aside0.mk (blk_below (g := gb419) (o := .cells #[.int .i8 t414, .int .i8 t415, .slice Ao39 t416.length co39] 35 (0, 0)) (pl_ BK419) hb)
     have n6_ := Aside0.mk (below_step (by repeat (first | (with_reducible first | exact HB.out | apply below_alloc | apply pw_below_drewN | apply below_drew1 | refine below_set ?_ GE398.out | refine below_set ?_ GE399.out | refine below_set ?_ GE413.out | refine below_set ?_ GE419.out) | exact HB.out)) hb)
     have n7_ := Aside0.mk (hbox)
     have n8_ := Aside0.mk ((by rw [hg]; exact (below_size (by repeat (first | (with_reducible first | exact HB.out | apply below_alloc | apply pw_below_drewN | apply below_drew1 | refine below_set ?_ GE398.out | refine below_set ?_ GE399.out | refine below_set ?_ GE413.out | refine below_set ?_ GE419.out) | exact HB.out))) : w.heap.size ≤ gb427))
     have n9_ := Aside0.mk ((by rw [hg]; exact (below_size (by repeat (first | (with_reducible first | exact HB.out | apply below_alloc | apply pw_below_drewN | apply below_drew1 | refine below_set ?_ GE398.out | refine below_set ?_ GE399.out | refine below_set ?_ GE413.out | refine below_set ?_ GE419.out) | exact HB.out))) : w.heap.size ≤ gb427))
     have n10_ := Aside0.mk ((by rw [hg]; exact Nat.ne_of_lt (blk_lt (g := gb398) (o := .cells #[.int .i8 a0_0, .int .i8 a0_1, .slice A0_2 l0_2.length c0_2] 25 (0, 0)) (pl_ BK398)) : gb398 ≠ gb427))
     have n11_ := Aside0.mk ((by rw [hg]; exact Nat.ne_of_gt (blk_lt (g := gb398) (o := .cells #[.int .i8 a0_0, .int .i8 a0_1, .slice A0_2 l0_2.length c0_2] 25 (0, 0)) (pl_ BK398)) : gb427 ≠ gb398))
     have n12_ := Aside0.mk ((by rw [hg]; exact Nat.ne_of_lt (blk_lt (g := gb399) (o := .cells #[.int .i8 a1_0, .int .i8 a1_1, .int .i8 a1_2, .int .i8 a1_3] 29 (0, 0)) (pl_ BK399)) : gb399 ≠ gb427))
     have n13_ := Aside0.mk ((by rw [hg]; exact Nat.ne_of_gt (blk_lt (g := gb399) (o := .cells #[.int .i8 a1_0, .int .i8 a1_1, .int .i8 a1_2, .int .i8 a1_3] 29 (0, 0)) (pl_ BK399)) : gb427 ≠ gb399))
     have n14_ := Aside0.mk ((by rw [hg]; exact Nat.ne_of_lt (blk_lt (g := gb413) (o := .cells #[.int .i8 t410, .bool t411] 37 (0, 0)) (pl_ BK413)) : gb413 ≠ gb427))
     have n15_ := Aside0.mk ((by rw [hg]; exact Nat.ne_of_gt (blk_lt (g := gb413) (o := .cells #[.int .i8 t410, .bool t411] 37 (0, 0)) (pl_ BK413)) : gb427 ≠ gb413))
     have n16_ := Aside0.mk ((by rw [hg]; exact Nat.ne_of_lt (blk_lt (g := gb419) (o := .cells #[.int .i8 t414, .int .i8 t415, .slice Ao39 t416.length co39] 35 (0, 0)) (pl_ BK419)) : gb419 ≠ gb427))
     have n17_ := Aside0.mk ((by rw [hg]; exact Nat.ne_of_gt (blk_lt (g := gb419) (o := .cells #[.int .i8 t414, .int .i8 t415, .slice Ao39 t416.length co39] 35 (0, 0)) (pl_ BK419)) : gb427 ≠ gb419))
     clear HO405
     clear HO418
     clear BK398
     clear BK399
     clear BK413
     clear BK419
     clear HB
     have HO405 := n0_
     have HO418 := n1_
     have BK398 := n2_
     have BK399 := n3_
     have BK413 := n4_
     have BK419 := n5_
     have HB := n6_
     have BK427 := n7_
     have GW427 := n8_
     have GE427 := n9_
     have NB398_427 := n10_
     have NB427_398 := n11_
     have NB399_427 := n12_
     have NB427_399 := n13_
     have NB413_427 := n14_
     have NB427_413 := n15_
     have NB419_427 := n16_
     have NB427_419 := n17_
     clear n0_ n1_ n2_ n3_ n4_ n5_ n6_ n7_ n8_ n9_ n10_ n11_ n12_ n13_ n14_ n15_ n16_ n17_
     clear hb hbox hg
     refine hK.out _ _ ⟨(blk_cell BK419.out 0).trans rfl, (blk_cell BK419.out 1).trans rfl, (blk_cell BK419.out 2).trans rfl, (blk_cell BK399.out 0).trans rfl, (blk_cell BK399.out 1).trans rfl, (blk_cell BK399.out 2).trans rfl, (blk_cell BK399.out 3).trans rfl⟩ (fun hHeld => ?_)
     clear hK K
     refine norm_ (a' := ?_) ?_ ?_
     rotate_left
     ·show Act.put _ (some 9) _ = _
      simp only [Act.put, List.setIfInBounds_toArray, List.set_cons_zero, List.set_cons_succ, i64_w, i32_w]
      rfl
     exact norm_ (by simp only [putAll, Act.put, List.setIfInBounds_toArray, List.set_cons_zero, List.set_cons_succ]) (hCont (gb427) _ ⟨hHeld, (pr_ HO405), (pr_ HO418), (pl_ BK398), (pl_ BK399), (pl_ BK413), (pl_ BK419), (pl_ BK427), GW427.out, GE427.out, NB398_427.out, NB427_398.out, NB399_427.out, NB427_399.out, NB413_427.out, NB427_413.out, NB419_427.out, NB427_419.out, (by repeat (first | (with_reducible first | exact HB.out | apply below_alloc | apply pw_below_drewN | apply below_drew1 | refine below_set ?_ GE398.out | refine below_set ?_ GE399.out | refine below_set ?_ GE413.out | refine below_set ?_ GE419.out | refine below_set ?_ GE427.out) | exact HB.out))⟩)
    ·skip
     refine box_step ?hg (N := 9) ?hd (cs := #[.int .i8 0, .bool false]) (t := 37) ?hr ?_; (case hd => rfl); (case hg => rfl); (case hr => first | (go_simp; done) | (go_simp; rfl))
     intro gb427 hg w43 hbox hb
     have n0_ := Aside0.mk (Kd.R_below (pr_ HO405) hb)
     have n1_ := Aside0.mk (Kd.R_below (pr_ HO418) hb)
     have n2_ := Aside0.mk (blk_below (g := gb398) (o := .cells #[.int .i8 a0_0, .int .i8 a0_1, .slice A0_2 l0_2.length c0_2] 25 (0, 0)) (pl_ BK398) hb)
     have n3_ := Aside0.mk (blk_below (g := gb399) (o := .cells #[.int .i8 a1_0, .int .i8 a1_1, .int .i8 a1_2, .int .i8 a1_3] 29 (0, 0)) (pl_ BK399) hb)
     have n4_ := Aside0.mk (blk_below (g := gb413) (o := .cells #[.int .i8 t410, .bool t411] 37 (0, 0)) (pl_ BK413) hb)
     have n5_ := Aside0.mk (blk_below (g := gb419) (o := .cells #[.int .i8 t414, .int .i8 t415, .slice Ao39 t416.length co39] 35 (0, 0)) (pl_ BK419) hb)
     have n6_ := Aside0.mk (below_step (by repeat (first | (with_reducible first | exact HB.out | apply below_alloc | apply pw_below_drewN | apply below_drew1 | refine below_set ?_ GE398.out | refine below_set ?_ GE399.out | refine below_set ?_ GE413.out | refine below_set ?_ GE419.out) | exact HB.out)) hb)
     have n7_ := Aside0.mk (hbox)
     have n8_ := Aside0.mk ((by rw [hg]; exact (below_size (by repeat (first | (with_reducible first | exact HB.out | apply below_alloc | apply pw_below_drewN | apply below_drew1 | refine below_set ?_ GE398.out | refine below_set ?_ GE399.out | refine below_set ?_ GE413.out | refine below_set ?_ GE419.out) | exact HB.out))) : w.heap.size ≤ gb427))
     have n9_ := Aside0.mk ((by rw [hg]; exact (below_size (by repeat (first | (with_reducible first | exact HB.out | apply below_alloc | apply pw_below_drewN | apply below_drew1 | refine below_set ?_ GE398.out | refine below_set ?_ GE399.out | refine below_set ?_ GE413.out | refine below_set ?_ GE419.out) | exact HB.out))) : w.heap.size ≤ gb427))
     have n10_ := Aside0.mk ((by rw [hg]; exact Nat.ne_of_lt (blk_lt (g := gb398) (o := .cells #[.int .i8 a0_0, .int .i8 a0_1, .slice A0_2 l0_2.length c0_2] 25 (0, 0)) (pl_ BK398)) : gb398 ≠ gb427))
     have n11_ := Aside0.mk ((by rw [hg]; exact Nat.ne_of_gt (blk_lt (g := gb398) (o := .cells #[.int .i8 a0_0, .int .i8 a0_1, .slice A0_2 l0_2.length c0_2] 25 (0, 0)) (pl_ BK398)) : gb427 ≠ gb398))
     have n12_ := Aside0.mk ((by rw [hg]; exact Nat.ne_of_lt (blk_lt (g := gb399) (o := .cells #[.int .i8 a1_0, .int .i8 a1_1, .int .i8 a1_2, .int .i8 a1_3] 29 (0, 0)) (pl_ BK399)) : gb399 ≠ gb427))
     have n13_ := Aside0.mk ((by rw [hg]; exact Nat.ne_of_gt (blk_lt (g := gb399) (o := .cells #[.int .i8 a1_0, .int .i8 a1_1, .int .i8 a1_2, .int .i8 a1_3] 29 (0, 0)) (pl_ BK399)) : gb427 ≠ gb399))
     have n14_ := Aside0.mk ((by rw [hg]; exact Nat.ne_of_lt (blk_lt (g := gb413) (o := .cells #[.int .i8 t410, .bool t411] 37 (0, 0)) (pl_ BK413)) : gb413 ≠ gb427))
     have n15_ := Aside0.mk ((by rw [hg]; exact Nat.ne_of_gt (blk_lt (g := gb413) (o := .cells #[.int .i8 t410, .bool t411] 37 (0, 0)) (pl_ BK413)) : gb427 ≠ gb413))
     have n16_ := Aside0.mk ((by rw [hg]; exact Nat.ne_of_lt (blk_lt (g := gb419) (o := .cells #[.int .i8 t414, .int .i8 t415, .slice Ao39 t416.length co39] 35 (0, 0)) (pl_ BK419)) : gb419 ≠ gb427))
     have n17_ := Aside0.mk ((by rw [hg]; exact Nat.ne_of_gt (blk_lt (g := gb419) (o := .cells #[.int .i8 t414, .int .i8 t415, .slice Ao39 t416.length co39] 35 (0, 0)) (pl_ BK419)) : gb427 ≠ gb419))
     clear HO405
     clear HO418
     clear BK398
     clear BK399
     clear BK413
     clear BK419
     clear HB
     have HO405 := n0_
     have HO418 := n1_
     have BK398 := n2_
     have BK399 := n3_
     have BK413 := n4_
     have BK419 := n5_
     have HB := n6_
     have BK427 := n7_
     have GW427 := n8_
     have GE427 := n9_
     have NB398_427 := n10_
     have NB427_398 := n11_
     have NB399_427 := n12_
     have NB427_399 := n13_
     have NB413_427 := n14_
     have NB427_413 := n15_
     have NB419_427 := n16_
     have NB427_419 := n17_
     clear n0_ n1_ n2_ n3_ n4_ n5_ n6_ n7_ n8_ n9_ n10_ n11_ n12_ n13_ n14_ n15_ n16_ n17_
     clear hb hbox hg
     refine hK.out _ _ ⟨(blk_cell BK419.out 0).trans rfl, (blk_cell BK419.out 1).trans rfl, (blk_cell BK419.out 2).trans rfl, (blk_cell BK399.out 0).trans rfl, (blk_cell BK399.out 1).trans rfl, (blk_cell BK399.out 2).trans rfl, (blk_cell BK399.out 3).trans rfl⟩ (fun hHeld => ?_)
     clear hK K
     refine norm_ (a' := ?_) ?_ ?_
     rotate_left
     ·show Act.put _ (some 9) _ = _
      simp only [Act.put, List.setIfInBounds_toArray, List.set_cons_zero, List.set_cons_succ, i64_w, i32_w]
      rfl
     refine one_ (i := 3) (N := some 30) #[true, true, true, true, false, false, false, true, false, false] rfl rfl (one_of HT_.out (by kernel_rfl)) (by decide) (fun K hK => ?_)
     refine goes_ Try.func23 (by kernel_rfl) rfl #[.agg #[.int .i8 t414, .int .i8 t415, .slice Ao39 t416.length co39], .agg #[.int .i8 t420, .int .i8 t421, .int .i8 t422, .int .i8 t423]] (by rfl) rfl rfl (by (try simp only [List.map_toArray, List.map_cons, List.map_nil]); first | done | rfl | (simp only [List.length_drop, List.length_take]; rfl)) ?_
     with_reducible refine (impl_Decode.calls k t414 t415 _ _ t416 t420 t421 t422 t423 t424 t425 t426 _ ?side1 ?side2 A15.out).mono ?_
     (case side1 => repeat (first | exact (Kd.R_reads' HO418.out).2.2 | (with_reducible refine Kd.C_alloc ?_ _) | (with_reducible refine Kd.C_drewN ?_ _) | (with_reducible refine Kd.C_drew ?_)))
     (case side2 => exact (Kd.R_reads' HO418.out).2.1)
     rintro e w44 ⟨rfl, hb⟩
     refine ⟨_, rfl, ?_⟩
     have n0_ := Aside0.mk (Kd.R_below (pr_ HO405) hb)
     have n1_ := Aside0.mk (Kd.R_below (pr_ HO418) hb)
     have n2_ := Aside0.mk (blk_below (g := gb398) (o := .cells #[.int .i8 a0_0, .int .i8 a0_1, .slice A0_2 l0_2.length c0_2] 25 (0, 0)) (pl_ BK398) hb)
     have n3_ := Aside0.mk (blk_below (g := gb399) (o := .cells #[.int .i8 a1_0, .int .i8 a1_1, .int .i8 a1_2, .int .i8 a1_3] 29 (0, 0)) (pl_ BK399) hb)
     have n4_ := Aside0.mk (blk_below (g := gb413) (o := .cells #[.int .i8 t410, .bool t411] 37 (0, 0)) (pl_ BK413) hb)
     have n5_ := Aside0.mk (blk_below (g := gb419) (o := .cells #[.int .i8 t414, .int .i8 t415, .slice Ao39 t416.length co39] 35 (0, 0)) (pl_ BK419) hb)
     have n6_ := Aside0.mk (blk_below (g := gb427) (o := .cells #[.int .i8 0, .bool false] 37 (0, 0)) (pl_ BK427) hb)
     have n7_ := Aside0.mk (below_step (by repeat (first | (with_reducible first | exact HB.out | apply below_alloc | apply pw_below_drewN | apply below_drew1 | refine below_set ?_ GE398.out | refine below_set ?_ GE399.out | refine below_set ?_ GE413.out | refine below_set ?_ GE419.out | refine below_set ?_ GE427.out) | exact HB.out)) hb)
     clear HO405
     clear HO418
     clear BK398
     clear BK399
     clear BK413
     clear BK419
     clear BK427
     clear HB
     have HO405 := n0_
     have HO418 := n1_
     have BK398 := n2_
     have BK399 := n3_
     have BK413 := n4_
     have BK419 := n5_
     have BK427 := n6_
     have HB := n7_
     clear n0_ n1_ n2_ n3_ n4_ n5_ n6_ n7_
     (try clear hb)
     (try clear hb2)
     (try clear hk)
     (try clear hi)
     refine hK.out _ _ ⟨(blk_cell BK419.out 0).trans rfl, (blk_cell BK419.out 1).trans rfl, (blk_cell BK419.out 2).trans rfl, (blk_cell BK399.out 0).trans rfl, (blk_cell BK399.out 1).trans rfl, (blk_cell BK399.out 2).trans rfl, (blk_cell BK399.out 3).trans rfl⟩ (fun hHeld => ?_)
     clear hK K
     refine norm_ (a' := ?_) ?_ ?_
     rotate_left
     ·show Act.put _ (some 30) _ = _
      simp only [Act.put, List.setIfInBounds_toArray, List.set_cons_zero, List.set_cons_succ, i64_w, i32_w]
      rfl
     refine pure_ (i := 4) (N := some 26) (v := ?_) (a' := ?_) #[true, true, true, true, true, false, false, true, false, false] rfl rfl (any_of HT_.out (by kernel_rfl)) (fun _ _ _ h => h) (Or.inl ⟨by rfl, ?_⟩) ?_ ?_
     rotate_left
     ·intro w'
      go_simp
      with_reducible rfl
     rotate_left
     ·simp only [Act.put, List.setIfInBounds_toArray, List.set_cons_zero, List.set_cons_succ, i64_w, i32_w]
      rfl
     refine pure_ (i := 5) (N := some 31) (v := ?_) (a' := ?_) #[true, true, true, true, true, true, false, true, false, false] rfl rfl (any_of HT_.out (by kernel_rfl)) (fun _ _ _ h => h) (Or.inl ⟨by rfl, ?_⟩) ?_ ?_
     rotate_left
     ·intro w'
      go_simp
      with_reducible rfl
     rotate_left
     ·simp only [Act.put, List.setIfInBounds_toArray, List.set_cons_zero, List.set_cons_succ, i64_w, i32_w]
      rfl
     refine pure_ (i := 6) (N := some 32) (v := ?_) (a' := ?_) #[true, true, true, true, true, true, true, true, false, false] rfl rfl (any_of HT_.out (by kernel_rfl)) (fun _ _ _ h => h) (Or.inl ⟨by rfl, ?_⟩) ?_ ?_
     rotate_left
     ·intro w'
      go_simp
      with_reducible rfl
     rotate_left
     ·simp only [Act.put, List.setIfInBounds_toArray, List.set_cons_zero, List.set_cons_succ, i64_w, i32_w]
      rfl
     exact norm_ (by simp only [putAll, Act.put, List.setIfInBounds_toArray, List.set_cons_zero, List.set_cons_succ]) (hCont (gb427) _ ⟨hHeld, (pr_ HO405), (pr_ HO418), (pl_ BK398), (pl_ BK399), (pl_ BK413), (pl_ BK419), (pl_ BK427), GW427.out, GE427.out, NB398_427.out, NB427_398.out, NB399_427.out, NB427_399.out, NB413_427.out, NB427_413.out, NB419_427.out, NB427_419.out, (by repeat (first | (with_reducible first | exact HB.out | apply below_alloc | apply pw_below_drewN | apply below_drew1 | refine below_set ?_ GE398.out | refine below_set ?_ GE399.out | refine below_set ?_ GE413.out | refine below_set ?_ GE419.out | refine below_set ?_ GE427.out) | exact HB.out))⟩)
   ·skip
    refine box_step ?hg (N := 9) ?hd (cs := #[.int .i8 0, .bool false]) (t := 37) ?hr ?_; (case hd => rfl); (case hg => rfl); (case hr => first | (go_simp; done) | (go_simp; rfl))
    intro gb427 hg w42 hbox hb
    have n0_ := Aside0.mk (Kd.R_below (pr_ HO405) hb)
    have n1_ := Aside0.mk (Kd.R_below (pr_ HO418) hb)
    have n2_ := Aside0.mk (blk_below (g := gb398) (o := .cells #[.int .i8 a0_0, .int .i8 a0_1, .slice A0_2 l0_2.length c0_2] 25 (0, 0)) (pl_ BK398) hb)
    have n3_ := Aside0.mk (blk_below (g := gb399) (o := .cells #[.int .i8 a1_0, .int .i8 a1_1, .int .i8 a1_2, .int .i8 a1_3] 29 (0, 0)) (pl_ BK399) hb)
    have n4_ := Aside0.mk (blk_below (g := gb413) (o := .cells #[.int .i8 t410, .bool t411] 37 (0, 0)) (pl_ BK413) hb)
    have n5_ := Aside0.mk (blk_below (g := gb419) (o := .cells #[.int .i8 t414, .int .i8 t415, .slice Ao39 t416.length co39] 35 (0, 0)) (pl_ BK419) hb)
    have n6_ := Aside0.mk (below_step (by repeat (first | (with_reducible first | exact HB.out | apply below_alloc | apply pw_below_drewN | apply below_drew1 | refine below_set ?_ GE398.out | refine below_set ?_ GE399.out | refine below_set ?_ GE413.out | refine below_set ?_ GE419.out) | exact HB.out)) hb)
    have n7_ := Aside0.mk (hbox)
    have n8_ := Aside0.mk ((by rw [hg]; exact (below_size (by repeat (first | (with_reducible first | exact HB.out | apply below_alloc | apply pw_below_drewN | apply below_drew1 | refine below_set ?_ GE398.out | refine below_set ?_ GE399.out | refine below_set ?_ GE413.out | refine below_set ?_ GE419.out) | exact HB.out))) : w.heap.size ≤ gb427))
    have n9_ := Aside0.mk ((by rw [hg]; exact (below_size (by repeat (first | (with_reducible first | exact HB.out | apply below_alloc | apply pw_below_drewN | apply below_drew1 | refine below_set ?_ GE398.out | refine below_set ?_ GE399.out | refine below_set ?_ GE413.out | refine below_set ?_ GE419.out) | exact HB.out))) : w.heap.size ≤ gb427))
    have n10_ := Aside0.mk ((by rw [hg]; exact Nat.ne_of_lt (blk_lt (g := gb398) (o := .cells #[.int .i8 a0_0, .int .i8 a0_1, .slice A0_2 l0_2.length c0_2] 25 (0, 0)) (pl_ BK398)) : gb398 ≠ gb427))
    have n11_ := Aside0.mk ((by rw [hg]; exact Nat.ne_of_gt (blk_lt (g := gb398) (o := .cells #[.int .i8 a0_0, .int .i8 a0_1, .slice A0_2 l0_2.length c0_2] 25 (0, 0)) (pl_ BK398)) : gb427 ≠ gb398))
    have n12_ := Aside0.mk ((by rw [hg]; exact Nat.ne_of_lt (blk_lt (g := gb399) (o := .cells #[.int .i8 a1_0, .int .i8 a1_1, .int .i8 a1_2, .int .i8 a1_3] 29 (0, 0)) (pl_ BK399)) : gb399 ≠ gb427))
    have n13_ := Aside0.mk ((by rw [hg]; exact Nat.ne_of_gt (blk_lt (g := gb399) (o := .cells #[.int .i8 a1_0, .int .i8 a1_1, .int .i8 a1_2, .int .i8 a1_3] 29 (0, 0)) (pl_ BK399)) : gb427 ≠ gb399))
    have n14_ := Aside0.mk ((by rw [hg]; exact Nat.ne_of_lt (blk_lt (g := gb413) (o := .cells #[.int .i8 t410, .bool t411] 37 (0, 0)) (pl_ BK413)) : gb413 ≠ gb427))
    have n15_ := Aside0.mk ((by rw [hg]; exact Nat.ne_of_gt (blk_lt (g := gb413) (o := .cells #[.int .i8 t410, .bool t411] 37 (0, 0)) (pl_ BK413)) : gb427 ≠ gb413))
    have n16_ := Aside0.mk ((by rw [hg]; exact Nat.ne_of_lt (blk_lt (g := gb419) (o := .cells #[.int .i8 t414, .int .i8 t415, .slice Ao39 t416.length co39] 35 (0, 0)) (pl_ BK419)) : gb419 ≠ gb427))
    have n17_ := Aside0.mk ((by rw [hg]; exact Nat.ne_of_gt (blk_lt (g := gb419) (o := .cells #[.int .i8 t414, .int .i8 t415, .slice Ao39 t416.length co39] 35 (0, 0)) (pl_ BK419)) : gb427 ≠ gb419))
    clear HO405
    clear HO418
    clear BK398
    clear BK399
    clear BK413
    clear BK419
    clear HB
    have HO405 := n0_
    have HO418 := n1_
    have BK398 := n2_
    have BK399 := n3_
    have BK413 := n4_
    have BK419 := n5_
    have HB := n6_
    have BK427 := n7_
    have GW427 := n8_
    have GE427 := n9_
    have NB398_427 := n10_
    have NB427_398 := n11_
    have NB399_427 := n12_
    have NB427_399 := n13_
    have NB413_427 := n14_
    have NB427_413 := n15_
    have NB419_427 := n16_
    have NB427_419 := n17_
    clear n0_ n1_ n2_ n3_ n4_ n5_ n6_ n7_ n8_ n9_ n10_ n11_ n12_ n13_ n14_ n15_ n16_ n17_
    clear hb hbox hg
    refine hK.out _ _ ⟨(blk_cell BK419.out 0).trans rfl, (blk_cell BK419.out 1).trans rfl, (blk_cell BK419.out 2).trans rfl, (blk_cell BK399.out 0).trans rfl, (blk_cell BK399.out 1).trans rfl, (blk_cell BK399.out 2).trans rfl, (blk_cell BK399.out 3).trans rfl⟩ (fun hHeld => ?_)
    clear hK K
    refine norm_ (a' := ?_) ?_ ?_
    rotate_left
    ·show Act.put _ (some 9) _ = _
     simp only [Act.put, List.setIfInBounds_toArray, List.set_cons_zero, List.set_cons_succ, i64_w, i32_w]
     rfl
    refine one_ (i := 2) (N := some 29) #[true, true, true, false, false, false, false, true, false, false] rfl rfl (one_of HT_.out (by kernel_rfl)) (by decide) (fun K hK => ?_)
    refine goes_ Try.func22 (by kernel_rfl) rfl #[.agg #[.int .i8 a1_0, .int .i8 a1_1, .int .i8 a1_2, .int .i8 a1_3]] (by rfl) rfl rfl (by (try simp only [List.map_toArray, List.map_cons, List.map_nil]); first | done | rfl | (simp only [List.length_drop, List.length_take]; rfl)) ?_
    with_reducible refine (laws_toWord.calls k a1_0 a1_1 a1_2 a1_3 t420 t421 t422 t423 _ A14.out).mono ?_
    rintro e w43 ⟨rfl, hb⟩
    refine ⟨_, rfl, ?_⟩
    have n0_ := Aside0.mk (Kd.R_below (pr_ HO405) hb)
    have n1_ := Aside0.mk (Kd.R_below (pr_ HO418) hb)
    have n2_ := Aside0.mk (blk_below (g := gb398) (o := .cells #[.int .i8 a0_0, .int .i8 a0_1, .slice A0_2 l0_2.length c0_2] 25 (0, 0)) (pl_ BK398) hb)
    have n3_ := Aside0.mk (blk_below (g := gb399) (o := .cells #[.int .i8 a1_0, .int .i8 a1_1, .int .i8 a1_2, .int .i8 a1_3] 29 (0, 0)) (pl_ BK399) hb)
    have n4_ := Aside0.mk (blk_below (g := gb413) (o := .cells #[.int .i8 t410, .bool t411] 37 (0, 0)) (pl_ BK413) hb)
    have n5_ := Aside0.mk (blk_below (g := gb419) (o := .cells #[.int .i8 t414, .int .i8 t415, .slice Ao39 t416.length co39] 35 (0, 0)) (pl_ BK419) hb)
    have n6_ := Aside0.mk (blk_below (g := gb427) (o := .cells #[.int .i8 0, .bool false] 37 (0, 0)) (pl_ BK427) hb)
    have n7_ := Aside0.mk (below_step (by repeat (first | (with_reducible first | exact HB.out | apply below_alloc | apply pw_below_drewN | apply below_drew1 | refine below_set ?_ GE398.out | refine below_set ?_ GE399.out | refine below_set ?_ GE413.out | refine below_set ?_ GE419.out | refine below_set ?_ GE427.out) | exact HB.out)) hb)
    clear HO405
    clear HO418
    clear BK398
    clear BK399
    clear BK413
    clear BK419
    clear BK427
    clear HB
    have HO405 := n0_
    have HO418 := n1_
    have BK398 := n2_
    have BK399 := n3_
    have BK413 := n4_
    have BK419 := n5_
    have BK427 := n6_
    have HB := n7_
    clear n0_ n1_ n2_ n3_ n4_ n5_ n6_ n7_
    (try clear hb)
    (try clear hb2)
    (try clear hk)
    (try clear hi)
    refine hK.out _ _ ⟨(blk_cell BK419.out 0).trans rfl, (blk_cell BK419.out 1).trans rfl, (blk_cell BK419.out 2).trans rfl, (blk_cell BK399.out 0).trans rfl, (blk_cell BK399.out 1).trans rfl, (blk_cell BK399.out 2).trans rfl, (blk_cell BK399.out 3).trans rfl⟩ (fun hHeld => ?_)
    clear hK K
    refine norm_ (a' := ?_) ?_ ?_
    rotate_left
    ·show Act.put _ (some 29) _ = _
     simp only [Act.put, List.setIfInBounds_toArray, List.set_cons_zero, List.set_cons_succ, i64_w, i32_w]
     rfl
    refine one_ (i := 3) (N := some 30) #[true, true, true, true, false, false, false, true, false, false] rfl rfl (one_of HT_.out (by kernel_rfl)) (by decide) (fun K hK => ?_)
    refine goes_ Try.func23 (by kernel_rfl) rfl #[.agg #[.int .i8 t414, .int .i8 t415, .slice Ao39 t416.length co39], .agg #[.int .i8 t420, .int .i8 t421, .int .i8 t422, .int .i8 t423]] (by rfl) rfl rfl (by (try simp only [List.map_toArray, List.map_cons, List.map_nil]); first | done | rfl | (simp only [List.length_drop, List.length_take]; rfl)) ?_
    with_reducible refine (impl_Decode.calls k t414 t415 _ _ t416 t420 t421 t422 t423 t424 t425 t426 _ ?side1 ?side2 A15.out).mono ?_
    (case side1 => repeat (first | exact (Kd.R_reads' HO418.out).2.2 | (with_reducible refine Kd.C_alloc ?_ _) | (with_reducible refine Kd.C_drewN ?_ _) | (with_reducible refine Kd.C_drew ?_)))
    (case side2 => exact (Kd.R_reads' HO418.out).2.1)
    rintro e w44 ⟨rfl, hb⟩
    refine ⟨_, rfl, ?_⟩
    have n0_ := Aside0.mk (Kd.R_below (pr_ HO405) hb)
    have n1_ := Aside0.mk (Kd.R_below (pr_ HO418) hb)
    have n2_ := Aside0.mk (blk_below (g := gb398) (o := .cells #[.int .i8 a0_0, .int .i8 a0_1, .slice A0_2 l0_2.length c0_2] 25 (0, 0)) (pl_ BK398) hb)
    have n3_ := Aside0.mk (blk_below (g := gb399) (o := .cells #[.int .i8 a1_0, .int .i8 a1_1, .int .i8 a1_2, .int .i8 a1_3] 29 (0, 0)) (pl_ BK399) hb)
    have n4_ := Aside0.mk (blk_below (g := gb413) (o := .cells #[.int .i8 t410, .bool t411] 37 (0, 0)) (pl_ BK413) hb)
    have n5_ := Aside0.mk (blk_below (g := gb419) (o := .cells #[.int .i8 t414, .int .i8 t415, .slice Ao39 t416.length co39] 35 (0, 0)) (pl_ BK419) hb)
    have n6_ := Aside0.mk (blk_below (g := gb427) (o := .cells #[.int .i8 0, .bool false] 37 (0, 0)) (pl_ BK427) hb)
    have n7_ := Aside0.mk (below_step (by repeat (first | (with_reducible first | exact HB.out | apply below_alloc | apply pw_below_drewN | apply below_drew1 | refine below_set ?_ GE398.out | refine below_set ?_ GE399.out | refine below_set ?_ GE413.out | refine below_set ?_ GE419.out | refine below_set ?_ GE427.out) | exact HB.out)) hb)
    clear HO405
    clear HO418
    clear BK398
    clear BK399
    clear BK413
    clear BK419
    clear BK427
    clear HB
    have HO405 := n0_
    have HO418 := n1_
    have BK398 := n2_
    have BK399 := n3_
    have BK413 := n4_
    have BK419 := n5_
    have BK427 := n6_
    have HB := n7_
    clear n0_ n1_ n2_ n3_ n4_ n5_ n6_ n7_
    (try clear hb)
    (try clear hb2)
    (try clear hk)
    (try clear hi)
    refine hK.out _ _ ⟨(blk_cell BK419.out 0).trans rfl, (blk_cell BK419.out 1).trans rfl, (blk_cell BK419.out 2).trans rfl, (blk_cell BK399.out 0).trans rfl, (blk_cell BK399.out 1).trans rfl, (blk_cell BK399.out 2).trans rfl, (blk_cell BK399.out 3).trans rfl⟩ (fun hHeld => ?_)
    clear hK K
    refine norm_ (a' := ?_) ?_ ?_
    rotate_left
    ·show Act.put _ (some 30) _ = _
     simp only [Act.put, List.setIfInBounds_toArray, List.set_cons_zero, List.set_cons_succ, i64_w, i32_w]
     rfl
    refine pure_ (i := 4) (N := some 26) (v := ?_) (a' := ?_) #[true, true, true, true, true, false, false, true, false, false] rfl rfl (any_of HT_.out (by kernel_rfl)) (fun _ _ _ h => h) (Or.inl ⟨by rfl, ?_⟩) ?_ ?_
    rotate_left
    ·intro w'
     go_simp
     with_reducible rfl
    rotate_left
    ·simp only [Act.put, List.setIfInBounds_toArray, List.set_cons_zero, List.set_cons_succ, i64_w, i32_w]
     rfl
    refine pure_ (i := 5) (N := some 31) (v := ?_) (a' := ?_) #[true, true, true, true, true, true, false, true, false, false] rfl rfl (any_of HT_.out (by kernel_rfl)) (fun _ _ _ h => h) (Or.inl ⟨by rfl, ?_⟩) ?_ ?_
    rotate_left
    ·intro w'
     go_simp
     with_reducible rfl
    rotate_left
    ·simp only [Act.put, List.setIfInBounds_toArray, List.set_cons_zero, List.set_cons_succ, i64_w, i32_w]
     rfl
    refine pure_ (i := 6) (N := some 32) (v := ?_) (a' := ?_) #[true, true, true, true, true, true, true, true, false, false] rfl rfl (any_of HT_.out (by kernel_rfl)) (fun _ _ _ h => h) (Or.inl ⟨by rfl, ?_⟩) ?_ ?_
    rotate_left
    ·intro w'
     go_simp
     with_reducible rfl
    rotate_left
    ·simp only [Act.put, List.setIfInBounds_toArray, List.set_cons_zero, List.set_cons_succ, i64_w, i32_w]
     rfl
    exact norm_ (by simp only [putAll, Act.put, List.setIfInBounds_toArray, List.set_cons_zero, List.set_cons_succ]) (hCont (gb427) _ ⟨hHeld, (pr_ HO405), (pr_ HO418), (pl_ BK398), (pl_ BK399), (pl_ BK413), (pl_ BK419), (pl_ BK427), GW427.out, GE427.out, NB398_427.out, NB427_398.out, NB399_427.out, NB427_399.out, NB413_427.out, NB427_413.out, NB419_427.out, NB427_419.out, (by repeat (first | (with_reducible first | exact HB.out | apply below_alloc | apply pw_below_drewN | apply below_drew1 | refine below_set ?_ GE398.out | refine below_set ?_ GE399.out | refine below_set ?_ GE413.out | refine below_set ?_ GE419.out | refine below_set ?_ GE427.out) | exact HB.out))⟩)
  rintro gb427 w45 ⟨hS_, h0_, h1_, h2_, h3_, h4_, h5_, h6_, h7_, h8_, h9_, h10_, h11_, h12_, h13_, h14_, h15_, h16_, h17_⟩
  have n0_ : Aside0 (Kd.R k30 30 w45 w.heap.size (fun k_ => some k_ ≠ (.slice Ao39 t416.length co39 : Value).ownBlock) v404 t403) := ⟨h0_⟩
  have n1_ : Aside0 (Kd.R k30 30 w45 w.heap.size (fun k_ => some k_ ≠ (v404 : Value).ownBlock) (.slice Ao39 t416.length co39) t416) := ⟨h1_⟩
  have n2_ : Aside0 (w45.heap[gb398]? = some (.cells #[.int .i8 a0_0, .int .i8 a0_1, .slice A0_2 l0_2.length c0_2] 25 (0, 0))) := ⟨h2_⟩
  have n3_ : Aside0 (w45.heap[gb399]? = some (.cells #[.int .i8 a1_0, .int .i8 a1_1, .int .i8 a1_2, .int .i8 a1_3] 29 (0, 0))) := ⟨h3_⟩
  have n4_ : Aside0 (w45.heap[gb413]? = some (.cells #[.int .i8 t410, .bool t411] 37 (0, 0))) := ⟨h4_⟩
  have n5_ : Aside0 (w45.heap[gb419]? = some (.cells #[.int .i8 t414, .int .i8 t415, .slice Ao39 t416.length co39] 35 (0, 0))) := ⟨h5_⟩
  have n6_ : Aside0 (w45.heap[gb427]? = some (.cells #[.int .i8 0, .bool false] 37 (0, 0))) := ⟨h6_⟩
  have n7_ : Aside0 (w.heap.size ≤ gb427) := ⟨h7_⟩
  have n8_ : Aside0 (w.heap.size ≤ gb427) := ⟨h8_⟩
  have n9_ : Aside0 (gb398 ≠ gb427) := ⟨h9_⟩
  have n10_ : Aside0 (gb427 ≠ gb398) := ⟨h10_⟩
  have n11_ : Aside0 (gb399 ≠ gb427) := ⟨h11_⟩
  have n12_ : Aside0 (gb427 ≠ gb399) := ⟨h12_⟩
  have n13_ : Aside0 (gb413 ≠ gb427) := ⟨h13_⟩
  have n14_ : Aside0 (gb427 ≠ gb413) := ⟨h14_⟩
  have n15_ : Aside0 (gb419 ≠ gb427) := ⟨h15_⟩
  have n16_ : Aside0 (gb427 ≠ gb419) := ⟨h16_⟩
  have n17_ : Aside0 (Below w.heap.size w w45) := ⟨h17_⟩
  clear HO405
  clear HO418
  clear BK398
  clear BK399
  clear BK413
  clear BK419
  clear HB
  clear h0_ h1_ h2_ h3_ h4_ h5_ h6_ h7_ h8_ h9_ h10_ h11_ h12_ h13_ h14_ h15_ h16_ h17_
  have HO405 := n0_
  have HO418 := n1_
  have BK398 := n2_
  have BK399 := n3_
  have BK413 := n4_
  have BK419 := n5_
  have BK427 := n6_
  have GW427 := n7_
  have GE427 := n8_
  have NB398_427 := n9_
  have NB427_398 := n10_
  have NB399_427 := n11_
  have NB427_399 := n12_
  have NB413_427 := n13_
  have NB427_413 := n14_
  have NB419_427 := n15_
  have NB427_419 := n16_
  have HB := n17_
  clear n0_ n1_ n2_ n3_ n4_ n5_ n6_ n7_ n8_ n9_ n10_ n11_ n12_ n13_ n14_ n15_ n16_ n17_
  have hHeld : w45.cell? ⟨gb419, 0, none⟩ = some (.int .i8 t414) ∧ w45.cell? ⟨gb419, 1, none⟩ = some (.int .i8 t415) ∧ w45.cell? ⟨gb419, 2, none⟩ = some (.slice Ao39 t416.length co39) ∧ w45.cell? ⟨gb399, 0, none⟩ = some (.int .i8 a1_0) ∧ w45.cell? ⟨gb399, 1, none⟩ = some (.int .i8 a1_1) ∧ w45.cell? ⟨gb399, 2, none⟩ = some (.int .i8 a1_2) ∧ w45.cell? ⟨gb399, 3, none⟩ = some (.int .i8 a1_3) := hS_
  refine norm_ (a' := ?_) ?_ ?_
  rotate_left
  ·simp only [putAll, Act.put, List.setIfInBounds_toArray, List.set_cons_zero, List.set_cons_succ]
   rfl
  refine one_ (i := 8) (N := none) #[true, true, true, true, true, true, true, true, true, false] rfl rfl (one_of HT_.out (by kernel_rfl)) (by decide) (fun K hK => ?_)
  have hs46 : w45.cell? ⟨gb427, 0, none⟩ = some (.int .i8 0) := (blk_cell BK427.out 0).trans rfl
  have hfs46 := blk_frozen BK427.out 0
  have hns46_0 := NB398_427.out
  have hns46_1 := NB399_427.out
  have hns46_2 := NB413_427.out
  have hns46_3 := NB419_427.out
  have hms46_0 := NB427_398.out
  have hms46_1 := NB427_399.out
  have hms46_2 := NB427_413.out
  have hms46_3 := NB427_419.out
  have hs47 : w45.cell? ⟨gb427, 1, none⟩ = some (.bool false) := (blk_cell BK427.out 1).trans rfl
  have hfs47 := blk_frozen BK427.out 1
  have hns47_0 := NB398_427.out
  have hns47_1 := NB399_427.out
  have hns47_2 := NB413_427.out
  have hns47_3 := NB419_427.out
  have hms47_0 := NB427_398.out
  have hms47_1 := NB427_399.out
  have hms47_2 := NB427_413.out
  have hms47_3 := NB427_419.out
  refine skip_ (w1 := ?_) (by rfl) rfl ?_ ?_
  rotate_left
  ·go_simp
   rfl
  refine hK.out _ _ ⟨((cell_far (p := ⟨gb427, _, none⟩) NB419_427.out _).trans (((cell_far (p := ⟨gb427, _, none⟩) NB419_427.out _).trans (hHeld.1)))), ((cell_far (p := ⟨gb427, _, none⟩) NB419_427.out _).trans (((cell_far (p := ⟨gb427, _, none⟩) NB419_427.out _).trans (hHeld.2.1)))), ((cell_far (p := ⟨gb427, _, none⟩) NB419_427.out _).trans (((cell_far (p := ⟨gb427, _, none⟩) NB419_427.out _).trans (hHeld.2.2.1)))), ((cell_far (p := ⟨gb427, _, none⟩) NB399_427.out _).trans (((cell_far (p := ⟨gb427, _, none⟩) NB399_427.out _).trans (hHeld.2.2.2.1)))), ((cell_far (p := ⟨gb427, _, none⟩) NB399_427.out _).trans (((cell_far (p := ⟨gb427, _, none⟩) NB399_427.out _).trans (hHeld.2.2.2.2.1)))), ((cell_far (p := ⟨gb427, _, none⟩) NB399_427.out _).trans (((cell_far (p := ⟨gb427, _, none⟩) NB399_427.out _).trans (hHeld.2.2.2.2.2.1)))), ((cell_far (p := ⟨gb427, _, none⟩) NB399_427.out _).trans (((cell_far (p := ⟨gb427, _, none⟩) NB399_427.out _).trans (hHeld.2.2.2.2.2.2))))⟩ (fun hHeld => ?_)
  clear hK K
  refine pure_ (i := 9) (N := some 10) (v := ?_) (a' := ?_) #[true, true, true, true, true, true, true, true, true, true] rfl rfl (any_of HT_.out (by kernel_rfl)) (fun _ _ _ h => h) (Or.inl ⟨by rfl, ?_⟩) ?_ ?_
  rotate_left
  ·intro w'
   go_simp
   with_reducible rfl
  rotate_left
  ·simp only [Act.put, List.setIfInBounds_toArray, List.set_cons_zero, List.set_cons_succ, i64_w, i32_w]
   rfl
  refine done_ (done_of HT_.out (by kernel_rfl)) ?_
  go_upto_region 8 with (fail)
  go_cut [41] (fun v41 wc => ∃ (kq : Nat) (x41_15 : Bool), v41 = .bool x41_15 ∧ Aside0 (laws_FnExactDecode.j0 kq x41_15 a0_0 a0_1 l0_2 t414 t415 t416 = some r) ∧ Aside0 (kq ≤ k) ∧ Aside0 (Kd.R k30 30 wc w.heap.size (fun _ => True) (.slice Ao39 t416.length co39) t416) ∧ Aside0 (wc.heap[gb398]? = some (.cells #[.int .i8 a0_0, .int .i8 a0_1, (.slice A0_2 l0_2.length c0_2)] 25 (0, 0))) ∧ Aside0 (wc.heap[gb399]? = some (.cells #[.int .i8 a1_0, .int .i8 a1_1, .int .i8 a1_2, .int .i8 a1_3] 29 (0, 0))) ∧ Aside0 (wc.heap[gb413]? = some (.cells #[.int .i8 t410, .bool t411] 37 (0, 0))) ∧ Aside0 (wc.heap[gb419]? = some (.cells #[.int .i8 t414, .int .i8 t415, (.slice Ao39 t416.length co39)] 35 (0, 0))) ∧ Aside0 (wc.heap[gb427]? = some (.cells #[.int .i8 t424, .bool t425] 37 (0, 0))) ∧ Aside0 (Below w.heap.size w wc))
  case first =>
   have H := HC16.out
   clear HC16
   replace H := Option.bind_eq_some_iff.mp H
   obtain ⟨t428, A480, H⟩ := H
   replace H : (if t428 = true then (laws_FnExactDecode.j0 k (t426 != t412) a0_0 a0_1 l0_2 t414 t415 t416) else (laws_FnExactDecode.j0 k true a0_0 a0_1 l0_2 t414 t415 t416)) = some r := H
   have A48 := Aside0.mk A480
   clear A480
   by_cases c49 : t428 = true
   ·subst c49
    have H1 : (laws_FnExactDecode.j0 k (t426 != t412) a0_0 a0_1 l0_2 t414 t415 t416) = some r := by rw [if_pos rfl] at H; exact H
    clear H
    have H := H1
    clear H1
    have H' := Aside0.mk H
    clear H
    have hnb50 := NB427_398.out
    have hnc50 := NB398_427.out
    have hnb51 := NB427_399.out
    have hnc51 := NB399_427.out
    have hnb52 := NB427_413.out
    have hnc52 := NB413_427.out
    have hnb53 := NB427_419.out
    have hnc53 := NB419_427.out
    have hcz54_0 : w45.cell? ⟨gb427, 0, none⟩ = some (.int .i8 0) := (blk_cell BK427.out 0).trans rfl
    have hcz54_1 : w45.cell? ⟨gb427, 1, none⟩ = some (.bool false) := (blk_cell BK427.out 1).trans rfl
    have hfz54_0 := blk_frozen BK427.out 0
    have hfz54_1 := blk_frozen BK427.out 1
    have hnb55 := NB413_398.out
    have hnc55 := NB398_413.out
    have hnb56 := NB413_399.out
    have hnc56 := NB399_413.out
    have hnb57 := NB413_419.out
    have hnc57 := NB419_413.out
    have hcz58_0 : w45.cell? ⟨gb413, 0, none⟩ = some (.int .i8 t410) := (blk_cell BK413.out 0).trans rfl
    have hcz58_1 : w45.cell? ⟨gb413, 1, none⟩ = some (.bool t411) := (blk_cell BK413.out 1).trans rfl
    have hfz58_0 := blk_frozen BK413.out 0
    have hfz58_1 := blk_frozen BK413.out 1
    go_wp2_with (first | ((with_reducible refine gate_callee (f := 20) rfl ?_); refine goesL_ (some 35) rfl rfl Try.func20 (by kernel_rfl) rfl #[.agg #[.int .i8 t424, .bool t425], .agg #[.int .i8 t410, .bool t411]] rfl (by (try simp only [List.map_toArray, List.map_cons, List.map_nil]); first | done | rfl | (simp only [List.length_drop, List.length_take]; rfl)) ?_; (with_reducible refine (laws_eqCase.calls t424 t425 t410 t411 true _ A48.out).mono ?_); rintro e w59 ⟨rfl, hb⟩; refine ⟨_, rfl, ?_⟩; have n0_ := Aside0.mk (Kd.R_below (by (with_reducible repeat (first | apply Kd.R_alloc | apply Kd.R_drewN | apply Kd.R_drew)); exact (Kd.R_mono (Kd.R_far (p := ⟨gb427, 1, none⟩) (Kd.R_far (p := ⟨gb427, 0, none⟩) (Kd.R_types HO405.out BK427.out (by decide)) (fun _ hk => hk.2) (.int .i8 t424)) (fun _ hk => hk.2) (.bool t425)) (fun _ h_ => h_.1))) hb); have n1_ := Aside0.mk (Kd.R_below (by (with_reducible repeat (first | apply Kd.R_alloc | apply Kd.R_drewN | apply Kd.R_drew)); exact (Kd.R_mono (Kd.R_far (p := ⟨gb427, 1, none⟩) (Kd.R_far (p := ⟨gb427, 0, none⟩) (Kd.R_types HO418.out BK427.out (by decide)) (fun _ hk => hk.2) (.int .i8 t424)) (fun _ hk => hk.2) (.bool t425)) (fun _ h_ => h_.1))) hb); have n2_ := Aside0.mk (blk_below (g := gb398) (o := .cells #[.int .i8 a0_0, .int .i8 a0_1, .slice A0_2 l0_2.length c0_2] 25 (0, 0)) (by (with_reducible repeat (first | refine blk_drewN ?_ _ | refine blk_drew ?_ | refine blk_alloc ?_ _)); refine blk_far ?_ NB398_427.out _; (with_reducible repeat (first | refine blk_drewN ?_ _ | refine blk_drew ?_ | refine blk_alloc ?_ _)); refine blk_far ?_ NB398_427.out _; (with_reducible repeat (first | refine blk_drewN ?_ _ | refine blk_drew ?_ | refine blk_alloc ?_ _)); exact BK398.out) hb); have n3_ := Aside0.mk (blk_below (g := gb399) (o := .cells #[.int .i8 a1_0, .int .i8 a1_1, .int .i8 a1_2, .int .i8 a1_3] 29 (0, 0)) (by (with_reducible repeat (first | refine blk_drewN ?_ _ | refine blk_drew ?_ | refine blk_alloc ?_ _)); refine blk_far ?_ NB399_427.out _; (with_reducible repeat (first | refine blk_drewN ?_ _ | refine blk_drew ?_ | refine blk_alloc ?_ _)); refine blk_far ?_ NB399_427.out _; (with_reducible repeat (first | refine blk_drewN ?_ _ | refine blk_drew ?_ | refine blk_alloc ?_ _)); exact BK399.out) hb); have n4_ := Aside0.mk (blk_below (g := gb413) (o := .cells #[.int .i8 t410, .bool t411] 37 (0, 0)) (by (with_reducible repeat (first | refine blk_drewN ?_ _ | refine blk_drew ?_ | refine blk_alloc ?_ _)); refine blk_far ?_ NB413_427.out _; (with_reducible repeat (first | refine blk_drewN ?_ _ | refine blk_drew ?_ | refine blk_alloc ?_ _)); refine blk_far ?_ NB413_427.out _; (with_reducible repeat (first | refine blk_drewN ?_ _ | refine blk_drew ?_ | refine blk_alloc ?_ _)); exact BK413.out) hb); have n5_ := Aside0.mk (blk_below (g := gb419) (o := .cells #[.int .i8 t414, .int .i8 t415, .slice Ao39 t416.length co39] 35 (0, 0)) (by (with_reducible repeat (first | refine blk_drewN ?_ _ | refine blk_drew ?_ | refine blk_alloc ?_ _)); refine blk_far ?_ NB419_427.out _; (with_reducible repeat (first | refine blk_drewN ?_ _ | refine blk_drew ?_ | refine blk_alloc ?_ _)); refine blk_far ?_ NB419_427.out _; (with_reducible repeat (first | refine blk_drewN ?_ _ | refine blk_drew ?_ | refine blk_alloc ?_ _)); exact BK419.out) hb); have n6_ := Aside0.mk (blk_below (g := gb427) (o := .cells #[.int .i8 t424, .bool t425] 37 (0, 0)) (by (with_reducible repeat (first | refine blk_drewN ?_ _ | refine blk_drew ?_ | refine blk_alloc ?_ _)); refine blk_put (cs := #[.int .i8 t424, .bool false]) ?_ 1 _ rfl; (with_reducible repeat (first | refine blk_drewN ?_ _ | refine blk_drew ?_ | refine blk_alloc ?_ _)); refine blk_put (cs := #[.int .i8 0, .bool false]) ?_ 0 _ rfl; (with_reducible repeat (first | refine blk_drewN ?_ _ | refine blk_drew ?_ | refine blk_alloc ?_ _)); exact BK427.out) hb); have n7_ := Aside0.mk (below_step (by repeat (first | (with_reducible first | exact HB.out | apply below_alloc | apply pw_below_drewN | apply below_drew1 | refine below_set ?_ GE398.out | refine below_set ?_ GE399.out | refine below_set ?_ GE413.out | refine below_set ?_ GE419.out | refine below_set ?_ GE427.out) | exact HB.out)) hb); clear HO405; clear HO418; clear BK398; clear BK399; clear BK413; clear BK419; clear BK427; clear HB; have HO405 := n0_; have HO418 := n1_; have BK398 := n2_; have BK399 := n3_; have BK413 := n4_; have BK419 := n5_; have BK427 := n6_; have HB := n7_; clear n0_ n1_ n2_ n3_ n4_ n5_ n6_ n7_; (try clear hb); (try clear hb2); (try clear hk); (try clear hi)))
    go_meet
    case rel => exact ⟨_, ((t426 != t412)), (by first | rfl | (simp; done) | (simp [*]; done)), H', ⟨by first | omega | exact Nat.le_refl _⟩, ⟨by (with_reducible repeat (first | apply Kd.R_alloc | apply Kd.R_drewN | apply Kd.R_drew)); exact Kd.R_mono HO418.out (fun _ hk => trivial)⟩, ⟨pl_ BK398⟩, ⟨pl_ BK399⟩, ⟨pl_ BK413⟩, ⟨pl_ BK419⟩, ⟨pl_ BK427⟩, ⟨by repeat (first | (with_reducible first | exact HB.out | apply below_alloc | apply pw_below_drewN | apply below_drew1 | refine below_set ?_ GE398.out | refine below_set ?_ GE399.out | refine below_set ?_ GE413.out | refine below_set ?_ GE419.out | refine below_set ?_ GE427.out) | exact HB.out)⟩⟩
   ·replace c49 := Bool.eq_false_iff.mpr c49
    subst c49
    have H1 : (laws_FnExactDecode.j0 k true a0_0 a0_1 l0_2 t414 t415 t416) = some r := by rw [if_neg (show ¬ (false = true) by decide)] at H; exact H
    clear H
    have H := H1
    clear H1
    have H' := Aside0.mk H
    clear H
    have hnb60 := NB427_398.out
    have hnc60 := NB398_427.out
    have hnb61 := NB427_399.out
    have hnc61 := NB399_427.out
    have hnb62 := NB427_413.out
    have hnc62 := NB413_427.out
    have hnb63 := NB427_419.out
    have hnc63 := NB419_427.out
    have hcz64_0 : w45.cell? ⟨gb427, 0, none⟩ = some (.int .i8 0) := (blk_cell BK427.out 0).trans rfl
    have hcz64_1 : w45.cell? ⟨gb427, 1, none⟩ = some (.bool false) := (blk_cell BK427.out 1).trans rfl
    have hfz64_0 := blk_frozen BK427.out 0
    have hfz64_1 := blk_frozen BK427.out 1
    have hnb65 := NB413_398.out
    have hnc65 := NB398_413.out
    have hnb66 := NB413_399.out
    have hnc66 := NB399_413.out
    have hnb67 := NB413_419.out
    have hnc67 := NB419_413.out
    have hcz68_0 : w45.cell? ⟨gb413, 0, none⟩ = some (.int .i8 t410) := (blk_cell BK413.out 0).trans rfl
    have hcz68_1 : w45.cell? ⟨gb413, 1, none⟩ = some (.bool t411) := (blk_cell BK413.out 1).trans rfl
    have hfz68_0 := blk_frozen BK413.out 0
    have hfz68_1 := blk_frozen BK413.out 1
    go_wp2_with (first | ((with_reducible refine gate_callee (f := 20) rfl ?_); refine goesL_ (some 35) rfl rfl Try.func20 (by kernel_rfl) rfl #[.agg #[.int .i8 t424, .bool t425], .agg #[.int .i8 t410, .bool t411]] rfl (by (try simp only [List.map_toArray, List.map_cons, List.map_nil]); first | done | rfl | (simp only [List.length_drop, List.length_take]; rfl)) ?_; (with_reducible refine (laws_eqCase.calls t424 t425 t410 t411 false _ A48.out).mono ?_); rintro e w69 ⟨rfl, hb⟩; refine ⟨_, rfl, ?_⟩; have n0_ := Aside0.mk (Kd.R_below (by (with_reducible repeat (first | apply Kd.R_alloc | apply Kd.R_drewN | apply Kd.R_drew)); exact (Kd.R_mono (Kd.R_far (p := ⟨gb427, 1, none⟩) (Kd.R_far (p := ⟨gb427, 0, none⟩) (Kd.R_types HO405.out BK427.out (by decide)) (fun _ hk => hk.2) (.int .i8 t424)) (fun _ hk => hk.2) (.bool t425)) (fun _ h_ => h_.1))) hb); have n1_ := Aside0.mk (Kd.R_below (by (with_reducible repeat (first | apply Kd.R_alloc | apply Kd.R_drewN | apply Kd.R_drew)); exact (Kd.R_mono (Kd.R_far (p := ⟨gb427, 1, none⟩) (Kd.R_far (p := ⟨gb427, 0, none⟩) (Kd.R_types HO418.out BK427.out (by decide)) (fun _ hk => hk.2) (.int .i8 t424)) (fun _ hk => hk.2) (.bool t425)) (fun _ h_ => h_.1))) hb); have n2_ := Aside0.mk (blk_below (g := gb398) (o := .cells #[.int .i8 a0_0, .int .i8 a0_1, .slice A0_2 l0_2.length c0_2] 25 (0, 0)) (by (with_reducible repeat (first | refine blk_drewN ?_ _ | refine blk_drew ?_ | refine blk_alloc ?_ _)); refine blk_far ?_ NB398_427.out _; (with_reducible repeat (first | refine blk_drewN ?_ _ | refine blk_drew ?_ | refine blk_alloc ?_ _)); refine blk_far ?_ NB398_427.out _; (with_reducible repeat (first | refine blk_drewN ?_ _ | refine blk_drew ?_ | refine blk_alloc ?_ _)); exact BK398.out) hb); have n3_ := Aside0.mk (blk_below (g := gb399) (o := .cells #[.int .i8 a1_0, .int .i8 a1_1, .int .i8 a1_2, .int .i8 a1_3] 29 (0, 0)) (by (with_reducible repeat (first | refine blk_drewN ?_ _ | refine blk_drew ?_ | refine blk_alloc ?_ _)); refine blk_far ?_ NB399_427.out _; (with_reducible repeat (first | refine blk_drewN ?_ _ | refine blk_drew ?_ | refine blk_alloc ?_ _)); refine blk_far ?_ NB399_427.out _; (with_reducible repeat (first | refine blk_drewN ?_ _ | refine blk_drew ?_ | refine blk_alloc ?_ _)); exact BK399.out) hb); have n4_ := Aside0.mk (blk_below (g := gb413) (o := .cells #[.int .i8 t410, .bool t411] 37 (0, 0)) (by (with_reducible repeat (first | refine blk_drewN ?_ _ | refine blk_drew ?_ | refine blk_alloc ?_ _)); refine blk_far ?_ NB413_427.out _; (with_reducible repeat (first | refine blk_drewN ?_ _ | refine blk_drew ?_ | refine blk_alloc ?_ _)); refine blk_far ?_ NB413_427.out _; (with_reducible repeat (first | refine blk_drewN ?_ _ | refine blk_drew ?_ | refine blk_alloc ?_ _)); exact BK413.out) hb); have n5_ := Aside0.mk (blk_below (g := gb419) (o := .cells #[.int .i8 t414, .int .i8 t415, .slice Ao39 t416.length co39] 35 (0, 0)) (by (with_reducible repeat (first | refine blk_drewN ?_ _ | refine blk_drew ?_ | refine blk_alloc ?_ _)); refine blk_far ?_ NB419_427.out _; (with_reducible repeat (first | refine blk_drewN ?_ _ | refine blk_drew ?_ | refine blk_alloc ?_ _)); refine blk_far ?_ NB419_427.out _; (with_reducible repeat (first | refine blk_drewN ?_ _ | refine blk_drew ?_ | refine blk_alloc ?_ _)); exact BK419.out) hb); have n6_ := Aside0.mk (blk_below (g := gb427) (o := .cells #[.int .i8 t424, .bool t425] 37 (0, 0)) (by (with_reducible repeat (first | refine blk_drewN ?_ _ | refine blk_drew ?_ | refine blk_alloc ?_ _)); refine blk_put (cs := #[.int .i8 t424, .bool false]) ?_ 1 _ rfl; (with_reducible repeat (first | refine blk_drewN ?_ _ | refine blk_drew ?_ | refine blk_alloc ?_ _)); refine blk_put (cs := #[.int .i8 0, .bool false]) ?_ 0 _ rfl; (with_reducible repeat (first | refine blk_drewN ?_ _ | refine blk_drew ?_ | refine blk_alloc ?_ _)); exact BK427.out) hb); have n7_ := Aside0.mk (below_step (by repeat (first | (with_reducible first | exact HB.out | apply below_alloc | apply pw_below_drewN | apply below_drew1 | refine below_set ?_ GE398.out | refine below_set ?_ GE399.out | refine below_set ?_ GE413.out | refine below_set ?_ GE419.out | refine below_set ?_ GE427.out) | exact HB.out)) hb); clear HO405; clear HO418; clear BK398; clear BK399; clear BK413; clear BK419; clear BK427; clear HB; have HO405 := n0_; have HO418 := n1_; have BK398 := n2_; have BK399 := n3_; have BK413 := n4_; have BK419 := n5_; have BK427 := n6_; have HB := n7_; clear n0_ n1_ n2_ n3_ n4_ n5_ n6_ n7_; (try clear hb); (try clear hb2); (try clear hk); (try clear hi)))
    go_meet
    case rel => exact ⟨_, (true), (by first | rfl | (simp; done) | (simp [*]; done)), H', ⟨by first | omega | exact Nat.le_refl _⟩, ⟨by (with_reducible repeat (first | apply Kd.R_alloc | apply Kd.R_drewN | apply Kd.R_drew)); exact Kd.R_mono HO418.out (fun _ hk => trivial)⟩, ⟨pl_ BK398⟩, ⟨pl_ BK399⟩, ⟨pl_ BK413⟩, ⟨pl_ BK419⟩, ⟨pl_ BK427⟩, ⟨by repeat (first | (with_reducible first | exact HB.out | apply below_alloc | apply pw_below_drewN | apply below_drew1 | refine below_set ?_ GE398.out | refine below_set ?_ GE399.out | refine below_set ?_ GE413.out | refine below_set ?_ GE419.out | refine below_set ?_ GE427.out) | exact HB.out)⟩⟩
  case rest =>
   clear HC16
   try clear c2
   try clear p2
   try clear c4
   try clear c5
   try clear c6
   try clear c20
   try clear c22
   try clear c23
   try clear c49
   try clear c50
   try clear c51
   try clear c52
   try clear c53
   try clear c55
   try clear c56
   try clear c57
   try clear c60
   try clear c61
   try clear c62
   try clear c63
   try clear c65
   try clear c66
   try clear c67
   try clear hcz54_0
   try clear hcz54_1
   try clear hcz58_0
   try clear hcz58_1
   try clear hcz64_0
   try clear hcz64_1
   try clear hcz68_0
   try clear hcz68_1
   try clear hfz54_0
   try clear hfz54_1
   try clear hfz58_0
   try clear hfz58_1
   try clear hfz64_0
   try clear hfz64_1
   try clear hfz68_0
   try clear hfz68_1
   obtain ⟨kq, x41_15, rfl, HA, HJ15, HO_420002, BK398, BK399, BK413, BK419, BK427, HB⟩ := hcut
   cases kq with
   | zero => exact absurd HA.out (by simp [laws_FnExactDecode.j0])
   | succ kj15 =>
    have H := HA.out
    clear HA
    simp only [laws_FnExactDecode.j0] at H
    by_cases c70 : x41_15 = true
    ·subst c70
     have H1 : (some false) = some r := by rw [if_pos rfl] at H; exact H
     clear H
     have H := H1
     clear H1
     obtain rfl := Option.some.inj H
     go_wp2
     go_ret
     exact ⟨by first | rfl | (simp [errW_none, errW_some] <;> rfl) | (simp [*, errW_none, errW_some] <;> rfl), by repeat (first | (with_reducible first | exact HB.out | apply below_alloc | apply pw_below_drewN | apply below_drew1 | refine below_set ?_ GE398.out | refine below_set ?_ GE399.out | refine below_set ?_ GE413.out | refine below_set ?_ GE419.out | refine below_set ?_ GE427.out) | exact HB.out)⟩
    ·replace c70 := Bool.eq_false_iff.mpr c70
     subst c70
     have H1 : ((laws_toFixed.f kj15 a0_0 a0_1 l0_2).bind fun bt429 => ((laws_eqFixed.f kj15 t414 t415 t416 bt429.1 bt429.2.1 bt429.2.2).bind fun t434 => (if t434 = true then (some true) else (some false)))) = some r := by rw [if_neg (show ¬ (false = true) by decide)] at H; exact H
     clear H
     have H := H1
     clear H1
     replace H := Option.bind_eq_some_iff.mp H
     obtain ⟨⟨t429, t430, t431⟩, A710, H⟩ := H
     replace H : ((laws_eqFixed.f kj15 t414 t415 t416 t429 t430 t431).bind fun t434 => (if t434 = true then (some true) else (some false))) = some r := H
     have A71 := Aside0.mk A710
     clear A710
     replace H := Option.bind_eq_some_iff.mp H
     obtain ⟨t434, A720, H⟩ := H
     replace H : (if t434 = true then (some true) else (some false)) = some r := H
     have A72 := Aside0.mk A720
     clear A720
     by_cases c73 : t434 = true
     ·subst c73
      have H1 : (some true) = some r := by rw [if_pos rfl] at H; exact H
      clear H
      have H := H1
      clear H1
      obtain rfl := Option.some.inj H
      try go_wp2
      have n0_ := Aside0.mk (Kd.R_drew HO_420002.out)
      have n1_ := Aside0.mk (blk_drew BK398.out)
      have n2_ := Aside0.mk (blk_drew BK399.out)
      have n3_ := Aside0.mk (blk_drew BK413.out)
      have n4_ := Aside0.mk (blk_drew BK419.out)
      have n5_ := Aside0.mk (blk_drew BK427.out)
      have n6_ := Aside0.mk (below_drew1 HB.out)
      clear HO_420002
      clear BK398
      clear BK399
      clear BK413
      clear BK419
      clear BK427
      clear HB
      have HO_420002 := n0_
      have BK398 := n1_
      have BK399 := n2_
      have BK413 := n3_
      have BK419 := n4_
      have BK427 := n5_
      have HB := n6_
      clear n0_ n1_ n2_ n3_ n4_ n5_ n6_
      refine start_ (n := 5) (S := fun w' => w'.cell? ⟨gb419, 0, none⟩ = some (.int .i8 t414) ∧ w'.cell? ⟨gb419, 1, none⟩ = some (.int .i8 t415) ∧ w'.cell? ⟨gb419, 2, none⟩ = some (.slice Ao39 t416.length co39) ∧ w'.cell? ⟨gb398, 0, none⟩ = some (.int .i8 a0_0) ∧ w'.cell? ⟨gb398, 1, none⟩ = some (.int .i8 a0_1) ∧ w'.cell? ⟨gb398, 2, none⟩ = some (.slice A0_2 l0_2.length c0_2)) (ds := []) #[false, false, false, false, false] (by kernel_rfl) rfl rfl ⟨(blk_cell BK419.out 0).trans rfl, (blk_cell BK419.out 1).trans rfl, (blk_cell BK419.out 2).trans rfl, (blk_cell BK398.out 0).trans rfl, (blk_cell BK398.out 1).trans rfl, (blk_cell BK398.out 2).trans rfl⟩ (fun hHeld => ?_)
      generalize wc.drew = w74 at HO_420002 BK398 BK399 BK413 BK419 BK427 HB hHeld ⊢
      refine take_ (i := 0) (N := some 42) (v := ?_) (a' := ?_) #[true, false, false, false, false] rfl rfl (by kernel_rfl) (fun _ _ _ h => h) (Or.inl ⟨by rfl, ?_⟩) hHeld ?_ ?_
      rotate_left
      ·rintro w' ⟨s0, s1, s2, s3, s4, s5⟩
       go_simp
       with_reducible rfl
      rotate_left
      ·simp only [Act.put, List.setIfInBounds_toArray, List.set_cons_zero, List.set_cons_succ, i64_w, i32_w]
       rfl
      refine take_ (i := 1) (N := some 43) (v := ?_) (a' := ?_) #[true, true, false, false, false] rfl rfl (by kernel_rfl) (fun _ _ _ h => h) (Or.inl ⟨by rfl, ?_⟩) hHeld ?_ ?_
      rotate_left
      ·rintro w' ⟨s0, s1, s2, s3, s4, s5⟩
       go_simp
       with_reducible rfl
      rotate_left
      ·simp only [Act.put, List.setIfInBounds_toArray, List.set_cons_zero, List.set_cons_succ, i64_w, i32_w]
       rfl
      refine one_ (i := 2) (N := some 44) #[true, true, true, false, false] rfl rfl (by kernel_rfl) (by decide) (fun K hK => ?_)
      refine goes_ Try.func11 (by kernel_rfl) rfl #[.agg #[.int .i8 a0_0, .int .i8 a0_1, .slice A0_2 l0_2.length c0_2]] (by rfl) rfl rfl (by (try simp only [List.map_toArray, List.map_cons, List.map_nil]); first | done | rfl | (simp only [List.length_drop, List.length_take]; rfl)) ?_
      with_reducible refine (laws_toFixed.calls kj15 a0_0 a0_1 _ _ l0_2 t429 t430 t431 _ ?side1 ?side2 A71.out).mono ?_
      (case side1 => repeat (first | exact (Kd.C_below HR0_2.out HB.out) | (with_reducible refine Kd.C_alloc ?_ _) | (with_reducible refine Kd.C_drewN ?_ _) | (with_reducible refine Kd.C_drew ?_)))
      (case side2 => exact HC0_2.out)
      rintro e w75 ⟨v432, rfl, ho0, hb⟩
      refine ⟨_, rfl, ?_⟩
      have n0_ := Aside0.mk (Kd.R_elder' (pr_ HO_420002) (Kd.R_base ho0) hb)
      have n1_ := Aside0.mk (Kd.R_lower (Kd.R_new' ho0 (Kd.R_lt (pr_ HO_420002))) (below_size (by repeat (first | (with_reducible first | exact HB.out | apply below_alloc | apply pw_below_drewN | apply below_drew1 | refine below_set ?_ GE398.out | refine below_set ?_ GE399.out | refine below_set ?_ GE413.out | refine below_set ?_ GE419.out | refine below_set ?_ GE427.out) | exact HB.out))))
      have n2_ := Aside0.mk (blk_below (g := gb398) (o := .cells #[.int .i8 a0_0, .int .i8 a0_1, .slice A0_2 l0_2.length c0_2] 25 (0, 0)) (pl_ BK398) hb)
      have n3_ := Aside0.mk (blk_below (g := gb399) (o := .cells #[.int .i8 a1_0, .int .i8 a1_1, .int .i8 a1_2, .int .i8 a1_3] 29 (0, 0)) (pl_ BK399) hb)
      have n4_ := Aside0.mk (blk_below (g := gb413) (o := .cells #[.int .i8 t410, .bool t411] 37 (0, 0)) (pl_ BK413) hb)
      have n5_ := Aside0.mk (blk_below (g := gb419) (o := .cells #[.int .i8 t414, .int .i8 t415, .slice Ao39 t416.length co39] 35 (0, 0)) (pl_ BK419) hb)
      have n6_ := Aside0.mk (blk_below (g := gb427) (o := .cells #[.int .i8 t424, .bool t425] 37 (0, 0)) (pl_ BK427) hb)
      have n7_ := Aside0.mk (below_step (by repeat (first | (with_reducible first | exact HB.out | apply below_alloc | apply pw_below_drewN | apply below_drew1 | refine below_set ?_ GE398.out | refine below_set ?_ GE399.out | refine below_set ?_ GE413.out | refine below_set ?_ GE419.out | refine below_set ?_ GE427.out) | exact HB.out)) hb)
      clear HO_420002
      clear BK398
      clear BK399
      clear BK413
      clear BK419
      clear BK427
      clear HB
      have HO_420002 := n0_
      have HO433 := n1_
      have BK398 := n2_
      have BK399 := n3_
      have BK413 := n4_
      have BK419 := n5_
      have BK427 := n6_
      have HB := n7_
      clear n0_ n1_ n2_ n3_ n4_ n5_ n6_ n7_
      (try clear hb)
      (try clear hb2)
      (try clear hk)
      (try clear hi)
      (try clear ho0)
      obtain ⟨Ao76, co76, eo76⟩ := Kd.R_slice HO433.out
      (first | subst eo76 | (injection eo76 with f1_ f2_ f3_; have f4_ := f1_.symm; have f5_ := f3_.symm; clear f1_ f2_ f3_; subst f4_; subst f5_))
      refine hK.out _ _ ⟨(blk_cell BK419.out 0).trans rfl, (blk_cell BK419.out 1).trans rfl, (blk_cell BK419.out 2).trans rfl, (blk_cell BK398.out 0).trans rfl, (blk_cell BK398.out 1).trans rfl, (blk_cell BK398.out 2).trans rfl⟩ (fun hHeld => ?_)
      clear hK K
      refine norm_ (a' := ?_) ?_ ?_
      rotate_left
      ·show Act.put _ (some 44) _ = _
       simp only [Act.put, List.setIfInBounds_toArray, List.set_cons_zero, List.set_cons_succ, i64_w, i32_w]
       rfl
      refine one_ (i := 3) (N := some 45) #[true, true, true, true, false] rfl rfl (by kernel_rfl) (by decide) (fun K hK => ?_)
      refine goes_ Try.func15 (by kernel_rfl) rfl #[.agg #[.int .i8 t414, .int .i8 t415, .slice Ao39 t416.length co39], .agg #[.int .i8 t429, .int .i8 t430, .slice Ao76 t431.length co76]] (by rfl) rfl rfl (by (try simp only [List.map_toArray, List.map_cons, List.map_nil]); first | done | rfl | (simp only [List.length_drop, List.length_take]; rfl)) ?_
      with_reducible refine (laws_eqFixed.calls kj15 t414 t415 _ _ t416 t429 t430 _ _ t431 true _ ?side1 ?side2 ?side3 ?side4 A72.out).mono ?_
      (case side1 => repeat (first | exact (Kd.R_reads' HO_420002.out).2.2 | (with_reducible refine Kd.C_alloc ?_ _) | (with_reducible refine Kd.C_drewN ?_ _) | (with_reducible refine Kd.C_drew ?_)))
      (case side2 => exact (Kd.R_reads' HO_420002.out).2.1)
      (case side3 => repeat (first | exact (Kd.R_reads' HO433.out).2.2 | (with_reducible refine Kd.C_alloc ?_ _) | (with_reducible refine Kd.C_drewN ?_ _) | (with_reducible refine Kd.C_drew ?_)))
      (case side4 => exact (Kd.R_reads' HO433.out).2.1)
      rintro e w77 ⟨rfl, hb⟩
      refine ⟨_, rfl, ?_⟩
      have n0_ := Aside0.mk (Kd.R_below (pr_ HO_420002) hb)
      have n1_ := Aside0.mk (Kd.R_below (pr_ HO433) hb)
      have n2_ := Aside0.mk (blk_below (g := gb398) (o := .cells #[.int .i8 a0_0, .int .i8 a0_1, .slice A0_2 l0_2.length c0_2] 25 (0, 0)) (pl_ BK398) hb)
      have n3_ := Aside0.mk (blk_below (g := gb399) (o := .cells #[.int .i8 a1_0, .int .i8 a1_1, .int .i8 a1_2, .int .i8 a1_3] 29 (0, 0)) (pl_ BK399) hb)
      have n4_ := Aside0.mk (blk_below (g := gb413) (o := .cells #[.int .i8 t410, .bool t411] 37 (0, 0)) (pl_ BK413) hb)
      have n5_ := Aside0.mk (blk_below (g := gb419) (o := .cells #[.int .i8 t414, .int .i8 t415, .slice Ao39 t416.length co39] 35 (0, 0)) (pl_ BK419) hb)
      have n6_ := Aside0.mk (blk_below (g := gb427) (o := .cells #[.int .i8 t424, .bool t425] 37 (0, 0)) (pl_ BK427) hb)
      have n7_ := Aside0.mk (below_step (by repeat (first | (with_reducible first | exact HB.out | apply below_alloc | apply pw_below_drewN | apply below_drew1 | refine below_set ?_ GE398.out | refine below_set ?_ GE399.out | refine below_set ?_ GE413.out | refine below_set ?_ GE419.out | refine below_set ?_ GE427.out) | exact HB.out)) hb)
      clear HO_420002
      clear HO433
      clear BK398
      clear BK399
      clear BK413
      clear BK419
      clear BK427
      clear HB
      have HO_420002 := n0_
      have HO433 := n1_
      have BK398 := n2_
      have BK399 := n3_
      have BK413 := n4_
      have BK419 := n5_
      have BK427 := n6_
      have HB := n7_
      clear n0_ n1_ n2_ n3_ n4_ n5_ n6_ n7_
      (try clear hb)
      (try clear hb2)
      (try clear hk)
      (try clear hi)
      refine hK.out _ _ ⟨(blk_cell BK419.out 0).trans rfl, (blk_cell BK419.out 1).trans rfl, (blk_cell BK419.out 2).trans rfl, (blk_cell BK398.out 0).trans rfl, (blk_cell BK398.out 1).trans rfl, (blk_cell BK398.out 2).trans rfl⟩ (fun hHeld => ?_)
      clear hK K
      refine norm_ (a' := ?_) ?_ ?_
      rotate_left
      ·show Act.put _ (some 45) _ = _
       simp only [Act.put, List.setIfInBounds_toArray, List.set_cons_zero, List.set_cons_succ, i64_w, i32_w]
       rfl
      refine pure_ (i := 4) (N := some 46) (v := ?_) (a' := ?_) #[true, true, true, true, true] rfl rfl (by kernel_rfl) (fun _ _ _ h => h) (Or.inl ⟨by rfl, ?_⟩) ?_ ?_
      rotate_left
      ·intro w'
       go_simp
       with_reducible rfl
      rotate_left
      ·simp only [Act.put, List.setIfInBounds_toArray, List.set_cons_zero, List.set_cons_succ, i64_w, i32_w]
       rfl
      refine done_ (by kernel_rfl) ?_
      try go_wp2
      go_ret
      exact ⟨by first | rfl | (simp [errW_none, errW_some] <;> rfl) | (simp [*, errW_none, errW_some] <;> rfl), by repeat (first | (with_reducible first | exact HB.out | apply below_alloc | apply pw_below_drewN | apply below_drew1 | refine below_set ?_ GE398.out | refine below_set ?_ GE399.out | refine below_set ?_ GE413.out | refine below_set ?_ GE419.out | refine below_set ?_ GE427.out) | exact HB.out)⟩
     ·replace c73 := Bool.eq_false_iff.mpr c73
      subst c73
      have H1 : (some false) = some r := by rw [if_neg (show ¬ (false = true) by decide)] at H; exact H
      clear H
      have H := H1
      clear H1
      obtain rfl := Option.some.inj H
      try go_wp2
      have n0_ := Aside0.mk (Kd.R_drew HO_420002.out)
      have n1_ := Aside0.mk (blk_drew BK398.out)
      have n2_ := Aside0.mk (blk_drew BK399.out)
      have n3_ := Aside0.mk (blk_drew BK413.out)
      have n4_ := Aside0.mk (blk_drew BK419.out)
      have n5_ := Aside0.mk (blk_drew BK427.out)
      have n6_ := Aside0.mk (below_drew1 HB.out)
      clear HO_420002
      clear BK398
      clear BK399
      clear BK413
      clear BK419
      clear BK427
      clear HB
      have HO_420002 := n0_
      have BK398 := n1_
      have BK399 := n2_
      have BK413 := n3_
      have BK419 := n4_
      have BK427 := n5_
      have HB := n6_
      clear n0_ n1_ n2_ n3_ n4_ n5_ n6_
      refine start_ (n := 5) (S := fun w' => w'.cell? ⟨gb419, 0, none⟩ = some (.int .i8 t414) ∧ w'.cell? ⟨gb419, 1, none⟩ = some (.int .i8 t415) ∧ w'.cell? ⟨gb419, 2, none⟩ = some (.slice Ao39 t416.length co39) ∧ w'.cell? ⟨gb398, 0, none⟩ = some (.int .i8 a0_0) ∧ w'.cell? ⟨gb398, 1, none⟩ = some (.int .i8 a0_1) ∧ w'.cell? ⟨gb398, 2, none⟩ = some (.slice A0_2 l0_2.length c0_2)) (ds := []) #[false, false, false, false, false] (by kernel_rfl) rfl rfl ⟨(blk_cell BK419.out 0).trans rfl, (blk_cell BK419.out 1).trans rfl, (blk_cell BK419.out 2).trans rfl, (blk_cell BK398.out 0).trans rfl, (blk_cell BK398.out 1).trans rfl, (blk_cell BK398.out 2).trans rfl⟩ (fun hHeld => ?_)
      generalize wc.drew = w78 at HO_420002 BK398 BK399 BK413 BK419 BK427 HB hHeld ⊢
      refine take_ (i := 0) (N := some 42) (v := ?_) (a' := ?_) #[true, false, false, false, false] rfl rfl (by kernel_rfl) (fun _ _ _ h => h) (Or.inl ⟨by rfl, ?_⟩) hHeld ?_ ?_
      rotate_left
      ·rintro w' ⟨s0, s1, s2, s3, s4, s5⟩
       go_simp
       with_reducible rfl
      rotate_left
      ·simp only [Act.put, List.setIfInBounds_toArray, List.set_cons_zero, List.set_cons_succ, i64_w, i32_w]
       rfl
      refine take_ (i := 1) (N := some 43) (v := ?_) (a' := ?_) #[true, true, false, false, false] rfl rfl (by kernel_rfl) (fun _ _ _ h => h) (Or.inl ⟨by rfl, ?_⟩) hHeld ?_ ?_
      rotate_left
      ·rintro w' ⟨s0, s1, s2, s3, s4, s5⟩
       go_simp
       with_reducible rfl
      rotate_left
      ·simp only [Act.put, List.setIfInBounds_toArray, List.set_cons_zero, List.set_cons_succ, i64_w, i32_w]
       rfl
      refine one_ (i := 2) (N := some 44) #[true, true, true, false, false] rfl rfl (by kernel_rfl) (by decide) (fun K hK => ?_)
      refine goes_ Try.func11 (by kernel_rfl) rfl #[.agg #[.int .i8 a0_0, .int .i8 a0_1, .slice A0_2 l0_2.length c0_2]] (by rfl) rfl rfl (by (try simp only [List.map_toArray, List.map_cons, List.map_nil]); first | done | rfl | (simp only [List.length_drop, List.length_take]; rfl)) ?_
      with_reducible refine (laws_toFixed.calls kj15 a0_0 a0_1 _ _ l0_2 t429 t430 t431 _ ?side1 ?side2 A71.out).mono ?_
      (case side1 => repeat (first | exact (Kd.C_below HR0_2.out HB.out) | (with_reducible refine Kd.C_alloc ?_ _) | (with_reducible refine Kd.C_drewN ?_ _) | (with_reducible refine Kd.C_drew ?_)))
      (case side2 => exact HC0_2.out)
      rintro e w79 ⟨v432, rfl, ho0, hb⟩
      refine ⟨_, rfl, ?_⟩
      have n0_ := Aside0.mk (Kd.R_elder' (pr_ HO_420002) (Kd.R_base ho0) hb)
      have n1_ := Aside0.mk (Kd.R_lower (Kd.R_new' ho0 (Kd.R_lt (pr_ HO_420002))) (below_size (by repeat (first | (with_reducible first | exact HB.out | apply below_alloc | apply pw_below_drewN | apply below_drew1 | refine below_set ?_ GE398.out | refine below_set ?_ GE399.out | refine below_set ?_ GE413.out | refine below_set ?_ GE419.out | refine below_set ?_ GE427.out) | exact HB.out))))
      have n2_ := Aside0.mk (blk_below (g := gb398) (o := .cells #[.int .i8 a0_0, .int .i8 a0_1, .slice A0_2 l0_2.length c0_2] 25 (0, 0)) (pl_ BK398) hb)
      have n3_ := Aside0.mk (blk_below (g := gb399) (o := .cells #[.int .i8 a1_0, .int .i8 a1_1, .int .i8 a1_2, .int .i8 a1_3] 29 (0, 0)) (pl_ BK399) hb)
      have n4_ := Aside0.mk (blk_below (g := gb413) (o := .cells #[.int .i8 t410, .bool t411] 37 (0, 0)) (pl_ BK413) hb)
      have n5_ := Aside0.mk (blk_below (g := gb419) (o := .cells #[.int .i8 t414, .int .i8 t415, .slice Ao39 t416.length co39] 35 (0, 0)) (pl_ BK419) hb)
      have n6_ := Aside0.mk (blk_below (g := gb427) (o := .cells #[.int .i8 t424, .bool t425] 37 (0, 0)) (pl_ BK427) hb)
      have n7_ := Aside0.mk (below_step (by repeat (first | (with_reducible first | exact HB.out | apply below_alloc | apply pw_below_drewN | apply below_drew1 | refine below_set ?_ GE398.out | refine below_set ?_ GE399.out | refine below_set ?_ GE413.out | refine below_set ?_ GE419.out | refine below_set ?_ GE427.out) | exact HB.out)) hb)
      clear HO_420002
      clear BK398
      clear BK399
      clear BK413
      clear BK419
      clear BK427
      clear HB
      have HO_420002 := n0_
      have HO433 := n1_
      have BK398 := n2_
      have BK399 := n3_
      have BK413 := n4_
      have BK419 := n5_
      have BK427 := n6_
      have HB := n7_
      clear n0_ n1_ n2_ n3_ n4_ n5_ n6_ n7_
      (try clear hb)
      (try clear hb2)
      (try clear hk)
      (try clear hi)
      (try clear ho0)
      obtain ⟨Ao80, co80, eo80⟩ := Kd.R_slice HO433.out
      (first | subst eo80 | (injection eo80 with f1_ f2_ f3_; have f4_ := f1_.symm; have f5_ := f3_.symm; clear f1_ f2_ f3_; subst f4_; subst f5_))
      refine hK.out _ _ ⟨(blk_cell BK419.out 0).trans rfl, (blk_cell BK419.out 1).trans rfl, (blk_cell BK419.out 2).trans rfl, (blk_cell BK398.out 0).trans rfl, (blk_cell BK398.out 1).trans rfl, (blk_cell BK398.out 2).trans rfl⟩ (fun hHeld => ?_)
      clear hK K
      refine norm_ (a' := ?_) ?_ ?_
      rotate_left
      ·show Act.put _ (some 44) _ = _
       simp only [Act.put, List.setIfInBounds_toArray, List.set_cons_zero, List.set_cons_succ, i64_w, i32_w]
       rfl
      refine one_ (i := 3) (N := some 45) #[true, true, true, true, false] rfl rfl (by kernel_rfl) (by decide) (fun K hK => ?_)
      refine goes_ Try.func15 (by kernel_rfl) rfl #[.agg #[.int .i8 t414, .int .i8 t415, .slice Ao39 t416.length co39], .agg #[.int .i8 t429, .int .i8 t430, .slice Ao80 t431.length co80]] (by rfl) rfl rfl (by (try simp only [List.map_toArray, List.map_cons, List.map_nil]); first | done | rfl | (simp only [List.length_drop, List.length_take]; rfl)) ?_
      with_reducible refine (laws_eqFixed.calls kj15 t414 t415 _ _ t416 t429 t430 _ _ t431 false _ ?side1 ?side2 ?side3 ?side4 A72.out).mono ?_
      (case side1 => repeat (first | exact (Kd.R_reads' HO_420002.out).2.2 | (with_reducible refine Kd.C_alloc ?_ _) | (with_reducible refine Kd.C_drewN ?_ _) | (with_reducible refine Kd.C_drew ?_)))
      (case side2 => exact (Kd.R_reads' HO_420002.out).2.1)
      (case side3 => repeat (first | exact (Kd.R_reads' HO433.out).2.2 | (with_reducible refine Kd.C_alloc ?_ _) | (with_reducible refine Kd.C_drewN ?_ _) | (with_reducible refine Kd.C_drew ?_)))
      (case side4 => exact (Kd.R_reads' HO433.out).2.1)
      rintro e w81 ⟨rfl, hb⟩
      refine ⟨_, rfl, ?_⟩
      have n0_ := Aside0.mk (Kd.R_below (pr_ HO_420002) hb)
      have n1_ := Aside0.mk (Kd.R_below (pr_ HO433) hb)
      have n2_ := Aside0.mk (blk_below (g := gb398) (o := .cells #[.int .i8 a0_0, .int .i8 a0_1, .slice A0_2 l0_2.length c0_2] 25 (0, 0)) (pl_ BK398) hb)
      have n3_ := Aside0.mk (blk_below (g := gb399) (o := .cells #[.int .i8 a1_0, .int .i8 a1_1, .int .i8 a1_2, .int .i8 a1_3] 29 (0, 0)) (pl_ BK399) hb)
      have n4_ := Aside0.mk (blk_below (g := gb413) (o := .cells #[.int .i8 t410, .bool t411] 37 (0, 0)) (pl_ BK413) hb)
      have n5_ := Aside0.mk (blk_below (g := gb419) (o := .cells #[.int .i8 t414, .int .i8 t415, .slice Ao39 t416.length co39] 35 (0, 0)) (pl_ BK419) hb)
      have n6_ := Aside0.mk (blk_below (g := gb427) (o := .cells #[.int .i8 t424, .bool t425] 37 (0, 0)) (pl_ BK427) hb)
      have n7_ := Aside0.mk (below_step (by repeat (first | (with_reducible first | exact HB.out | apply below_alloc | apply pw_below_drewN | apply below_drew1 | refine below_set ?_ GE398.out | refine below_set ?_ GE399.out | refine below_set ?_ GE413.out | refine below_set ?_ GE419.out | refine below_set ?_ GE427.out) | exact HB.out)) hb)
      clear HO_420002
      clear HO433
      clear BK398
      clear BK399
      clear BK413
      clear BK419
      clear BK427
      clear HB
      have HO_420002 := n0_
      have HO433 := n1_
      have BK398 := n2_
      have BK399 := n3_
      have BK413 := n4_
      have BK419 := n5_
      have BK427 := n6_
      have HB := n7_
      clear n0_ n1_ n2_ n3_ n4_ n5_ n6_ n7_
      (try clear hb)
      (try clear hb2)
      (try clear hk)
      (try clear hi)
      refine hK.out _ _ ⟨(blk_cell BK419.out 0).trans rfl, (blk_cell BK419.out 1).trans rfl, (blk_cell BK419.out 2).trans rfl, (blk_cell BK398.out 0).trans rfl, (blk_cell BK398.out 1).trans rfl, (blk_cell BK398.out 2).trans rfl⟩ (fun hHeld => ?_)
      clear hK K
      refine norm_ (a' := ?_) ?_ ?_
      rotate_left
      ·show Act.put _ (some 45) _ = _
       simp only [Act.put, List.setIfInBounds_toArray, List.set_cons_zero, List.set_cons_succ, i64_w, i32_w]
       rfl
      refine pure_ (i := 4) (N := some 46) (v := ?_) (a' := ?_) #[true, true, true, true, true] rfl rfl (by kernel_rfl) (fun _ _ _ h => h) (Or.inl ⟨by rfl, ?_⟩) ?_ ?_
      rotate_left
      ·intro w'
       go_simp
       with_reducible rfl
      rotate_left
      ·simp only [Act.put, List.setIfInBounds_toArray, List.set_cons_zero, List.set_cons_succ, i64_w, i32_w]
       rfl
      refine done_ (by kernel_rfl) ?_
      try go_wp2
      go_ret
      exact ⟨by first | rfl | (simp [errW_none, errW_some] <;> rfl) | (simp [*, errW_none, errW_some] <;> rfl), by repeat (first | (with_reducible first | exact HB.out | apply below_alloc | apply pw_below_drewN | apply below_drew1 | refine below_set ?_ GE398.out | refine below_set ?_ GE399.out | refine below_set ?_ GE413.out | refine below_set ?_ GE419.out | refine below_set ?_ GE427.out) | exact HB.out)⟩

end Go.Proofs.Ytkllpdekkhhhnaa.M
