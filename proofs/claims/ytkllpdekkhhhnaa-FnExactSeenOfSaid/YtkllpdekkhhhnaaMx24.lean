-- By this seat's own program over the kit's printer (arrays, functions told by hand); nothing of it is trusted: the kernel checks it.
import Derived.Test.YtkllpdekkhhhnaaMx0
import Derived.Test.YtkllpdekkhhhnaaMx2
import Derived.Test.YtkllpdekkhhhnaaMx8
import Derived.Test.YtkllpdekkhhhnaaMx10
import Derived.Test.YtkllpdekkhhhnaaMx20
import Derived.Test.YtkllpdekkhhhnaaMx21
import Derived.Test.YtkllpdekkhhhnaaMx23
namespace Go.Proofs.Ytkllpdekkhhhnaa.M
open Go.RowKit Go.Proofs.YtkllpdekkhhhnaaW.PrintWords Go.Proofs.YtkllpdekkhhhnaaW.PrintLast Go.Proofs.YtkllpdekkhhhnaaW.PrintMore
attribute [local go_sem] max2_int min2_int max_two min_two max_three min_three max_four min_four   -- for this text's walks alone
set_option linter.unusedVariables false
set_option linter.unusedSimpArgs false

/-! ### laws_FnExactSeenOf: function 3 -/
def laws_FnExactSeenOf.j0 : Nat → Bool → Int → Int → List (S29) → Int → Int → List (S30) → Option (Bool)
 | 0, _, _, _, _, _, _, _ => none
 | k + 1, x41, x237000, x237001, x237002, x258000, x258001, x258002 => if x41 = true then (some false) else ((laws_toFixed.f k x237000 x237001 x237002).bind fun bt267 => ((laws_eqFixed.f k x258000 x258001 x258002 bt267.1 bt267.2.1 bt267.2.2).bind fun t272 => (if t272 = true then (some true) else (some false))))
def laws_FnExactSeenOf.f (k : Nat) (a0_0 : Int) (a0_1 : Int) (l0_2 : List (S29)) (a1_0 : Int) (a1_1 : Bool) : Option (Bool) := (laws_szFixed.f a0_0 a0_1 l0_2 1048576).bind fun t238 => (if t238 < 0 then (some true) else ((laws_toFixed.f k a0_0 a0_1 l0_2).bind fun bt239 => ((laws_toCase.f a1_0 a1_1).bind fun bt244 => ((spec_SeenOf.f k bt239.1 bt239.2.1 bt239.2.2 bt244.1 bt244.2).bind fun bt246 => ((laws_toFixed.f k a0_0 a0_1 l0_2).bind fun bt252 => ((laws_toCase.f a1_0 a1_1).bind fun bt258 => ((impl_SeenOf.f k bt252.1 bt252.2.1 bt252.2.2 bt258.1 bt258.2).bind fun bt260 => ((laws_eqWord.f k bt260.1 bt260.2.1 bt260.2.2.1 bt260.2.2.2.1 bt246.1 bt246.2.1 bt246.2.2.1 bt246.2.2.2.1).bind fun t266 => (if t266 = true then (laws_FnExactSeenOf.j0 k (bt260.2.2.2.2 != bt246.2.2.2.2) a0_0 a0_1 l0_2 bt252.1 bt252.2.1 bt252.2.2) else (laws_FnExactSeenOf.j0 k true a0_0 a0_1 l0_2 bt252.1 bt252.2.1 bt252.2.2))))))))))
theorem laws_FnExactSeenOf.mono_l : ∀ k, (∀ y0 y1 y2 y3 y4 y5 y6, LeO (laws_FnExactSeenOf.j0 k y0 y1 y2 y3 y4 y5 y6) (laws_FnExactSeenOf.j0 (k + 1) y0 y1 y2 y3 y4 y5 y6))
 | 0 => fun _ _ _ _ _ _ _ r h => by simp [laws_FnExactSeenOf.j0] at h
 | k + 1 => by
  have ih0 := laws_FnExactSeenOf.mono_l k
  ·intro y0 y1 y2 y3 y4 y5 y6
   unfold laws_FnExactSeenOf.j0
   repeat' first
   | (with_reducible exact ih0 _ _ _ _ _ _ _)
   | (with_reducible exact impl_SeenOf.mono _ _ _ _ _ _)
   | (with_reducible exact laws_eqFixed.mono _ _ _ _ _ _ _)
   | (with_reducible exact laws_eqWord.mono _ _ _ _ _ _ _ _ _)
   | (with_reducible exact laws_toFixed.mono _ _ _ _)
   | (with_reducible exact spec_SeenOf.mono _ _ _ _ _ _)
   | (with_reducible exact LeO.refl _)
   | (with_reducible exact LeO.none _)
   | (with_reducible refine LeO.ite ?_ ?_)
   | (with_reducible refine LeO.bind ?_ (fun _ => ?_))
   | exact ih0 _ _ _ _ _ _ _
   | exact impl_SeenOf.mono _ _ _ _ _ _
   | exact laws_eqFixed.mono _ _ _ _ _ _ _
   | exact laws_eqWord.mono _ _ _ _ _ _ _ _ _
   | exact laws_toFixed.mono _ _ _ _
   | exact spec_SeenOf.mono _ _ _ _ _ _
   | exact LeO.none _
   | refine LeO.ite ?_ ?_
   | refine LeO.bind ?_ (fun _ => ?_)
theorem laws_FnExactSeenOf.mono : ∀ a0 a1 a2 a3 a4 k, LeO (laws_FnExactSeenOf.f k a0 a1 a2 a3 a4) (laws_FnExactSeenOf.f (k + 1) a0 a1 a2 a3 a4) := by
 intro a0 a1 a2 a3 a4 k
 have ih0 := laws_FnExactSeenOf.mono_l k
 unfold laws_FnExactSeenOf.f
 repeat' first
   | (with_reducible exact ih0 _ _ _ _ _ _ _)
   | (with_reducible exact impl_SeenOf.mono _ _ _ _ _ _)
   | (with_reducible exact laws_eqFixed.mono _ _ _ _ _ _ _)
   | (with_reducible exact laws_eqWord.mono _ _ _ _ _ _ _ _ _)
   | (with_reducible exact laws_toFixed.mono _ _ _ _)
   | (with_reducible exact spec_SeenOf.mono _ _ _ _ _ _)
   | (with_reducible exact LeO.refl _)
   | (with_reducible exact LeO.none _)
   | (with_reducible refine LeO.ite ?_ ?_)
   | (with_reducible refine LeO.bind ?_ (fun _ => ?_))
   | exact ih0 _ _ _ _ _ _ _
   | exact impl_SeenOf.mono _ _ _ _ _ _
   | exact laws_eqFixed.mono _ _ _ _ _ _ _
   | exact laws_eqWord.mono _ _ _ _ _ _ _ _ _
   | exact laws_toFixed.mono _ _ _ _
   | exact spec_SeenOf.mono _ _ _ _ _ _
   | exact LeO.none _
   | refine LeO.ite ?_ ?_
   | refine LeO.bind ?_ (fun _ => ?_)
def laws_FnExactSeenOf.T5 : Bool × List (List Nat × List Nat) := (true, [([], []), ([0], [0]), ([], []), ([2, 1], [2]), ([1, 3, 3], [1, 3]), ([4], [4]), ([5], [5]), ([5], [5]), ([], []), ([8, 6, 4, 0, 1, 2, 3, 4, 5, 6, 8], [6, 8]), ([7, 9, 0, 1, 2, 3, 4, 5, 6, 7, 8, 9], [7])])
def laws_FnExactSeenOf.B5 : List Nat := [0, 1, 0, 7, 15, 31, 63, 63, 0, 383, 1023]
theorem laws_FnExactSeenOf.tab5 : rtab .any (opsOf Try.f3 5) = laws_FnExactSeenOf.T5 := by kernel_rfl
theorem laws_FnExactSeenOf.bits5 : waitsOk laws_FnExactSeenOf.T5.2 laws_FnExactSeenOf.B5 = true := by kernel_rfl
def laws_FnExactSeenOf.T7 : Bool × List (List Nat × List Nat) := (true, [([], []), ([], []), ([1], [1]), ([0, 2, 2], [0, 2]), ([3], [3]), ([4], [4]), ([4], [4]), ([], []), ([7, 5, 3, 0, 1, 2, 3, 4, 5, 7], [5, 7]), ([6, 8, 0, 1, 2, 3, 4, 5, 6, 7, 8], [6])])
def laws_FnExactSeenOf.B7 : List Nat := [0, 0, 2, 7, 15, 31, 31, 0, 191, 511]
theorem laws_FnExactSeenOf.tab7 : rtab .any (opsOf Try.f3 7) = laws_FnExactSeenOf.T7 := by kernel_rfl
theorem laws_FnExactSeenOf.bits7 : waitsOk laws_FnExactSeenOf.T7.2 laws_FnExactSeenOf.B7 = true := by kernel_rfl
set_option maxHeartbeats 8000000 in
set_option maxRecDepth 100000 in
theorem laws_FnExactSeenOf.calls (k : Nat) (a0_0 : Int) (a0_1 : Int) (A0_2 : Option Addr) (c0_2 : Nat) (l0_2 : List (S29)) (a1_0 : Int) (a1_1 : Bool) (r : Bool) (w : World) (hr0_2 : Kd.C k29 w A0_2 l0_2.length l0_2) (hc0_2 : l0_2.length ≤ c0_2) (h : laws_FnExactSeenOf.f k a0_0 a0_1 l0_2 a1_0 a1_1 = some r) :
  Calls Try.prog 3 #[.agg #[.int .i8 a0_0, .int .i8 a0_1, .slice A0_2 l0_2.length c0_2], .agg #[.int .i8 a1_0, .bool a1_1]] w fun e w' => e = .returned (.bool r) ∧ Below w.heap.size w w' := by
 have hu25 := Try.underlying25
 have hu27 := Try.underlying27
 have hu30 := Try.underlying30
 have hu35 := Try.underlying35
 have HR0_2 := Aside0.mk hr0_2
 have HC0_2 := Aside0.mk hc0_2
 clear hr0_2 hc0_2
 have HB := Aside0.mk (Below.refl w.heap.size w)
 have H : ((laws_szFixed.f a0_0 a0_1 l0_2 1048576).bind fun t238 => (if t238 < 0 then (some true) else ((laws_toFixed.f k a0_0 a0_1 l0_2).bind fun bt239 => ((laws_toCase.f a1_0 a1_1).bind fun bt244 => ((spec_SeenOf.f k bt239.1 bt239.2.1 bt239.2.2 bt244.1 bt244.2).bind fun bt246 => ((laws_toFixed.f k a0_0 a0_1 l0_2).bind fun bt252 => ((laws_toCase.f a1_0 a1_1).bind fun bt258 => ((impl_SeenOf.f k bt252.1 bt252.2.1 bt252.2.2 bt258.1 bt258.2).bind fun bt260 => ((laws_eqWord.f k bt260.1 bt260.2.1 bt260.2.2.1 bt260.2.2.2.1 bt246.1 bt246.2.1 bt246.2.2.1 bt246.2.2.2.1).bind fun t266 => (if t266 = true then (laws_FnExactSeenOf.j0 k (bt260.2.2.2.2 != bt246.2.2.2.2) a0_0 a0_1 l0_2 bt252.1 bt252.2.1 bt252.2.2) else (laws_FnExactSeenOf.j0 k true a0_0 a0_1 l0_2 bt252.1 bt252.2.1 bt252.2.2))))))))))) = some r := h
 clear h
 replace H := Option.bind_eq_some_iff.mp H
 obtain ⟨t238, A30, H⟩ := H
 replace H : (if t238 < 0 then (some true) else ((laws_toFixed.f k a0_0 a0_1 l0_2).bind fun bt239 => ((laws_toCase.f a1_0 a1_1).bind fun bt244 => ((spec_SeenOf.f k bt239.1 bt239.2.1 bt239.2.2 bt244.1 bt244.2).bind fun bt246 => ((laws_toFixed.f k a0_0 a0_1 l0_2).bind fun bt252 => ((laws_toCase.f a1_0 a1_1).bind fun bt258 => ((impl_SeenOf.f k bt252.1 bt252.2.1 bt252.2.2 bt258.1 bt258.2).bind fun bt260 => ((laws_eqWord.f k bt260.1 bt260.2.1 bt260.2.2.1 bt260.2.2.2.1 bt246.1 bt246.2.1 bt246.2.2.1 bt246.2.2.2.1).bind fun t266 => (if t266 = true then (laws_FnExactSeenOf.j0 k (bt260.2.2.2.2 != bt246.2.2.2.2) a0_0 a0_1 l0_2 bt252.1 bt252.2.1 bt252.2.2) else (laws_FnExactSeenOf.j0 k true a0_0 a0_1 l0_2 bt252.1 bt252.2.1 bt252.2.2)))))))))) = some r := H
 have A3 := Aside0.mk A30
 clear A30
 by_cases c4 : t238 < 0
 ·rw [if_pos c4] at H
  have c4b0 : decide (t238 < 0) = true := decide_eq_true c4
  clear c4
  obtain rfl := Option.some.inj H
  go_enter Try.func3, Try.ntmps3
  go_wp2_with (first | ((with_reducible refine gate_dst (N := 2) rfl ?_); refine box_event ?hg (N := 2) ?hd (cs := #[.int .i8 a0_0, .int .i8 a0_1, .slice A0_2 l0_2.length c0_2]) (t := 25) ?hr ?_; (case hd => rfl); (case hg => rfl); (case hr => first | (go_simp; done) | (go_simp; rfl)); intro gb236 hg w5 hbox hb; have n0_ := Aside0.mk (below_step (by repeat (first | (with_reducible first | exact HB.out | apply below_alloc | apply pw_below_drewN | apply below_drew1) | exact HB.out)) hb); have n1_ := Aside0.mk (hbox); have n2_ := Aside0.mk ((by rw [hg]; exact (below_size (by repeat (first | (with_reducible first | exact HB.out | apply below_alloc | apply pw_below_drewN | apply below_drew1) | exact HB.out))) : w.heap.size ≤ gb236)); have n3_ := Aside0.mk ((by rw [hg]; exact (below_size (by repeat (first | (with_reducible first | exact HB.out | apply below_alloc | apply pw_below_drewN | apply below_drew1) | exact HB.out))) : w.heap.size ≤ gb236)); clear HB; have HB := n0_; have BK236 := n1_; have GW236 := n2_; have GE236 := n3_; clear n0_ n1_ n2_ n3_; clear hb hbox hg) | ((with_reducible refine gate_dst (N := 3) rfl ?_); refine box_event ?hg (N := 3) ?hd (cs := #[.int .i8 a1_0, .bool a1_1]) (t := 27) ?hr ?_; (case hd => rfl); (case hg => rfl); (case hr => first | (go_simp; done) | (go_simp; rfl)); intro gb237 hg w6 hbox hb; have n0_ := Aside0.mk (blk_below (g := gb236) (o := .cells #[.int .i8 a0_0, .int .i8 a0_1, .slice A0_2 l0_2.length c0_2] 25 (0, 0)) (by (with_reducible repeat (first | refine blk_drewN ?_ _ | refine blk_drew ?_ | refine blk_alloc ?_ _)); exact BK236.out) hb); have n1_ := Aside0.mk (below_step (by repeat (first | (with_reducible first | exact HB.out | apply below_alloc | apply pw_below_drewN | apply below_drew1 | refine below_set ?_ GE236.out) | exact HB.out)) hb); have n2_ := Aside0.mk (hbox); have n3_ := Aside0.mk ((by rw [hg]; exact (below_size (by repeat (first | (with_reducible first | exact HB.out | apply below_alloc | apply pw_below_drewN | apply below_drew1 | refine below_set ?_ GE236.out) | exact HB.out))) : w.heap.size ≤ gb237)); have n4_ := Aside0.mk ((by rw [hg]; exact (below_size (by repeat (first | (with_reducible first | exact HB.out | apply below_alloc | apply pw_below_drewN | apply below_drew1 | refine below_set ?_ GE236.out) | exact HB.out))) : w.heap.size ≤ gb237)); have n5_ := Aside0.mk ((by rw [hg]; exact Nat.ne_of_lt (blk_lt (g := gb236) (o := .cells #[.int .i8 a0_0, .int .i8 a0_1, .slice A0_2 l0_2.length c0_2] 25 (0, 0)) (by (with_reducible repeat (first | refine blk_drewN ?_ _ | refine blk_drew ?_ | refine blk_alloc ?_ _)); exact BK236.out)) : gb236 ≠ gb237)); have n6_ := Aside0.mk ((by rw [hg]; exact Nat.ne_of_gt (blk_lt (g := gb236) (o := .cells #[.int .i8 a0_0, .int .i8 a0_1, .slice A0_2 l0_2.length c0_2] 25 (0, 0)) (by (with_reducible repeat (first | refine blk_drewN ?_ _ | refine blk_drew ?_ | refine blk_alloc ?_ _)); exact BK236.out)) : gb237 ≠ gb236)); clear BK236; clear HB; have BK236 := n0_; have HB := n1_; have BK237 := n2_; have GW237 := n3_; have GE237 := n4_; have NB236_237 := n5_; have NB237_236 := n6_; clear n0_ n1_ n2_ n3_ n4_ n5_ n6_; clear hb hbox hg; have hnb7 := NB236_237.out; have hnc7 := NB237_236.out; have hcz8_0 : w6.cell? ⟨gb236, 0, none⟩ = some (.int .i8 a0_0) := (blk_cell BK236.out 0).trans rfl; have hcz8_1 : w6.cell? ⟨gb236, 1, none⟩ = some (.int .i8 a0_1) := (blk_cell BK236.out 1).trans rfl; have hcz8_2 : w6.cell? ⟨gb236, 2, none⟩ = some (.slice A0_2 l0_2.length c0_2) := (blk_cell BK236.out 2).trans rfl; have hfz8_0 := blk_frozen BK236.out 0; have hfz8_1 := blk_frozen BK236.out 1; have hfz8_2 := blk_frozen BK236.out 2) | ((with_reducible refine gate_callee (f := 9) rfl ?_); refine goesL_ (some 13) rfl rfl Try.func9 (by kernel_rfl) rfl #[.agg #[.int .i8 a0_0, .int .i8 a0_1, .slice A0_2 l0_2.length c0_2], .int .i64 1048576] rfl (by (try simp only [List.map_toArray, List.map_cons, List.map_nil]); first | done | rfl | (simp only [List.length_drop, List.length_take]; rfl)) ?_; (with_reducible refine (laws_szFixed.calls a0_0 a0_1 _ _ l0_2 1048576 t238 _ ?side1 ?side2 A3.out).mono ?_); (case side1 => repeat (first | exact (Kd.C_below HR0_2.out HB.out) | (with_reducible refine Kd.C_alloc ?_ _) | (with_reducible refine Kd.C_drewN ?_ _) | (with_reducible refine Kd.C_drew ?_))); (case side2 => exact HC0_2.out); rintro e w9 ⟨rfl, hb⟩; refine ⟨_, rfl, ?_⟩; have n0_ := Aside0.mk (blk_below (g := gb236) (o := .cells #[.int .i8 a0_0, .int .i8 a0_1, .slice A0_2 l0_2.length c0_2] 25 (0, 0)) (by (with_reducible repeat (first | refine blk_drewN ?_ _ | refine blk_drew ?_ | refine blk_alloc ?_ _)); exact BK236.out) hb); have n1_ := Aside0.mk (blk_below (g := gb237) (o := .cells #[.int .i8 a1_0, .bool a1_1] 27 (0, 0)) (by (with_reducible repeat (first | refine blk_drewN ?_ _ | refine blk_drew ?_ | refine blk_alloc ?_ _)); exact BK237.out) hb); have n2_ := Aside0.mk (below_step (by repeat (first | (with_reducible first | exact HB.out | apply below_alloc | apply pw_below_drewN | apply below_drew1 | refine below_set ?_ GE236.out | refine below_set ?_ GE237.out) | exact HB.out)) hb); clear BK236; clear BK237; clear HB; have BK236 := n0_; have BK237 := n1_; have HB := n2_; clear n0_ n1_ n2_; (try clear hb); (try clear hb2); (try clear hk); (try clear hi)))
  go_ret
  exact ⟨by first | rfl | (simp [errW_none, errW_some] <;> rfl) | (simp [*, errW_none, errW_some] <;> rfl), by repeat (first | (with_reducible first | exact HB.out | apply below_alloc | apply pw_below_drewN | apply below_drew1 | refine below_set ?_ GE236.out | refine below_set ?_ GE237.out) | exact HB.out)⟩
 ·rw [if_neg c4] at H
  have c4b0 : decide (t238 < 0) = false := decide_eq_false c4
  clear c4
  replace H := Option.bind_eq_some_iff.mp H
  obtain ⟨⟨t239, t240, t241⟩, A100, H⟩ := H
  replace H : ((laws_toCase.f a1_0 a1_1).bind fun bt244 => ((spec_SeenOf.f k t239 t240 t241 bt244.1 bt244.2).bind fun bt246 => ((laws_toFixed.f k a0_0 a0_1 l0_2).bind fun bt252 => ((laws_toCase.f a1_0 a1_1).bind fun bt258 => ((impl_SeenOf.f k bt252.1 bt252.2.1 bt252.2.2 bt258.1 bt258.2).bind fun bt260 => ((laws_eqWord.f k bt260.1 bt260.2.1 bt260.2.2.1 bt260.2.2.2.1 bt246.1 bt246.2.1 bt246.2.2.1 bt246.2.2.2.1).bind fun t266 => (if t266 = true then (laws_FnExactSeenOf.j0 k (bt260.2.2.2.2 != bt246.2.2.2.2) a0_0 a0_1 l0_2 bt252.1 bt252.2.1 bt252.2.2) else (laws_FnExactSeenOf.j0 k true a0_0 a0_1 l0_2 bt252.1 bt252.2.1 bt252.2.2)))))))) = some r := H
  have A10 := Aside0.mk A100
  clear A100
  replace H := Option.bind_eq_some_iff.mp H
  obtain ⟨⟨t244, t245⟩, A110, H⟩ := H
  replace H : ((spec_SeenOf.f k t239 t240 t241 t244 t245).bind fun bt246 => ((laws_toFixed.f k a0_0 a0_1 l0_2).bind fun bt252 => ((laws_toCase.f a1_0 a1_1).bind fun bt258 => ((impl_SeenOf.f k bt252.1 bt252.2.1 bt252.2.2 bt258.1 bt258.2).bind fun bt260 => ((laws_eqWord.f k bt260.1 bt260.2.1 bt260.2.2.1 bt260.2.2.2.1 bt246.1 bt246.2.1 bt246.2.2.1 bt246.2.2.2.1).bind fun t266 => (if t266 = true then (laws_FnExactSeenOf.j0 k (bt260.2.2.2.2 != bt246.2.2.2.2) a0_0 a0_1 l0_2 bt252.1 bt252.2.1 bt252.2.2) else (laws_FnExactSeenOf.j0 k true a0_0 a0_1 l0_2 bt252.1 bt252.2.1 bt252.2.2))))))) = some r := H
  have A11 := Aside0.mk A110
  clear A110
  replace H := Option.bind_eq_some_iff.mp H
  obtain ⟨⟨t246, t247, t248, t249, t250⟩, A120, H⟩ := H
  replace H : ((laws_toFixed.f k a0_0 a0_1 l0_2).bind fun bt252 => ((laws_toCase.f a1_0 a1_1).bind fun bt258 => ((impl_SeenOf.f k bt252.1 bt252.2.1 bt252.2.2 bt258.1 bt258.2).bind fun bt260 => ((laws_eqWord.f k bt260.1 bt260.2.1 bt260.2.2.1 bt260.2.2.2.1 t246 t247 t248 t249).bind fun t266 => (if t266 = true then (laws_FnExactSeenOf.j0 k (bt260.2.2.2.2 != t250) a0_0 a0_1 l0_2 bt252.1 bt252.2.1 bt252.2.2) else (laws_FnExactSeenOf.j0 k true a0_0 a0_1 l0_2 bt252.1 bt252.2.1 bt252.2.2)))))) = some r := H
  have A12 := Aside0.mk A120
  clear A120
  replace H := Option.bind_eq_some_iff.mp H
  obtain ⟨⟨t252, t253, t254⟩, A130, H⟩ := H
  replace H : ((laws_toCase.f a1_0 a1_1).bind fun bt258 => ((impl_SeenOf.f k t252 t253 t254 bt258.1 bt258.2).bind fun bt260 => ((laws_eqWord.f k bt260.1 bt260.2.1 bt260.2.2.1 bt260.2.2.2.1 t246 t247 t248 t249).bind fun t266 => (if t266 = true then (laws_FnExactSeenOf.j0 k (bt260.2.2.2.2 != t250) a0_0 a0_1 l0_2 t252 t253 t254) else (laws_FnExactSeenOf.j0 k true a0_0 a0_1 l0_2 t252 t253 t254))))) = some r := H
  have A13 := Aside0.mk A130
  clear A130
  replace H := Option.bind_eq_some_iff.mp H
  obtain ⟨⟨t258, t259⟩, A140, H⟩ := H
  replace H : ((impl_SeenOf.f k t252 t253 t254 t258 t259).bind fun bt260 => ((laws_eqWord.f k bt260.1 bt260.2.1 bt260.2.2.1 bt260.2.2.2.1 t246 t247 t248 t249).bind fun t266 => (if t266 = true then (laws_FnExactSeenOf.j0 k (bt260.2.2.2.2 != t250) a0_0 a0_1 l0_2 t252 t253 t254) else (laws_FnExactSeenOf.j0 k true a0_0 a0_1 l0_2 t252 t253 t254)))) = some r := H
  have A14 := Aside0.mk A140
  clear A140
  replace H := Option.bind_eq_some_iff.mp H
  obtain ⟨⟨t260, t261, t262, t263, t264⟩, A150, H⟩ := H
  replace H : ((laws_eqWord.f k t260 t261 t262 t263 t246 t247 t248 t249).bind fun t266 => (if t266 = true then (laws_FnExactSeenOf.j0 k (t264 != t250) a0_0 a0_1 l0_2 t252 t253 t254) else (laws_FnExactSeenOf.j0 k true a0_0 a0_1 l0_2 t252 t253 t254))) = some r := H
  have A15 := Aside0.mk A150
  clear A150
  have HC16 := Aside0.mk H
  clear H
  go_enter Try.func3, Try.ntmps3
  try go_wp2_with (first | ((with_reducible refine gate_dst (N := 2) rfl ?_); refine box_event ?hg (N := 2) ?hd (cs := #[.int .i8 a0_0, .int .i8 a0_1, .slice A0_2 l0_2.length c0_2]) (t := 25) ?hr ?_; (case hd => rfl); (case hg => rfl); (case hr => first | (go_simp; done) | (go_simp; rfl)); intro gb236 hg w17 hbox hb; have n0_ := Aside0.mk (below_step (by repeat (first | (with_reducible first | exact HB.out | apply below_alloc | apply pw_below_drewN | apply below_drew1) | exact HB.out)) hb); have n1_ := Aside0.mk (hbox); have n2_ := Aside0.mk ((by rw [hg]; exact (below_size (by repeat (first | (with_reducible first | exact HB.out | apply below_alloc | apply pw_below_drewN | apply below_drew1) | exact HB.out))) : w.heap.size ≤ gb236)); have n3_ := Aside0.mk ((by rw [hg]; exact (below_size (by repeat (first | (with_reducible first | exact HB.out | apply below_alloc | apply pw_below_drewN | apply below_drew1) | exact HB.out))) : w.heap.size ≤ gb236)); clear HB; have HB := n0_; have BK236 := n1_; have GW236 := n2_; have GE236 := n3_; clear n0_ n1_ n2_ n3_; clear hb hbox hg) | ((with_reducible refine gate_dst (N := 3) rfl ?_); refine box_event ?hg (N := 3) ?hd (cs := #[.int .i8 a1_0, .bool a1_1]) (t := 27) ?hr ?_; (case hd => rfl); (case hg => rfl); (case hr => first | (go_simp; done) | (go_simp; rfl)); intro gb237 hg w18 hbox hb; have n0_ := Aside0.mk (blk_below (g := gb236) (o := .cells #[.int .i8 a0_0, .int .i8 a0_1, .slice A0_2 l0_2.length c0_2] 25 (0, 0)) (by (with_reducible repeat (first | refine blk_drewN ?_ _ | refine blk_drew ?_ | refine blk_alloc ?_ _)); exact BK236.out) hb); have n1_ := Aside0.mk (below_step (by repeat (first | (with_reducible first | exact HB.out | apply below_alloc | apply pw_below_drewN | apply below_drew1 | refine below_set ?_ GE236.out) | exact HB.out)) hb); have n2_ := Aside0.mk (hbox); have n3_ := Aside0.mk ((by rw [hg]; exact (below_size (by repeat (first | (with_reducible first | exact HB.out | apply below_alloc | apply pw_below_drewN | apply below_drew1 | refine below_set ?_ GE236.out) | exact HB.out))) : w.heap.size ≤ gb237)); have n4_ := Aside0.mk ((by rw [hg]; exact (below_size (by repeat (first | (with_reducible first | exact HB.out | apply below_alloc | apply pw_below_drewN | apply below_drew1 | refine below_set ?_ GE236.out) | exact HB.out))) : w.heap.size ≤ gb237)); have n5_ := Aside0.mk ((by rw [hg]; exact Nat.ne_of_lt (blk_lt (g := gb236) (o := .cells #[.int .i8 a0_0, .int .i8 a0_1, .slice A0_2 l0_2.length c0_2] 25 (0, 0)) (by (with_reducible repeat (first | refine blk_drewN ?_ _ | refine blk_drew ?_ | refine blk_alloc ?_ _)); exact BK236.out)) : gb236 ≠ gb237)); have n6_ := Aside0.mk ((by rw [hg]; exact Nat.ne_of_gt (blk_lt (g := gb236) (o := .cells #[.int .i8 a0_0, .int .i8 a0_1, .slice A0_2 l0_2.length c0_2] 25 (0, 0)) (by (with_reducible repeat (first | refine blk_drewN ?_ _ | refine blk_drew ?_ | refine blk_alloc ?_ _)); exact BK236.out)) : gb237 ≠ gb236)); clear BK236; clear HB; have BK236 := n0_; have HB := n1_; have BK237 := n2_; have GW237 := n3_; have GE237 := n4_; have NB236_237 := n5_; have NB237_236 := n6_; clear n0_ n1_ n2_ n3_ n4_ n5_ n6_; clear hb hbox hg; have hnb19 := NB236_237.out; have hnc19 := NB237_236.out; have hcz20_0 : w18.cell? ⟨gb236, 0, none⟩ = some (.int .i8 a0_0) := (blk_cell BK236.out 0).trans rfl; have hcz20_1 : w18.cell? ⟨gb236, 1, none⟩ = some (.int .i8 a0_1) := (blk_cell BK236.out 1).trans rfl; have hcz20_2 : w18.cell? ⟨gb236, 2, none⟩ = some (.slice A0_2 l0_2.length c0_2) := (blk_cell BK236.out 2).trans rfl; have hfz20_0 := blk_frozen BK236.out 0; have hfz20_1 := blk_frozen BK236.out 1; have hfz20_2 := blk_frozen BK236.out 2) | ((with_reducible refine gate_callee (f := 9) rfl ?_); refine goesL_ (some 13) rfl rfl Try.func9 (by kernel_rfl) rfl #[.agg #[.int .i8 a0_0, .int .i8 a0_1, .slice A0_2 l0_2.length c0_2], .int .i64 1048576] rfl (by (try simp only [List.map_toArray, List.map_cons, List.map_nil]); first | done | rfl | (simp only [List.length_drop, List.length_take]; rfl)) ?_; (with_reducible refine (laws_szFixed.calls a0_0 a0_1 _ _ l0_2 1048576 t238 _ ?side1 ?side2 A3.out).mono ?_); (case side1 => repeat (first | exact (Kd.C_below HR0_2.out HB.out) | (with_reducible refine Kd.C_alloc ?_ _) | (with_reducible refine Kd.C_drewN ?_ _) | (with_reducible refine Kd.C_drew ?_))); (case side2 => exact HC0_2.out); rintro e w21 ⟨rfl, hb⟩; refine ⟨_, rfl, ?_⟩; have n0_ := Aside0.mk (blk_below (g := gb236) (o := .cells #[.int .i8 a0_0, .int .i8 a0_1, .slice A0_2 l0_2.length c0_2] 25 (0, 0)) (by (with_reducible repeat (first | refine blk_drewN ?_ _ | refine blk_drew ?_ | refine blk_alloc ?_ _)); exact BK236.out) hb); have n1_ := Aside0.mk (blk_below (g := gb237) (o := .cells #[.int .i8 a1_0, .bool a1_1] 27 (0, 0)) (by (with_reducible repeat (first | refine blk_drewN ?_ _ | refine blk_drew ?_ | refine blk_alloc ?_ _)); exact BK237.out) hb); have n2_ := Aside0.mk (below_step (by repeat (first | (with_reducible first | exact HB.out | apply below_alloc | apply pw_below_drewN | apply below_drew1 | refine below_set ?_ GE236.out | refine below_set ?_ GE237.out) | exact HB.out)) hb); clear BK236; clear BK237; clear HB; have BK236 := n0_; have BK237 := n1_; have HB := n2_; clear n0_ n1_ n2_; (try clear hb); (try clear hb2); (try clear hk); (try clear hi)))
  have n0_ := Aside0.mk (blk_drew BK236.out)
  have n1_ := Aside0.mk (blk_drew BK237.out)
  have n2_ := Aside0.mk (below_drew1 HB.out)
  clear BK236
  clear BK237
  clear HB
  have BK236 := n0_
  have BK237 := n1_
  have HB := n2_
  clear n0_ n1_ n2_
  refine start_ (n := 11) (S := fun w' => w'.cell? ⟨gb236, 0, none⟩ = some (.int .i8 a0_0) ∧ w'.cell? ⟨gb236, 1, none⟩ = some (.int .i8 a0_1) ∧ w'.cell? ⟨gb236, 2, none⟩ = some (.slice A0_2 l0_2.length c0_2) ∧ w'.cell? ⟨gb237, 0, none⟩ = some (.int .i8 a1_0) ∧ w'.cell? ⟨gb237, 1, none⟩ = some (.bool a1_1)) (ds := []) #[false, false, false, false, false, false, false, false, false, false, false] (by kernel_rfl) rfl rfl ⟨(blk_cell BK236.out 0).trans rfl, (blk_cell BK236.out 1).trans rfl, (blk_cell BK236.out 2).trans rfl, (blk_cell BK237.out 0).trans rfl, (blk_cell BK237.out 1).trans rfl⟩ (fun hHeld => ?_); refine with_tabW laws_FnExactSeenOf.tab5 laws_FnExactSeenOf.bits5 (fun HT_ HW_ => ?_)
  generalize w21.drew = w22 at BK236 BK237 HB hHeld ⊢
  refine take_ (i := 0) (N := some 17) (v := ?_) (a' := ?_) #[true, false, false, false, false, false, false, false, false, false, false] rfl rfl (take_ofW HT_.out HW_.out (by kernel_rfl)) (fun _ _ _ h => h) (Or.inl ⟨by rfl, ?_⟩) hHeld ?_ ?_
  rotate_left
  ·rintro w' ⟨s0, s1, s2, s3, s4⟩
   go_simp
   with_reducible rfl
  rotate_left
  ·simp only [Act.put, List.setIfInBounds_toArray, List.set_cons_zero, List.set_cons_succ, i64_w, i32_w]
   rfl
  refine take_ (i := 2) (N := some 19) (v := ?_) (a' := ?_) #[true, false, true, false, false, false, false, false, false, false, false] rfl rfl (take_ofW HT_.out HW_.out (by kernel_rfl)) (fun _ _ _ h => h) (Or.inl ⟨by rfl, ?_⟩) hHeld ?_ ?_
  rotate_left
  ·rintro w' ⟨s0, s1, s2, s3, s4⟩
   go_simp
   with_reducible rfl
  rotate_left
  ·simp only [Act.put, List.setIfInBounds_toArray, List.set_cons_zero, List.set_cons_succ, i64_w, i32_w]
   rfl
  refine join_ (σ := Value × Nat) 2 #[true, true, true, true, true, true, true, true, true, false, false] (fun s_ => [(18, .agg #[.int .i8 t239, .int .i8 t240, s_.1]), (20, .agg #[.int .i8 t244, .bool t245]), (21, .tuple #[.agg #[.int .i8 t246, .int .i8 t247, .int .i8 t248, .int .i8 t249], .int .i64 t250]), (6, .pointer (some ⟨s_.2, 0, none⟩)), (16, .tuple #[.agg #[.int .i8 t246, .int .i8 t247, .int .i8 t248, .int .i8 t249], .int .i64 t250]), (22, .agg #[.int .i8 t246, .int .i8 t247, .int .i8 t248, .int .i8 t249]), (23, .int .i64 t250)]) (fun s_ w' => (w'.cell? ⟨gb236, 0, none⟩ = some (.int .i8 a0_0) ∧ w'.cell? ⟨gb236, 1, none⟩ = some (.int .i8 a0_1) ∧ w'.cell? ⟨gb236, 2, none⟩ = some (.slice A0_2 l0_2.length c0_2) ∧ w'.cell? ⟨gb237, 0, none⟩ = some (.int .i8 a1_0) ∧ w'.cell? ⟨gb237, 1, none⟩ = some (.bool a1_1)) ∧ (Kd.R k30 30 w' w.heap.size (fun k_ => k_ ≠ s_.2) s_.1 t241) ∧ (w'.heap[gb236]? = some (.cells #[.int .i8 a0_0, .int .i8 a0_1, .slice A0_2 l0_2.length c0_2] 25 (0, 0))) ∧ (w'.heap[gb237]? = some (.cells #[.int .i8 a1_0, .bool a1_1] 27 (0, 0))) ∧ (w'.heap[s_.2]? = some (.cells #[.int .i8 0, .int .i8 0, .int .i8 0, .int .i8 0] 30 (0, 0))) ∧ (w.heap.size ≤ s_.2) ∧ (w.heap.size ≤ s_.2) ∧ (gb236 ≠ s_.2) ∧ (s_.2 ≠ gb236) ∧ (gb237 ≠ s_.2) ∧ (s_.2 ≠ gb237) ∧ (Below w.heap.size w w')) ?_ ?_
  rotate_left
  ·intro hCont
   refine two_ (i := 1) (j := 8) (Ni := some 18) (Nj := some 6) #[true, true, true, false, false, false, false, false, false, false, false] #[true, false, true, false, false, false, false, false, true, false, false] rfl rfl rfl rfl (two_of HT_.out (by kernel_rfl)) (by decide) (by decide) (fun K hK => ?_) (fun K hK => ?_)
   ·skip
    refine goes_ Try.func11 (by kernel_rfl) rfl #[.agg #[.int .i8 a0_0, .int .i8 a0_1, .slice A0_2 l0_2.length c0_2]] (by rfl) rfl rfl (by (try simp only [List.map_toArray, List.map_cons, List.map_nil]); first | done | rfl | (simp only [List.length_drop, List.length_take]; rfl)) ?_
    with_reducible refine (laws_toFixed.calls k a0_0 a0_1 _ _ l0_2 t239 t240 t241 _ ?side1 ?side2 A10.out).mono ?_
    (case side1 => repeat (first | exact (Kd.C_below HR0_2.out HB.out) | (with_reducible refine Kd.C_alloc ?_ _) | (with_reducible refine Kd.C_drewN ?_ _) | (with_reducible refine Kd.C_drew ?_)))
    (case side2 => exact HC0_2.out)
    rintro e w23 ⟨v242, rfl, ho0, hb⟩
    refine ⟨_, rfl, ?_⟩
    have n0_ := Aside0.mk (Kd.R_lower ho0 (below_size (by repeat (first | (with_reducible first | exact HB.out | apply below_alloc | apply pw_below_drewN | apply below_drew1 | refine below_set ?_ GE236.out | refine below_set ?_ GE237.out) | exact HB.out))))
    have n1_ := Aside0.mk (blk_below (g := gb236) (o := .cells #[.int .i8 a0_0, .int .i8 a0_1, .slice A0_2 l0_2.length c0_2] 25 (0, 0)) (by (with_reducible repeat (first | refine blk_drewN ?_ _ | refine blk_drew ?_ | refine blk_alloc ?_ _)); exact BK236.out) hb)
    have n2_ := Aside0.mk (blk_below (g := gb237) (o := .cells #[.int .i8 a1_0, .bool a1_1] 27 (0, 0)) (by (with_reducible repeat (first | refine blk_drewN ?_ _ | refine blk_drew ?_ | refine blk_alloc ?_ _)); exact BK237.out) hb)
    have n3_ := Aside0.mk (below_step (by repeat (first | (with_reducible first | exact HB.out | apply below_alloc | apply pw_below_drewN | apply below_drew1 | refine below_set ?_ GE236.out | refine below_set ?_ GE237.out) | exact HB.out)) hb)
    clear BK236
    clear BK237
    clear HB
    have HO243 := n0_
    have BK236 := n1_
    have BK237 := n2_
    have HB := n3_
    clear n0_ n1_ n2_ n3_
    (try clear hb)
    (try clear hb2)
    (try clear hk)
    (try clear hi)
    (try clear ho0)
    refine hK.out _ _ ⟨(blk_cell BK236.out 0).trans rfl, (blk_cell BK236.out 1).trans rfl, (blk_cell BK236.out 2).trans rfl, (blk_cell BK237.out 0).trans rfl, (blk_cell BK237.out 1).trans rfl⟩ (fun hHeld => ?_)
    clear hK K
    refine norm_ (a' := ?_) ?_ ?_
    rotate_left
    ·show Act.put _ (some 18) _ = _
     simp only [Act.put, List.setIfInBounds_toArray, List.set_cons_zero, List.set_cons_succ, i64_w, i32_w]
     rfl
    refine two_ (i := 3) (j := 8) (Ni := some 20) (Nj := some 6) #[true, true, true, true, false, false, false, false, false, false, false] #[true, true, true, false, false, false, false, false, true, false, false] rfl rfl rfl rfl (two_of HT_.out (by kernel_rfl)) (by decide) (by decide) (fun K hK => ?_) (fun K hK => ?_)
    ·skip
     refine goes_ Try.func12 (by kernel_rfl) rfl #[.agg #[.int .i8 a1_0, .bool a1_1]] (by rfl) rfl rfl (by (try simp only [List.map_toArray, List.map_cons, List.map_nil]); first | done | rfl | (simp only [List.length_drop, List.length_take]; rfl)) ?_
     with_reducible refine (laws_toCase.calls a1_0 a1_1 t244 t245 _ A11.out).mono ?_
     rintro e w24 ⟨rfl, hb⟩
     refine ⟨_, rfl, ?_⟩
     have n0_ := Aside0.mk (Kd.R_below (by (with_reducible repeat (first | apply Kd.R_alloc | apply Kd.R_drewN | apply Kd.R_drew)); exact HO243.out) hb)
     have n1_ := Aside0.mk (blk_below (g := gb236) (o := .cells #[.int .i8 a0_0, .int .i8 a0_1, .slice A0_2 l0_2.length c0_2] 25 (0, 0)) (by (with_reducible repeat (first | refine blk_drewN ?_ _ | refine blk_drew ?_ | refine blk_alloc ?_ _)); exact BK236.out) hb)
     have n2_ := Aside0.mk (blk_below (g := gb237) (o := .cells #[.int .i8 a1_0, .bool a1_1] 27 (0, 0)) (by (with_reducible repeat (first | refine blk_drewN ?_ _ | refine blk_drew ?_ | refine blk_alloc ?_ _)); exact BK237.out) hb)
     have n3_ := Aside0.mk (below_step (by repeat (first | (with_reducible first | exact HB.out | apply below_alloc | apply pw_below_drewN | apply below_drew1 | refine below_set ?_ GE236.out | refine below_set ?_ GE237.out) | exact HB.out)) hb)
     clear HO243
     clear BK236
     clear BK237
     clear HB
     have HO243 := n0_
     have BK236 := n1_
     have BK237 := n2_
     have HB := n3_
     clear n0_ n1_ n2_ n3_
     (try clear hb)
     (try clear hb2)
     (try clear hk)
     (try clear hi)
     obtain ⟨Ao25, co25, eo25⟩ := Kd.R_slice HO243.out
     (first | subst eo25 | (injection eo25 with f1_ f2_ f3_; have f4_ := f1_.symm; have f5_ := f3_.symm; clear f1_ f2_ f3_; subst f4_; subst f5_))
     refine hK.out _ _ ⟨(blk_cell BK236.out 0).trans rfl, (blk_cell BK236.out 1).trans rfl, (blk_cell BK236.out 2).trans rfl, (blk_cell BK237.out 0).trans rfl, (blk_cell BK237.out 1).trans rfl⟩ (fun hHeld => ?_)
     clear hK K
     refine norm_ (a' := ?_) ?_ ?_
     rotate_left
     ·show Act.put _ (some 20) _ = _
      simp only [Act.put, List.setIfInBounds_toArray, List.set_cons_zero, List.set_cons_succ, i64_w, i32_w]
      rfl
     refine two_ (i := 4) (j := 8) (Ni := some 21) (Nj := some 6) #[true, true, true, true, true, false, false, false, false, false, false] #[true, true, true, true, false, false, false, false, true, false, false] rfl rfl rfl rfl (two_of HT_.out (by kernel_rfl)) (by decide) (by decide) (fun K hK => ?_) (fun K hK => ?_)
     ·skip
      refine goes_ Try.func10 (by kernel_rfl) rfl #[.agg #[.int .i8 t239, .int .i8 t240, .slice Ao25 t241.length co25], .agg #[.int .i8 t244, .bool t245]] (by rfl) rfl rfl (by (try simp only [List.map_toArray, List.map_cons, List.map_nil]); first | done | rfl | (simp only [List.length_drop, List.length_take]; rfl)) ?_
      with_reducible refine (spec_SeenOf.calls k t239 t240 _ _ t241 t244 t245 t246 t247 t248 t249 t250 _ ?side1 ?side2 A12.out).mono ?_
      (case side1 => repeat (first | exact (Kd.R_reads' HO243.out).2.2 | (with_reducible refine Kd.C_alloc ?_ _) | (with_reducible refine Kd.C_drewN ?_ _) | (with_reducible refine Kd.C_drew ?_)))
      (case side2 => exact (Kd.R_reads' HO243.out).2.1)
      rintro e w26 ⟨rfl, hb⟩
      refine ⟨_, rfl, ?_⟩
      have n0_ := Aside0.mk (Kd.R_below (by (with_reducible repeat (first | apply Kd.R_alloc | apply Kd.R_drewN | apply Kd.R_drew)); exact HO243.out) hb)
      have n1_ := Aside0.mk (blk_below (g := gb236) (o := .cells #[.int .i8 a0_0, .int .i8 a0_1, .slice A0_2 l0_2.length c0_2] 25 (0, 0)) (by (with_reducible repeat (first | refine blk_drewN ?_ _ | refine blk_drew ?_ | refine blk_alloc ?_ _)); exact BK236.out) hb)
      have n2_ := Aside0.mk (blk_below (g := gb237) (o := .cells #[.int .i8 a1_0, .bool a1_1] 27 (0, 0)) (by (with_reducible repeat (first | refine blk_drewN ?_ _ | refine blk_drew ?_ | refine blk_alloc ?_ _)); exact BK237.out) hb)
      have n3_ := Aside0.mk (below_step (by repeat (first | (with_reducible first | exact HB.out | apply below_alloc | apply pw_below_drewN | apply below_drew1 | refine below_set ?_ GE236.out | refine below_set ?_ GE237.out) | exact HB.out)) hb)
      clear HO243
      clear BK236
      clear BK237
      clear HB
      have HO243 := n0_
      have BK236 := n1_
      have BK237 := n2_
      have HB := n3_
      clear n0_ n1_ n2_ n3_
      (try clear hb)
      (try clear hb2)
      (try clear hk)
      (try clear hi)
      refine hK.out _ _ ⟨(blk_cell BK236.out 0).trans rfl, (blk_cell BK236.out 1).trans rfl, (blk_cell BK236.out 2).trans rfl, (blk_cell BK237.out 0).trans rfl, (blk_cell BK237.out 1).trans rfl⟩ (fun hHeld => ?_)
      clear hK K
      refine norm_ (a' := ?_) ?_ ?_
      rotate_left
      ·show Act.put _ (some 21) _ = _
       simp only [Act.put, List.setIfInBounds_toArray, List.set_cons_zero, List.set_cons_succ, i64_w, i32_w]
       rfl
      refine pure_ (i := 5) (N := some 16) (v := ?_) (a' := ?_) #[true, true, true, true, true, true, false, false, false, false, false] rfl rfl (any_of HT_.out (by kernel_rfl)) (fun _ _ _ h => h) (Or.inl ⟨by rfl, ?_⟩) ?_ ?_
      rotate_left
      ·intro w'
       go_simp
       with_reducible rfl
      rotate_left
      ·simp only [Act.put, List.setIfInBounds_toArray, List.set_cons_zero, List.set_cons_succ, i64_w, i32_w]
       rfl
      refine pure_ (i := 6) (N := some 22) (v := ?_) (a' := ?_) #[true, true, true, true, true, true, true, false, false, false, false] rfl rfl (any_of HT_.out (by kernel_rfl)) (fun _ _ _ h => h) (Or.inl ⟨by rfl, ?_⟩) ?_ ?_
      rotate_left
      ·intro w'
       go_simp
       with_reducible rfl
      rotate_left
      ·simp only [Act.put, List.setIfInBounds_toArray, List.set_cons_zero, List.set_cons_succ, i64_w, i32_w]
       rfl
      refine pure_ (i := 7) (N := some 23) (v := ?_) (a' := ?_) #[true, true, true, true, true, true, true, true, false, false, false] rfl rfl (any_of HT_.out (by kernel_rfl)) (fun _ _ _ h => h) (Or.inl ⟨by rfl, ?_⟩) ?_ ?_
      rotate_left
      ·intro w'
       go_simp
       with_reducible rfl
      rotate_left
      ·simp only [Act.put, List.setIfInBounds_toArray, List.set_cons_zero, List.set_cons_succ, i64_w, i32_w]
       rfl
      refine one_ (i := 8) (N := some 6) #[true, true, true, true, true, true, true, true, true, false, false] rfl rfl (one_of HT_.out (by kernel_rfl)) (by decide) (fun K hK => ?_)
      refine box_step ?hg (N := 6) ?hd (cs := #[.int .i8 0, .int .i8 0, .int .i8 0, .int .i8 0]) (t := 30) ?hr ?_; (case hd => rfl); (case hg => rfl); (case hr => first | (go_simp; done) | (go_simp; rfl))
      intro gb251 hg w27 hbox hb
      have n0_ := Aside0.mk (Kd.R_below (Kd.R_elderB (by (with_reducible repeat (first | apply Kd.R_alloc | apply Kd.R_drewN | apply Kd.R_drew)); exact HO243.out) gb251 (Nat.le_of_eq hg.symm)) hb)
      have n1_ := Aside0.mk (blk_below (g := gb236) (o := .cells #[.int .i8 a0_0, .int .i8 a0_1, .slice A0_2 l0_2.length c0_2] 25 (0, 0)) (by (with_reducible repeat (first | refine blk_drewN ?_ _ | refine blk_drew ?_ | refine blk_alloc ?_ _)); exact BK236.out) hb)
      have n2_ := Aside0.mk (blk_below (g := gb237) (o := .cells #[.int .i8 a1_0, .bool a1_1] 27 (0, 0)) (by (with_reducible repeat (first | refine blk_drewN ?_ _ | refine blk_drew ?_ | refine blk_alloc ?_ _)); exact BK237.out) hb)
      have n3_ := Aside0.mk (below_step (by repeat (first | (with_reducible first | exact HB.out | apply below_alloc | apply pw_below_drewN | apply below_drew1 | refine below_set ?_ GE236.out | refine below_set ?_ GE237.out) | exact HB.out)) hb)
      have n4_ := Aside0.mk (hbox)
      have n5_ := Aside0.mk ((by rw [hg]; exact (below_size (by repeat (first | (with_reducible first | exact HB.out | apply below_alloc | apply pw_below_drewN | apply below_drew1 | refine below_set ?_ GE236.out | refine below_set ?_ GE237.out) | exact HB.out))) : w.heap.size ≤ gb251))
      have n6_ := Aside0.mk ((by rw [hg]; exact (below_size (by repeat (first | (with_reducible first | exact HB.out | apply below_alloc | apply pw_below_drewN | apply below_drew1 | refine below_set ?_ GE236.out | refine below_set ?_ GE237.out) | exact HB.out))) : w.heap.size ≤ gb251))
      have n7_ := Aside0.mk ((by rw [hg]; exact Nat.ne_of_lt (blk_lt (g := gb236) (o := .cells #[.int .i8 a0_0, .int .i8 a0_1, .slice A0_2 l0_2.length c0_2] 25 (0, 0)) (by (with_reducible repeat (first | refine blk_drewN ?_ _ | refine blk_drew ?_ | refine blk_alloc ?_ _)); exact BK236.out)) : gb236 ≠ gb251))
      have n8_ := Aside0.mk ((by rw [hg]; exact Nat.ne_of_gt (blk_lt (g := gb236) (o := .cells #[.int .i8 a0_0, .int .i8 a0_1, .slice A0_2 l0_2.length c0_2] 25 (0, 0)) (by (with_reducible repeat (first | refine blk_drewN ?_ _ | refine blk_drew ?_ | refine blk_alloc ?_ _)); exact BK236.out)) : gb251 ≠ gb236))
      have n9_ := Aside0.mk ((by rw [hg]; exact Nat.ne_of_lt (blk_lt (g := gb237) (o := .cells #[.int .i8 a1_0, .bool a1_1] 27 (0, 0)) (by (with_reducible repeat (first | refine blk_drewN ?_ _ | refine blk_drew ?_ | refine blk_alloc ?_ _)); exact BK237.out)) : gb237 ≠ gb251))
      have n10_ := Aside0.mk ((by rw [hg]; exact Nat.ne_of_gt (blk_lt (g := gb237) (o := .cells #[.int .i8 a1_0, .bool a1_1] 27 (0, 0)) (by (with_reducible repeat (first | refine blk_drewN ?_ _ | refine blk_drew ?_ | refine blk_alloc ?_ _)); exact BK237.out)) : gb251 ≠ gb237))
      clear HO243
      clear BK236
      clear BK237
      clear HB
      have HO243 := n0_
      have BK236 := n1_
      have BK237 := n2_
      have HB := n3_
      have BK251 := n4_
      have GW251 := n5_
      have GE251 := n6_
      have NB236_251 := n7_
      have NB251_236 := n8_
      have NB237_251 := n9_
      have NB251_237 := n10_
      clear n0_ n1_ n2_ n3_ n4_ n5_ n6_ n7_ n8_ n9_ n10_
      clear hb hbox hg
      refine hK.out _ _ ⟨(blk_cell BK236.out 0).trans rfl, (blk_cell BK236.out 1).trans rfl, (blk_cell BK236.out 2).trans rfl, (blk_cell BK237.out 0).trans rfl, (blk_cell BK237.out 1).trans rfl⟩ (fun hHeld => ?_)
      clear hK K
      refine norm_ (a' := ?_) ?_ ?_
      rotate_left
      ·show Act.put _ (some 6) _ = _
       simp only [Act.put, List.setIfInBounds_toArray, List.set_cons_zero, List.set_cons_succ, i64_w, i32_w]
       rfl
      exact norm_ (by simp only [putAll, Act.put, List.setIfInBounds_toArray, List.set_cons_zero, List.set_cons_succ]) (hCont (.slice Ao25 t241.length co25, gb251) _ ⟨hHeld, (by (with_reducible repeat (first | apply Kd.R_alloc | apply Kd.R_drewN | apply Kd.R_drew)); exact Kd.R_mono HO243.out (fun _ hk => hk.2)), (by (with_reducible repeat (first | refine blk_drewN ?_ _ | refine blk_drew ?_ | refine blk_alloc ?_ _)); exact BK236.out), (by (with_reducible repeat (first | refine blk_drewN ?_ _ | refine blk_drew ?_ | refine blk_alloc ?_ _)); exact BK237.out), (by (with_reducible repeat (first | refine blk_drewN ?_ _ | refine blk_drew ?_ | refine blk_alloc ?_ _)); exact BK251.out), GW251.out, GE251.out, NB236_251.out, NB251_236.out, NB237_251.out, NB251_237.out, (by repeat (first | (with_reducible first | exact HB.out | apply below_alloc | apply pw_below_drewN | apply below_drew1 | refine below_set ?_ GE236.out | refine below_set ?_ GE237.out | refine below_set ?_ GE251.out) | exact HB.out))⟩)
     ·skip
      refine box_step ?hg (N := 6) ?hd (cs := #[.int .i8 0, .int .i8 0, .int .i8 0, .int .i8 0]) (t := 30) ?hr ?_; (case hd => rfl); (case hg => rfl); (case hr => first | (go_simp; done) | (go_simp; rfl))
      intro gb251 hg w25 hbox hb
      have n0_ := Aside0.mk (Kd.R_below (Kd.R_elderB (by (with_reducible repeat (first | apply Kd.R_alloc | apply Kd.R_drewN | apply Kd.R_drew)); exact HO243.out) gb251 (Nat.le_of_eq hg.symm)) hb)
      have n1_ := Aside0.mk (blk_below (g := gb236) (o := .cells #[.int .i8 a0_0, .int .i8 a0_1, .slice A0_2 l0_2.length c0_2] 25 (0, 0)) (by (with_reducible repeat (first | refine blk_drewN ?_ _ | refine blk_drew ?_ | refine blk_alloc ?_ _)); exact BK236.out) hb)
      have n2_ := Aside0.mk (blk_below (g := gb237) (o := .cells #[.int .i8 a1_0, .bool a1_1] 27 (0, 0)) (by (with_reducible repeat (first | refine blk_drewN ?_ _ | refine blk_drew ?_ | refine blk_alloc ?_ _)); exact BK237.out) hb)
      have n3_ := Aside0.mk (below_step (by repeat (first | (with_reducible first | exact HB.out | apply below_alloc | apply pw_below_drewN | apply below_drew1 | refine below_set ?_ GE236.out | refine below_set ?_ GE237.out) | exact HB.out)) hb)
      have n4_ := Aside0.mk (hbox)
      have n5_ := Aside0.mk ((by rw [hg]; exact (below_size (by repeat (first | (with_reducible first | exact HB.out | apply below_alloc | apply pw_below_drewN | apply below_drew1 | refine below_set ?_ GE236.out | refine below_set ?_ GE237.out) | exact HB.out))) : w.heap.size ≤ gb251))
      have n6_ := Aside0.mk ((by rw [hg]; exact (below_size (by repeat (first | (with_reducible first | exact HB.out | apply below_alloc | apply pw_below_drewN | apply below_drew1 | refine below_set ?_ GE236.out | refine below_set ?_ GE237.out) | exact HB.out))) : w.heap.size ≤ gb251))
      have n7_ := Aside0.mk ((by rw [hg]; exact Nat.ne_of_lt (blk_lt (g := gb236) (o := .cells #[.int .i8 a0_0, .int .i8 a0_1, .slice A0_2 l0_2.length c0_2] 25 (0, 0)) (by (with_reducible repeat (first | refine blk_drewN ?_ _ | refine blk_drew ?_ | refine blk_alloc ?_ _)); exact BK236.out)) : gb236 ≠ gb251))
      have n8_ := Aside0.mk ((by rw [hg]; exact Nat.ne_of_gt (blk_lt (g := gb236) (o := .cells #[.int .i8 a0_0, .int .i8 a0_1, .slice A0_2 l0_2.length c0_2] 25 (0, 0)) (by (with_reducible repeat (first | refine blk_drewN ?_ _ | refine blk_drew ?_ | refine blk_alloc ?_ _)); exact BK236.out)) : gb251 ≠ gb236))
      have n9_ := Aside0.mk ((by rw [hg]; exact Nat.ne_of_lt (blk_lt (g := gb237) (o := .cells #[.int .i8 a1_0, .bool a1_1] 27 (0, 0)) (by (with_reducible repeat (first | refine blk_drewN ?_ _ | refine blk_drew ?_ | refine blk_alloc ?_ _)); exact BK237.out)) : gb237 ≠ gb251))
      have n10_ := Aside0.mk ((by rw [hg]; exact Nat.ne_of_gt (blk_lt (g := gb237) (o := .cells #[.int .i8 a1_0, .bool a1_1] 27 (0, 0)) (by (with_reducible repeat (first | refine blk_drewN ?_ _ | refine blk_drew ?_ | refine blk_alloc ?_ _)); exact BK237.out)) : gb251 ≠ gb237))
      clear HO243
      clear BK236
      clear BK237
      clear HB
      have HO243 := n0_
      have BK236 := n1_
      have BK237 := n2_
      have HB := n3_
      have BK251 := n4_
      have GW251 := n5_
      have GE251 := n6_
      have NB236_251 := n7_
      have NB251_236 := n8_
      have NB237_251 := n9_
      have NB251_237 := n10_
      clear n0_ n1_ n2_ n3_ n4_ n5_ n6_ n7_ n8_ n9_ n10_
      clear hb hbox hg
      obtain ⟨Ao26, co26, eo26⟩ := Kd.R_slice HO243.out
      (first | subst eo26 | (injection eo26 with f1_ f2_ f3_; have f4_ := f1_.symm; have f5_ := f3_.symm; clear f1_ f2_ f3_; subst f4_; subst f5_))
      refine hK.out _ _ ⟨(blk_cell BK236.out 0).trans rfl, (blk_cell BK236.out 1).trans rfl, (blk_cell BK236.out 2).trans rfl, (blk_cell BK237.out 0).trans rfl, (blk_cell BK237.out 1).trans rfl⟩ (fun hHeld => ?_)
      clear hK K
      refine norm_ (a' := ?_) ?_ ?_
      rotate_left
      ·show Act.put _ (some 6) _ = _
       simp only [Act.put, List.setIfInBounds_toArray, List.set_cons_zero, List.set_cons_succ, i64_w, i32_w]
       rfl
      refine one_ (i := 4) (N := some 21) #[true, true, true, true, true, false, false, false, true, false, false] rfl rfl (one_of HT_.out (by kernel_rfl)) (by decide) (fun K hK => ?_)
      refine goes_ Try.func10 (by kernel_rfl) rfl #[.agg #[.int .i8 t239, .int .i8 t240, .slice Ao26 t241.length co26], .agg #[.int .i8 t244, .bool t245]] (by rfl) rfl rfl (by (try simp only [List.map_toArray, List.map_cons, List.map_nil]); first | done | rfl | (simp only [List.length_drop, List.length_take]; rfl)) ?_
      with_reducible refine (spec_SeenOf.calls k t239 t240 _ _ t241 t244 t245 t246 t247 t248 t249 t250 _ ?side1 ?side2 A12.out).mono ?_
      (case side1 => repeat (first | exact (Kd.R_reads' HO243.out).2.2 | (with_reducible refine Kd.C_alloc ?_ _) | (with_reducible refine Kd.C_drewN ?_ _) | (with_reducible refine Kd.C_drew ?_)))
      (case side2 => exact (Kd.R_reads' HO243.out).2.1)
      rintro e w27 ⟨rfl, hb⟩
      refine ⟨_, rfl, ?_⟩
      have n0_ := Aside0.mk (Kd.R_below (by (with_reducible repeat (first | apply Kd.R_alloc | apply Kd.R_drewN | apply Kd.R_drew)); exact HO243.out) hb)
      have n1_ := Aside0.mk (blk_below (g := gb236) (o := .cells #[.int .i8 a0_0, .int .i8 a0_1, .slice A0_2 l0_2.length c0_2] 25 (0, 0)) (by (with_reducible repeat (first | refine blk_drewN ?_ _ | refine blk_drew ?_ | refine blk_alloc ?_ _)); exact BK236.out) hb)
      have n2_ := Aside0.mk (blk_below (g := gb237) (o := .cells #[.int .i8 a1_0, .bool a1_1] 27 (0, 0)) (by (with_reducible repeat (first | refine blk_drewN ?_ _ | refine blk_drew ?_ | refine blk_alloc ?_ _)); exact BK237.out) hb)
      have n3_ := Aside0.mk (blk_below (g := gb251) (o := .cells #[.int .i8 0, .int .i8 0, .int .i8 0, .int .i8 0] 30 (0, 0)) (by (with_reducible repeat (first | refine blk_drewN ?_ _ | refine blk_drew ?_ | refine blk_alloc ?_ _)); exact BK251.out) hb)
      have n4_ := Aside0.mk (below_step (by repeat (first | (with_reducible first | exact HB.out | apply below_alloc | apply pw_below_drewN | apply below_drew1 | refine below_set ?_ GE236.out | refine below_set ?_ GE237.out | refine below_set ?_ GE251.out) | exact HB.out)) hb)
      clear HO243
      clear BK236
      clear BK237
      clear BK251
      clear HB
      have HO243 := n0_
      have BK236 := n1_
      have BK237 := n2_
      have BK251 := n3_
      have HB := n4_
      clear n0_ n1_ n2_ n3_ n4_
      (try clear hb)
      (try clear hb2)
      (try clear hk)
      (try clear hi)
      refine hK.out _ _ ⟨(blk_cell BK236.out 0).trans rfl, (blk_cell BK236.out 1).trans rfl, (blk_cell BK236.out 2).trans rfl, (blk_cell BK237.out 0).trans rfl, (blk_cell BK237.out 1).trans rfl⟩ (fun hHeld => ?_)
      clear hK K
      refine norm_ (a' := ?_) ?_ ?_
      rotate_left
      ·show Act.put _ (some 21) _ = _
       simp only [Act.put, List.setIfInBounds_toArray, List.set_cons_zero, List.set_cons_succ, i64_w, i32_w]
       rfl
      refine pure_ (i := 5) (N := some 16) (v := ?_) (a' := ?_) #[true, true, true, true, true, true, false, false, true, false, false] rfl rfl (any_of HT_.out (by kernel_rfl)) (fun _ _ _ h => h) (Or.inl ⟨by rfl, ?_⟩) ?_ ?_
      rotate_left
      ·intro w'
       go_simp
       with_reducible rfl
      rotate_left
      ·simp only [Act.put, List.setIfInBounds_toArray, List.set_cons_zero, List.set_cons_succ, i64_w, i32_w]
       rfl
      refine pure_ (i := 6) (N := some 22) (v := ?_) (a' := ?_) #[true, true, true, true, true, true, true, false, true, false, false] rfl rfl (any_of HT_.out (by kernel_rfl)) (fun _ _ _ h => h) (Or.inl ⟨by rfl, ?_⟩) ?_ ?_
      rotate_left
      ·intro w'
       go_simp
       with_reducible rfl
      rotate_left
      ·simp only [Act.put, List.setIfInBounds_toArray, List.set_cons_zero, List.set_cons_succ, i64_w, i32_w]
       rfl
      refine pure_ (i := 7) (N := some 23) (v := ?_) (a' := ?_) #[true, true, true, true, true, true, true, true, true, false, false] rfl rfl (any_of HT_.out (by kernel_rfl)) (fun _ _ _ h => h) (Or.inl ⟨by rfl, ?_⟩) ?_ ?_
      rotate_left
      ·intro w'
       go_simp
       with_reducible rfl
      rotate_left
      ·simp only [Act.put, List.setIfInBounds_toArray, List.set_cons_zero, List.set_cons_succ, i64_w, i32_w]
       rfl
      exact norm_ (by simp only [putAll, Act.put, List.setIfInBounds_toArray, List.set_cons_zero, List.set_cons_succ]) (hCont (.slice Ao26 t241.length co26, gb251) _ ⟨hHeld, (by (with_reducible repeat (first | apply Kd.R_alloc | apply Kd.R_drewN | apply Kd.R_drew)); exact Kd.R_mono HO243.out (fun _ hk => hk.2)), (by (with_reducible repeat (first | refine blk_drewN ?_ _ | refine blk_drew ?_ | refine blk_alloc ?_ _)); exact BK236.out), (by (with_reducible repeat (first | refine blk_drewN ?_ _ | refine blk_drew ?_ | refine blk_alloc ?_ _)); exact BK237.out), (by (with_reducible repeat (first | refine blk_drewN ?_ _ | refine blk_drew ?_ | refine blk_alloc ?_ _)); exact BK251.out), GW251.out, GE251.out, NB236_251.out, NB251_236.out, NB237_251.out, NB251_237.out, (by repeat (first | (with_reducible first | exact HB.out | apply below_alloc | apply pw_below_drewN | apply below_drew1 | refine below_set ?_ GE236.out | refine below_set ?_ GE237.out | refine below_set ?_ GE251.out) | exact HB.out))⟩)
    ·skip
     refine box_step ?hg (N := 6) ?hd (cs := #[.int .i8 0, .int .i8 0, .int .i8 0, .int .i8 0]) (t := 30) ?hr ?_; (case hd => rfl); (case hg => rfl); (case hr => first | (go_simp; done) | (go_simp; rfl))
     intro gb251 hg w24 hbox hb
     have n0_ := Aside0.mk (Kd.R_below (Kd.R_elderB (by (with_reducible repeat (first | apply Kd.R_alloc | apply Kd.R_drewN | apply Kd.R_drew)); exact HO243.out) gb251 (Nat.le_of_eq hg.symm)) hb)
     have n1_ := Aside0.mk (blk_below (g := gb236) (o := .cells #[.int .i8 a0_0, .int .i8 a0_1, .slice A0_2 l0_2.length c0_2] 25 (0, 0)) (by (with_reducible repeat (first | refine blk_drewN ?_ _ | refine blk_drew ?_ | refine blk_alloc ?_ _)); exact BK236.out) hb)
     have n2_ := Aside0.mk (blk_below (g := gb237) (o := .cells #[.int .i8 a1_0, .bool a1_1] 27 (0, 0)) (by (with_reducible repeat (first | refine blk_drewN ?_ _ | refine blk_drew ?_ | refine blk_alloc ?_ _)); exact BK237.out) hb)
     have n3_ := Aside0.mk (below_step (by repeat (first | (with_reducible first | exact HB.out | apply below_alloc | apply pw_below_drewN | apply below_drew1 | refine below_set ?_ GE236.out | refine below_set ?_ GE237.out) | exact HB.out)) hb)
     have n4_ := Aside0.mk (hbox)
     have n5_ := Aside0.mk ((by rw [hg]; exact (below_size (by repeat (first | (with_reducible first | exact HB.out | apply below_alloc | apply pw_below_drewN | apply below_drew1 | refine below_set ?_ GE236.out | refine below_set ?_ GE237.out) | exact HB.out))) : w.heap.size ≤ gb251))
     have n6_ := Aside0.mk ((by rw [hg]; exact (below_size (by repeat (first | (with_reducible first | exact HB.out | apply below_alloc | apply pw_below_drewN | apply below_drew1 | refine below_set ?_ GE236.out | refine below_set ?_ GE237.out) | exact HB.out))) : w.heap.size ≤ gb251))
     have n7_ := Aside0.mk ((by rw [hg]; exact Nat.ne_of_lt (blk_lt (g := gb236) (o := .cells #[.int .i8 a0_0, .int .i8 a0_1, .slice A0_2 l0_2.length c0_2] 25 (0, 0)) (by (with_reducible repeat (first | refine blk_drewN ?_ _ | refine blk_drew ?_ | refine blk_alloc ?_ _)); exact BK236.out)) : gb236 ≠ gb251))
     have n8_ := Aside0.mk ((by rw [hg]; exact Nat.ne_of_gt (blk_lt (g := gb236) (o := .cells #[.int .i8 a0_0, .int .i8 a0_1, .slice A0_2 l0_2.length c0_2] 25 (0, 0)) (by (with_reducible repeat (first | refine blk_drewN ?_ _ | refine blk_drew ?_ | refine blk_alloc ?_ _)); exact BK236.out)) : gb251 ≠ gb236))
     have n9_ := Aside0.mk ((by rw [hg]; exact Nat.ne_of_lt (blk_lt (g := gb237) (o := .cells #[.int .i8 a1_0, .bool a1_1] 27 (0, 0)) (by (with_reducible repeat (first | refine blk_drewN ?_ _ | refine blk_drew ?_ | refine blk_alloc ?_ _)); exact BK237.out)) : gb237 ≠ gb251))
     have n10_ := Aside0.mk ((by rw [hg]; exact Nat.ne_of_gt (blk_lt (g := gb237) (o := .cells #[.int .i8 a1_0, .bool a1_1] 27 (0, 0)) (by (with_reducible repeat (first | refine blk_drewN ?_ _ | refine blk_drew ?_ | refine blk_alloc ?_ _)); exact BK237.out)) : gb251 ≠ gb237))
     clear HO243
     clear BK236
     clear BK237
     clear HB
     have HO243 := n0_
     have BK236 := n1_
     have BK237 := n2_
     have HB := n3_
     have BK251 := n4_
     have GW251 := n5_
     have GE251 := n6_
     have NB236_251 := n7_
     have NB251_236 := n8_
     have NB237_251 := n9_
     have NB251_237 := n10_
     clear n0_ n1_ n2_ n3_ n4_ n5_ n6_ n7_ n8_ n9_ n10_
     clear hb hbox hg
     refine hK.out _ _ ⟨(blk_cell BK236.out 0).trans rfl, (blk_cell BK236.out 1).trans rfl, (blk_cell BK236.out 2).trans rfl, (blk_cell BK237.out 0).trans rfl, (blk_cell BK237.out 1).trans rfl⟩ (fun hHeld => ?_)
     clear hK K
     refine norm_ (a' := ?_) ?_ ?_
     rotate_left
     ·show Act.put _ (some 6) _ = _
      simp only [Act.put, List.setIfInBounds_toArray, List.set_cons_zero, List.set_cons_succ, i64_w, i32_w]
      rfl
     refine one_ (i := 3) (N := some 20) #[true, true, true, true, false, false, false, false, true, false, false] rfl rfl (one_of HT_.out (by kernel_rfl)) (by decide) (fun K hK => ?_)
     refine goes_ Try.func12 (by kernel_rfl) rfl #[.agg #[.int .i8 a1_0, .bool a1_1]] (by rfl) rfl rfl (by (try simp only [List.map_toArray, List.map_cons, List.map_nil]); first | done | rfl | (simp only [List.length_drop, List.length_take]; rfl)) ?_
     with_reducible refine (laws_toCase.calls a1_0 a1_1 t244 t245 _ A11.out).mono ?_
     rintro e w25 ⟨rfl, hb⟩
     refine ⟨_, rfl, ?_⟩
     have n0_ := Aside0.mk (Kd.R_below (by (with_reducible repeat (first | apply Kd.R_alloc | apply Kd.R_drewN | apply Kd.R_drew)); exact HO243.out) hb)
     have n1_ := Aside0.mk (blk_below (g := gb236) (o := .cells #[.int .i8 a0_0, .int .i8 a0_1, .slice A0_2 l0_2.length c0_2] 25 (0, 0)) (by (with_reducible repeat (first | refine blk_drewN ?_ _ | refine blk_drew ?_ | refine blk_alloc ?_ _)); exact BK236.out) hb)
     have n2_ := Aside0.mk (blk_below (g := gb237) (o := .cells #[.int .i8 a1_0, .bool a1_1] 27 (0, 0)) (by (with_reducible repeat (first | refine blk_drewN ?_ _ | refine blk_drew ?_ | refine blk_alloc ?_ _)); exact BK237.out) hb)
     have n3_ := Aside0.mk (blk_below (g := gb251) (o := .cells #[.int .i8 0, .int .i8 0, .int .i8 0, .int .i8 0] 30 (0, 0)) (by (with_reducible repeat (first | refine blk_drewN ?_ _ | refine blk_drew ?_ | refine blk_alloc ?_ _)); exact BK251.out) hb)
     have n4_ := Aside0.mk (below_step (by repeat (first | (with_reducible first | exact HB.out | apply below_alloc | apply pw_below_drewN | apply below_drew1 | refine below_set ?_ GE236.out | refine below_set ?_ GE237.out | refine below_set ?_ GE251.out) | exact HB.out)) hb)
     clear HO243
     clear BK236
     clear BK237
     clear BK251
     clear HB
     have HO243 := n0_
     have BK236 := n1_
     have BK237 := n2_
     have BK251 := n3_
     have HB := n4_
     clear n0_ n1_ n2_ n3_ n4_
     (try clear hb)
     (try clear hb2)
     (try clear hk)
     (try clear hi)
     obtain ⟨Ao26, co26, eo26⟩ := Kd.R_slice HO243.out
     (first | subst eo26 | (injection eo26 with f1_ f2_ f3_; have f4_ := f1_.symm; have f5_ := f3_.symm; clear f1_ f2_ f3_; subst f4_; subst f5_))
     refine hK.out _ _ ⟨(blk_cell BK236.out 0).trans rfl, (blk_cell BK236.out 1).trans rfl, (blk_cell BK236.out 2).trans rfl, (blk_cell BK237.out 0).trans rfl, (blk_cell BK237.out 1).trans rfl⟩ (fun hHeld => ?_)
     clear hK K
     refine norm_ (a' := ?_) ?_ ?_
     rotate_left
     ·show Act.put _ (some 20) _ = _
      simp only [Act.put, List.setIfInBounds_toArray, List.set_cons_zero, List.set_cons_succ, i64_w, i32_w]
      rfl
     refine one_ (i := 4) (N := some 21) #[true, true, true, true, true, false, false, false, true, false, false] rfl rfl (one_of HT_.out (by kernel_rfl)) (by decide) (fun K hK => ?_)
     refine goes_ Try.func10 (by kernel_rfl) rfl #[.agg #[.int .i8 t239, .int .i8 t240, .slice Ao26 t241.length co26], .agg #[.int .i8 t244, .bool t245]] (by rfl) rfl rfl (by (try simp only [List.map_toArray, List.map_cons, List.map_nil]); first | done | rfl | (simp only [List.length_drop, List.length_take]; rfl)) ?_
     with_reducible refine (spec_SeenOf.calls k t239 t240 _ _ t241 t244 t245 t246 t247 t248 t249 t250 _ ?side1 ?side2 A12.out).mono ?_
     (case side1 => repeat (first | exact (Kd.R_reads' HO243.out).2.2 | (with_reducible refine Kd.C_alloc ?_ _) | (with_reducible refine Kd.C_drewN ?_ _) | (with_reducible refine Kd.C_drew ?_)))
     (case side2 => exact (Kd.R_reads' HO243.out).2.1)
     rintro e w27 ⟨rfl, hb⟩
     refine ⟨_, rfl, ?_⟩
     have n0_ := Aside0.mk (Kd.R_below (by (with_reducible repeat (first | apply Kd.R_alloc | apply Kd.R_drewN | apply Kd.R_drew)); exact HO243.out) hb)
     have n1_ := Aside0.mk (blk_below (g := gb236) (o := .cells #[.int .i8 a0_0, .int .i8 a0_1, .slice A0_2 l0_2.length c0_2] 25 (0, 0)) (by (with_reducible repeat (first | refine blk_drewN ?_ _ | refine blk_drew ?_ | refine blk_alloc ?_ _)); exact BK236.out) hb)
     have n2_ := Aside0.mk (blk_below (g := gb237) (o := .cells #[.int .i8 a1_0, .bool a1_1] 27 (0, 0)) (by (with_reducible repeat (first | refine blk_drewN ?_ _ | refine blk_drew ?_ | refine blk_alloc ?_ _)); exact BK237.out) hb)
     have n3_ := Aside0.mk (blk_below (g := gb251) (o := .cells #[.int .i8 0, .int .i8 0, .int .i8 0, .int .i8 0] 30 (0, 0)) (by (with_reducible repeat (first | refine blk_drewN ?_ _ | refine blk_drew ?_ | refine blk_alloc ?_ _)); exact BK251.out) hb)
     have n4_ := Aside0.mk (below_step (by repeat (first | (with_reducible first | exact HB.out | apply below_alloc | apply pw_below_drewN | apply below_drew1 | refine below_set ?_ GE236.out | refine below_set ?_ GE237.out | refine below_set ?_ GE251.out) | exact HB.out)) hb)
     clear HO243
     clear BK236
     clear BK237
     clear BK251
     clear HB
     have HO243 := n0_
     have BK236 := n1_
     have BK237 := n2_
     have BK251 := n3_
     have HB := n4_
     clear n0_ n1_ n2_ n3_ n4_
     (try clear hb)
     (try clear hb2)
     (try clear hk)
     (try clear hi)
     refine hK.out _ _ ⟨(blk_cell BK236.out 0).trans rfl, (blk_cell BK236.out 1).trans rfl, (blk_cell BK236.out 2).trans rfl, (blk_cell BK237.out 0).trans rfl, (blk_cell BK237.out 1).trans rfl⟩ (fun hHeld => ?_)
     clear hK K
     refine norm_ (a' := ?_) ?_ ?_
     rotate_left
     ·show Act.put _ (some 21) _ = _
      simp only [Act.put, List.setIfInBounds_toArray, List.set_cons_zero, List.set_cons_succ, i64_w, i32_w]
      rfl
     refine pure_ (i := 5) (N := some 16) (v := ?_) (a' := ?_) #[true, true, true, true, true, true, false, false, true, false, false] rfl rfl (any_of HT_.out (by kernel_rfl)) (fun _ _ _ h => h) (Or.inl ⟨by rfl, ?_⟩) ?_ ?_
     rotate_left
     ·intro w'
      go_simp
      with_reducible rfl
     rotate_left
     ·simp only [Act.put, List.setIfInBounds_toArray, List.set_cons_zero, List.set_cons_succ, i64_w, i32_w]
      rfl
     refine pure_ (i := 6) (N := some 22) (v := ?_) (a' := ?_) #[true, true, true, true, true, true, true, false, true, false, false] rfl rfl (any_of HT_.out (by kernel_rfl)) (fun _ _ _ h => h) (Or.inl ⟨by rfl, ?_⟩) ?_ ?_
     rotate_left
     ·intro w'
      go_simp
      with_reducible rfl
     rotate_left
     ·simp only [Act.put, List.setIfInBounds_toArray, List.set_cons_zero, List.set_cons_succ, i64_w, i32_w]
      rfl
     refine pure_ (i := 7) (N := some 23) (v := ?_) (a' := ?_) #[true, true, true, true, true, true, true, true, true, false, false] rfl rfl (any_of HT_.out (by kernel_rfl)) (fun _ _ _ h => h) (Or.inl ⟨by rfl, ?_⟩) ?_ ?_
     rotate_left
     ·intro w'
      go_simp
      with_reducible rfl
     rotate_left
     ·simp only [Act.put, List.setIfInBounds_toArray, List.set_cons_zero, List.set_cons_succ, i64_w, i32_w]
      rfl
     exact norm_ (by simp only [putAll, Act.put, List.setIfInBounds_toArray, List.set_cons_zero, List.set_cons_succ]) (hCont (.slice Ao26 t241.length co26, gb251) _ ⟨hHeld, (by (with_reducible repeat (first | apply Kd.R_alloc | apply Kd.R_drewN | apply Kd.R_drew)); exact Kd.R_mono HO243.out (fun _ hk => hk.2)), (by (with_reducible repeat (first | refine blk_drewN ?_ _ | refine blk_drew ?_ | refine blk_alloc ?_ _)); exact BK236.out), (by (with_reducible repeat (first | refine blk_drewN ?_ _ | refine blk_drew ?_ | refine blk_alloc ?_ _)); exact BK237.out), (by (with_reducible repeat (first | refine blk_drewN ?_ _ | refine blk_drew ?_ | refine blk_alloc ?_ _)); exact BK251.out), GW251.out, GE251.out, NB236_251.out, NB251_236.out, NB237_251.out, NB251_237.out, (by repeat (first | (with_reducible first | exact HB.out | apply below_alloc | apply pw_below_drewN | apply below_drew1 | refine below_set ?_ GE236.out | refine below_set ?_ GE237.out | refine below_set ?_ GE251.out) | exact HB.out))⟩)
   ·skip
    refine box_step ?hg (N := 6) ?hd (cs := #[.int .i8 0, .int .i8 0, .int .i8 0, .int .i8 0]) (t := 30) ?hr ?_; (case hd => rfl); (case hg => rfl); (case hr => first | (go_simp; done) | (go_simp; rfl))
    intro gb251 hg w23 hbox hb
    have n0_ := Aside0.mk (blk_below (g := gb236) (o := .cells #[.int .i8 a0_0, .int .i8 a0_1, .slice A0_2 l0_2.length c0_2] 25 (0, 0)) (by (with_reducible repeat (first | refine blk_drewN ?_ _ | refine blk_drew ?_ | refine blk_alloc ?_ _)); exact BK236.out) hb)
    have n1_ := Aside0.mk (blk_below (g := gb237) (o := .cells #[.int .i8 a1_0, .bool a1_1] 27 (0, 0)) (by (with_reducible repeat (first | refine blk_drewN ?_ _ | refine blk_drew ?_ | refine blk_alloc ?_ _)); exact BK237.out) hb)
    have n2_ := Aside0.mk (below_step (by repeat (first | (with_reducible first | exact HB.out | apply below_alloc | apply pw_below_drewN | apply below_drew1 | refine below_set ?_ GE236.out | refine below_set ?_ GE237.out) | exact HB.out)) hb)
    have n3_ := Aside0.mk (hbox)
    have n4_ := Aside0.mk ((by rw [hg]; exact (below_size (by repeat (first | (with_reducible first | exact HB.out | apply below_alloc | apply pw_below_drewN | apply below_drew1 | refine below_set ?_ GE236.out | refine below_set ?_ GE237.out) | exact HB.out))) : w.heap.size ≤ gb251))
    have n5_ := Aside0.mk ((by rw [hg]; exact (below_size (by repeat (first | (with_reducible first | exact HB.out | apply below_alloc | apply pw_below_drewN | apply below_drew1 | refine below_set ?_ GE236.out | refine below_set ?_ GE237.out) | exact HB.out))) : w.heap.size ≤ gb251))
    have n6_ := Aside0.mk ((by rw [hg]; exact Nat.ne_of_lt (blk_lt (g := gb236) (o := .cells #[.int .i8 a0_0, .int .i8 a0_1, .slice A0_2 l0_2.length c0_2] 25 (0, 0)) (by (with_reducible repeat (first | refine blk_drewN ?_ _ | refine blk_drew ?_ | refine blk_alloc ?_ _)); exact BK236.out)) : gb236 ≠ gb251))
    have n7_ := Aside0.mk ((by rw [hg]; exact Nat.ne_of_gt (blk_lt (g := gb236) (o := .cells #[.int .i8 a0_0, .int .i8 a0_1, .slice A0_2 l0_2.length c0_2] 25 (0, 0)) (by (with_reducible repeat (first | refine blk_drewN ?_ _ | refine blk_drew ?_ | refine blk_alloc ?_ _)); exact BK236.out)) : gb251 ≠ gb236))
    have n8_ := Aside0.mk ((by rw [hg]; exact Nat.ne_of_lt (blk_lt (g := gb237) (o := .cells #[.int .i8 a1_0, .bool a1_1] 27 (0, 0)) (by (with_reducible repeat (first | refine blk_drewN ?_ _ | refine blk_drew ?_ | refine blk_alloc ?_ _)); exact BK237.out)) : gb237 ≠ gb251))
    have n9_ := Aside0.mk ((by rw [hg]; exact Nat.ne_of_gt (blk_lt (g := gb237) (o := .cells #[.int .i8 a1_0, .bool a1_1] 27 (0, 0)) (by (with_reducible repeat (first | refine blk_drewN ?_ _ | refine blk_drew ?_ | refine blk_alloc ?_ _)); exact BK237.out)) : gb251 ≠ gb237))
    clear BK236
    clear BK237
    clear HB
    have BK236 := n0_
    have BK237 := n1_
    have HB := n2_
    have BK251 := n3_
    have GW251 := n4_
    have GE251 := n5_
    have NB236_251 := n6_
    have NB251_236 := n7_
    have NB237_251 := n8_
    have NB251_237 := n9_
    clear n0_ n1_ n2_ n3_ n4_ n5_ n6_ n7_ n8_ n9_
    clear hb hbox hg
    refine hK.out _ _ ⟨(blk_cell BK236.out 0).trans rfl, (blk_cell BK236.out 1).trans rfl, (blk_cell BK236.out 2).trans rfl, (blk_cell BK237.out 0).trans rfl, (blk_cell BK237.out 1).trans rfl⟩ (fun hHeld => ?_)
    clear hK K
    refine norm_ (a' := ?_) ?_ ?_
    rotate_left
    ·show Act.put _ (some 6) _ = _
     simp only [Act.put, List.setIfInBounds_toArray, List.set_cons_zero, List.set_cons_succ, i64_w, i32_w]
     rfl
    refine one_ (i := 1) (N := some 18) #[true, true, true, false, false, false, false, false, true, false, false] rfl rfl (one_of HT_.out (by kernel_rfl)) (by decide) (fun K hK => ?_)
    refine goes_ Try.func11 (by kernel_rfl) rfl #[.agg #[.int .i8 a0_0, .int .i8 a0_1, .slice A0_2 l0_2.length c0_2]] (by rfl) rfl rfl (by (try simp only [List.map_toArray, List.map_cons, List.map_nil]); first | done | rfl | (simp only [List.length_drop, List.length_take]; rfl)) ?_
    with_reducible refine (laws_toFixed.calls k a0_0 a0_1 _ _ l0_2 t239 t240 t241 _ ?side1 ?side2 A10.out).mono ?_
    (case side1 => repeat (first | exact (Kd.C_below HR0_2.out HB.out) | (with_reducible refine Kd.C_alloc ?_ _) | (with_reducible refine Kd.C_drewN ?_ _) | (with_reducible refine Kd.C_drew ?_)))
    (case side2 => exact HC0_2.out)
    rintro e w24 ⟨v242, rfl, ho0, hb⟩
    refine ⟨_, rfl, ?_⟩
    have n0_ := Aside0.mk (Kd.R_lower (Kd.R_newB ho0 (g := gb251) (o := .cells #[.int .i8 0, .int .i8 0, .int .i8 0, .int .i8 0] 30 (0, 0)) (by (with_reducible repeat (first | refine blk_drewN ?_ _ | refine blk_drew ?_ | refine blk_alloc ?_ _)); exact BK251.out)) (below_size (by repeat (first | (with_reducible first | exact HB.out | apply below_alloc | apply pw_below_drewN | apply below_drew1 | refine below_set ?_ GE236.out | refine below_set ?_ GE237.out | refine below_set ?_ GE251.out) | exact HB.out))))
    have n1_ := Aside0.mk (blk_below (g := gb236) (o := .cells #[.int .i8 a0_0, .int .i8 a0_1, .slice A0_2 l0_2.length c0_2] 25 (0, 0)) (by (with_reducible repeat (first | refine blk_drewN ?_ _ | refine blk_drew ?_ | refine blk_alloc ?_ _)); exact BK236.out) hb)
    have n2_ := Aside0.mk (blk_below (g := gb237) (o := .cells #[.int .i8 a1_0, .bool a1_1] 27 (0, 0)) (by (with_reducible repeat (first | refine blk_drewN ?_ _ | refine blk_drew ?_ | refine blk_alloc ?_ _)); exact BK237.out) hb)
    have n3_ := Aside0.mk (blk_below (g := gb251) (o := .cells #[.int .i8 0, .int .i8 0, .int .i8 0, .int .i8 0] 30 (0, 0)) (by (with_reducible repeat (first | refine blk_drewN ?_ _ | refine blk_drew ?_ | refine blk_alloc ?_ _)); exact BK251.out) hb)
    have n4_ := Aside0.mk (below_step (by repeat (first | (with_reducible first | exact HB.out | apply below_alloc | apply pw_below_drewN | apply below_drew1 | refine below_set ?_ GE236.out | refine below_set ?_ GE237.out | refine below_set ?_ GE251.out) | exact HB.out)) hb)
    clear BK236
    clear BK237
    clear BK251
    clear HB
    have HO243 := n0_
    have BK236 := n1_
    have BK237 := n2_
    have BK251 := n3_
    have HB := n4_
    clear n0_ n1_ n2_ n3_ n4_
    (try clear hb)
    (try clear hb2)
    (try clear hk)
    (try clear hi)
    (try clear ho0)
    refine hK.out _ _ ⟨(blk_cell BK236.out 0).trans rfl, (blk_cell BK236.out 1).trans rfl, (blk_cell BK236.out 2).trans rfl, (blk_cell BK237.out 0).trans rfl, (blk_cell BK237.out 1).trans rfl⟩ (fun hHeld => ?_)
    clear hK K
    refine norm_ (a' := ?_) ?_ ?_
    rotate_left
    ·show Act.put _ (some 18) _ = _
     simp only [Act.put, List.setIfInBounds_toArray, List.set_cons_zero, List.set_cons_succ, i64_w, i32_w]
     rfl
    refine one_ (i := 3) (N := some 20) #[true, true, true, true, false, false, false, false, true, false, false] rfl rfl (one_of HT_.out (by kernel_rfl)) (by decide) (fun K hK => ?_)
    refine goes_ Try.func12 (by kernel_rfl) rfl #[.agg #[.int .i8 a1_0, .bool a1_1]] (by rfl) rfl rfl (by (try simp only [List.map_toArray, List.map_cons, List.map_nil]); first | done | rfl | (simp only [List.length_drop, List.length_take]; rfl)) ?_
    with_reducible refine (laws_toCase.calls a1_0 a1_1 t244 t245 _ A11.out).mono ?_
    rintro e w25 ⟨rfl, hb⟩
    refine ⟨_, rfl, ?_⟩
    have n0_ := Aside0.mk (Kd.R_below (by (with_reducible repeat (first | apply Kd.R_alloc | apply Kd.R_drewN | apply Kd.R_drew)); exact HO243.out) hb)
    have n1_ := Aside0.mk (blk_below (g := gb236) (o := .cells #[.int .i8 a0_0, .int .i8 a0_1, .slice A0_2 l0_2.length c0_2] 25 (0, 0)) (by (with_reducible repeat (first | refine blk_drewN ?_ _ | refine blk_drew ?_ | refine blk_alloc ?_ _)); exact BK236.out) hb)
    have n2_ := Aside0.mk (blk_below (g := gb237) (o := .cells #[.int .i8 a1_0, .bool a1_1] 27 (0, 0)) (by (with_reducible repeat (first | refine blk_drewN ?_ _ | refine blk_drew ?_ | refine blk_alloc ?_ _)); exact BK237.out) hb)
    have n3_ := Aside0.mk (blk_below (g := gb251) (o := .cells #[.int .i8 0, .int .i8 0, .int .i8 0, .int .i8 0] 30 (0, 0)) (by (with_reducible repeat (first | refine blk_drewN ?_ _ | refine blk_drew ?_ | refine blk_alloc ?_ _)); exact BK251.out) hb)
    have n4_ := Aside0.mk (below_step (by repeat (first | (with_reducible first | exact HB.out | apply below_alloc | apply pw_below_drewN | apply below_drew1 | refine below_set ?_ GE236.out | refine below_set ?_ GE237.out | refine below_set ?_ GE251.out) | exact HB.out)) hb)
    clear HO243
    clear BK236
    clear BK237
    clear BK251
    clear HB
    have HO243 := n0_
    have BK236 := n1_
    have BK237 := n2_
    have BK251 := n3_
    have HB := n4_
    clear n0_ n1_ n2_ n3_ n4_
    (try clear hb)
    (try clear hb2)
    (try clear hk)
    (try clear hi)
    obtain ⟨Ao26, co26, eo26⟩ := Kd.R_slice HO243.out
    (first | subst eo26 | (injection eo26 with f1_ f2_ f3_; have f4_ := f1_.symm; have f5_ := f3_.symm; clear f1_ f2_ f3_; subst f4_; subst f5_))
    refine hK.out _ _ ⟨(blk_cell BK236.out 0).trans rfl, (blk_cell BK236.out 1).trans rfl, (blk_cell BK236.out 2).trans rfl, (blk_cell BK237.out 0).trans rfl, (blk_cell BK237.out 1).trans rfl⟩ (fun hHeld => ?_)
    clear hK K
    refine norm_ (a' := ?_) ?_ ?_
    rotate_left
    ·show Act.put _ (some 20) _ = _
     simp only [Act.put, List.setIfInBounds_toArray, List.set_cons_zero, List.set_cons_succ, i64_w, i32_w]
     rfl
    refine one_ (i := 4) (N := some 21) #[true, true, true, true, true, false, false, false, true, false, false] rfl rfl (one_of HT_.out (by kernel_rfl)) (by decide) (fun K hK => ?_)
    refine goes_ Try.func10 (by kernel_rfl) rfl #[.agg #[.int .i8 t239, .int .i8 t240, .slice Ao26 t241.length co26], .agg #[.int .i8 t244, .bool t245]] (by rfl) rfl rfl (by (try simp only [List.map_toArray, List.map_cons, List.map_nil]); first | done | rfl | (simp only [List.length_drop, List.length_take]; rfl)) ?_
    with_reducible refine (spec_SeenOf.calls k t239 t240 _ _ t241 t244 t245 t246 t247 t248 t249 t250 _ ?side1 ?side2 A12.out).mono ?_
    (case side1 => repeat (first | exact (Kd.R_reads' HO243.out).2.2 | (with_reducible refine Kd.C_alloc ?_ _) | (with_reducible refine Kd.C_drewN ?_ _) | (with_reducible refine Kd.C_drew ?_)))
    (case side2 => exact (Kd.R_reads' HO243.out).2.1)
    rintro e w27 ⟨rfl, hb⟩
    refine ⟨_, rfl, ?_⟩
    have n0_ := Aside0.mk (Kd.R_below (by (with_reducible repeat (first | apply Kd.R_alloc | apply Kd.R_drewN | apply Kd.R_drew)); exact HO243.out) hb)
    have n1_ := Aside0.mk (blk_below (g := gb236) (o := .cells #[.int .i8 a0_0, .int .i8 a0_1, .slice A0_2 l0_2.length c0_2] 25 (0, 0)) (by (with_reducible repeat (first | refine blk_drewN ?_ _ | refine blk_drew ?_ | refine blk_alloc ?_ _)); exact BK236.out) hb)
    have n2_ := Aside0.mk (blk_below (g := gb237) (o := .cells #[.int .i8 a1_0, .bool a1_1] 27 (0, 0)) (by (with_reducible repeat (first | refine blk_drewN ?_ _ | refine blk_drew ?_ | refine blk_alloc ?_ _)); exact BK237.out) hb)
    have n3_ := Aside0.mk (blk_below (g := gb251) (o := .cells #[.int .i8 0, .int .i8 0, .int .i8 0, .int .i8 0] 30 (0, 0)) (by (with_reducible repeat (first | refine blk_drewN ?_ _ | refine blk_drew ?_ | refine blk_alloc ?_ _)); exact BK251.out) hb)
    have n4_ := Aside0.mk (below_step (by repeat (first | (with_reducible first | exact HB.out | apply below_alloc | apply pw_below_drewN | apply below_drew1 | refine below_set ?_ GE236.out | refine below_set ?_ GE237.out | refine below_set ?_ GE251.out) | exact HB.out)) hb)
    clear HO243
    clear BK236
    clear BK237
    clear BK251
    clear HB
    have HO243 := n0_
    have BK236 := n1_
    have BK237 := n2_
    have BK251 := n3_
    have HB := n4_
    clear n0_ n1_ n2_ n3_ n4_
    (try clear hb)
    (try clear hb2)
    (try clear hk)
    (try clear hi)
    refine hK.out _ _ ⟨(blk_cell BK236.out 0).trans rfl, (blk_cell BK236.out 1).trans rfl, (blk_cell BK236.out 2).trans rfl, (blk_cell BK237.out 0).trans rfl, (blk_cell BK237.out 1).trans rfl⟩ (fun hHeld => ?_)
    clear hK K
    refine norm_ (a' := ?_) ?_ ?_
    rotate_left
    ·show Act.put _ (some 21) _ = _
     simp only [Act.put, List.setIfInBounds_toArray, List.set_cons_zero, List.set_cons_succ, i64_w, i32_w]
     rfl
    refine pure_ (i := 5) (N := some 16) (v := ?_) (a' := ?_) #[true, true, true, true, true, true, false, false, true, false, false] rfl rfl (any_of HT_.out (by kernel_rfl)) (fun _ _ _ h => h) (Or.inl ⟨by rfl, ?_⟩) ?_ ?_
    rotate_left
    ·intro w'
     go_simp
     with_reducible rfl
    rotate_left
    ·simp only [Act.put, List.setIfInBounds_toArray, List.set_cons_zero, List.set_cons_succ, i64_w, i32_w]
     rfl
    refine pure_ (i := 6) (N := some 22) (v := ?_) (a' := ?_) #[true, true, true, true, true, true, true, false, true, false, false] rfl rfl (any_of HT_.out (by kernel_rfl)) (fun _ _ _ h => h) (Or.inl ⟨by rfl, ?_⟩) ?_ ?_
    rotate_left
    ·intro w'
     go_simp
     with_reducible rfl
    rotate_left
    ·simp only [Act.put, List.setIfInBounds_toArray, List.set_cons_zero, List.set_cons_succ, i64_w, i32_w]
     rfl
    refine pure_ (i := 7) (N := some 23) (v := ?_) (a' := ?_) #[true, true, true, true, true, true, true, true, true, false, false] rfl rfl (any_of HT_.out (by kernel_rfl)) (fun _ _ _ h => h) (Or.inl ⟨by rfl, ?_⟩) ?_ ?_
    rotate_left
    ·intro w'
     go_simp
     with_reducible rfl
    rotate_left
    ·simp only [Act.put, List.setIfInBounds_toArray, List.set_cons_zero, List.set_cons_succ, i64_w, i32_w]
     rfl
    exact norm_ (by simp only [putAll, Act.put, List.setIfInBounds_toArray, List.set_cons_zero, List.set_cons_succ]) (hCont (.slice Ao26 t241.length co26, gb251) _ ⟨hHeld, (by (with_reducible repeat (first | apply Kd.R_alloc | apply Kd.R_drewN | apply Kd.R_drew)); exact Kd.R_mono HO243.out (fun _ hk => hk.2)), (by (with_reducible repeat (first | refine blk_drewN ?_ _ | refine blk_drew ?_ | refine blk_alloc ?_ _)); exact BK236.out), (by (with_reducible repeat (first | refine blk_drewN ?_ _ | refine blk_drew ?_ | refine blk_alloc ?_ _)); exact BK237.out), (by (with_reducible repeat (first | refine blk_drewN ?_ _ | refine blk_drew ?_ | refine blk_alloc ?_ _)); exact BK251.out), GW251.out, GE251.out, NB236_251.out, NB251_236.out, NB237_251.out, NB251_237.out, (by repeat (first | (with_reducible first | exact HB.out | apply below_alloc | apply pw_below_drewN | apply below_drew1 | refine below_set ?_ GE236.out | refine below_set ?_ GE237.out | refine below_set ?_ GE251.out) | exact HB.out))⟩)
  rintro ⟨v242, gb251⟩ w28 ⟨hS_, h0_, h1_, h2_, h3_, h4_, h5_, h6_, h7_, h8_, h9_, h10_⟩
  have n0_ : Aside0 (Kd.R k30 30 w28 w.heap.size (fun k_ => k_ ≠ gb251) v242 t241) := ⟨h0_⟩
  have n1_ : Aside0 (w28.heap[gb236]? = some (.cells #[.int .i8 a0_0, .int .i8 a0_1, .slice A0_2 l0_2.length c0_2] 25 (0, 0))) := ⟨h1_⟩
  have n2_ : Aside0 (w28.heap[gb237]? = some (.cells #[.int .i8 a1_0, .bool a1_1] 27 (0, 0))) := ⟨h2_⟩
  have n3_ : Aside0 (w28.heap[gb251]? = some (.cells #[.int .i8 0, .int .i8 0, .int .i8 0, .int .i8 0] 30 (0, 0))) := ⟨h3_⟩
  have n4_ : Aside0 (w.heap.size ≤ gb251) := ⟨h4_⟩
  have n5_ : Aside0 (w.heap.size ≤ gb251) := ⟨h5_⟩
  have n6_ : Aside0 (gb236 ≠ gb251) := ⟨h6_⟩
  have n7_ : Aside0 (gb251 ≠ gb236) := ⟨h7_⟩
  have n8_ : Aside0 (gb237 ≠ gb251) := ⟨h8_⟩
  have n9_ : Aside0 (gb251 ≠ gb237) := ⟨h9_⟩
  have n10_ : Aside0 (Below w.heap.size w w28) := ⟨h10_⟩
  clear BK236
  clear BK237
  clear HB
  clear h0_ h1_ h2_ h3_ h4_ h5_ h6_ h7_ h8_ h9_ h10_
  have HO243 := n0_
  have BK236 := n1_
  have BK237 := n2_
  have BK251 := n3_
  have GW251 := n4_
  have GE251 := n5_
  have NB236_251 := n6_
  have NB251_236 := n7_
  have NB237_251 := n8_
  have NB251_237 := n9_
  have HB := n10_
  clear n0_ n1_ n2_ n3_ n4_ n5_ n6_ n7_ n8_ n9_ n10_
  have hHeld : w28.cell? ⟨gb236, 0, none⟩ = some (.int .i8 a0_0) ∧ w28.cell? ⟨gb236, 1, none⟩ = some (.int .i8 a0_1) ∧ w28.cell? ⟨gb236, 2, none⟩ = some (.slice A0_2 l0_2.length c0_2) ∧ w28.cell? ⟨gb237, 0, none⟩ = some (.int .i8 a1_0) ∧ w28.cell? ⟨gb237, 1, none⟩ = some (.bool a1_1) := hS_
  refine norm_ (a' := ?_) ?_ ?_
  rotate_left
  ·simp only [putAll, Act.put, List.setIfInBounds_toArray, List.set_cons_zero, List.set_cons_succ]
   rfl
  refine one_ (i := 9) (N := none) #[true, true, true, true, true, true, true, true, true, true, false] rfl rfl (one_of HT_.out (by kernel_rfl)) (by decide) (fun K hK => ?_)
  have hs29 : w28.cell? ⟨gb251, 0, none⟩ = some (.int .i8 0) := (blk_cell BK251.out 0).trans rfl
  have hfs29 := blk_frozen BK251.out 0
  have hns29_0 := NB236_251.out
  have hns29_1 := NB237_251.out
  have hms29_0 := NB251_236.out
  have hms29_1 := NB251_237.out
  have hs30 : w28.cell? ⟨gb251, 1, none⟩ = some (.int .i8 0) := (blk_cell BK251.out 1).trans rfl
  have hfs30 := blk_frozen BK251.out 1
  have hns30_0 := NB236_251.out
  have hns30_1 := NB237_251.out
  have hms30_0 := NB251_236.out
  have hms30_1 := NB251_237.out
  have hs31 : w28.cell? ⟨gb251, 2, none⟩ = some (.int .i8 0) := (blk_cell BK251.out 2).trans rfl
  have hfs31 := blk_frozen BK251.out 2
  have hns31_0 := NB236_251.out
  have hns31_1 := NB237_251.out
  have hms31_0 := NB251_236.out
  have hms31_1 := NB251_237.out
  have hs32 : w28.cell? ⟨gb251, 3, none⟩ = some (.int .i8 0) := (blk_cell BK251.out 3).trans rfl
  have hfs32 := blk_frozen BK251.out 3
  have hns32_0 := NB236_251.out
  have hns32_1 := NB237_251.out
  have hms32_0 := NB251_236.out
  have hms32_1 := NB251_237.out
  refine skip_ (w1 := ?_) (by rfl) rfl ?_ ?_
  rotate_left
  ·go_simp
   rfl
  refine hK.out _ _ ⟨((cell_far (p := ⟨gb251, _, none⟩) NB236_251.out _).trans (((cell_far (p := ⟨gb251, _, none⟩) NB236_251.out _).trans (((cell_far (p := ⟨gb251, _, none⟩) NB236_251.out _).trans (((cell_far (p := ⟨gb251, _, none⟩) NB236_251.out _).trans (hHeld.1)))))))), ((cell_far (p := ⟨gb251, _, none⟩) NB236_251.out _).trans (((cell_far (p := ⟨gb251, _, none⟩) NB236_251.out _).trans (((cell_far (p := ⟨gb251, _, none⟩) NB236_251.out _).trans (((cell_far (p := ⟨gb251, _, none⟩) NB236_251.out _).trans (hHeld.2.1)))))))), ((cell_far (p := ⟨gb251, _, none⟩) NB236_251.out _).trans (((cell_far (p := ⟨gb251, _, none⟩) NB236_251.out _).trans (((cell_far (p := ⟨gb251, _, none⟩) NB236_251.out _).trans (((cell_far (p := ⟨gb251, _, none⟩) NB236_251.out _).trans (hHeld.2.2.1)))))))), ((cell_far (p := ⟨gb251, _, none⟩) NB237_251.out _).trans (((cell_far (p := ⟨gb251, _, none⟩) NB237_251.out _).trans (((cell_far (p := ⟨gb251, _, none⟩) NB237_251.out _).trans (((cell_far (p := ⟨gb251, _, none⟩) NB237_251.out _).trans (hHeld.2.2.2.1)))))))), ((cell_far (p := ⟨gb251, _, none⟩) NB237_251.out _).trans (((cell_far (p := ⟨gb251, _, none⟩) NB237_251.out _).trans (((cell_far (p := ⟨gb251, _, none⟩) NB237_251.out _).trans (((cell_far (p := ⟨gb251, _, none⟩) NB237_251.out _).trans (hHeld.2.2.2.2))))))))⟩ (fun hHeld => ?_)
  clear hK K
  refine pure_ (i := 10) (N := some 7) (v := ?_) (a' := ?_) #[true, true, true, true, true, true, true, true, true, true, true] rfl rfl (any_of HT_.out (by kernel_rfl)) (fun _ _ _ h => h) (Or.inl ⟨by rfl, ?_⟩) ?_ ?_
  rotate_left
  ·intro w'
   go_simp
   with_reducible rfl
  rotate_left
  ·simp only [Act.put, List.setIfInBounds_toArray, List.set_cons_zero, List.set_cons_succ, i64_w, i32_w]
   rfl
  refine done_ (done_of HT_.out (by kernel_rfl)) ?_
  have hnb33 := NB236_251.out
  have hnc33 := NB251_236.out
  have hcz34_0 : w28.cell? ⟨gb236, 0, none⟩ = some (.int .i8 a0_0) := (blk_cell BK236.out 0).trans rfl
  have hcz34_1 : w28.cell? ⟨gb236, 1, none⟩ = some (.int .i8 a0_1) := (blk_cell BK236.out 1).trans rfl
  have hcz34_2 : w28.cell? ⟨gb236, 2, none⟩ = some (.slice A0_2 l0_2.length c0_2) := (blk_cell BK236.out 2).trans rfl
  have hfz34_0 := blk_frozen BK236.out 0
  have hfz34_1 := blk_frozen BK236.out 1
  have hfz34_2 := blk_frozen BK236.out 2
  try go_wp2_with (first | ((with_reducible refine gate_callee (f := 11) rfl ?_); refine goesL_ (some 25) rfl rfl Try.func11 (by kernel_rfl) rfl #[.agg #[.int .i8 a0_0, .int .i8 a0_1, .slice A0_2 l0_2.length c0_2]] rfl (by (try simp only [List.map_toArray, List.map_cons, List.map_nil]); first | done | rfl | (simp only [List.length_drop, List.length_take]; rfl)) ?_; (with_reducible refine (laws_toFixed.calls k a0_0 a0_1 _ _ l0_2 t252 t253 t254 _ ?side1 ?side2 A13.out).mono ?_); (case side1 => exact Kd.C_below HR0_2.out (by repeat (first | (with_reducible first | exact HB.out | apply below_alloc | apply pw_below_drewN | apply below_drew1 | refine below_set ?_ GE236.out | refine below_set ?_ GE237.out | refine below_set ?_ GE251.out) | exact HB.out))); (case side2 => exact HC0_2.out); rintro e w35 ⟨v255, rfl, ho0, hb⟩; refine ⟨_, rfl, ?_⟩; have n0_ := Aside0.mk (Kd.R_elder' (by (with_reducible repeat (first | apply Kd.R_alloc | apply Kd.R_drewN | apply Kd.R_drew)); exact (Kd.R_mono (Kd.R_far (p := ⟨gb251, 3, none⟩) (Kd.R_far (p := ⟨gb251, 2, none⟩) (Kd.R_far (p := ⟨gb251, 1, none⟩) (Kd.R_far (p := ⟨gb251, 0, none⟩) (Kd.R_mono HO243.out (fun k_ hk => (⟨hk, hk⟩ : _ ∧ k_ ≠ gb251))) (fun _ hk => hk.2) (.int .i8 t246)) (fun _ hk => hk.2) (.int .i8 t247)) (fun _ hk => hk.2) (.int .i8 t248)) (fun _ hk => hk.2) (.int .i8 t249)) (fun _ h_ => h_.1))) (Kd.R_base ho0) hb); have n1_ := Aside0.mk (Kd.R_lower (Kd.R_newB (Kd.R_new' ho0 (Kd.R_lt (by (with_reducible repeat (first | apply Kd.R_alloc | apply Kd.R_drewN | apply Kd.R_drew)); exact (Kd.R_mono (Kd.R_far (p := ⟨gb251, 3, none⟩) (Kd.R_far (p := ⟨gb251, 2, none⟩) (Kd.R_far (p := ⟨gb251, 1, none⟩) (Kd.R_far (p := ⟨gb251, 0, none⟩) (Kd.R_mono HO243.out (fun k_ hk => (⟨hk, hk⟩ : _ ∧ k_ ≠ gb251))) (fun _ hk => hk.2) (.int .i8 t246)) (fun _ hk => hk.2) (.int .i8 t247)) (fun _ hk => hk.2) (.int .i8 t248)) (fun _ hk => hk.2) (.int .i8 t249)) (fun _ h_ => h_.1))))) (g := gb251) (o := .cells #[.int .i8 t246, .int .i8 t247, .int .i8 t248, .int .i8 t249] 30 (0, 0)) (by (with_reducible repeat (first | refine blk_drewN ?_ _ | refine blk_drew ?_ | refine blk_alloc ?_ _)); refine blk_put (cs := #[.int .i8 t246, .int .i8 t247, .int .i8 t248, .int .i8 0]) ?_ 3 _ rfl; (with_reducible repeat (first | refine blk_drewN ?_ _ | refine blk_drew ?_ | refine blk_alloc ?_ _)); refine blk_put (cs := #[.int .i8 t246, .int .i8 t247, .int .i8 0, .int .i8 0]) ?_ 2 _ rfl; (with_reducible repeat (first | refine blk_drewN ?_ _ | refine blk_drew ?_ | refine blk_alloc ?_ _)); refine blk_put (cs := #[.int .i8 t246, .int .i8 0, .int .i8 0, .int .i8 0]) ?_ 1 _ rfl; (with_reducible repeat (first | refine blk_drewN ?_ _ | refine blk_drew ?_ | refine blk_alloc ?_ _)); refine blk_put (cs := #[.int .i8 0, .int .i8 0, .int .i8 0, .int .i8 0]) ?_ 0 _ rfl; (with_reducible repeat (first | refine blk_drewN ?_ _ | refine blk_drew ?_ | refine blk_alloc ?_ _)); exact BK251.out)) (below_size (by repeat (first | (with_reducible first | exact HB.out | apply below_alloc | apply pw_below_drewN | apply below_drew1 | refine below_set ?_ GE236.out | refine below_set ?_ GE237.out | refine below_set ?_ GE251.out) | exact HB.out)))); have n2_ := Aside0.mk (blk_below (g := gb236) (o := .cells #[.int .i8 a0_0, .int .i8 a0_1, .slice A0_2 l0_2.length c0_2] 25 (0, 0)) (by (with_reducible repeat (first | refine blk_drewN ?_ _ | refine blk_drew ?_ | refine blk_alloc ?_ _)); refine blk_far ?_ NB236_251.out _; (with_reducible repeat (first | refine blk_drewN ?_ _ | refine blk_drew ?_ | refine blk_alloc ?_ _)); refine blk_far ?_ NB236_251.out _; (with_reducible repeat (first | refine blk_drewN ?_ _ | refine blk_drew ?_ | refine blk_alloc ?_ _)); refine blk_far ?_ NB236_251.out _; (with_reducible repeat (first | refine blk_drewN ?_ _ | refine blk_drew ?_ | refine blk_alloc ?_ _)); refine blk_far ?_ NB236_251.out _; (with_reducible repeat (first | refine blk_drewN ?_ _ | refine blk_drew ?_ | refine blk_alloc ?_ _)); exact BK236.out) hb); have n3_ := Aside0.mk (blk_below (g := gb237) (o := .cells #[.int .i8 a1_0, .bool a1_1] 27 (0, 0)) (by (with_reducible repeat (first | refine blk_drewN ?_ _ | refine blk_drew ?_ | refine blk_alloc ?_ _)); refine blk_far ?_ NB237_251.out _; (with_reducible repeat (first | refine blk_drewN ?_ _ | refine blk_drew ?_ | refine blk_alloc ?_ _)); refine blk_far ?_ NB237_251.out _; (with_reducible repeat (first | refine blk_drewN ?_ _ | refine blk_drew ?_ | refine blk_alloc ?_ _)); refine blk_far ?_ NB237_251.out _; (with_reducible repeat (first | refine blk_drewN ?_ _ | refine blk_drew ?_ | refine blk_alloc ?_ _)); refine blk_far ?_ NB237_251.out _; (with_reducible repeat (first | refine blk_drewN ?_ _ | refine blk_drew ?_ | refine blk_alloc ?_ _)); exact BK237.out) hb); have n4_ := Aside0.mk (blk_below (g := gb251) (o := .cells #[.int .i8 t246, .int .i8 t247, .int .i8 t248, .int .i8 t249] 30 (0, 0)) (by (with_reducible repeat (first | refine blk_drewN ?_ _ | refine blk_drew ?_ | refine blk_alloc ?_ _)); refine blk_put (cs := #[.int .i8 t246, .int .i8 t247, .int .i8 t248, .int .i8 0]) ?_ 3 _ rfl; (with_reducible repeat (first | refine blk_drewN ?_ _ | refine blk_drew ?_ | refine blk_alloc ?_ _)); refine blk_put (cs := #[.int .i8 t246, .int .i8 t247, .int .i8 0, .int .i8 0]) ?_ 2 _ rfl; (with_reducible repeat (first | refine blk_drewN ?_ _ | refine blk_drew ?_ | refine blk_alloc ?_ _)); refine blk_put (cs := #[.int .i8 t246, .int .i8 0, .int .i8 0, .int .i8 0]) ?_ 1 _ rfl; (with_reducible repeat (first | refine blk_drewN ?_ _ | refine blk_drew ?_ | refine blk_alloc ?_ _)); refine blk_put (cs := #[.int .i8 0, .int .i8 0, .int .i8 0, .int .i8 0]) ?_ 0 _ rfl; (with_reducible repeat (first | refine blk_drewN ?_ _ | refine blk_drew ?_ | refine blk_alloc ?_ _)); exact BK251.out) hb); have n5_ := Aside0.mk (below_step (by repeat (first | (with_reducible first | exact HB.out | apply below_alloc | apply pw_below_drewN | apply below_drew1 | refine below_set ?_ GE236.out | refine below_set ?_ GE237.out | refine below_set ?_ GE251.out) | exact HB.out)) hb); clear HO243; clear BK236; clear BK237; clear BK251; clear HB; have HO243 := n0_; have HO256 := n1_; have BK236 := n2_; have BK237 := n3_; have BK251 := n4_; have HB := n5_; clear n0_ n1_ n2_ n3_ n4_ n5_; (try clear hb); (try clear hb2); (try clear hk); (try clear hi); (try clear ho0)) | ((with_reducible refine gate_dst (N := 8) rfl ?_); refine box_event ?hg (N := 8) ?hd (cs := #[.int .i8 0, .int .i8 0, .slice none 0 0]) (t := 35) ?hr ?_; (case hd => rfl); (case hg => rfl); (case hr => first | (go_simp; done) | (go_simp; rfl)); intro gb257 hg w36 hbox hb; have n0_ := Aside0.mk (Kd.R_below (by (with_reducible repeat (first | apply Kd.R_alloc | apply Kd.R_drewN | apply Kd.R_drew)); exact HO243.out) hb); have n1_ := Aside0.mk (Kd.R_below (by (with_reducible repeat (first | apply Kd.R_alloc | apply Kd.R_drewN | apply Kd.R_drew)); exact HO256.out) hb); have n2_ := Aside0.mk (blk_below (g := gb236) (o := .cells #[.int .i8 a0_0, .int .i8 a0_1, .slice A0_2 l0_2.length c0_2] 25 (0, 0)) (by (with_reducible repeat (first | refine blk_drewN ?_ _ | refine blk_drew ?_ | refine blk_alloc ?_ _)); exact BK236.out) hb); have n3_ := Aside0.mk (blk_below (g := gb237) (o := .cells #[.int .i8 a1_0, .bool a1_1] 27 (0, 0)) (by (with_reducible repeat (first | refine blk_drewN ?_ _ | refine blk_drew ?_ | refine blk_alloc ?_ _)); exact BK237.out) hb); have n4_ := Aside0.mk (blk_below (g := gb251) (o := .cells #[.int .i8 t246, .int .i8 t247, .int .i8 t248, .int .i8 t249] 30 (0, 0)) (by (with_reducible repeat (first | refine blk_drewN ?_ _ | refine blk_drew ?_ | refine blk_alloc ?_ _)); exact BK251.out) hb); have n5_ := Aside0.mk (below_step (by repeat (first | (with_reducible first | exact HB.out | apply below_alloc | apply pw_below_drewN | apply below_drew1 | refine below_set ?_ GE236.out | refine below_set ?_ GE237.out | refine below_set ?_ GE251.out) | exact HB.out)) hb); have n6_ := Aside0.mk (hbox); have n7_ := Aside0.mk ((by rw [hg]; exact (below_size (by repeat (first | (with_reducible first | exact HB.out | apply below_alloc | apply pw_below_drewN | apply below_drew1 | refine below_set ?_ GE236.out | refine below_set ?_ GE237.out | refine below_set ?_ GE251.out) | exact HB.out))) : w.heap.size ≤ gb257)); have n8_ := Aside0.mk ((by rw [hg]; exact (below_size (by repeat (first | (with_reducible first | exact HB.out | apply below_alloc | apply pw_below_drewN | apply below_drew1 | refine below_set ?_ GE236.out | refine below_set ?_ GE237.out | refine below_set ?_ GE251.out) | exact HB.out))) : w.heap.size ≤ gb257)); have n9_ := Aside0.mk ((by rw [hg]; exact Nat.ne_of_lt (blk_lt (g := gb236) (o := .cells #[.int .i8 a0_0, .int .i8 a0_1, .slice A0_2 l0_2.length c0_2] 25 (0, 0)) (by (with_reducible repeat (first | refine blk_drewN ?_ _ | refine blk_drew ?_ | refine blk_alloc ?_ _)); exact BK236.out)) : gb236 ≠ gb257)); have n10_ := Aside0.mk ((by rw [hg]; exact Nat.ne_of_gt (blk_lt (g := gb236) (o := .cells #[.int .i8 a0_0, .int .i8 a0_1, .slice A0_2 l0_2.length c0_2] 25 (0, 0)) (by (with_reducible repeat (first | refine blk_drewN ?_ _ | refine blk_drew ?_ | refine blk_alloc ?_ _)); exact BK236.out)) : gb257 ≠ gb236)); have n11_ := Aside0.mk ((by rw [hg]; exact Nat.ne_of_lt (blk_lt (g := gb237) (o := .cells #[.int .i8 a1_0, .bool a1_1] 27 (0, 0)) (by (with_reducible repeat (first | refine blk_drewN ?_ _ | refine blk_drew ?_ | refine blk_alloc ?_ _)); exact BK237.out)) : gb237 ≠ gb257)); have n12_ := Aside0.mk ((by rw [hg]; exact Nat.ne_of_gt (blk_lt (g := gb237) (o := .cells #[.int .i8 a1_0, .bool a1_1] 27 (0, 0)) (by (with_reducible repeat (first | refine blk_drewN ?_ _ | refine blk_drew ?_ | refine blk_alloc ?_ _)); exact BK237.out)) : gb257 ≠ gb237)); have n13_ := Aside0.mk ((by rw [hg]; exact Nat.ne_of_lt (blk_lt (g := gb251) (o := .cells #[.int .i8 t246, .int .i8 t247, .int .i8 t248, .int .i8 t249] 30 (0, 0)) (by (with_reducible repeat (first | refine blk_drewN ?_ _ | refine blk_drew ?_ | refine blk_alloc ?_ _)); exact BK251.out)) : gb251 ≠ gb257)); have n14_ := Aside0.mk ((by rw [hg]; exact Nat.ne_of_gt (blk_lt (g := gb251) (o := .cells #[.int .i8 t246, .int .i8 t247, .int .i8 t248, .int .i8 t249] 30 (0, 0)) (by (with_reducible repeat (first | refine blk_drewN ?_ _ | refine blk_drew ?_ | refine blk_alloc ?_ _)); exact BK251.out)) : gb257 ≠ gb251)); clear HO243; clear HO256; clear BK236; clear BK237; clear BK251; clear HB; have HO243 := n0_; have HO256 := n1_; have BK236 := n2_; have BK237 := n3_; have BK251 := n4_; have HB := n5_; have BK257 := n6_; have GW257 := n7_; have GE257 := n8_; have NB236_257 := n9_; have NB257_236 := n10_; have NB237_257 := n11_; have NB257_237 := n12_; have NB251_257 := n13_; have NB257_251 := n14_; clear n0_ n1_ n2_ n3_ n4_ n5_ n6_ n7_ n8_ n9_ n10_ n11_ n12_ n13_ n14_; clear hb hbox hg; have hnb37 := NB257_236.out; have hnc37 := NB236_257.out; have hnb38 := NB257_237.out; have hnc38 := NB237_257.out; have hnb39 := NB257_251.out; have hnc39 := NB251_257.out; have hcz40_0 : w36.cell? ⟨gb257, 0, none⟩ = some (.int .i8 0) := (blk_cell BK257.out 0).trans rfl; have hcz40_1 : w36.cell? ⟨gb257, 1, none⟩ = some (.int .i8 0) := (blk_cell BK257.out 1).trans rfl; have hcz40_2 : w36.cell? ⟨gb257, 2, none⟩ = some (.slice none 0 0) := (blk_cell BK257.out 2).trans rfl; have hfz40_0 := blk_frozen BK257.out 0; have hfz40_1 := blk_frozen BK257.out 1; have hfz40_2 := blk_frozen BK257.out 2; obtain ⟨Ao41, co41, eo41⟩ := Kd.R_slice HO256.out; subst eo41))
  have n0_ : Aside0 (Kd.R k30 30 (((w36.setCell ⟨gb257, 0, none⟩ (.int .i8 t252)).setCell ⟨gb257, 1, none⟩ (.int .i8 t253)).setCell ⟨gb257, 2, none⟩ (.slice Ao41 t254.length co41)) w.heap.size (fun k_ => some k_ ≠ (.slice Ao41 t254.length co41 : Value).ownBlock ∧ k_ ≠ gb251) v242 t241) := ⟨by (with_reducible repeat (first | apply Kd.R_alloc | apply Kd.R_drewN | apply Kd.R_drew)); exact Kd.R_mono (Kd.R_far (p := ⟨gb257, 2, none⟩) (Kd.R_far (p := ⟨gb257, 1, none⟩) (Kd.R_far (p := ⟨gb257, 0, none⟩) (Kd.R_types HO243.out BK257.out (by decide)) (fun _ hk => hk.2) (.int .i8 t252)) (fun _ hk => hk.2) (.int .i8 t253)) (fun _ hk => hk.2) (.slice Ao41 t254.length co41)) (fun _ hk => ⟨hk.1.2, hk.1.1⟩)⟩
  have n1_ : Aside0 (Kd.R k30 30 (((w36.setCell ⟨gb257, 0, none⟩ (.int .i8 t252)).setCell ⟨gb257, 1, none⟩ (.int .i8 t253)).setCell ⟨gb257, 2, none⟩ (.slice Ao41 t254.length co41)) w.heap.size (fun k_ => some k_ ≠ (v242 : Value).ownBlock ∧ k_ ≠ gb251) (.slice Ao41 t254.length co41) t254) := ⟨by (with_reducible repeat (first | apply Kd.R_alloc | apply Kd.R_drewN | apply Kd.R_drew)); exact Kd.R_mono (Kd.R_far (p := ⟨gb257, 2, none⟩) (Kd.R_far (p := ⟨gb257, 1, none⟩) (Kd.R_far (p := ⟨gb257, 0, none⟩) (Kd.R_types HO256.out BK257.out (by decide)) (fun _ hk => hk.2) (.int .i8 t252)) (fun _ hk => hk.2) (.int .i8 t253)) (fun _ hk => hk.2) (.slice Ao41 t254.length co41)) (fun _ hk => ⟨hk.1.1.2, hk.1.2⟩)⟩
  have n2_ : Aside0 ((((w36.setCell ⟨gb257, 0, none⟩ (.int .i8 t252)).setCell ⟨gb257, 1, none⟩ (.int .i8 t253)).setCell ⟨gb257, 2, none⟩ (.slice Ao41 t254.length co41)).heap[gb236]? = some (.cells #[.int .i8 a0_0, .int .i8 a0_1, .slice A0_2 l0_2.length c0_2] 25 (0, 0))) := ⟨by (with_reducible repeat (first | refine blk_drewN ?_ _ | refine blk_drew ?_ | refine blk_alloc ?_ _)); refine blk_far ?_ NB236_257.out _; (with_reducible repeat (first | refine blk_drewN ?_ _ | refine blk_drew ?_ | refine blk_alloc ?_ _)); refine blk_far ?_ NB236_257.out _; (with_reducible repeat (first | refine blk_drewN ?_ _ | refine blk_drew ?_ | refine blk_alloc ?_ _)); refine blk_far ?_ NB236_257.out _; (with_reducible repeat (first | refine blk_drewN ?_ _ | refine blk_drew ?_ | refine blk_alloc ?_ _)); exact BK236.out⟩
  have n3_ : Aside0 ((((w36.setCell ⟨gb257, 0, none⟩ (.int .i8 t252)).setCell ⟨gb257, 1, none⟩ (.int .i8 t253)).setCell ⟨gb257, 2, none⟩ (.slice Ao41 t254.length co41)).heap[gb237]? = some (.cells #[.int .i8 a1_0, .bool a1_1] 27 (0, 0))) := ⟨by (with_reducible repeat (first | refine blk_drewN ?_ _ | refine blk_drew ?_ | refine blk_alloc ?_ _)); refine blk_far ?_ NB237_257.out _; (with_reducible repeat (first | refine blk_drewN ?_ _ | refine blk_drew ?_ | refine blk_alloc ?_ _)); refine blk_far ?_ NB237_257.out _; (with_reducible repeat (first | refine blk_drewN ?_ _ | refine blk_drew ?_ | refine blk_alloc ?_ _)); refine blk_far ?_ NB237_257.out _; (with_reducible repeat (first | refine blk_drewN ?_ _ | refine blk_drew ?_ | refine blk_alloc ?_ _)); exact BK237.out⟩
  have n4_ : Aside0 ((((w36.setCell ⟨gb257, 0, none⟩ (.int .i8 t252)).setCell ⟨gb257, 1, none⟩ (.int .i8 t253)).setCell ⟨gb257, 2, none⟩ (.slice Ao41 t254.length co41)).heap[gb251]? = some (.cells #[.int .i8 t246, .int .i8 t247, .int .i8 t248, .int .i8 t249] 30 (0, 0))) := ⟨by (with_reducible repeat (first | refine blk_drewN ?_ _ | refine blk_drew ?_ | refine blk_alloc ?_ _)); refine blk_far ?_ NB251_257.out _; (with_reducible repeat (first | refine blk_drewN ?_ _ | refine blk_drew ?_ | refine blk_alloc ?_ _)); refine blk_far ?_ NB251_257.out _; (with_reducible repeat (first | refine blk_drewN ?_ _ | refine blk_drew ?_ | refine blk_alloc ?_ _)); refine blk_far ?_ NB251_257.out _; (with_reducible repeat (first | refine blk_drewN ?_ _ | refine blk_drew ?_ | refine blk_alloc ?_ _)); exact BK251.out⟩
  have n5_ : Aside0 ((((w36.setCell ⟨gb257, 0, none⟩ (.int .i8 t252)).setCell ⟨gb257, 1, none⟩ (.int .i8 t253)).setCell ⟨gb257, 2, none⟩ (.slice Ao41 t254.length co41)).heap[gb257]? = some (.cells #[.int .i8 t252, .int .i8 t253, .slice Ao41 t254.length co41] 35 (0, 0))) := ⟨by (with_reducible repeat (first | refine blk_drewN ?_ _ | refine blk_drew ?_ | refine blk_alloc ?_ _)); refine blk_put (cs := #[.int .i8 t252, .int .i8 t253, .slice none 0 0]) ?_ 2 _ rfl; (with_reducible repeat (first | refine blk_drewN ?_ _ | refine blk_drew ?_ | refine blk_alloc ?_ _)); refine blk_put (cs := #[.int .i8 t252, .int .i8 0, .slice none 0 0]) ?_ 1 _ rfl; (with_reducible repeat (first | refine blk_drewN ?_ _ | refine blk_drew ?_ | refine blk_alloc ?_ _)); refine blk_put (cs := #[.int .i8 0, .int .i8 0, .slice none 0 0]) ?_ 0 _ rfl; (with_reducible repeat (first | refine blk_drewN ?_ _ | refine blk_drew ?_ | refine blk_alloc ?_ _)); exact BK257.out⟩
  have n6_ : Aside0 (Below w.heap.size w (((w36.setCell ⟨gb257, 0, none⟩ (.int .i8 t252)).setCell ⟨gb257, 1, none⟩ (.int .i8 t253)).setCell ⟨gb257, 2, none⟩ (.slice Ao41 t254.length co41))) := ⟨by repeat (first | (with_reducible first | exact HB.out | apply below_alloc | apply pw_below_drewN | apply below_drew1 | refine below_set ?_ GE236.out | refine below_set ?_ GE237.out | refine below_set ?_ GE251.out | refine below_set ?_ GE257.out) | exact HB.out)⟩
  (try clear HO243)
  (try clear HO256)
  (try clear BK236)
  (try clear BK237)
  (try clear BK251)
  (try clear BK257)
  (try clear HB)
  generalize (((w36.setCell ⟨gb257, 0, none⟩ (.int .i8 t252)).setCell ⟨gb257, 1, none⟩ (.int .i8 t253)).setCell ⟨gb257, 2, none⟩ (.slice Ao41 t254.length co41)) = w42 at n0_ n1_ n2_ n3_ n4_ n5_ n6_ ⊢
  have HO243 := n0_
  have HO256 := n1_
  have BK236 := n2_
  have BK237 := n3_
  have BK251 := n4_
  have BK257 := n5_
  have HB := n6_
  clear n0_ n1_ n2_ n3_ n4_ n5_ n6_
  have n0_ := Aside0.mk (Kd.R_drew HO243.out)
  have n1_ := Aside0.mk (Kd.R_drew HO256.out)
  have n2_ := Aside0.mk (blk_drew BK236.out)
  have n3_ := Aside0.mk (blk_drew BK237.out)
  have n4_ := Aside0.mk (blk_drew BK251.out)
  have n5_ := Aside0.mk (blk_drew BK257.out)
  have n6_ := Aside0.mk (below_drew1 HB.out)
  clear HO243
  clear HO256
  clear BK236
  clear BK237
  clear BK251
  clear BK257
  clear HB
  have HO243 := n0_
  have HO256 := n1_
  have BK236 := n2_
  have BK237 := n3_
  have BK251 := n4_
  have BK257 := n5_
  have HB := n6_
  clear n0_ n1_ n2_ n3_ n4_ n5_ n6_
  refine start_ (n := 10) (S := fun w' => w'.cell? ⟨gb257, 0, none⟩ = some (.int .i8 t252) ∧ w'.cell? ⟨gb257, 1, none⟩ = some (.int .i8 t253) ∧ w'.cell? ⟨gb257, 2, none⟩ = some (.slice Ao41 t254.length co41) ∧ w'.cell? ⟨gb237, 0, none⟩ = some (.int .i8 a1_0) ∧ w'.cell? ⟨gb237, 1, none⟩ = some (.bool a1_1)) (ds := []) #[false, false, false, false, false, false, false, false, false, false] (by kernel_rfl) rfl rfl ⟨(blk_cell BK257.out 0).trans rfl, (blk_cell BK257.out 1).trans rfl, (blk_cell BK257.out 2).trans rfl, (blk_cell BK237.out 0).trans rfl, (blk_cell BK237.out 1).trans rfl⟩ (fun hHeld => ?_); refine with_tabW laws_FnExactSeenOf.tab7 laws_FnExactSeenOf.bits7 (fun HT_ HW_ => ?_)
  generalize w42.drew = w43 at HO243 HO256 BK236 BK237 BK251 BK257 HB hHeld ⊢
  refine take_ (i := 0) (N := some 27) (v := ?_) (a' := ?_) #[true, false, false, false, false, false, false, false, false, false] rfl rfl (take_ofW HT_.out HW_.out (by kernel_rfl)) (fun _ _ _ h => h) (Or.inl ⟨by rfl, ?_⟩) hHeld ?_ ?_
  rotate_left
  ·rintro w' ⟨s0, s1, s2, s3, s4⟩
   go_simp
   with_reducible rfl
  rotate_left
  ·simp only [Act.put, List.setIfInBounds_toArray, List.set_cons_zero, List.set_cons_succ, i64_w, i32_w]
   rfl
  refine take_ (i := 1) (N := some 28) (v := ?_) (a' := ?_) #[true, true, false, false, false, false, false, false, false, false] rfl rfl (take_ofW HT_.out HW_.out (by kernel_rfl)) (fun _ _ _ h => h) (Or.inl ⟨by rfl, ?_⟩) hHeld ?_ ?_
  rotate_left
  ·rintro w' ⟨s0, s1, s2, s3, s4⟩
   go_simp
   with_reducible rfl
  rotate_left
  ·simp only [Act.put, List.setIfInBounds_toArray, List.set_cons_zero, List.set_cons_succ, i64_w, i32_w]
   rfl
  refine join_ (σ := Nat) 2 #[true, true, true, true, true, true, true, true, false, false] (fun s_ => [(29, .agg #[.int .i8 t258, .bool t259]), (30, .tuple #[.agg #[.int .i8 t260, .int .i8 t261, .int .i8 t262, .int .i8 t263], .int .i64 t264]), (9, .pointer (some ⟨s_, 0, none⟩)), (26, .tuple #[.agg #[.int .i8 t260, .int .i8 t261, .int .i8 t262, .int .i8 t263], .int .i64 t264]), (31, .agg #[.int .i8 t260, .int .i8 t261, .int .i8 t262, .int .i8 t263]), (32, .int .i64 t264)]) (fun s_ w' => (w'.cell? ⟨gb257, 0, none⟩ = some (.int .i8 t252) ∧ w'.cell? ⟨gb257, 1, none⟩ = some (.int .i8 t253) ∧ w'.cell? ⟨gb257, 2, none⟩ = some (.slice Ao41 t254.length co41) ∧ w'.cell? ⟨gb237, 0, none⟩ = some (.int .i8 a1_0) ∧ w'.cell? ⟨gb237, 1, none⟩ = some (.bool a1_1)) ∧ (Kd.R k30 30 w' w.heap.size (fun k_ => some k_ ≠ (.slice Ao41 t254.length co41 : Value).ownBlock ∧ k_ ≠ gb251 ∧ k_ ≠ s_) v242 t241) ∧ (Kd.R k30 30 w' w.heap.size (fun k_ => some k_ ≠ (v242 : Value).ownBlock ∧ k_ ≠ gb251 ∧ k_ ≠ s_) (.slice Ao41 t254.length co41) t254) ∧ (w'.heap[gb236]? = some (.cells #[.int .i8 a0_0, .int .i8 a0_1, .slice A0_2 l0_2.length c0_2] 25 (0, 0))) ∧ (w'.heap[gb237]? = some (.cells #[.int .i8 a1_0, .bool a1_1] 27 (0, 0))) ∧ (w'.heap[gb251]? = some (.cells #[.int .i8 t246, .int .i8 t247, .int .i8 t248, .int .i8 t249] 30 (0, 0))) ∧ (w'.heap[gb257]? = some (.cells #[.int .i8 t252, .int .i8 t253, .slice Ao41 t254.length co41] 35 (0, 0))) ∧ (w'.heap[s_]? = some (.cells #[.int .i8 0, .int .i8 0, .int .i8 0, .int .i8 0] 30 (0, 0))) ∧ (w.heap.size ≤ s_) ∧ (w.heap.size ≤ s_) ∧ (gb236 ≠ s_) ∧ (s_ ≠ gb236) ∧ (gb237 ≠ s_) ∧ (s_ ≠ gb237) ∧ (gb251 ≠ s_) ∧ (s_ ≠ gb251) ∧ (gb257 ≠ s_) ∧ (s_ ≠ gb257) ∧ (Below w.heap.size w w')) ?_ ?_
  rotate_left
  ·intro hCont
   refine two_ (i := 2) (j := 7) (Ni := some 29) (Nj := some 9) #[true, true, true, false, false, false, false, false, false, false] #[true, true, false, false, false, false, false, true, false, false] rfl rfl rfl rfl (two_of HT_.out (by kernel_rfl)) (by decide) (by decide) (fun K hK => ?_) (fun K hK => ?_)
   ·skip
    refine goes_ Try.func12 (by kernel_rfl) rfl #[.agg #[.int .i8 a1_0, .bool a1_1]] (by rfl) rfl rfl (by (try simp only [List.map_toArray, List.map_cons, List.map_nil]); first | done | rfl | (simp only [List.length_drop, List.length_take]; rfl)) ?_
    with_reducible refine (laws_toCase.calls a1_0 a1_1 t258 t259 _ A14.out).mono ?_
    rintro e w44 ⟨rfl, hb⟩
    refine ⟨_, rfl, ?_⟩
    have n0_ := Aside0.mk (Kd.R_below (by (with_reducible repeat (first | apply Kd.R_alloc | apply Kd.R_drewN | apply Kd.R_drew)); exact HO243.out) hb)
    have n1_ := Aside0.mk (Kd.R_below (by (with_reducible repeat (first | apply Kd.R_alloc | apply Kd.R_drewN | apply Kd.R_drew)); exact HO256.out) hb)
    have n2_ := Aside0.mk (blk_below (g := gb236) (o := .cells #[.int .i8 a0_0, .int .i8 a0_1, .slice A0_2 l0_2.length c0_2] 25 (0, 0)) (by (with_reducible repeat (first | refine blk_drewN ?_ _ | refine blk_drew ?_ | refine blk_alloc ?_ _)); exact BK236.out) hb)
    have n3_ := Aside0.mk (blk_below (g := gb237) (o := .cells #[.int .i8 a1_0, .bool a1_1] 27 (0, 0)) (by (with_reducible repeat (first | refine blk_drewN ?_ _ | refine blk_drew ?_ | refine blk_alloc ?_ _)); exact BK237.out) hb)
    have n4_ := Aside0.mk (blk_below (g := gb251) (o := .cells #[.int .i8 t246, .int .i8 t247, .int .i8 t248, .int .i8 t249] 30 (0, 0)) (by (with_reducible repeat (first | refine blk_drewN ?_ _ | refine blk_drew ?_ | refine blk_alloc ?_ _)); exact BK251.out) hb)
    have n5_ := Aside0.mk (blk_below (g := gb257) (o := .cells #[.int .i8 t252, .int .i8 t253, .slice Ao41 t254.length co41] 35 (0, 0)) (by (with_reducible repeat (first | refine blk_drewN ?_ _ | refine blk_drew ?_ | refine blk_alloc ?_ _)); exact BK257.out) hb)
    have n6_ := Aside0.mk (below_step (by repeat (first | (with_reducible first | exact HB.out | apply below_alloc | apply pw_below_drewN | apply below_drew1 | refine below_set ?_ GE236.out | refine below_set ?_ GE237.out | refine below_set ?_ GE251.out | refine below_set ?_ GE257.out) | exact HB.out)) hb)
    clear HO243
    clear HO256
    clear BK236
    clear BK237
    clear BK251
    clear BK257
    clear HB
    have HO243 := n0_
    have HO256 := n1_
    have BK236 := n2_
    have BK237 := n3_
    have BK251 := n4_
    have BK257 := n5_
    have HB := n6_
    clear n0_ n1_ n2_ n3_ n4_ n5_ n6_
    (try clear hb)
    (try clear hb2)
    (try clear hk)
    (try clear hi)
    refine hK.out _ _ ⟨(blk_cell BK257.out 0).trans rfl, (blk_cell BK257.out 1).trans rfl, (blk_cell BK257.out 2).trans rfl, (blk_cell BK237.out 0).trans rfl, (blk_cell BK237.out 1).trans rfl⟩ (fun hHeld => ?_)
    clear hK K
    refine norm_ (a' := ?_) ?_ ?_
    rotate_left
    ·show Act.put _ (some 29) _ = _
     simp only [Act.put, List.setIfInBounds_toArray, List.set_cons_zero, List.set_cons_succ, i64_w, i32_w]
     rfl
    refine two_ (i := 3) (j := 7) (Ni := some 30) (Nj := some 9) #[true, true, true, true, false, false, false, false, false, false] #[true, true, true, false, false, false, false, true, false, false] rfl rfl rfl rfl (two_of HT_.out (by kernel_rfl)) (by decide) (by decide) (fun K hK => ?_) (fun K hK => ?_)
    ·skip
     refine goes_ Try.func13 (by kernel_rfl) rfl #[.agg #[.int .i8 t252, .int .i8 t253, .slice Ao41 t254.length co41], .agg #[.int .i8 t258, .bool t259]] (by rfl) rfl rfl (by (try simp only [List.map_toArray, List.map_cons, List.map_nil]); first | done | rfl | (simp only [List.length_drop, List.length_take]; rfl)) ?_
     with_reducible refine (impl_SeenOf.calls k t252 t253 _ _ t254 t258 t259 t260 t261 t262 t263 t264 _ ?side1 ?side2 A15.out).mono ?_
     (case side1 => repeat (first | exact (Kd.R_reads' HO256.out).2.2 | (with_reducible refine Kd.C_alloc ?_ _) | (with_reducible refine Kd.C_drewN ?_ _) | (with_reducible refine Kd.C_drew ?_)))
     (case side2 => exact (Kd.R_reads' HO256.out).2.1)
     rintro e w45 ⟨rfl, hb⟩
     refine ⟨_, rfl, ?_⟩
     have n0_ := Aside0.mk (Kd.R_below (by (with_reducible repeat (first | apply Kd.R_alloc | apply Kd.R_drewN | apply Kd.R_drew)); exact HO243.out) hb)
     have n1_ := Aside0.mk (Kd.R_below (by (with_reducible repeat (first | apply Kd.R_alloc | apply Kd.R_drewN | apply Kd.R_drew)); exact HO256.out) hb)
     have n2_ := Aside0.mk (blk_below (g := gb236) (o := .cells #[.int .i8 a0_0, .int .i8 a0_1, .slice A0_2 l0_2.length c0_2] 25 (0, 0)) (by (with_reducible repeat (first | refine blk_drewN ?_ _ | refine blk_drew ?_ | refine blk_alloc ?_ _)); exact BK236.out) hb)
     have n3_ := Aside0.mk (blk_below (g := gb237) (o := .cells #[.int .i8 a1_0, .bool a1_1] 27 (0, 0)) (by (with_reducible repeat (first | refine blk_drewN ?_ _ | refine blk_drew ?_ | refine blk_alloc ?_ _)); exact BK237.out) hb)
     have n4_ := Aside0.mk (blk_below (g := gb251) (o := .cells #[.int .i8 t246, .int .i8 t247, .int .i8 t248, .int .i8 t249] 30 (0, 0)) (by (with_reducible repeat (first | refine blk_drewN ?_ _ | refine blk_drew ?_ | refine blk_alloc ?_ _)); exact BK251.out) hb)
     have n5_ := Aside0.mk (blk_below (g := gb257) (o := .cells #[.int .i8 t252, .int .i8 t253, .slice Ao41 t254.length co41] 35 (0, 0)) (by (with_reducible repeat (first | refine blk_drewN ?_ _ | refine blk_drew ?_ | refine blk_alloc ?_ _)); exact BK257.out) hb)
     have n6_ := Aside0.mk (below_step (by repeat (first | (with_reducible first | exact HB.out | apply below_alloc | apply pw_below_drewN | apply below_drew1 | refine below_set ?_ GE236.out | refine below_set ?_ GE237.out | refine below_set ?_ GE251.out | refine below_set ?_ GE257.out) | exact HB.out)) hb)
     clear HO243
     clear HO256
     clear BK236
     clear BK237
     clear BK251
     clear BK257
     clear HB
     have HO243 := n0_
     have HO256 := n1_
     have BK236 := n2_
     have BK237 := n3_
     have BK251 := n4_
     have BK257 := n5_
     have HB := n6_
     clear n0_ n1_ n2_ n3_ n4_ n5_ n6_
     (try clear hb)
     (try clear hb2)
     (try clear hk)
     (try clear hi)
     refine hK.out _ _ ⟨(blk_cell BK257.out 0).trans rfl, (blk_cell BK257.out 1).trans rfl, (blk_cell BK257.out 2).trans rfl, (blk_cell BK237.out 0).trans rfl, (blk_cell BK237.out 1).trans rfl⟩ (fun hHeld => ?_)
     clear hK K
     refine norm_ (a' := ?_) ?_ ?_
     rotate_left
     ·show Act.put _ (some 30) _ = _
      simp only [Act.put, List.setIfInBounds_toArray, List.set_cons_zero, List.set_cons_succ, i64_w, i32_w]
      rfl
     refine pure_ (i := 4) (N := some 26) (v := ?_) (a' := ?_) #[true, true, true, true, true, false, false, false, false, false] rfl rfl (any_of HT_.out (by kernel_rfl)) (fun _ _ _ h => h) (Or.inl ⟨by rfl, ?_⟩) ?_ ?_
     rotate_left
     ·intro w'
      go_simp
      with_reducible rfl
     rotate_left
     ·simp only [Act.put, List.setIfInBounds_toArray, List.set_cons_zero, List.set_cons_succ, i64_w, i32_w]
      rfl
     refine pure_ (i := 5) (N := some 31) (v := ?_) (a' := ?_) #[true, true, true, true, true, true, false, false, false, false] rfl rfl (any_of HT_.out (by kernel_rfl)) (fun _ _ _ h => h) (Or.inl ⟨by rfl, ?_⟩) ?_ ?_
     rotate_left
     ·intro w'
      go_simp
      with_reducible rfl
     rotate_left
     ·simp only [Act.put, List.setIfInBounds_toArray, List.set_cons_zero, List.set_cons_succ, i64_w, i32_w]
      rfl
     refine pure_ (i := 6) (N := some 32) (v := ?_) (a' := ?_) #[true, true, true, true, true, true, true, false, false, false] rfl rfl (any_of HT_.out (by kernel_rfl)) (fun _ _ _ h => h) (Or.inl ⟨by rfl, ?_⟩) ?_ ?_
     rotate_left
     ·intro w'
      go_simp
      with_reducible rfl
     rotate_left
     ·simp only [Act.put, List.setIfInBounds_toArray, List.set_cons_zero, List.set_cons_succ, i64_w, i32_w]
      rfl
     refine one_ (i := 7) (N := some 9) #[true, true, true, true, true, true, true, true, false, false] rfl rfl (one_of HT_.out (by kernel_rfl)) (by decide) (fun K hK => ?_)
     refine box_step ?hg (N := 9) ?hd (cs := #[.int .i8 0, .int .i8 0, .int .i8 0, .int .i8 0]) (t := 30) ?hr ?_; (case hd => rfl); (case hg => rfl); (case hr => first | (go_simp; done) | (go_simp; rfl))
     intro gb265 hg w46 hbox hb
     have n0_ := Aside0.mk (Kd.R_below (Kd.R_elderB (by (with_reducible repeat (first | apply Kd.R_alloc | apply Kd.R_drewN | apply Kd.R_drew)); exact HO243.out) gb265 (Nat.le_of_eq hg.symm)) hb)
     have n1_ := Aside0.mk (Kd.R_below (Kd.R_elderB (by (with_reducible repeat (first | apply Kd.R_alloc | apply Kd.R_drewN | apply Kd.R_drew)); exact HO256.out) gb265 (Nat.le_of_eq hg.symm)) hb)
     have n2_ := Aside0.mk (blk_below (g := gb236) (o := .cells #[.int .i8 a0_0, .int .i8 a0_1, .slice A0_2 l0_2.length c0_2] 25 (0, 0)) (by (with_reducible repeat (first | refine blk_drewN ?_ _ | refine blk_drew ?_ | refine blk_alloc ?_ _)); exact BK236.out) hb)
     have n3_ := Aside0.mk (blk_below (g := gb237) (o := .cells #[.int .i8 a1_0, .bool a1_1] 27 (0, 0)) (by (with_reducible repeat (first | refine blk_drewN ?_ _ | refine blk_drew ?_ | refine blk_alloc ?_ _)); exact BK237.out) hb)
     have n4_ := Aside0.mk (blk_below (g := gb251) (o := .cells #[.int .i8 t246, .int .i8 t247, .int .i8 t248, .int .i8 t249] 30 (0, 0)) (by (with_reducible repeat (first | refine blk_drewN ?_ _ | refine blk_drew ?_ | refine blk_alloc ?_ _)); exact BK251.out) hb)
     have n5_ := Aside0.mk (blk_below (g := gb257) (o := .cells #[.int .i8 t252, .int .i8 t253, .slice Ao41 t254.length co41] 35 (0, 0)) (by (with_reducible repeat (first | refine blk_drewN ?_ _ | refine blk_drew ?_ | refine blk_alloc ?_ _)); exact BK257.out) hb)
     have n6_ := Aside0.mk (below_step (by repeat (first | (with_reducible first | exact HB.out | apply below_alloc | apply pw_below_drewN | apply below_drew1 | refine below_set ?_ GE236.out | refine below_set ?_ GE237.out | refine below_set ?_ GE251.out | refine below_set ?_ GE257.out) | exact HB.out)) hb)
     have n7_ := Aside0.mk (hbox)
     have n8_ := Aside0.mk ((by rw [hg]; exact (below_size (by repeat (first | (with_reducible first | exact HB.out | apply below_alloc | apply pw_below_drewN | apply below_drew1 | refine below_set ?_ GE236.out | refine below_set ?_ GE237.out | refine below_set ?_ GE251.out | refine below_set ?_ GE257.out) | exact HB.out))) : w.heap.size ≤ gb265))
     have n9_ := Aside0.mk ((by rw [hg]; exact (below_size (by repeat (first | (with_reducible first | exact HB.out | apply below_alloc | apply pw_below_drewN | apply below_drew1 | refine below_set ?_ GE236.out | refine below_set ?_ GE237.out | refine below_set ?_ GE251.out | refine below_set ?_ GE257.out) | exact HB.out))) : w.heap.size ≤ gb265))
     have n10_ := Aside0.mk ((by rw [hg]; exact Nat.ne_of_lt (blk_lt (g := gb236) (o := .cells #[.int .i8 a0_0, .int .i8 a0_1, .slice A0_2 l0_2.length c0_2] 25 (0, 0)) (by (with_reducible repeat (first | refine blk_drewN ?_ _ | refine blk_drew ?_ | refine blk_alloc ?_ _)); exact BK236.out)) : gb236 ≠ gb265))
     have n11_ := Aside0.mk ((by rw [hg]; exact Nat.ne_of_gt (blk_lt (g := gb236) (o := .cells #[.int .i8 a0_0, .int .i8 a0_1, .slice A0_2 l0_2.length c0_2] 25 (0, 0)) (by (with_reducible repeat (first | refine blk_drewN ?_ _ | refine blk_drew ?_ | refine blk_alloc ?_ _)); exact BK236.out)) : gb265 ≠ gb236))
     have n12_ := Aside0.mk ((by rw [hg]; exact Nat.ne_of_lt (blk_lt (g := gb237) (o := .cells #[.int .i8 a1_0, .bool a1_1] 27 (0, 0)) (by (with_reducible repeat (first | refine blk_drewN ?_ _ | refine blk_drew ?_ | refine blk_alloc ?_ _)); exact BK237.out)) : gb237 ≠ gb265))
     have n13_ := Aside0.mk ((by rw [hg]; exact Nat.ne_of_gt (blk_lt (g := gb237) (o := .cells #[.int .i8 a1_0, .bool a1_1] 27 (0, 0)) (by (with_reducible repeat (first | refine blk_drewN ?_ _ | refine blk_drew ?_ | refine blk_alloc ?_ _)); exact BK237.out)) : gb265 ≠ gb237))
     have n14_ := Aside0.mk ((by rw [hg]; exact Nat.ne_of_lt (blk_lt (g := gb251) (o := .cells #[.int .i8 t246, .int .i8 t247, .int .i8 t248, .int .i8 t249] 30 (0, 0)) (by (with_reducible repeat (first | refine blk_drewN ?_ _ | refine blk_drew ?_ | refine blk_alloc ?_ _)); exact BK251.out)) : gb251 ≠ gb265))
     have n15_ := Aside0.mk ((by rw [hg]; exact Nat.ne_of_gt (blk_lt (g := gb251) (o := .cells #[.int .i8 t246, .int .i8 t247, .int .i8 t248, .int .i8 t249] 30 (0, 0)) (by (with_reducible repeat (first | refine blk_drewN ?_ _ | refine blk_drew ?_ | refine blk_alloc ?_ _)); exact BK251.out)) : gb265 ≠ gb251))
     have n16_ := Aside0.mk ((by rw [hg]; exact Nat.ne_of_lt (blk_lt (g := gb257) (o := .cells #[.int .i8 t252, .int .i8 t253, .slice Ao41 t254.length co41] 35 (0, 0)) (by (with_reducible repeat (first | refine blk_drewN ?_ _ | refine blk_drew ?_ | refine blk_alloc ?_ _)); exact BK257.out)) : gb257 ≠ gb265))
     have n17_ := Aside0.mk ((by rw [hg]; exact Nat.ne_of_gt (blk_lt (g := gb257) (o := .cells #[.int .i8 t252, .int .i8 t253, .slice Ao41 t254.length co41] 35 (0, 0)) (by (with_reducible repeat (first | refine blk_drewN ?_ _ | refine blk_drew ?_ | refine blk_alloc ?_ _)); exact BK257.out)) : gb265 ≠ gb257))
     clear HO243
     clear HO256
     clear BK236
     clear BK237
     clear BK251
     clear BK257
     clear HB
     have HO243 := n0_
     have HO256 := n1_
     have BK236 := n2_
     have BK237 := n3_
     have BK251 := n4_
     have BK257 := n5_
     have HB := n6_
     have BK265 := n7_
     have GW265 := n8_
     have GE265 := n9_
     have NB236_265 := n10_
     have NB265_236 := n11_
     have NB237_265 := n12_
     have NB265_237 := n13_
     have NB251_265 := n14_
     have NB265_251 := n15_
     have NB257_265 := n16_
     have NB265_257 := n17_
     clear n0_ n1_ n2_ n3_ n4_ n5_ n6_ n7_ n8_ n9_ n10_ n11_ n12_ n13_ n14_ n15_ n16_ n17_
     clear hb hbox hg
     refine hK.out _ _ ⟨(blk_cell BK257.out 0).trans rfl, (blk_cell BK257.out 1).trans rfl, (blk_cell BK257.out 2).trans rfl, (blk_cell BK237.out 0).trans rfl, (blk_cell BK237.out 1).trans rfl⟩ (fun hHeld => ?_)
     clear hK K
     refine norm_ (a' := ?_) ?_ ?_
     rotate_left
     ·show Act.put _ (some 9) _ = _
      simp only [Act.put, List.setIfInBounds_toArray, List.set_cons_zero, List.set_cons_succ, i64_w, i32_w]
      rfl
     exact norm_ (by simp only [putAll, Act.put, List.setIfInBounds_toArray, List.set_cons_zero, List.set_cons_succ]) (hCont (gb265) _ ⟨hHeld, (by (with_reducible repeat (first | apply Kd.R_alloc | apply Kd.R_drewN | apply Kd.R_drew)); exact Kd.R_mono HO243.out (fun _ hk => ⟨hk.1.1, ⟨hk.1.2, hk.2⟩⟩)), (by (with_reducible repeat (first | apply Kd.R_alloc | apply Kd.R_drewN | apply Kd.R_drew)); exact Kd.R_mono HO256.out (fun _ hk => ⟨hk.1.1, ⟨hk.1.2, hk.2⟩⟩)), (by (with_reducible repeat (first | refine blk_drewN ?_ _ | refine blk_drew ?_ | refine blk_alloc ?_ _)); exact BK236.out), (by (with_reducible repeat (first | refine blk_drewN ?_ _ | refine blk_drew ?_ | refine blk_alloc ?_ _)); exact BK237.out), (by (with_reducible repeat (first | refine blk_drewN ?_ _ | refine blk_drew ?_ | refine blk_alloc ?_ _)); exact BK251.out), (by (with_reducible repeat (first | refine blk_drewN ?_ _ | refine blk_drew ?_ | refine blk_alloc ?_ _)); exact BK257.out), (by (with_reducible repeat (first | refine blk_drewN ?_ _ | refine blk_drew ?_ | refine blk_alloc ?_ _)); exact BK265.out), GW265.out, GE265.out, NB236_265.out, NB265_236.out, NB237_265.out, NB265_237.out, NB251_265.out, NB265_251.out, NB257_265.out, NB265_257.out, (by repeat (first | (with_reducible first | exact HB.out | apply below_alloc | apply pw_below_drewN | apply below_drew1 | refine below_set ?_ GE236.out | refine below_set ?_ GE237.out | refine below_set ?_ GE251.out | refine below_set ?_ GE257.out | refine below_set ?_ GE265.out) | exact HB.out))⟩)
    ·skip
     refine box_step ?hg (N := 9) ?hd (cs := #[.int .i8 0, .int .i8 0, .int .i8 0, .int .i8 0]) (t := 30) ?hr ?_; (case hd => rfl); (case hg => rfl); (case hr => first | (go_simp; done) | (go_simp; rfl))
     intro gb265 hg w45 hbox hb
     have n0_ := Aside0.mk (Kd.R_below (Kd.R_elderB (by (with_reducible repeat (first | apply Kd.R_alloc | apply Kd.R_drewN | apply Kd.R_drew)); exact HO243.out) gb265 (Nat.le_of_eq hg.symm)) hb)
     have n1_ := Aside0.mk (Kd.R_below (Kd.R_elderB (by (with_reducible repeat (first | apply Kd.R_alloc | apply Kd.R_drewN | apply Kd.R_drew)); exact HO256.out) gb265 (Nat.le_of_eq hg.symm)) hb)
     have n2_ := Aside0.mk (blk_below (g := gb236) (o := .cells #[.int .i8 a0_0, .int .i8 a0_1, .slice A0_2 l0_2.length c0_2] 25 (0, 0)) (by (with_reducible repeat (first | refine blk_drewN ?_ _ | refine blk_drew ?_ | refine blk_alloc ?_ _)); exact BK236.out) hb)
     have n3_ := Aside0.mk (blk_below (g := gb237) (o := .cells #[.int .i8 a1_0, .bool a1_1] 27 (0, 0)) (by (with_reducible repeat (first | refine blk_drewN ?_ _ | refine blk_drew ?_ | refine blk_alloc ?_ _)); exact BK237.out) hb)
     have n4_ := Aside0.mk (blk_below (g := gb251) (o := .cells #[.int .i8 t246, .int .i8 t247, .int .i8 t248, .int .i8 t249] 30 (0, 0)) (by (with_reducible repeat (first | refine blk_drewN ?_ _ | refine blk_drew ?_ | refine blk_alloc ?_ _)); exact BK251.out) hb)
     have n5_ := Aside0.mk (blk_below (g := gb257) (o := .cells #[.int .i8 t252, .int .i8 t253, .slice Ao41 t254.length co41] 35 (0, 0)) (by (with_reducible repeat (first | refine blk_drewN ?_ _ | refine blk_drew ?_ | refine blk_alloc ?_ _)); exact BK257.out) hb)
     have n6_ := Aside0.mk (below_step (by repeat (first | (with_reducible first | exact HB.out | apply below_alloc | apply pw_below_drewN | apply below_drew1 | refine below_set ?_ GE236.out | refine below_set ?_ GE237.out | refine below_set ?_ GE251.out | refine below_set ?_ GE257.out) | exact HB.out)) hb)
     have n7_ := Aside0.mk (hbox)
     have n8_ := Aside0.mk ((by rw [hg]; exact (below_size (by repeat (first | (with_reducible first | exact HB.out | apply below_alloc | apply pw_below_drewN | apply below_drew1 | refine below_set ?_ GE236.out | refine below_set ?_ GE237.out | refine below_set ?_ GE251.out | refine below_set ?_ GE257.out) | exact HB.out))) : w.heap.size ≤ gb265))
     have n9_ := Aside0.mk ((by rw [hg]; exact (below_size (by repeat (first | (with_reducible first | exact HB.out | apply below_alloc | apply pw_below_drewN | apply below_drew1 | refine below_set ?_ GE236.out | refine below_set ?_ GE237.out | refine below_set ?_ GE251.out | refine below_set ?_ GE257.out) | exact HB.out))) : w.heap.size ≤ gb265))
     have n10_ := Aside0.mk ((by rw [hg]; exact Nat.ne_of_lt (blk_lt (g := gb236) (o := .cells #[.int .i8 a0_0, .int .i8 a0_1, .slice A0_2 l0_2.length c0_2] 25 (0, 0)) (by (with_reducible repeat (first | refine blk_drewN ?_ _ | refine blk_drew ?_ | refine blk_alloc ?_ _)); exact BK236.out)) : gb236 ≠ gb265))
     have n11_ := Aside0.mk ((by rw [hg]; exact Nat.ne_of_gt (blk_lt (g := gb236) (o := .cells #[.int .i8 a0_0, .int .i8 a0_1, .slice A0_2 l0_2.length c0_2] 25 (0, 0)) (by (with_reducible repeat (first | refine blk_drewN ?_ _ | refine blk_drew ?_ | refine blk_alloc ?_ _)); exact BK236.out)) : gb265 ≠ gb236))
     have n12_ := Aside0.mk ((by rw [hg]; exact Nat.ne_of_lt (blk_lt (g := gb237) (o := .cells #[.int .i8 a1_0, .bool a1_1] 27 (0, 0)) (by (with_reducible repeat (first | refine blk_drewN ?_ _ | refine blk_drew ?_ | refine blk_alloc ?_ _)); exact BK237.out)) : gb237 ≠ gb265))
     have n13_ := Aside0.mk ((by rw [hg]; exact Nat.ne_of_gt (blk_lt (g := gb237) (o := .cells #[.int .i8 a1_0, .bool a1_1] 27 (0, 0)) (by (with_reducible repeat (first | refine blk_drewN ?_ _ | refine blk_drew ?_ | refine blk_alloc ?_ _)); exact BK237.out)) : gb265 ≠ gb237))
     have n14_ := Aside0.mk ((by rw [hg]; exact Nat.ne_of_lt (blk_lt (g := gb251) (o := .cells #[.int .i8 t246, .int .i8 t247, .int .i8 t248, .int .i8 t249] 30 (0, 0)) (by (with_reducible repeat (first | refine blk_drewN ?_ _ | refine blk_drew ?_ | refine blk_alloc ?_ _)); exact BK251.out)) : gb251 ≠ gb265))
     have n15_ := Aside0.mk ((by rw [hg]; exact Nat.ne_of_gt (blk_lt (g := gb251) (o := .cells #[.int .i8 t246, .int .i8 t247, .int .i8 t248, .int .i8 t249] 30 (0, 0)) (by (with_reducible repeat (first | refine blk_drewN ?_ _ | refine blk_drew ?_ | refine blk_alloc ?_ _)); exact BK251.out)) : gb265 ≠ gb251))
     have n16_ := Aside0.mk ((by rw [hg]; exact Nat.ne_of_lt (blk_lt (g := gb257) (o := .cells #[.int .i8 t252, .int .i8 t253, .slice Ao41 t254.length co41] 35 (0, 0)) (by (with_reducible repeat (first | refine blk_drewN ?_ _ | refine blk_drew ?_ | refine blk_alloc ?_ _)); exact BK257.out)) : gb257 ≠ gb265))
     have n17_ := Aside0.mk ((by rw [hg]; exact Nat.ne_of_gt (blk_lt (g := gb257) (o := .cells #[.int .i8 t252, .int .i8 t253, .slice Ao41 t254.length co41] 35 (0, 0)) (by (with_reducible repeat (first | refine blk_drewN ?_ _ | refine blk_drew ?_ | refine blk_alloc ?_ _)); exact BK257.out)) : gb265 ≠ gb257))
     clear HO243
     clear HO256
     clear BK236
     clear BK237
     clear BK251
     clear BK257
     clear HB
     have HO243 := n0_
     have HO256 := n1_
     have BK236 := n2_
     have BK237 := n3_
     have BK251 := n4_
     have BK257 := n5_
     have HB := n6_
     have BK265 := n7_
     have GW265 := n8_
     have GE265 := n9_
     have NB236_265 := n10_
     have NB265_236 := n11_
     have NB237_265 := n12_
     have NB265_237 := n13_
     have NB251_265 := n14_
     have NB265_251 := n15_
     have NB257_265 := n16_
     have NB265_257 := n17_
     clear n0_ n1_ n2_ n3_ n4_ n5_ n6_ n7_ n8_ n9_ n10_ n11_ n12_ n13_ n14_ n15_ n16_ n17_
     clear hb hbox hg
     refine hK.out _ _ ⟨(blk_cell BK257.out 0).trans rfl, (blk_cell BK257.out 1).trans rfl, (blk_cell BK257.out 2).trans rfl, (blk_cell BK237.out 0).trans rfl, (blk_cell BK237.out 1).trans rfl⟩ (fun hHeld => ?_)
     clear hK K
     refine norm_ (a' := ?_) ?_ ?_
     rotate_left
     ·show Act.put _ (some 9) _ = _
      simp only [Act.put, List.setIfInBounds_toArray, List.set_cons_zero, List.set_cons_succ, i64_w, i32_w]
      rfl
     refine one_ (i := 3) (N := some 30) #[true, true, true, true, false, false, false, true, false, false] rfl rfl (one_of HT_.out (by kernel_rfl)) (by decide) (fun K hK => ?_)
     refine goes_ Try.func13 (by kernel_rfl) rfl #[.agg #[.int .i8 t252, .int .i8 t253, .slice Ao41 t254.length co41], .agg #[.int .i8 t258, .bool t259]] (by rfl) rfl rfl (by (try simp only [List.map_toArray, List.map_cons, List.map_nil]); first | done | rfl | (simp only [List.length_drop, List.length_take]; rfl)) ?_
     with_reducible refine (impl_SeenOf.calls k t252 t253 _ _ t254 t258 t259 t260 t261 t262 t263 t264 _ ?side1 ?side2 A15.out).mono ?_
     (case side1 => repeat (first | exact (Kd.R_reads' HO256.out).2.2 | (with_reducible refine Kd.C_alloc ?_ _) | (with_reducible refine Kd.C_drewN ?_ _) | (with_reducible refine Kd.C_drew ?_)))
     (case side2 => exact (Kd.R_reads' HO256.out).2.1)
     rintro e w46 ⟨rfl, hb⟩
     refine ⟨_, rfl, ?_⟩
     have n0_ := Aside0.mk (Kd.R_below (by (with_reducible repeat (first | apply Kd.R_alloc | apply Kd.R_drewN | apply Kd.R_drew)); exact HO243.out) hb)
     have n1_ := Aside0.mk (Kd.R_below (by (with_reducible repeat (first | apply Kd.R_alloc | apply Kd.R_drewN | apply Kd.R_drew)); exact HO256.out) hb)
     have n2_ := Aside0.mk (blk_below (g := gb236) (o := .cells #[.int .i8 a0_0, .int .i8 a0_1, .slice A0_2 l0_2.length c0_2] 25 (0, 0)) (by (with_reducible repeat (first | refine blk_drewN ?_ _ | refine blk_drew ?_ | refine blk_alloc ?_ _)); exact BK236.out) hb)
     have n3_ := Aside0.mk (blk_below (g := gb237) (o := .cells #[.int .i8 a1_0, .bool a1_1] 27 (0, 0)) (by (with_reducible repeat (first | refine blk_drewN ?_ _ | refine blk_drew ?_ | refine blk_alloc ?_ _)); exact BK237.out) hb)
     have n4_ := Aside0.mk (blk_below (g := gb251) (o := .cells #[.int .i8 t246, .int .i8 t247, .int .i8 t248, .int .i8 t249] 30 (0, 0)) (by (with_reducible repeat (first | refine blk_drewN ?_ _ | refine blk_drew ?_ | refine blk_alloc ?_ _)); exact BK251.out) hb)
     have n5_ := Aside0.mk (blk_below (g := gb257) (o := .cells #[.int .i8 t252, .int .i8 t253, .slice Ao41 t254.length co41] 35 (0, 0)) (by (with_reducible repeat (first | refine blk_drewN ?_ _ | refine blk_drew ?_ | refine blk_alloc ?_ _)); exact BK257.out) hb)
     have n6_ := Aside0.mk (blk_below (g := gb265) (o := .cells #[.int .i8 0, .int .i8 0, .int .i8 0, .int .i8 0] 30 (0, 0)) (by (with_reducible repeat (first | refine blk_drewN ?_ _ | refine blk_drew ?_ | refine blk_alloc ?_ _)); exact BK265.out) hb)
     have n7_ := Aside0.mk (below_step (by repeat (first | (with_reducible first | exact HB.out | apply below_alloc | apply pw_below_drewN | apply below_drew1 | refine below_set ?_ GE236.out | refine below_set ?_ GE237.out | refine below_set ?_ GE251.out | refine below_set ?_ GE257.out | refine below_set ?_ GE265.out) | exact HB.out)) hb)
     clear HO243
     clear HO256
     clear BK236
     clear BK237
     clear BK251
     clear BK257
     clear BK265
     clear HB
     have HO243 := n0_
     have HO256 := n1_
     have BK236 := n2_
     have BK237 := n3_
     have BK251 := n4_
     have BK257 := n5_
     have BK265 := n6_
     have HB := n7_
     clear n0_ n1_ n2_ n3_ n4_ n5_ n6_ n7_
     (try clear hb)
     (try clear hb2)
     (try clear hk)
     (try clear hi)
     refine hK.out _ _ ⟨(blk_cell BK257.out 0).trans rfl, (blk_cell BK257.out 1).trans rfl, (blk_cell BK257.out 2).trans rfl, (blk_cell BK237.out 0).trans rfl, (blk_cell BK237.out 1).trans rfl⟩ (fun hHeld => ?_)
     clear hK K
     refine norm_ (a' := ?_) ?_ ?_
     rotate_left
     ·show Act.put _ (some 30) _ = _
      simp only [Act.put, List.setIfInBounds_toArray, List.set_cons_zero, List.set_cons_succ, i64_w, i32_w]
      rfl
     refine pure_ (i := 4) (N := some 26) (v := ?_) (a' := ?_) #[true, true, true, true, true, false, false, true, false, false] rfl rfl (any_of HT_.out (by kernel_rfl)) (fun _ _ _ h => h) (Or.inl ⟨by rfl, ?_⟩) ?_ ?_
     rotate_left
     ·intro w'
      go_simp
      with_reducible rfl
     rotate_left
     ·simp only [Act.put, List.setIfInBounds_toArray, List.set_cons_zero, List.set_cons_succ, i64_w, i32_w]
      rfl
     refine pure_ (i := 5) (N := some 31) (v := ?_) (a' := ?_) #[true, true, true, true, true, true, false, true, false, false] rfl rfl (any_of HT_.out (by kernel_rfl)) (fun _ _ _ h => h) (Or.inl ⟨by rfl, ?_⟩) ?_ ?_
     rotate_left
     ·intro w'
      go_simp
      with_reducible rfl
     rotate_left
     ·simp only [Act.put, List.setIfInBounds_toArray, List.set_cons_zero, List.set_cons_succ, i64_w, i32_w]
      rfl
     refine pure_ (i := 6) (N := some 32) (v := ?_) (a' := ?_) #[true, true, true, true, true, true, true, true, false, false] rfl rfl (any_of HT_.out (by kernel_rfl)) (fun _ _ _ h => h) (Or.inl ⟨by rfl, ?_⟩) ?_ ?_
     rotate_left
     ·intro w'
      go_simp
      with_reducible rfl
     rotate_left
     ·simp only [Act.put, List.setIfInBounds_toArray, List.set_cons_zero, List.set_cons_succ, i64_w, i32_w]
      rfl
     exact norm_ (by simp only [putAll, Act.put, List.setIfInBounds_toArray, List.set_cons_zero, List.set_cons_succ]) (hCont (gb265) _ ⟨hHeld, (by (with_reducible repeat (first | apply Kd.R_alloc | apply Kd.R_drewN | apply Kd.R_drew)); exact Kd.R_mono HO243.out (fun _ hk => ⟨hk.1.1, ⟨hk.1.2, hk.2⟩⟩)), (by (with_reducible repeat (first | apply Kd.R_alloc | apply Kd.R_drewN | apply Kd.R_drew)); exact Kd.R_mono HO256.out (fun _ hk => ⟨hk.1.1, ⟨hk.1.2, hk.2⟩⟩)), (by (with_reducible repeat (first | refine blk_drewN ?_ _ | refine blk_drew ?_ | refine blk_alloc ?_ _)); exact BK236.out), (by (with_reducible repeat (first | refine blk_drewN ?_ _ | refine blk_drew ?_ | refine blk_alloc ?_ _)); exact BK237.out), (by (with_reducible repeat (first | refine blk_drewN ?_ _ | refine blk_drew ?_ | refine blk_alloc ?_ _)); exact BK251.out), (by (with_reducible repeat (first | refine blk_drewN ?_ _ | refine blk_drew ?_ | refine blk_alloc ?_ _)); exact BK257.out), (by (with_reducible repeat (first | refine blk_drewN ?_ _ | refine blk_drew ?_ | refine blk_alloc ?_ _)); exact BK265.out), GW265.out, GE265.out, NB236_265.out, NB265_236.out, NB237_265.out, NB265_237.out, NB251_265.out, NB265_251.out, NB257_265.out, NB265_257.out, (by repeat (first | (with_reducible first | exact HB.out | apply below_alloc | apply pw_below_drewN | apply below_drew1 | refine below_set ?_ GE236.out | refine below_set ?_ GE237.out | refine below_set ?_ GE251.out | refine below_set ?_ GE257.out | refine below_set ?_ GE265.out) | exact HB.out))⟩)
   ·skip
    refine box_step ?hg (N := 9) ?hd (cs := #[.int .i8 0, .int .i8 0, .int .i8 0, .int .i8 0]) (t := 30) ?hr ?_; (case hd => rfl); (case hg => rfl); (case hr => first | (go_simp; done) | (go_simp; rfl))
    intro gb265 hg w44 hbox hb
    have n0_ := Aside0.mk (Kd.R_below (Kd.R_elderB (by (with_reducible repeat (first | apply Kd.R_alloc | apply Kd.R_drewN | apply Kd.R_drew)); exact HO243.out) gb265 (Nat.le_of_eq hg.symm)) hb)
    have n1_ := Aside0.mk (Kd.R_below (Kd.R_elderB (by (with_reducible repeat (first | apply Kd.R_alloc | apply Kd.R_drewN | apply Kd.R_drew)); exact HO256.out) gb265 (Nat.le_of_eq hg.symm)) hb)
    have n2_ := Aside0.mk (blk_below (g := gb236) (o := .cells #[.int .i8 a0_0, .int .i8 a0_1, .slice A0_2 l0_2.length c0_2] 25 (0, 0)) (by (with_reducible repeat (first | refine blk_drewN ?_ _ | refine blk_drew ?_ | refine blk_alloc ?_ _)); exact BK236.out) hb)
    have n3_ := Aside0.mk (blk_below (g := gb237) (o := .cells #[.int .i8 a1_0, .bool a1_1] 27 (0, 0)) (by (with_reducible repeat (first | refine blk_drewN ?_ _ | refine blk_drew ?_ | refine blk_alloc ?_ _)); exact BK237.out) hb)
    have n4_ := Aside0.mk (blk_below (g := gb251) (o := .cells #[.int .i8 t246, .int .i8 t247, .int .i8 t248, .int .i8 t249] 30 (0, 0)) (by (with_reducible repeat (first | refine blk_drewN ?_ _ | refine blk_drew ?_ | refine blk_alloc ?_ _)); exact BK251.out) hb)
    have n5_ := Aside0.mk (blk_below (g := gb257) (o := .cells #[.int .i8 t252, .int .i8 t253, .slice Ao41 t254.length co41] 35 (0, 0)) (by (with_reducible repeat (first | refine blk_drewN ?_ _ | refine blk_drew ?_ | refine blk_alloc ?_ _)); exact BK257.out) hb)
    have n6_ := Aside0.mk (below_step (by repeat (first | (with_reducible first | exact HB.out | apply below_alloc | apply pw_below_drewN | apply below_drew1 | refine below_set ?_ GE236.out | refine below_set ?_ GE237.out | refine below_set ?_ GE251.out | refine below_set ?_ GE257.out) | exact HB.out)) hb)
    have n7_ := Aside0.mk (hbox)
    have n8_ := Aside0.mk ((by rw [hg]; exact (below_size (by repeat (first | (with_reducible first | exact HB.out | apply below_alloc | apply pw_below_drewN | apply below_drew1 | refine below_set ?_ GE236.out | refine below_set ?_ GE237.out | refine below_set ?_ GE251.out | refine below_set ?_ GE257.out) | exact HB.out))) : w.heap.size ≤ gb265))
    have n9_ := Aside0.mk ((by rw [hg]; exact (below_size (by repeat (first | (with_reducible first | exact HB.out | apply below_alloc | apply pw_below_drewN | apply below_drew1 | refine below_set ?_ GE236.out | refine below_set ?_ GE237.out | refine below_set ?_ GE251.out | refine below_set ?_ GE257.out) | exact HB.out))) : w.heap.size ≤ gb265))
    have n10_ := Aside0.mk ((by rw [hg]; exact Nat.ne_of_lt (blk_lt (g := gb236) (o := .cells #[.int .i8 a0_0, .int .i8 a0_1, .slice A0_2 l0_2.length c0_2] 25 (0, 0)) (by (with_reducible repeat (first | refine blk_drewN ?_ _ | refine blk_drew ?_ | refine blk_alloc ?_ _)); exact BK236.out)) : gb236 ≠ gb265))
    have n11_ := Aside0.mk ((by rw [hg]; exact Nat.ne_of_gt (blk_lt (g := gb236) (o := .cells #[.int .i8 a0_0, .int .i8 a0_1, .slice A0_2 l0_2.length c0_2] 25 (0, 0)) (by (with_reducible repeat (first | refine blk_drewN ?_ _ | refine blk_drew ?_ | refine blk_alloc ?_ _)); exact BK236.out)) : gb265 ≠ gb236))
    have n12_ := Aside0.mk ((by rw [hg]; exact Nat.ne_of_lt (blk_lt (g := gb237) (o := .cells #[.int .i8 a1_0, .bool a1_1] 27 (0, 0)) (by (with_reducible repeat (first | refine blk_drewN ?_ _ | refine blk_drew ?_ | refine blk_alloc ?_ _)); exact BK237.out)) : gb237 ≠ gb265))
    have n13_ := Aside0.mk ((by rw [hg]; exact Nat.ne_of_gt (blk_lt (g := gb237) (o := .cells #[.int .i8 a1_0, .bool a1_1] 27 (0, 0)) (by (with_reducible repeat (first | refine blk_drewN ?_ _ | refine blk_drew ?_ | refine blk_alloc ?_ _)); exact BK237.out)) : gb265 ≠ gb237))
    have n14_ := Aside0.mk ((by rw [hg]; exact Nat.ne_of_lt (blk_lt (g := gb251) (o := .cells #[.int .i8 t246, .int .i8 t247, .int .i8 t248, .int .i8 t249] 30 (0, 0)) (by (with_reducible repeat (first | refine blk_drewN ?_ _ | refine blk_drew ?_ | refine blk_alloc ?_ _)); exact BK251.out)) : gb251 ≠ gb265))
    have n15_ := Aside0.mk ((by rw [hg]; exact Nat.ne_of_gt (blk_lt (g := gb251) (o := .cells #[.int .i8 t246, .int .i8 t247, .int .i8 t248, .int .i8 t249] 30 (0, 0)) (by (with_reducible repeat (first | refine blk_drewN ?_ _ | refine blk_drew ?_ | refine blk_alloc ?_ _)); exact BK251.out)) : gb265 ≠ gb251))
    have n16_ := Aside0.mk ((by rw [hg]; exact Nat.ne_of_lt (blk_lt (g := gb257) (o := .cells #[.int .i8 t252, .int .i8 t253, .slice Ao41 t254.length co41] 35 (0, 0)) (by (with_reducible repeat (first | refine blk_drewN ?_ _ | refine blk_drew ?_ | refine blk_alloc ?_ _)); exact BK257.out)) : gb257 ≠ gb265))
    have n17_ := Aside0.mk ((by rw [hg]; exact Nat.ne_of_gt (blk_lt (g := gb257) (o := .cells #[.int .i8 t252, .int .i8 t253, .slice Ao41 t254.length co41] 35 (0, 0)) (by (with_reducible repeat (first | refine blk_drewN ?_ _ | refine blk_drew ?_ | refine blk_alloc ?_ _)); exact BK257.out)) : gb265 ≠ gb257))
    clear HO243
    clear HO256
    clear BK236
    clear BK237
    clear BK251
    clear BK257
    clear HB
    have HO243 := n0_
    have HO256 := n1_
    have BK236 := n2_
    have BK237 := n3_
    have BK251 := n4_
    have BK257 := n5_
    have HB := n6_
    have BK265 := n7_
    have GW265 := n8_
    have GE265 := n9_
    have NB236_265 := n10_
    have NB265_236 := n11_
    have NB237_265 := n12_
    have NB265_237 := n13_
    have NB251_265 := n14_
    have NB265_251 := n15_
    have NB257_265 := n16_
    have NB265_257 := n17_
    clear n0_ n1_ n2_ n3_ n4_ n5_ n6_ n7_ n8_ n9_ n10_ n11_ n12_ n13_ n14_ n15_ n16_ n17_
    clear hb hbox hg
    refine hK.out _ _ ⟨(blk_cell BK257.out 0).trans rfl, (blk_cell BK257.out 1).trans rfl, (blk_cell BK257.out 2).trans rfl, (blk_cell BK237.out 0).trans rfl, (blk_cell BK237.out 1).trans rfl⟩ (fun hHeld => ?_)
    clear hK K
    refine norm_ (a' := ?_) ?_ ?_
    rotate_left
    ·show Act.put _ (some 9) _ = _
     simp only [Act.put, List.setIfInBounds_toArray, List.set_cons_zero, List.set_cons_succ, i64_w, i32_w]
     rfl
    refine one_ (i := 2) (N := some 29) #[true, true, true, false, false, false, false, true, false, false] rfl rfl (one_of HT_.out (by kernel_rfl)) (by decide) (fun K hK => ?_)
    refine goes_ Try.func12 (by kernel_rfl) rfl #[.agg #[.int .i8 a1_0, .bool a1_1]] (by rfl) rfl rfl (by (try simp only [List.map_toArray, List.map_cons, List.map_nil]); first | done | rfl | (simp only [List.length_drop, List.length_take]; rfl)) ?_
    with_reducible refine (laws_toCase.calls a1_0 a1_1 t258 t259 _ A14.out).mono ?_
    rintro e w45 ⟨rfl, hb⟩
    refine ⟨_, rfl, ?_⟩
    have n0_ := Aside0.mk (Kd.R_below (by (with_reducible repeat (first | apply Kd.R_alloc | apply Kd.R_drewN | apply Kd.R_drew)); exact HO243.out) hb)
    have n1_ := Aside0.mk (Kd.R_below (by (with_reducible repeat (first | apply Kd.R_alloc | apply Kd.R_drewN | apply Kd.R_drew)); exact HO256.out) hb)
    have n2_ := Aside0.mk (blk_below (g := gb236) (o := .cells #[.int .i8 a0_0, .int .i8 a0_1, .slice A0_2 l0_2.length c0_2] 25 (0, 0)) (by (with_reducible repeat (first | refine blk_drewN ?_ _ | refine blk_drew ?_ | refine blk_alloc ?_ _)); exact BK236.out) hb)
    have n3_ := Aside0.mk (blk_below (g := gb237) (o := .cells #[.int .i8 a1_0, .bool a1_1] 27 (0, 0)) (by (with_reducible repeat (first | refine blk_drewN ?_ _ | refine blk_drew ?_ | refine blk_alloc ?_ _)); exact BK237.out) hb)
    have n4_ := Aside0.mk (blk_below (g := gb251) (o := .cells #[.int .i8 t246, .int .i8 t247, .int .i8 t248, .int .i8 t249] 30 (0, 0)) (by (with_reducible repeat (first | refine blk_drewN ?_ _ | refine blk_drew ?_ | refine blk_alloc ?_ _)); exact BK251.out) hb)
    have n5_ := Aside0.mk (blk_below (g := gb257) (o := .cells #[.int .i8 t252, .int .i8 t253, .slice Ao41 t254.length co41] 35 (0, 0)) (by (with_reducible repeat (first | refine blk_drewN ?_ _ | refine blk_drew ?_ | refine blk_alloc ?_ _)); exact BK257.out) hb)
    have n6_ := Aside0.mk (blk_below (g := gb265) (o := .cells #[.int .i8 0, .int .i8 0, .int .i8 0, .int .i8 0] 30 (0, 0)) (by (with_reducible repeat (first | refine blk_drewN ?_ _ | refine blk_drew ?_ | refine blk_alloc ?_ _)); exact BK265.out) hb)
    have n7_ := Aside0.mk (below_step (by repeat (first | (with_reducible first | exact HB.out | apply below_alloc | apply pw_below_drewN | apply below_drew1 | refine below_set ?_ GE236.out | refine below_set ?_ GE237.out | refine below_set ?_ GE251.out | refine below_set ?_ GE257.out | refine below_set ?_ GE265.out) | exact HB.out)) hb)
    clear HO243
    clear HO256
    clear BK236
    clear BK237
    clear BK251
    clear BK257
    clear BK265
    clear HB
    have HO243 := n0_
    have HO256 := n1_
    have BK236 := n2_
    have BK237 := n3_
    have BK251 := n4_
    have BK257 := n5_
    have BK265 := n6_
    have HB := n7_
    clear n0_ n1_ n2_ n3_ n4_ n5_ n6_ n7_
    (try clear hb)
    (try clear hb2)
    (try clear hk)
    (try clear hi)
    refine hK.out _ _ ⟨(blk_cell BK257.out 0).trans rfl, (blk_cell BK257.out 1).trans rfl, (blk_cell BK257.out 2).trans rfl, (blk_cell BK237.out 0).trans rfl, (blk_cell BK237.out 1).trans rfl⟩ (fun hHeld => ?_)
    clear hK K
    refine norm_ (a' := ?_) ?_ ?_
    rotate_left
    ·show Act.put _ (some 29) _ = _
     simp only [Act.put, List.setIfInBounds_toArray, List.set_cons_zero, List.set_cons_succ, i64_w, i32_w]
     rfl
    refine one_ (i := 3) (N := some 30) #[true, true, true, true, false, false, false, true, false, false] rfl rfl (one_of HT_.out (by kernel_rfl)) (by decide) (fun K hK => ?_)
    refine goes_ Try.func13 (by kernel_rfl) rfl #[.agg #[.int .i8 t252, .int .i8 t253, .slice Ao41 t254.length co41], .agg #[.int .i8 t258, .bool t259]] (by rfl) rfl rfl (by (try simp only [List.map_toArray, List.map_cons, List.map_nil]); first | done | rfl | (simp only [List.length_drop, List.length_take]; rfl)) ?_
    with_reducible refine (impl_SeenOf.calls k t252 t253 _ _ t254 t258 t259 t260 t261 t262 t263 t264 _ ?side1 ?side2 A15.out).mono ?_
    (case side1 => repeat (first | exact (Kd.R_reads' HO256.out).2.2 | (with_reducible refine Kd.C_alloc ?_ _) | (with_reducible refine Kd.C_drewN ?_ _) | (with_reducible refine Kd.C_drew ?_)))
    (case side2 => exact (Kd.R_reads' HO256.out).2.1)
    rintro e w46 ⟨rfl, hb⟩
    refine ⟨_, rfl, ?_⟩
    have n0_ := Aside0.mk (Kd.R_below (by (with_reducible repeat (first | apply Kd.R_alloc | apply Kd.R_drewN | apply Kd.R_drew)); exact HO243.out) hb)
    have n1_ := Aside0.mk (Kd.R_below (by (with_reducible repeat (first | apply Kd.R_alloc | apply Kd.R_drewN | apply Kd.R_drew)); exact HO256.out) hb)
    have n2_ := Aside0.mk (blk_below (g := gb236) (o := .cells #[.int .i8 a0_0, .int .i8 a0_1, .slice A0_2 l0_2.length c0_2] 25 (0, 0)) (by (with_reducible repeat (first | refine blk_drewN ?_ _ | refine blk_drew ?_ | refine blk_alloc ?_ _)); exact BK236.out) hb)
    have n3_ := Aside0.mk (blk_below (g := gb237) (o := .cells #[.int .i8 a1_0, .bool a1_1] 27 (0, 0)) (by (with_reducible repeat (first | refine blk_drewN ?_ _ | refine blk_drew ?_ | refine blk_alloc ?_ _)); exact BK237.out) hb)
    have n4_ := Aside0.mk (blk_below (g := gb251) (o := .cells #[.int .i8 t246, .int .i8 t247, .int .i8 t248, .int .i8 t249] 30 (0, 0)) (by (with_reducible repeat (first | refine blk_drewN ?_ _ | refine blk_drew ?_ | refine blk_alloc ?_ _)); exact BK251.out) hb)
    have n5_ := Aside0.mk (blk_below (g := gb257) (o := .cells #[.int .i8 t252, .int .i8 t253, .slice Ao41 t254.length co41] 35 (0, 0)) (by (with_reducible repeat (first | refine blk_drewN ?_ _ | refine blk_drew ?_ | refine blk_alloc ?_ _)); exact BK257.out) hb)
    have n6_ := Aside0.mk (blk_below (g := gb265) (o := .cells #[.int .i8 0, .int .i8 0, .int .i8 0, .int .i8 0] 30 (0, 0)) (by (with_reducible repeat (first | refine blk_drewN ?_ _ | refine blk_drew ?_ | refine blk_alloc ?_ _)); exact BK265.out) hb)
    have n7_ := Aside0.mk (below_step (by repeat (first | (with_reducible first | exact HB.out | apply below_alloc | apply pw_below_drewN | apply below_drew1 | refine below_set ?_ GE236.out | refine below_set ?_ GE237.out | refine below_set ?_ GE251.out | refine below_set ?_ GE257.out | refine below_set ?_ GE265.out) | exact HB.out)) hb)
    clear HO243
    clear HO256
    clear BK236
    clear BK237
    clear BK251
    clear BK257
    clear BK265
    clear HB
    have HO243 := n0_
    have HO256 := n1_
    have BK236 := n2_
    have BK237 := n3_
    have BK251 := n4_
    have BK257 := n5_
    have BK265 := n6_
    have HB := n7_
    clear n0_ n1_ n2_ n3_ n4_ n5_ n6_ n7_
    (try clear hb)
    (try clear hb2)
    (try clear hk)
    (try clear hi)
    refine hK.out _ _ ⟨(blk_cell BK257.out 0).trans rfl, (blk_cell BK257.out 1).trans rfl, (blk_cell BK257.out 2).trans rfl, (blk_cell BK237.out 0).trans rfl, (blk_cell BK237.out 1).trans rfl⟩ (fun hHeld => ?_)
    clear hK K
    refine norm_ (a' := ?_) ?_ ?_
    rotate_left
    ·show Act.put _ (some 30) _ = _
     simp only [Act.put, List.setIfInBounds_toArray, List.set_cons_zero, List.set_cons_succ, i64_w, i32_w]
     rfl
    refine pure_ (i := 4) (N := some 26) (v := ?_) (a' := ?_) #[true, true, true, true, true, false, false, true, false, false] rfl rfl (any_of HT_.out (by kernel_rfl)) (fun _ _ _ h => h) (Or.inl ⟨by rfl, ?_⟩) ?_ ?_
    rotate_left
    ·intro w'
     go_simp
     with_reducible rfl
    rotate_left
    ·simp only [Act.put, List.setIfInBounds_toArray, List.set_cons_zero, List.set_cons_succ, i64_w, i32_w]
     rfl
    refine pure_ (i := 5) (N := some 31) (v := ?_) (a' := ?_) #[true, true, true, true, true, true, false, true, false, false] rfl rfl (any_of HT_.out (by kernel_rfl)) (fun _ _ _ h => h) (Or.inl ⟨by rfl, ?_⟩) ?_ ?_
    rotate_left
    ·intro w'
     go_simp
     with_reducible rfl
    rotate_left
    ·simp only [Act.put, List.setIfInBounds_toArray, List.set_cons_zero, List.set_cons_succ, i64_w, i32_w]
     rfl
    refine pure_ (i := 6) (N := some 32) (v := ?_) (a' := ?_) #[true, true, true, true, true, true, true, true, false, false] rfl rfl (any_of HT_.out (by kernel_rfl)) (fun _ _ _ h => h) (Or.inl ⟨by rfl, ?_⟩) ?_ ?_
    rotate_left
    ·intro w'
     go_simp
     with_reducible rfl
    rotate_left
    ·simp only [Act.put, List.setIfInBounds_toArray, List.set_cons_zero, List.set_cons_succ, i64_w, i32_w]
     rfl
    exact norm_ (by simp only [putAll, Act.put, List.setIfInBounds_toArray, List.set_cons_zero, List.set_cons_succ]) (hCont (gb265) _ ⟨hHeld, (by (with_reducible repeat (first | apply Kd.R_alloc | apply Kd.R_drewN | apply Kd.R_drew)); exact Kd.R_mono HO243.out (fun _ hk => ⟨hk.1.1, ⟨hk.1.2, hk.2⟩⟩)), (by (with_reducible repeat (first | apply Kd.R_alloc | apply Kd.R_drewN | apply Kd.R_drew)); exact Kd.R_mono HO256.out (fun _ hk => ⟨hk.1.1, ⟨hk.1.2, hk.2⟩⟩)), (by (with_reducible repeat (first | refine blk_drewN ?_ _ | refine blk_drew ?_ | refine blk_alloc ?_ _)); exact BK236.out), (by (with_reducible repeat (first | refine blk_drewN ?_ _ | refine blk_drew ?_ | refine blk_alloc ?_ _)); exact BK237.out), (by (with_reducible repeat (first | refine blk_drewN ?_ _ | refine blk_drew ?_ | refine blk_alloc ?_ _)); exact BK251.out), (by (with_reducible repeat (first | refine blk_drewN ?_ _ | refine blk_drew ?_ | refine blk_alloc ?_ _)); exact BK257.out), (by (with_reducible repeat (first | refine blk_drewN ?_ _ | refine blk_drew ?_ | refine blk_alloc ?_ _)); exact BK265.out), GW265.out, GE265.out, NB236_265.out, NB265_236.out, NB237_265.out, NB265_237.out, NB251_265.out, NB265_251.out, NB257_265.out, NB265_257.out, (by repeat (first | (with_reducible first | exact HB.out | apply below_alloc | apply pw_below_drewN | apply below_drew1 | refine below_set ?_ GE236.out | refine below_set ?_ GE237.out | refine below_set ?_ GE251.out | refine below_set ?_ GE257.out | refine below_set ?_ GE265.out) | exact HB.out))⟩)
  rintro gb265 w47 ⟨hS_, h0_, h1_, h2_, h3_, h4_, h5_, h6_, h7_, h8_, h9_, h10_, h11_, h12_, h13_, h14_, h15_, h16_, h17_⟩
  have n0_ : Aside0 (Kd.R k30 30 w47 w.heap.size (fun k_ => some k_ ≠ (.slice Ao41 t254.length co41 : Value).ownBlock ∧ k_ ≠ gb251 ∧ k_ ≠ gb265) v242 t241) := ⟨h0_⟩
  have n1_ : Aside0 (Kd.R k30 30 w47 w.heap.size (fun k_ => some k_ ≠ (v242 : Value).ownBlock ∧ k_ ≠ gb251 ∧ k_ ≠ gb265) (.slice Ao41 t254.length co41) t254) := ⟨h1_⟩
  have n2_ : Aside0 (w47.heap[gb236]? = some (.cells #[.int .i8 a0_0, .int .i8 a0_1, .slice A0_2 l0_2.length c0_2] 25 (0, 0))) := ⟨h2_⟩
  have n3_ : Aside0 (w47.heap[gb237]? = some (.cells #[.int .i8 a1_0, .bool a1_1] 27 (0, 0))) := ⟨h3_⟩
  have n4_ : Aside0 (w47.heap[gb251]? = some (.cells #[.int .i8 t246, .int .i8 t247, .int .i8 t248, .int .i8 t249] 30 (0, 0))) := ⟨h4_⟩
  have n5_ : Aside0 (w47.heap[gb257]? = some (.cells #[.int .i8 t252, .int .i8 t253, .slice Ao41 t254.length co41] 35 (0, 0))) := ⟨h5_⟩
  have n6_ : Aside0 (w47.heap[gb265]? = some (.cells #[.int .i8 0, .int .i8 0, .int .i8 0, .int .i8 0] 30 (0, 0))) := ⟨h6_⟩
  have n7_ : Aside0 (w.heap.size ≤ gb265) := ⟨h7_⟩
  have n8_ : Aside0 (w.heap.size ≤ gb265) := ⟨h8_⟩
  have n9_ : Aside0 (gb236 ≠ gb265) := ⟨h9_⟩
  have n10_ : Aside0 (gb265 ≠ gb236) := ⟨h10_⟩
  have n11_ : Aside0 (gb237 ≠ gb265) := ⟨h11_⟩
  have n12_ : Aside0 (gb265 ≠ gb237) := ⟨h12_⟩
  have n13_ : Aside0 (gb251 ≠ gb265) := ⟨h13_⟩
  have n14_ : Aside0 (gb265 ≠ gb251) := ⟨h14_⟩
  have n15_ : Aside0 (gb257 ≠ gb265) := ⟨h15_⟩
  have n16_ : Aside0 (gb265 ≠ gb257) := ⟨h16_⟩
  have n17_ : Aside0 (Below w.heap.size w w47) := ⟨h17_⟩
  clear HO243
  clear HO256
  clear BK236
  clear BK237
  clear BK251
  clear BK257
  clear HB
  clear h0_ h1_ h2_ h3_ h4_ h5_ h6_ h7_ h8_ h9_ h10_ h11_ h12_ h13_ h14_ h15_ h16_ h17_
  have HO243 := n0_
  have HO256 := n1_
  have BK236 := n2_
  have BK237 := n3_
  have BK251 := n4_
  have BK257 := n5_
  have BK265 := n6_
  have GW265 := n7_
  have GE265 := n8_
  have NB236_265 := n9_
  have NB265_236 := n10_
  have NB237_265 := n11_
  have NB265_237 := n12_
  have NB251_265 := n13_
  have NB265_251 := n14_
  have NB257_265 := n15_
  have NB265_257 := n16_
  have HB := n17_
  clear n0_ n1_ n2_ n3_ n4_ n5_ n6_ n7_ n8_ n9_ n10_ n11_ n12_ n13_ n14_ n15_ n16_ n17_
  have hHeld : w47.cell? ⟨gb257, 0, none⟩ = some (.int .i8 t252) ∧ w47.cell? ⟨gb257, 1, none⟩ = some (.int .i8 t253) ∧ w47.cell? ⟨gb257, 2, none⟩ = some (.slice Ao41 t254.length co41) ∧ w47.cell? ⟨gb237, 0, none⟩ = some (.int .i8 a1_0) ∧ w47.cell? ⟨gb237, 1, none⟩ = some (.bool a1_1) := hS_
  refine norm_ (a' := ?_) ?_ ?_
  rotate_left
  ·simp only [putAll, Act.put, List.setIfInBounds_toArray, List.set_cons_zero, List.set_cons_succ]
   rfl
  refine one_ (i := 8) (N := none) #[true, true, true, true, true, true, true, true, true, false] rfl rfl (one_of HT_.out (by kernel_rfl)) (by decide) (fun K hK => ?_)
  have hs48 : w47.cell? ⟨gb265, 0, none⟩ = some (.int .i8 0) := (blk_cell BK265.out 0).trans rfl
  have hfs48 := blk_frozen BK265.out 0
  have hns48_0 := NB236_265.out
  have hns48_1 := NB237_265.out
  have hns48_2 := NB251_265.out
  have hns48_3 := NB257_265.out
  have hms48_0 := NB265_236.out
  have hms48_1 := NB265_237.out
  have hms48_2 := NB265_251.out
  have hms48_3 := NB265_257.out
  have hs49 : w47.cell? ⟨gb265, 1, none⟩ = some (.int .i8 0) := (blk_cell BK265.out 1).trans rfl
  have hfs49 := blk_frozen BK265.out 1
  have hns49_0 := NB236_265.out
  have hns49_1 := NB237_265.out
  have hns49_2 := NB251_265.out
  have hns49_3 := NB257_265.out
  have hms49_0 := NB265_236.out
  have hms49_1 := NB265_237.out
  have hms49_2 := NB265_251.out
  have hms49_3 := NB265_257.out
  have hs50 : w47.cell? ⟨gb265, 2, none⟩ = some (.int .i8 0) := (blk_cell BK265.out 2).trans rfl
  have hfs50 := blk_frozen BK265.out 2
  have hns50_0 := NB236_265.out
  have hns50_1 := NB237_265.out
  have hns50_2 := NB251_265.out
  have hns50_3 := NB257_265.out
  have hms50_0 := NB265_236.out
  have hms50_1 := NB265_237.out
  have hms50_2 := NB265_251.out
  have hms50_3 := NB265_257.out
  have hs51 : w47.cell? ⟨gb265, 3, none⟩ = some (.int .i8 0) := (blk_cell BK265.out 3).trans rfl
  have hfs51 := blk_frozen BK265.out 3
  have hns51_0 := NB236_265.out
  have hns51_1 := NB237_265.out
  have hns51_2 := NB251_265.out
  have hns51_3 := NB257_265.out
  have hms51_0 := NB265_236.out
  have hms51_1 := NB265_237.out
  have hms51_2 := NB265_251.out
  have hms51_3 := NB265_257.out
  refine skip_ (w1 := ?_) (by rfl) rfl ?_ ?_
  rotate_left
  ·go_simp
   rfl
  refine hK.out _ _ ⟨((cell_far (p := ⟨gb265, _, none⟩) NB257_265.out _).trans (((cell_far (p := ⟨gb265, _, none⟩) NB257_265.out _).trans (((cell_far (p := ⟨gb265, _, none⟩) NB257_265.out _).trans (((cell_far (p := ⟨gb265, _, none⟩) NB257_265.out _).trans (hHeld.1)))))))), ((cell_far (p := ⟨gb265, _, none⟩) NB257_265.out _).trans (((cell_far (p := ⟨gb265, _, none⟩) NB257_265.out _).trans (((cell_far (p := ⟨gb265, _, none⟩) NB257_265.out _).trans (((cell_far (p := ⟨gb265, _, none⟩) NB257_265.out _).trans (hHeld.2.1)))))))), ((cell_far (p := ⟨gb265, _, none⟩) NB257_265.out _).trans (((cell_far (p := ⟨gb265, _, none⟩) NB257_265.out _).trans (((cell_far (p := ⟨gb265, _, none⟩) NB257_265.out _).trans (((cell_far (p := ⟨gb265, _, none⟩) NB257_265.out _).trans (hHeld.2.2.1)))))))), ((cell_far (p := ⟨gb265, _, none⟩) NB237_265.out _).trans (((cell_far (p := ⟨gb265, _, none⟩) NB237_265.out _).trans (((cell_far (p := ⟨gb265, _, none⟩) NB237_265.out _).trans (((cell_far (p := ⟨gb265, _, none⟩) NB237_265.out _).trans (hHeld.2.2.2.1)))))))), ((cell_far (p := ⟨gb265, _, none⟩) NB237_265.out _).trans (((cell_far (p := ⟨gb265, _, none⟩) NB237_265.out _).trans (((cell_far (p := ⟨gb265, _, none⟩) NB237_265.out _).trans (((cell_far (p := ⟨gb265, _, none⟩) NB237_265.out _).trans (hHeld.2.2.2.2))))))))⟩ (fun hHeld => ?_)
  clear hK K
  refine pure_ (i := 9) (N := some 10) (v := ?_) (a' := ?_) #[true, true, true, true, true, true, true, true, true, true] rfl rfl (any_of HT_.out (by kernel_rfl)) (fun _ _ _ h => h) (Or.inl ⟨by rfl, ?_⟩) ?_ ?_
  rotate_left
  ·intro w'
   go_simp
   with_reducible rfl
  rotate_left
  ·simp only [Act.put, List.setIfInBounds_toArray, List.set_cons_zero, List.set_cons_succ, i64_w, i32_w]
   rfl
  refine done_ (done_of HT_.out (by kernel_rfl)) ?_
  go_upto_region 8 with (fail)
  go_cut [41] (fun v41 wc => ∃ (kq : Nat) (x41_15 : Bool), v41 = .bool x41_15 ∧ Aside0 (laws_FnExactSeenOf.j0 kq x41_15 a0_0 a0_1 l0_2 t252 t253 t254 = some r) ∧ Aside0 (kq ≤ k) ∧ Aside0 (Kd.R k30 30 wc w.heap.size (fun k_ => k_ ≠ gb251 ∧ k_ ≠ gb265) (.slice Ao41 t254.length co41) t254) ∧ Aside0 (wc.heap[gb236]? = some (.cells #[.int .i8 a0_0, .int .i8 a0_1, (.slice A0_2 l0_2.length c0_2)] 25 (0, 0))) ∧ Aside0 (wc.heap[gb237]? = some (.cells #[.int .i8 a1_0, .bool a1_1] 27 (0, 0))) ∧ Aside0 (wc.heap[gb251]? = some (.cells #[.int .i8 t246, .int .i8 t247, .int .i8 t248, .int .i8 t249] 30 (0, 0))) ∧ Aside0 (wc.heap[gb257]? = some (.cells #[.int .i8 t252, .int .i8 t253, (.slice Ao41 t254.length co41)] 35 (0, 0))) ∧ Aside0 (wc.heap[gb265]? = some (.cells #[.int .i8 t260, .int .i8 t261, .int .i8 t262, .int .i8 t263] 30 (0, 0))) ∧ Aside0 (Below w.heap.size w wc))
  case first =>
   have H := HC16.out
   clear HC16
   replace H := Option.bind_eq_some_iff.mp H
   obtain ⟨t266, A520, H⟩ := H
   replace H : (if t266 = true then (laws_FnExactSeenOf.j0 k (t264 != t250) a0_0 a0_1 l0_2 t252 t253 t254) else (laws_FnExactSeenOf.j0 k true a0_0 a0_1 l0_2 t252 t253 t254)) = some r := H
   have A52 := Aside0.mk A520
   clear A520
   by_cases c53 : t266 = true
   ·subst c53
    have H1 : (laws_FnExactSeenOf.j0 k (t264 != t250) a0_0 a0_1 l0_2 t252 t253 t254) = some r := by rw [if_pos rfl] at H; exact H
    clear H
    have H := H1
    clear H1
    have H' := Aside0.mk H
    clear H
    have hnb54 := NB265_236.out
    have hnc54 := NB236_265.out
    have hnb55 := NB265_237.out
    have hnc55 := NB237_265.out
    have hnb56 := NB265_251.out
    have hnc56 := NB251_265.out
    have hnb57 := NB265_257.out
    have hnc57 := NB257_265.out
    have hcz58_0 : w47.cell? ⟨gb265, 0, none⟩ = some (.int .i8 0) := (blk_cell BK265.out 0).trans rfl
    have hcz58_1 : w47.cell? ⟨gb265, 1, none⟩ = some (.int .i8 0) := (blk_cell BK265.out 1).trans rfl
    have hcz58_2 : w47.cell? ⟨gb265, 2, none⟩ = some (.int .i8 0) := (blk_cell BK265.out 2).trans rfl
    have hcz58_3 : w47.cell? ⟨gb265, 3, none⟩ = some (.int .i8 0) := (blk_cell BK265.out 3).trans rfl
    have hfz58_0 := blk_frozen BK265.out 0
    have hfz58_1 := blk_frozen BK265.out 1
    have hfz58_2 := blk_frozen BK265.out 2
    have hfz58_3 := blk_frozen BK265.out 3
    have hnb59 := NB251_236.out
    have hnc59 := NB236_251.out
    have hnb60 := NB251_237.out
    have hnc60 := NB237_251.out
    have hnb61 := NB251_257.out
    have hnc61 := NB257_251.out
    have hcz62_0 : w47.cell? ⟨gb251, 0, none⟩ = some (.int .i8 t246) := (blk_cell BK251.out 0).trans rfl
    have hcz62_1 : w47.cell? ⟨gb251, 1, none⟩ = some (.int .i8 t247) := (blk_cell BK251.out 1).trans rfl
    have hcz62_2 : w47.cell? ⟨gb251, 2, none⟩ = some (.int .i8 t248) := (blk_cell BK251.out 2).trans rfl
    have hcz62_3 : w47.cell? ⟨gb251, 3, none⟩ = some (.int .i8 t249) := (blk_cell BK251.out 3).trans rfl
    have hfz62_0 := blk_frozen BK251.out 0
    have hfz62_1 := blk_frozen BK251.out 1
    have hfz62_2 := blk_frozen BK251.out 2
    have hfz62_3 := blk_frozen BK251.out 3
    go_wp2_with (first | ((with_reducible refine gate_callee (f := 14) rfl ?_); refine goesL_ (some 35) rfl rfl Try.func14 (by kernel_rfl) rfl #[.agg #[.int .i8 t260, .int .i8 t261, .int .i8 t262, .int .i8 t263], .agg #[.int .i8 t246, .int .i8 t247, .int .i8 t248, .int .i8 t249]] rfl (by (try simp only [List.map_toArray, List.map_cons, List.map_nil]); first | done | rfl | (simp only [List.length_drop, List.length_take]; rfl)) ?_; (with_reducible refine (laws_eqWord.calls k t260 t261 t262 t263 t246 t247 t248 t249 true _ A52.out).mono ?_); rintro e w63 ⟨rfl, hb⟩; refine ⟨_, rfl, ?_⟩; have n0_ := Aside0.mk (Kd.R_below (by (with_reducible repeat (first | apply Kd.R_alloc | apply Kd.R_drewN | apply Kd.R_drew)); exact (Kd.R_mono (Kd.R_far (p := ⟨gb265, 3, none⟩) (Kd.R_far (p := ⟨gb265, 2, none⟩) (Kd.R_far (p := ⟨gb265, 1, none⟩) (Kd.R_far (p := ⟨gb265, 0, none⟩) (Kd.R_mono HO243.out (fun k_ hk => (⟨hk, hk.2.2⟩ : _ ∧ k_ ≠ gb265))) (fun _ hk => hk.2) (.int .i8 t260)) (fun _ hk => hk.2) (.int .i8 t261)) (fun _ hk => hk.2) (.int .i8 t262)) (fun _ hk => hk.2) (.int .i8 t263)) (fun _ h_ => h_.1))) hb); have n1_ := Aside0.mk (Kd.R_below (by (with_reducible repeat (first | apply Kd.R_alloc | apply Kd.R_drewN | apply Kd.R_drew)); exact (Kd.R_mono (Kd.R_far (p := ⟨gb265, 3, none⟩) (Kd.R_far (p := ⟨gb265, 2, none⟩) (Kd.R_far (p := ⟨gb265, 1, none⟩) (Kd.R_far (p := ⟨gb265, 0, none⟩) (Kd.R_mono HO256.out (fun k_ hk => (⟨hk, hk.2.2⟩ : _ ∧ k_ ≠ gb265))) (fun _ hk => hk.2) (.int .i8 t260)) (fun _ hk => hk.2) (.int .i8 t261)) (fun _ hk => hk.2) (.int .i8 t262)) (fun _ hk => hk.2) (.int .i8 t263)) (fun _ h_ => h_.1))) hb); have n2_ := Aside0.mk (blk_below (g := gb236) (o := .cells #[.int .i8 a0_0, .int .i8 a0_1, .slice A0_2 l0_2.length c0_2] 25 (0, 0)) (by (with_reducible repeat (first | refine blk_drewN ?_ _ | refine blk_drew ?_ | refine blk_alloc ?_ _)); refine blk_far ?_ NB236_265.out _; (with_reducible repeat (first | refine blk_drewN ?_ _ | refine blk_drew ?_ | refine blk_alloc ?_ _)); refine blk_far ?_ NB236_265.out _; (with_reducible repeat (first | refine blk_drewN ?_ _ | refine blk_drew ?_ | refine blk_alloc ?_ _)); refine blk_far ?_ NB236_265.out _; (with_reducible repeat (first | refine blk_drewN ?_ _ | refine blk_drew ?_ | refine blk_alloc ?_ _)); refine blk_far ?_ NB236_265.out _; (with_reducible repeat (first | refine blk_drewN ?_ _ | refine blk_drew ?_ | refine blk_alloc ?_ _)); exact BK236.out) hb); have n3_ := Aside0.mk (blk_below (g := gb237) (o := .cells #[.int .i8 a1_0, .bool a1_1] 27 (0, 0)) (by (with_reducible repeat (first | refine blk_drewN ?_ _ | refine blk_drew ?_ | refine blk_alloc ?_ _)); refine blk_far ?_ NB237_265.out _; (with_reducible repeat (first | refine blk_drewN ?_ _ | refine blk_drew ?_ | refine blk_alloc ?_ _)); refine blk_far ?_ NB237_265.out _; (with_reducible repeat (first | refine blk_drewN ?_ _ | refine blk_drew ?_ | refine blk_alloc ?_ _)); refine blk_far ?_ NB237_265.out _; (with_reducible repeat (first | refine blk_drewN ?_ _ | refine blk_drew ?_ | refine blk_alloc ?_ _)); refine blk_far ?_ NB237_265.out _; (with_reducible repeat (first | refine blk_drewN ?_ _ | refine blk_drew ?_ | refine blk_alloc ?_ _)); exact BK237.out) hb); have n4_ := Aside0.mk (blk_below (g := gb251) (o := .cells #[.int .i8 t246, .int .i8 t247, .int .i8 t248, .int .i8 t249] 30 (0, 0)) (by (with_reducible repeat (first | refine blk_drewN ?_ _ | refine blk_drew ?_ | refine blk_alloc ?_ _)); refine blk_far ?_ NB251_265.out _; (with_reducible repeat (first | refine blk_drewN ?_ _ | refine blk_drew ?_ | refine blk_alloc ?_ _)); refine blk_far ?_ NB251_265.out _; (with_reducible repeat (first | refine blk_drewN ?_ _ | refine blk_drew ?_ | refine blk_alloc ?_ _)); refine blk_far ?_ NB251_265.out _; (with_reducible repeat (first | refine blk_drewN ?_ _ | refine blk_drew ?_ | refine blk_alloc ?_ _)); refine blk_far ?_ NB251_265.out _; (with_reducible repeat (first | refine blk_drewN ?_ _ | refine blk_drew ?_ | refine blk_alloc ?_ _)); exact BK251.out) hb); have n5_ := Aside0.mk (blk_below (g := gb257) (o := .cells #[.int .i8 t252, .int .i8 t253, .slice Ao41 t254.length co41] 35 (0, 0)) (by (with_reducible repeat (first | refine blk_drewN ?_ _ | refine blk_drew ?_ | refine blk_alloc ?_ _)); refine blk_far ?_ NB257_265.out _; (with_reducible repeat (first | refine blk_drewN ?_ _ | refine blk_drew ?_ | refine blk_alloc ?_ _)); refine blk_far ?_ NB257_265.out _; (with_reducible repeat (first | refine blk_drewN ?_ _ | refine blk_drew ?_ | refine blk_alloc ?_ _)); refine blk_far ?_ NB257_265.out _; (with_reducible repeat (first | refine blk_drewN ?_ _ | refine blk_drew ?_ | refine blk_alloc ?_ _)); refine blk_far ?_ NB257_265.out _; (with_reducible repeat (first | refine blk_drewN ?_ _ | refine blk_drew ?_ | refine blk_alloc ?_ _)); exact BK257.out) hb); have n6_ := Aside0.mk (blk_below (g := gb265) (o := .cells #[.int .i8 t260, .int .i8 t261, .int .i8 t262, .int .i8 t263] 30 (0, 0)) (by (with_reducible repeat (first | refine blk_drewN ?_ _ | refine blk_drew ?_ | refine blk_alloc ?_ _)); refine blk_put (cs := #[.int .i8 t260, .int .i8 t261, .int .i8 t262, .int .i8 0]) ?_ 3 _ rfl; (with_reducible repeat (first | refine blk_drewN ?_ _ | refine blk_drew ?_ | refine blk_alloc ?_ _)); refine blk_put (cs := #[.int .i8 t260, .int .i8 t261, .int .i8 0, .int .i8 0]) ?_ 2 _ rfl; (with_reducible repeat (first | refine blk_drewN ?_ _ | refine blk_drew ?_ | refine blk_alloc ?_ _)); refine blk_put (cs := #[.int .i8 t260, .int .i8 0, .int .i8 0, .int .i8 0]) ?_ 1 _ rfl; (with_reducible repeat (first | refine blk_drewN ?_ _ | refine blk_drew ?_ | refine blk_alloc ?_ _)); refine blk_put (cs := #[.int .i8 0, .int .i8 0, .int .i8 0, .int .i8 0]) ?_ 0 _ rfl; (with_reducible repeat (first | refine blk_drewN ?_ _ | refine blk_drew ?_ | refine blk_alloc ?_ _)); exact BK265.out) hb); have n7_ := Aside0.mk (below_step (by repeat (first | (with_reducible first | exact HB.out | apply below_alloc | apply pw_below_drewN | apply below_drew1 | refine below_set ?_ GE236.out | refine below_set ?_ GE237.out | refine below_set ?_ GE251.out | refine below_set ?_ GE257.out | refine below_set ?_ GE265.out) | exact HB.out)) hb); clear HO243; clear HO256; clear BK236; clear BK237; clear BK251; clear BK257; clear BK265; clear HB; have HO243 := n0_; have HO256 := n1_; have BK236 := n2_; have BK237 := n3_; have BK251 := n4_; have BK257 := n5_; have BK265 := n6_; have HB := n7_; clear n0_ n1_ n2_ n3_ n4_ n5_ n6_ n7_; (try clear hb); (try clear hb2); (try clear hk); (try clear hi)))
    go_meet
    case rel => exact ⟨_, ((t264 != t250)), (by first | rfl | (simp; done) | (simp [*]; done)), H', ⟨by first | omega | exact Nat.le_refl _⟩, ⟨by (with_reducible repeat (first | apply Kd.R_alloc | apply Kd.R_drewN | apply Kd.R_drew)); exact Kd.R_mono HO256.out (fun _ hk => ⟨hk.2.1, hk.2.2⟩)⟩, ⟨by (with_reducible repeat (first | refine blk_drewN ?_ _ | refine blk_drew ?_ | refine blk_alloc ?_ _)); exact BK236.out⟩, ⟨by (with_reducible repeat (first | refine blk_drewN ?_ _ | refine blk_drew ?_ | refine blk_alloc ?_ _)); exact BK237.out⟩, ⟨by (with_reducible repeat (first | refine blk_drewN ?_ _ | refine blk_drew ?_ | refine blk_alloc ?_ _)); exact BK251.out⟩, ⟨by (with_reducible repeat (first | refine blk_drewN ?_ _ | refine blk_drew ?_ | refine blk_alloc ?_ _)); exact BK257.out⟩, ⟨by (with_reducible repeat (first | refine blk_drewN ?_ _ | refine blk_drew ?_ | refine blk_alloc ?_ _)); exact BK265.out⟩, ⟨by repeat (first | (with_reducible first | exact HB.out | apply below_alloc | apply pw_below_drewN | apply below_drew1 | refine below_set ?_ GE236.out | refine below_set ?_ GE237.out | refine below_set ?_ GE251.out | refine below_set ?_ GE257.out | refine below_set ?_ GE265.out) | exact HB.out)⟩⟩
   ·replace c53 := Bool.eq_false_iff.mpr c53
    subst c53
    have H1 : (laws_FnExactSeenOf.j0 k true a0_0 a0_1 l0_2 t252 t253 t254) = some r := by rw [if_neg (show ¬ (false = true) by decide)] at H; exact H
    clear H
    have H := H1
    clear H1
    have H' := Aside0.mk H
    clear H
    have hnb64 := NB265_236.out
    have hnc64 := NB236_265.out
    have hnb65 := NB265_237.out
    have hnc65 := NB237_265.out
    have hnb66 := NB265_251.out
    have hnc66 := NB251_265.out
    have hnb67 := NB265_257.out
    have hnc67 := NB257_265.out
    have hcz68_0 : w47.cell? ⟨gb265, 0, none⟩ = some (.int .i8 0) := (blk_cell BK265.out 0).trans rfl
    have hcz68_1 : w47.cell? ⟨gb265, 1, none⟩ = some (.int .i8 0) := (blk_cell BK265.out 1).trans rfl
    have hcz68_2 : w47.cell? ⟨gb265, 2, none⟩ = some (.int .i8 0) := (blk_cell BK265.out 2).trans rfl
    have hcz68_3 : w47.cell? ⟨gb265, 3, none⟩ = some (.int .i8 0) := (blk_cell BK265.out 3).trans rfl
    have hfz68_0 := blk_frozen BK265.out 0
    have hfz68_1 := blk_frozen BK265.out 1
    have hfz68_2 := blk_frozen BK265.out 2
    have hfz68_3 := blk_frozen BK265.out 3
    have hnb69 := NB251_236.out
    have hnc69 := NB236_251.out
    have hnb70 := NB251_237.out
    have hnc70 := NB237_251.out
    have hnb71 := NB251_257.out
    have hnc71 := NB257_251.out
    have hcz72_0 : w47.cell? ⟨gb251, 0, none⟩ = some (.int .i8 t246) := (blk_cell BK251.out 0).trans rfl
    have hcz72_1 : w47.cell? ⟨gb251, 1, none⟩ = some (.int .i8 t247) := (blk_cell BK251.out 1).trans rfl
    have hcz72_2 : w47.cell? ⟨gb251, 2, none⟩ = some (.int .i8 t248) := (blk_cell BK251.out 2).trans rfl
    have hcz72_3 : w47.cell? ⟨gb251, 3, none⟩ = some (.int .i8 t249) := (blk_cell BK251.out 3).trans rfl
    have hfz72_0 := blk_frozen BK251.out 0
    have hfz72_1 := blk_frozen BK251.out 1
    have hfz72_2 := blk_frozen BK251.out 2
    have hfz72_3 := blk_frozen BK251.out 3
    go_wp2_with (first | ((with_reducible refine gate_callee (f := 14) rfl ?_); refine goesL_ (some 35) rfl rfl Try.func14 (by kernel_rfl) rfl #[.agg #[.int .i8 t260, .int .i8 t261, .int .i8 t262, .int .i8 t263], .agg #[.int .i8 t246, .int .i8 t247, .int .i8 t248, .int .i8 t249]] rfl (by (try simp only [List.map_toArray, List.map_cons, List.map_nil]); first | done | rfl | (simp only [List.length_drop, List.length_take]; rfl)) ?_; (with_reducible refine (laws_eqWord.calls k t260 t261 t262 t263 t246 t247 t248 t249 false _ A52.out).mono ?_); rintro e w73 ⟨rfl, hb⟩; refine ⟨_, rfl, ?_⟩; have n0_ := Aside0.mk (Kd.R_below (by (with_reducible repeat (first | apply Kd.R_alloc | apply Kd.R_drewN | apply Kd.R_drew)); exact (Kd.R_mono (Kd.R_far (p := ⟨gb265, 3, none⟩) (Kd.R_far (p := ⟨gb265, 2, none⟩) (Kd.R_far (p := ⟨gb265, 1, none⟩) (Kd.R_far (p := ⟨gb265, 0, none⟩) (Kd.R_mono HO243.out (fun k_ hk => (⟨hk, hk.2.2⟩ : _ ∧ k_ ≠ gb265))) (fun _ hk => hk.2) (.int .i8 t260)) (fun _ hk => hk.2) (.int .i8 t261)) (fun _ hk => hk.2) (.int .i8 t262)) (fun _ hk => hk.2) (.int .i8 t263)) (fun _ h_ => h_.1))) hb); have n1_ := Aside0.mk (Kd.R_below (by (with_reducible repeat (first | apply Kd.R_alloc | apply Kd.R_drewN | apply Kd.R_drew)); exact (Kd.R_mono (Kd.R_far (p := ⟨gb265, 3, none⟩) (Kd.R_far (p := ⟨gb265, 2, none⟩) (Kd.R_far (p := ⟨gb265, 1, none⟩) (Kd.R_far (p := ⟨gb265, 0, none⟩) (Kd.R_mono HO256.out (fun k_ hk => (⟨hk, hk.2.2⟩ : _ ∧ k_ ≠ gb265))) (fun _ hk => hk.2) (.int .i8 t260)) (fun _ hk => hk.2) (.int .i8 t261)) (fun _ hk => hk.2) (.int .i8 t262)) (fun _ hk => hk.2) (.int .i8 t263)) (fun _ h_ => h_.1))) hb); have n2_ := Aside0.mk (blk_below (g := gb236) (o := .cells #[.int .i8 a0_0, .int .i8 a0_1, .slice A0_2 l0_2.length c0_2] 25 (0, 0)) (by (with_reducible repeat (first | refine blk_drewN ?_ _ | refine blk_drew ?_ | refine blk_alloc ?_ _)); refine blk_far ?_ NB236_265.out _; (with_reducible repeat (first | refine blk_drewN ?_ _ | refine blk_drew ?_ | refine blk_alloc ?_ _)); refine blk_far ?_ NB236_265.out _; (with_reducible repeat (first | refine blk_drewN ?_ _ | refine blk_drew ?_ | refine blk_alloc ?_ _)); refine blk_far ?_ NB236_265.out _; (with_reducible repeat (first | refine blk_drewN ?_ _ | refine blk_drew ?_ | refine blk_alloc ?_ _)); refine blk_far ?_ NB236_265.out _; (with_reducible repeat (first | refine blk_drewN ?_ _ | refine blk_drew ?_ | refine blk_alloc ?_ _)); exact BK236.out) hb); have n3_ := Aside0.mk (blk_below (g := gb237) (o := .cells #[.int .i8 a1_0, .bool a1_1] 27 (0, 0)) (by (with_reducible repeat (first | refine blk_drewN ?_ _ | refine blk_drew ?_ | refine blk_alloc ?_ _)); refine blk_far ?_ NB237_265.out _; (with_reducible repeat (first | refine blk_drewN ?_ _ | refine blk_drew ?_ | refine blk_alloc ?_ _)); refine blk_far ?_ NB237_265.out _; (with_reducible repeat (first | refine blk_drewN ?_ _ | refine blk_drew ?_ | refine blk_alloc ?_ _)); refine blk_far ?_ NB237_265.out _; (with_reducible repeat (first | refine blk_drewN ?_ _ | refine blk_drew ?_ | refine blk_alloc ?_ _)); refine blk_far ?_ NB237_265.out _; (with_reducible repeat (first | refine blk_drewN ?_ _ | refine blk_drew ?_ | refine blk_alloc ?_ _)); exact BK237.out) hb); have n4_ := Aside0.mk (blk_below (g := gb251) (o := .cells #[.int .i8 t246, .int .i8 t247, .int .i8 t248, .int .i8 t249] 30 (0, 0)) (by (with_reducible repeat (first | refine blk_drewN ?_ _ | refine blk_drew ?_ | refine blk_alloc ?_ _)); refine blk_far ?_ NB251_265.out _; (with_reducible repeat (first | refine blk_drewN ?_ _ | refine blk_drew ?_ | refine blk_alloc ?_ _)); refine blk_far ?_ NB251_265.out _; (with_reducible repeat (first | refine blk_drewN ?_ _ | refine blk_drew ?_ | refine blk_alloc ?_ _)); refine blk_far ?_ NB251_265.out _; (with_reducible repeat (first | refine blk_drewN ?_ _ | refine blk_drew ?_ | refine blk_alloc ?_ _)); refine blk_far ?_ NB251_265.out _; (with_reducible repeat (first | refine blk_drewN ?_ _ | refine blk_drew ?_ | refine blk_alloc ?_ _)); exact BK251.out) hb); have n5_ := Aside0.mk (blk_below (g := gb257) (o := .cells #[.int .i8 t252, .int .i8 t253, .slice Ao41 t254.length co41] 35 (0, 0)) (by (with_reducible repeat (first | refine blk_drewN ?_ _ | refine blk_drew ?_ | refine blk_alloc ?_ _)); refine blk_far ?_ NB257_265.out _; (with_reducible repeat (first | refine blk_drewN ?_ _ | refine blk_drew ?_ | refine blk_alloc ?_ _)); refine blk_far ?_ NB257_265.out _; (with_reducible repeat (first | refine blk_drewN ?_ _ | refine blk_drew ?_ | refine blk_alloc ?_ _)); refine blk_far ?_ NB257_265.out _; (with_reducible repeat (first | refine blk_drewN ?_ _ | refine blk_drew ?_ | refine blk_alloc ?_ _)); refine blk_far ?_ NB257_265.out _; (with_reducible repeat (first | refine blk_drewN ?_ _ | refine blk_drew ?_ | refine blk_alloc ?_ _)); exact BK257.out) hb); have n6_ := Aside0.mk (blk_below (g := gb265) (o := .cells #[.int .i8 t260, .int .i8 t261, .int .i8 t262, .int .i8 t263] 30 (0, 0)) (by (with_reducible repeat (first | refine blk_drewN ?_ _ | refine blk_drew ?_ | refine blk_alloc ?_ _)); refine blk_put (cs := #[.int .i8 t260, .int .i8 t261, .int .i8 t262, .int .i8 0]) ?_ 3 _ rfl; (with_reducible repeat (first | refine blk_drewN ?_ _ | refine blk_drew ?_ | refine blk_alloc ?_ _)); refine blk_put (cs := #[.int .i8 t260, .int .i8 t261, .int .i8 0, .int .i8 0]) ?_ 2 _ rfl; (with_reducible repeat (first | refine blk_drewN ?_ _ | refine blk_drew ?_ | refine blk_alloc ?_ _)); refine blk_put (cs := #[.int .i8 t260, .int .i8 0, .int .i8 0, .int .i8 0]) ?_ 1 _ rfl; (with_reducible repeat (first | refine blk_drewN ?_ _ | refine blk_drew ?_ | refine blk_alloc ?_ _)); refine blk_put (cs := #[.int .i8 0, .int .i8 0, .int .i8 0, .int .i8 0]) ?_ 0 _ rfl; (with_reducible repeat (first | refine blk_drewN ?_ _ | refine blk_drew ?_ | refine blk_alloc ?_ _)); exact BK265.out) hb); have n7_ := Aside0.mk (below_step (by repeat (first | (with_reducible first | exact HB.out | apply below_alloc | apply pw_below_drewN | apply below_drew1 | refine below_set ?_ GE236.out | refine below_set ?_ GE237.out | refine below_set ?_ GE251.out | refine below_set ?_ GE257.out | refine below_set ?_ GE265.out) | exact HB.out)) hb); clear HO243; clear HO256; clear BK236; clear BK237; clear BK251; clear BK257; clear BK265; clear HB; have HO243 := n0_; have HO256 := n1_; have BK236 := n2_; have BK237 := n3_; have BK251 := n4_; have BK257 := n5_; have BK265 := n6_; have HB := n7_; clear n0_ n1_ n2_ n3_ n4_ n5_ n6_ n7_; (try clear hb); (try clear hb2); (try clear hk); (try clear hi)))
    go_meet
    case rel => exact ⟨_, (true), (by first | rfl | (simp; done) | (simp [*]; done)), H', ⟨by first | omega | exact Nat.le_refl _⟩, ⟨by (with_reducible repeat (first | apply Kd.R_alloc | apply Kd.R_drewN | apply Kd.R_drew)); exact Kd.R_mono HO256.out (fun _ hk => ⟨hk.2.1, hk.2.2⟩)⟩, ⟨by (with_reducible repeat (first | refine blk_drewN ?_ _ | refine blk_drew ?_ | refine blk_alloc ?_ _)); exact BK236.out⟩, ⟨by (with_reducible repeat (first | refine blk_drewN ?_ _ | refine blk_drew ?_ | refine blk_alloc ?_ _)); exact BK237.out⟩, ⟨by (with_reducible repeat (first | refine blk_drewN ?_ _ | refine blk_drew ?_ | refine blk_alloc ?_ _)); exact BK251.out⟩, ⟨by (with_reducible repeat (first | refine blk_drewN ?_ _ | refine blk_drew ?_ | refine blk_alloc ?_ _)); exact BK257.out⟩, ⟨by (with_reducible repeat (first | refine blk_drewN ?_ _ | refine blk_drew ?_ | refine blk_alloc ?_ _)); exact BK265.out⟩, ⟨by repeat (first | (with_reducible first | exact HB.out | apply below_alloc | apply pw_below_drewN | apply below_drew1 | refine below_set ?_ GE236.out | refine below_set ?_ GE237.out | refine below_set ?_ GE251.out | refine below_set ?_ GE257.out | refine below_set ?_ GE265.out) | exact HB.out)⟩⟩
  case rest =>
   clear HC16
   try clear c1
   try clear p2
   try clear c5
   try clear c6
   try clear c7
   try clear c12
   try clear c13
   try clear c14
   try clear c53
   try clear c54
   try clear c55
   try clear c56
   try clear c57
   try clear c59
   try clear c60
   try clear c61
   try clear c64
   try clear c65
   try clear c66
   try clear c67
   try clear c69
   try clear c70
   try clear c71
   try clear hcz58_0
   try clear hcz58_1
   try clear hcz58_2
   try clear hcz58_3
   try clear hcz62_0
   try clear hcz62_1
   try clear hcz62_2
   try clear hcz62_3
   try clear hcz68_0
   try clear hcz68_1
   try clear hcz68_2
   try clear hcz68_3
   try clear hcz72_0
   try clear hcz72_1
   try clear hcz72_2
   try clear hcz72_3
   try clear hfz58_0
   try clear hfz58_1
   try clear hfz58_2
   try clear hfz58_3
   try clear hfz62_0
   try clear hfz62_1
   try clear hfz62_2
   try clear hfz62_3
   try clear hfz68_0
   try clear hfz68_1
   try clear hfz68_2
   try clear hfz68_3
   try clear hfz72_0
   try clear hfz72_1
   try clear hfz72_2
   try clear hfz72_3
   obtain ⟨kq, x41_15, rfl, HA, HJ15, HO_258002, BK236, BK237, BK251, BK257, BK265, HB⟩ := hcut
   cases kq with
   | zero => exact absurd HA.out (by simp [laws_FnExactSeenOf.j0])
   | succ kj15 =>
    have H := HA.out
    clear HA
    simp only [laws_FnExactSeenOf.j0] at H
    by_cases c74 : x41_15 = true
    ·subst c74
     have H1 : (some false) = some r := by rw [if_pos rfl] at H; exact H
     clear H
     have H := H1
     clear H1
     obtain rfl := Option.some.inj H
     go_wp2
     go_ret
     exact ⟨by first | rfl | (simp [errW_none, errW_some] <;> rfl) | (simp [*, errW_none, errW_some] <;> rfl), by repeat (first | (with_reducible first | exact HB.out | apply below_alloc | apply pw_below_drewN | apply below_drew1 | refine below_set ?_ GE236.out | refine below_set ?_ GE237.out | refine below_set ?_ GE251.out | refine below_set ?_ GE257.out | refine below_set ?_ GE265.out) | exact HB.out)⟩
    ·replace c74 := Bool.eq_false_iff.mpr c74
     subst c74
     have H1 : ((laws_toFixed.f kj15 a0_0 a0_1 l0_2).bind fun bt267 => ((laws_eqFixed.f kj15 t252 t253 t254 bt267.1 bt267.2.1 bt267.2.2).bind fun t272 => (if t272 = true then (some true) else (some false)))) = some r := by rw [if_neg (show ¬ (false = true) by decide)] at H; exact H
     clear H
     have H := H1
     clear H1
     replace H := Option.bind_eq_some_iff.mp H
     obtain ⟨⟨t267, t268, t269⟩, A750, H⟩ := H
     replace H : ((laws_eqFixed.f kj15 t252 t253 t254 t267 t268 t269).bind fun t272 => (if t272 = true then (some true) else (some false))) = some r := H
     have A75 := Aside0.mk A750
     clear A750
     replace H := Option.bind_eq_some_iff.mp H
     obtain ⟨t272, A760, H⟩ := H
     replace H : (if t272 = true then (some true) else (some false)) = some r := H
     have A76 := Aside0.mk A760
     clear A760
     by_cases c77 : t272 = true
     ·subst c77
      have H1 : (some true) = some r := by rw [if_pos rfl] at H; exact H
      clear H
      have H := H1
      clear H1
      obtain rfl := Option.some.inj H
      try go_wp2
      have n0_ := Aside0.mk (Kd.R_drew HO_258002.out)
      have n1_ := Aside0.mk (blk_drew BK236.out)
      have n2_ := Aside0.mk (blk_drew BK237.out)
      have n3_ := Aside0.mk (blk_drew BK251.out)
      have n4_ := Aside0.mk (blk_drew BK257.out)
      have n5_ := Aside0.mk (blk_drew BK265.out)
      have n6_ := Aside0.mk (below_drew1 HB.out)
      clear HO_258002
      clear BK236
      clear BK237
      clear BK251
      clear BK257
      clear BK265
      clear HB
      have HO_258002 := n0_
      have BK236 := n1_
      have BK237 := n2_
      have BK251 := n3_
      have BK257 := n4_
      have BK265 := n5_
      have HB := n6_
      clear n0_ n1_ n2_ n3_ n4_ n5_ n6_
      refine start_ (n := 5) (S := fun w' => w'.cell? ⟨gb257, 0, none⟩ = some (.int .i8 t252) ∧ w'.cell? ⟨gb257, 1, none⟩ = some (.int .i8 t253) ∧ w'.cell? ⟨gb257, 2, none⟩ = some (.slice Ao41 t254.length co41) ∧ w'.cell? ⟨gb236, 0, none⟩ = some (.int .i8 a0_0) ∧ w'.cell? ⟨gb236, 1, none⟩ = some (.int .i8 a0_1) ∧ w'.cell? ⟨gb236, 2, none⟩ = some (.slice A0_2 l0_2.length c0_2)) (ds := []) #[false, false, false, false, false] (by kernel_rfl) rfl rfl ⟨(blk_cell BK257.out 0).trans rfl, (blk_cell BK257.out 1).trans rfl, (blk_cell BK257.out 2).trans rfl, (blk_cell BK236.out 0).trans rfl, (blk_cell BK236.out 1).trans rfl, (blk_cell BK236.out 2).trans rfl⟩ (fun hHeld => ?_)
      generalize wc.drew = w78 at HO_258002 BK236 BK237 BK251 BK257 BK265 HB hHeld ⊢
      refine take_ (i := 0) (N := some 42) (v := ?_) (a' := ?_) #[true, false, false, false, false] rfl rfl (by kernel_rfl) (fun _ _ _ h => h) (Or.inl ⟨by rfl, ?_⟩) hHeld ?_ ?_
      rotate_left
      ·rintro w' ⟨s0, s1, s2, s3, s4, s5⟩
       go_simp
       with_reducible rfl
      rotate_left
      ·simp only [Act.put, List.setIfInBounds_toArray, List.set_cons_zero, List.set_cons_succ, i64_w, i32_w]
       rfl
      refine take_ (i := 1) (N := some 43) (v := ?_) (a' := ?_) #[true, true, false, false, false] rfl rfl (by kernel_rfl) (fun _ _ _ h => h) (Or.inl ⟨by rfl, ?_⟩) hHeld ?_ ?_
      rotate_left
      ·rintro w' ⟨s0, s1, s2, s3, s4, s5⟩
       go_simp
       with_reducible rfl
      rotate_left
      ·simp only [Act.put, List.setIfInBounds_toArray, List.set_cons_zero, List.set_cons_succ, i64_w, i32_w]
       rfl
      refine one_ (i := 2) (N := some 44) #[true, true, true, false, false] rfl rfl (by kernel_rfl) (by decide) (fun K hK => ?_)
      refine goes_ Try.func11 (by kernel_rfl) rfl #[.agg #[.int .i8 a0_0, .int .i8 a0_1, .slice A0_2 l0_2.length c0_2]] (by rfl) rfl rfl (by (try simp only [List.map_toArray, List.map_cons, List.map_nil]); first | done | rfl | (simp only [List.length_drop, List.length_take]; rfl)) ?_
      with_reducible refine (laws_toFixed.calls kj15 a0_0 a0_1 _ _ l0_2 t267 t268 t269 _ ?side1 ?side2 A75.out).mono ?_
      (case side1 => repeat (first | exact (Kd.C_below HR0_2.out HB.out) | (with_reducible refine Kd.C_alloc ?_ _) | (with_reducible refine Kd.C_drewN ?_ _) | (with_reducible refine Kd.C_drew ?_)))
      (case side2 => exact HC0_2.out)
      rintro e w79 ⟨v270, rfl, ho0, hb⟩
      refine ⟨_, rfl, ?_⟩
      have n0_ := Aside0.mk (Kd.R_elder' (by (with_reducible repeat (first | apply Kd.R_alloc | apply Kd.R_drewN | apply Kd.R_drew)); exact HO_258002.out) (Kd.R_base ho0) hb)
      have n1_ := Aside0.mk (Kd.R_lower (Kd.R_newB (Kd.R_newB (Kd.R_new' ho0 (Kd.R_lt (by (with_reducible repeat (first | apply Kd.R_alloc | apply Kd.R_drewN | apply Kd.R_drew)); exact HO_258002.out))) (g := gb251) (o := .cells #[.int .i8 t246, .int .i8 t247, .int .i8 t248, .int .i8 t249] 30 (0, 0)) (by (with_reducible repeat (first | refine blk_drewN ?_ _ | refine blk_drew ?_ | refine blk_alloc ?_ _)); exact BK251.out)) (g := gb265) (o := .cells #[.int .i8 t260, .int .i8 t261, .int .i8 t262, .int .i8 t263] 30 (0, 0)) (by (with_reducible repeat (first | refine blk_drewN ?_ _ | refine blk_drew ?_ | refine blk_alloc ?_ _)); exact BK265.out)) (below_size (by repeat (first | (with_reducible first | exact HB.out | apply below_alloc | apply pw_below_drewN | apply below_drew1 | refine below_set ?_ GE236.out | refine below_set ?_ GE237.out | refine below_set ?_ GE251.out | refine below_set ?_ GE257.out | refine below_set ?_ GE265.out) | exact HB.out))))
      have n2_ := Aside0.mk (blk_below (g := gb236) (o := .cells #[.int .i8 a0_0, .int .i8 a0_1, .slice A0_2 l0_2.length c0_2] 25 (0, 0)) (by (with_reducible repeat (first | refine blk_drewN ?_ _ | refine blk_drew ?_ | refine blk_alloc ?_ _)); exact BK236.out) hb)
      have n3_ := Aside0.mk (blk_below (g := gb237) (o := .cells #[.int .i8 a1_0, .bool a1_1] 27 (0, 0)) (by (with_reducible repeat (first | refine blk_drewN ?_ _ | refine blk_drew ?_ | refine blk_alloc ?_ _)); exact BK237.out) hb)
      have n4_ := Aside0.mk (blk_below (g := gb251) (o := .cells #[.int .i8 t246, .int .i8 t247, .int .i8 t248, .int .i8 t249] 30 (0, 0)) (by (with_reducible repeat (first | refine blk_drewN ?_ _ | refine blk_drew ?_ | refine blk_alloc ?_ _)); exact BK251.out) hb)
      have n5_ := Aside0.mk (blk_below (g := gb257) (o := .cells #[.int .i8 t252, .int .i8 t253, .slice Ao41 t254.length co41] 35 (0, 0)) (by (with_reducible repeat (first | refine blk_drewN ?_ _ | refine blk_drew ?_ | refine blk_alloc ?_ _)); exact BK257.out) hb)
      have n6_ := Aside0.mk (blk_below (g := gb265) (o := .cells #[.int .i8 t260, .int .i8 t261, .int .i8 t262, .int .i8 t263] 30 (0, 0)) (by (with_reducible repeat (first | refine blk_drewN ?_ _ | refine blk_drew ?_ | refine blk_alloc ?_ _)); exact BK265.out) hb)
      have n7_ := Aside0.mk (below_step (by repeat (first | (with_reducible first | exact HB.out | apply below_alloc | apply pw_below_drewN | apply below_drew1 | refine below_set ?_ GE236.out | refine below_set ?_ GE237.out | refine below_set ?_ GE251.out | refine below_set ?_ GE257.out | refine below_set ?_ GE265.out) | exact HB.out)) hb)
      clear HO_258002
      clear BK236
      clear BK237
      clear BK251
      clear BK257
      clear BK265
      clear HB
      have HO_258002 := n0_
      have HO271 := n1_
      have BK236 := n2_
      have BK237 := n3_
      have BK251 := n4_
      have BK257 := n5_
      have BK265 := n6_
      have HB := n7_
      clear n0_ n1_ n2_ n3_ n4_ n5_ n6_ n7_
      (try clear hb)
      (try clear hb2)
      (try clear hk)
      (try clear hi)
      (try clear ho0)
      obtain ⟨Ao80, co80, eo80⟩ := Kd.R_slice HO271.out
      (first | subst eo80 | (injection eo80 with f1_ f2_ f3_; have f4_ := f1_.symm; have f5_ := f3_.symm; clear f1_ f2_ f3_; subst f4_; subst f5_))
      refine hK.out _ _ ⟨(blk_cell BK257.out 0).trans rfl, (blk_cell BK257.out 1).trans rfl, (blk_cell BK257.out 2).trans rfl, (blk_cell BK236.out 0).trans rfl, (blk_cell BK236.out 1).trans rfl, (blk_cell BK236.out 2).trans rfl⟩ (fun hHeld => ?_)
      clear hK K
      refine norm_ (a' := ?_) ?_ ?_
      rotate_left
      ·show Act.put _ (some 44) _ = _
       simp only [Act.put, List.setIfInBounds_toArray, List.set_cons_zero, List.set_cons_succ, i64_w, i32_w]
       rfl
      refine one_ (i := 3) (N := some 45) #[true, true, true, true, false] rfl rfl (by kernel_rfl) (by decide) (fun K hK => ?_)
      refine goes_ Try.func15 (by kernel_rfl) rfl #[.agg #[.int .i8 t252, .int .i8 t253, .slice Ao41 t254.length co41], .agg #[.int .i8 t267, .int .i8 t268, .slice Ao80 t269.length co80]] (by rfl) rfl rfl (by (try simp only [List.map_toArray, List.map_cons, List.map_nil]); first | done | rfl | (simp only [List.length_drop, List.length_take]; rfl)) ?_
      with_reducible refine (laws_eqFixed.calls kj15 t252 t253 _ _ t254 t267 t268 _ _ t269 true _ ?side1 ?side2 ?side3 ?side4 A76.out).mono ?_
      (case side1 => repeat (first | exact (Kd.R_reads' HO_258002.out).2.2 | (with_reducible refine Kd.C_alloc ?_ _) | (with_reducible refine Kd.C_drewN ?_ _) | (with_reducible refine Kd.C_drew ?_)))
      (case side2 => exact (Kd.R_reads' HO_258002.out).2.1)
      (case side3 => repeat (first | exact (Kd.R_reads' HO271.out).2.2 | (with_reducible refine Kd.C_alloc ?_ _) | (with_reducible refine Kd.C_drewN ?_ _) | (with_reducible refine Kd.C_drew ?_)))
      (case side4 => exact (Kd.R_reads' HO271.out).2.1)
      rintro e w81 ⟨rfl, hb⟩
      refine ⟨_, rfl, ?_⟩
      have n0_ := Aside0.mk (Kd.R_below (by (with_reducible repeat (first | apply Kd.R_alloc | apply Kd.R_drewN | apply Kd.R_drew)); exact HO_258002.out) hb)
      have n1_ := Aside0.mk (Kd.R_below (by (with_reducible repeat (first | apply Kd.R_alloc | apply Kd.R_drewN | apply Kd.R_drew)); exact HO271.out) hb)
      have n2_ := Aside0.mk (blk_below (g := gb236) (o := .cells #[.int .i8 a0_0, .int .i8 a0_1, .slice A0_2 l0_2.length c0_2] 25 (0, 0)) (by (with_reducible repeat (first | refine blk_drewN ?_ _ | refine blk_drew ?_ | refine blk_alloc ?_ _)); exact BK236.out) hb)
      have n3_ := Aside0.mk (blk_below (g := gb237) (o := .cells #[.int .i8 a1_0, .bool a1_1] 27 (0, 0)) (by (with_reducible repeat (first | refine blk_drewN ?_ _ | refine blk_drew ?_ | refine blk_alloc ?_ _)); exact BK237.out) hb)
      have n4_ := Aside0.mk (blk_below (g := gb251) (o := .cells #[.int .i8 t246, .int .i8 t247, .int .i8 t248, .int .i8 t249] 30 (0, 0)) (by (with_reducible repeat (first | refine blk_drewN ?_ _ | refine blk_drew ?_ | refine blk_alloc ?_ _)); exact BK251.out) hb)
      have n5_ := Aside0.mk (blk_below (g := gb257) (o := .cells #[.int .i8 t252, .int .i8 t253, .slice Ao41 t254.length co41] 35 (0, 0)) (by (with_reducible repeat (first | refine blk_drewN ?_ _ | refine blk_drew ?_ | refine blk_alloc ?_ _)); exact BK257.out) hb)
      have n6_ := Aside0.mk (blk_below (g := gb265) (o := .cells #[.int .i8 t260, .int .i8 t261, .int .i8 t262, .int .i8 t263] 30 (0, 0)) (by (with_reducible repeat (first | refine blk_drewN ?_ _ | refine blk_drew ?_ | refine blk_alloc ?_ _)); exact BK265.out) hb)
      have n7_ := Aside0.mk (below_step (by repeat (first | (with_reducible first | exact HB.out | apply below_alloc | apply pw_below_drewN | apply below_drew1 | refine below_set ?_ GE236.out | refine below_set ?_ GE237.out | refine below_set ?_ GE251.out | refine below_set ?_ GE257.out | refine below_set ?_ GE265.out) | exact HB.out)) hb)
      clear HO_258002
      clear HO271
      clear BK236
      clear BK237
      clear BK251
      clear BK257
      clear BK265
      clear HB
      have HO_258002 := n0_
      have HO271 := n1_
      have BK236 := n2_
      have BK237 := n3_
      have BK251 := n4_
      have BK257 := n5_
      have BK265 := n6_
      have HB := n7_
      clear n0_ n1_ n2_ n3_ n4_ n5_ n6_ n7_
      (try clear hb)
      (try clear hb2)
      (try clear hk)
      (try clear hi)
      refine hK.out _ _ ⟨(blk_cell BK257.out 0).trans rfl, (blk_cell BK257.out 1).trans rfl, (blk_cell BK257.out 2).trans rfl, (blk_cell BK236.out 0).trans rfl, (blk_cell BK236.out 1).trans rfl, (blk_cell BK236.out 2).trans rfl⟩ (fun hHeld => ?_)
      clear hK K
      refine norm_ (a' := ?_) ?_ ?_
      rotate_left
      ·show Act.put _ (some 45) _ = _
       simp only [Act.put, List.setIfInBounds_toArray, List.set_cons_zero, List.set_cons_succ, i64_w, i32_w]
       rfl
      refine pure_ (i := 4) (N := some 46) (v := ?_) (a' := ?_) #[true, true, true, true, true] rfl rfl (by kernel_rfl) (fun _ _ _ h => h) (Or.inl ⟨by rfl, ?_⟩) ?_ ?_
      rotate_left
      ·intro w'
       go_simp
       with_reducible rfl
      rotate_left
      ·simp only [Act.put, List.setIfInBounds_toArray, List.set_cons_zero, List.set_cons_succ, i64_w, i32_w]
       rfl
      refine done_ (by kernel_rfl) ?_
      try go_wp2
      go_ret
      exact ⟨by first | rfl | (simp [errW_none, errW_some] <;> rfl) | (simp [*, errW_none, errW_some] <;> rfl), by repeat (first | (with_reducible first | exact HB.out | apply below_alloc | apply pw_below_drewN | apply below_drew1 | refine below_set ?_ GE236.out | refine below_set ?_ GE237.out | refine below_set ?_ GE251.out | refine below_set ?_ GE257.out | refine below_set ?_ GE265.out) | exact HB.out)⟩
     ·replace c77 := Bool.eq_false_iff.mpr c77
      subst c77
      have H1 : (some false) = some r := by rw [if_neg (show ¬ (false = true) by decide)] at H; exact H
      clear H
      have H := H1
      clear H1
      obtain rfl := Option.some.inj H
      try go_wp2
      have n0_ := Aside0.mk (Kd.R_drew HO_258002.out)
      have n1_ := Aside0.mk (blk_drew BK236.out)
      have n2_ := Aside0.mk (blk_drew BK237.out)
      have n3_ := Aside0.mk (blk_drew BK251.out)
      have n4_ := Aside0.mk (blk_drew BK257.out)
      have n5_ := Aside0.mk (blk_drew BK265.out)
      have n6_ := Aside0.mk (below_drew1 HB.out)
      clear HO_258002
      clear BK236
      clear BK237
      clear BK251
      clear BK257
      clear BK265
      clear HB
      have HO_258002 := n0_
      have BK236 := n1_
      have BK237 := n2_
      have BK251 := n3_
      have BK257 := n4_
      have BK265 := n5_
      have HB := n6_
      clear n0_ n1_ n2_ n3_ n4_ n5_ n6_
      refine start_ (n := 5) (S := fun w' => w'.cell? ⟨gb257, 0, none⟩ = some (.int .i8 t252) ∧ w'.cell? ⟨gb257, 1, none⟩ = some (.int .i8 t253) ∧ w'.cell? ⟨gb257, 2, none⟩ = some (.slice Ao41 t254.length co41) ∧ w'.cell? ⟨gb236, 0, none⟩ = some (.int .i8 a0_0) ∧ w'.cell? ⟨gb236, 1, none⟩ = some (.int .i8 a0_1) ∧ w'.cell? ⟨gb236, 2, none⟩ = some (.slice A0_2 l0_2.length c0_2)) (ds := []) #[false, false, false, false, false] (by kernel_rfl) rfl rfl ⟨(blk_cell BK257.out 0).trans rfl, (blk_cell BK257.out 1).trans rfl, (blk_cell BK257.out 2).trans rfl, (blk_cell BK236.out 0).trans rfl, (blk_cell BK236.out 1).trans rfl, (blk_cell BK236.out 2).trans rfl⟩ (fun hHeld => ?_)
      generalize wc.drew = w82 at HO_258002 BK236 BK237 BK251 BK257 BK265 HB hHeld ⊢
      refine take_ (i := 0) (N := some 42) (v := ?_) (a' := ?_) #[true, false, false, false, false] rfl rfl (by kernel_rfl) (fun _ _ _ h => h) (Or.inl ⟨by rfl, ?_⟩) hHeld ?_ ?_
      rotate_left
      ·rintro w' ⟨s0, s1, s2, s3, s4, s5⟩
       go_simp
       with_reducible rfl
      rotate_left
      ·simp only [Act.put, List.setIfInBounds_toArray, List.set_cons_zero, List.set_cons_succ, i64_w, i32_w]
       rfl
      refine take_ (i := 1) (N := some 43) (v := ?_) (a' := ?_) #[true, true, false, false, false] rfl rfl (by kernel_rfl) (fun _ _ _ h => h) (Or.inl ⟨by rfl, ?_⟩) hHeld ?_ ?_
      rotate_left
      ·rintro w' ⟨s0, s1, s2, s3, s4, s5⟩
       go_simp
       with_reducible rfl
      rotate_left
      ·simp only [Act.put, List.setIfInBounds_toArray, List.set_cons_zero, List.set_cons_succ, i64_w, i32_w]
       rfl
      refine one_ (i := 2) (N := some 44) #[true, true, true, false, false] rfl rfl (by kernel_rfl) (by decide) (fun K hK => ?_)
      refine goes_ Try.func11 (by kernel_rfl) rfl #[.agg #[.int .i8 a0_0, .int .i8 a0_1, .slice A0_2 l0_2.length c0_2]] (by rfl) rfl rfl (by (try simp only [List.map_toArray, List.map_cons, List.map_nil]); first | done | rfl | (simp only [List.length_drop, List.length_take]; rfl)) ?_
      with_reducible refine (laws_toFixed.calls kj15 a0_0 a0_1 _ _ l0_2 t267 t268 t269 _ ?side1 ?side2 A75.out).mono ?_
      (case side1 => repeat (first | exact (Kd.C_below HR0_2.out HB.out) | (with_reducible refine Kd.C_alloc ?_ _) | (with_reducible refine Kd.C_drewN ?_ _) | (with_reducible refine Kd.C_drew ?_)))
      (case side2 => exact HC0_2.out)
      rintro e w83 ⟨v270, rfl, ho0, hb⟩
      refine ⟨_, rfl, ?_⟩
      have n0_ := Aside0.mk (Kd.R_elder' (by (with_reducible repeat (first | apply Kd.R_alloc | apply Kd.R_drewN | apply Kd.R_drew)); exact HO_258002.out) (Kd.R_base ho0) hb)
      have n1_ := Aside0.mk (Kd.R_lower (Kd.R_newB (Kd.R_newB (Kd.R_new' ho0 (Kd.R_lt (by (with_reducible repeat (first | apply Kd.R_alloc | apply Kd.R_drewN | apply Kd.R_drew)); exact HO_258002.out))) (g := gb251) (o := .cells #[.int .i8 t246, .int .i8 t247, .int .i8 t248, .int .i8 t249] 30 (0, 0)) (by (with_reducible repeat (first | refine blk_drewN ?_ _ | refine blk_drew ?_ | refine blk_alloc ?_ _)); exact BK251.out)) (g := gb265) (o := .cells #[.int .i8 t260, .int .i8 t261, .int .i8 t262, .int .i8 t263] 30 (0, 0)) (by (with_reducible repeat (first | refine blk_drewN ?_ _ | refine blk_drew ?_ | refine blk_alloc ?_ _)); exact BK265.out)) (below_size (by repeat (first | (with_reducible first | exact HB.out | apply below_alloc | apply pw_below_drewN | apply below_drew1 | refine below_set ?_ GE236.out | refine below_set ?_ GE237.out | refine below_set ?_ GE251.out | refine below_set ?_ GE257.out | refine below_set ?_ GE265.out) | exact HB.out))))
      have n2_ := Aside0.mk (blk_below (g := gb236) (o := .cells #[.int .i8 a0_0, .int .i8 a0_1, .slice A0_2 l0_2.length c0_2] 25 (0, 0)) (by (with_reducible repeat (first | refine blk_drewN ?_ _ | refine blk_drew ?_ | refine blk_alloc ?_ _)); exact BK236.out) hb)
      have n3_ := Aside0.mk (blk_below (g := gb237) (o := .cells #[.int .i8 a1_0, .bool a1_1] 27 (0, 0)) (by (with_reducible repeat (first | refine blk_drewN ?_ _ | refine blk_drew ?_ | refine blk_alloc ?_ _)); exact BK237.out) hb)
      have n4_ := Aside0.mk (blk_below (g := gb251) (o := .cells #[.int .i8 t246, .int .i8 t247, .int .i8 t248, .int .i8 t249] 30 (0, 0)) (by (with_reducible repeat (first | refine blk_drewN ?_ _ | refine blk_drew ?_ | refine blk_alloc ?_ _)); exact BK251.out) hb)
      have n5_ := Aside0.mk (blk_below (g := gb257) (o := .cells #[.int .i8 t252, .int .i8 t253, .slice Ao41 t254.length co41] 35 (0, 0)) (by (with_reducible repeat (first | refine blk_drewN ?_ _ | refine blk_drew ?_ | refine blk_alloc ?_ _)); exact BK257.out) hb)
      have n6_ := Aside0.mk (blk_below (g := gb265) (o := .cells #[.int .i8 t260, .int .i8 t261, .int .i8 t262, .int .i8 t263] 30 (0, 0)) (by (with_reducible repeat (first | refine blk_drewN ?_ _ | refine blk_drew ?_ | refine blk_alloc ?_ _)); exact BK265.out) hb)
      have n7_ := Aside0.mk (below_step (by repeat (first | (with_reducible first | exact HB.out | apply below_alloc | apply pw_below_drewN | apply below_drew1 | refine below_set ?_ GE236.out | refine below_set ?_ GE237.out | refine below_set ?_ GE251.out | refine below_set ?_ GE257.out | refine below_set ?_ GE265.out) | exact HB.out)) hb)
      clear HO_258002
      clear BK236
      clear BK237
      clear BK251
      clear BK257
      clear BK265
      clear HB
      have HO_258002 := n0_
      have HO271 := n1_
      have BK236 := n2_
      have BK237 := n3_
      have BK251 := n4_
      have BK257 := n5_
      have BK265 := n6_
      have HB := n7_
      clear n0_ n1_ n2_ n3_ n4_ n5_ n6_ n7_
      (try clear hb)
      (try clear hb2)
      (try clear hk)
      (try clear hi)
      (try clear ho0)
      obtain ⟨Ao84, co84, eo84⟩ := Kd.R_slice HO271.out
      (first | subst eo84 | (injection eo84 with f1_ f2_ f3_; have f4_ := f1_.symm; have f5_ := f3_.symm; clear f1_ f2_ f3_; subst f4_; subst f5_))
      refine hK.out _ _ ⟨(blk_cell BK257.out 0).trans rfl, (blk_cell BK257.out 1).trans rfl, (blk_cell BK257.out 2).trans rfl, (blk_cell BK236.out 0).trans rfl, (blk_cell BK236.out 1).trans rfl, (blk_cell BK236.out 2).trans rfl⟩ (fun hHeld => ?_)
      clear hK K
      refine norm_ (a' := ?_) ?_ ?_
      rotate_left
      ·show Act.put _ (some 44) _ = _
       simp only [Act.put, List.setIfInBounds_toArray, List.set_cons_zero, List.set_cons_succ, i64_w, i32_w]
       rfl
      refine one_ (i := 3) (N := some 45) #[true, true, true, true, false] rfl rfl (by kernel_rfl) (by decide) (fun K hK => ?_)
      refine goes_ Try.func15 (by kernel_rfl) rfl #[.agg #[.int .i8 t252, .int .i8 t253, .slice Ao41 t254.length co41], .agg #[.int .i8 t267, .int .i8 t268, .slice Ao84 t269.length co84]] (by rfl) rfl rfl (by (try simp only [List.map_toArray, List.map_cons, List.map_nil]); first | done | rfl | (simp only [List.length_drop, List.length_take]; rfl)) ?_
      with_reducible refine (laws_eqFixed.calls kj15 t252 t253 _ _ t254 t267 t268 _ _ t269 false _ ?side1 ?side2 ?side3 ?side4 A76.out).mono ?_
      (case side1 => repeat (first | exact (Kd.R_reads' HO_258002.out).2.2 | (with_reducible refine Kd.C_alloc ?_ _) | (with_reducible refine Kd.C_drewN ?_ _) | (with_reducible refine Kd.C_drew ?_)))
      (case side2 => exact (Kd.R_reads' HO_258002.out).2.1)
      (case side3 => repeat (first | exact (Kd.R_reads' HO271.out).2.2 | (with_reducible refine Kd.C_alloc ?_ _) | (with_reducible refine Kd.C_drewN ?_ _) | (with_reducible refine Kd.C_drew ?_)))
      (case side4 => exact (Kd.R_reads' HO271.out).2.1)
      rintro e w85 ⟨rfl, hb⟩
      refine ⟨_, rfl, ?_⟩
      have n0_ := Aside0.mk (Kd.R_below (by (with_reducible repeat (first | apply Kd.R_alloc | apply Kd.R_drewN | apply Kd.R_drew)); exact HO_258002.out) hb)
      have n1_ := Aside0.mk (Kd.R_below (by (with_reducible repeat (first | apply Kd.R_alloc | apply Kd.R_drewN | apply Kd.R_drew)); exact HO271.out) hb)
      have n2_ := Aside0.mk (blk_below (g := gb236) (o := .cells #[.int .i8 a0_0, .int .i8 a0_1, .slice A0_2 l0_2.length c0_2] 25 (0, 0)) (by (with_reducible repeat (first | refine blk_drewN ?_ _ | refine blk_drew ?_ | refine blk_alloc ?_ _)); exact BK236.out) hb)
      have n3_ := Aside0.mk (blk_below (g := gb237) (o := .cells #[.int .i8 a1_0, .bool a1_1] 27 (0, 0)) (by (with_reducible repeat (first | refine blk_drewN ?_ _ | refine blk_drew ?_ | refine blk_alloc ?_ _)); exact BK237.out) hb)
      have n4_ := Aside0.mk (blk_below (g := gb251) (o := .cells #[.int .i8 t246, .int .i8 t247, .int .i8 t248, .int .i8 t249] 30 (0, 0)) (by (with_reducible repeat (first | refine blk_drewN ?_ _ | refine blk_drew ?_ | refine blk_alloc ?_ _)); exact BK251.out) hb)
      have n5_ := Aside0.mk (blk_below (g := gb257) (o := .cells #[.int .i8 t252, .int .i8 t253, .slice Ao41 t254.length co41] 35 (0, 0)) (by (with_reducible repeat (first | refine blk_drewN ?_ _ | refine blk_drew ?_ | refine blk_alloc ?_ _)); exact BK257.out) hb)
      have n6_ := Aside0.mk (blk_below (g := gb265) (o := .cells #[.int .i8 t260, .int .i8 t261, .int .i8 t262, .int .i8 t263] 30 (0, 0)) (by (with_reducible repeat (first | refine blk_drewN ?_ _ | refine blk_drew ?_ | refine blk_alloc ?_ _)); exact BK265.out) hb)
      have n7_ := Aside0.mk (below_step (by repeat (first | (with_reducible first | exact HB.out | apply below_alloc | apply pw_below_drewN | apply below_drew1 | refine below_set ?_ GE236.out | refine below_set ?_ GE237.out | refine below_set ?_ GE251.out | refine below_set ?_ GE257.out | refine below_set ?_ GE265.out) | exact HB.out)) hb)
      clear HO_258002
      clear HO271
      clear BK236
      clear BK237
      clear BK251
      clear BK257
      clear BK265
      clear HB
      have HO_258002 := n0_
      have HO271 := n1_
      have BK236 := n2_
      have BK237 := n3_
      have BK251 := n4_
      have BK257 := n5_
      have BK265 := n6_
      have HB := n7_
      clear n0_ n1_ n2_ n3_ n4_ n5_ n6_ n7_
      (try clear hb)
      (try clear hb2)
      (try clear hk)
      (try clear hi)
      refine hK.out _ _ ⟨(blk_cell BK257.out 0).trans rfl, (blk_cell BK257.out 1).trans rfl, (blk_cell BK257.out 2).trans rfl, (blk_cell BK236.out 0).trans rfl, (blk_cell BK236.out 1).trans rfl, (blk_cell BK236.out 2).trans rfl⟩ (fun hHeld => ?_)
      clear hK K
      refine norm_ (a' := ?_) ?_ ?_
      rotate_left
      ·show Act.put _ (some 45) _ = _
       simp only [Act.put, List.setIfInBounds_toArray, List.set_cons_zero, List.set_cons_succ, i64_w, i32_w]
       rfl
      refine pure_ (i := 4) (N := some 46) (v := ?_) (a' := ?_) #[true, true, true, true, true] rfl rfl (by kernel_rfl) (fun _ _ _ h => h) (Or.inl ⟨by rfl, ?_⟩) ?_ ?_
      rotate_left
      ·intro w'
       go_simp
       with_reducible rfl
      rotate_left
      ·simp only [Act.put, List.setIfInBounds_toArray, List.set_cons_zero, List.set_cons_succ, i64_w, i32_w]
       rfl
      refine done_ (by kernel_rfl) ?_
      try go_wp2
      go_ret
      exact ⟨by first | rfl | (simp [errW_none, errW_some] <;> rfl) | (simp [*, errW_none, errW_some] <;> rfl), by repeat (first | (with_reducible first | exact HB.out | apply below_alloc | apply pw_below_drewN | apply below_drew1 | refine below_set ?_ GE236.out | refine below_set ?_ GE237.out | refine below_set ?_ GE251.out | refine below_set ?_ GE257.out | refine below_set ?_ GE265.out) | exact HB.out)⟩

end Go.Proofs.Ytkllpdekkhhhnaa.M
