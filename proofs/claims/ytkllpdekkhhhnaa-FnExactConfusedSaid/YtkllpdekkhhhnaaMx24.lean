-- By this seat's own program over the kit's printer (arrays, functions told by hand); nothing of it is trusted: the kernel checks it.
import Derived.Test.YtkllpdekkhhhnaaMx0
import Derived.Test.YtkllpdekkhhhnaaMx2
import Derived.Test.YtkllpdekkhhhnaaMx3
import Derived.Test.YtkllpdekkhhhnaaMx6
import Derived.Test.YtkllpdekkhhhnaaMx19
import Derived.Test.YtkllpdekkhhhnaaMx20
import Derived.Test.YtkllpdekkhhhnaaMx23
namespace Go.Proofs.Ytkllpdekkhhhnaa.M
open Go.RowKit Go.Proofs.YtkllpdekkhhhnaaW.PrintWords Go.Proofs.YtkllpdekkhhhnaaW.PrintLast Go.Proofs.YtkllpdekkhhhnaaW.PrintMore
attribute [local go_sem] max2_int min2_int max_two min_two max_three min_three max_four min_four   -- for this text's walks alone
set_option linter.unusedVariables false
set_option linter.unusedSimpArgs false

/-! ### laws_FnExactConfused: function 5 -/
def laws_FnExactConfused.j0 : Nat → Bool → Int → Int → List (S29) → Int → Int → List (S30) → Option (Bool)
 | 0, _, _, _, _, _, _, _ => none
 | k + 1, x45, x315000, x315001, x315002, x334000, x334001, x334002 => if x45 = true then (some false) else ((laws_toFixed.f k x315000 x315001 x315002).bind fun bt343 => ((laws_eqFixed.f k x334000 x334001 x334002 bt343.1 bt343.2.1 bt343.2.2).bind fun t348 => (if t348 = true then (some true) else (some false))))
def laws_FnExactConfused.f (k : Nat) (a0_0 : Int) (a0_1 : Int) (l0_2 : List (S29)) : Option (Bool) := (laws_szFixed.f a0_0 a0_1 l0_2 1048576).bind fun t315 => (if t315 < 0 then (some true) else ((laws_toFixed.f k a0_0 a0_1 l0_2).bind fun bt316 => ((spec_Confused.f k bt316.1 bt316.2.1 bt316.2.2).bind fun bt321 => ((laws_toFixed.f k a0_0 a0_1 l0_2).bind fun bt328 => ((impl_Confused.f k bt328.1 bt328.2.1 bt328.2.2).bind fun bt334 => ((laws_eqCase.f bt334.1 bt334.2.1 bt321.1 bt321.2.1).bind fun t341 => (if t341 = true then ((laws_eqCase.f bt334.2.2.1 bt334.2.2.2.1 bt321.2.2.1 bt321.2.2.2.1).bind fun t342 => (if t342 = true then (laws_FnExactConfused.j0 k (bt334.2.2.2.2 != bt321.2.2.2.2) a0_0 a0_1 l0_2 bt328.1 bt328.2.1 bt328.2.2) else (laws_FnExactConfused.j0 k true a0_0 a0_1 l0_2 bt328.1 bt328.2.1 bt328.2.2))) else (laws_FnExactConfused.j0 k true a0_0 a0_1 l0_2 bt328.1 bt328.2.1 bt328.2.2))))))))
theorem laws_FnExactConfused.mono_l : ∀ k, (∀ y0 y1 y2 y3 y4 y5 y6, LeO (laws_FnExactConfused.j0 k y0 y1 y2 y3 y4 y5 y6) (laws_FnExactConfused.j0 (k + 1) y0 y1 y2 y3 y4 y5 y6))
 | 0 => fun _ _ _ _ _ _ _ r h => by simp [laws_FnExactConfused.j0] at h
 | k + 1 => by
  have ih0 := laws_FnExactConfused.mono_l k
  ·intro y0 y1 y2 y3 y4 y5 y6
   unfold laws_FnExactConfused.j0
   repeat' first
   | (with_reducible exact ih0 _ _ _ _ _ _ _)
   | (with_reducible exact impl_Confused.mono _ _ _ _)
   | (with_reducible exact laws_eqFixed.mono _ _ _ _ _ _ _)
   | (with_reducible exact laws_toFixed.mono _ _ _ _)
   | (with_reducible exact spec_Confused.mono _ _ _ _)
   | (with_reducible exact LeO.refl _)
   | (with_reducible exact LeO.none _)
   | (with_reducible refine LeO.ite ?_ ?_)
   | (with_reducible refine LeO.bind ?_ (fun _ => ?_))
   | exact ih0 _ _ _ _ _ _ _
   | exact impl_Confused.mono _ _ _ _
   | exact laws_eqFixed.mono _ _ _ _ _ _ _
   | exact laws_toFixed.mono _ _ _ _
   | exact spec_Confused.mono _ _ _ _
   | exact LeO.none _
   | refine LeO.ite ?_ ?_
   | refine LeO.bind ?_ (fun _ => ?_)
theorem laws_FnExactConfused.mono : ∀ a0 a1 a2 k, LeO (laws_FnExactConfused.f k a0 a1 a2) (laws_FnExactConfused.f (k + 1) a0 a1 a2) := by
 intro a0 a1 a2 k
 have ih0 := laws_FnExactConfused.mono_l k
 unfold laws_FnExactConfused.f
 repeat' first
   | (with_reducible exact ih0 _ _ _ _ _ _ _)
   | (with_reducible exact impl_Confused.mono _ _ _ _)
   | (with_reducible exact laws_eqFixed.mono _ _ _ _ _ _ _)
   | (with_reducible exact laws_toFixed.mono _ _ _ _)
   | (with_reducible exact spec_Confused.mono _ _ _ _)
   | (with_reducible exact LeO.refl _)
   | (with_reducible exact LeO.none _)
   | (with_reducible refine LeO.ite ?_ ?_)
   | (with_reducible refine LeO.bind ?_ (fun _ => ?_))
   | exact ih0 _ _ _ _ _ _ _
   | exact impl_Confused.mono _ _ _ _
   | exact laws_eqFixed.mono _ _ _ _ _ _ _
   | exact laws_toFixed.mono _ _ _ _
   | exact spec_Confused.mono _ _ _ _
   | exact LeO.none _
   | refine LeO.ite ?_ ?_
   | refine LeO.bind ?_ (fun _ => ?_)
set_option maxHeartbeats 8000000 in
set_option maxRecDepth 100000 in
theorem laws_FnExactConfused.calls (k : Nat) (a0_0 : Int) (a0_1 : Int) (A0_2 : Option Addr) (c0_2 : Nat) (l0_2 : List (S29)) (r : Bool) (w : World) (hr0_2 : Kd.C k29 w A0_2 l0_2.length l0_2) (hc0_2 : l0_2.length ≤ c0_2) (h : laws_FnExactConfused.f k a0_0 a0_1 l0_2 = some r) :
  Calls Try.prog 5 #[.agg #[.int .i8 a0_0, .int .i8 a0_1, .slice A0_2 l0_2.length c0_2]] w fun e w' => e = .returned (.bool r) ∧ Below w.heap.size w w' := by
 have hu25 := Try.underlying25
 have hu37 := Try.underlying37
 have hu35 := Try.underlying35
 have HR0_2 := Aside0.mk hr0_2
 have HC0_2 := Aside0.mk hc0_2
 clear hr0_2 hc0_2
 have HB := Aside0.mk (Below.refl w.heap.size w)
 have H : ((laws_szFixed.f a0_0 a0_1 l0_2 1048576).bind fun t315 => (if t315 < 0 then (some true) else ((laws_toFixed.f k a0_0 a0_1 l0_2).bind fun bt316 => ((spec_Confused.f k bt316.1 bt316.2.1 bt316.2.2).bind fun bt321 => ((laws_toFixed.f k a0_0 a0_1 l0_2).bind fun bt328 => ((impl_Confused.f k bt328.1 bt328.2.1 bt328.2.2).bind fun bt334 => ((laws_eqCase.f bt334.1 bt334.2.1 bt321.1 bt321.2.1).bind fun t341 => (if t341 = true then ((laws_eqCase.f bt334.2.2.1 bt334.2.2.2.1 bt321.2.2.1 bt321.2.2.2.1).bind fun t342 => (if t342 = true then (laws_FnExactConfused.j0 k (bt334.2.2.2.2 != bt321.2.2.2.2) a0_0 a0_1 l0_2 bt328.1 bt328.2.1 bt328.2.2) else (laws_FnExactConfused.j0 k true a0_0 a0_1 l0_2 bt328.1 bt328.2.1 bt328.2.2))) else (laws_FnExactConfused.j0 k true a0_0 a0_1 l0_2 bt328.1 bt328.2.1 bt328.2.2))))))))) = some r := h
 clear h
 replace H := Option.bind_eq_some_iff.mp H
 obtain ⟨t315, A20, H⟩ := H
 replace H : (if t315 < 0 then (some true) else ((laws_toFixed.f k a0_0 a0_1 l0_2).bind fun bt316 => ((spec_Confused.f k bt316.1 bt316.2.1 bt316.2.2).bind fun bt321 => ((laws_toFixed.f k a0_0 a0_1 l0_2).bind fun bt328 => ((impl_Confused.f k bt328.1 bt328.2.1 bt328.2.2).bind fun bt334 => ((laws_eqCase.f bt334.1 bt334.2.1 bt321.1 bt321.2.1).bind fun t341 => (if t341 = true then ((laws_eqCase.f bt334.2.2.1 bt334.2.2.2.1 bt321.2.2.1 bt321.2.2.2.1).bind fun t342 => (if t342 = true then (laws_FnExactConfused.j0 k (bt334.2.2.2.2 != bt321.2.2.2.2) a0_0 a0_1 l0_2 bt328.1 bt328.2.1 bt328.2.2) else (laws_FnExactConfused.j0 k true a0_0 a0_1 l0_2 bt328.1 bt328.2.1 bt328.2.2))) else (laws_FnExactConfused.j0 k true a0_0 a0_1 l0_2 bt328.1 bt328.2.1 bt328.2.2)))))))) = some r := H
 have A2 := Aside0.mk A20
 clear A20
 by_cases c3 : t315 < 0
 ·rw [if_pos c3] at H
  have c3b0 : decide (t315 < 0) = true := decide_eq_true c3
  clear c3
  obtain rfl := Option.some.inj H
  go_enter Try.func5, Try.ntmps5
  go_wp2_with (first | ((with_reducible refine gate_dst (N := 1) rfl ?_); refine box_event ?hg (N := 1) ?hd (cs := #[.int .i8 a0_0, .int .i8 a0_1, .slice A0_2 l0_2.length c0_2]) (t := 25) ?hr ?_; (case hd => rfl); (case hg => rfl); (case hr => first | (go_simp; done) | (go_simp; rfl)); intro gb314 hg w4 hbox hb; have n0_ := Aside0.mk (below_step (bl_ HB) hb); have n1_ := Aside0.mk (hbox); have n2_ := Aside0.mk ((by rw [hg]; exact (below_size (bl_ HB)) : w.heap.size ≤ gb314)); have n3_ := Aside0.mk ((by rw [hg]; exact (below_size (bl_ HB)) : w.heap.size ≤ gb314)); clear HB; have HB := n0_; have BK314 := n1_; have GW314 := n2_; have GE314 := n3_; clear n0_ n1_ n2_ n3_; clear hb hbox hg; have hcz5_0 : w4.cell? ⟨gb314, 0, none⟩ = some (.int .i8 a0_0) := (blk_cell BK314.out 0).trans rfl; have hcz5_1 : w4.cell? ⟨gb314, 1, none⟩ = some (.int .i8 a0_1) := (blk_cell BK314.out 1).trans rfl; have hcz5_2 : w4.cell? ⟨gb314, 2, none⟩ = some (.slice A0_2 l0_2.length c0_2) := (blk_cell BK314.out 2).trans rfl; have hfz5_0 := blk_frozen BK314.out 0; have hfz5_1 := blk_frozen BK314.out 1; have hfz5_2 := blk_frozen BK314.out 2) | ((with_reducible refine gate_callee (f := 9) rfl ?_); refine goesL_ (some 13) rfl rfl Try.func9 (by kernel_rfl) rfl #[.agg #[.int .i8 a0_0, .int .i8 a0_1, .slice A0_2 l0_2.length c0_2], .int .i64 1048576] rfl (by (try simp only [List.map_toArray, List.map_cons, List.map_nil]); first | done | rfl | (simp only [List.length_drop, List.length_take]; rfl)) ?_; (with_reducible refine (laws_szFixed.calls a0_0 a0_1 _ _ l0_2 1048576 t315 _ ?side1 ?side2 A2.out).mono ?_); (case side1 => repeat (first | exact (Kd.C_below HR0_2.out HB.out) | (with_reducible refine Kd.C_alloc ?_ _) | (with_reducible refine Kd.C_drewN ?_ _) | (with_reducible refine Kd.C_drew ?_))); (case side2 => exact HC0_2.out); rintro e w6 ⟨rfl, hb⟩; refine ⟨_, rfl, ?_⟩; have n0_ := Aside0.mk (blk_below (g := gb314) (o := .cells #[.int .i8 a0_0, .int .i8 a0_1, .slice A0_2 l0_2.length c0_2] 25 (0, 0)) (pl_ BK314) hb); have n1_ := Aside0.mk (below_step (by repeat (first | (with_reducible first | exact HB.out | apply below_alloc | apply pw_below_drewN | apply below_drew1 | refine below_set ?_ GE314.out) | exact HB.out)) hb); clear BK314; clear HB; have BK314 := n0_; have HB := n1_; clear n0_ n1_; (try clear hb); (try clear hb2); (try clear hk); (try clear hi)))
  go_ret
  exact ⟨by first | rfl | (simp [errW_none, errW_some] <;> rfl) | (simp [*, errW_none, errW_some] <;> rfl), by repeat (first | (with_reducible first | exact HB.out | apply below_alloc | apply pw_below_drewN | apply below_drew1 | refine below_set ?_ GE314.out) | exact HB.out)⟩
 ·rw [if_neg c3] at H
  have c3b0 : decide (t315 < 0) = false := decide_eq_false c3
  clear c3
  replace H := Option.bind_eq_some_iff.mp H
  obtain ⟨⟨t316, t317, t318⟩, A70, H⟩ := H
  replace H : ((spec_Confused.f k t316 t317 t318).bind fun bt321 => ((laws_toFixed.f k a0_0 a0_1 l0_2).bind fun bt328 => ((impl_Confused.f k bt328.1 bt328.2.1 bt328.2.2).bind fun bt334 => ((laws_eqCase.f bt334.1 bt334.2.1 bt321.1 bt321.2.1).bind fun t341 => (if t341 = true then ((laws_eqCase.f bt334.2.2.1 bt334.2.2.2.1 bt321.2.2.1 bt321.2.2.2.1).bind fun t342 => (if t342 = true then (laws_FnExactConfused.j0 k (bt334.2.2.2.2 != bt321.2.2.2.2) a0_0 a0_1 l0_2 bt328.1 bt328.2.1 bt328.2.2) else (laws_FnExactConfused.j0 k true a0_0 a0_1 l0_2 bt328.1 bt328.2.1 bt328.2.2))) else (laws_FnExactConfused.j0 k true a0_0 a0_1 l0_2 bt328.1 bt328.2.1 bt328.2.2)))))) = some r := H
  have A7 := Aside0.mk A70
  clear A70
  replace H := Option.bind_eq_some_iff.mp H
  obtain ⟨⟨t321, t322, t323, t324, t325⟩, A80, H⟩ := H
  replace H : ((laws_toFixed.f k a0_0 a0_1 l0_2).bind fun bt328 => ((impl_Confused.f k bt328.1 bt328.2.1 bt328.2.2).bind fun bt334 => ((laws_eqCase.f bt334.1 bt334.2.1 t321 t322).bind fun t341 => (if t341 = true then ((laws_eqCase.f bt334.2.2.1 bt334.2.2.2.1 t323 t324).bind fun t342 => (if t342 = true then (laws_FnExactConfused.j0 k (bt334.2.2.2.2 != t325) a0_0 a0_1 l0_2 bt328.1 bt328.2.1 bt328.2.2) else (laws_FnExactConfused.j0 k true a0_0 a0_1 l0_2 bt328.1 bt328.2.1 bt328.2.2))) else (laws_FnExactConfused.j0 k true a0_0 a0_1 l0_2 bt328.1 bt328.2.1 bt328.2.2))))) = some r := H
  have A8 := Aside0.mk A80
  clear A80
  replace H := Option.bind_eq_some_iff.mp H
  obtain ⟨⟨t328, t329, t330⟩, A90, H⟩ := H
  replace H : ((impl_Confused.f k t328 t329 t330).bind fun bt334 => ((laws_eqCase.f bt334.1 bt334.2.1 t321 t322).bind fun t341 => (if t341 = true then ((laws_eqCase.f bt334.2.2.1 bt334.2.2.2.1 t323 t324).bind fun t342 => (if t342 = true then (laws_FnExactConfused.j0 k (bt334.2.2.2.2 != t325) a0_0 a0_1 l0_2 t328 t329 t330) else (laws_FnExactConfused.j0 k true a0_0 a0_1 l0_2 t328 t329 t330))) else (laws_FnExactConfused.j0 k true a0_0 a0_1 l0_2 t328 t329 t330)))) = some r := H
  have A9 := Aside0.mk A90
  clear A90
  replace H := Option.bind_eq_some_iff.mp H
  obtain ⟨⟨t334, t335, t336, t337, t338⟩, A100, H⟩ := H
  replace H : ((laws_eqCase.f t334 t335 t321 t322).bind fun t341 => (if t341 = true then ((laws_eqCase.f t336 t337 t323 t324).bind fun t342 => (if t342 = true then (laws_FnExactConfused.j0 k (t338 != t325) a0_0 a0_1 l0_2 t328 t329 t330) else (laws_FnExactConfused.j0 k true a0_0 a0_1 l0_2 t328 t329 t330))) else (laws_FnExactConfused.j0 k true a0_0 a0_1 l0_2 t328 t329 t330))) = some r := H
  have A10 := Aside0.mk A100
  clear A100
  have HC11 := Aside0.mk H
  clear H
  go_enter Try.func5, Try.ntmps5
  go_upto_region 8 with (first | ((with_reducible refine gate_dst (N := 1) rfl ?_); refine box_event ?hg (N := 1) ?hd (cs := #[.int .i8 a0_0, .int .i8 a0_1, .slice A0_2 l0_2.length c0_2]) (t := 25) ?hr ?_; (case hd => rfl); (case hg => rfl); (case hr => first | (go_simp; done) | (go_simp; rfl)); intro gb314 hg w12 hbox hb; have n0_ := Aside0.mk (below_step (bl_ HB) hb); have n1_ := Aside0.mk (hbox); have n2_ := Aside0.mk ((by rw [hg]; exact (below_size (bl_ HB)) : w.heap.size ≤ gb314)); have n3_ := Aside0.mk ((by rw [hg]; exact (below_size (bl_ HB)) : w.heap.size ≤ gb314)); clear HB; have HB := n0_; have BK314 := n1_; have GW314 := n2_; have GE314 := n3_; clear n0_ n1_ n2_ n3_; clear hb hbox hg; have hcz13_0 : w12.cell? ⟨gb314, 0, none⟩ = some (.int .i8 a0_0) := (blk_cell BK314.out 0).trans rfl; have hcz13_1 : w12.cell? ⟨gb314, 1, none⟩ = some (.int .i8 a0_1) := (blk_cell BK314.out 1).trans rfl; have hcz13_2 : w12.cell? ⟨gb314, 2, none⟩ = some (.slice A0_2 l0_2.length c0_2) := (blk_cell BK314.out 2).trans rfl; have hfz13_0 := blk_frozen BK314.out 0; have hfz13_1 := blk_frozen BK314.out 1; have hfz13_2 := blk_frozen BK314.out 2) | ((with_reducible refine gate_callee (f := 9) rfl ?_); refine goesL_ (some 13) rfl rfl Try.func9 (by kernel_rfl) rfl #[.agg #[.int .i8 a0_0, .int .i8 a0_1, .slice A0_2 l0_2.length c0_2], .int .i64 1048576] rfl (by (try simp only [List.map_toArray, List.map_cons, List.map_nil]); first | done | rfl | (simp only [List.length_drop, List.length_take]; rfl)) ?_; (with_reducible refine (laws_szFixed.calls a0_0 a0_1 _ _ l0_2 1048576 t315 _ ?side1 ?side2 A2.out).mono ?_); (case side1 => repeat (first | exact (Kd.C_below HR0_2.out HB.out) | (with_reducible refine Kd.C_alloc ?_ _) | (with_reducible refine Kd.C_drewN ?_ _) | (with_reducible refine Kd.C_drew ?_))); (case side2 => exact HC0_2.out); rintro e w14 ⟨rfl, hb⟩; refine ⟨_, rfl, ?_⟩; have n0_ := Aside0.mk (blk_below (g := gb314) (o := .cells #[.int .i8 a0_0, .int .i8 a0_1, .slice A0_2 l0_2.length c0_2] 25 (0, 0)) (pl_ BK314) hb); have n1_ := Aside0.mk (below_step (by repeat (first | (with_reducible first | exact HB.out | apply below_alloc | apply pw_below_drewN | apply below_drew1 | refine below_set ?_ GE314.out) | exact HB.out)) hb); clear BK314; clear HB; have BK314 := n0_; have HB := n1_; clear n0_ n1_; (try clear hb); (try clear hb2); (try clear hk); (try clear hi); have hcz15_0 : w14.cell? ⟨gb314, 0, none⟩ = some (.int .i8 a0_0) := (blk_cell BK314.out 0).trans rfl; have hcz15_1 : w14.cell? ⟨gb314, 1, none⟩ = some (.int .i8 a0_1) := (blk_cell BK314.out 1).trans rfl; have hcz15_2 : w14.cell? ⟨gb314, 2, none⟩ = some (.slice A0_2 l0_2.length c0_2) := (blk_cell BK314.out 2).trans rfl; have hfz15_0 := blk_frozen BK314.out 0; have hfz15_1 := blk_frozen BK314.out 1; have hfz15_2 := blk_frozen BK314.out 2) | ((with_reducible refine gate_callee (f := 11) rfl ?_); refine goesL_ (some 18) rfl rfl Try.func11 (by kernel_rfl) rfl #[.agg #[.int .i8 a0_0, .int .i8 a0_1, .slice A0_2 l0_2.length c0_2]] rfl (by (try simp only [List.map_toArray, List.map_cons, List.map_nil]); first | done | rfl | (simp only [List.length_drop, List.length_take]; rfl)) ?_; (with_reducible refine (laws_toFixed.calls k a0_0 a0_1 _ _ l0_2 t316 t317 t318 _ ?side1 ?side2 A7.out).mono ?_); (case side1 => repeat (first | exact (Kd.C_below HR0_2.out HB.out) | (with_reducible refine Kd.C_alloc ?_ _) | (with_reducible refine Kd.C_drewN ?_ _) | (with_reducible refine Kd.C_drew ?_))); (case side2 => exact HC0_2.out); rintro e w16 ⟨v319, rfl, ho0, hb⟩; refine ⟨_, rfl, ?_⟩; have n0_ := Aside0.mk (Kd.R_lower ho0 (below_size (by repeat (first | (with_reducible first | exact HB.out | apply below_alloc | apply pw_below_drewN | apply below_drew1 | refine below_set ?_ GE314.out) | exact HB.out)))); have n1_ := Aside0.mk (blk_below (g := gb314) (o := .cells #[.int .i8 a0_0, .int .i8 a0_1, .slice A0_2 l0_2.length c0_2] 25 (0, 0)) (pl_ BK314) hb); have n2_ := Aside0.mk (below_step (by repeat (first | (with_reducible first | exact HB.out | apply below_alloc | apply pw_below_drewN | apply below_drew1 | refine below_set ?_ GE314.out) | exact HB.out)) hb); clear BK314; clear HB; have HO320 := n0_; have BK314 := n1_; have HB := n2_; clear n0_ n1_ n2_; (try clear hb); (try clear hb2); (try clear hk); (try clear hi); (try clear ho0); obtain ⟨Ao17, co17, eo17⟩ := Kd.R_slice HO320.out; subst eo17) | ((with_reducible refine gate_callee (f := 18) rfl ?_); refine goesL_ (some 19) rfl rfl Try.func18 (by kernel_rfl) rfl #[.agg #[.int .i8 t316, .int .i8 t317, .slice Ao17 t318.length co17]] rfl (by (try simp only [List.map_toArray, List.map_cons, List.map_nil]); first | done | rfl | (simp only [List.length_drop, List.length_take]; rfl)) ?_; (with_reducible refine (spec_Confused.calls k t316 t317 _ _ t318 t321 t322 t323 t324 t325 _ ?side1 ?side2 A8.out).mono ?_); (case side1 => repeat (first | exact (Kd.R_reads' HO320.out).2.2 | (with_reducible refine Kd.C_alloc ?_ _) | (with_reducible refine Kd.C_drewN ?_ _) | (with_reducible refine Kd.C_drew ?_))); (case side2 => exact (Kd.R_reads' HO320.out).2.1); rintro e w18 ⟨rfl, hb⟩; refine ⟨_, rfl, ?_⟩; have n0_ := Aside0.mk (Kd.R_below (pr_ HO320) hb); have n1_ := Aside0.mk (blk_below (g := gb314) (o := .cells #[.int .i8 a0_0, .int .i8 a0_1, .slice A0_2 l0_2.length c0_2] 25 (0, 0)) (pl_ BK314) hb); have n2_ := Aside0.mk (below_step (by repeat (first | (with_reducible first | exact HB.out | apply below_alloc | apply pw_below_drewN | apply below_drew1 | refine below_set ?_ GE314.out) | exact HB.out)) hb); clear HO320; clear BK314; clear HB; have HO320 := n0_; have BK314 := n1_; have HB := n2_; clear n0_ n1_ n2_; (try clear hb); (try clear hb2); (try clear hk); (try clear hi)) | ((with_reducible refine gate_dst (N := 4) rfl ?_); refine box_event ?hg (N := 4) ?hd (cs := #[.int .i8 0, .bool false]) (t := 37) ?hr ?_; (case hd => rfl); (case hg => rfl); (case hr => first | (go_simp; done) | (go_simp; rfl)); intro gb326 hg w19 hbox hb; have n0_ := Aside0.mk (Kd.R_below (pr_ HO320) hb); have n1_ := Aside0.mk (blk_below (g := gb314) (o := .cells #[.int .i8 a0_0, .int .i8 a0_1, .slice A0_2 l0_2.length c0_2] 25 (0, 0)) (pl_ BK314) hb); have n2_ := Aside0.mk (below_step (by repeat (first | (with_reducible first | exact HB.out | apply below_alloc | apply pw_below_drewN | apply below_drew1 | refine below_set ?_ GE314.out) | exact HB.out)) hb); have n3_ := Aside0.mk (hbox); have n4_ := Aside0.mk ((by rw [hg]; exact (below_size (by repeat (first | (with_reducible first | exact HB.out | apply below_alloc | apply pw_below_drewN | apply below_drew1 | refine below_set ?_ GE314.out) | exact HB.out))) : w.heap.size ≤ gb326)); have n5_ := Aside0.mk ((by rw [hg]; exact (below_size (by repeat (first | (with_reducible first | exact HB.out | apply below_alloc | apply pw_below_drewN | apply below_drew1 | refine below_set ?_ GE314.out) | exact HB.out))) : w.heap.size ≤ gb326)); have n6_ := Aside0.mk ((by rw [hg]; exact Nat.ne_of_lt (blk_lt (g := gb314) (o := .cells #[.int .i8 a0_0, .int .i8 a0_1, .slice A0_2 l0_2.length c0_2] 25 (0, 0)) (pl_ BK314)) : gb314 ≠ gb326)); have n7_ := Aside0.mk ((by rw [hg]; exact Nat.ne_of_gt (blk_lt (g := gb314) (o := .cells #[.int .i8 a0_0, .int .i8 a0_1, .slice A0_2 l0_2.length c0_2] 25 (0, 0)) (pl_ BK314)) : gb326 ≠ gb314)); clear HO320; clear BK314; clear HB; have HO320 := n0_; have BK314 := n1_; have HB := n2_; have BK326 := n3_; have GW326 := n4_; have GE326 := n5_; have NB314_326 := n6_; have NB326_314 := n7_; clear n0_ n1_ n2_ n3_ n4_ n5_ n6_ n7_; clear hb hbox hg) | ((with_reducible refine gate_dst (N := 5) rfl ?_); refine box_event ?hg (N := 5) ?hd (cs := #[.int .i8 0, .bool false]) (t := 37) ?hr ?_; (case hd => rfl); (case hg => rfl); (case hr => first | (go_simp; done) | (go_simp; rfl)); intro gb327 hg w20 hbox hb; have n0_ := Aside0.mk (Kd.R_below (pr_ HO320) hb); have n1_ := Aside0.mk (blk_below (g := gb314) (o := .cells #[.int .i8 a0_0, .int .i8 a0_1, .slice A0_2 l0_2.length c0_2] 25 (0, 0)) (pl_ BK314) hb); have n2_ := Aside0.mk (blk_below (g := gb326) (o := .cells #[.int .i8 0, .bool false] 37 (0, 0)) (pl_ BK326) hb); have n3_ := Aside0.mk (below_step (by repeat (first | (with_reducible first | exact HB.out | apply below_alloc | apply pw_below_drewN | apply below_drew1 | refine below_set ?_ GE314.out | refine below_set ?_ GE326.out) | exact HB.out)) hb); have n4_ := Aside0.mk (hbox); have n5_ := Aside0.mk ((by rw [hg]; exact (below_size (by repeat (first | (with_reducible first | exact HB.out | apply below_alloc | apply pw_below_drewN | apply below_drew1 | refine below_set ?_ GE314.out | refine below_set ?_ GE326.out) | exact HB.out))) : w.heap.size ≤ gb327)); have n6_ := Aside0.mk ((by rw [hg]; exact (below_size (by repeat (first | (with_reducible first | exact HB.out | apply below_alloc | apply pw_below_drewN | apply below_drew1 | refine below_set ?_ GE314.out | refine below_set ?_ GE326.out) | exact HB.out))) : w.heap.size ≤ gb327)); have n7_ := Aside0.mk ((by rw [hg]; exact Nat.ne_of_lt (blk_lt (g := gb314) (o := .cells #[.int .i8 a0_0, .int .i8 a0_1, .slice A0_2 l0_2.length c0_2] 25 (0, 0)) (pl_ BK314)) : gb314 ≠ gb327)); have n8_ := Aside0.mk ((by rw [hg]; exact Nat.ne_of_gt (blk_lt (g := gb314) (o := .cells #[.int .i8 a0_0, .int .i8 a0_1, .slice A0_2 l0_2.length c0_2] 25 (0, 0)) (pl_ BK314)) : gb327 ≠ gb314)); have n9_ := Aside0.mk ((by rw [hg]; exact Nat.ne_of_lt (blk_lt (g := gb326) (o := .cells #[.int .i8 0, .bool false] 37 (0, 0)) (pl_ BK326)) : gb326 ≠ gb327)); have n10_ := Aside0.mk ((by rw [hg]; exact Nat.ne_of_gt (blk_lt (g := gb326) (o := .cells #[.int .i8 0, .bool false] 37 (0, 0)) (pl_ BK326)) : gb327 ≠ gb326)); clear HO320; clear BK314; clear BK326; clear HB; have HO320 := n0_; have BK314 := n1_; have BK326 := n2_; have HB := n3_; have BK327 := n4_; have GW327 := n5_; have GE327 := n6_; have NB314_327 := n7_; have NB327_314 := n8_; have NB326_327 := n9_; have NB327_326 := n10_; clear n0_ n1_ n2_ n3_ n4_ n5_ n6_ n7_ n8_ n9_ n10_; clear hb hbox hg; have hnb21 := NB326_314.out; have hnc21 := NB314_326.out; have hnb22 := NB326_327.out; have hnc22 := NB327_326.out; have hcz23_0 : w20.cell? ⟨gb326, 0, none⟩ = some (.int .i8 0) := (blk_cell BK326.out 0).trans rfl; have hcz23_1 : w20.cell? ⟨gb326, 1, none⟩ = some (.bool false) := (blk_cell BK326.out 1).trans rfl; have hfz23_0 := blk_frozen BK326.out 0; have hfz23_1 := blk_frozen BK326.out 1; have hnb24 := NB327_314.out; have hnc24 := NB314_327.out; have hcz25_0 : w20.cell? ⟨gb327, 0, none⟩ = some (.int .i8 0) := (blk_cell BK327.out 0).trans rfl; have hcz25_1 : w20.cell? ⟨gb327, 1, none⟩ = some (.bool false) := (blk_cell BK327.out 1).trans rfl; have hfz25_0 := blk_frozen BK327.out 0; have hfz25_1 := blk_frozen BK327.out 1; have hcz26_0 : w20.cell? ⟨gb314, 0, none⟩ = some (.int .i8 a0_0) := (blk_cell BK314.out 0).trans rfl; have hcz26_1 : w20.cell? ⟨gb314, 1, none⟩ = some (.int .i8 a0_1) := (blk_cell BK314.out 1).trans rfl; have hcz26_2 : w20.cell? ⟨gb314, 2, none⟩ = some (.slice A0_2 l0_2.length c0_2) := (blk_cell BK314.out 2).trans rfl; have hfz26_0 := blk_frozen BK314.out 0; have hfz26_1 := blk_frozen BK314.out 1; have hfz26_2 := blk_frozen BK314.out 2) | ((with_reducible refine gate_callee (f := 11) rfl ?_); refine goesL_ (some 24) rfl rfl Try.func11 (by kernel_rfl) rfl #[.agg #[.int .i8 a0_0, .int .i8 a0_1, .slice A0_2 l0_2.length c0_2]] rfl (by (try simp only [List.map_toArray, List.map_cons, List.map_nil]); first | done | rfl | (simp only [List.length_drop, List.length_take]; rfl)) ?_; (with_reducible refine (laws_toFixed.calls k a0_0 a0_1 _ _ l0_2 t328 t329 t330 _ ?side1 ?side2 A9.out).mono ?_); (case side1 => exact Kd.C_below HR0_2.out (by repeat (first | (with_reducible first | exact HB.out | apply below_alloc | apply pw_below_drewN | apply below_drew1 | refine below_set ?_ GE314.out | refine below_set ?_ GE326.out | refine below_set ?_ GE327.out) | exact HB.out))); (case side2 => exact HC0_2.out); rintro e w27 ⟨v331, rfl, ho0, hb⟩; refine ⟨_, rfl, ?_⟩; have n0_ := Aside0.mk (Kd.R_elder' (by (with_reducible repeat (first | apply Kd.R_alloc | apply Kd.R_drewN | apply Kd.R_drew)); exact (Kd.R_mono (Kd.R_mono (Kd.R_far (p := ⟨gb327, 1, none⟩) (Kd.R_far (p := ⟨gb327, 0, none⟩) (Kd.R_far (p := ⟨gb326, 1, none⟩) (Kd.R_far (p := ⟨gb326, 0, none⟩) (Kd.R_types (Kd.R_types HO320.out BK326.out (by decide)) BK327.out (by decide)) (fun _ hk => hk.1.2) (.int .i8 t321)) (fun _ hk => hk.1.2) (.bool t322)) (fun _ hk => hk.2) (.int .i8 t323)) (fun _ hk => hk.2) (.bool t324)) (fun _ h_ => h_.1)) (fun _ h_ => h_.1))) (Kd.R_base ho0) hb); have n1_ := Aside0.mk (Kd.R_lower (Kd.R_new' ho0 (Kd.R_lt (by (with_reducible repeat (first | apply Kd.R_alloc | apply Kd.R_drewN | apply Kd.R_drew)); exact (Kd.R_mono (Kd.R_mono (Kd.R_far (p := ⟨gb327, 1, none⟩) (Kd.R_far (p := ⟨gb327, 0, none⟩) (Kd.R_far (p := ⟨gb326, 1, none⟩) (Kd.R_far (p := ⟨gb326, 0, none⟩) (Kd.R_types (Kd.R_types HO320.out BK326.out (by decide)) BK327.out (by decide)) (fun _ hk => hk.1.2) (.int .i8 t321)) (fun _ hk => hk.1.2) (.bool t322)) (fun _ hk => hk.2) (.int .i8 t323)) (fun _ hk => hk.2) (.bool t324)) (fun _ h_ => h_.1)) (fun _ h_ => h_.1))))) (below_size (by repeat (first | (with_reducible first | exact HB.out | apply below_alloc | apply pw_below_drewN | apply below_drew1 | refine below_set ?_ GE314.out | refine below_set ?_ GE326.out | refine below_set ?_ GE327.out) | exact HB.out)))); have n2_ := Aside0.mk (blk_below (g := gb314) (o := .cells #[.int .i8 a0_0, .int .i8 a0_1, .slice A0_2 l0_2.length c0_2] 25 (0, 0)) (by (with_reducible repeat (first | refine blk_drewN ?_ _ | refine blk_drew ?_ | refine blk_alloc ?_ _)); refine blk_far ?_ NB314_327.out _; (with_reducible repeat (first | refine blk_drewN ?_ _ | refine blk_drew ?_ | refine blk_alloc ?_ _)); refine blk_far ?_ NB314_327.out _; (with_reducible repeat (first | refine blk_drewN ?_ _ | refine blk_drew ?_ | refine blk_alloc ?_ _)); refine blk_far ?_ NB314_326.out _; (with_reducible repeat (first | refine blk_drewN ?_ _ | refine blk_drew ?_ | refine blk_alloc ?_ _)); refine blk_far ?_ NB314_326.out _; (with_reducible repeat (first | refine blk_drewN ?_ _ | refine blk_drew ?_ | refine blk_alloc ?_ _)); exact BK314.out) hb); have n3_ := Aside0.mk (blk_below (g := gb326) (o := .cells #[.int .i8 t321, .bool t322] 37 (0, 0)) (by (with_reducible repeat (first | refine blk_drewN ?_ _ | refine blk_drew ?_ | refine blk_alloc ?_ _)); refine blk_far ?_ NB326_327.out _; (with_reducible repeat (first | refine blk_drewN ?_ _ | refine blk_drew ?_ | refine blk_alloc ?_ _)); refine blk_far ?_ NB326_327.out _; (with_reducible repeat (first | refine blk_drewN ?_ _ | refine blk_drew ?_ | refine blk_alloc ?_ _)); refine blk_put (cs := #[.int .i8 t321, .bool false]) ?_ 1 _ rfl; (with_reducible repeat (first | refine blk_drewN ?_ _ | refine blk_drew ?_ | refine blk_alloc ?_ _)); refine blk_put (cs := #[.int .i8 0, .bool false]) ?_ 0 _ rfl; (with_reducible repeat (first | refine blk_drewN ?_ _ | refine blk_drew ?_ | refine blk_alloc ?_ _)); exact BK326.out) hb); have n4_ := Aside0.mk (blk_below (g := gb327) (o := .cells #[.int .i8 t323, .bool t324] 37 (0, 0)) (by (with_reducible repeat (first | refine blk_drewN ?_ _ | refine blk_drew ?_ | refine blk_alloc ?_ _)); refine blk_put (cs := #[.int .i8 t323, .bool false]) ?_ 1 _ rfl; (with_reducible repeat (first | refine blk_drewN ?_ _ | refine blk_drew ?_ | refine blk_alloc ?_ _)); refine blk_put (cs := #[.int .i8 0, .bool false]) ?_ 0 _ rfl; (with_reducible repeat (first | refine blk_drewN ?_ _ | refine blk_drew ?_ | refine blk_alloc ?_ _)); refine blk_far ?_ NB327_326.out _; (with_reducible repeat (first | refine blk_drewN ?_ _ | refine blk_drew ?_ | refine blk_alloc ?_ _)); refine blk_far ?_ NB327_326.out _; (with_reducible repeat (first | refine blk_drewN ?_ _ | refine blk_drew ?_ | refine blk_alloc ?_ _)); exact BK327.out) hb); have n5_ := Aside0.mk (below_step (by repeat (first | (with_reducible first | exact HB.out | apply below_alloc | apply pw_below_drewN | apply below_drew1 | refine below_set ?_ GE314.out | refine below_set ?_ GE326.out | refine below_set ?_ GE327.out) | exact HB.out)) hb); clear HO320; clear BK314; clear BK326; clear BK327; clear HB; have HO320 := n0_; have HO332 := n1_; have BK314 := n2_; have BK326 := n3_; have BK327 := n4_; have HB := n5_; clear n0_ n1_ n2_ n3_ n4_ n5_; (try clear hb); (try clear hb2); (try clear hk); (try clear hi); (try clear ho0)) | ((with_reducible refine gate_dst (N := 7) rfl ?_); refine box_event ?hg (N := 7) ?hd (cs := #[.int .i8 0, .int .i8 0, .slice none 0 0]) (t := 35) ?hr ?_; (case hd => rfl); (case hg => rfl); (case hr => first | (go_simp; done) | (go_simp; rfl)); intro gb333 hg w28 hbox hb; have n0_ := Aside0.mk (Kd.R_below (pr_ HO320) hb); have n1_ := Aside0.mk (Kd.R_below (pr_ HO332) hb); have n2_ := Aside0.mk (blk_below (g := gb314) (o := .cells #[.int .i8 a0_0, .int .i8 a0_1, .slice A0_2 l0_2.length c0_2] 25 (0, 0)) (pl_ BK314) hb); have n3_ := Aside0.mk (blk_below (g := gb326) (o := .cells #[.int .i8 t321, .bool t322] 37 (0, 0)) (pl_ BK326) hb); have n4_ := Aside0.mk (blk_below (g := gb327) (o := .cells #[.int .i8 t323, .bool t324] 37 (0, 0)) (pl_ BK327) hb); have n5_ := Aside0.mk (below_step (by repeat (first | (with_reducible first | exact HB.out | apply below_alloc | apply pw_below_drewN | apply below_drew1 | refine below_set ?_ GE314.out | refine below_set ?_ GE326.out | refine below_set ?_ GE327.out) | exact HB.out)) hb); have n6_ := Aside0.mk (hbox); have n7_ := Aside0.mk ((by rw [hg]; exact (below_size (by repeat (first | (with_reducible first | exact HB.out | apply below_alloc | apply pw_below_drewN | apply below_drew1 | refine below_set ?_ GE314.out | refine below_set ?_ GE326.out | refine below_set ?_ GE327.out) | exact HB.out))) : w.heap.size ≤ gb333)); have n8_ := Aside0.mk ((by rw [hg]; exact (below_size (by repeat (first | (with_reducible first | exact HB.out | apply below_alloc | apply pw_below_drewN | apply below_drew1 | refine below_set ?_ GE314.out | refine below_set ?_ GE326.out | refine below_set ?_ GE327.out) | exact HB.out))) : w.heap.size ≤ gb333)); have n9_ := Aside0.mk ((by rw [hg]; exact Nat.ne_of_lt (blk_lt (g := gb314) (o := .cells #[.int .i8 a0_0, .int .i8 a0_1, .slice A0_2 l0_2.length c0_2] 25 (0, 0)) (pl_ BK314)) : gb314 ≠ gb333)); have n10_ := Aside0.mk ((by rw [hg]; exact Nat.ne_of_gt (blk_lt (g := gb314) (o := .cells #[.int .i8 a0_0, .int .i8 a0_1, .slice A0_2 l0_2.length c0_2] 25 (0, 0)) (pl_ BK314)) : gb333 ≠ gb314)); have n11_ := Aside0.mk ((by rw [hg]; exact Nat.ne_of_lt (blk_lt (g := gb326) (o := .cells #[.int .i8 t321, .bool t322] 37 (0, 0)) (pl_ BK326)) : gb326 ≠ gb333)); have n12_ := Aside0.mk ((by rw [hg]; exact Nat.ne_of_gt (blk_lt (g := gb326) (o := .cells #[.int .i8 t321, .bool t322] 37 (0, 0)) (pl_ BK326)) : gb333 ≠ gb326)); have n13_ := Aside0.mk ((by rw [hg]; exact Nat.ne_of_lt (blk_lt (g := gb327) (o := .cells #[.int .i8 t323, .bool t324] 37 (0, 0)) (pl_ BK327)) : gb327 ≠ gb333)); have n14_ := Aside0.mk ((by rw [hg]; exact Nat.ne_of_gt (blk_lt (g := gb327) (o := .cells #[.int .i8 t323, .bool t324] 37 (0, 0)) (pl_ BK327)) : gb333 ≠ gb327)); clear HO320; clear HO332; clear BK314; clear BK326; clear BK327; clear HB; have HO320 := n0_; have HO332 := n1_; have BK314 := n2_; have BK326 := n3_; have BK327 := n4_; have HB := n5_; have BK333 := n6_; have GW333 := n7_; have GE333 := n8_; have NB314_333 := n9_; have NB333_314 := n10_; have NB326_333 := n11_; have NB333_326 := n12_; have NB327_333 := n13_; have NB333_327 := n14_; clear n0_ n1_ n2_ n3_ n4_ n5_ n6_ n7_ n8_ n9_ n10_ n11_ n12_ n13_ n14_; clear hb hbox hg; have hnb29 := NB333_314.out; have hnc29 := NB314_333.out; have hnb30 := NB333_326.out; have hnc30 := NB326_333.out; have hnb31 := NB333_327.out; have hnc31 := NB327_333.out; have hcz32_0 : w28.cell? ⟨gb333, 0, none⟩ = some (.int .i8 0) := (blk_cell BK333.out 0).trans rfl; have hcz32_1 : w28.cell? ⟨gb333, 1, none⟩ = some (.int .i8 0) := (blk_cell BK333.out 1).trans rfl; have hcz32_2 : w28.cell? ⟨gb333, 2, none⟩ = some (.slice none 0 0) := (blk_cell BK333.out 2).trans rfl; have hfz32_0 := blk_frozen BK333.out 0; have hfz32_1 := blk_frozen BK333.out 1; have hfz32_2 := blk_frozen BK333.out 2; obtain ⟨Ao33, co33, eo33⟩ := Kd.R_slice HO332.out; subst eo33) | ((with_reducible refine gate_callee (f := 19) rfl ?_); refine goesL_ (some 27) rfl rfl Try.func19 (by kernel_rfl) rfl #[.agg #[.int .i8 t328, .int .i8 t329, .slice Ao33 t330.length co33]] rfl (by (try simp only [List.map_toArray, List.map_cons, List.map_nil]); first | done | rfl | (simp only [List.length_drop, List.length_take]; rfl)) ?_; (with_reducible refine (impl_Confused.calls k t328 t329 _ _ t330 t334 t335 t336 t337 t338 _ ?side1 ?side2 A10.out).mono ?_); (case side1 => refine (Kd.R_reads' (e := 30) (base := w.heap.size) (ok := fun k_ => (True ∧ some k_ ≠ (.slice Ao17 t318.length co17 : Value).ownBlock)) (n := t330.length) (c := co33) ?_).2.2; exact (by (with_reducible repeat (first | apply Kd.R_alloc | apply Kd.R_drewN | apply Kd.R_drew)); exact (Kd.R_mono (Kd.R_far (p := ⟨gb333, 2, none⟩) (Kd.R_far (p := ⟨gb333, 1, none⟩) (Kd.R_far (p := ⟨gb333, 0, none⟩) (Kd.R_types HO332.out BK333.out (by decide)) (fun _ hk => hk.2) (.int .i8 t328)) (fun _ hk => hk.2) (.int .i8 t329)) (fun _ hk => hk.2) (.slice Ao33 t330.length co33)) (fun _ h_ => h_.1)))); (case side2 => exact (Kd.R_reads' HO332.out).2.1); rintro e w34 ⟨rfl, hb⟩; refine ⟨_, rfl, ?_⟩; have n0_ := Aside0.mk (Kd.R_below (by (with_reducible repeat (first | apply Kd.R_alloc | apply Kd.R_drewN | apply Kd.R_drew)); exact (Kd.R_mono (Kd.R_far (p := ⟨gb333, 2, none⟩) (Kd.R_far (p := ⟨gb333, 1, none⟩) (Kd.R_far (p := ⟨gb333, 0, none⟩) (Kd.R_types HO320.out BK333.out (by decide)) (fun _ hk => hk.2) (.int .i8 t328)) (fun _ hk => hk.2) (.int .i8 t329)) (fun _ hk => hk.2) (.slice Ao33 t330.length co33)) (fun _ h_ => h_.1))) hb); have n1_ := Aside0.mk (Kd.R_below (by (with_reducible repeat (first | apply Kd.R_alloc | apply Kd.R_drewN | apply Kd.R_drew)); exact (Kd.R_mono (Kd.R_far (p := ⟨gb333, 2, none⟩) (Kd.R_far (p := ⟨gb333, 1, none⟩) (Kd.R_far (p := ⟨gb333, 0, none⟩) (Kd.R_types HO332.out BK333.out (by decide)) (fun _ hk => hk.2) (.int .i8 t328)) (fun _ hk => hk.2) (.int .i8 t329)) (fun _ hk => hk.2) (.slice Ao33 t330.length co33)) (fun _ h_ => h_.1))) hb); have n2_ := Aside0.mk (blk_below (g := gb314) (o := .cells #[.int .i8 a0_0, .int .i8 a0_1, .slice A0_2 l0_2.length c0_2] 25 (0, 0)) (by (with_reducible repeat (first | refine blk_drewN ?_ _ | refine blk_drew ?_ | refine blk_alloc ?_ _)); refine blk_far ?_ NB314_333.out _; (with_reducible repeat (first | refine blk_drewN ?_ _ | refine blk_drew ?_ | refine blk_alloc ?_ _)); refine blk_far ?_ NB314_333.out _; (with_reducible repeat (first | refine blk_drewN ?_ _ | refine blk_drew ?_ | refine blk_alloc ?_ _)); refine blk_far ?_ NB314_333.out _; (with_reducible repeat (first | refine blk_drewN ?_ _ | refine blk_drew ?_ | refine blk_alloc ?_ _)); exact BK314.out) hb); have n3_ := Aside0.mk (blk_below (g := gb326) (o := .cells #[.int .i8 t321, .bool t322] 37 (0, 0)) (by (with_reducible repeat (first | refine blk_drewN ?_ _ | refine blk_drew ?_ | refine blk_alloc ?_ _)); refine blk_far ?_ NB326_333.out _; (with_reducible repeat (first | refine blk_drewN ?_ _ | refine blk_drew ?_ | refine blk_alloc ?_ _)); refine blk_far ?_ NB326_333.out _; (with_reducible repeat (first | refine blk_drewN ?_ _ | refine blk_drew ?_ | refine blk_alloc ?_ _)); refine blk_far ?_ NB326_333.out _; (with_reducible repeat (first | refine blk_drewN ?_ _ | refine blk_drew ?_ | refine blk_alloc ?_ _)); exact BK326.out) hb); have n4_ := Aside0.mk (blk_below (g := gb327) (o := .cells #[.int .i8 t323, .bool t324] 37 (0, 0)) (by (with_reducible repeat (first | refine blk_drewN ?_ _ | refine blk_drew ?_ | refine blk_alloc ?_ _)); refine blk_far ?_ NB327_333.out _; (with_reducible repeat (first | refine blk_drewN ?_ _ | refine blk_drew ?_ | refine blk_alloc ?_ _)); refine blk_far ?_ NB327_333.out _; (with_reducible repeat (first | refine blk_drewN ?_ _ | refine blk_drew ?_ | refine blk_alloc ?_ _)); refine blk_far ?_ NB327_333.out _; (with_reducible repeat (first | refine blk_drewN ?_ _ | refine blk_drew ?_ | refine blk_alloc ?_ _)); exact BK327.out) hb); have n5_ := Aside0.mk (blk_below (g := gb333) (o := .cells #[.int .i8 t328, .int .i8 t329, .slice Ao33 t330.length co33] 35 (0, 0)) (by (with_reducible repeat (first | refine blk_drewN ?_ _ | refine blk_drew ?_ | refine blk_alloc ?_ _)); refine blk_put (cs := #[.int .i8 t328, .int .i8 t329, .slice none 0 0]) ?_ 2 _ rfl; (with_reducible repeat (first | refine blk_drewN ?_ _ | refine blk_drew ?_ | refine blk_alloc ?_ _)); refine blk_put (cs := #[.int .i8 t328, .int .i8 0, .slice none 0 0]) ?_ 1 _ rfl; (with_reducible repeat (first | refine blk_drewN ?_ _ | refine blk_drew ?_ | refine blk_alloc ?_ _)); refine blk_put (cs := #[.int .i8 0, .int .i8 0, .slice none 0 0]) ?_ 0 _ rfl; (with_reducible repeat (first | refine blk_drewN ?_ _ | refine blk_drew ?_ | refine blk_alloc ?_ _)); exact BK333.out) hb); have n6_ := Aside0.mk (below_step (by repeat (first | (with_reducible first | exact HB.out | apply below_alloc | apply pw_below_drewN | apply below_drew1 | refine below_set ?_ GE314.out | refine below_set ?_ GE326.out | refine below_set ?_ GE327.out | refine below_set ?_ GE333.out) | exact HB.out)) hb); clear HO320; clear HO332; clear BK314; clear BK326; clear BK327; clear BK333; clear HB; have HO320 := n0_; have HO332 := n1_; have BK314 := n2_; have BK326 := n3_; have BK327 := n4_; have BK333 := n5_; have HB := n6_; clear n0_ n1_ n2_ n3_ n4_ n5_ n6_; (try clear hb); (try clear hb2); (try clear hk); (try clear hi)) | ((with_reducible refine gate_dst (N := 8) rfl ?_); refine box_event ?hg (N := 8) ?hd (cs := #[.int .i8 0, .bool false]) (t := 37) ?hr ?_; (case hd => rfl); (case hg => rfl); (case hr => first | (go_simp; done) | (go_simp; rfl)); intro gb339 hg w35 hbox hb; have n0_ := Aside0.mk (Kd.R_below (pr_ HO320) hb); have n1_ := Aside0.mk (Kd.R_below (pr_ HO332) hb); have n2_ := Aside0.mk (blk_below (g := gb314) (o := .cells #[.int .i8 a0_0, .int .i8 a0_1, .slice A0_2 l0_2.length c0_2] 25 (0, 0)) (pl_ BK314) hb); have n3_ := Aside0.mk (blk_below (g := gb326) (o := .cells #[.int .i8 t321, .bool t322] 37 (0, 0)) (pl_ BK326) hb); have n4_ := Aside0.mk (blk_below (g := gb327) (o := .cells #[.int .i8 t323, .bool t324] 37 (0, 0)) (pl_ BK327) hb); have n5_ := Aside0.mk (blk_below (g := gb333) (o := .cells #[.int .i8 t328, .int .i8 t329, .slice Ao33 t330.length co33] 35 (0, 0)) (pl_ BK333) hb); have n6_ := Aside0.mk (below_step (by repeat (first | (with_reducible first | exact HB.out | apply below_alloc | apply pw_below_drewN | apply below_drew1 | refine below_set ?_ GE314.out | refine below_set ?_ GE326.out | refine below_set ?_ GE327.out | refine below_set ?_ GE333.out) | exact HB.out)) hb); have n7_ := Aside0.mk (hbox); have n8_ := Aside0.mk ((by rw [hg]; exact (below_size (by repeat (first | (with_reducible first | exact HB.out | apply below_alloc | apply pw_below_drewN | apply below_drew1 | refine below_set ?_ GE314.out | refine below_set ?_ GE326.out | refine below_set ?_ GE327.out | refine below_set ?_ GE333.out) | exact HB.out))) : w.heap.size ≤ gb339)); have n9_ := Aside0.mk ((by rw [hg]; exact (below_size (by repeat (first | (with_reducible first | exact HB.out | apply below_alloc | apply pw_below_drewN | apply below_drew1 | refine below_set ?_ GE314.out | refine below_set ?_ GE326.out | refine below_set ?_ GE327.out | refine below_set ?_ GE333.out) | exact HB.out))) : w.heap.size ≤ gb339)); have n10_ := Aside0.mk ((by rw [hg]; exact Nat.ne_of_lt (blk_lt (g := gb314) (o := .cells #[.int .i8 a0_0, .int .i8 a0_1, .slice A0_2 l0_2.length c0_2] 25 (0, 0)) (pl_ BK314)) : gb314 ≠ gb339)); have n11_ := Aside0.mk ((by rw [hg]; exact Nat.ne_of_gt (blk_lt (g := gb314) (o := .cells #[.int .i8 a0_0, .int .i8 a0_1, .slice A0_2 l0_2.length c0_2] 25 (0, 0)) (pl_ BK314)) : gb339 ≠ gb314)); have n12_ := Aside0.mk ((by rw [hg]; exact Nat.ne_of_lt (blk_lt (g := gb326) (o := .cells #[.int .i8 t321, .bool t322] 37 (0, 0)) (pl_ BK326)) : gb326 ≠ gb339)); have n13_ := Aside0.mk ((by rw [hg]; exact Nat.ne_of_gt (blk_lt (g := gb326) (o := .cells #[.int .i8 t321, .bool t322] 37 (0, 0)) (pl_ BK326)) : gb339 ≠ gb326)); have n14_ := Aside0.mk ((by rw [hg]; exact Nat.ne_of_lt (blk_lt (g := gb327) (o := .cells #[.int .i8 t323, .bool t324] 37 (0, 0)) (pl_ BK327)) : gb327 ≠ gb339)); have n15_ := Aside0.mk ((by rw [hg]; exact Nat.ne_of_gt (blk_lt (g := gb327) (o := .cells #[.int .i8 t323, .bool t324] 37 (0, 0)) (pl_ BK327)) : gb339 ≠ gb327)); have n16_ := Aside0.mk ((by rw [hg]; exact Nat.ne_of_lt (blk_lt (g := gb333) (o := .cells #[.int .i8 t328, .int .i8 t329, .slice Ao33 t330.length co33] 35 (0, 0)) (pl_ BK333)) : gb333 ≠ gb339)); have n17_ := Aside0.mk ((by rw [hg]; exact Nat.ne_of_gt (blk_lt (g := gb333) (o := .cells #[.int .i8 t328, .int .i8 t329, .slice Ao33 t330.length co33] 35 (0, 0)) (pl_ BK333)) : gb339 ≠ gb333)); clear HO320; clear HO332; clear BK314; clear BK326; clear BK327; clear BK333; clear HB; have HO320 := n0_; have HO332 := n1_; have BK314 := n2_; have BK326 := n3_; have BK327 := n4_; have BK333 := n5_; have HB := n6_; have BK339 := n7_; have GW339 := n8_; have GE339 := n9_; have NB314_339 := n10_; have NB339_314 := n11_; have NB326_339 := n12_; have NB339_326 := n13_; have NB327_339 := n14_; have NB339_327 := n15_; have NB333_339 := n16_; have NB339_333 := n17_; clear n0_ n1_ n2_ n3_ n4_ n5_ n6_ n7_ n8_ n9_ n10_ n11_ n12_ n13_ n14_ n15_ n16_ n17_; clear hb hbox hg) | ((with_reducible refine gate_dst (N := 9) rfl ?_); refine box_event ?hg (N := 9) ?hd (cs := #[.int .i8 0, .bool false]) (t := 37) ?hr ?_; (case hd => rfl); (case hg => rfl); (case hr => first | (go_simp; done) | (go_simp; rfl)); intro gb340 hg w36 hbox hb; have n0_ := Aside0.mk (Kd.R_below (pr_ HO320) hb); have n1_ := Aside0.mk (Kd.R_below (pr_ HO332) hb); have n2_ := Aside0.mk (blk_below (g := gb314) (o := .cells #[.int .i8 a0_0, .int .i8 a0_1, .slice A0_2 l0_2.length c0_2] 25 (0, 0)) (pl_ BK314) hb); have n3_ := Aside0.mk (blk_below (g := gb326) (o := .cells #[.int .i8 t321, .bool t322] 37 (0, 0)) (pl_ BK326) hb); have n4_ := Aside0.mk (blk_below (g := gb327) (o := .cells #[.int .i8 t323, .bool t324] 37 (0, 0)) (pl_ BK327) hb); have n5_ := Aside0.mk (blk_below (g := gb333) (o := .cells #[.int .i8 t328, .int .i8 t329, .slice Ao33 t330.length co33] 35 (0, 0)) (pl_ BK333) hb); have n6_ := Aside0.mk (blk_below (g := gb339) (o := .cells #[.int .i8 0, .bool false] 37 (0, 0)) (pl_ BK339) hb); have n7_ := Aside0.mk (below_step (by repeat (first | (with_reducible first | exact HB.out | apply below_alloc | apply pw_below_drewN | apply below_drew1 | refine below_set ?_ GE314.out | refine below_set ?_ GE326.out | refine below_set ?_ GE327.out | refine below_set ?_ GE333.out | refine below_set ?_ GE339.out) | exact HB.out)) hb); have n8_ := Aside0.mk (hbox); have n9_ := Aside0.mk ((by rw [hg]; exact (below_size (by repeat (first | (with_reducible first | exact HB.out | apply below_alloc | apply pw_below_drewN | apply below_drew1 | refine below_set ?_ GE314.out | refine below_set ?_ GE326.out | refine below_set ?_ GE327.out | refine below_set ?_ GE333.out | refine below_set ?_ GE339.out) | exact HB.out))) : w.heap.size ≤ gb340)); have n10_ := Aside0.mk ((by rw [hg]; exact (below_size (by repeat (first | (with_reducible first | exact HB.out | apply below_alloc | apply pw_below_drewN | apply below_drew1 | refine below_set ?_ GE314.out | refine below_set ?_ GE326.out | refine below_set ?_ GE327.out | refine below_set ?_ GE333.out | refine below_set ?_ GE339.out) | exact HB.out))) : w.heap.size ≤ gb340)); have n11_ := Aside0.mk ((by rw [hg]; exact Nat.ne_of_lt (blk_lt (g := gb314) (o := .cells #[.int .i8 a0_0, .int .i8 a0_1, .slice A0_2 l0_2.length c0_2] 25 (0, 0)) (pl_ BK314)) : gb314 ≠ gb340)); have n12_ := Aside0.mk ((by rw [hg]; exact Nat.ne_of_gt (blk_lt (g := gb314) (o := .cells #[.int .i8 a0_0, .int .i8 a0_1, .slice A0_2 l0_2.length c0_2] 25 (0, 0)) (pl_ BK314)) : gb340 ≠ gb314)); have n13_ := Aside0.mk ((by rw [hg]; exact Nat.ne_of_lt (blk_lt (g := gb326) (o := .cells #[.int .i8 t321, .bool t322] 37 (0, 0)) (pl_ BK326)) : gb326 ≠ gb340)); have n14_ := Aside0.mk ((by rw [hg]; exact Nat.ne_of_gt (blk_lt (g := gb326) (o := .cells #[.int .i8 t321, .bool t322] 37 (0, 0)) (pl_ BK326)) : gb340 ≠ gb326)); have n15_ := Aside0.mk ((by rw [hg]; exact Nat.ne_of_lt (blk_lt (g := gb327) (o := .cells #[.int .i8 t323, .bool t324] 37 (0, 0)) (pl_ BK327)) : gb327 ≠ gb340)); have n16_ := Aside0.mk ((by rw [hg]; exact Nat.ne_of_gt (blk_lt (g := gb327) (o := .cells #[.int .i8 t323, .bool t324] 37 (0, 0)) (pl_ BK327)) : gb340 ≠ gb327)); have n17_ := Aside0.mk ((by rw [hg]; exact Nat.ne_of_lt (blk_lt (g := gb333) (o := .cells #[.int .i8 t328, .int .i8 t329, .slice Ao33 t330.length co33] 35 (0, 0)) (pl_ BK333)) : gb333 ≠ gb340)); have n18_ := Aside0.mk ((by rw [hg]; exact Nat.ne_of_gt (blk_lt (g := gb333) (o := .cells #[.int .i8 t328, .int .i8 t329, .slice Ao33 t330.length co33] 35 (0, 0)) (pl_ BK333)) : gb340 ≠ gb333)); have n19_ := Aside0.mk ((by rw [hg]; exact Nat.ne_of_lt (blk_lt (g := gb339) (o := .cells #[.int .i8 0, .bool false] 37 (0, 0)) (pl_ BK339)) : gb339 ≠ gb340)); have n20_ := Aside0.mk ((by rw [hg]; exact Nat.ne_of_gt (blk_lt (g := gb339) (o := .cells #[.int .i8 0, .bool false] 37 (0, 0)) (pl_ BK339)) : gb340 ≠ gb339)); clear HO320; clear HO332; clear BK314; clear BK326; clear BK327; clear BK333; clear BK339; clear HB; have HO320 := n0_; have HO332 := n1_; have BK314 := n2_; have BK326 := n3_; have BK327 := n4_; have BK333 := n5_; have BK339 := n6_; have HB := n7_; have BK340 := n8_; have GW340 := n9_; have GE340 := n10_; have NB314_340 := n11_; have NB340_314 := n12_; have NB326_340 := n13_; have NB340_326 := n14_; have NB327_340 := n15_; have NB340_327 := n16_; have NB333_340 := n17_; have NB340_333 := n18_; have NB339_340 := n19_; have NB340_339 := n20_; clear n0_ n1_ n2_ n3_ n4_ n5_ n6_ n7_ n8_ n9_ n10_ n11_ n12_ n13_ n14_ n15_ n16_ n17_ n18_ n19_ n20_; clear hb hbox hg; have hnb37 := NB339_314.out; have hnc37 := NB314_339.out; have hnb38 := NB339_326.out; have hnc38 := NB326_339.out; have hnb39 := NB339_327.out; have hnc39 := NB327_339.out; have hnb40 := NB339_333.out; have hnc40 := NB333_339.out; have hnb41 := NB339_340.out; have hnc41 := NB340_339.out; have hcz42_0 : w36.cell? ⟨gb339, 0, none⟩ = some (.int .i8 0) := (blk_cell BK339.out 0).trans rfl; have hcz42_1 : w36.cell? ⟨gb339, 1, none⟩ = some (.bool false) := (blk_cell BK339.out 1).trans rfl; have hfz42_0 := blk_frozen BK339.out 0; have hfz42_1 := blk_frozen BK339.out 1; have hnb43 := NB340_314.out; have hnc43 := NB314_340.out; have hnb44 := NB340_326.out; have hnc44 := NB326_340.out; have hnb45 := NB340_327.out; have hnc45 := NB327_340.out; have hnb46 := NB340_333.out; have hnc46 := NB333_340.out; have hcz47_0 : w36.cell? ⟨gb340, 0, none⟩ = some (.int .i8 0) := (blk_cell BK340.out 0).trans rfl; have hcz47_1 : w36.cell? ⟨gb340, 1, none⟩ = some (.bool false) := (blk_cell BK340.out 1).trans rfl; have hfz47_0 := blk_frozen BK340.out 0; have hfz47_1 := blk_frozen BK340.out 1))
  (try simp only [Act.put, List.setIfInBounds_toArray, List.set_cons_zero, List.set_cons_succ])
  go_cut [45] (fun v45 wc => ∃ (kq : Nat) (x45_10 : Bool), v45 = .bool x45_10 ∧ Aside0 (laws_FnExactConfused.j0 kq x45_10 a0_0 a0_1 l0_2 t328 t329 t330 = some r) ∧ Aside0 (kq ≤ k) ∧ Aside0 (Kd.R k30 30 wc w.heap.size (fun _ => True) (.slice Ao33 t330.length co33) t330) ∧ Aside0 (wc.heap[gb314]? = some (.cells #[.int .i8 a0_0, .int .i8 a0_1, (.slice A0_2 l0_2.length c0_2)] 25 (0, 0))) ∧ Aside0 (wc.heap[gb326]? = some (.cells #[.int .i8 t321, .bool t322] 37 (0, 0))) ∧ Aside0 (wc.heap[gb327]? = some (.cells #[.int .i8 t323, .bool t324] 37 (0, 0))) ∧ Aside0 (wc.heap[gb333]? = some (.cells #[.int .i8 t328, .int .i8 t329, (.slice Ao33 t330.length co33)] 35 (0, 0))) ∧ Aside0 (wc.heap[gb339]? = some (.cells #[.int .i8 t334, .bool t335] 37 (0, 0))) ∧ Aside0 (wc.heap[gb340]? = some (.cells #[.int .i8 t336, .bool t337] 37 (0, 0))) ∧ Aside0 (Below w.heap.size w wc))
  case first =>
   have H := HC11.out
   clear HC11
   replace H := Option.bind_eq_some_iff.mp H
   obtain ⟨t341, A480, H⟩ := H
   replace H : (if t341 = true then ((laws_eqCase.f t336 t337 t323 t324).bind fun t342 => (if t342 = true then (laws_FnExactConfused.j0 k (t338 != t325) a0_0 a0_1 l0_2 t328 t329 t330) else (laws_FnExactConfused.j0 k true a0_0 a0_1 l0_2 t328 t329 t330))) else (laws_FnExactConfused.j0 k true a0_0 a0_1 l0_2 t328 t329 t330)) = some r := H
   have A48 := Aside0.mk A480
   clear A480
   by_cases c49 : t341 = true
   ·subst c49
    have H1 : ((laws_eqCase.f t336 t337 t323 t324).bind fun t342 => (if t342 = true then (laws_FnExactConfused.j0 k (t338 != t325) a0_0 a0_1 l0_2 t328 t329 t330) else (laws_FnExactConfused.j0 k true a0_0 a0_1 l0_2 t328 t329 t330))) = some r := by rw [if_pos rfl] at H; exact H
    clear H
    have H := H1
    clear H1
    replace H := Option.bind_eq_some_iff.mp H
    obtain ⟨t342, A500, H⟩ := H
    replace H : (if t342 = true then (laws_FnExactConfused.j0 k (t338 != t325) a0_0 a0_1 l0_2 t328 t329 t330) else (laws_FnExactConfused.j0 k true a0_0 a0_1 l0_2 t328 t329 t330)) = some r := H
    have A50 := Aside0.mk A500
    clear A500
    by_cases c51 : t342 = true
    ·subst c51
     have H1 : (laws_FnExactConfused.j0 k (t338 != t325) a0_0 a0_1 l0_2 t328 t329 t330) = some r := by rw [if_pos rfl] at H; exact H
     clear H
     have H := H1
     clear H1
     have H' := Aside0.mk H
     clear H
     have hnb52 := NB339_314.out
     have hnc52 := NB314_339.out
     have hnb53 := NB339_326.out
     have hnc53 := NB326_339.out
     have hnb54 := NB339_327.out
     have hnc54 := NB327_339.out
     have hnb55 := NB339_333.out
     have hnc55 := NB333_339.out
     have hnb56 := NB339_340.out
     have hnc56 := NB340_339.out
     have hcz57_0 : w36.cell? ⟨gb339, 0, none⟩ = some (.int .i8 0) := (blk_cell BK339.out 0).trans rfl
     have hcz57_1 : w36.cell? ⟨gb339, 1, none⟩ = some (.bool false) := (blk_cell BK339.out 1).trans rfl
     have hfz57_0 := blk_frozen BK339.out 0
     have hfz57_1 := blk_frozen BK339.out 1
     have hnb58 := NB326_314.out
     have hnc58 := NB314_326.out
     have hnb59 := NB326_327.out
     have hnc59 := NB327_326.out
     have hnb60 := NB326_333.out
     have hnc60 := NB333_326.out
     have hnb61 := NB326_340.out
     have hnc61 := NB340_326.out
     have hcz62_0 : w36.cell? ⟨gb326, 0, none⟩ = some (.int .i8 t321) := (blk_cell BK326.out 0).trans rfl
     have hcz62_1 : w36.cell? ⟨gb326, 1, none⟩ = some (.bool t322) := (blk_cell BK326.out 1).trans rfl
     have hfz62_0 := blk_frozen BK326.out 0
     have hfz62_1 := blk_frozen BK326.out 1
     go_wp2_with (first | ((with_reducible refine gate_callee (f := 20) rfl ?_); refine goesL_ (some 33) rfl rfl Try.func20 (by kernel_rfl) rfl #[.agg #[.int .i8 t334, .bool t335], .agg #[.int .i8 t321, .bool t322]] rfl (by (try simp only [List.map_toArray, List.map_cons, List.map_nil]); first | done | rfl | (simp only [List.length_drop, List.length_take]; rfl)) ?_; (with_reducible refine (laws_eqCase.calls t334 t335 t321 t322 true _ A48.out).mono ?_); rintro e w63 ⟨rfl, hb⟩; refine ⟨_, rfl, ?_⟩; have n0_ := Aside0.mk (Kd.R_below (by (with_reducible repeat (first | apply Kd.R_alloc | apply Kd.R_drewN | apply Kd.R_drew)); exact (Kd.R_mono (Kd.R_mono (Kd.R_far (p := ⟨gb340, 1, none⟩) (Kd.R_far (p := ⟨gb340, 0, none⟩) (Kd.R_far (p := ⟨gb339, 1, none⟩) (Kd.R_far (p := ⟨gb339, 0, none⟩) (Kd.R_types (Kd.R_types HO320.out BK339.out (by decide)) BK340.out (by decide)) (fun _ hk => hk.1.2) (.int .i8 t334)) (fun _ hk => hk.1.2) (.bool t335)) (fun _ hk => hk.2) (.int .i8 t336)) (fun _ hk => hk.2) (.bool t337)) (fun _ h_ => h_.1)) (fun _ h_ => h_.1))) hb); have n1_ := Aside0.mk (Kd.R_below (by (with_reducible repeat (first | apply Kd.R_alloc | apply Kd.R_drewN | apply Kd.R_drew)); exact (Kd.R_mono (Kd.R_mono (Kd.R_far (p := ⟨gb340, 1, none⟩) (Kd.R_far (p := ⟨gb340, 0, none⟩) (Kd.R_far (p := ⟨gb339, 1, none⟩) (Kd.R_far (p := ⟨gb339, 0, none⟩) (Kd.R_types (Kd.R_types HO332.out BK339.out (by decide)) BK340.out (by decide)) (fun _ hk => hk.1.2) (.int .i8 t334)) (fun _ hk => hk.1.2) (.bool t335)) (fun _ hk => hk.2) (.int .i8 t336)) (fun _ hk => hk.2) (.bool t337)) (fun _ h_ => h_.1)) (fun _ h_ => h_.1))) hb); have n2_ := Aside0.mk (blk_below (g := gb314) (o := .cells #[.int .i8 a0_0, .int .i8 a0_1, .slice A0_2 l0_2.length c0_2] 25 (0, 0)) (by (with_reducible repeat (first | refine blk_drewN ?_ _ | refine blk_drew ?_ | refine blk_alloc ?_ _)); refine blk_far ?_ NB314_340.out _; (with_reducible repeat (first | refine blk_drewN ?_ _ | refine blk_drew ?_ | refine blk_alloc ?_ _)); refine blk_far ?_ NB314_340.out _; (with_reducible repeat (first | refine blk_drewN ?_ _ | refine blk_drew ?_ | refine blk_alloc ?_ _)); refine blk_far ?_ NB314_339.out _; (with_reducible repeat (first | refine blk_drewN ?_ _ | refine blk_drew ?_ | refine blk_alloc ?_ _)); refine blk_far ?_ NB314_339.out _; (with_reducible repeat (first | refine blk_drewN ?_ _ | refine blk_drew ?_ | refine blk_alloc ?_ _)); exact BK314.out) hb); have n3_ := Aside0.mk (blk_below (g := gb326) (o := .cells #[.int .i8 t321, .bool t322] 37 (0, 0)) (by (with_reducible repeat (first | refine blk_drewN ?_ _ | refine blk_drew ?_ | refine blk_alloc ?_ _)); refine blk_far ?_ NB326_340.out _; (with_reducible repeat (first | refine blk_drewN ?_ _ | refine blk_drew ?_ | refine blk_alloc ?_ _)); refine blk_far ?_ NB326_340.out _; (with_reducible repeat (first | refine blk_drewN ?_ _ | refine blk_drew ?_ | refine blk_alloc ?_ _)); refine blk_far ?_ NB326_339.out _; (with_reducible repeat (first | refine blk_drewN ?_ _ | refine blk_drew ?_ | refine blk_alloc ?_ _)); refine blk_far ?_ NB326_339.out _; (with_reducible repeat (first | refine blk_drewN ?_ _ | refine blk_drew ?_ | refine blk_alloc ?_ _)); exact BK326.out) hb); have n4_ := Aside0.mk (blk_below (g := gb327) (o := .cells #[.int .i8 t323, .bool t324] 37 (0, 0)) (by (with_reducible repeat (first | refine blk_drewN ?_ _ | refine blk_drew ?_ | refine blk_alloc ?_ _)); refine blk_far ?_ NB327_340.out _; (with_reducible repeat (first | refine blk_drewN ?_ _ | refine blk_drew ?_ | refine blk_alloc ?_ _)); refine blk_far ?_ NB327_340.out _; (with_reducible repeat (first | refine blk_drewN ?_ _ | refine blk_drew ?_ | refine blk_alloc ?_ _)); refine blk_far ?_ NB327_339.out _; (with_reducible repeat (first | refine blk_drewN ?_ _ | refine blk_drew ?_ | refine blk_alloc ?_ _)); refine blk_far ?_ NB327_339.out _; (with_reducible repeat (first | refine blk_drewN ?_ _ | refine blk_drew ?_ | refine blk_alloc ?_ _)); exact BK327.out) hb); have n5_ := Aside0.mk (blk_below (g := gb333) (o := .cells #[.int .i8 t328, .int .i8 t329, .slice Ao33 t330.length co33] 35 (0, 0)) (by (with_reducible repeat (first | refine blk_drewN ?_ _ | refine blk_drew ?_ | refine blk_alloc ?_ _)); refine blk_far ?_ NB333_340.out _; (with_reducible repeat (first | refine blk_drewN ?_ _ | refine blk_drew ?_ | refine blk_alloc ?_ _)); refine blk_far ?_ NB333_340.out _; (with_reducible repeat (first | refine blk_drewN ?_ _ | refine blk_drew ?_ | refine blk_alloc ?_ _)); refine blk_far ?_ NB333_339.out _; (with_reducible repeat (first | refine blk_drewN ?_ _ | refine blk_drew ?_ | refine blk_alloc ?_ _)); refine blk_far ?_ NB333_339.out _; (with_reducible repeat (first | refine blk_drewN ?_ _ | refine blk_drew ?_ | refine blk_alloc ?_ _)); exact BK333.out) hb); have n6_ := Aside0.mk (blk_below (g := gb339) (o := .cells #[.int .i8 t334, .bool t335] 37 (0, 0)) (by (with_reducible repeat (first | refine blk_drewN ?_ _ | refine blk_drew ?_ | refine blk_alloc ?_ _)); refine blk_far ?_ NB339_340.out _; (with_reducible repeat (first | refine blk_drewN ?_ _ | refine blk_drew ?_ | refine blk_alloc ?_ _)); refine blk_far ?_ NB339_340.out _; (with_reducible repeat (first | refine blk_drewN ?_ _ | refine blk_drew ?_ | refine blk_alloc ?_ _)); refine blk_put (cs := #[.int .i8 t334, .bool false]) ?_ 1 _ rfl; (with_reducible repeat (first | refine blk_drewN ?_ _ | refine blk_drew ?_ | refine blk_alloc ?_ _)); refine blk_put (cs := #[.int .i8 0, .bool false]) ?_ 0 _ rfl; (with_reducible repeat (first | refine blk_drewN ?_ _ | refine blk_drew ?_ | refine blk_alloc ?_ _)); exact BK339.out) hb); have n7_ := Aside0.mk (blk_below (g := gb340) (o := .cells #[.int .i8 t336, .bool t337] 37 (0, 0)) (by (with_reducible repeat (first | refine blk_drewN ?_ _ | refine blk_drew ?_ | refine blk_alloc ?_ _)); refine blk_put (cs := #[.int .i8 t336, .bool false]) ?_ 1 _ rfl; (with_reducible repeat (first | refine blk_drewN ?_ _ | refine blk_drew ?_ | refine blk_alloc ?_ _)); refine blk_put (cs := #[.int .i8 0, .bool false]) ?_ 0 _ rfl; (with_reducible repeat (first | refine blk_drewN ?_ _ | refine blk_drew ?_ | refine blk_alloc ?_ _)); refine blk_far ?_ NB340_339.out _; (with_reducible repeat (first | refine blk_drewN ?_ _ | refine blk_drew ?_ | refine blk_alloc ?_ _)); refine blk_far ?_ NB340_339.out _; (with_reducible repeat (first | refine blk_drewN ?_ _ | refine blk_drew ?_ | refine blk_alloc ?_ _)); exact BK340.out) hb); have n8_ := Aside0.mk (below_step (by repeat (first | (with_reducible first | exact HB.out | apply below_alloc | apply pw_below_drewN | apply below_drew1 | refine below_set ?_ GE314.out | refine below_set ?_ GE326.out | refine below_set ?_ GE327.out | refine below_set ?_ GE333.out | refine below_set ?_ GE339.out | refine below_set ?_ GE340.out) | exact HB.out)) hb); clear HO320; clear HO332; clear BK314; clear BK326; clear BK327; clear BK333; clear BK339; clear BK340; clear HB; have HO320 := n0_; have HO332 := n1_; have BK314 := n2_; have BK326 := n3_; have BK327 := n4_; have BK333 := n5_; have BK339 := n6_; have BK340 := n7_; have HB := n8_; clear n0_ n1_ n2_ n3_ n4_ n5_ n6_ n7_ n8_; (try clear hb); (try clear hb2); (try clear hk); (try clear hi); have hnb64 := NB340_314.out; have hnc64 := NB314_340.out; have hnb65 := NB340_327.out; have hnc65 := NB327_340.out; have hnb66 := NB340_333.out; have hnc66 := NB333_340.out; have hcz67_0 : w63.cell? ⟨gb340, 0, none⟩ = some (.int .i8 t336) := (blk_cell BK340.out 0).trans rfl; have hcz67_1 : w63.cell? ⟨gb340, 1, none⟩ = some (.bool t337) := (blk_cell BK340.out 1).trans rfl; have hfz67_0 := blk_frozen BK340.out 0; have hfz67_1 := blk_frozen BK340.out 1; have hnb68 := NB327_314.out; have hnc68 := NB314_327.out; have hnb69 := NB327_333.out; have hnc69 := NB333_327.out; have hcz70_0 : w63.cell? ⟨gb327, 0, none⟩ = some (.int .i8 t323) := (blk_cell BK327.out 0).trans rfl; have hcz70_1 : w63.cell? ⟨gb327, 1, none⟩ = some (.bool t324) := (blk_cell BK327.out 1).trans rfl; have hfz70_0 := blk_frozen BK327.out 0; have hfz70_1 := blk_frozen BK327.out 1) | (go_at_call 20; (with_reducible refine (laws_eqCase.calls t336 t337 t323 t324 true _ A50.out).mono ?_); rintro e w71 ⟨rfl, hb⟩; have n0_ := Aside0.mk (Kd.R_below (pr_ HO320) hb); have n1_ := Aside0.mk (Kd.R_below (pr_ HO332) hb); have n2_ := Aside0.mk (blk_below (g := gb314) (o := .cells #[.int .i8 a0_0, .int .i8 a0_1, .slice A0_2 l0_2.length c0_2] 25 (0, 0)) (pl_ BK314) hb); have n3_ := Aside0.mk (blk_below (g := gb326) (o := .cells #[.int .i8 t321, .bool t322] 37 (0, 0)) (pl_ BK326) hb); have n4_ := Aside0.mk (blk_below (g := gb327) (o := .cells #[.int .i8 t323, .bool t324] 37 (0, 0)) (pl_ BK327) hb); have n5_ := Aside0.mk (blk_below (g := gb333) (o := .cells #[.int .i8 t328, .int .i8 t329, .slice Ao33 t330.length co33] 35 (0, 0)) (pl_ BK333) hb); have n6_ := Aside0.mk (blk_below (g := gb339) (o := .cells #[.int .i8 t334, .bool t335] 37 (0, 0)) (pl_ BK339) hb); have n7_ := Aside0.mk (blk_below (g := gb340) (o := .cells #[.int .i8 t336, .bool t337] 37 (0, 0)) (pl_ BK340) hb); have n8_ := Aside0.mk (below_step (by repeat (first | (with_reducible first | exact HB.out | apply below_alloc | apply pw_below_drewN | apply below_drew1 | refine below_set ?_ GE314.out | refine below_set ?_ GE326.out | refine below_set ?_ GE327.out | refine below_set ?_ GE333.out | refine below_set ?_ GE339.out | refine below_set ?_ GE340.out) | exact HB.out)) hb); clear HO320; clear HO332; clear BK314; clear BK326; clear BK327; clear BK333; clear BK339; clear BK340; clear HB; have HO320 := n0_; have HO332 := n1_; have BK314 := n2_; have BK326 := n3_; have BK327 := n4_; have BK333 := n5_; have BK339 := n6_; have BK340 := n7_; have HB := n8_; clear n0_ n1_ n2_ n3_ n4_ n5_ n6_ n7_ n8_; (try clear hb); (try clear hb2); (try clear hk); (try clear hi)))
     go_meet
     case rel => exact ⟨_, ((t338 != t325)), (by first | rfl | (simp; done) | (simp [*]; done)), H', ⟨by first | omega | exact Nat.le_refl _⟩, ⟨by (with_reducible repeat (first | apply Kd.R_alloc | apply Kd.R_drewN | apply Kd.R_drew)); exact Kd.R_mono HO332.out (fun _ hk => trivial)⟩, ⟨pl_ BK314⟩, ⟨pl_ BK326⟩, ⟨pl_ BK327⟩, ⟨pl_ BK333⟩, ⟨pl_ BK339⟩, ⟨pl_ BK340⟩, ⟨by repeat (first | (with_reducible first | exact HB.out | apply below_alloc | apply pw_below_drewN | apply below_drew1 | refine below_set ?_ GE314.out | refine below_set ?_ GE326.out | refine below_set ?_ GE327.out | refine below_set ?_ GE333.out | refine below_set ?_ GE339.out | refine below_set ?_ GE340.out) | exact HB.out)⟩⟩
    ·replace c51 := Bool.eq_false_iff.mpr c51
     subst c51
     have H1 : (laws_FnExactConfused.j0 k true a0_0 a0_1 l0_2 t328 t329 t330) = some r := by rw [if_neg (show ¬ (false = true) by decide)] at H; exact H
     clear H
     have H := H1
     clear H1
     have H' := Aside0.mk H
     clear H
     have hnb72 := NB339_314.out
     have hnc72 := NB314_339.out
     have hnb73 := NB339_326.out
     have hnc73 := NB326_339.out
     have hnb74 := NB339_327.out
     have hnc74 := NB327_339.out
     have hnb75 := NB339_333.out
     have hnc75 := NB333_339.out
     have hnb76 := NB339_340.out
     have hnc76 := NB340_339.out
     have hcz77_0 : w36.cell? ⟨gb339, 0, none⟩ = some (.int .i8 0) := (blk_cell BK339.out 0).trans rfl
     have hcz77_1 : w36.cell? ⟨gb339, 1, none⟩ = some (.bool false) := (blk_cell BK339.out 1).trans rfl
     have hfz77_0 := blk_frozen BK339.out 0
     have hfz77_1 := blk_frozen BK339.out 1
     have hnb78 := NB326_314.out
     have hnc78 := NB314_326.out
     have hnb79 := NB326_327.out
     have hnc79 := NB327_326.out
     have hnb80 := NB326_333.out
     have hnc80 := NB333_326.out
     have hnb81 := NB326_340.out
     have hnc81 := NB340_326.out
     have hcz82_0 : w36.cell? ⟨gb326, 0, none⟩ = some (.int .i8 t321) := (blk_cell BK326.out 0).trans rfl
     have hcz82_1 : w36.cell? ⟨gb326, 1, none⟩ = some (.bool t322) := (blk_cell BK326.out 1).trans rfl
     have hfz82_0 := blk_frozen BK326.out 0
     have hfz82_1 := blk_frozen BK326.out 1
     go_wp2_with (first | ((with_reducible refine gate_callee (f := 20) rfl ?_); refine goesL_ (some 33) rfl rfl Try.func20 (by kernel_rfl) rfl #[.agg #[.int .i8 t334, .bool t335], .agg #[.int .i8 t321, .bool t322]] rfl (by (try simp only [List.map_toArray, List.map_cons, List.map_nil]); first | done | rfl | (simp only [List.length_drop, List.length_take]; rfl)) ?_; (with_reducible refine (laws_eqCase.calls t334 t335 t321 t322 true _ A48.out).mono ?_); rintro e w83 ⟨rfl, hb⟩; refine ⟨_, rfl, ?_⟩; have n0_ := Aside0.mk (Kd.R_below (by (with_reducible repeat (first | apply Kd.R_alloc | apply Kd.R_drewN | apply Kd.R_drew)); exact (Kd.R_mono (Kd.R_mono (Kd.R_far (p := ⟨gb340, 1, none⟩) (Kd.R_far (p := ⟨gb340, 0, none⟩) (Kd.R_far (p := ⟨gb339, 1, none⟩) (Kd.R_far (p := ⟨gb339, 0, none⟩) (Kd.R_types (Kd.R_types HO320.out BK339.out (by decide)) BK340.out (by decide)) (fun _ hk => hk.1.2) (.int .i8 t334)) (fun _ hk => hk.1.2) (.bool t335)) (fun _ hk => hk.2) (.int .i8 t336)) (fun _ hk => hk.2) (.bool t337)) (fun _ h_ => h_.1)) (fun _ h_ => h_.1))) hb); have n1_ := Aside0.mk (Kd.R_below (by (with_reducible repeat (first | apply Kd.R_alloc | apply Kd.R_drewN | apply Kd.R_drew)); exact (Kd.R_mono (Kd.R_mono (Kd.R_far (p := ⟨gb340, 1, none⟩) (Kd.R_far (p := ⟨gb340, 0, none⟩) (Kd.R_far (p := ⟨gb339, 1, none⟩) (Kd.R_far (p := ⟨gb339, 0, none⟩) (Kd.R_types (Kd.R_types HO332.out BK339.out (by decide)) BK340.out (by decide)) (fun _ hk => hk.1.2) (.int .i8 t334)) (fun _ hk => hk.1.2) (.bool t335)) (fun _ hk => hk.2) (.int .i8 t336)) (fun _ hk => hk.2) (.bool t337)) (fun _ h_ => h_.1)) (fun _ h_ => h_.1))) hb); have n2_ := Aside0.mk (blk_below (g := gb314) (o := .cells #[.int .i8 a0_0, .int .i8 a0_1, .slice A0_2 l0_2.length c0_2] 25 (0, 0)) (by (with_reducible repeat (first | refine blk_drewN ?_ _ | refine blk_drew ?_ | refine blk_alloc ?_ _)); refine blk_far ?_ NB314_340.out _; (with_reducible repeat (first | refine blk_drewN ?_ _ | refine blk_drew ?_ | refine blk_alloc ?_ _)); refine blk_far ?_ NB314_340.out _; (with_reducible repeat (first | refine blk_drewN ?_ _ | refine blk_drew ?_ | refine blk_alloc ?_ _)); refine blk_far ?_ NB314_339.out _; (with_reducible repeat (first | refine blk_drewN ?_ _ | refine blk_drew ?_ | refine blk_alloc ?_ _)); refine blk_far ?_ NB314_339.out _; (with_reducible repeat (first | refine blk_drewN ?_ _ | refine blk_drew ?_ | refine blk_alloc ?_ _)); exact BK314.out) hb); have n3_ := Aside0.mk (blk_below (g := gb326) (o := .cells #[.int .i8 t321, .bool t322] 37 (0, 0)) (by (with_reducible repeat (first | refine blk_drewN ?_ _ | refine blk_drew ?_ | refine blk_alloc ?_ _)); refine blk_far ?_ NB326_340.out _; (with_reducible repeat (first | refine blk_drewN ?_ _ | refine blk_drew ?_ | refine blk_alloc ?_ _)); refine blk_far ?_ NB326_340.out _; (with_reducible repeat (first | refine blk_drewN ?_ _ | refine blk_drew ?_ | refine blk_alloc ?_ _)); refine blk_far ?_ NB326_339.out _; (with_reducible repeat (first | refine blk_drewN ?_ _ | refine blk_drew ?_ | refine blk_alloc ?_ _)); refine blk_far ?_ NB326_339.out _; (with_reducible repeat (first | refine blk_drewN ?_ _ | refine blk_drew ?_ | refine blk_alloc ?_ _)); exact BK326.out) hb); have n4_ := Aside0.mk (blk_below (g := gb327) (o := .cells #[.int .i8 t323, .bool t324] 37 (0, 0)) (by (with_reducible repeat (first | refine blk_drewN ?_ _ | refine blk_drew ?_ | refine blk_alloc ?_ _)); refine blk_far ?_ NB327_340.out _; (with_reducible repeat (first | refine blk_drewN ?_ _ | refine blk_drew ?_ | refine blk_alloc ?_ _)); refine blk_far ?_ NB327_340.out _; (with_reducible repeat (first | refine blk_drewN ?_ _ | refine blk_drew ?_ | refine blk_alloc ?_ _)); refine blk_far ?_ NB327_339.out _; (with_reducible repeat (first | refine blk_drewN ?_ _ | refine blk_drew ?_ | refine blk_alloc ?_ _)); refine blk_far ?_ NB327_339.out _; (with_reducible repeat (first | refine blk_drewN ?_ _ | refine blk_drew ?_ | refine blk_alloc ?_ _)); exact BK327.out) hb); have n5_ := Aside0.mk (blk_below (g := gb333) (o := .cells #[.int .i8 t328, .int .i8 t329, .slice Ao33 t330.length co33] 35 (0, 0)) (by (with_reducible repeat (first | refine blk_drewN ?_ _ | refine blk_drew ?_ | refine blk_alloc ?_ _)); refine blk_far ?_ NB333_340.out _; (with_reducible repeat (first | refine blk_drewN ?_ _ | refine blk_drew ?_ | refine blk_alloc ?_ _)); refine blk_far ?_ NB333_340.out _; (with_reducible repeat (first | refine blk_drewN ?_ _ | refine blk_drew ?_ | refine blk_alloc ?_ _)); refine blk_far ?_ NB333_339.out _; (with_reducible repeat (first | refine blk_drewN ?_ _ | refine blk_drew ?_ | refine blk_alloc ?_ _)); refine blk_far ?_ NB333_339.out _; (with_reducible repeat (first | refine blk_drewN ?_ _ | refine blk_drew ?_ | refine blk_alloc ?_ _)); exact BK333.out) hb); have n6_ := Aside0.mk (blk_below (g := gb339) (o := .cells #[.int .i8 t334, .bool t335] 37 (0, 0)) (by (with_reducible repeat (first | refine blk_drewN ?_ _ | refine blk_drew ?_ | refine blk_alloc ?_ _)); refine blk_far ?_ NB339_340.out _; (with_reducible repeat (first | refine blk_drewN ?_ _ | refine blk_drew ?_ | refine blk_alloc ?_ _)); refine blk_far ?_ NB339_340.out _; (with_reducible repeat (first | refine blk_drewN ?_ _ | refine blk_drew ?_ | refine blk_alloc ?_ _)); refine blk_put (cs := #[.int .i8 t334, .bool false]) ?_ 1 _ rfl; (with_reducible repeat (first | refine blk_drewN ?_ _ | refine blk_drew ?_ | refine blk_alloc ?_ _)); refine blk_put (cs := #[.int .i8 0, .bool false]) ?_ 0 _ rfl; (with_reducible repeat (first | refine blk_drewN ?_ _ | refine blk_drew ?_ | refine blk_alloc ?_ _)); exact BK339.out) hb); have n7_ := Aside0.mk (blk_below (g := gb340) (o := .cells #[.int .i8 t336, .bool t337] 37 (0, 0)) (by (with_reducible repeat (first | refine blk_drewN ?_ _ | refine blk_drew ?_ | refine blk_alloc ?_ _)); refine blk_put (cs := #[.int .i8 t336, .bool false]) ?_ 1 _ rfl; (with_reducible repeat (first | refine blk_drewN ?_ _ | refine blk_drew ?_ | refine blk_alloc ?_ _)); refine blk_put (cs := #[.int .i8 0, .bool false]) ?_ 0 _ rfl; (with_reducible repeat (first | refine blk_drewN ?_ _ | refine blk_drew ?_ | refine blk_alloc ?_ _)); refine blk_far ?_ NB340_339.out _; (with_reducible repeat (first | refine blk_drewN ?_ _ | refine blk_drew ?_ | refine blk_alloc ?_ _)); refine blk_far ?_ NB340_339.out _; (with_reducible repeat (first | refine blk_drewN ?_ _ | refine blk_drew ?_ | refine blk_alloc ?_ _)); exact BK340.out) hb); have n8_ := Aside0.mk (below_step (by repeat (first | (with_reducible first | exact HB.out | apply below_alloc | apply pw_below_drewN | apply below_drew1 | refine below_set ?_ GE314.out | refine below_set ?_ GE326.out | refine below_set ?_ GE327.out | refine below_set ?_ GE333.out | refine below_set ?_ GE339.out | refine below_set ?_ GE340.out) | exact HB.out)) hb); clear HO320; clear HO332; clear BK314; clear BK326; clear BK327; clear BK333; clear BK339; clear BK340; clear HB; have HO320 := n0_; have HO332 := n1_; have BK314 := n2_; have BK326 := n3_; have BK327 := n4_; have BK333 := n5_; have BK339 := n6_; have BK340 := n7_; have HB := n8_; clear n0_ n1_ n2_ n3_ n4_ n5_ n6_ n7_ n8_; (try clear hb); (try clear hb2); (try clear hk); (try clear hi); have hnb84 := NB340_314.out; have hnc84 := NB314_340.out; have hnb85 := NB340_327.out; have hnc85 := NB327_340.out; have hnb86 := NB340_333.out; have hnc86 := NB333_340.out; have hcz87_0 : w83.cell? ⟨gb340, 0, none⟩ = some (.int .i8 t336) := (blk_cell BK340.out 0).trans rfl; have hcz87_1 : w83.cell? ⟨gb340, 1, none⟩ = some (.bool t337) := (blk_cell BK340.out 1).trans rfl; have hfz87_0 := blk_frozen BK340.out 0; have hfz87_1 := blk_frozen BK340.out 1; have hnb88 := NB327_314.out; have hnc88 := NB314_327.out; have hnb89 := NB327_333.out; have hnc89 := NB333_327.out; have hcz90_0 : w83.cell? ⟨gb327, 0, none⟩ = some (.int .i8 t323) := (blk_cell BK327.out 0).trans rfl; have hcz90_1 : w83.cell? ⟨gb327, 1, none⟩ = some (.bool t324) := (blk_cell BK327.out 1).trans rfl; have hfz90_0 := blk_frozen BK327.out 0; have hfz90_1 := blk_frozen BK327.out 1) | (go_at_call 20; (with_reducible refine (laws_eqCase.calls t336 t337 t323 t324 false _ A50.out).mono ?_); rintro e w91 ⟨rfl, hb⟩; have n0_ := Aside0.mk (Kd.R_below (pr_ HO320) hb); have n1_ := Aside0.mk (Kd.R_below (pr_ HO332) hb); have n2_ := Aside0.mk (blk_below (g := gb314) (o := .cells #[.int .i8 a0_0, .int .i8 a0_1, .slice A0_2 l0_2.length c0_2] 25 (0, 0)) (pl_ BK314) hb); have n3_ := Aside0.mk (blk_below (g := gb326) (o := .cells #[.int .i8 t321, .bool t322] 37 (0, 0)) (pl_ BK326) hb); have n4_ := Aside0.mk (blk_below (g := gb327) (o := .cells #[.int .i8 t323, .bool t324] 37 (0, 0)) (pl_ BK327) hb); have n5_ := Aside0.mk (blk_below (g := gb333) (o := .cells #[.int .i8 t328, .int .i8 t329, .slice Ao33 t330.length co33] 35 (0, 0)) (pl_ BK333) hb); have n6_ := Aside0.mk (blk_below (g := gb339) (o := .cells #[.int .i8 t334, .bool t335] 37 (0, 0)) (pl_ BK339) hb); have n7_ := Aside0.mk (blk_below (g := gb340) (o := .cells #[.int .i8 t336, .bool t337] 37 (0, 0)) (pl_ BK340) hb); have n8_ := Aside0.mk (below_step (by repeat (first | (with_reducible first | exact HB.out | apply below_alloc | apply pw_below_drewN | apply below_drew1 | refine below_set ?_ GE314.out | refine below_set ?_ GE326.out | refine below_set ?_ GE327.out | refine below_set ?_ GE333.out | refine below_set ?_ GE339.out | refine below_set ?_ GE340.out) | exact HB.out)) hb); clear HO320; clear HO332; clear BK314; clear BK326; clear BK327; clear BK333; clear BK339; clear BK340; clear HB; have HO320 := n0_; have HO332 := n1_; have BK314 := n2_; have BK326 := n3_; have BK327 := n4_; have BK333 := n5_; have BK339 := n6_; have BK340 := n7_; have HB := n8_; clear n0_ n1_ n2_ n3_ n4_ n5_ n6_ n7_ n8_; (try clear hb); (try clear hb2); (try clear hk); (try clear hi)))
     go_meet
     case rel => exact ⟨_, (true), (by first | rfl | (simp; done) | (simp [*]; done)), H', ⟨by first | omega | exact Nat.le_refl _⟩, ⟨by (with_reducible repeat (first | apply Kd.R_alloc | apply Kd.R_drewN | apply Kd.R_drew)); exact Kd.R_mono HO332.out (fun _ hk => trivial)⟩, ⟨pl_ BK314⟩, ⟨pl_ BK326⟩, ⟨pl_ BK327⟩, ⟨pl_ BK333⟩, ⟨pl_ BK339⟩, ⟨pl_ BK340⟩, ⟨by repeat (first | (with_reducible first | exact HB.out | apply below_alloc | apply pw_below_drewN | apply below_drew1 | refine below_set ?_ GE314.out | refine below_set ?_ GE326.out | refine below_set ?_ GE327.out | refine below_set ?_ GE333.out | refine below_set ?_ GE339.out | refine below_set ?_ GE340.out) | exact HB.out)⟩⟩
   ·replace c49 := Bool.eq_false_iff.mpr c49
    subst c49
    have H1 : (laws_FnExactConfused.j0 k true a0_0 a0_1 l0_2 t328 t329 t330) = some r := by rw [if_neg (show ¬ (false = true) by decide)] at H; exact H
    clear H
    have H := H1
    clear H1
    have H' := Aside0.mk H
    clear H
    have hnb92 := NB339_314.out
    have hnc92 := NB314_339.out
    have hnb93 := NB339_326.out
    have hnc93 := NB326_339.out
    have hnb94 := NB339_327.out
    have hnc94 := NB327_339.out
    have hnb95 := NB339_333.out
    have hnc95 := NB333_339.out
    have hnb96 := NB339_340.out
    have hnc96 := NB340_339.out
    have hcz97_0 : w36.cell? ⟨gb339, 0, none⟩ = some (.int .i8 0) := (blk_cell BK339.out 0).trans rfl
    have hcz97_1 : w36.cell? ⟨gb339, 1, none⟩ = some (.bool false) := (blk_cell BK339.out 1).trans rfl
    have hfz97_0 := blk_frozen BK339.out 0
    have hfz97_1 := blk_frozen BK339.out 1
    have hnb98 := NB326_314.out
    have hnc98 := NB314_326.out
    have hnb99 := NB326_327.out
    have hnc99 := NB327_326.out
    have hnb100 := NB326_333.out
    have hnc100 := NB333_326.out
    have hnb101 := NB326_340.out
    have hnc101 := NB340_326.out
    have hcz102_0 : w36.cell? ⟨gb326, 0, none⟩ = some (.int .i8 t321) := (blk_cell BK326.out 0).trans rfl
    have hcz102_1 : w36.cell? ⟨gb326, 1, none⟩ = some (.bool t322) := (blk_cell BK326.out 1).trans rfl
    have hfz102_0 := blk_frozen BK326.out 0
    have hfz102_1 := blk_frozen BK326.out 1
    go_wp2_with (first | ((with_reducible refine gate_callee (f := 20) rfl ?_); refine goesL_ (some 33) rfl rfl Try.func20 (by kernel_rfl) rfl #[.agg #[.int .i8 t334, .bool t335], .agg #[.int .i8 t321, .bool t322]] rfl (by (try simp only [List.map_toArray, List.map_cons, List.map_nil]); first | done | rfl | (simp only [List.length_drop, List.length_take]; rfl)) ?_; (with_reducible refine (laws_eqCase.calls t334 t335 t321 t322 false _ A48.out).mono ?_); rintro e w103 ⟨rfl, hb⟩; refine ⟨_, rfl, ?_⟩; have n0_ := Aside0.mk (Kd.R_below (by (with_reducible repeat (first | apply Kd.R_alloc | apply Kd.R_drewN | apply Kd.R_drew)); exact (Kd.R_mono (Kd.R_mono (Kd.R_far (p := ⟨gb340, 1, none⟩) (Kd.R_far (p := ⟨gb340, 0, none⟩) (Kd.R_far (p := ⟨gb339, 1, none⟩) (Kd.R_far (p := ⟨gb339, 0, none⟩) (Kd.R_types (Kd.R_types HO320.out BK339.out (by decide)) BK340.out (by decide)) (fun _ hk => hk.1.2) (.int .i8 t334)) (fun _ hk => hk.1.2) (.bool t335)) (fun _ hk => hk.2) (.int .i8 t336)) (fun _ hk => hk.2) (.bool t337)) (fun _ h_ => h_.1)) (fun _ h_ => h_.1))) hb); have n1_ := Aside0.mk (Kd.R_below (by (with_reducible repeat (first | apply Kd.R_alloc | apply Kd.R_drewN | apply Kd.R_drew)); exact (Kd.R_mono (Kd.R_mono (Kd.R_far (p := ⟨gb340, 1, none⟩) (Kd.R_far (p := ⟨gb340, 0, none⟩) (Kd.R_far (p := ⟨gb339, 1, none⟩) (Kd.R_far (p := ⟨gb339, 0, none⟩) (Kd.R_types (Kd.R_types HO332.out BK339.out (by decide)) BK340.out (by decide)) (fun _ hk => hk.1.2) (.int .i8 t334)) (fun _ hk => hk.1.2) (.bool t335)) (fun _ hk => hk.2) (.int .i8 t336)) (fun _ hk => hk.2) (.bool t337)) (fun _ h_ => h_.1)) (fun _ h_ => h_.1))) hb); have n2_ := Aside0.mk (blk_below (g := gb314) (o := .cells #[.int .i8 a0_0, .int .i8 a0_1, .slice A0_2 l0_2.length c0_2] 25 (0, 0)) (by (with_reducible repeat (first | refine blk_drewN ?_ _ | refine blk_drew ?_ | refine blk_alloc ?_ _)); refine blk_far ?_ NB314_340.out _; (with_reducible repeat (first | refine blk_drewN ?_ _ | refine blk_drew ?_ | refine blk_alloc ?_ _)); refine blk_far ?_ NB314_340.out _; (with_reducible repeat (first | refine blk_drewN ?_ _ | refine blk_drew ?_ | refine blk_alloc ?_ _)); refine blk_far ?_ NB314_339.out _; (with_reducible repeat (first | refine blk_drewN ?_ _ | refine blk_drew ?_ | refine blk_alloc ?_ _)); refine blk_far ?_ NB314_339.out _; (with_reducible repeat (first | refine blk_drewN ?_ _ | refine blk_drew ?_ | refine blk_alloc ?_ _)); exact BK314.out) hb); have n3_ := Aside0.mk (blk_below (g := gb326) (o := .cells #[.int .i8 t321, .bool t322] 37 (0, 0)) (by (with_reducible repeat (first | refine blk_drewN ?_ _ | refine blk_drew ?_ | refine blk_alloc ?_ _)); refine blk_far ?_ NB326_340.out _; (with_reducible repeat (first | refine blk_drewN ?_ _ | refine blk_drew ?_ | refine blk_alloc ?_ _)); refine blk_far ?_ NB326_340.out _; (with_reducible repeat (first | refine blk_drewN ?_ _ | refine blk_drew ?_ | refine blk_alloc ?_ _)); refine blk_far ?_ NB326_339.out _; (with_reducible repeat (first | refine blk_drewN ?_ _ | refine blk_drew ?_ | refine blk_alloc ?_ _)); refine blk_far ?_ NB326_339.out _; (with_reducible repeat (first | refine blk_drewN ?_ _ | refine blk_drew ?_ | refine blk_alloc ?_ _)); exact BK326.out) hb); have n4_ := Aside0.mk (blk_below (g := gb327) (o := .cells #[.int .i8 t323, .bool t324] 37 (0, 0)) (by (with_reducible repeat (first | refine blk_drewN ?_ _ | refine blk_drew ?_ | refine blk_alloc ?_ _)); refine blk_far ?_ NB327_340.out _; (with_reducible repeat (first | refine blk_drewN ?_ _ | refine blk_drew ?_ | refine blk_alloc ?_ _)); refine blk_far ?_ NB327_340.out _; (with_reducible repeat (first | refine blk_drewN ?_ _ | refine blk_drew ?_ | refine blk_alloc ?_ _)); refine blk_far ?_ NB327_339.out _; (with_reducible repeat (first | refine blk_drewN ?_ _ | refine blk_drew ?_ | refine blk_alloc ?_ _)); refine blk_far ?_ NB327_339.out _; (with_reducible repeat (first | refine blk_drewN ?_ _ | refine blk_drew ?_ | refine blk_alloc ?_ _)); exact BK327.out) hb); have n5_ := Aside0.mk (blk_below (g := gb333) (o := .cells #[.int .i8 t328, .int .i8 t329, .slice Ao33 t330.length co33] 35 (0, 0)) (by (with_reducible repeat (first | refine blk_drewN ?_ _ | refine blk_drew ?_ | refine blk_alloc ?_ _)); refine blk_far ?_ NB333_340.out _; (with_reducible repeat (first | refine blk_drewN ?_ _ | refine blk_drew ?_ | refine blk_alloc ?_ _)); refine blk_far ?_ NB333_340.out _; (with_reducible repeat (first | refine blk_drewN ?_ _ | refine blk_drew ?_ | refine blk_alloc ?_ _)); refine blk_far ?_ NB333_339.out _; (with_reducible repeat (first | refine blk_drewN ?_ _ | refine blk_drew ?_ | refine blk_alloc ?_ _)); refine blk_far ?_ NB333_339.out _; (with_reducible repeat (first | refine blk_drewN ?_ _ | refine blk_drew ?_ | refine blk_alloc ?_ _)); exact BK333.out) hb); have n6_ := Aside0.mk (blk_below (g := gb339) (o := .cells #[.int .i8 t334, .bool t335] 37 (0, 0)) (by (with_reducible repeat (first | refine blk_drewN ?_ _ | refine blk_drew ?_ | refine blk_alloc ?_ _)); refine blk_far ?_ NB339_340.out _; (with_reducible repeat (first | refine blk_drewN ?_ _ | refine blk_drew ?_ | refine blk_alloc ?_ _)); refine blk_far ?_ NB339_340.out _; (with_reducible repeat (first | refine blk_drewN ?_ _ | refine blk_drew ?_ | refine blk_alloc ?_ _)); refine blk_put (cs := #[.int .i8 t334, .bool false]) ?_ 1 _ rfl; (with_reducible repeat (first | refine blk_drewN ?_ _ | refine blk_drew ?_ | refine blk_alloc ?_ _)); refine blk_put (cs := #[.int .i8 0, .bool false]) ?_ 0 _ rfl; (with_reducible repeat (first | refine blk_drewN ?_ _ | refine blk_drew ?_ | refine blk_alloc ?_ _)); exact BK339.out) hb); have n7_ := Aside0.mk (blk_below (g := gb340) (o := .cells #[.int .i8 t336, .bool t337] 37 (0, 0)) (by (with_reducible repeat (first | refine blk_drewN ?_ _ | refine blk_drew ?_ | refine blk_alloc ?_ _)); refine blk_put (cs := #[.int .i8 t336, .bool false]) ?_ 1 _ rfl; (with_reducible repeat (first | refine blk_drewN ?_ _ | refine blk_drew ?_ | refine blk_alloc ?_ _)); refine blk_put (cs := #[.int .i8 0, .bool false]) ?_ 0 _ rfl; (with_reducible repeat (first | refine blk_drewN ?_ _ | refine blk_drew ?_ | refine blk_alloc ?_ _)); refine blk_far ?_ NB340_339.out _; (with_reducible repeat (first | refine blk_drewN ?_ _ | refine blk_drew ?_ | refine blk_alloc ?_ _)); refine blk_far ?_ NB340_339.out _; (with_reducible repeat (first | refine blk_drewN ?_ _ | refine blk_drew ?_ | refine blk_alloc ?_ _)); exact BK340.out) hb); have n8_ := Aside0.mk (below_step (by repeat (first | (with_reducible first | exact HB.out | apply below_alloc | apply pw_below_drewN | apply below_drew1 | refine below_set ?_ GE314.out | refine below_set ?_ GE326.out | refine below_set ?_ GE327.out | refine below_set ?_ GE333.out | refine below_set ?_ GE339.out | refine below_set ?_ GE340.out) | exact HB.out)) hb); clear HO320; clear HO332; clear BK314; clear BK326; clear BK327; clear BK333; clear BK339; clear BK340; clear HB; have HO320 := n0_; have HO332 := n1_; have BK314 := n2_; have BK326 := n3_; have BK327 := n4_; have BK333 := n5_; have BK339 := n6_; have BK340 := n7_; have HB := n8_; clear n0_ n1_ n2_ n3_ n4_ n5_ n6_ n7_ n8_; (try clear hb); (try clear hb2); (try clear hk); (try clear hi)))
    go_meet
    case rel => exact ⟨_, (true), (by first | rfl | (simp; done) | (simp [*]; done)), H', ⟨by first | omega | exact Nat.le_refl _⟩, ⟨by (with_reducible repeat (first | apply Kd.R_alloc | apply Kd.R_drewN | apply Kd.R_drew)); exact Kd.R_mono HO332.out (fun _ hk => trivial)⟩, ⟨pl_ BK314⟩, ⟨pl_ BK326⟩, ⟨pl_ BK327⟩, ⟨pl_ BK333⟩, ⟨pl_ BK339⟩, ⟨pl_ BK340⟩, ⟨by repeat (first | (with_reducible first | exact HB.out | apply below_alloc | apply pw_below_drewN | apply below_drew1 | refine below_set ?_ GE314.out | refine below_set ?_ GE326.out | refine below_set ?_ GE327.out | refine below_set ?_ GE333.out | refine below_set ?_ GE339.out | refine below_set ?_ GE340.out) | exact HB.out)⟩⟩
  case rest =>
   clear HC11
   try clear c1
   try clear c2
   try clear p2
   try clear c3
   try clear c3b0
   try clear c4
   try clear c5
   try clear c6
   try clear c7
   try clear c8
   try clear c9
   try clear c10
   try clear c11
   try clear c18
   try clear c19
   try clear c20
   try clear c21
   try clear c22
   try clear c24
   try clear c29
   try clear c30
   try clear c31
   try clear c37
   try clear c38
   try clear c39
   try clear c40
   try clear c41
   try clear c43
   try clear c44
   try clear c45
   try clear c46
   try clear c49
   try clear c51
   try clear c52
   try clear c53
   try clear c54
   try clear c55
   try clear c56
   try clear c58
   try clear c59
   try clear c60
   try clear c61
   try clear c64
   try clear c65
   try clear c66
   try clear c68
   try clear c69
   try clear c72
   try clear c73
   try clear c74
   try clear c75
   try clear c76
   try clear c78
   try clear c79
   try clear c80
   try clear c81
   try clear c84
   try clear c85
   try clear c86
   try clear c88
   try clear c89
   try clear c92
   try clear c93
   try clear c94
   try clear c95
   try clear c96
   try clear c98
   try clear c99
   try clear c100
   try clear c101
   try clear hcz102_0
   try clear hcz102_1
   try clear hcz13_0
   try clear hcz13_1
   try clear hcz13_2
   try clear hcz15_0
   try clear hcz15_1
   try clear hcz15_2
   try clear hcz23_0
   try clear hcz23_1
   try clear hcz25_0
   try clear hcz25_1
   try clear hcz26_0
   try clear hcz26_1
   try clear hcz26_2
   try clear hcz32_0
   try clear hcz32_1
   try clear hcz32_2
   try clear hcz42_0
   try clear hcz42_1
   try clear hcz47_0
   try clear hcz47_1
   try clear hcz57_0
   try clear hcz57_1
   try clear hcz5_0
   try clear hcz5_1
   try clear hcz5_2
   try clear hcz62_0
   try clear hcz62_1
   try clear hcz67_0
   try clear hcz67_1
   try clear hcz70_0
   try clear hcz70_1
   try clear hcz77_0
   try clear hcz77_1
   try clear hcz82_0
   try clear hcz82_1
   try clear hcz87_0
   try clear hcz87_1
   try clear hcz90_0
   try clear hcz90_1
   try clear hcz97_0
   try clear hcz97_1
   try clear hfz102_0
   try clear hfz102_1
   try clear hfz13_0
   try clear hfz13_1
   try clear hfz13_2
   try clear hfz15_0
   try clear hfz15_1
   try clear hfz15_2
   try clear hfz23_0
   try clear hfz23_1
   try clear hfz25_0
   try clear hfz25_1
   try clear hfz26_0
   try clear hfz26_1
   try clear hfz26_2
   try clear hfz32_0
   try clear hfz32_1
   try clear hfz32_2
   try clear hfz42_0
   try clear hfz42_1
   try clear hfz47_0
   try clear hfz47_1
   try clear hfz57_0
   try clear hfz57_1
   try clear hfz5_0
   try clear hfz5_1
   try clear hfz5_2
   try clear hfz62_0
   try clear hfz62_1
   try clear hfz67_0
   try clear hfz67_1
   try clear hfz70_0
   try clear hfz70_1
   try clear hfz77_0
   try clear hfz77_1
   try clear hfz82_0
   try clear hfz82_1
   try clear hfz87_0
   try clear hfz87_1
   try clear hfz90_0
   try clear hfz90_1
   try clear hfz97_0
   try clear hfz97_1
   obtain ⟨kq, x45_10, rfl, HA, HJ10, HO_334002, BK314, BK326, BK327, BK333, BK339, BK340, HB⟩ := hcut
   cases kq with
   | zero => exact absurd HA.out (by simp [laws_FnExactConfused.j0])
   | succ kj10 =>
    have H := HA.out
    clear HA
    simp only [laws_FnExactConfused.j0] at H
    by_cases c104 : x45_10 = true
    ·subst c104
     have H1 : (some false) = some r := by rw [if_pos rfl] at H; exact H
     clear H
     have H := H1
     clear H1
     obtain rfl := Option.some.inj H
     go_wp2
     go_ret
     exact ⟨by first | rfl | (simp [errW_none, errW_some] <;> rfl) | (simp [*, errW_none, errW_some] <;> rfl), by repeat (first | (with_reducible first | exact HB.out | apply below_alloc | apply pw_below_drewN | apply below_drew1 | refine below_set ?_ GE314.out | refine below_set ?_ GE326.out | refine below_set ?_ GE327.out | refine below_set ?_ GE333.out | refine below_set ?_ GE339.out | refine below_set ?_ GE340.out) | exact HB.out)⟩
    ·replace c104 := Bool.eq_false_iff.mpr c104
     subst c104
     have H1 : ((laws_toFixed.f kj10 a0_0 a0_1 l0_2).bind fun bt343 => ((laws_eqFixed.f kj10 t328 t329 t330 bt343.1 bt343.2.1 bt343.2.2).bind fun t348 => (if t348 = true then (some true) else (some false)))) = some r := by rw [if_neg (show ¬ (false = true) by decide)] at H; exact H
     clear H
     have H := H1
     clear H1
     replace H := Option.bind_eq_some_iff.mp H
     obtain ⟨⟨t343, t344, t345⟩, A1050, H⟩ := H
     replace H : ((laws_eqFixed.f kj10 t328 t329 t330 t343 t344 t345).bind fun t348 => (if t348 = true then (some true) else (some false))) = some r := H
     have A105 := Aside0.mk A1050
     clear A1050
     replace H := Option.bind_eq_some_iff.mp H
     obtain ⟨t348, A1060, H⟩ := H
     replace H : (if t348 = true then (some true) else (some false)) = some r := H
     have A106 := Aside0.mk A1060
     clear A1060
     by_cases c107 : t348 = true
     ·subst c107
      have H1 : (some true) = some r := by rw [if_pos rfl] at H; exact H
      clear H
      have H := H1
      clear H1
      obtain rfl := Option.some.inj H
      try go_wp2
      have n0_ := Aside0.mk (Kd.R_drew HO_334002.out)
      have n1_ := Aside0.mk (blk_drew BK314.out)
      have n2_ := Aside0.mk (blk_drew BK326.out)
      have n3_ := Aside0.mk (blk_drew BK327.out)
      have n4_ := Aside0.mk (blk_drew BK333.out)
      have n5_ := Aside0.mk (blk_drew BK339.out)
      have n6_ := Aside0.mk (blk_drew BK340.out)
      have n7_ := Aside0.mk (below_drew1 HB.out)
      clear HO_334002
      clear BK314
      clear BK326
      clear BK327
      clear BK333
      clear BK339
      clear BK340
      clear HB
      have HO_334002 := n0_
      have BK314 := n1_
      have BK326 := n2_
      have BK327 := n3_
      have BK333 := n4_
      have BK339 := n5_
      have BK340 := n6_
      have HB := n7_
      clear n0_ n1_ n2_ n3_ n4_ n5_ n6_ n7_
      refine start_ (n := 5) (S := fun w' => w'.cell? ⟨gb333, 0, none⟩ = some (.int .i8 t328) ∧ w'.cell? ⟨gb333, 1, none⟩ = some (.int .i8 t329) ∧ w'.cell? ⟨gb333, 2, none⟩ = some (.slice Ao33 t330.length co33) ∧ w'.cell? ⟨gb314, 0, none⟩ = some (.int .i8 a0_0) ∧ w'.cell? ⟨gb314, 1, none⟩ = some (.int .i8 a0_1) ∧ w'.cell? ⟨gb314, 2, none⟩ = some (.slice A0_2 l0_2.length c0_2)) (ds := []) #[false, false, false, false, false] (by kernel_rfl) rfl rfl ⟨(blk_cell BK333.out 0).trans rfl, (blk_cell BK333.out 1).trans rfl, (blk_cell BK333.out 2).trans rfl, (blk_cell BK314.out 0).trans rfl, (blk_cell BK314.out 1).trans rfl, (blk_cell BK314.out 2).trans rfl⟩ (fun hHeld => ?_)
      generalize wc.drew = w108 at HO_334002 BK314 BK326 BK327 BK333 BK339 BK340 HB hHeld ⊢
      refine take_ (i := 0) (N := some 46) (v := ?_) (a' := ?_) #[true, false, false, false, false] rfl rfl (by kernel_rfl) (fun _ _ _ h => h) (Or.inl ⟨by rfl, ?_⟩) hHeld ?_ ?_
      rotate_left
      ·rintro w' ⟨s0, s1, s2, s3, s4, s5⟩
       go_simp
       with_reducible rfl
      rotate_left
      ·simp only [Act.put, List.setIfInBounds_toArray, List.set_cons_zero, List.set_cons_succ, i64_w, i32_w]
       rfl
      refine take_ (i := 1) (N := some 47) (v := ?_) (a' := ?_) #[true, true, false, false, false] rfl rfl (by kernel_rfl) (fun _ _ _ h => h) (Or.inl ⟨by rfl, ?_⟩) hHeld ?_ ?_
      rotate_left
      ·rintro w' ⟨s0, s1, s2, s3, s4, s5⟩
       go_simp
       with_reducible rfl
      rotate_left
      ·simp only [Act.put, List.setIfInBounds_toArray, List.set_cons_zero, List.set_cons_succ, i64_w, i32_w]
       rfl
      refine one_ (i := 2) (N := some 48) #[true, true, true, false, false] rfl rfl (by kernel_rfl) (by decide) (fun K hK => ?_)
      refine goes_ Try.func11 (by kernel_rfl) rfl #[.agg #[.int .i8 a0_0, .int .i8 a0_1, .slice A0_2 l0_2.length c0_2]] (by rfl) rfl rfl (by (try simp only [List.map_toArray, List.map_cons, List.map_nil]); first | done | rfl | (simp only [List.length_drop, List.length_take]; rfl)) ?_
      with_reducible refine (laws_toFixed.calls kj10 a0_0 a0_1 _ _ l0_2 t343 t344 t345 _ ?side1 ?side2 A105.out).mono ?_
      (case side1 => repeat (first | exact (Kd.C_below HR0_2.out HB.out) | (with_reducible refine Kd.C_alloc ?_ _) | (with_reducible refine Kd.C_drewN ?_ _) | (with_reducible refine Kd.C_drew ?_)))
      (case side2 => exact HC0_2.out)
      rintro e w109 ⟨v346, rfl, ho0, hb⟩
      refine ⟨_, rfl, ?_⟩
      have n0_ := Aside0.mk (Kd.R_elder' (pr_ HO_334002) (Kd.R_base ho0) hb)
      have n1_ := Aside0.mk (Kd.R_lower (Kd.R_new' ho0 (Kd.R_lt (pr_ HO_334002))) (below_size (by repeat (first | (with_reducible first | exact HB.out | apply below_alloc | apply pw_below_drewN | apply below_drew1 | refine below_set ?_ GE314.out | refine below_set ?_ GE326.out | refine below_set ?_ GE327.out | refine below_set ?_ GE333.out | refine below_set ?_ GE339.out | refine below_set ?_ GE340.out) | exact HB.out))))
      have n2_ := Aside0.mk (blk_below (g := gb314) (o := .cells #[.int .i8 a0_0, .int .i8 a0_1, .slice A0_2 l0_2.length c0_2] 25 (0, 0)) (pl_ BK314) hb)
      have n3_ := Aside0.mk (blk_below (g := gb326) (o := .cells #[.int .i8 t321, .bool t322] 37 (0, 0)) (pl_ BK326) hb)
      have n4_ := Aside0.mk (blk_below (g := gb327) (o := .cells #[.int .i8 t323, .bool t324] 37 (0, 0)) (pl_ BK327) hb)
      have n5_ := Aside0.mk (blk_below (g := gb333) (o := .cells #[.int .i8 t328, .int .i8 t329, .slice Ao33 t330.length co33] 35 (0, 0)) (pl_ BK333) hb)
      have n6_ := Aside0.mk (blk_below (g := gb339) (o := .cells #[.int .i8 t334, .bool t335] 37 (0, 0)) (pl_ BK339) hb)
      have n7_ := Aside0.mk (blk_below (g := gb340) (o := .cells #[.int .i8 t336, .bool t337] 37 (0, 0)) (pl_ BK340) hb)
      have n8_ := Aside0.mk (below_step (by repeat (first | (with_reducible first | exact HB.out | apply below_alloc | apply pw_below_drewN | apply below_drew1 | refine below_set ?_ GE314.out | refine below_set ?_ GE326.out | refine below_set ?_ GE327.out | refine below_set ?_ GE333.out | refine below_set ?_ GE339.out | refine below_set ?_ GE340.out) | exact HB.out)) hb)
      clear HO_334002
      clear BK314
      clear BK326
      clear BK327
      clear BK333
      clear BK339
      clear BK340
      clear HB
      have HO_334002 := n0_
      have HO347 := n1_
      have BK314 := n2_
      have BK326 := n3_
      have BK327 := n4_
      have BK333 := n5_
      have BK339 := n6_
      have BK340 := n7_
      have HB := n8_
      clear n0_ n1_ n2_ n3_ n4_ n5_ n6_ n7_ n8_
      (try clear hb)
      (try clear hb2)
      (try clear hk)
      (try clear hi)
      (try clear ho0)
      obtain ⟨Ao110, co110, eo110⟩ := Kd.R_slice HO347.out
      (first | subst eo110 | (injection eo110 with f1_ f2_ f3_; have f4_ := f1_.symm; have f5_ := f3_.symm; clear f1_ f2_ f3_; subst f4_; subst f5_))
      refine hK.out _ _ ⟨(blk_cell BK333.out 0).trans rfl, (blk_cell BK333.out 1).trans rfl, (blk_cell BK333.out 2).trans rfl, (blk_cell BK314.out 0).trans rfl, (blk_cell BK314.out 1).trans rfl, (blk_cell BK314.out 2).trans rfl⟩ (fun hHeld => ?_)
      clear hK K
      refine norm_ (a' := ?_) ?_ ?_
      rotate_left
      ·show Act.put _ (some 48) _ = _
       simp only [Act.put, List.setIfInBounds_toArray, List.set_cons_zero, List.set_cons_succ, i64_w, i32_w]
       rfl
      refine one_ (i := 3) (N := some 49) #[true, true, true, true, false] rfl rfl (by kernel_rfl) (by decide) (fun K hK => ?_)
      refine goes_ Try.func15 (by kernel_rfl) rfl #[.agg #[.int .i8 t328, .int .i8 t329, .slice Ao33 t330.length co33], .agg #[.int .i8 t343, .int .i8 t344, .slice Ao110 t345.length co110]] (by rfl) rfl rfl (by (try simp only [List.map_toArray, List.map_cons, List.map_nil]); first | done | rfl | (simp only [List.length_drop, List.length_take]; rfl)) ?_
      with_reducible refine (laws_eqFixed.calls kj10 t328 t329 _ _ t330 t343 t344 _ _ t345 true _ ?side1 ?side2 ?side3 ?side4 A106.out).mono ?_
      (case side1 => repeat (first | exact (Kd.R_reads' HO_334002.out).2.2 | (with_reducible refine Kd.C_alloc ?_ _) | (with_reducible refine Kd.C_drewN ?_ _) | (with_reducible refine Kd.C_drew ?_)))
      (case side2 => exact (Kd.R_reads' HO_334002.out).2.1)
      (case side3 => repeat (first | exact (Kd.R_reads' HO347.out).2.2 | (with_reducible refine Kd.C_alloc ?_ _) | (with_reducible refine Kd.C_drewN ?_ _) | (with_reducible refine Kd.C_drew ?_)))
      (case side4 => exact (Kd.R_reads' HO347.out).2.1)
      rintro e w111 ⟨rfl, hb⟩
      refine ⟨_, rfl, ?_⟩
      have n0_ := Aside0.mk (Kd.R_below (pr_ HO_334002) hb)
      have n1_ := Aside0.mk (Kd.R_below (pr_ HO347) hb)
      have n2_ := Aside0.mk (blk_below (g := gb314) (o := .cells #[.int .i8 a0_0, .int .i8 a0_1, .slice A0_2 l0_2.length c0_2] 25 (0, 0)) (pl_ BK314) hb)
      have n3_ := Aside0.mk (blk_below (g := gb326) (o := .cells #[.int .i8 t321, .bool t322] 37 (0, 0)) (pl_ BK326) hb)
      have n4_ := Aside0.mk (blk_below (g := gb327) (o := .cells #[.int .i8 t323, .bool t324] 37 (0, 0)) (pl_ BK327) hb)
      have n5_ := Aside0.mk (blk_below (g := gb333) (o := .cells #[.int .i8 t328, .int .i8 t329, .slice Ao33 t330.length co33] 35 (0, 0)) (pl_ BK333) hb)
      have n6_ := Aside0.mk (blk_below (g := gb339) (o := .cells #[.int .i8 t334, .bool t335] 37 (0, 0)) (pl_ BK339) hb)
      have n7_ := Aside0.mk (blk_below (g := gb340) (o := .cells #[.int .i8 t336, .bool t337] 37 (0, 0)) (pl_ BK340) hb)
      have n8_ := Aside0.mk (below_step (by repeat (first | (with_reducible first | exact HB.out | apply below_alloc | apply pw_below_drewN | apply below_drew1 | refine below_set ?_ GE314.out | refine below_set ?_ GE326.out | refine below_set ?_ GE327.out | refine below_set ?_ GE333.out | refine below_set ?_ GE339.out | refine below_set ?_ GE340.out) | exact HB.out)) hb)
      clear HO_334002
      clear HO347
      clear BK314
      clear BK326
      clear BK327
      clear BK333
      clear BK339
      clear BK340
      clear HB
      have HO_334002 := n0_
      have HO347 := n1_
      have BK314 := n2_
      have BK326 := n3_
      have BK327 := n4_
      have BK333 := n5_
      have BK339 := n6_
      have BK340 := n7_
      have HB := n8_
      clear n0_ n1_ n2_ n3_ n4_ n5_ n6_ n7_ n8_
      (try clear hb)
      (try clear hb2)
      (try clear hk)
      (try clear hi)
      refine hK.out _ _ ⟨(blk_cell BK333.out 0).trans rfl, (blk_cell BK333.out 1).trans rfl, (blk_cell BK333.out 2).trans rfl, (blk_cell BK314.out 0).trans rfl, (blk_cell BK314.out 1).trans rfl, (blk_cell BK314.out 2).trans rfl⟩ (fun hHeld => ?_)
      clear hK K
      refine norm_ (a' := ?_) ?_ ?_
      rotate_left
      ·show Act.put _ (some 49) _ = _
       simp only [Act.put, List.setIfInBounds_toArray, List.set_cons_zero, List.set_cons_succ, i64_w, i32_w]
       rfl
      refine pure_ (i := 4) (N := some 50) (v := ?_) (a' := ?_) #[true, true, true, true, true] rfl rfl (by kernel_rfl) (fun _ _ _ h => h) (Or.inl ⟨by rfl, ?_⟩) ?_ ?_
      rotate_left
      ·intro w'
       go_simp
       with_reducible rfl
      rotate_left
      ·simp only [Act.put, List.setIfInBounds_toArray, List.set_cons_zero, List.set_cons_succ, i64_w, i32_w]
       rfl
      refine done_ (by kernel_rfl) ?_
      try go_wp2
      go_ret
      exact ⟨by first | rfl | (simp [errW_none, errW_some] <;> rfl) | (simp [*, errW_none, errW_some] <;> rfl), by repeat (first | (with_reducible first | exact HB.out | apply below_alloc | apply pw_below_drewN | apply below_drew1 | refine below_set ?_ GE314.out | refine below_set ?_ GE326.out | refine below_set ?_ GE327.out | refine below_set ?_ GE333.out | refine below_set ?_ GE339.out | refine below_set ?_ GE340.out) | exact HB.out)⟩
     ·replace c107 := Bool.eq_false_iff.mpr c107
      subst c107
      have H1 : (some false) = some r := by rw [if_neg (show ¬ (false = true) by decide)] at H; exact H
      clear H
      have H := H1
      clear H1
      obtain rfl := Option.some.inj H
      try go_wp2
      have n0_ := Aside0.mk (Kd.R_drew HO_334002.out)
      have n1_ := Aside0.mk (blk_drew BK314.out)
      have n2_ := Aside0.mk (blk_drew BK326.out)
      have n3_ := Aside0.mk (blk_drew BK327.out)
      have n4_ := Aside0.mk (blk_drew BK333.out)
      have n5_ := Aside0.mk (blk_drew BK339.out)
      have n6_ := Aside0.mk (blk_drew BK340.out)
      have n7_ := Aside0.mk (below_drew1 HB.out)
      clear HO_334002
      clear BK314
      clear BK326
      clear BK327
      clear BK333
      clear BK339
      clear BK340
      clear HB
      have HO_334002 := n0_
      have BK314 := n1_
      have BK326 := n2_
      have BK327 := n3_
      have BK333 := n4_
      have BK339 := n5_
      have BK340 := n6_
      have HB := n7_
      clear n0_ n1_ n2_ n3_ n4_ n5_ n6_ n7_
      refine start_ (n := 5) (S := fun w' => w'.cell? ⟨gb333, 0, none⟩ = some (.int .i8 t328) ∧ w'.cell? ⟨gb333, 1, none⟩ = some (.int .i8 t329) ∧ w'.cell? ⟨gb333, 2, none⟩ = some (.slice Ao33 t330.length co33) ∧ w'.cell? ⟨gb314, 0, none⟩ = some (.int .i8 a0_0) ∧ w'.cell? ⟨gb314, 1, none⟩ = some (.int .i8 a0_1) ∧ w'.cell? ⟨gb314, 2, none⟩ = some (.slice A0_2 l0_2.length c0_2)) (ds := []) #[false, false, false, false, false] (by kernel_rfl) rfl rfl ⟨(blk_cell BK333.out 0).trans rfl, (blk_cell BK333.out 1).trans rfl, (blk_cell BK333.out 2).trans rfl, (blk_cell BK314.out 0).trans rfl, (blk_cell BK314.out 1).trans rfl, (blk_cell BK314.out 2).trans rfl⟩ (fun hHeld => ?_)
      generalize wc.drew = w112 at HO_334002 BK314 BK326 BK327 BK333 BK339 BK340 HB hHeld ⊢
      refine take_ (i := 0) (N := some 46) (v := ?_) (a' := ?_) #[true, false, false, false, false] rfl rfl (by kernel_rfl) (fun _ _ _ h => h) (Or.inl ⟨by rfl, ?_⟩) hHeld ?_ ?_
      rotate_left
      ·rintro w' ⟨s0, s1, s2, s3, s4, s5⟩
       go_simp
       with_reducible rfl
      rotate_left
      ·simp only [Act.put, List.setIfInBounds_toArray, List.set_cons_zero, List.set_cons_succ, i64_w, i32_w]
       rfl
      refine take_ (i := 1) (N := some 47) (v := ?_) (a' := ?_) #[true, true, false, false, false] rfl rfl (by kernel_rfl) (fun _ _ _ h => h) (Or.inl ⟨by rfl, ?_⟩) hHeld ?_ ?_
      rotate_left
      ·rintro w' ⟨s0, s1, s2, s3, s4, s5⟩
       go_simp
       with_reducible rfl
      rotate_left
      ·simp only [Act.put, List.setIfInBounds_toArray, List.set_cons_zero, List.set_cons_succ, i64_w, i32_w]
       rfl
      refine one_ (i := 2) (N := some 48) #[true, true, true, false, false] rfl rfl (by kernel_rfl) (by decide) (fun K hK => ?_)
      refine goes_ Try.func11 (by kernel_rfl) rfl #[.agg #[.int .i8 a0_0, .int .i8 a0_1, .slice A0_2 l0_2.length c0_2]] (by rfl) rfl rfl (by (try simp only [List.map_toArray, List.map_cons, List.map_nil]); first | done | rfl | (simp only [List.length_drop, List.length_take]; rfl)) ?_
      with_reducible refine (laws_toFixed.calls kj10 a0_0 a0_1 _ _ l0_2 t343 t344 t345 _ ?side1 ?side2 A105.out).mono ?_
      (case side1 => repeat (first | exact (Kd.C_below HR0_2.out HB.out) | (with_reducible refine Kd.C_alloc ?_ _) | (with_reducible refine Kd.C_drewN ?_ _) | (with_reducible refine Kd.C_drew ?_)))
      (case side2 => exact HC0_2.out)
      rintro e w113 ⟨v346, rfl, ho0, hb⟩
      refine ⟨_, rfl, ?_⟩
      have n0_ := Aside0.mk (Kd.R_elder' (pr_ HO_334002) (Kd.R_base ho0) hb)
      have n1_ := Aside0.mk (Kd.R_lower (Kd.R_new' ho0 (Kd.R_lt (pr_ HO_334002))) (below_size (by repeat (first | (with_reducible first | exact HB.out | apply below_alloc | apply pw_below_drewN | apply below_drew1 | refine below_set ?_ GE314.out | refine below_set ?_ GE326.out | refine below_set ?_ GE327.out | refine below_set ?_ GE333.out | refine below_set ?_ GE339.out | refine below_set ?_ GE340.out) | exact HB.out))))
      have n2_ := Aside0.mk (blk_below (g := gb314) (o := .cells #[.int .i8 a0_0, .int .i8 a0_1, .slice A0_2 l0_2.length c0_2] 25 (0, 0)) (pl_ BK314) hb)
      have n3_ := Aside0.mk (blk_below (g := gb326) (o := .cells #[.int .i8 t321, .bool t322] 37 (0, 0)) (pl_ BK326) hb)
      have n4_ := Aside0.mk (blk_below (g := gb327) (o := .cells #[.int .i8 t323, .bool t324] 37 (0, 0)) (pl_ BK327) hb)
      have n5_ := Aside0.mk (blk_below (g := gb333) (o := .cells #[.int .i8 t328, .int .i8 t329, .slice Ao33 t330.length co33] 35 (0, 0)) (pl_ BK333) hb)
      have n6_ := Aside0.mk (blk_below (g := gb339) (o := .cells #[.int .i8 t334, .bool t335] 37 (0, 0)) (pl_ BK339) hb)
      have n7_ := Aside0.mk (blk_below (g := gb340) (o := .cells #[.int .i8 t336, .bool t337] 37 (0, 0)) (pl_ BK340) hb)
      have n8_ := Aside0.mk (below_step (by repeat (first | (with_reducible first | exact HB.out | apply below_alloc | apply pw_below_drewN | apply below_drew1 | refine below_set ?_ GE314.out | refine below_set ?_ GE326.out | refine below_set ?_ GE327.out | refine below_set ?_ GE333.out | refine below_set ?_ GE339.out | refine below_set ?_ GE340.out) | exact HB.out)) hb)
      clear HO_334002
      clear BK314
      clear BK326
      clear BK327
      clear BK333
      clear BK339
      clear BK340
      clear HB
      have HO_334002 := n0_
      have HO347 := n1_
      have BK314 := n2_
      have BK326 := n3_
      have BK327 := n4_
      have BK333 := n5_
      have BK339 := n6_
      have BK340 := n7_
      have HB := n8_
      clear n0_ n1_ n2_ n3_ n4_ n5_ n6_ n7_ n8_
      (try clear hb)
      (try clear hb2)
      (try clear hk)
      (try clear hi)
      (try clear ho0)
      obtain ⟨Ao114, co114, eo114⟩ := Kd.R_slice HO347.out
      (first | subst eo114 | (injection eo114 with f1_ f2_ f3_; have f4_ := f1_.symm; have f5_ := f3_.symm; clear f1_ f2_ f3_; subst f4_; subst f5_))
      refine hK.out _ _ ⟨(blk_cell BK333.out 0).trans rfl, (blk_cell BK333.out 1).trans rfl, (blk_cell BK333.out 2).trans rfl, (blk_cell BK314.out 0).trans rfl, (blk_cell BK314.out 1).trans rfl, (blk_cell BK314.out 2).trans rfl⟩ (fun hHeld => ?_)
      clear hK K
      refine norm_ (a' := ?_) ?_ ?_
      rotate_left
      ·show Act.put _ (some 48) _ = _
       simp only [Act.put, List.setIfInBounds_toArray, List.set_cons_zero, List.set_cons_succ, i64_w, i32_w]
       rfl
      refine one_ (i := 3) (N := some 49) #[true, true, true, true, false] rfl rfl (by kernel_rfl) (by decide) (fun K hK => ?_)
      refine goes_ Try.func15 (by kernel_rfl) rfl #[.agg #[.int .i8 t328, .int .i8 t329, .slice Ao33 t330.length co33], .agg #[.int .i8 t343, .int .i8 t344, .slice Ao114 t345.length co114]] (by rfl) rfl rfl (by (try simp only [List.map_toArray, List.map_cons, List.map_nil]); first | done | rfl | (simp only [List.length_drop, List.length_take]; rfl)) ?_
      with_reducible refine (laws_eqFixed.calls kj10 t328 t329 _ _ t330 t343 t344 _ _ t345 false _ ?side1 ?side2 ?side3 ?side4 A106.out).mono ?_
      (case side1 => repeat (first | exact (Kd.R_reads' HO_334002.out).2.2 | (with_reducible refine Kd.C_alloc ?_ _) | (with_reducible refine Kd.C_drewN ?_ _) | (with_reducible refine Kd.C_drew ?_)))
      (case side2 => exact (Kd.R_reads' HO_334002.out).2.1)
      (case side3 => repeat (first | exact (Kd.R_reads' HO347.out).2.2 | (with_reducible refine Kd.C_alloc ?_ _) | (with_reducible refine Kd.C_drewN ?_ _) | (with_reducible refine Kd.C_drew ?_)))
      (case side4 => exact (Kd.R_reads' HO347.out).2.1)
      rintro e w115 ⟨rfl, hb⟩
      refine ⟨_, rfl, ?_⟩
      have n0_ := Aside0.mk (Kd.R_below (pr_ HO_334002) hb)
      have n1_ := Aside0.mk (Kd.R_below (pr_ HO347) hb)
      have n2_ := Aside0.mk (blk_below (g := gb314) (o := .cells #[.int .i8 a0_0, .int .i8 a0_1, .slice A0_2 l0_2.length c0_2] 25 (0, 0)) (pl_ BK314) hb)
      have n3_ := Aside0.mk (blk_below (g := gb326) (o := .cells #[.int .i8 t321, .bool t322] 37 (0, 0)) (pl_ BK326) hb)
      have n4_ := Aside0.mk (blk_below (g := gb327) (o := .cells #[.int .i8 t323, .bool t324] 37 (0, 0)) (pl_ BK327) hb)
      have n5_ := Aside0.mk (blk_below (g := gb333) (o := .cells #[.int .i8 t328, .int .i8 t329, .slice Ao33 t330.length co33] 35 (0, 0)) (pl_ BK333) hb)
      have n6_ := Aside0.mk (blk_below (g := gb339) (o := .cells #[.int .i8 t334, .bool t335] 37 (0, 0)) (pl_ BK339) hb)
      have n7_ := Aside0.mk (blk_below (g := gb340) (o := .cells #[.int .i8 t336, .bool t337] 37 (0, 0)) (pl_ BK340) hb)
      have n8_ := Aside0.mk (below_step (by repeat (first | (with_reducible first | exact HB.out | apply below_alloc | apply pw_below_drewN | apply below_drew1 | refine below_set ?_ GE314.out | refine below_set ?_ GE326.out | refine below_set ?_ GE327.out | refine below_set ?_ GE333.out | refine below_set ?_ GE339.out | refine below_set ?_ GE340.out) | exact HB.out)) hb)
      clear HO_334002
      clear HO347
      clear BK314
      clear BK326
      clear BK327
      clear BK333
      clear BK339
      clear BK340
      clear HB
      have HO_334002 := n0_
      have HO347 := n1_
      have BK314 := n2_
      have BK326 := n3_
      have BK327 := n4_
      have BK333 := n5_
      have BK339 := n6_
      have BK340 := n7_
      have HB := n8_
      clear n0_ n1_ n2_ n3_ n4_ n5_ n6_ n7_ n8_
      (try clear hb)
      (try clear hb2)
      (try clear hk)
      (try clear hi)
      refine hK.out _ _ ⟨(blk_cell BK333.out 0).trans rfl, (blk_cell BK333.out 1).trans rfl, (blk_cell BK333.out 2).trans rfl, (blk_cell BK314.out 0).trans rfl, (blk_cell BK314.out 1).trans rfl, (blk_cell BK314.out 2).trans rfl⟩ (fun hHeld => ?_)
      clear hK K
      refine norm_ (a' := ?_) ?_ ?_
      rotate_left
      ·show Act.put _ (some 49) _ = _
       simp only [Act.put, List.setIfInBounds_toArray, List.set_cons_zero, List.set_cons_succ, i64_w, i32_w]
       rfl
      refine pure_ (i := 4) (N := some 50) (v := ?_) (a' := ?_) #[true, true, true, true, true] rfl rfl (by kernel_rfl) (fun _ _ _ h => h) (Or.inl ⟨by rfl, ?_⟩) ?_ ?_
      rotate_left
      ·intro w'
       go_simp
       with_reducible rfl
      rotate_left
      ·simp only [Act.put, List.setIfInBounds_toArray, List.set_cons_zero, List.set_cons_succ, i64_w, i32_w]
       rfl
      refine done_ (by kernel_rfl) ?_
      try go_wp2
      go_ret
      exact ⟨by first | rfl | (simp [errW_none, errW_some] <;> rfl) | (simp [*, errW_none, errW_some] <;> rfl), by repeat (first | (with_reducible first | exact HB.out | apply below_alloc | apply pw_below_drewN | apply below_drew1 | refine below_set ?_ GE314.out | refine below_set ?_ GE326.out | refine below_set ?_ GE327.out | refine below_set ?_ GE333.out | refine below_set ?_ GE339.out | refine below_set ?_ GE340.out) | exact HB.out)⟩

end Go.Proofs.Ytkllpdekkhhhnaa.M
