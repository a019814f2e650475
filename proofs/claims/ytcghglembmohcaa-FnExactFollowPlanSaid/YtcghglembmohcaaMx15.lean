-- By this seat's own program over the kit's printer (arrays, functions told by hand); nothing of it is trusted: the kernel checks it.
import Derived.Test.YtcghglembmohcaaMx0
import Derived.Test.YtcghglembmohcaaMx2
import Derived.Test.YtcghglembmohcaaMx3
import Derived.Test.YtcghglembmohcaaMx4
import Derived.Test.YtcghglembmohcaaMx6
import Derived.Test.YtcghglembmohcaaMx7
import Derived.Test.YtcghglembmohcaaMx11
import Derived.Test.YtcghglembmohcaaMx14
namespace Go.Proofs.Ytcghglembmohcaa.M
open Go.RowKit Go.Proofs.YtcghglembmohcaaW.PrintWords Go.Proofs.YtcghglembmohcaaW.PrintLast Go.Proofs.YtcghglembmohcaaW.PrintMore
attribute [local go_sem] max2_int min2_int max_two min_two max_three min_three max_four min_four   -- for this text's walks alone
set_option linter.unusedVariables false
set_option linter.unusedSimpArgs false

/-! ### laws_FnExactFollowPlan: function 6 -/
def laws_FnExactFollowPlan.j0 : Nat → List (S61) → List (S58) → Bool → Option (Bool)
 | 0, _, _, _ => none
 | k + 1, x1, x11, x56 => if x56 = true then (some false) else ((laws_toNodeS.f k x1).bind fun t325 => ((laws_eqNodeS.f k x11 t325).bind fun t328 => (if t328 = true then (some true) else (some false))))
def laws_FnExactFollowPlan.f (k : Nat) (a0_0 : Int) (a0_1 : Int) (a0_2 : Bool) (a0_3 : Bool) (l1 : List (S61)) (a2_0 : Int) (a2_1 : Bool) : Option (Bool) := (laws_szNodeS.f l1 1048576).bind fun t295 => (if t295 < 0 then (some true) else ((laws_toTask.f a0_0 a0_1 a0_2 a0_3).bind fun bt296 => ((laws_toNodeS.f k l1).bind fun t300 => ((laws_toCase.f a2_0 a2_1).bind fun bt303 => ((spec_FollowPlan.f k bt296.1 bt296.2.1 bt296.2.2.1 bt296.2.2.2 t300 bt303.1 bt303.2).bind fun bt305 => ((laws_toNodeS.f k l1).bind fun t310 => ((laws_toTask.f a0_0 a0_1 a0_2 a0_3).bind fun bt313 => ((laws_toCase.f a2_0 a2_1).bind fun bt317 => ((impl_FollowPlan.f k bt313.1 bt313.2.1 bt313.2.2.1 bt313.2.2.2 t310 bt317.1 bt317.2).bind fun bt319 => ((laws_eqCase.f bt319.1 bt319.2.1 bt305.1 bt305.2.1).bind fun t324 => (if t324 = true then (if bt319.2.2.1 = bt305.2.2.1 then (laws_FnExactFollowPlan.j0 k l1 t310 (bt319.2.2.2 != bt305.2.2.2)) else (laws_FnExactFollowPlan.j0 k l1 t310 true)) else (laws_FnExactFollowPlan.j0 k l1 t310 true))))))))))))
theorem laws_FnExactFollowPlan.mono_l : ∀ k, (∀ y0 y1 y2, LeO (laws_FnExactFollowPlan.j0 k y0 y1 y2) (laws_FnExactFollowPlan.j0 (k + 1) y0 y1 y2))
 | 0 => fun _ _ _ r h => by simp [laws_FnExactFollowPlan.j0] at h
 | k + 1 => by
  have ih0 := laws_FnExactFollowPlan.mono_l k
  ·intro y0 y1 y2
   unfold laws_FnExactFollowPlan.j0
   repeat' first
   | (with_reducible exact ih0 _ _ _)
   | (with_reducible exact impl_FollowPlan.mono _ _ _ _ _ _ _ _)
   | (with_reducible exact laws_eqNodeS.mono _ _ _)
   | (with_reducible exact laws_toNodeS.mono _ _)
   | (with_reducible exact spec_FollowPlan.mono _ _ _ _ _ _ _ _)
   | (with_reducible exact LeO.refl _)
   | (with_reducible exact LeO.none _)
   | (with_reducible refine LeO.ite ?_ ?_)
   | (with_reducible refine LeO.bind ?_ (fun _ => ?_))
   | exact ih0 _ _ _
   | exact impl_FollowPlan.mono _ _ _ _ _ _ _ _
   | exact laws_eqNodeS.mono _ _ _
   | exact laws_toNodeS.mono _ _
   | exact spec_FollowPlan.mono _ _ _ _ _ _ _ _
   | exact LeO.none _
   | refine LeO.ite ?_ ?_
   | refine LeO.bind ?_ (fun _ => ?_)
theorem laws_FnExactFollowPlan.mono : ∀ a0 a1 a2 a3 a4 a5 a6 k, LeO (laws_FnExactFollowPlan.f k a0 a1 a2 a3 a4 a5 a6) (laws_FnExactFollowPlan.f (k + 1) a0 a1 a2 a3 a4 a5 a6) := by
 intro a0 a1 a2 a3 a4 a5 a6 k
 have ih0 := laws_FnExactFollowPlan.mono_l k
 unfold laws_FnExactFollowPlan.f
 repeat' first
   | (with_reducible exact ih0 _ _ _)
   | (with_reducible exact impl_FollowPlan.mono _ _ _ _ _ _ _ _)
   | (with_reducible exact laws_eqNodeS.mono _ _ _)
   | (with_reducible exact laws_toNodeS.mono _ _)
   | (with_reducible exact spec_FollowPlan.mono _ _ _ _ _ _ _ _)
   | (with_reducible exact LeO.refl _)
   | (with_reducible exact LeO.none _)
   | (with_reducible refine LeO.ite ?_ ?_)
   | (with_reducible refine LeO.bind ?_ (fun _ => ?_))
   | exact ih0 _ _ _
   | exact impl_FollowPlan.mono _ _ _ _ _ _ _ _
   | exact laws_eqNodeS.mono _ _ _
   | exact laws_toNodeS.mono _ _
   | exact spec_FollowPlan.mono _ _ _ _ _ _ _ _
   | exact LeO.none _
   | refine LeO.ite ?_ ?_
   | refine LeO.bind ?_ (fun _ => ?_)
def laws_FnExactFollowPlan.T5 : Bool × List (List Nat × List Nat) := (true, [([], []), ([0], [0]), ([], []), ([2, 1], [2]), ([], []), ([4, 3], [4]), ([1, 3, 5, 5], [1, 3, 5]), ([6], [6]), ([7], [7]), ([7], [7]), ([7], [7]), ([], []), ([11, 8, 6, 0, 1, 2, 3, 4, 5, 6, 7, 8, 11], [8, 11]), ([9, 12, 0, 1, 2, 3, 4, 5, 6, 7, 8, 9, 11, 12], [9]), ([10, 13, 0, 1, 2, 3, 4, 5, 6, 7, 8, 9, 10, 11, 12, 13], [10])])
def laws_FnExactFollowPlan.B5 : List Nat := [0, 1, 0, 7, 0, 31, 63, 127, 255, 255, 255, 0, 2559, 7167, 16383]
theorem laws_FnExactFollowPlan.tab5 : rtab .any (opsOf Try.f6 5) = laws_FnExactFollowPlan.T5 := by kernel_rfl
theorem laws_FnExactFollowPlan.bits5 : waitsOk laws_FnExactFollowPlan.T5.2 laws_FnExactFollowPlan.B5 = true := by kernel_rfl
def laws_FnExactFollowPlan.T7 : Bool × List (List Nat × List Nat) := (true, [([], []), ([0], [0]), ([], []), ([], []), ([3, 1], [3]), ([1, 2, 4, 4], [1, 2, 4]), ([5], [5]), ([6], [6]), ([6], [6]), ([6], [6]), ([], []), ([10, 7, 5, 0, 1, 2, 3, 4, 5, 6, 7, 10], [7, 10]), ([8, 11, 0, 1, 2, 3, 4, 5, 6, 7, 8, 10, 11], [8]), ([9, 12, 0, 1, 2, 3, 4, 5, 6, 7, 8, 9, 10, 11, 12], [9])])
def laws_FnExactFollowPlan.B7 : List Nat := [0, 1, 0, 0, 11, 31, 63, 127, 127, 127, 0, 1279, 3583, 8191]
theorem laws_FnExactFollowPlan.tab7 : rtab .any (opsOf Try.f6 7) = laws_FnExactFollowPlan.T7 := by kernel_rfl
theorem laws_FnExactFollowPlan.bits7 : waitsOk laws_FnExactFollowPlan.T7.2 laws_FnExactFollowPlan.B7 = true := by kernel_rfl
set_option maxHeartbeats 8000000 in
set_option maxRecDepth 100000 in
theorem laws_FnExactFollowPlan.calls (k : Nat) (a0_0 : Int) (a0_1 : Int) (a0_2 : Bool) (a0_3 : Bool) (A1 : Option Addr) (c1 : Nat) (l1 : List (S61)) (a2_0 : Int) (a2_1 : Bool) (r : Bool) (w : World) (hr1 : Kd.C k61 w A1 l1.length l1) (hc1 : l1.length ≤ c1) (h : laws_FnExactFollowPlan.f k a0_0 a0_1 a0_2 a0_3 l1 a2_0 a2_1 = some r) :
  Calls Try.prog 6 #[.agg #[.int .i8 a0_0, .int .i8 a0_1, .bool a0_2, .bool a0_3], .slice A1 l1.length c1, .agg #[.int .i8 a2_0, .bool a2_1]] w fun e w' => e = .returned (.bool r) ∧ Below w.heap.size w w' := by
 have hu24 := Try.underlying24
 have hu42 := Try.underlying42
 have hu43 := Try.underlying43
 have HR1 := Aside0.mk hr1
 have HC1 := Aside0.mk hc1
 clear hr1 hc1
 have HB := A_ (Below.refl w.heap.size w)
 have H : ((laws_szNodeS.f l1 1048576).bind fun t295 => (if t295 < 0 then (some true) else ((laws_toTask.f a0_0 a0_1 a0_2 a0_3).bind fun bt296 => ((laws_toNodeS.f k l1).bind fun t300 => ((laws_toCase.f a2_0 a2_1).bind fun bt303 => ((spec_FollowPlan.f k bt296.1 bt296.2.1 bt296.2.2.1 bt296.2.2.2 t300 bt303.1 bt303.2).bind fun bt305 => ((laws_toNodeS.f k l1).bind fun t310 => ((laws_toTask.f a0_0 a0_1 a0_2 a0_3).bind fun bt313 => ((laws_toCase.f a2_0 a2_1).bind fun bt317 => ((impl_FollowPlan.f k bt313.1 bt313.2.1 bt313.2.2.1 bt313.2.2.2 t310 bt317.1 bt317.2).bind fun bt319 => ((laws_eqCase.f bt319.1 bt319.2.1 bt305.1 bt305.2.1).bind fun t324 => (if t324 = true then (if bt319.2.2.1 = bt305.2.2.1 then (laws_FnExactFollowPlan.j0 k l1 t310 (bt319.2.2.2 != bt305.2.2.2)) else (laws_FnExactFollowPlan.j0 k l1 t310 true)) else (laws_FnExactFollowPlan.j0 k l1 t310 true))))))))))))) = some r := h
 clear h
 replace H := Option.bind_eq_some_iff.mp H
 obtain ⟨t295, A40, H⟩ := H
 replace H : (if t295 < 0 then (some true) else ((laws_toTask.f a0_0 a0_1 a0_2 a0_3).bind fun bt296 => ((laws_toNodeS.f k l1).bind fun t300 => ((laws_toCase.f a2_0 a2_1).bind fun bt303 => ((spec_FollowPlan.f k bt296.1 bt296.2.1 bt296.2.2.1 bt296.2.2.2 t300 bt303.1 bt303.2).bind fun bt305 => ((laws_toNodeS.f k l1).bind fun t310 => ((laws_toTask.f a0_0 a0_1 a0_2 a0_3).bind fun bt313 => ((laws_toCase.f a2_0 a2_1).bind fun bt317 => ((impl_FollowPlan.f k bt313.1 bt313.2.1 bt313.2.2.1 bt313.2.2.2 t310 bt317.1 bt317.2).bind fun bt319 => ((laws_eqCase.f bt319.1 bt319.2.1 bt305.1 bt305.2.1).bind fun t324 => (if t324 = true then (if bt319.2.2.1 = bt305.2.2.1 then (laws_FnExactFollowPlan.j0 k l1 t310 (bt319.2.2.2 != bt305.2.2.2)) else (laws_FnExactFollowPlan.j0 k l1 t310 true)) else (laws_FnExactFollowPlan.j0 k l1 t310 true)))))))))))) = some r := H
 have A4 := Aside0.mk A40
 clear A40
 by_cases c5 : t295 < 0
 ·rw [if_pos c5] at H
  have c5b0 : decide (t295 < 0) = true := decide_eq_true c5
  clear c5
  obtain rfl := Option.some.inj H
  go_enter Try.func6, Try.ntmps6
  go_wp2_with (first | ((with_reducible refine gate_dst (N := 3) rfl ?_); refine box_event ?hg (N := 3) ?hd (cs := #[.int .i8 a0_0, .int .i8 a0_1, .bool a0_2, .bool a0_3]) (t := 24) ?hr ?_; (case hd => rfl); (case hg => rfl); (case hr => first | (go_simp; done) | (go_simp; rfl)); intro gb293 hg w6 hbox hb; have n0_ := A_ (below_step (bl_ HB) hb); have n1_ := A_ (hbox); have n2_ := A_ ((by rw [hg]; exact (below_size (bl_ HB)) : w.heap.size ≤ gb293)); have n3_ := n2_; clear HB; have HB := n0_; have BK293 := n1_; have GW293 := n2_; have GE293 := n3_; clear n0_ n1_ n2_ n3_; clear hb hbox hg) | ((with_reducible refine gate_dst (N := 5) rfl ?_); refine box_event ?hg (N := 5) ?hd (cs := #[.int .i8 a2_0, .bool a2_1]) (t := 42) ?hr ?_; (case hd => rfl); (case hg => rfl); (case hr => first | (go_simp; done) | (go_simp; rfl)); intro gb294 hg w7 hbox hb; have n0_ := A_ (blk_below (pl_ BK293) hb); have n1_ := A_ (below_step (bl_ HB) hb); have n2_ := A_ (hbox); have n3_ := A_ ((by rw [hg]; exact (below_size (bl_ HB)) : w.heap.size ≤ gb294)); have n4_ := n3_; have n5_ := A_ ((by rw [hg]; exact Nat.ne_of_lt (blk_lt (pl_ BK293)) : gb293 ≠ gb294)); have n6_ := Aside0.mk n5_.out.symm; clear BK293; clear HB; have BK293 := n0_; have HB := n1_; have BK294 := n2_; have GW294 := n3_; have GE294 := n4_; have NB293_294 := n5_; have NB294_293 := n6_; clear n0_ n1_ n2_ n3_ n4_ n5_ n6_; clear hb hbox hg) | ((with_reducible refine gate_callee (f := 11) rfl ?_); refine goesL_ (some 17) rfl rfl Try.func11 (by kernel_rfl) rfl #[.slice A1 l1.length c1, .int .i64 1048576] rfl arg_ ?_; (with_reducible refine (laws_szNodeS.calls _ _ l1 1048576 t295 _ ?side1 ?side2 A4.out).mono ?_); (case side1 => exact Kd.C_below HR1.out (bl_ HB)); (case side2 => exact HC1.out); rintro e w' ⟨rfl, ⟨nd, rfl⟩⟩; refine ⟨_, rfl, ?_⟩))
  go_ret
  exact ⟨by first | rfl | (simp [errW_none, errW_some] <;> rfl) | (simp [*, errW_none, errW_some] <;> rfl), bl_ HB⟩
 ·rw [if_neg c5] at H
  have c5b0 : decide (t295 < 0) = false := decide_eq_false c5
  clear c5
  replace H := Option.bind_eq_some_iff.mp H
  obtain ⟨⟨t296, t297, t298, t299⟩, A80, H⟩ := H
  replace H : ((laws_toNodeS.f k l1).bind fun t300 => ((laws_toCase.f a2_0 a2_1).bind fun bt303 => ((spec_FollowPlan.f k t296 t297 t298 t299 t300 bt303.1 bt303.2).bind fun bt305 => ((laws_toNodeS.f k l1).bind fun t310 => ((laws_toTask.f a0_0 a0_1 a0_2 a0_3).bind fun bt313 => ((laws_toCase.f a2_0 a2_1).bind fun bt317 => ((impl_FollowPlan.f k bt313.1 bt313.2.1 bt313.2.2.1 bt313.2.2.2 t310 bt317.1 bt317.2).bind fun bt319 => ((laws_eqCase.f bt319.1 bt319.2.1 bt305.1 bt305.2.1).bind fun t324 => (if t324 = true then (if bt319.2.2.1 = bt305.2.2.1 then (laws_FnExactFollowPlan.j0 k l1 t310 (bt319.2.2.2 != bt305.2.2.2)) else (laws_FnExactFollowPlan.j0 k l1 t310 true)) else (laws_FnExactFollowPlan.j0 k l1 t310 true)))))))))) = some r := H
  have A8 := Aside0.mk A80
  clear A80
  replace H := Option.bind_eq_some_iff.mp H
  obtain ⟨t300, A90, H⟩ := H
  replace H : ((laws_toCase.f a2_0 a2_1).bind fun bt303 => ((spec_FollowPlan.f k t296 t297 t298 t299 t300 bt303.1 bt303.2).bind fun bt305 => ((laws_toNodeS.f k l1).bind fun t310 => ((laws_toTask.f a0_0 a0_1 a0_2 a0_3).bind fun bt313 => ((laws_toCase.f a2_0 a2_1).bind fun bt317 => ((impl_FollowPlan.f k bt313.1 bt313.2.1 bt313.2.2.1 bt313.2.2.2 t310 bt317.1 bt317.2).bind fun bt319 => ((laws_eqCase.f bt319.1 bt319.2.1 bt305.1 bt305.2.1).bind fun t324 => (if t324 = true then (if bt319.2.2.1 = bt305.2.2.1 then (laws_FnExactFollowPlan.j0 k l1 t310 (bt319.2.2.2 != bt305.2.2.2)) else (laws_FnExactFollowPlan.j0 k l1 t310 true)) else (laws_FnExactFollowPlan.j0 k l1 t310 true))))))))) = some r := H
  have A9 := Aside0.mk A90
  clear A90
  replace H := Option.bind_eq_some_iff.mp H
  obtain ⟨⟨t303, t304⟩, A100, H⟩ := H
  replace H : ((spec_FollowPlan.f k t296 t297 t298 t299 t300 t303 t304).bind fun bt305 => ((laws_toNodeS.f k l1).bind fun t310 => ((laws_toTask.f a0_0 a0_1 a0_2 a0_3).bind fun bt313 => ((laws_toCase.f a2_0 a2_1).bind fun bt317 => ((impl_FollowPlan.f k bt313.1 bt313.2.1 bt313.2.2.1 bt313.2.2.2 t310 bt317.1 bt317.2).bind fun bt319 => ((laws_eqCase.f bt319.1 bt319.2.1 bt305.1 bt305.2.1).bind fun t324 => (if t324 = true then (if bt319.2.2.1 = bt305.2.2.1 then (laws_FnExactFollowPlan.j0 k l1 t310 (bt319.2.2.2 != bt305.2.2.2)) else (laws_FnExactFollowPlan.j0 k l1 t310 true)) else (laws_FnExactFollowPlan.j0 k l1 t310 true)))))))) = some r := H
  have A10 := Aside0.mk A100
  clear A100
  replace H := Option.bind_eq_some_iff.mp H
  obtain ⟨⟨t305, t306, t307, t308⟩, A110, H⟩ := H
  replace H : ((laws_toNodeS.f k l1).bind fun t310 => ((laws_toTask.f a0_0 a0_1 a0_2 a0_3).bind fun bt313 => ((laws_toCase.f a2_0 a2_1).bind fun bt317 => ((impl_FollowPlan.f k bt313.1 bt313.2.1 bt313.2.2.1 bt313.2.2.2 t310 bt317.1 bt317.2).bind fun bt319 => ((laws_eqCase.f bt319.1 bt319.2.1 t305 t306).bind fun t324 => (if t324 = true then (if bt319.2.2.1 = t307 then (laws_FnExactFollowPlan.j0 k l1 t310 (bt319.2.2.2 != t308)) else (laws_FnExactFollowPlan.j0 k l1 t310 true)) else (laws_FnExactFollowPlan.j0 k l1 t310 true))))))) = some r := H
  have A11 := Aside0.mk A110
  clear A110
  replace H := Option.bind_eq_some_iff.mp H
  obtain ⟨t310, A120, H⟩ := H
  replace H : ((laws_toTask.f a0_0 a0_1 a0_2 a0_3).bind fun bt313 => ((laws_toCase.f a2_0 a2_1).bind fun bt317 => ((impl_FollowPlan.f k bt313.1 bt313.2.1 bt313.2.2.1 bt313.2.2.2 t310 bt317.1 bt317.2).bind fun bt319 => ((laws_eqCase.f bt319.1 bt319.2.1 t305 t306).bind fun t324 => (if t324 = true then (if bt319.2.2.1 = t307 then (laws_FnExactFollowPlan.j0 k l1 t310 (bt319.2.2.2 != t308)) else (laws_FnExactFollowPlan.j0 k l1 t310 true)) else (laws_FnExactFollowPlan.j0 k l1 t310 true)))))) = some r := H
  have A12 := Aside0.mk A120
  clear A120
  replace H := Option.bind_eq_some_iff.mp H
  obtain ⟨⟨t313, t314, t315, t316⟩, A130, H⟩ := H
  replace H : ((laws_toCase.f a2_0 a2_1).bind fun bt317 => ((impl_FollowPlan.f k t313 t314 t315 t316 t310 bt317.1 bt317.2).bind fun bt319 => ((laws_eqCase.f bt319.1 bt319.2.1 t305 t306).bind fun t324 => (if t324 = true then (if bt319.2.2.1 = t307 then (laws_FnExactFollowPlan.j0 k l1 t310 (bt319.2.2.2 != t308)) else (laws_FnExactFollowPlan.j0 k l1 t310 true)) else (laws_FnExactFollowPlan.j0 k l1 t310 true))))) = some r := H
  have A13 := Aside0.mk A130
  clear A130
  replace H := Option.bind_eq_some_iff.mp H
  obtain ⟨⟨t317, t318⟩, A140, H⟩ := H
  replace H : ((impl_FollowPlan.f k t313 t314 t315 t316 t310 t317 t318).bind fun bt319 => ((laws_eqCase.f bt319.1 bt319.2.1 t305 t306).bind fun t324 => (if t324 = true then (if bt319.2.2.1 = t307 then (laws_FnExactFollowPlan.j0 k l1 t310 (bt319.2.2.2 != t308)) else (laws_FnExactFollowPlan.j0 k l1 t310 true)) else (laws_FnExactFollowPlan.j0 k l1 t310 true)))) = some r := H
  have A14 := Aside0.mk A140
  clear A140
  replace H := Option.bind_eq_some_iff.mp H
  obtain ⟨⟨t319, t320, t321, t322⟩, A150, H⟩ := H
  replace H : ((laws_eqCase.f t319 t320 t305 t306).bind fun t324 => (if t324 = true then (if t321 = t307 then (laws_FnExactFollowPlan.j0 k l1 t310 (t322 != t308)) else (laws_FnExactFollowPlan.j0 k l1 t310 true)) else (laws_FnExactFollowPlan.j0 k l1 t310 true))) = some r := H
  have A15 := Aside0.mk A150
  clear A150
  have HC16 := Aside0.mk H
  clear H
  go_enter Try.func6, Try.ntmps6
  try go_wp2_with (first | ((with_reducible refine gate_dst (N := 3) rfl ?_); refine box_event ?hg (N := 3) ?hd (cs := #[.int .i8 a0_0, .int .i8 a0_1, .bool a0_2, .bool a0_3]) (t := 24) ?hr ?_; (case hd => rfl); (case hg => rfl); (case hr => first | (go_simp; done) | (go_simp; rfl)); intro gb293 hg w17 hbox hb; have n0_ := A_ (below_step (bl_ HB) hb); have n1_ := A_ (hbox); have n2_ := A_ ((by rw [hg]; exact (below_size (bl_ HB)) : w.heap.size ≤ gb293)); have n3_ := n2_; clear HB; have HB := n0_; have BK293 := n1_; have GW293 := n2_; have GE293 := n3_; clear n0_ n1_ n2_ n3_; clear hb hbox hg) | ((with_reducible refine gate_dst (N := 5) rfl ?_); refine box_event ?hg (N := 5) ?hd (cs := #[.int .i8 a2_0, .bool a2_1]) (t := 42) ?hr ?_; (case hd => rfl); (case hg => rfl); (case hr => first | (go_simp; done) | (go_simp; rfl)); intro gb294 hg w18 hbox hb; have n0_ := A_ (blk_below (pl_ BK293) hb); have n1_ := A_ (below_step (bl_ HB) hb); have n2_ := A_ (hbox); have n3_ := A_ ((by rw [hg]; exact (below_size (bl_ HB)) : w.heap.size ≤ gb294)); have n4_ := n3_; have n5_ := A_ ((by rw [hg]; exact Nat.ne_of_lt (blk_lt (pl_ BK293)) : gb293 ≠ gb294)); have n6_ := Aside0.mk n5_.out.symm; clear BK293; clear HB; have BK293 := n0_; have HB := n1_; have BK294 := n2_; have GW294 := n3_; have GE294 := n4_; have NB293_294 := n5_; have NB294_293 := n6_; clear n0_ n1_ n2_ n3_ n4_ n5_ n6_; clear hb hbox hg) | ((with_reducible refine gate_callee (f := 11) rfl ?_); refine goesL_ (some 17) rfl rfl Try.func11 (by kernel_rfl) rfl #[.slice A1 l1.length c1, .int .i64 1048576] rfl arg_ ?_; (with_reducible refine (laws_szNodeS.calls _ _ l1 1048576 t295 _ ?side1 ?side2 A4.out).mono ?_); (case side1 => exact Kd.C_below HR1.out (bl_ HB)); (case side2 => exact HC1.out); rintro e w' ⟨rfl, ⟨nd, rfl⟩⟩; refine ⟨_, rfl, ?_⟩; (try (rw [drewN_self w18]; generalize hq_ : World.drewN w18 _ = w18; have n0_ : Aside0 (w18.heap[gb293]? = some (.cells #[.int .i8 a0_0, .int .i8 a0_1, .bool a0_2, .bool a0_3] 24 (0, 0))) := ⟨by rw [← hq_]; exact (pl_ BK293)⟩; have n1_ : Aside0 (w18.heap[gb294]? = some (.cells #[.int .i8 a2_0, .bool a2_1] 42 (0, 0))) := ⟨by rw [← hq_]; exact (pl_ BK294)⟩; have n2_ : Aside0 (Below w.heap.size w w18) := ⟨by rw [← hq_]; exact (bl_ HB)⟩; clear BK293 BK294 HB hq_; have BK293 := n0_; have BK294 := n1_; have HB := n2_; clear n0_ n1_ n2_))))
  have n0_ := A_ (blk_drew BK293.out)
  have n1_ := A_ (blk_drew BK294.out)
  have n2_ := A_ (below_drew1 HB.out)
  clear BK293
  clear BK294
  clear HB
  have BK293 := n0_
  have BK294 := n1_
  have HB := n2_
  clear n0_ n1_ n2_
  refine start_ (n := 15) (S := fun w' => w'.cell? ⟨gb293, 0, none⟩ = some (.int .i8 a0_0) ∧ w'.cell? ⟨gb293, 1, none⟩ = some (.int .i8 a0_1) ∧ w'.cell? ⟨gb293, 2, none⟩ = some (.bool a0_2) ∧ w'.cell? ⟨gb293, 3, none⟩ = some (.bool a0_3) ∧ w'.cell? ⟨gb294, 0, none⟩ = some (.int .i8 a2_0) ∧ w'.cell? ⟨gb294, 1, none⟩ = some (.bool a2_1)) (ds := []) #[false, false, false, false, false, false, false, false, false, false, false, false, false, false, false] (by kernel_rfl) rfl rfl ⟨(blk_cell BK293.out 0).trans rfl, (blk_cell BK293.out 1).trans rfl, (blk_cell BK293.out 2).trans rfl, (blk_cell BK293.out 3).trans rfl, (blk_cell BK294.out 0).trans rfl, (blk_cell BK294.out 1).trans rfl⟩ (fun hHeld => ?_); refine with_tabW laws_FnExactFollowPlan.tab5 laws_FnExactFollowPlan.bits5 (fun HT_ HW_ => ?_)
  generalize w18.drew = w19 at BK293 BK294 HB hHeld ⊢
  refine pure_ (i := 2) (N := some 23) (v := ?_) (a' := ?_) #[false, false, true, false, false, false, false, false, false, false, false, false, false, false, false] rfl rfl (any_of HT_.out (by kernel_rfl)) (fun _ _ _ h => h) (Or.inl ⟨by rfl, ?_⟩) ?_ ?_
  rotate_left
  ·intro w'
   go_simp
   with_reducible rfl
  rotate_left
  ·simp only [Act.put, sp_]
   rfl
  refine take_ (i := 0) (N := some 21) (v := ?_) (a' := ?_) #[true, false, true, false, false, false, false, false, false, false, false, false, false, false, false] rfl rfl (take_ofW HT_.out HW_.out (by kernel_rfl)) (fun _ _ _ h => h) (Or.inl ⟨by rfl, ?_⟩) hHeld ?_ ?_
  rotate_left
  ·rintro w' ⟨s0, s1, s2, s3, s4, s5⟩
   go_simp
   with_reducible rfl
  rotate_left
  ·simp only [Act.put, sp_]
   rfl
  refine take_ (i := 4) (N := some 25) (v := ?_) (a' := ?_) #[true, false, true, false, true, false, false, false, false, false, false, false, false, false, false] rfl rfl (take_ofW HT_.out HW_.out (by kernel_rfl)) (fun _ _ _ h => h) (Or.inl ⟨by rfl, ?_⟩) hHeld ?_ ?_
  rotate_left
  ·rintro w' ⟨s0, s1, s2, s3, s4, s5⟩
   go_simp
   with_reducible rfl
  rotate_left
  ·simp only [Act.put, sp_]
   rfl
  refine join_ (σ := Value × Nat) 3 #[true, true, true, true, true, true, true, true, true, true, true, true, false, false, false] (fun s_ => [(22, .agg #[.int .i8 t296, .int .i8 t297, .bool t298, .bool t299]), (24, s_.1), (26, .agg #[.int .i8 t303, .bool t304]), (27, .tuple #[.agg #[.int .i8 t305, .bool t306], .int .i64 t307, .int .i64 t308]), (8, .pointer (some ⟨s_.2, 0, none⟩)), (20, .tuple #[.agg #[.int .i8 t305, .bool t306], .int .i64 t307, .int .i64 t308]), (28, .agg #[.int .i8 t305, .bool t306]), (29, .int .i64 t307), (30, .int .i64 t308)]) (fun s_ w' => (w'.cell? ⟨gb293, 0, none⟩ = some (.int .i8 a0_0) ∧ w'.cell? ⟨gb293, 1, none⟩ = some (.int .i8 a0_1) ∧ w'.cell? ⟨gb293, 2, none⟩ = some (.bool a0_2) ∧ w'.cell? ⟨gb293, 3, none⟩ = some (.bool a0_3) ∧ w'.cell? ⟨gb294, 0, none⟩ = some (.int .i8 a2_0) ∧ w'.cell? ⟨gb294, 1, none⟩ = some (.bool a2_1)) ∧ (Kd.R k58 58 w' w.heap.size (fun _ => True) s_.1 t300) ∧ (w'.heap[gb293]? = some (.cells #[.int .i8 a0_0, .int .i8 a0_1, .bool a0_2, .bool a0_3] 24 (0, 0))) ∧ (w'.heap[gb294]? = some (.cells #[.int .i8 a2_0, .bool a2_1] 42 (0, 0))) ∧ (w'.heap[s_.2]? = some (.cells #[.int .i8 0, .bool false] 43 (0, 0))) ∧ (w.heap.size ≤ s_.2) ∧ (w.heap.size ≤ s_.2) ∧ (gb293 ≠ s_.2) ∧ (s_.2 ≠ gb293) ∧ (gb294 ≠ s_.2) ∧ (s_.2 ≠ gb294) ∧ (Below w.heap.size w w')) ?_ ?_
  rotate_left
  ·intro hJ1_3_5_6_11
   refine join_ (σ := Value) 4 #[true, true, true, true, true, true, true, true, true, true, true, false, false, false, false] (fun s_ => [(22, .agg #[.int .i8 t296, .int .i8 t297, .bool t298, .bool t299]), (24, s_), (26, .agg #[.int .i8 t303, .bool t304]), (27, .tuple #[.agg #[.int .i8 t305, .bool t306], .int .i64 t307, .int .i64 t308]), (20, .tuple #[.agg #[.int .i8 t305, .bool t306], .int .i64 t307, .int .i64 t308]), (28, .agg #[.int .i8 t305, .bool t306]), (29, .int .i64 t307), (30, .int .i64 t308)]) (fun s_ w' => (w'.cell? ⟨gb293, 0, none⟩ = some (.int .i8 a0_0) ∧ w'.cell? ⟨gb293, 1, none⟩ = some (.int .i8 a0_1) ∧ w'.cell? ⟨gb293, 2, none⟩ = some (.bool a0_2) ∧ w'.cell? ⟨gb293, 3, none⟩ = some (.bool a0_3) ∧ w'.cell? ⟨gb294, 0, none⟩ = some (.int .i8 a2_0) ∧ w'.cell? ⟨gb294, 1, none⟩ = some (.bool a2_1)) ∧ (Kd.R k58 58 w' w.heap.size (fun _ => True) s_ t300) ∧ (w'.heap[gb293]? = some (.cells #[.int .i8 a0_0, .int .i8 a0_1, .bool a0_2, .bool a0_3] 24 (0, 0))) ∧ (w'.heap[gb294]? = some (.cells #[.int .i8 a2_0, .bool a2_1] 42 (0, 0))) ∧ (Below w.heap.size w w')) ?_ ?_
   rotate_left
   ·intro hJ1_3_5_6
    refine join_ (σ := Value × Nat) 8 #[true, true, true, true, true, true, false, false, false, false, false, true, false, false, false] (fun s_ => [(22, .agg #[.int .i8 t296, .int .i8 t297, .bool t298, .bool t299]), (24, s_.1), (26, .agg #[.int .i8 t303, .bool t304]), (8, .pointer (some ⟨s_.2, 0, none⟩))]) (fun s_ w' => (w'.cell? ⟨gb293, 0, none⟩ = some (.int .i8 a0_0) ∧ w'.cell? ⟨gb293, 1, none⟩ = some (.int .i8 a0_1) ∧ w'.cell? ⟨gb293, 2, none⟩ = some (.bool a0_2) ∧ w'.cell? ⟨gb293, 3, none⟩ = some (.bool a0_3) ∧ w'.cell? ⟨gb294, 0, none⟩ = some (.int .i8 a2_0) ∧ w'.cell? ⟨gb294, 1, none⟩ = some (.bool a2_1)) ∧ (Kd.R k58 58 w' w.heap.size (fun _ => True) s_.1 t300) ∧ (w'.heap[gb293]? = some (.cells #[.int .i8 a0_0, .int .i8 a0_1, .bool a0_2, .bool a0_3] 24 (0, 0))) ∧ (w'.heap[gb294]? = some (.cells #[.int .i8 a2_0, .bool a2_1] 42 (0, 0))) ∧ (w'.heap[s_.2]? = some (.cells #[.int .i8 0, .bool false] 43 (0, 0))) ∧ (w.heap.size ≤ s_.2) ∧ (w.heap.size ≤ s_.2) ∧ (gb293 ≠ s_.2) ∧ (s_.2 ≠ gb293) ∧ (gb294 ≠ s_.2) ∧ (s_.2 ≠ gb294) ∧ (Below w.heap.size w w')) ?_ ?_
    rotate_left
    ·intro hJ1_3_5_11
     refine join_ (σ := Value) 9 #[true, true, true, true, true, true, false, false, false, false, false, false, false, false, false] (fun s_ => [(22, .agg #[.int .i8 t296, .int .i8 t297, .bool t298, .bool t299]), (24, s_), (26, .agg #[.int .i8 t303, .bool t304])]) (fun s_ w' => (w'.cell? ⟨gb293, 0, none⟩ = some (.int .i8 a0_0) ∧ w'.cell? ⟨gb293, 1, none⟩ = some (.int .i8 a0_1) ∧ w'.cell? ⟨gb293, 2, none⟩ = some (.bool a0_2) ∧ w'.cell? ⟨gb293, 3, none⟩ = some (.bool a0_3) ∧ w'.cell? ⟨gb294, 0, none⟩ = some (.int .i8 a2_0) ∧ w'.cell? ⟨gb294, 1, none⟩ = some (.bool a2_1)) ∧ (Kd.R k58 58 w' w.heap.size (fun _ => True) s_ t300) ∧ (w'.heap[gb293]? = some (.cells #[.int .i8 a0_0, .int .i8 a0_1, .bool a0_2, .bool a0_3] 24 (0, 0))) ∧ (w'.heap[gb294]? = some (.cells #[.int .i8 a2_0, .bool a2_1] 42 (0, 0))) ∧ (Below w.heap.size w w')) ?_ ?_
     rotate_left
     ·intro hJ1_3_5
      refine join_ (σ := Value × Nat) 9 #[true, true, true, true, true, false, false, false, false, false, false, true, false, false, false] (fun s_ => [(22, .agg #[.int .i8 t296, .int .i8 t297, .bool t298, .bool t299]), (24, s_.1), (8, .pointer (some ⟨s_.2, 0, none⟩))]) (fun s_ w' => (w'.cell? ⟨gb293, 0, none⟩ = some (.int .i8 a0_0) ∧ w'.cell? ⟨gb293, 1, none⟩ = some (.int .i8 a0_1) ∧ w'.cell? ⟨gb293, 2, none⟩ = some (.bool a0_2) ∧ w'.cell? ⟨gb293, 3, none⟩ = some (.bool a0_3) ∧ w'.cell? ⟨gb294, 0, none⟩ = some (.int .i8 a2_0) ∧ w'.cell? ⟨gb294, 1, none⟩ = some (.bool a2_1)) ∧ (Kd.R k58 58 w' w.heap.size (fun _ => True) s_.1 t300) ∧ (w'.heap[gb293]? = some (.cells #[.int .i8 a0_0, .int .i8 a0_1, .bool a0_2, .bool a0_3] 24 (0, 0))) ∧ (w'.heap[gb294]? = some (.cells #[.int .i8 a2_0, .bool a2_1] 42 (0, 0))) ∧ (w'.heap[s_.2]? = some (.cells #[.int .i8 0, .bool false] 43 (0, 0))) ∧ (w.heap.size ≤ s_.2) ∧ (w.heap.size ≤ s_.2) ∧ (gb293 ≠ s_.2) ∧ (s_.2 ≠ gb293) ∧ (gb294 ≠ s_.2) ∧ (s_.2 ≠ gb294) ∧ (Below w.heap.size w w')) ?_ ?_
      rotate_left
      ·intro hJ1_3_11
       refine join_ (σ := Value) 10 #[true, true, true, true, true, false, false, false, false, false, false, false, false, false, false] (fun s_ => [(22, .agg #[.int .i8 t296, .int .i8 t297, .bool t298, .bool t299]), (24, s_)]) (fun s_ w' => (w'.cell? ⟨gb293, 0, none⟩ = some (.int .i8 a0_0) ∧ w'.cell? ⟨gb293, 1, none⟩ = some (.int .i8 a0_1) ∧ w'.cell? ⟨gb293, 2, none⟩ = some (.bool a0_2) ∧ w'.cell? ⟨gb293, 3, none⟩ = some (.bool a0_3) ∧ w'.cell? ⟨gb294, 0, none⟩ = some (.int .i8 a2_0) ∧ w'.cell? ⟨gb294, 1, none⟩ = some (.bool a2_1)) ∧ (Kd.R k58 58 w' w.heap.size (fun _ => True) s_ t300) ∧ (w'.heap[gb293]? = some (.cells #[.int .i8 a0_0, .int .i8 a0_1, .bool a0_2, .bool a0_3] 24 (0, 0))) ∧ (w'.heap[gb294]? = some (.cells #[.int .i8 a2_0, .bool a2_1] 42 (0, 0))) ∧ (Below w.heap.size w w')) ?_ ?_
       rotate_left
       ·intro hJ1_3
        refine join_ (σ := Nat) 10 #[true, true, true, false, true, false, false, false, false, false, false, true, false, false, false] (fun s_ => [(22, .agg #[.int .i8 t296, .int .i8 t297, .bool t298, .bool t299]), (8, .pointer (some ⟨s_, 0, none⟩))]) (fun s_ w' => (w'.cell? ⟨gb293, 0, none⟩ = some (.int .i8 a0_0) ∧ w'.cell? ⟨gb293, 1, none⟩ = some (.int .i8 a0_1) ∧ w'.cell? ⟨gb293, 2, none⟩ = some (.bool a0_2) ∧ w'.cell? ⟨gb293, 3, none⟩ = some (.bool a0_3) ∧ w'.cell? ⟨gb294, 0, none⟩ = some (.int .i8 a2_0) ∧ w'.cell? ⟨gb294, 1, none⟩ = some (.bool a2_1)) ∧ (w'.heap[gb293]? = some (.cells #[.int .i8 a0_0, .int .i8 a0_1, .bool a0_2, .bool a0_3] 24 (0, 0))) ∧ (w'.heap[gb294]? = some (.cells #[.int .i8 a2_0, .bool a2_1] 42 (0, 0))) ∧ (w'.heap[s_]? = some (.cells #[.int .i8 0, .bool false] 43 (0, 0))) ∧ (w.heap.size ≤ s_) ∧ (w.heap.size ≤ s_) ∧ (gb293 ≠ s_) ∧ (s_ ≠ gb293) ∧ (gb294 ≠ s_) ∧ (s_ ≠ gb294) ∧ (Below w.heap.size w w')) ?_ ?_
        rotate_left
        ·intro hJ1_11
         refine join_ (σ := Unit) 11 #[true, true, true, false, true, false, false, false, false, false, false, false, false, false, false] (fun s_ => [(22, .agg #[.int .i8 t296, .int .i8 t297, .bool t298, .bool t299])]) (fun s_ w' => (w'.cell? ⟨gb293, 0, none⟩ = some (.int .i8 a0_0) ∧ w'.cell? ⟨gb293, 1, none⟩ = some (.int .i8 a0_1) ∧ w'.cell? ⟨gb293, 2, none⟩ = some (.bool a0_2) ∧ w'.cell? ⟨gb293, 3, none⟩ = some (.bool a0_3) ∧ w'.cell? ⟨gb294, 0, none⟩ = some (.int .i8 a2_0) ∧ w'.cell? ⟨gb294, 1, none⟩ = some (.bool a2_1)) ∧ (w'.heap[gb293]? = some (.cells #[.int .i8 a0_0, .int .i8 a0_1, .bool a0_2, .bool a0_3] 24 (0, 0))) ∧ (w'.heap[gb294]? = some (.cells #[.int .i8 a2_0, .bool a2_1] 42 (0, 0))) ∧ (Below w.heap.size w w')) ?_ ?_
         rotate_left
         ·intro hJ1
          refine join_ (σ := Nat) 11 #[true, false, true, false, true, false, false, false, false, false, false, true, false, false, false] (fun s_ => [(8, .pointer (some ⟨s_, 0, none⟩))]) (fun s_ w' => (w'.cell? ⟨gb293, 0, none⟩ = some (.int .i8 a0_0) ∧ w'.cell? ⟨gb293, 1, none⟩ = some (.int .i8 a0_1) ∧ w'.cell? ⟨gb293, 2, none⟩ = some (.bool a0_2) ∧ w'.cell? ⟨gb293, 3, none⟩ = some (.bool a0_3) ∧ w'.cell? ⟨gb294, 0, none⟩ = some (.int .i8 a2_0) ∧ w'.cell? ⟨gb294, 1, none⟩ = some (.bool a2_1)) ∧ (w'.heap[gb293]? = some (.cells #[.int .i8 a0_0, .int .i8 a0_1, .bool a0_2, .bool a0_3] 24 (0, 0))) ∧ (w'.heap[gb294]? = some (.cells #[.int .i8 a2_0, .bool a2_1] 42 (0, 0))) ∧ (w'.heap[s_]? = some (.cells #[.int .i8 0, .bool false] 43 (0, 0))) ∧ (w.heap.size ≤ s_) ∧ (w.heap.size ≤ s_) ∧ (gb293 ≠ s_) ∧ (s_ ≠ gb293) ∧ (gb294 ≠ s_) ∧ (s_ ≠ gb294) ∧ (Below w.heap.size w w')) ?_ ?_
          rotate_left
          ·intro hJ11
           refine two_ (i := 1) (j := 11) (Ni := some 22) (Nj := some 8) #[true, true, true, false, true, false, false, false, false, false, false, false, false, false, false] #[true, false, true, false, true, false, false, false, false, false, false, true, false, false, false] rfl rfl rfl rfl (two_of HT_.out (by kernel_rfl)) (by decide) (by decide) (fun K hK => ?_) (fun K hK => ?_)
           ·skip
            refine goes_ Try.func8 (by kernel_rfl) rfl #[.agg #[.int .i8 a0_0, .int .i8 a0_1, .bool a0_2, .bool a0_3]] (by rfl) rfl rfl arg_ ?_
            with_reducible refine (laws_toTask.calls a0_0 a0_1 a0_2 a0_3 t296 t297 t298 t299 _ A8.out).mono ?_
            rintro e w20 ⟨rfl, hb⟩
            refine ⟨_, rfl, ?_⟩
            have n0_ := A_ (blk_below (pl_ BK293) hb)
            have n1_ := A_ (blk_below (pl_ BK294) hb)
            have n2_ := A_ (below_step (bl_ HB) hb)
            clear BK293
            clear BK294
            clear HB
            have BK293 := n0_
            have BK294 := n1_
            have HB := n2_
            clear n0_ n1_ n2_
            (try clear hb)
            (try clear hb2)
            (try clear hk)
            (try clear hi)
            refine hK.out _ _ ⟨(blk_cell BK293.out 0).trans rfl, (blk_cell BK293.out 1).trans rfl, (blk_cell BK293.out 2).trans rfl, (blk_cell BK293.out 3).trans rfl, (blk_cell BK294.out 0).trans rfl, (blk_cell BK294.out 1).trans rfl⟩ (fun hHeld => ?_)
            clear hK K
            refine norm_ (a' := ?_) ?_ ?_
            rotate_left
            ·show Act.put _ (some 22) _ = _
             simp only [Act.put, sp_]
             rfl
            exact norm_ (by first | (simp only [putAll, Act.put, List.setIfInBounds_toArray, List.set_cons_zero, List.set_cons_succ]; done) | (simp only [putAll, Act.put, List.setIfInBounds_toArray, List.set_cons_zero, List.set_cons_succ]; rfl)) (hJ1 () _ ⟨hHeld, (pl_ BK293), (pl_ BK294), (bl_ HB)⟩)
           ·skip
            refine box_step ?hg (N := 8) ?hd (cs := #[.int .i8 0, .bool false]) (t := 43) ?hr ?_; (case hd => rfl); (case hg => rfl); (case hr => first | (go_simp; done) | (go_simp; rfl))
            intro gb309 hg w20 hbox hb
            have n0_ := A_ (blk_below (pl_ BK293) hb)
            have n1_ := A_ (blk_below (pl_ BK294) hb)
            have n2_ := A_ (below_step (bl_ HB) hb)
            have n3_ := A_ (hbox)
            have n4_ := A_ ((by rw [hg]; exact (below_size (bl_ HB)) : w.heap.size ≤ gb309))
            have n5_ := n4_
            have n6_ := A_ ((by rw [hg]; exact Nat.ne_of_lt (blk_lt (pl_ BK293)) : gb293 ≠ gb309))
            have n7_ := Aside0.mk n6_.out.symm
            have n8_ := A_ ((by rw [hg]; exact Nat.ne_of_lt (blk_lt (pl_ BK294)) : gb294 ≠ gb309))
            have n9_ := Aside0.mk n8_.out.symm
            clear BK293
            clear BK294
            clear HB
            have BK293 := n0_
            have BK294 := n1_
            have HB := n2_
            have BK309 := n3_
            have GW309 := n4_
            have GE309 := n5_
            have NB293_309 := n6_
            have NB309_293 := n7_
            have NB294_309 := n8_
            have NB309_294 := n9_
            clear n0_ n1_ n2_ n3_ n4_ n5_ n6_ n7_ n8_ n9_
            clear hb hbox hg
            refine hK.out _ _ ⟨(blk_cell BK293.out 0).trans rfl, (blk_cell BK293.out 1).trans rfl, (blk_cell BK293.out 2).trans rfl, (blk_cell BK293.out 3).trans rfl, (blk_cell BK294.out 0).trans rfl, (blk_cell BK294.out 1).trans rfl⟩ (fun hHeld => ?_)
            clear hK K
            refine norm_ (a' := ?_) ?_ ?_
            rotate_left
            ·show Act.put _ (some 8) _ = _
             simp only [Act.put, sp_]
             rfl
            exact norm_ (by first | (simp only [putAll, Act.put, List.setIfInBounds_toArray, List.set_cons_zero, List.set_cons_succ]; done) | (simp only [putAll, Act.put, List.setIfInBounds_toArray, List.set_cons_zero, List.set_cons_succ]; rfl)) (hJ11 (gb309) _ ⟨hHeld, (pl_ BK293), (pl_ BK294), (pl_ BK309), GW309.out, GE309.out, NB293_309.out, NB309_293.out, NB294_309.out, NB309_294.out, (bl_ HB)⟩)
          ·skip
           rintro gb309 w21 ⟨hS_, h0_, h1_, h2_, h3_, h4_, h5_, h6_, h7_, h8_, h9_⟩
           have n0_ : Aside0 (w21.heap[gb293]? = some (.cells #[.int .i8 a0_0, .int .i8 a0_1, .bool a0_2, .bool a0_3] 24 (0, 0))) := ⟨h0_⟩
           have n1_ : Aside0 (w21.heap[gb294]? = some (.cells #[.int .i8 a2_0, .bool a2_1] 42 (0, 0))) := ⟨h1_⟩
           have n2_ : Aside0 (w21.heap[gb309]? = some (.cells #[.int .i8 0, .bool false] 43 (0, 0))) := ⟨h2_⟩
           have n3_ : Aside0 (w.heap.size ≤ gb309) := ⟨h3_⟩
           have n4_ : Aside0 (w.heap.size ≤ gb309) := ⟨h4_⟩
           have n5_ : Aside0 (gb293 ≠ gb309) := ⟨h5_⟩
           have n6_ : Aside0 (gb309 ≠ gb293) := ⟨h6_⟩
           have n7_ : Aside0 (gb294 ≠ gb309) := ⟨h7_⟩
           have n8_ : Aside0 (gb309 ≠ gb294) := ⟨h8_⟩
           have n9_ : Aside0 (Below w.heap.size w w21) := ⟨h9_⟩
           clear BK293
           clear BK294
           clear HB
           clear h0_ h1_ h2_ h3_ h4_ h5_ h6_ h7_ h8_ h9_
           have BK293 := n0_
           have BK294 := n1_
           have BK309 := n2_
           have GW309 := n3_
           have GE309 := n4_
           have NB293_309 := n5_
           have NB309_293 := n6_
           have NB294_309 := n7_
           have NB309_294 := n8_
           have HB := n9_
           clear n0_ n1_ n2_ n3_ n4_ n5_ n6_ n7_ n8_ n9_
           have hHeld : w21.cell? ⟨gb293, 0, none⟩ = some (.int .i8 a0_0) ∧ w21.cell? ⟨gb293, 1, none⟩ = some (.int .i8 a0_1) ∧ w21.cell? ⟨gb293, 2, none⟩ = some (.bool a0_2) ∧ w21.cell? ⟨gb293, 3, none⟩ = some (.bool a0_3) ∧ w21.cell? ⟨gb294, 0, none⟩ = some (.int .i8 a2_0) ∧ w21.cell? ⟨gb294, 1, none⟩ = some (.bool a2_1) := hS_
           refine norm_ (a' := ?_) ?_ ?_
           rotate_left
           ·simp only [putAll, Act.put, List.setIfInBounds_toArray, List.set_cons_zero, List.set_cons_succ]
            rfl
           refine one_ (i := 1) (N := some 22) #[true, true, true, false, true, false, false, false, false, false, false, true, false, false, false] rfl rfl (one_of HT_.out (by kernel_rfl)) (by decide) (fun K hK => ?_)
           refine goes_ Try.func8 (by kernel_rfl) rfl #[.agg #[.int .i8 a0_0, .int .i8 a0_1, .bool a0_2, .bool a0_3]] (by rfl) rfl rfl arg_ ?_
           with_reducible refine (laws_toTask.calls a0_0 a0_1 a0_2 a0_3 t296 t297 t298 t299 _ A8.out).mono ?_
           rintro e w22 ⟨rfl, hb⟩
           refine ⟨_, rfl, ?_⟩
           have n0_ := A_ (blk_below (pl_ BK293) hb)
           have n1_ := A_ (blk_below (pl_ BK294) hb)
           have n2_ := A_ (blk_below (pl_ BK309) hb)
           have n3_ := A_ (below_step (bl_ HB) hb)
           clear BK293
           clear BK294
           clear BK309
           clear HB
           have BK293 := n0_
           have BK294 := n1_
           have BK309 := n2_
           have HB := n3_
           clear n0_ n1_ n2_ n3_
           (try clear hb)
           (try clear hb2)
           (try clear hk)
           (try clear hi)
           refine hK.out _ _ ⟨(blk_cell BK293.out 0).trans rfl, (blk_cell BK293.out 1).trans rfl, (blk_cell BK293.out 2).trans rfl, (blk_cell BK293.out 3).trans rfl, (blk_cell BK294.out 0).trans rfl, (blk_cell BK294.out 1).trans rfl⟩ (fun hHeld => ?_)
           clear hK K
           refine norm_ (a' := ?_) ?_ ?_
           rotate_left
           ·show Act.put _ (some 22) _ = _
            simp only [Act.put, sp_]
            rfl
           exact norm_ (by first | (simp only [putAll, Act.put, List.setIfInBounds_toArray, List.set_cons_zero, List.set_cons_succ]; done) | (simp only [putAll, Act.put, List.setIfInBounds_toArray, List.set_cons_zero, List.set_cons_succ]; rfl)) (hJ1_11 (gb309) _ ⟨hHeld, (pl_ BK293), (pl_ BK294), (pl_ BK309), GW309.out, GE309.out, NB293_309.out, NB309_293.out, NB294_309.out, NB309_294.out, (bl_ HB)⟩)
         ·skip
          rintro _ w21 ⟨hS_, h0_, h1_, h2_⟩
          have n0_ : Aside0 (w21.heap[gb293]? = some (.cells #[.int .i8 a0_0, .int .i8 a0_1, .bool a0_2, .bool a0_3] 24 (0, 0))) := ⟨h0_⟩
          have n1_ : Aside0 (w21.heap[gb294]? = some (.cells #[.int .i8 a2_0, .bool a2_1] 42 (0, 0))) := ⟨h1_⟩
          have n2_ : Aside0 (Below w.heap.size w w21) := ⟨h2_⟩
          clear BK293
          clear BK294
          clear HB
          clear h0_ h1_ h2_
          have BK293 := n0_
          have BK294 := n1_
          have HB := n2_
          clear n0_ n1_ n2_
          have hHeld : w21.cell? ⟨gb293, 0, none⟩ = some (.int .i8 a0_0) ∧ w21.cell? ⟨gb293, 1, none⟩ = some (.int .i8 a0_1) ∧ w21.cell? ⟨gb293, 2, none⟩ = some (.bool a0_2) ∧ w21.cell? ⟨gb293, 3, none⟩ = some (.bool a0_3) ∧ w21.cell? ⟨gb294, 0, none⟩ = some (.int .i8 a2_0) ∧ w21.cell? ⟨gb294, 1, none⟩ = some (.bool a2_1) := hS_
          refine norm_ (a' := ?_) ?_ ?_
          rotate_left
          ·simp only [putAll, Act.put, List.setIfInBounds_toArray, List.set_cons_zero, List.set_cons_succ]
           rfl
          refine two_ (i := 3) (j := 11) (Ni := some 24) (Nj := some 8) #[true, true, true, true, true, false, false, false, false, false, false, false, false, false, false] #[true, true, true, false, true, false, false, false, false, false, false, true, false, false, false] rfl rfl rfl rfl (two_of HT_.out (by kernel_rfl)) (by decide) (by decide) (fun K hK => ?_) (fun K hK => ?_)
          ·skip
           refine goes_ Try.func13 (by kernel_rfl) rfl #[.slice A1 l1.length c1] (by rfl) rfl rfl arg_ ?_
           with_reducible refine (laws_toNodeS.calls k _ _ l1 t300 _ ?side1 ?side2 A9.out).mono ?_
           (case side1 => exact Kd.C_below HR1.out (bl_ HB))
           (case side2 => exact HC1.out)
           rintro e w22 ⟨v301, rfl, ho0, hb⟩
           refine ⟨_, rfl, ?_⟩
           have n0_ := A_ (Kd.R_lower ho0 (below_size (bl_ HB)))
           have n1_ := A_ (blk_below (pl_ BK293) hb)
           have n2_ := A_ (blk_below (pl_ BK294) hb)
           have n3_ := A_ (below_step (bl_ HB) hb)
           clear BK293
           clear BK294
           clear HB
           have HO302 := n0_
           have BK293 := n1_
           have BK294 := n2_
           have HB := n3_
           clear n0_ n1_ n2_ n3_
           (try clear hb)
           (try clear hb2)
           (try clear hk)
           (try clear hi)
           (try clear ho0)
           refine hK.out _ _ ⟨(blk_cell BK293.out 0).trans rfl, (blk_cell BK293.out 1).trans rfl, (blk_cell BK293.out 2).trans rfl, (blk_cell BK293.out 3).trans rfl, (blk_cell BK294.out 0).trans rfl, (blk_cell BK294.out 1).trans rfl⟩ (fun hHeld => ?_)
           clear hK K
           refine norm_ (a' := ?_) ?_ ?_
           rotate_left
           ·show Act.put _ (some 24) _ = _
            simp only [Act.put, sp_]
            rfl
           exact norm_ (by first | (simp only [putAll, Act.put, List.setIfInBounds_toArray, List.set_cons_zero, List.set_cons_succ]; done) | (simp only [putAll, Act.put, List.setIfInBounds_toArray, List.set_cons_zero, List.set_cons_succ]; rfl)) (hJ1_3 (v301) _ ⟨hHeld, (pr_ HO302), (pl_ BK293), (pl_ BK294), (bl_ HB)⟩)
          ·skip
           refine box_step ?hg (N := 8) ?hd (cs := #[.int .i8 0, .bool false]) (t := 43) ?hr ?_; (case hd => rfl); (case hg => rfl); (case hr => first | (go_simp; done) | (go_simp; rfl))
           intro gb309 hg w22 hbox hb
           have n0_ := A_ (blk_below (pl_ BK293) hb)
           have n1_ := A_ (blk_below (pl_ BK294) hb)
           have n2_ := A_ (below_step (bl_ HB) hb)
           have n3_ := A_ (hbox)
           have n4_ := A_ ((by rw [hg]; exact (below_size (bl_ HB)) : w.heap.size ≤ gb309))
           have n5_ := n4_
           have n6_ := A_ ((by rw [hg]; exact Nat.ne_of_lt (blk_lt (pl_ BK293)) : gb293 ≠ gb309))
           have n7_ := Aside0.mk n6_.out.symm
           have n8_ := A_ ((by rw [hg]; exact Nat.ne_of_lt (blk_lt (pl_ BK294)) : gb294 ≠ gb309))
           have n9_ := Aside0.mk n8_.out.symm
           clear BK293
           clear BK294
           clear HB
           have BK293 := n0_
           have BK294 := n1_
           have HB := n2_
           have BK309 := n3_
           have GW309 := n4_
           have GE309 := n5_
           have NB293_309 := n6_
           have NB309_293 := n7_
           have NB294_309 := n8_
           have NB309_294 := n9_
           clear n0_ n1_ n2_ n3_ n4_ n5_ n6_ n7_ n8_ n9_
           clear hb hbox hg
           refine hK.out _ _ ⟨(blk_cell BK293.out 0).trans rfl, (blk_cell BK293.out 1).trans rfl, (blk_cell BK293.out 2).trans rfl, (blk_cell BK293.out 3).trans rfl, (blk_cell BK294.out 0).trans rfl, (blk_cell BK294.out 1).trans rfl⟩ (fun hHeld => ?_)
           clear hK K
           refine norm_ (a' := ?_) ?_ ?_
           rotate_left
           ·show Act.put _ (some 8) _ = _
            simp only [Act.put, sp_]
            rfl
           exact norm_ (by first | (simp only [putAll, Act.put, List.setIfInBounds_toArray, List.set_cons_zero, List.set_cons_succ]; done) | (simp only [putAll, Act.put, List.setIfInBounds_toArray, List.set_cons_zero, List.set_cons_succ]; rfl)) (hJ1_11 (gb309) _ ⟨hHeld, (pl_ BK293), (pl_ BK294), (pl_ BK309), GW309.out, GE309.out, NB293_309.out, NB309_293.out, NB294_309.out, NB309_294.out, (bl_ HB)⟩)
        ·skip
         rintro gb309 w22 ⟨hS_, h0_, h1_, h2_, h3_, h4_, h5_, h6_, h7_, h8_, h9_⟩
         have n0_ : Aside0 (w22.heap[gb293]? = some (.cells #[.int .i8 a0_0, .int .i8 a0_1, .bool a0_2, .bool a0_3] 24 (0, 0))) := ⟨h0_⟩
         have n1_ : Aside0 (w22.heap[gb294]? = some (.cells #[.int .i8 a2_0, .bool a2_1] 42 (0, 0))) := ⟨h1_⟩
         have n2_ : Aside0 (w22.heap[gb309]? = some (.cells #[.int .i8 0, .bool false] 43 (0, 0))) := ⟨h2_⟩
         have n3_ : Aside0 (w.heap.size ≤ gb309) := ⟨h3_⟩
         have n4_ : Aside0 (w.heap.size ≤ gb309) := ⟨h4_⟩
         have n5_ : Aside0 (gb293 ≠ gb309) := ⟨h5_⟩
         have n6_ : Aside0 (gb309 ≠ gb293) := ⟨h6_⟩
         have n7_ : Aside0 (gb294 ≠ gb309) := ⟨h7_⟩
         have n8_ : Aside0 (gb309 ≠ gb294) := ⟨h8_⟩
         have n9_ : Aside0 (Below w.heap.size w w22) := ⟨h9_⟩
         clear BK293
         clear BK294
         clear HB
         clear h0_ h1_ h2_ h3_ h4_ h5_ h6_ h7_ h8_ h9_
         have BK293 := n0_
         have BK294 := n1_
         have BK309 := n2_
         have GW309 := n3_
         have GE309 := n4_
         have NB293_309 := n5_
         have NB309_293 := n6_
         have NB294_309 := n7_
         have NB309_294 := n8_
         have HB := n9_
         clear n0_ n1_ n2_ n3_ n4_ n5_ n6_ n7_ n8_ n9_
         have hHeld : w22.cell? ⟨gb293, 0, none⟩ = some (.int .i8 a0_0) ∧ w22.cell? ⟨gb293, 1, none⟩ = some (.int .i8 a0_1) ∧ w22.cell? ⟨gb293, 2, none⟩ = some (.bool a0_2) ∧ w22.cell? ⟨gb293, 3, none⟩ = some (.bool a0_3) ∧ w22.cell? ⟨gb294, 0, none⟩ = some (.int .i8 a2_0) ∧ w22.cell? ⟨gb294, 1, none⟩ = some (.bool a2_1) := hS_
         refine norm_ (a' := ?_) ?_ ?_
         rotate_left
         ·simp only [putAll, Act.put, List.setIfInBounds_toArray, List.set_cons_zero, List.set_cons_succ]
          rfl
         refine one_ (i := 3) (N := some 24) #[true, true, true, true, true, false, false, false, false, false, false, true, false, false, false] rfl rfl (one_of HT_.out (by kernel_rfl)) (by decide) (fun K hK => ?_)
         refine goes_ Try.func13 (by kernel_rfl) rfl #[.slice A1 l1.length c1] (by rfl) rfl rfl arg_ ?_
         with_reducible refine (laws_toNodeS.calls k _ _ l1 t300 _ ?side1 ?side2 A9.out).mono ?_
         (case side1 => exact Kd.C_below HR1.out (bl_ HB))
         (case side2 => exact HC1.out)
         rintro e w23 ⟨v301, rfl, ho0, hb⟩
         refine ⟨_, rfl, ?_⟩
         have n0_ := A_ (Kd.R_lower ho0 (below_size (bl_ HB)))
         have n1_ := A_ (blk_below (pl_ BK293) hb)
         have n2_ := A_ (blk_below (pl_ BK294) hb)
         have n3_ := A_ (blk_below (pl_ BK309) hb)
         have n4_ := A_ (below_step (bl_ HB) hb)
         clear BK293
         clear BK294
         clear BK309
         clear HB
         have HO302 := n0_
         have BK293 := n1_
         have BK294 := n2_
         have BK309 := n3_
         have HB := n4_
         clear n0_ n1_ n2_ n3_ n4_
         (try clear hb)
         (try clear hb2)
         (try clear hk)
         (try clear hi)
         (try clear ho0)
         refine hK.out _ _ ⟨(blk_cell BK293.out 0).trans rfl, (blk_cell BK293.out 1).trans rfl, (blk_cell BK293.out 2).trans rfl, (blk_cell BK293.out 3).trans rfl, (blk_cell BK294.out 0).trans rfl, (blk_cell BK294.out 1).trans rfl⟩ (fun hHeld => ?_)
         clear hK K
         refine norm_ (a' := ?_) ?_ ?_
         rotate_left
         ·show Act.put _ (some 24) _ = _
          simp only [Act.put, sp_]
          rfl
         exact norm_ (by first | (simp only [putAll, Act.put, List.setIfInBounds_toArray, List.set_cons_zero, List.set_cons_succ]; done) | (simp only [putAll, Act.put, List.setIfInBounds_toArray, List.set_cons_zero, List.set_cons_succ]; rfl)) (hJ1_3_11 (v301, gb309) _ ⟨hHeld, (pr_ HO302), (pl_ BK293), (pl_ BK294), (pl_ BK309), GW309.out, GE309.out, NB293_309.out, NB309_293.out, NB294_309.out, NB309_294.out, (bl_ HB)⟩)
       ·skip
        rintro v301 w22 ⟨hS_, h0_, h1_, h2_, h3_⟩
        have n0_ : Aside0 (Kd.R k58 58 w22 w.heap.size (fun _ => True) v301 t300) := ⟨h0_⟩
        have n1_ : Aside0 (w22.heap[gb293]? = some (.cells #[.int .i8 a0_0, .int .i8 a0_1, .bool a0_2, .bool a0_3] 24 (0, 0))) := ⟨h1_⟩
        have n2_ : Aside0 (w22.heap[gb294]? = some (.cells #[.int .i8 a2_0, .bool a2_1] 42 (0, 0))) := ⟨h2_⟩
        have n3_ : Aside0 (Below w.heap.size w w22) := ⟨h3_⟩
        clear BK293
        clear BK294
        clear HB
        clear h0_ h1_ h2_ h3_
        have HO302 := n0_
        have BK293 := n1_
        have BK294 := n2_
        have HB := n3_
        clear n0_ n1_ n2_ n3_
        have hHeld : w22.cell? ⟨gb293, 0, none⟩ = some (.int .i8 a0_0) ∧ w22.cell? ⟨gb293, 1, none⟩ = some (.int .i8 a0_1) ∧ w22.cell? ⟨gb293, 2, none⟩ = some (.bool a0_2) ∧ w22.cell? ⟨gb293, 3, none⟩ = some (.bool a0_3) ∧ w22.cell? ⟨gb294, 0, none⟩ = some (.int .i8 a2_0) ∧ w22.cell? ⟨gb294, 1, none⟩ = some (.bool a2_1) := hS_
        refine norm_ (a' := ?_) ?_ ?_
        rotate_left
        ·simp only [putAll, Act.put, List.setIfInBounds_toArray, List.set_cons_zero, List.set_cons_succ]
         rfl
        refine two_ (i := 5) (j := 11) (Ni := some 26) (Nj := some 8) #[true, true, true, true, true, true, false, false, false, false, false, false, false, false, false] #[true, true, true, true, true, false, false, false, false, false, false, true, false, false, false] rfl rfl rfl rfl (two_of HT_.out (by kernel_rfl)) (by decide) (by decide) (fun K hK => ?_) (fun K hK => ?_)
        ·skip
         refine goes_ Try.func19 (by kernel_rfl) rfl #[.agg #[.int .i8 a2_0, .bool a2_1]] (by rfl) rfl rfl arg_ ?_
         with_reducible refine (laws_toCase.calls a2_0 a2_1 t303 t304 _ A10.out).mono ?_
         rintro e w23 ⟨rfl, hb⟩
         refine ⟨_, rfl, ?_⟩
         have n0_ := A_ (Kd.R_below (pr_ HO302) hb)
         have n1_ := A_ (blk_below (pl_ BK293) hb)
         have n2_ := A_ (blk_below (pl_ BK294) hb)
         have n3_ := A_ (below_step (bl_ HB) hb)
         clear HO302
         clear BK293
         clear BK294
         clear HB
         have HO302 := n0_
         have BK293 := n1_
         have BK294 := n2_
         have HB := n3_
         clear n0_ n1_ n2_ n3_
         (try clear hb)
         (try clear hb2)
         (try clear hk)
         (try clear hi)
         refine hK.out _ _ ⟨(blk_cell BK293.out 0).trans rfl, (blk_cell BK293.out 1).trans rfl, (blk_cell BK293.out 2).trans rfl, (blk_cell BK293.out 3).trans rfl, (blk_cell BK294.out 0).trans rfl, (blk_cell BK294.out 1).trans rfl⟩ (fun hHeld => ?_)
         clear hK K
         refine norm_ (a' := ?_) ?_ ?_
         rotate_left
         ·show Act.put _ (some 26) _ = _
          simp only [Act.put, sp_]
          rfl
         exact norm_ (by first | (simp only [putAll, Act.put, List.setIfInBounds_toArray, List.set_cons_zero, List.set_cons_succ]; done) | (simp only [putAll, Act.put, List.setIfInBounds_toArray, List.set_cons_zero, List.set_cons_succ]; rfl)) (hJ1_3_5 (v301) _ ⟨hHeld, (pr_ HO302), (pl_ BK293), (pl_ BK294), (bl_ HB)⟩)
        ·skip
         refine box_step ?hg (N := 8) ?hd (cs := #[.int .i8 0, .bool false]) (t := 43) ?hr ?_; (case hd => rfl); (case hg => rfl); (case hr => first | (go_simp; done) | (go_simp; rfl))
         intro gb309 hg w23 hbox hb
         have n0_ := A_ (Kd.R_below (pr_ HO302) hb)
         have n1_ := A_ (blk_below (pl_ BK293) hb)
         have n2_ := A_ (blk_below (pl_ BK294) hb)
         have n3_ := A_ (below_step (bl_ HB) hb)
         have n4_ := A_ (hbox)
         have n5_ := A_ ((by rw [hg]; exact (below_size (bl_ HB)) : w.heap.size ≤ gb309))
         have n6_ := n5_
         have n7_ := A_ ((by rw [hg]; exact Nat.ne_of_lt (blk_lt (pl_ BK293)) : gb293 ≠ gb309))
         have n8_ := Aside0.mk n7_.out.symm
         have n9_ := A_ ((by rw [hg]; exact Nat.ne_of_lt (blk_lt (pl_ BK294)) : gb294 ≠ gb309))
         have n10_ := Aside0.mk n9_.out.symm
         clear HO302
         clear BK293
         clear BK294
         clear HB
         have HO302 := n0_
         have BK293 := n1_
         have BK294 := n2_
         have HB := n3_
         have BK309 := n4_
         have GW309 := n5_
         have GE309 := n6_
         have NB293_309 := n7_
         have NB309_293 := n8_
         have NB294_309 := n9_
         have NB309_294 := n10_
         clear n0_ n1_ n2_ n3_ n4_ n5_ n6_ n7_ n8_ n9_ n10_
         clear hb hbox hg
         refine hK.out _ _ ⟨(blk_cell BK293.out 0).trans rfl, (blk_cell BK293.out 1).trans rfl, (blk_cell BK293.out 2).trans rfl, (blk_cell BK293.out 3).trans rfl, (blk_cell BK294.out 0).trans rfl, (blk_cell BK294.out 1).trans rfl⟩ (fun hHeld => ?_)
         clear hK K
         refine norm_ (a' := ?_) ?_ ?_
         rotate_left
         ·show Act.put _ (some 8) _ = _
          simp only [Act.put, sp_]
          rfl
         exact norm_ (by first | (simp only [putAll, Act.put, List.setIfInBounds_toArray, List.set_cons_zero, List.set_cons_succ]; done) | (simp only [putAll, Act.put, List.setIfInBounds_toArray, List.set_cons_zero, List.set_cons_succ]; rfl)) (hJ1_3_11 (v301, gb309) _ ⟨hHeld, (pr_ HO302), (pl_ BK293), (pl_ BK294), (pl_ BK309), GW309.out, GE309.out, NB293_309.out, NB309_293.out, NB294_309.out, NB309_294.out, (bl_ HB)⟩)
      ·skip
       rintro ⟨v301, gb309⟩ w23 ⟨hS_, h0_, h1_, h2_, h3_, h4_, h5_, h6_, h7_, h8_, h9_, h10_⟩
       have n0_ : Aside0 (Kd.R k58 58 w23 w.heap.size (fun _ => True) v301 t300) := ⟨h0_⟩
       have n1_ : Aside0 (w23.heap[gb293]? = some (.cells #[.int .i8 a0_0, .int .i8 a0_1, .bool a0_2, .bool a0_3] 24 (0, 0))) := ⟨h1_⟩
       have n2_ : Aside0 (w23.heap[gb294]? = some (.cells #[.int .i8 a2_0, .bool a2_1] 42 (0, 0))) := ⟨h2_⟩
       have n3_ : Aside0 (w23.heap[gb309]? = some (.cells #[.int .i8 0, .bool false] 43 (0, 0))) := ⟨h3_⟩
       have n4_ : Aside0 (w.heap.size ≤ gb309) := ⟨h4_⟩
       have n5_ : Aside0 (w.heap.size ≤ gb309) := ⟨h5_⟩
       have n6_ : Aside0 (gb293 ≠ gb309) := ⟨h6_⟩
       have n7_ : Aside0 (gb309 ≠ gb293) := ⟨h7_⟩
       have n8_ : Aside0 (gb294 ≠ gb309) := ⟨h8_⟩
       have n9_ : Aside0 (gb309 ≠ gb294) := ⟨h9_⟩
       have n10_ : Aside0 (Below w.heap.size w w23) := ⟨h10_⟩
       clear BK293
       clear BK294
       clear HB
       clear h0_ h1_ h2_ h3_ h4_ h5_ h6_ h7_ h8_ h9_ h10_
       have HO302 := n0_
       have BK293 := n1_
       have BK294 := n2_
       have BK309 := n3_
       have GW309 := n4_
       have GE309 := n5_
       have NB293_309 := n6_
       have NB309_293 := n7_
       have NB294_309 := n8_
       have NB309_294 := n9_
       have HB := n10_
       clear n0_ n1_ n2_ n3_ n4_ n5_ n6_ n7_ n8_ n9_ n10_
       have hHeld : w23.cell? ⟨gb293, 0, none⟩ = some (.int .i8 a0_0) ∧ w23.cell? ⟨gb293, 1, none⟩ = some (.int .i8 a0_1) ∧ w23.cell? ⟨gb293, 2, none⟩ = some (.bool a0_2) ∧ w23.cell? ⟨gb293, 3, none⟩ = some (.bool a0_3) ∧ w23.cell? ⟨gb294, 0, none⟩ = some (.int .i8 a2_0) ∧ w23.cell? ⟨gb294, 1, none⟩ = some (.bool a2_1) := hS_
       refine norm_ (a' := ?_) ?_ ?_
       rotate_left
       ·simp only [putAll, Act.put, List.setIfInBounds_toArray, List.set_cons_zero, List.set_cons_succ]
        rfl
       refine one_ (i := 5) (N := some 26) #[true, true, true, true, true, true, false, false, false, false, false, true, false, false, false] rfl rfl (one_of HT_.out (by kernel_rfl)) (by decide) (fun K hK => ?_)
       refine goes_ Try.func19 (by kernel_rfl) rfl #[.agg #[.int .i8 a2_0, .bool a2_1]] (by rfl) rfl rfl arg_ ?_
       with_reducible refine (laws_toCase.calls a2_0 a2_1 t303 t304 _ A10.out).mono ?_
       rintro e w24 ⟨rfl, hb⟩
       refine ⟨_, rfl, ?_⟩
       have n0_ := A_ (Kd.R_below (pr_ HO302) hb)
       have n1_ := A_ (blk_below (pl_ BK293) hb)
       have n2_ := A_ (blk_below (pl_ BK294) hb)
       have n3_ := A_ (blk_below (pl_ BK309) hb)
       have n4_ := A_ (below_step (bl_ HB) hb)
       clear HO302
       clear BK293
       clear BK294
       clear BK309
       clear HB
       have HO302 := n0_
       have BK293 := n1_
       have BK294 := n2_
       have BK309 := n3_
       have HB := n4_
       clear n0_ n1_ n2_ n3_ n4_
       (try clear hb)
       (try clear hb2)
       (try clear hk)
       (try clear hi)
       refine hK.out _ _ ⟨(blk_cell BK293.out 0).trans rfl, (blk_cell BK293.out 1).trans rfl, (blk_cell BK293.out 2).trans rfl, (blk_cell BK293.out 3).trans rfl, (blk_cell BK294.out 0).trans rfl, (blk_cell BK294.out 1).trans rfl⟩ (fun hHeld => ?_)
       clear hK K
       refine norm_ (a' := ?_) ?_ ?_
       rotate_left
       ·show Act.put _ (some 26) _ = _
        simp only [Act.put, sp_]
        rfl
       exact norm_ (by first | (simp only [putAll, Act.put, List.setIfInBounds_toArray, List.set_cons_zero, List.set_cons_succ]; done) | (simp only [putAll, Act.put, List.setIfInBounds_toArray, List.set_cons_zero, List.set_cons_succ]; rfl)) (hJ1_3_5_11 (v301, gb309) _ ⟨hHeld, (pr_ HO302), (pl_ BK293), (pl_ BK294), (pl_ BK309), GW309.out, GE309.out, NB293_309.out, NB309_293.out, NB294_309.out, NB309_294.out, (bl_ HB)⟩)
     ·skip
      rintro v301 w23 ⟨hS_, h0_, h1_, h2_, h3_⟩
      have n0_ : Aside0 (Kd.R k58 58 w23 w.heap.size (fun _ => True) v301 t300) := ⟨h0_⟩
      have n1_ : Aside0 (w23.heap[gb293]? = some (.cells #[.int .i8 a0_0, .int .i8 a0_1, .bool a0_2, .bool a0_3] 24 (0, 0))) := ⟨h1_⟩
      have n2_ : Aside0 (w23.heap[gb294]? = some (.cells #[.int .i8 a2_0, .bool a2_1] 42 (0, 0))) := ⟨h2_⟩
      have n3_ : Aside0 (Below w.heap.size w w23) := ⟨h3_⟩
      clear BK293
      clear BK294
      clear HB
      clear h0_ h1_ h2_ h3_
      have HO302 := n0_
      have BK293 := n1_
      have BK294 := n2_
      have HB := n3_
      clear n0_ n1_ n2_ n3_
      have hHeld : w23.cell? ⟨gb293, 0, none⟩ = some (.int .i8 a0_0) ∧ w23.cell? ⟨gb293, 1, none⟩ = some (.int .i8 a0_1) ∧ w23.cell? ⟨gb293, 2, none⟩ = some (.bool a0_2) ∧ w23.cell? ⟨gb293, 3, none⟩ = some (.bool a0_3) ∧ w23.cell? ⟨gb294, 0, none⟩ = some (.int .i8 a2_0) ∧ w23.cell? ⟨gb294, 1, none⟩ = some (.bool a2_1) := hS_
      obtain ⟨Ao24, co24, eo24⟩ := Kd.R_slice HO302.out
      (first | subst eo24 | (injection eo24 with f1_ f2_ f3_; have f4_ := f1_.symm; have f5_ := f3_.symm; clear f1_ f2_ f3_; subst f4_; subst f5_))
      refine norm_ (a' := ?_) ?_ ?_
      rotate_left
      ·simp only [putAll, Act.put, List.setIfInBounds_toArray, List.set_cons_zero, List.set_cons_succ]
       rfl
      refine two_ (i := 6) (j := 11) (Ni := some 27) (Nj := some 8) #[true, true, true, true, true, true, true, false, false, false, false, false, false, false, false] #[true, true, true, true, true, true, false, false, false, false, false, true, false, false, false] rfl rfl rfl rfl (two_of HT_.out (by kernel_rfl)) (by decide) (by decide) (fun K hK => ?_) (fun K hK => ?_)
      ·skip
       refine goes_ Try.func18 (by kernel_rfl) rfl #[.agg #[.int .i8 t296, .int .i8 t297, .bool t298, .bool t299], .slice Ao24 t300.length co24, .agg #[.int .i8 t303, .bool t304]] (by rfl) rfl rfl arg_ ?_
       with_reducible refine (spec_FollowPlan.calls k t296 t297 t298 t299 _ _ t300 t303 t304 t305 t306 t307 t308 _ ?side1 ?side2 A11.out).mono ?_
       (case side1 => repeat (first | exact (Kd.R_reads' HO302.out).2.2 | (with_reducible refine Kd.C_alloc ?_ _) | (with_reducible refine Kd.C_drewN ?_ _) | (with_reducible refine Kd.C_drew ?_)))
       (case side2 => exact (Kd.R_reads' HO302.out).2.1)
       rintro e w25 ⟨rfl, hb⟩
       refine ⟨_, rfl, ?_⟩
       have n0_ := A_ (Kd.R_below (pr_ HO302) hb)
       have n1_ := A_ (blk_below (pl_ BK293) hb)
       have n2_ := A_ (blk_below (pl_ BK294) hb)
       have n3_ := A_ (below_step (bl_ HB) hb)
       clear HO302
       clear BK293
       clear BK294
       clear HB
       have HO302 := n0_
       have BK293 := n1_
       have BK294 := n2_
       have HB := n3_
       clear n0_ n1_ n2_ n3_
       (try clear hb)
       (try clear hb2)
       (try clear hk)
       (try clear hi)
       refine hK.out _ _ ⟨(blk_cell BK293.out 0).trans rfl, (blk_cell BK293.out 1).trans rfl, (blk_cell BK293.out 2).trans rfl, (blk_cell BK293.out 3).trans rfl, (blk_cell BK294.out 0).trans rfl, (blk_cell BK294.out 1).trans rfl⟩ (fun hHeld => ?_)
       clear hK K
       refine norm_ (a' := ?_) ?_ ?_
       rotate_left
       ·show Act.put _ (some 27) _ = _
        simp only [Act.put, sp_]
        rfl
       refine pure_ (i := 7) (N := some 20) (v := ?_) (a' := ?_) #[true, true, true, true, true, true, true, true, false, false, false, false, false, false, false] rfl rfl (any_of HT_.out (by kernel_rfl)) (fun _ _ _ h => h) (Or.inl ⟨by rfl, ?_⟩) ?_ ?_
       rotate_left
       ·intro w'
        go_simp
        with_reducible rfl
       rotate_left
       ·simp only [Act.put, sp_]
        rfl
       refine pure_ (i := 8) (N := some 28) (v := ?_) (a' := ?_) #[true, true, true, true, true, true, true, true, true, false, false, false, false, false, false] rfl rfl (any_of HT_.out (by kernel_rfl)) (fun _ _ _ h => h) (Or.inl ⟨by rfl, ?_⟩) ?_ ?_
       rotate_left
       ·intro w'
        go_simp
        with_reducible rfl
       rotate_left
       ·simp only [Act.put, sp_]
        rfl
       refine pure_ (i := 9) (N := some 29) (v := ?_) (a' := ?_) #[true, true, true, true, true, true, true, true, true, true, false, false, false, false, false] rfl rfl (any_of HT_.out (by kernel_rfl)) (fun _ _ _ h => h) (Or.inl ⟨by rfl, ?_⟩) ?_ ?_
       rotate_left
       ·intro w'
        go_simp
        with_reducible rfl
       rotate_left
       ·simp only [Act.put, sp_]
        rfl
       refine pure_ (i := 10) (N := some 30) (v := ?_) (a' := ?_) #[true, true, true, true, true, true, true, true, true, true, true, false, false, false, false] rfl rfl (any_of HT_.out (by kernel_rfl)) (fun _ _ _ h => h) (Or.inl ⟨by rfl, ?_⟩) ?_ ?_
       rotate_left
       ·intro w'
        go_simp
        with_reducible rfl
       rotate_left
       ·simp only [Act.put, sp_]
        rfl
       exact norm_ (by first | (simp only [putAll, Act.put, List.setIfInBounds_toArray, List.set_cons_zero, List.set_cons_succ]; done) | (simp only [putAll, Act.put, List.setIfInBounds_toArray, List.set_cons_zero, List.set_cons_succ]; rfl)) (hJ1_3_5_6 (.slice Ao24 t300.length co24) _ ⟨hHeld, (pr_ HO302), (pl_ BK293), (pl_ BK294), (bl_ HB)⟩)
      ·skip
       refine box_step ?hg (N := 8) ?hd (cs := #[.int .i8 0, .bool false]) (t := 43) ?hr ?_; (case hd => rfl); (case hg => rfl); (case hr => first | (go_simp; done) | (go_simp; rfl))
       intro gb309 hg w24 hbox hb
       have n0_ := A_ (Kd.R_below (pr_ HO302) hb)
       have n1_ := A_ (blk_below (pl_ BK293) hb)
       have n2_ := A_ (blk_below (pl_ BK294) hb)
       have n3_ := A_ (below_step (bl_ HB) hb)
       have n4_ := A_ (hbox)
       have n5_ := A_ ((by rw [hg]; exact (below_size (bl_ HB)) : w.heap.size ≤ gb309))
       have n6_ := n5_
       have n7_ := A_ ((by rw [hg]; exact Nat.ne_of_lt (blk_lt (pl_ BK293)) : gb293 ≠ gb309))
       have n8_ := Aside0.mk n7_.out.symm
       have n9_ := A_ ((by rw [hg]; exact Nat.ne_of_lt (blk_lt (pl_ BK294)) : gb294 ≠ gb309))
       have n10_ := Aside0.mk n9_.out.symm
       clear HO302
       clear BK293
       clear BK294
       clear HB
       have HO302 := n0_
       have BK293 := n1_
       have BK294 := n2_
       have HB := n3_
       have BK309 := n4_
       have GW309 := n5_
       have GE309 := n6_
       have NB293_309 := n7_
       have NB309_293 := n8_
       have NB294_309 := n9_
       have NB309_294 := n10_
       clear n0_ n1_ n2_ n3_ n4_ n5_ n6_ n7_ n8_ n9_ n10_
       clear hb hbox hg
       refine hK.out _ _ ⟨(blk_cell BK293.out 0).trans rfl, (blk_cell BK293.out 1).trans rfl, (blk_cell BK293.out 2).trans rfl, (blk_cell BK293.out 3).trans rfl, (blk_cell BK294.out 0).trans rfl, (blk_cell BK294.out 1).trans rfl⟩ (fun hHeld => ?_)
       clear hK K
       refine norm_ (a' := ?_) ?_ ?_
       rotate_left
       ·show Act.put _ (some 8) _ = _
        simp only [Act.put, sp_]
        rfl
       exact norm_ (by first | (simp only [putAll, Act.put, List.setIfInBounds_toArray, List.set_cons_zero, List.set_cons_succ]; done) | (simp only [putAll, Act.put, List.setIfInBounds_toArray, List.set_cons_zero, List.set_cons_succ]; rfl)) (hJ1_3_5_11 (.slice Ao24 t300.length co24, gb309) _ ⟨hHeld, (pr_ HO302), (pl_ BK293), (pl_ BK294), (pl_ BK309), GW309.out, GE309.out, NB293_309.out, NB309_293.out, NB294_309.out, NB309_294.out, (bl_ HB)⟩)
    ·skip
     rintro ⟨v301, gb309⟩ w24 ⟨hS_, h0_, h1_, h2_, h3_, h4_, h5_, h6_, h7_, h8_, h9_, h10_⟩
     have n0_ : Aside0 (Kd.R k58 58 w24 w.heap.size (fun _ => True) v301 t300) := ⟨h0_⟩
     have n1_ : Aside0 (w24.heap[gb293]? = some (.cells #[.int .i8 a0_0, .int .i8 a0_1, .bool a0_2, .bool a0_3] 24 (0, 0))) := ⟨h1_⟩
     have n2_ : Aside0 (w24.heap[gb294]? = some (.cells #[.int .i8 a2_0, .bool a2_1] 42 (0, 0))) := ⟨h2_⟩
     have n3_ : Aside0 (w24.heap[gb309]? = some (.cells #[.int .i8 0, .bool false] 43 (0, 0))) := ⟨h3_⟩
     have n4_ : Aside0 (w.heap.size ≤ gb309) := ⟨h4_⟩
     have n5_ : Aside0 (w.heap.size ≤ gb309) := ⟨h5_⟩
     have n6_ : Aside0 (gb293 ≠ gb309) := ⟨h6_⟩
     have n7_ : Aside0 (gb309 ≠ gb293) := ⟨h7_⟩
     have n8_ : Aside0 (gb294 ≠ gb309) := ⟨h8_⟩
     have n9_ : Aside0 (gb309 ≠ gb294) := ⟨h9_⟩
     have n10_ : Aside0 (Below w.heap.size w w24) := ⟨h10_⟩
     clear BK293
     clear BK294
     clear HB
     clear h0_ h1_ h2_ h3_ h4_ h5_ h6_ h7_ h8_ h9_ h10_
     have HO302 := n0_
     have BK293 := n1_
     have BK294 := n2_
     have BK309 := n3_
     have GW309 := n4_
     have GE309 := n5_
     have NB293_309 := n6_
     have NB309_293 := n7_
     have NB294_309 := n8_
     have NB309_294 := n9_
     have HB := n10_
     clear n0_ n1_ n2_ n3_ n4_ n5_ n6_ n7_ n8_ n9_ n10_
     have hHeld : w24.cell? ⟨gb293, 0, none⟩ = some (.int .i8 a0_0) ∧ w24.cell? ⟨gb293, 1, none⟩ = some (.int .i8 a0_1) ∧ w24.cell? ⟨gb293, 2, none⟩ = some (.bool a0_2) ∧ w24.cell? ⟨gb293, 3, none⟩ = some (.bool a0_3) ∧ w24.cell? ⟨gb294, 0, none⟩ = some (.int .i8 a2_0) ∧ w24.cell? ⟨gb294, 1, none⟩ = some (.bool a2_1) := hS_
     obtain ⟨Ao25, co25, eo25⟩ := Kd.R_slice HO302.out
     (first | subst eo25 | (injection eo25 with f1_ f2_ f3_; have f4_ := f1_.symm; have f5_ := f3_.symm; clear f1_ f2_ f3_; subst f4_; subst f5_))
     refine norm_ (a' := ?_) ?_ ?_
     rotate_left
     ·simp only [putAll, Act.put, List.setIfInBounds_toArray, List.set_cons_zero, List.set_cons_succ]
      rfl
     refine one_ (i := 6) (N := some 27) #[true, true, true, true, true, true, true, false, false, false, false, true, false, false, false] rfl rfl (one_of HT_.out (by kernel_rfl)) (by decide) (fun K hK => ?_)
     refine goes_ Try.func18 (by kernel_rfl) rfl #[.agg #[.int .i8 t296, .int .i8 t297, .bool t298, .bool t299], .slice Ao25 t300.length co25, .agg #[.int .i8 t303, .bool t304]] (by rfl) rfl rfl arg_ ?_
     with_reducible refine (spec_FollowPlan.calls k t296 t297 t298 t299 _ _ t300 t303 t304 t305 t306 t307 t308 _ ?side1 ?side2 A11.out).mono ?_
     (case side1 => repeat (first | exact (Kd.R_reads' HO302.out).2.2 | (with_reducible refine Kd.C_alloc ?_ _) | (with_reducible refine Kd.C_drewN ?_ _) | (with_reducible refine Kd.C_drew ?_)))
     (case side2 => exact (Kd.R_reads' HO302.out).2.1)
     rintro e w26 ⟨rfl, hb⟩
     refine ⟨_, rfl, ?_⟩
     have n0_ := A_ (Kd.R_below (pr_ HO302) hb)
     have n1_ := A_ (blk_below (pl_ BK293) hb)
     have n2_ := A_ (blk_below (pl_ BK294) hb)
     have n3_ := A_ (blk_below (pl_ BK309) hb)
     have n4_ := A_ (below_step (bl_ HB) hb)
     clear HO302
     clear BK293
     clear BK294
     clear BK309
     clear HB
     have HO302 := n0_
     have BK293 := n1_
     have BK294 := n2_
     have BK309 := n3_
     have HB := n4_
     clear n0_ n1_ n2_ n3_ n4_
     (try clear hb)
     (try clear hb2)
     (try clear hk)
     (try clear hi)
     refine hK.out _ _ ⟨(blk_cell BK293.out 0).trans rfl, (blk_cell BK293.out 1).trans rfl, (blk_cell BK293.out 2).trans rfl, (blk_cell BK293.out 3).trans rfl, (blk_cell BK294.out 0).trans rfl, (blk_cell BK294.out 1).trans rfl⟩ (fun hHeld => ?_)
     clear hK K
     refine norm_ (a' := ?_) ?_ ?_
     rotate_left
     ·show Act.put _ (some 27) _ = _
      simp only [Act.put, sp_]
      rfl
     refine pure_ (i := 7) (N := some 20) (v := ?_) (a' := ?_) #[true, true, true, true, true, true, true, true, false, false, false, true, false, false, false] rfl rfl (any_of HT_.out (by kernel_rfl)) (fun _ _ _ h => h) (Or.inl ⟨by rfl, ?_⟩) ?_ ?_
     rotate_left
     ·intro w'
      go_simp
      with_reducible rfl
     rotate_left
     ·simp only [Act.put, sp_]
      rfl
     refine pure_ (i := 8) (N := some 28) (v := ?_) (a' := ?_) #[true, true, true, true, true, true, true, true, true, false, false, true, false, false, false] rfl rfl (any_of HT_.out (by kernel_rfl)) (fun _ _ _ h => h) (Or.inl ⟨by rfl, ?_⟩) ?_ ?_
     rotate_left
     ·intro w'
      go_simp
      with_reducible rfl
     rotate_left
     ·simp only [Act.put, sp_]
      rfl
     refine pure_ (i := 9) (N := some 29) (v := ?_) (a' := ?_) #[true, true, true, true, true, true, true, true, true, true, false, true, false, false, false] rfl rfl (any_of HT_.out (by kernel_rfl)) (fun _ _ _ h => h) (Or.inl ⟨by rfl, ?_⟩) ?_ ?_
     rotate_left
     ·intro w'
      go_simp
      with_reducible rfl
     rotate_left
     ·simp only [Act.put, sp_]
      rfl
     refine pure_ (i := 10) (N := some 30) (v := ?_) (a' := ?_) #[true, true, true, true, true, true, true, true, true, true, true, true, false, false, false] rfl rfl (any_of HT_.out (by kernel_rfl)) (fun _ _ _ h => h) (Or.inl ⟨by rfl, ?_⟩) ?_ ?_
     rotate_left
     ·intro w'
      go_simp
      with_reducible rfl
     rotate_left
     ·simp only [Act.put, sp_]
      rfl
     exact norm_ (by first | (simp only [putAll, Act.put, List.setIfInBounds_toArray, List.set_cons_zero, List.set_cons_succ]; done) | (simp only [putAll, Act.put, List.setIfInBounds_toArray, List.set_cons_zero, List.set_cons_succ]; rfl)) (hJ1_3_5_6_11 (.slice Ao25 t300.length co25, gb309) _ ⟨hHeld, (pr_ HO302), (pl_ BK293), (pl_ BK294), (pl_ BK309), GW309.out, GE309.out, NB293_309.out, NB309_293.out, NB294_309.out, NB309_294.out, (bl_ HB)⟩)
   ·skip
    rintro v301 w25 ⟨hS_, h0_, h1_, h2_, h3_⟩
    have n0_ : Aside0 (Kd.R k58 58 w25 w.heap.size (fun _ => True) v301 t300) := ⟨h0_⟩
    have n1_ : Aside0 (w25.heap[gb293]? = some (.cells #[.int .i8 a0_0, .int .i8 a0_1, .bool a0_2, .bool a0_3] 24 (0, 0))) := ⟨h1_⟩
    have n2_ : Aside0 (w25.heap[gb294]? = some (.cells #[.int .i8 a2_0, .bool a2_1] 42 (0, 0))) := ⟨h2_⟩
    have n3_ : Aside0 (Below w.heap.size w w25) := ⟨h3_⟩
    clear BK293
    clear BK294
    clear HB
    clear h0_ h1_ h2_ h3_
    have HO302 := n0_
    have BK293 := n1_
    have BK294 := n2_
    have HB := n3_
    clear n0_ n1_ n2_ n3_
    have hHeld : w25.cell? ⟨gb293, 0, none⟩ = some (.int .i8 a0_0) ∧ w25.cell? ⟨gb293, 1, none⟩ = some (.int .i8 a0_1) ∧ w25.cell? ⟨gb293, 2, none⟩ = some (.bool a0_2) ∧ w25.cell? ⟨gb293, 3, none⟩ = some (.bool a0_3) ∧ w25.cell? ⟨gb294, 0, none⟩ = some (.int .i8 a2_0) ∧ w25.cell? ⟨gb294, 1, none⟩ = some (.bool a2_1) := hS_
    refine norm_ (a' := ?_) ?_ ?_
    rotate_left
    ·simp only [putAll, Act.put, List.setIfInBounds_toArray, List.set_cons_zero, List.set_cons_succ]
     rfl
    refine one_ (i := 11) (N := some 8) #[true, true, true, true, true, true, true, true, true, true, true, true, false, false, false] rfl rfl (one_of HT_.out (by kernel_rfl)) (by decide) (fun K hK => ?_)
    refine box_step ?hg (N := 8) ?hd (cs := #[.int .i8 0, .bool false]) (t := 43) ?hr ?_; (case hd => rfl); (case hg => rfl); (case hr => first | (go_simp; done) | (go_simp; rfl))
    intro gb309 hg w26 hbox hb
    have n0_ := A_ (Kd.R_below (pr_ HO302) hb)
    have n1_ := A_ (blk_below (pl_ BK293) hb)
    have n2_ := A_ (blk_below (pl_ BK294) hb)
    have n3_ := A_ (below_step (bl_ HB) hb)
    have n4_ := A_ (hbox)
    have n5_ := A_ ((by rw [hg]; exact (below_size (bl_ HB)) : w.heap.size ≤ gb309))
    have n6_ := n5_
    have n7_ := A_ ((by rw [hg]; exact Nat.ne_of_lt (blk_lt (pl_ BK293)) : gb293 ≠ gb309))
    have n8_ := Aside0.mk n7_.out.symm
    have n9_ := A_ ((by rw [hg]; exact Nat.ne_of_lt (blk_lt (pl_ BK294)) : gb294 ≠ gb309))
    have n10_ := Aside0.mk n9_.out.symm
    clear HO302
    clear BK293
    clear BK294
    clear HB
    have HO302 := n0_
    have BK293 := n1_
    have BK294 := n2_
    have HB := n3_
    have BK309 := n4_
    have GW309 := n5_
    have GE309 := n6_
    have NB293_309 := n7_
    have NB309_293 := n8_
    have NB294_309 := n9_
    have NB309_294 := n10_
    clear n0_ n1_ n2_ n3_ n4_ n5_ n6_ n7_ n8_ n9_ n10_
    clear hb hbox hg
    refine hK.out _ _ ⟨(blk_cell BK293.out 0).trans rfl, (blk_cell BK293.out 1).trans rfl, (blk_cell BK293.out 2).trans rfl, (blk_cell BK293.out 3).trans rfl, (blk_cell BK294.out 0).trans rfl, (blk_cell BK294.out 1).trans rfl⟩ (fun hHeld => ?_)
    clear hK K
    refine norm_ (a' := ?_) ?_ ?_
    rotate_left
    ·show Act.put _ (some 8) _ = _
     simp only [Act.put, sp_]
     rfl
    exact norm_ (by first | (simp only [putAll, Act.put, List.setIfInBounds_toArray, List.set_cons_zero, List.set_cons_succ]; done) | (simp only [putAll, Act.put, List.setIfInBounds_toArray, List.set_cons_zero, List.set_cons_succ]; rfl)) (hJ1_3_5_6_11 (v301, gb309) _ ⟨hHeld, (pr_ HO302), (pl_ BK293), (pl_ BK294), (pl_ BK309), GW309.out, GE309.out, NB293_309.out, NB309_293.out, NB294_309.out, NB309_294.out, (bl_ HB)⟩)
  rintro ⟨v301, gb309⟩ w26 ⟨hS_, h0_, h1_, h2_, h3_, h4_, h5_, h6_, h7_, h8_, h9_, h10_⟩
  have n0_ : Aside0 (Kd.R k58 58 w26 w.heap.size (fun _ => True) v301 t300) := ⟨h0_⟩
  have n1_ : Aside0 (w26.heap[gb293]? = some (.cells #[.int .i8 a0_0, .int .i8 a0_1, .bool a0_2, .bool a0_3] 24 (0, 0))) := ⟨h1_⟩
  have n2_ : Aside0 (w26.heap[gb294]? = some (.cells #[.int .i8 a2_0, .bool a2_1] 42 (0, 0))) := ⟨h2_⟩
  have n3_ : Aside0 (w26.heap[gb309]? = some (.cells #[.int .i8 0, .bool false] 43 (0, 0))) := ⟨h3_⟩
  have n4_ : Aside0 (w.heap.size ≤ gb309) := ⟨h4_⟩
  have n5_ : Aside0 (w.heap.size ≤ gb309) := ⟨h5_⟩
  have n6_ : Aside0 (gb293 ≠ gb309) := ⟨h6_⟩
  have n7_ : Aside0 (gb309 ≠ gb293) := ⟨h7_⟩
  have n8_ : Aside0 (gb294 ≠ gb309) := ⟨h8_⟩
  have n9_ : Aside0 (gb309 ≠ gb294) := ⟨h9_⟩
  have n10_ : Aside0 (Below w.heap.size w w26) := ⟨h10_⟩
  clear BK293
  clear BK294
  clear HB
  clear h0_ h1_ h2_ h3_ h4_ h5_ h6_ h7_ h8_ h9_ h10_
  have HO302 := n0_
  have BK293 := n1_
  have BK294 := n2_
  have BK309 := n3_
  have GW309 := n4_
  have GE309 := n5_
  have NB293_309 := n6_
  have NB309_293 := n7_
  have NB294_309 := n8_
  have NB309_294 := n9_
  have HB := n10_
  clear n0_ n1_ n2_ n3_ n4_ n5_ n6_ n7_ n8_ n9_ n10_
  have hHeld : w26.cell? ⟨gb293, 0, none⟩ = some (.int .i8 a0_0) ∧ w26.cell? ⟨gb293, 1, none⟩ = some (.int .i8 a0_1) ∧ w26.cell? ⟨gb293, 2, none⟩ = some (.bool a0_2) ∧ w26.cell? ⟨gb293, 3, none⟩ = some (.bool a0_3) ∧ w26.cell? ⟨gb294, 0, none⟩ = some (.int .i8 a2_0) ∧ w26.cell? ⟨gb294, 1, none⟩ = some (.bool a2_1) := hS_
  refine norm_ (a' := ?_) ?_ ?_
  rotate_left
  ·simp only [putAll, Act.put, List.setIfInBounds_toArray, List.set_cons_zero, List.set_cons_succ]
   rfl
  refine one_ (i := 12) (N := none) #[true, true, true, true, true, true, true, true, true, true, true, true, true, false, false] rfl rfl (one_of HT_.out (by kernel_rfl)) (by decide) (fun K hK => ?_)
  have hs27 : w26.cell? ⟨gb309, 0, none⟩ = some (.int .i8 0) := (blk_cell BK309.out 0).trans rfl
  have hfs27 := blk_frozen BK309.out 0
  have hns27_0 := NB293_309.out
  have hns27_1 := NB294_309.out
  have hms27_0 := NB309_293.out
  have hms27_1 := NB309_294.out
  have hs28 : w26.cell? ⟨gb309, 1, none⟩ = some (.bool false) := (blk_cell BK309.out 1).trans rfl
  have hfs28 := blk_frozen BK309.out 1
  have hns28_0 := NB293_309.out
  have hns28_1 := NB294_309.out
  have hms28_0 := NB309_293.out
  have hms28_1 := NB309_294.out
  refine skip_ (w1 := ?_) (by rfl) rfl ?_ ?_
  rotate_left
  ·go_simp
   rfl
  refine hK.out _ _ ⟨((cell_far (p := ⟨gb309, _, none⟩) NB293_309.out _).trans (((cell_far (p := ⟨gb309, _, none⟩) NB293_309.out _).trans (hHeld.1)))), ((cell_far (p := ⟨gb309, _, none⟩) NB293_309.out _).trans (((cell_far (p := ⟨gb309, _, none⟩) NB293_309.out _).trans (hHeld.2.1)))), ((cell_far (p := ⟨gb309, _, none⟩) NB293_309.out _).trans (((cell_far (p := ⟨gb309, _, none⟩) NB293_309.out _).trans (hHeld.2.2.1)))), ((cell_far (p := ⟨gb309, _, none⟩) NB293_309.out _).trans (((cell_far (p := ⟨gb309, _, none⟩) NB293_309.out _).trans (hHeld.2.2.2.1)))), ((cell_far (p := ⟨gb309, _, none⟩) NB294_309.out _).trans (((cell_far (p := ⟨gb309, _, none⟩) NB294_309.out _).trans (hHeld.2.2.2.2.1)))), ((cell_far (p := ⟨gb309, _, none⟩) NB294_309.out _).trans (((cell_far (p := ⟨gb309, _, none⟩) NB294_309.out _).trans (hHeld.2.2.2.2.2))))⟩ (fun hHeld => ?_)
  clear hK K
  refine pure_ (i := 13) (N := some 9) (v := ?_) (a' := ?_) #[true, true, true, true, true, true, true, true, true, true, true, true, true, true, false] rfl rfl (any_of HT_.out (by kernel_rfl)) (fun _ _ _ h => h) (Or.inl ⟨by rfl, ?_⟩) ?_ ?_
  rotate_left
  ·intro w'
   go_simp
   with_reducible rfl
  rotate_left
  ·simp only [Act.put, sp_]
   rfl
  refine pure_ (i := 14) (N := some 10) (v := ?_) (a' := ?_) #[true, true, true, true, true, true, true, true, true, true, true, true, true, true, true] rfl rfl (any_of HT_.out (by kernel_rfl)) (fun _ _ _ h => h) (Or.inl ⟨by rfl, ?_⟩) ?_ ?_
  rotate_left
  ·intro w'
   go_simp
   with_reducible rfl
  rotate_left
  ·simp only [Act.put, sp_]
   rfl
  refine done_ (done_of HT_.out (by kernel_rfl)) ?_
  try go_wp2_with (first | ((with_reducible refine gate_callee (f := 13) rfl ?_); refine goesL_ (some 32) rfl rfl Try.func13 (by kernel_rfl) rfl #[.slice A1 l1.length c1] rfl arg_ ?_; (with_reducible refine (laws_toNodeS.calls k _ _ l1 t310 _ ?side1 ?side2 A12.out).mono ?_); (case side1 => exact Kd.C_below HR1.out (bs_ HB GE309)); (case side2 => exact HC1.out); rintro e w29 ⟨v311, rfl, ho0, hb⟩; refine ⟨_, rfl, ?_⟩; have n0_ := A_ (Kd.R_elder' (by (with_reducible repeat (first | apply Kd.R_alloc | apply Kd.R_drewN | apply Kd.R_drew)); exact (rf2_ HO302 BK309 (by decide))) (Kd.R_base ho0) hb); have n1_ := A_ (Kd.R_lower (Kd.R_new' ho0 (Kd.R_lt (by (with_reducible repeat (first | apply Kd.R_alloc | apply Kd.R_drewN | apply Kd.R_drew)); exact (rf2_ HO302 BK309 (by decide))))) (below_size (bs_ HB GE309))); have n2_ := A_ (blk_below (g := gb293) (o := .cells #[.int .i8 a0_0, .int .i8 a0_1, .bool a0_2, .bool a0_3] 24 (0, 0)) (pf_ BK293 NB293_309) hb); have n3_ := A_ (blk_below (g := gb294) (o := .cells #[.int .i8 a2_0, .bool a2_1] 42 (0, 0)) (pf_ BK294 NB294_309) hb); have n4_ := A_ (blk_below (g := gb309) (o := .cells #[.int .i8 t305, .bool t306] 43 (0, 0)) (by (with_reducible repeat (first | refine blk_drewN ?_ _ | refine blk_drew ?_ | refine blk_alloc ?_ _)); refine blk_put (cs := #[.int .i8 t305, .bool false]) ?_ 1 _ rfl; (with_reducible repeat (first | refine blk_drewN ?_ _ | refine blk_drew ?_ | refine blk_alloc ?_ _)); refine blk_put (cs := #[.int .i8 0, .bool false]) ?_ 0 _ rfl; (with_reducible repeat (first | refine blk_drewN ?_ _ | refine blk_drew ?_ | refine blk_alloc ?_ _)); exact BK309.out) hb); have n5_ := A_ (below_step (bs_ HB GE309) hb); clear HO302; clear BK293; clear BK294; clear BK309; clear HB; have HO302 := n0_; have HO312 := n1_; have BK293 := n2_; have BK294 := n3_; have BK309 := n4_; have HB := n5_; clear n0_ n1_ n2_ n3_ n4_ n5_; (try clear hb); (try clear hb2); (try clear hk); (try clear hi); (try clear ho0); obtain ⟨Ao30, co30, eo30⟩ := Kd.R_slice HO312.out; subst eo30))
  have n0_ := A_ (Kd.R_drew HO302.out)
  have n1_ := A_ (Kd.R_drew HO312.out)
  have n2_ := A_ (blk_drew BK293.out)
  have n3_ := A_ (blk_drew BK294.out)
  have n4_ := A_ (blk_drew BK309.out)
  have n5_ := A_ (below_drew1 HB.out)
  clear HO302
  clear HO312
  clear BK293
  clear BK294
  clear BK309
  clear HB
  have HO302 := n0_
  have HO312 := n1_
  have BK293 := n2_
  have BK294 := n3_
  have BK309 := n4_
  have HB := n5_
  clear n0_ n1_ n2_ n3_ n4_ n5_
  refine start_ (n := 14) (S := fun w' => w'.cell? ⟨gb293, 0, none⟩ = some (.int .i8 a0_0) ∧ w'.cell? ⟨gb293, 1, none⟩ = some (.int .i8 a0_1) ∧ w'.cell? ⟨gb293, 2, none⟩ = some (.bool a0_2) ∧ w'.cell? ⟨gb293, 3, none⟩ = some (.bool a0_3) ∧ w'.cell? ⟨gb294, 0, none⟩ = some (.int .i8 a2_0) ∧ w'.cell? ⟨gb294, 1, none⟩ = some (.bool a2_1)) (ds := []) #[false, false, false, false, false, false, false, false, false, false, false, false, false, false] (by kernel_rfl) rfl rfl ⟨(blk_cell BK293.out 0).trans rfl, (blk_cell BK293.out 1).trans rfl, (blk_cell BK293.out 2).trans rfl, (blk_cell BK293.out 3).trans rfl, (blk_cell BK294.out 0).trans rfl, (blk_cell BK294.out 1).trans rfl⟩ (fun hHeld => ?_); refine with_tabW laws_FnExactFollowPlan.tab7 laws_FnExactFollowPlan.bits7 (fun HT_ HW_ => ?_)
  generalize w29.drew = w31 at HO302 HO312 BK293 BK294 BK309 HB hHeld ⊢
  refine pure_ (i := 2) (N := some 36) (v := ?_) (a' := ?_) #[false, false, true, false, false, false, false, false, false, false, false, false, false, false] rfl rfl (any_of HT_.out (by kernel_rfl)) (fun _ _ _ h => h) (Or.inl ⟨by rfl, ?_⟩) ?_ ?_
  rotate_left
  ·intro w'
   go_simp
   with_reducible rfl
  rotate_left
  ·simp only [Act.put, sp_]
   rfl
  refine take_ (i := 0) (N := some 34) (v := ?_) (a' := ?_) #[true, false, true, false, false, false, false, false, false, false, false, false, false, false] rfl rfl (take_ofW HT_.out HW_.out (by kernel_rfl)) (fun _ _ _ h => h) (Or.inl ⟨by rfl, ?_⟩) hHeld ?_ ?_
  rotate_left
  ·rintro w' ⟨s0, s1, s2, s3, s4, s5⟩
   go_simp
   with_reducible rfl
  rotate_left
  ·simp only [Act.put, sp_]
   rfl
  refine take_ (i := 3) (N := some 37) (v := ?_) (a' := ?_) #[true, false, true, true, false, false, false, false, false, false, false, false, false, false] rfl rfl (take_ofW HT_.out HW_.out (by kernel_rfl)) (fun _ _ _ h => h) (Or.inl ⟨by rfl, ?_⟩) hHeld ?_ ?_
  rotate_left
  ·rintro w' ⟨s0, s1, s2, s3, s4, s5⟩
   go_simp
   with_reducible rfl
  rotate_left
  ·simp only [Act.put, sp_]
   rfl
  refine join_ (σ := Nat) 3 #[true, true, true, true, true, true, true, true, true, true, true, false, false, false] (fun s_ => [(35, .agg #[.int .i8 t313, .int .i8 t314, .bool t315, .bool t316]), (38, .agg #[.int .i8 t317, .bool t318]), (39, .tuple #[.agg #[.int .i8 t319, .bool t320], .int .i64 t321, .int .i64 t322]), (12, .pointer (some ⟨s_, 0, none⟩)), (33, .tuple #[.agg #[.int .i8 t319, .bool t320], .int .i64 t321, .int .i64 t322]), (40, .agg #[.int .i8 t319, .bool t320]), (41, .int .i64 t321), (42, .int .i64 t322)]) (fun s_ w' => (w'.cell? ⟨gb293, 0, none⟩ = some (.int .i8 a0_0) ∧ w'.cell? ⟨gb293, 1, none⟩ = some (.int .i8 a0_1) ∧ w'.cell? ⟨gb293, 2, none⟩ = some (.bool a0_2) ∧ w'.cell? ⟨gb293, 3, none⟩ = some (.bool a0_3) ∧ w'.cell? ⟨gb294, 0, none⟩ = some (.int .i8 a2_0) ∧ w'.cell? ⟨gb294, 1, none⟩ = some (.bool a2_1)) ∧ (Kd.R k58 58 w' w.heap.size (fun k_ => some k_ ≠ (.slice Ao30 t310.length co30 : Value).ownBlock) v301 t300) ∧ (Kd.R k58 58 w' w.heap.size (fun k_ => some k_ ≠ (v301 : Value).ownBlock) (.slice Ao30 t310.length co30) t310) ∧ (w'.heap[gb293]? = some (.cells #[.int .i8 a0_0, .int .i8 a0_1, .bool a0_2, .bool a0_3] 24 (0, 0))) ∧ (w'.heap[gb294]? = some (.cells #[.int .i8 a2_0, .bool a2_1] 42 (0, 0))) ∧ (w'.heap[gb309]? = some (.cells #[.int .i8 t305, .bool t306] 43 (0, 0))) ∧ (w'.heap[s_]? = some (.cells #[.int .i8 0, .bool false] 43 (0, 0))) ∧ (w.heap.size ≤ s_) ∧ (w.heap.size ≤ s_) ∧ (gb293 ≠ s_) ∧ (s_ ≠ gb293) ∧ (gb294 ≠ s_) ∧ (s_ ≠ gb294) ∧ (gb309 ≠ s_) ∧ (s_ ≠ gb309) ∧ (Below w.heap.size w w')) ?_ ?_
  rotate_left
  ·intro hCont
   refine two_ (i := 1) (j := 10) (Ni := some 35) (Nj := some 12) #[true, true, true, true, false, false, false, false, false, false, false, false, false, false] #[true, false, true, true, false, false, false, false, false, false, true, false, false, false] rfl rfl rfl rfl (two_of HT_.out (by kernel_rfl)) (by decide) (by decide) (fun K hK => ?_) (fun K hK => ?_)
   ·skip
    refine goes_ Try.func8 (by kernel_rfl) rfl #[.agg #[.int .i8 a0_0, .int .i8 a0_1, .bool a0_2, .bool a0_3]] (by rfl) rfl rfl arg_ ?_
    with_reducible refine (laws_toTask.calls a0_0 a0_1 a0_2 a0_3 t313 t314 t315 t316 _ A13.out).mono ?_
    rintro e w32 ⟨rfl, hb⟩
    refine ⟨_, rfl, ?_⟩
    have n0_ := A_ (Kd.R_below (pr_ HO302) hb)
    have n1_ := A_ (Kd.R_below (pr_ HO312) hb)
    have n2_ := A_ (blk_below (pl_ BK293) hb)
    have n3_ := A_ (blk_below (pl_ BK294) hb)
    have n4_ := A_ (blk_below (pl_ BK309) hb)
    have n5_ := A_ (below_step (bl_ HB) hb)
    clear HO302
    clear HO312
    clear BK293
    clear BK294
    clear BK309
    clear HB
    have HO302 := n0_
    have HO312 := n1_
    have BK293 := n2_
    have BK294 := n3_
    have BK309 := n4_
    have HB := n5_
    clear n0_ n1_ n2_ n3_ n4_ n5_
    (try clear hb)
    (try clear hb2)
    (try clear hk)
    (try clear hi)
    refine hK.out _ _ ⟨(blk_cell BK293.out 0).trans rfl, (blk_cell BK293.out 1).trans rfl, (blk_cell BK293.out 2).trans rfl, (blk_cell BK293.out 3).trans rfl, (blk_cell BK294.out 0).trans rfl, (blk_cell BK294.out 1).trans rfl⟩ (fun hHeld => ?_)
    clear hK K
    refine norm_ (a' := ?_) ?_ ?_
    rotate_left
    ·show Act.put _ (some 35) _ = _
     simp only [Act.put, sp_]
     rfl
    refine two_ (i := 4) (j := 10) (Ni := some 38) (Nj := some 12) #[true, true, true, true, true, false, false, false, false, false, false, false, false, false] #[true, true, true, true, false, false, false, false, false, false, true, false, false, false] rfl rfl rfl rfl (two_of HT_.out (by kernel_rfl)) (by decide) (by decide) (fun K hK => ?_) (fun K hK => ?_)
    ·skip
     refine goes_ Try.func19 (by kernel_rfl) rfl #[.agg #[.int .i8 a2_0, .bool a2_1]] (by rfl) rfl rfl arg_ ?_
     with_reducible refine (laws_toCase.calls a2_0 a2_1 t317 t318 _ A14.out).mono ?_
     rintro e w33 ⟨rfl, hb⟩
     refine ⟨_, rfl, ?_⟩
     have n0_ := A_ (Kd.R_below (pr_ HO302) hb)
     have n1_ := A_ (Kd.R_below (pr_ HO312) hb)
     have n2_ := A_ (blk_below (pl_ BK293) hb)
     have n3_ := A_ (blk_below (pl_ BK294) hb)
     have n4_ := A_ (blk_below (pl_ BK309) hb)
     have n5_ := A_ (below_step (bl_ HB) hb)
     clear HO302
     clear HO312
     clear BK293
     clear BK294
     clear BK309
     clear HB
     have HO302 := n0_
     have HO312 := n1_
     have BK293 := n2_
     have BK294 := n3_
     have BK309 := n4_
     have HB := n5_
     clear n0_ n1_ n2_ n3_ n4_ n5_
     (try clear hb)
     (try clear hb2)
     (try clear hk)
     (try clear hi)
     refine hK.out _ _ ⟨(blk_cell BK293.out 0).trans rfl, (blk_cell BK293.out 1).trans rfl, (blk_cell BK293.out 2).trans rfl, (blk_cell BK293.out 3).trans rfl, (blk_cell BK294.out 0).trans rfl, (blk_cell BK294.out 1).trans rfl⟩ (fun hHeld => ?_)
     clear hK K
     refine norm_ (a' := ?_) ?_ ?_
     rotate_left
     ·show Act.put _ (some 38) _ = _
      simp only [Act.put, sp_]
      rfl
     refine two_ (i := 5) (j := 10) (Ni := some 39) (Nj := some 12) #[true, true, true, true, true, true, false, false, false, false, false, false, false, false] #[true, true, true, true, true, false, false, false, false, false, true, false, false, false] rfl rfl rfl rfl (two_of HT_.out (by kernel_rfl)) (by decide) (by decide) (fun K hK => ?_) (fun K hK => ?_)
     ·skip
      refine goes_ Try.func20 (by kernel_rfl) rfl #[.agg #[.int .i8 t313, .int .i8 t314, .bool t315, .bool t316], .slice Ao30 t310.length co30, .agg #[.int .i8 t317, .bool t318]] (by rfl) rfl rfl arg_ ?_
      with_reducible refine (impl_FollowPlan.calls k t313 t314 t315 t316 _ _ t310 t317 t318 t319 t320 t321 t322 _ ?side1 ?side2 A15.out).mono ?_
      (case side1 => repeat (first | exact (Kd.R_reads' HO312.out).2.2 | (with_reducible refine Kd.C_alloc ?_ _) | (with_reducible refine Kd.C_drewN ?_ _) | (with_reducible refine Kd.C_drew ?_)))
      (case side2 => exact (Kd.R_reads' HO312.out).2.1)
      rintro e w34 ⟨rfl, hb⟩
      refine ⟨_, rfl, ?_⟩
      have n0_ := A_ (Kd.R_below (pr_ HO302) hb)
      have n1_ := A_ (Kd.R_below (pr_ HO312) hb)
      have n2_ := A_ (blk_below (pl_ BK293) hb)
      have n3_ := A_ (blk_below (pl_ BK294) hb)
      have n4_ := A_ (blk_below (pl_ BK309) hb)
      have n5_ := A_ (below_step (bl_ HB) hb)
      clear HO302
      clear HO312
      clear BK293
      clear BK294
      clear BK309
      clear HB
      have HO302 := n0_
      have HO312 := n1_
      have BK293 := n2_
      have BK294 := n3_
      have BK309 := n4_
      have HB := n5_
      clear n0_ n1_ n2_ n3_ n4_ n5_
      (try clear hb)
      (try clear hb2)
      (try clear hk)
      (try clear hi)
      refine hK.out _ _ ⟨(blk_cell BK293.out 0).trans rfl, (blk_cell BK293.out 1).trans rfl, (blk_cell BK293.out 2).trans rfl, (blk_cell BK293.out 3).trans rfl, (blk_cell BK294.out 0).trans rfl, (blk_cell BK294.out 1).trans rfl⟩ (fun hHeld => ?_)
      clear hK K
      refine norm_ (a' := ?_) ?_ ?_
      rotate_left
      ·show Act.put _ (some 39) _ = _
       simp only [Act.put, sp_]
       rfl
      refine pure_ (i := 6) (N := some 33) (v := ?_) (a' := ?_) #[true, true, true, true, true, true, true, false, false, false, false, false, false, false] rfl rfl (any_of HT_.out (by kernel_rfl)) (fun _ _ _ h => h) (Or.inl ⟨by rfl, ?_⟩) ?_ ?_
      rotate_left
      ·intro w'
       go_simp
       with_reducible rfl
      rotate_left
      ·simp only [Act.put, sp_]
       rfl
      refine pure_ (i := 7) (N := some 40) (v := ?_) (a' := ?_) #[true, true, true, true, true, true, true, true, false, false, false, false, false, false] rfl rfl (any_of HT_.out (by kernel_rfl)) (fun _ _ _ h => h) (Or.inl ⟨by rfl, ?_⟩) ?_ ?_
      rotate_left
      ·intro w'
       go_simp
       with_reducible rfl
      rotate_left
      ·simp only [Act.put, sp_]
       rfl
      refine pure_ (i := 8) (N := some 41) (v := ?_) (a' := ?_) #[true, true, true, true, true, true, true, true, true, false, false, false, false, false] rfl rfl (any_of HT_.out (by kernel_rfl)) (fun _ _ _ h => h) (Or.inl ⟨by rfl, ?_⟩) ?_ ?_
      rotate_left
      ·intro w'
       go_simp
       with_reducible rfl
      rotate_left
      ·simp only [Act.put, sp_]
       rfl
      refine pure_ (i := 9) (N := some 42) (v := ?_) (a' := ?_) #[true, true, true, true, true, true, true, true, true, true, false, false, false, false] rfl rfl (any_of HT_.out (by kernel_rfl)) (fun _ _ _ h => h) (Or.inl ⟨by rfl, ?_⟩) ?_ ?_
      rotate_left
      ·intro w'
       go_simp
       with_reducible rfl
      rotate_left
      ·simp only [Act.put, sp_]
       rfl
      refine one_ (i := 10) (N := some 12) #[true, true, true, true, true, true, true, true, true, true, true, false, false, false] rfl rfl (one_of HT_.out (by kernel_rfl)) (by decide) (fun K hK => ?_)
      refine box_step ?hg (N := 12) ?hd (cs := #[.int .i8 0, .bool false]) (t := 43) ?hr ?_; (case hd => rfl); (case hg => rfl); (case hr => first | (go_simp; done) | (go_simp; rfl))
      intro gb323 hg w35 hbox hb
      have n0_ := A_ (Kd.R_below (pr_ HO302) hb)
      have n1_ := A_ (Kd.R_below (pr_ HO312) hb)
      have n2_ := A_ (blk_below (pl_ BK293) hb)
      have n3_ := A_ (blk_below (pl_ BK294) hb)
      have n4_ := A_ (blk_below (pl_ BK309) hb)
      have n5_ := A_ (below_step (bl_ HB) hb)
      have n6_ := A_ (hbox)
      have n7_ := A_ ((by rw [hg]; exact (below_size (bl_ HB)) : w.heap.size ≤ gb323))
      have n8_ := n7_
      have n9_ := A_ ((by rw [hg]; exact Nat.ne_of_lt (blk_lt (pl_ BK293)) : gb293 ≠ gb323))
      have n10_ := Aside0.mk n9_.out.symm
      have n11_ := A_ ((by rw [hg]; exact Nat.ne_of_lt (blk_lt (pl_ BK294)) : gb294 ≠ gb323))
      have n12_ := Aside0.mk n11_.out.symm
      have n13_ := A_ ((by rw [hg]; exact Nat.ne_of_lt (blk_lt (pl_ BK309)) : gb309 ≠ gb323))
      have n14_ := Aside0.mk n13_.out.symm
      clear HO302
      clear HO312
      clear BK293
      clear BK294
      clear BK309
      clear HB
      have HO302 := n0_
      have HO312 := n1_
      have BK293 := n2_
      have BK294 := n3_
      have BK309 := n4_
      have HB := n5_
      have BK323 := n6_
      have GW323 := n7_
      have GE323 := n8_
      have NB293_323 := n9_
      have NB323_293 := n10_
      have NB294_323 := n11_
      have NB323_294 := n12_
      have NB309_323 := n13_
      have NB323_309 := n14_
      clear n0_ n1_ n2_ n3_ n4_ n5_ n6_ n7_ n8_ n9_ n10_ n11_ n12_ n13_ n14_
      clear hb hbox hg
      refine hK.out _ _ ⟨(blk_cell BK293.out 0).trans rfl, (blk_cell BK293.out 1).trans rfl, (blk_cell BK293.out 2).trans rfl, (blk_cell BK293.out 3).trans rfl, (blk_cell BK294.out 0).trans rfl, (blk_cell BK294.out 1).trans rfl⟩ (fun hHeld => ?_)
      clear hK K
      refine norm_ (a' := ?_) ?_ ?_
      rotate_left
      ·show Act.put _ (some 12) _ = _
       simp only [Act.put, sp_]
       rfl
      exact norm_ pa_ (hCont (gb323) _ ⟨hHeld, (by (with_reducible repeat (first | apply Kd.R_alloc | apply Kd.R_drewN | apply Kd.R_drew)); exact Kd.R_mono HO302.out (fun _ hk => hk.2)), (by (with_reducible repeat (first | apply Kd.R_alloc | apply Kd.R_drewN | apply Kd.R_drew)); exact Kd.R_mono HO312.out (fun _ hk => hk.2)), (pl_ BK293), (pl_ BK294), (pl_ BK309), (pl_ BK323), GW323.out, GE323.out, NB293_323.out, NB323_293.out, NB294_323.out, NB323_294.out, NB309_323.out, NB323_309.out, (bl_ HB)⟩)
     ·skip
      refine box_step ?hg (N := 12) ?hd (cs := #[.int .i8 0, .bool false]) (t := 43) ?hr ?_; (case hd => rfl); (case hg => rfl); (case hr => first | (go_simp; done) | (go_simp; rfl))
      intro gb323 hg w34 hbox hb
      have n0_ := A_ (Kd.R_below (pr_ HO302) hb)
      have n1_ := A_ (Kd.R_below (pr_ HO312) hb)
      have n2_ := A_ (blk_below (pl_ BK293) hb)
      have n3_ := A_ (blk_below (pl_ BK294) hb)
      have n4_ := A_ (blk_below (pl_ BK309) hb)
      have n5_ := A_ (below_step (bl_ HB) hb)
      have n6_ := A_ (hbox)
      have n7_ := A_ ((by rw [hg]; exact (below_size (bl_ HB)) : w.heap.size ≤ gb323))
      have n8_ := n7_
      have n9_ := A_ ((by rw [hg]; exact Nat.ne_of_lt (blk_lt (pl_ BK293)) : gb293 ≠ gb323))
      have n10_ := Aside0.mk n9_.out.symm
      have n11_ := A_ ((by rw [hg]; exact Nat.ne_of_lt (blk_lt (pl_ BK294)) : gb294 ≠ gb323))
      have n12_ := Aside0.mk n11_.out.symm
      have n13_ := A_ ((by rw [hg]; exact Nat.ne_of_lt (blk_lt (pl_ BK309)) : gb309 ≠ gb323))
      have n14_ := Aside0.mk n13_.out.symm
      clear HO302
      clear HO312
      clear BK293
      clear BK294
      clear BK309
      clear HB
      have HO302 := n0_
      have HO312 := n1_
      have BK293 := n2_
      have BK294 := n3_
      have BK309 := n4_
      have HB := n5_
      have BK323 := n6_
      have GW323 := n7_
      have GE323 := n8_
      have NB293_323 := n9_
      have NB323_293 := n10_
      have NB294_323 := n11_
      have NB323_294 := n12_
      have NB309_323 := n13_
      have NB323_309 := n14_
      clear n0_ n1_ n2_ n3_ n4_ n5_ n6_ n7_ n8_ n9_ n10_ n11_ n12_ n13_ n14_
      clear hb hbox hg
      refine hK.out _ _ ⟨(blk_cell BK293.out 0).trans rfl, (blk_cell BK293.out 1).trans rfl, (blk_cell BK293.out 2).trans rfl, (blk_cell BK293.out 3).trans rfl, (blk_cell BK294.out 0).trans rfl, (blk_cell BK294.out 1).trans rfl⟩ (fun hHeld => ?_)
      clear hK K
      refine norm_ (a' := ?_) ?_ ?_
      rotate_left
      ·show Act.put _ (some 12) _ = _
       simp only [Act.put, sp_]
       rfl
      refine one_ (i := 5) (N := some 39) #[true, true, true, true, true, true, false, false, false, false, true, false, false, false] rfl rfl (one_of HT_.out (by kernel_rfl)) (by decide) (fun K hK => ?_)
      refine goes_ Try.func20 (by kernel_rfl) rfl #[.agg #[.int .i8 t313, .int .i8 t314, .bool t315, .bool t316], .slice Ao30 t310.length co30, .agg #[.int .i8 t317, .bool t318]] (by rfl) rfl rfl arg_ ?_
      with_reducible refine (impl_FollowPlan.calls k t313 t314 t315 t316 _ _ t310 t317 t318 t319 t320 t321 t322 _ ?side1 ?side2 A15.out).mono ?_
      (case side1 => repeat (first | exact (Kd.R_reads' HO312.out).2.2 | (with_reducible refine Kd.C_alloc ?_ _) | (with_reducible refine Kd.C_drewN ?_ _) | (with_reducible refine Kd.C_drew ?_)))
      (case side2 => exact (Kd.R_reads' HO312.out).2.1)
      rintro e w35 ⟨rfl, hb⟩
      refine ⟨_, rfl, ?_⟩
      have n0_ := A_ (Kd.R_below (pr_ HO302) hb)
      have n1_ := A_ (Kd.R_below (pr_ HO312) hb)
      have n2_ := A_ (blk_below (pl_ BK293) hb)
      have n3_ := A_ (blk_below (pl_ BK294) hb)
      have n4_ := A_ (blk_below (pl_ BK309) hb)
      have n5_ := A_ (blk_below (pl_ BK323) hb)
      have n6_ := A_ (below_step (bl_ HB) hb)
      clear HO302
      clear HO312
      clear BK293
      clear BK294
      clear BK309
      clear BK323
      clear HB
      have HO302 := n0_
      have HO312 := n1_
      have BK293 := n2_
      have BK294 := n3_
      have BK309 := n4_
      have BK323 := n5_
      have HB := n6_
      clear n0_ n1_ n2_ n3_ n4_ n5_ n6_
      (try clear hb)
      (try clear hb2)
      (try clear hk)
      (try clear hi)
      refine hK.out _ _ ⟨(blk_cell BK293.out 0).trans rfl, (blk_cell BK293.out 1).trans rfl, (blk_cell BK293.out 2).trans rfl, (blk_cell BK293.out 3).trans rfl, (blk_cell BK294.out 0).trans rfl, (blk_cell BK294.out 1).trans rfl⟩ (fun hHeld => ?_)
      clear hK K
      refine norm_ (a' := ?_) ?_ ?_
      rotate_left
      ·show Act.put _ (some 39) _ = _
       simp only [Act.put, sp_]
       rfl
      refine pure_ (i := 6) (N := some 33) (v := ?_) (a' := ?_) #[true, true, true, true, true, true, true, false, false, false, true, false, false, false] rfl rfl (any_of HT_.out (by kernel_rfl)) (fun _ _ _ h => h) (Or.inl ⟨by rfl, ?_⟩) ?_ ?_
      rotate_left
      ·intro w'
       go_simp
       with_reducible rfl
      rotate_left
      ·simp only [Act.put, sp_]
       rfl
      refine pure_ (i := 7) (N := some 40) (v := ?_) (a' := ?_) #[true, true, true, true, true, true, true, true, false, false, true, false, false, false] rfl rfl (any_of HT_.out (by kernel_rfl)) (fun _ _ _ h => h) (Or.inl ⟨by rfl, ?_⟩) ?_ ?_
      rotate_left
      ·intro w'
       go_simp
       with_reducible rfl
      rotate_left
      ·simp only [Act.put, sp_]
       rfl
      refine pure_ (i := 8) (N := some 41) (v := ?_) (a' := ?_) #[true, true, true, true, true, true, true, true, true, false, true, false, false, false] rfl rfl (any_of HT_.out (by kernel_rfl)) (fun _ _ _ h => h) (Or.inl ⟨by rfl, ?_⟩) ?_ ?_
      rotate_left
      ·intro w'
       go_simp
       with_reducible rfl
      rotate_left
      ·simp only [Act.put, sp_]
       rfl
      refine pure_ (i := 9) (N := some 42) (v := ?_) (a' := ?_) #[true, true, true, true, true, true, true, true, true, true, true, false, false, false] rfl rfl (any_of HT_.out (by kernel_rfl)) (fun _ _ _ h => h) (Or.inl ⟨by rfl, ?_⟩) ?_ ?_
      rotate_left
      ·intro w'
       go_simp
       with_reducible rfl
      rotate_left
      ·simp only [Act.put, sp_]
       rfl
      exact norm_ pa_ (hCont (gb323) _ ⟨hHeld, (by (with_reducible repeat (first | apply Kd.R_alloc | apply Kd.R_drewN | apply Kd.R_drew)); exact Kd.R_mono HO302.out (fun _ hk => hk.2)), (by (with_reducible repeat (first | apply Kd.R_alloc | apply Kd.R_drewN | apply Kd.R_drew)); exact Kd.R_mono HO312.out (fun _ hk => hk.2)), (pl_ BK293), (pl_ BK294), (pl_ BK309), (pl_ BK323), GW323.out, GE323.out, NB293_323.out, NB323_293.out, NB294_323.out, NB323_294.out, NB309_323.out, NB323_309.out, (bl_ HB)⟩)
    ·skip
     refine box_step ?hg (N := 12) ?hd (cs := #[.int .i8 0, .bool false]) (t := 43) ?hr ?_; (case hd => rfl); (case hg => rfl); (case hr => first | (go_simp; done) | (go_simp; rfl))
     intro gb323 hg w33 hbox hb
     have n0_ := A_ (Kd.R_below (pr_ HO302) hb)
     have n1_ := A_ (Kd.R_below (pr_ HO312) hb)
     have n2_ := A_ (blk_below (pl_ BK293) hb)
     have n3_ := A_ (blk_below (pl_ BK294) hb)
     have n4_ := A_ (blk_below (pl_ BK309) hb)
     have n5_ := A_ (below_step (bl_ HB) hb)
     have n6_ := A_ (hbox)
     have n7_ := A_ ((by rw [hg]; exact (below_size (bl_ HB)) : w.heap.size ≤ gb323))
     have n8_ := n7_
     have n9_ := A_ ((by rw [hg]; exact Nat.ne_of_lt (blk_lt (pl_ BK293)) : gb293 ≠ gb323))
     have n10_ := Aside0.mk n9_.out.symm
     have n11_ := A_ ((by rw [hg]; exact Nat.ne_of_lt (blk_lt (pl_ BK294)) : gb294 ≠ gb323))
     have n12_ := Aside0.mk n11_.out.symm
     have n13_ := A_ ((by rw [hg]; exact Nat.ne_of_lt (blk_lt (pl_ BK309)) : gb309 ≠ gb323))
     have n14_ := Aside0.mk n13_.out.symm
     clear HO302
     clear HO312
     clear BK293
     clear BK294
     clear BK309
     clear HB
     have HO302 := n0_
     have HO312 := n1_
     have BK293 := n2_
     have BK294 := n3_
     have BK309 := n4_
     have HB := n5_
     have BK323 := n6_
     have GW323 := n7_
     have GE323 := n8_
     have NB293_323 := n9_
     have NB323_293 := n10_
     have NB294_323 := n11_
     have NB323_294 := n12_
     have NB309_323 := n13_
     have NB323_309 := n14_
     clear n0_ n1_ n2_ n3_ n4_ n5_ n6_ n7_ n8_ n9_ n10_ n11_ n12_ n13_ n14_
     clear hb hbox hg
     refine hK.out _ _ ⟨(blk_cell BK293.out 0).trans rfl, (blk_cell BK293.out 1).trans rfl, (blk_cell BK293.out 2).trans rfl, (blk_cell BK293.out 3).trans rfl, (blk_cell BK294.out 0).trans rfl, (blk_cell BK294.out 1).trans rfl⟩ (fun hHeld => ?_)
     clear hK K
     refine norm_ (a' := ?_) ?_ ?_
     rotate_left
     ·show Act.put _ (some 12) _ = _
      simp only [Act.put, sp_]
      rfl
     refine one_ (i := 4) (N := some 38) #[true, true, true, true, true, false, false, false, false, false, true, false, false, false] rfl rfl (one_of HT_.out (by kernel_rfl)) (by decide) (fun K hK => ?_)
     refine goes_ Try.func19 (by kernel_rfl) rfl #[.agg #[.int .i8 a2_0, .bool a2_1]] (by rfl) rfl rfl arg_ ?_
     with_reducible refine (laws_toCase.calls a2_0 a2_1 t317 t318 _ A14.out).mono ?_
     rintro e w34 ⟨rfl, hb⟩
     refine ⟨_, rfl, ?_⟩
     have n0_ := A_ (Kd.R_below (pr_ HO302) hb)
     have n1_ := A_ (Kd.R_below (pr_ HO312) hb)
     have n2_ := A_ (blk_below (pl_ BK293) hb)
     have n3_ := A_ (blk_below (pl_ BK294) hb)
     have n4_ := A_ (blk_below (pl_ BK309) hb)
     have n5_ := A_ (blk_below (pl_ BK323) hb)
     have n6_ := A_ (below_step (bl_ HB) hb)
     clear HO302
     clear HO312
     clear BK293
     clear BK294
     clear BK309
     clear BK323
     clear HB
     have HO302 := n0_
     have HO312 := n1_
     have BK293 := n2_
     have BK294 := n3_
     have BK309 := n4_
     have BK323 := n5_
     have HB := n6_
     clear n0_ n1_ n2_ n3_ n4_ n5_ n6_
     (try clear hb)
     (try clear hb2)
     (try clear hk)
     (try clear hi)
     refine hK.out _ _ ⟨(blk_cell BK293.out 0).trans rfl, (blk_cell BK293.out 1).trans rfl, (blk_cell BK293.out 2).trans rfl, (blk_cell BK293.out 3).trans rfl, (blk_cell BK294.out 0).trans rfl, (blk_cell BK294.out 1).trans rfl⟩ (fun hHeld => ?_)
     clear hK K
     refine norm_ (a' := ?_) ?_ ?_
     rotate_left
     ·show Act.put _ (some 38) _ = _
      simp only [Act.put, sp_]
      rfl
     refine one_ (i := 5) (N := some 39) #[true, true, true, true, true, true, false, false, false, false, true, false, false, false] rfl rfl (one_of HT_.out (by kernel_rfl)) (by decide) (fun K hK => ?_)
     refine goes_ Try.func20 (by kernel_rfl) rfl #[.agg #[.int .i8 t313, .int .i8 t314, .bool t315, .bool t316], .slice Ao30 t310.length co30, .agg #[.int .i8 t317, .bool t318]] (by rfl) rfl rfl arg_ ?_
     with_reducible refine (impl_FollowPlan.calls k t313 t314 t315 t316 _ _ t310 t317 t318 t319 t320 t321 t322 _ ?side1 ?side2 A15.out).mono ?_
     (case side1 => repeat (first | exact (Kd.R_reads' HO312.out).2.2 | (with_reducible refine Kd.C_alloc ?_ _) | (with_reducible refine Kd.C_drewN ?_ _) | (with_reducible refine Kd.C_drew ?_)))
     (case side2 => exact (Kd.R_reads' HO312.out).2.1)
     rintro e w35 ⟨rfl, hb⟩
     refine ⟨_, rfl, ?_⟩
     have n0_ := A_ (Kd.R_below (pr_ HO302) hb)
     have n1_ := A_ (Kd.R_below (pr_ HO312) hb)
     have n2_ := A_ (blk_below (pl_ BK293) hb)
     have n3_ := A_ (blk_below (pl_ BK294) hb)
     have n4_ := A_ (blk_below (pl_ BK309) hb)
     have n5_ := A_ (blk_below (pl_ BK323) hb)
     have n6_ := A_ (below_step (bl_ HB) hb)
     clear HO302
     clear HO312
     clear BK293
     clear BK294
     clear BK309
     clear BK323
     clear HB
     have HO302 := n0_
     have HO312 := n1_
     have BK293 := n2_
     have BK294 := n3_
     have BK309 := n4_
     have BK323 := n5_
     have HB := n6_
     clear n0_ n1_ n2_ n3_ n4_ n5_ n6_
     (try clear hb)
     (try clear hb2)
     (try clear hk)
     (try clear hi)
     refine hK.out _ _ ⟨(blk_cell BK293.out 0).trans rfl, (blk_cell BK293.out 1).trans rfl, (blk_cell BK293.out 2).trans rfl, (blk_cell BK293.out 3).trans rfl, (blk_cell BK294.out 0).trans rfl, (blk_cell BK294.out 1).trans rfl⟩ (fun hHeld => ?_)
     clear hK K
     refine norm_ (a' := ?_) ?_ ?_
     rotate_left
     ·show Act.put _ (some 39) _ = _
      simp only [Act.put, sp_]
      rfl
     refine pure_ (i := 6) (N := some 33) (v := ?_) (a' := ?_) #[true, true, true, true, true, true, true, false, false, false, true, false, false, false] rfl rfl (any_of HT_.out (by kernel_rfl)) (fun _ _ _ h => h) (Or.inl ⟨by rfl, ?_⟩) ?_ ?_
     rotate_left
     ·intro w'
      go_simp
      with_reducible rfl
     rotate_left
     ·simp only [Act.put, sp_]
      rfl
     refine pure_ (i := 7) (N := some 40) (v := ?_) (a' := ?_) #[true, true, true, true, true, true, true, true, false, false, true, false, false, false] rfl rfl (any_of HT_.out (by kernel_rfl)) (fun _ _ _ h => h) (Or.inl ⟨by rfl, ?_⟩) ?_ ?_
     rotate_left
     ·intro w'
      go_simp
      with_reducible rfl
     rotate_left
     ·simp only [Act.put, sp_]
      rfl
     refine pure_ (i := 8) (N := some 41) (v := ?_) (a' := ?_) #[true, true, true, true, true, true, true, true, true, false, true, false, false, false] rfl rfl (any_of HT_.out (by kernel_rfl)) (fun _ _ _ h => h) (Or.inl ⟨by rfl, ?_⟩) ?_ ?_
     rotate_left
     ·intro w'
      go_simp
      with_reducible rfl
     rotate_left
     ·simp only [Act.put, sp_]
      rfl
     refine pure_ (i := 9) (N := some 42) (v := ?_) (a' := ?_) #[true, true, true, true, true, true, true, true, true, true, true, false, false, false] rfl rfl (any_of HT_.out (by kernel_rfl)) (fun _ _ _ h => h) (Or.inl ⟨by rfl, ?_⟩) ?_ ?_
     rotate_left
     ·intro w'
      go_simp
      with_reducible rfl
     rotate_left
     ·simp only [Act.put, sp_]
      rfl
     exact norm_ pa_ (hCont (gb323) _ ⟨hHeld, (by (with_reducible repeat (first | apply Kd.R_alloc | apply Kd.R_drewN | apply Kd.R_drew)); exact Kd.R_mono HO302.out (fun _ hk => hk.2)), (by (with_reducible repeat (first | apply Kd.R_alloc | apply Kd.R_drewN | apply Kd.R_drew)); exact Kd.R_mono HO312.out (fun _ hk => hk.2)), (pl_ BK293), (pl_ BK294), (pl_ BK309), (pl_ BK323), GW323.out, GE323.out, NB293_323.out, NB323_293.out, NB294_323.out, NB323_294.out, NB309_323.out, NB323_309.out, (bl_ HB)⟩)
   ·skip
    refine box_step ?hg (N := 12) ?hd (cs := #[.int .i8 0, .bool false]) (t := 43) ?hr ?_; (case hd => rfl); (case hg => rfl); (case hr => first | (go_simp; done) | (go_simp; rfl))
    intro gb323 hg w32 hbox hb
    have n0_ := A_ (Kd.R_below (pr_ HO302) hb)
    have n1_ := A_ (Kd.R_below (pr_ HO312) hb)
    have n2_ := A_ (blk_below (pl_ BK293) hb)
    have n3_ := A_ (blk_below (pl_ BK294) hb)
    have n4_ := A_ (blk_below (pl_ BK309) hb)
    have n5_ := A_ (below_step (bl_ HB) hb)
    have n6_ := A_ (hbox)
    have n7_ := A_ ((by rw [hg]; exact (below_size (bl_ HB)) : w.heap.size ≤ gb323))
    have n8_ := n7_
    have n9_ := A_ ((by rw [hg]; exact Nat.ne_of_lt (blk_lt (pl_ BK293)) : gb293 ≠ gb323))
    have n10_ := Aside0.mk n9_.out.symm
    have n11_ := A_ ((by rw [hg]; exact Nat.ne_of_lt (blk_lt (pl_ BK294)) : gb294 ≠ gb323))
    have n12_ := Aside0.mk n11_.out.symm
    have n13_ := A_ ((by rw [hg]; exact Nat.ne_of_lt (blk_lt (pl_ BK309)) : gb309 ≠ gb323))
    have n14_ := Aside0.mk n13_.out.symm
    clear HO302
    clear HO312
    clear BK293
    clear BK294
    clear BK309
    clear HB
    have HO302 := n0_
    have HO312 := n1_
    have BK293 := n2_
    have BK294 := n3_
    have BK309 := n4_
    have HB := n5_
    have BK323 := n6_
    have GW323 := n7_
    have GE323 := n8_
    have NB293_323 := n9_
    have NB323_293 := n10_
    have NB294_323 := n11_
    have NB323_294 := n12_
    have NB309_323 := n13_
    have NB323_309 := n14_
    clear n0_ n1_ n2_ n3_ n4_ n5_ n6_ n7_ n8_ n9_ n10_ n11_ n12_ n13_ n14_
    clear hb hbox hg
    refine hK.out _ _ ⟨(blk_cell BK293.out 0).trans rfl, (blk_cell BK293.out 1).trans rfl, (blk_cell BK293.out 2).trans rfl, (blk_cell BK293.out 3).trans rfl, (blk_cell BK294.out 0).trans rfl, (blk_cell BK294.out 1).trans rfl⟩ (fun hHeld => ?_)
    clear hK K
    refine norm_ (a' := ?_) ?_ ?_
    rotate_left
    ·show Act.put _ (some 12) _ = _
     simp only [Act.put, sp_]
     rfl
    refine one_ (i := 1) (N := some 35) #[true, true, true, true, false, false, false, false, false, false, true, false, false, false] rfl rfl (one_of HT_.out (by kernel_rfl)) (by decide) (fun K hK => ?_)
    refine goes_ Try.func8 (by kernel_rfl) rfl #[.agg #[.int .i8 a0_0, .int .i8 a0_1, .bool a0_2, .bool a0_3]] (by rfl) rfl rfl arg_ ?_
    with_reducible refine (laws_toTask.calls a0_0 a0_1 a0_2 a0_3 t313 t314 t315 t316 _ A13.out).mono ?_
    rintro e w33 ⟨rfl, hb⟩
    refine ⟨_, rfl, ?_⟩
    have n0_ := A_ (Kd.R_below (pr_ HO302) hb)
    have n1_ := A_ (Kd.R_below (pr_ HO312) hb)
    have n2_ := A_ (blk_below (pl_ BK293) hb)
    have n3_ := A_ (blk_below (pl_ BK294) hb)
    have n4_ := A_ (blk_below (pl_ BK309) hb)
    have n5_ := A_ (blk_below (pl_ BK323) hb)
    have n6_ := A_ (below_step (bl_ HB) hb)
    clear HO302
    clear HO312
    clear BK293
    clear BK294
    clear BK309
    clear BK323
    clear HB
    have HO302 := n0_
    have HO312 := n1_
    have BK293 := n2_
    have BK294 := n3_
    have BK309 := n4_
    have BK323 := n5_
    have HB := n6_
    clear n0_ n1_ n2_ n3_ n4_ n5_ n6_
    (try clear hb)
    (try clear hb2)
    (try clear hk)
    (try clear hi)
    refine hK.out _ _ ⟨(blk_cell BK293.out 0).trans rfl, (blk_cell BK293.out 1).trans rfl, (blk_cell BK293.out 2).trans rfl, (blk_cell BK293.out 3).trans rfl, (blk_cell BK294.out 0).trans rfl, (blk_cell BK294.out 1).trans rfl⟩ (fun hHeld => ?_)
    clear hK K
    refine norm_ (a' := ?_) ?_ ?_
    rotate_left
    ·show Act.put _ (some 35) _ = _
     simp only [Act.put, sp_]
     rfl
    refine one_ (i := 4) (N := some 38) #[true, true, true, true, true, false, false, false, false, false, true, false, false, false] rfl rfl (one_of HT_.out (by kernel_rfl)) (by decide) (fun K hK => ?_)
    refine goes_ Try.func19 (by kernel_rfl) rfl #[.agg #[.int .i8 a2_0, .bool a2_1]] (by rfl) rfl rfl arg_ ?_
    with_reducible refine (laws_toCase.calls a2_0 a2_1 t317 t318 _ A14.out).mono ?_
    rintro e w34 ⟨rfl, hb⟩
    refine ⟨_, rfl, ?_⟩
    have n0_ := A_ (Kd.R_below (pr_ HO302) hb)
    have n1_ := A_ (Kd.R_below (pr_ HO312) hb)
    have n2_ := A_ (blk_below (pl_ BK293) hb)
    have n3_ := A_ (blk_below (pl_ BK294) hb)
    have n4_ := A_ (blk_below (pl_ BK309) hb)
    have n5_ := A_ (blk_below (pl_ BK323) hb)
    have n6_ := A_ (below_step (bl_ HB) hb)
    clear HO302
    clear HO312
    clear BK293
    clear BK294
    clear BK309
    clear BK323
    clear HB
    have HO302 := n0_
    have HO312 := n1_
    have BK293 := n2_
    have BK294 := n3_
    have BK309 := n4_
    have BK323 := n5_
    have HB := n6_
    clear n0_ n1_ n2_ n3_ n4_ n5_ n6_
    (try clear hb)
    (try clear hb2)
    (try clear hk)
    (try clear hi)
    refine hK.out _ _ ⟨(blk_cell BK293.out 0).trans rfl, (blk_cell BK293.out 1).trans rfl, (blk_cell BK293.out 2).trans rfl, (blk_cell BK293.out 3).trans rfl, (blk_cell BK294.out 0).trans rfl, (blk_cell BK294.out 1).trans rfl⟩ (fun hHeld => ?_)
    clear hK K
    refine norm_ (a' := ?_) ?_ ?_
    rotate_left
    ·show Act.put _ (some 38) _ = _
     simp only [Act.put, sp_]
     rfl
    refine one_ (i := 5) (N := some 39) #[true, true, true, true, true, true, false, false, false, false, true, false, false, false] rfl rfl (one_of HT_.out (by kernel_rfl)) (by decide) (fun K hK => ?_)
    refine goes_ Try.func20 (by kernel_rfl) rfl #[.agg #[.int .i8 t313, .int .i8 t314, .bool t315, .bool t316], .slice Ao30 t310.length co30, .agg #[.int .i8 t317, .bool t318]] (by rfl) rfl rfl arg_ ?_
    with_reducible refine (impl_FollowPlan.calls k t313 t314 t315 t316 _ _ t310 t317 t318 t319 t320 t321 t322 _ ?side1 ?side2 A15.out).mono ?_
    (case side1 => repeat (first | exact (Kd.R_reads' HO312.out).2.2 | (with_reducible refine Kd.C_alloc ?_ _) | (with_reducible refine Kd.C_drewN ?_ _) | (with_reducible refine Kd.C_drew ?_)))
    (case side2 => exact (Kd.R_reads' HO312.out).2.1)
    rintro e w35 ⟨rfl, hb⟩
    refine ⟨_, rfl, ?_⟩
    have n0_ := A_ (Kd.R_below (pr_ HO302) hb)
    have n1_ := A_ (Kd.R_below (pr_ HO312) hb)
    have n2_ := A_ (blk_below (pl_ BK293) hb)
    have n3_ := A_ (blk_below (pl_ BK294) hb)
    have n4_ := A_ (blk_below (pl_ BK309) hb)
    have n5_ := A_ (blk_below (pl_ BK323) hb)
    have n6_ := A_ (below_step (bl_ HB) hb)
    clear HO302
    clear HO312
    clear BK293
    clear BK294
    clear BK309
    clear BK323
    clear HB
    have HO302 := n0_
    have HO312 := n1_
    have BK293 := n2_
    have BK294 := n3_
    have BK309 := n4_
    have BK323 := n5_
    have HB := n6_
    clear n0_ n1_ n2_ n3_ n4_ n5_ n6_
    (try clear hb)
    (try clear hb2)
    (try clear hk)
    (try clear hi)
    refine hK.out _ _ ⟨(blk_cell BK293.out 0).trans rfl, (blk_cell BK293.out 1).trans rfl, (blk_cell BK293.out 2).trans rfl, (blk_cell BK293.out 3).trans rfl, (blk_cell BK294.out 0).trans rfl, (blk_cell BK294.out 1).trans rfl⟩ (fun hHeld => ?_)
    clear hK K
    refine norm_ (a' := ?_) ?_ ?_
    rotate_left
    ·show Act.put _ (some 39) _ = _
     simp only [Act.put, sp_]
     rfl
    refine pure_ (i := 6) (N := some 33) (v := ?_) (a' := ?_) #[true, true, true, true, true, true, true, false, false, false, true, false, false, false] rfl rfl (any_of HT_.out (by kernel_rfl)) (fun _ _ _ h => h) (Or.inl ⟨by rfl, ?_⟩) ?_ ?_
    rotate_left
    ·intro w'
     go_simp
     with_reducible rfl
    rotate_left
    ·simp only [Act.put, sp_]
     rfl
    refine pure_ (i := 7) (N := some 40) (v := ?_) (a' := ?_) #[true, true, true, true, true, true, true, true, false, false, true, false, false, false] rfl rfl (any_of HT_.out (by kernel_rfl)) (fun _ _ _ h => h) (Or.inl ⟨by rfl, ?_⟩) ?_ ?_
    rotate_left
    ·intro w'
     go_simp
     with_reducible rfl
    rotate_left
    ·simp only [Act.put, sp_]
     rfl
    refine pure_ (i := 8) (N := some 41) (v := ?_) (a' := ?_) #[true, true, true, true, true, true, true, true, true, false, true, false, false, false] rfl rfl (any_of HT_.out (by kernel_rfl)) (fun _ _ _ h => h) (Or.inl ⟨by rfl, ?_⟩) ?_ ?_
    rotate_left
    ·intro w'
     go_simp
     with_reducible rfl
    rotate_left
    ·simp only [Act.put, sp_]
     rfl
    refine pure_ (i := 9) (N := some 42) (v := ?_) (a' := ?_) #[true, true, true, true, true, true, true, true, true, true, true, false, false, false] rfl rfl (any_of HT_.out (by kernel_rfl)) (fun _ _ _ h => h) (Or.inl ⟨by rfl, ?_⟩) ?_ ?_
    rotate_left
    ·intro w'
     go_simp
     with_reducible rfl
    rotate_left
    ·simp only [Act.put, sp_]
     rfl
    exact norm_ pa_ (hCont (gb323) _ ⟨hHeld, (by (with_reducible repeat (first | apply Kd.R_alloc | apply Kd.R_drewN | apply Kd.R_drew)); exact Kd.R_mono HO302.out (fun _ hk => hk.2)), (by (with_reducible repeat (first | apply Kd.R_alloc | apply Kd.R_drewN | apply Kd.R_drew)); exact Kd.R_mono HO312.out (fun _ hk => hk.2)), (pl_ BK293), (pl_ BK294), (pl_ BK309), (pl_ BK323), GW323.out, GE323.out, NB293_323.out, NB323_293.out, NB294_323.out, NB323_294.out, NB309_323.out, NB323_309.out, (bl_ HB)⟩)
  rintro gb323 w36 ⟨hS_, h0_, h1_, h2_, h3_, h4_, h5_, h6_, h7_, h8_, h9_, h10_, h11_, h12_, h13_, h14_⟩
  have n0_ : Aside0 (Kd.R k58 58 w36 w.heap.size (fun k_ => some k_ ≠ (.slice Ao30 t310.length co30 : Value).ownBlock) v301 t300) := ⟨h0_⟩
  have n1_ : Aside0 (Kd.R k58 58 w36 w.heap.size (fun k_ => some k_ ≠ (v301 : Value).ownBlock) (.slice Ao30 t310.length co30) t310) := ⟨h1_⟩
  have n2_ : Aside0 (w36.heap[gb293]? = some (.cells #[.int .i8 a0_0, .int .i8 a0_1, .bool a0_2, .bool a0_3] 24 (0, 0))) := ⟨h2_⟩
  have n3_ : Aside0 (w36.heap[gb294]? = some (.cells #[.int .i8 a2_0, .bool a2_1] 42 (0, 0))) := ⟨h3_⟩
  have n4_ : Aside0 (w36.heap[gb309]? = some (.cells #[.int .i8 t305, .bool t306] 43 (0, 0))) := ⟨h4_⟩
  have n5_ : Aside0 (w36.heap[gb323]? = some (.cells #[.int .i8 0, .bool false] 43 (0, 0))) := ⟨h5_⟩
  have n6_ : Aside0 (w.heap.size ≤ gb323) := ⟨h6_⟩
  have n7_ : Aside0 (w.heap.size ≤ gb323) := ⟨h7_⟩
  have n8_ : Aside0 (gb293 ≠ gb323) := ⟨h8_⟩
  have n9_ : Aside0 (gb323 ≠ gb293) := ⟨h9_⟩
  have n10_ : Aside0 (gb294 ≠ gb323) := ⟨h10_⟩
  have n11_ : Aside0 (gb323 ≠ gb294) := ⟨h11_⟩
  have n12_ : Aside0 (gb309 ≠ gb323) := ⟨h12_⟩
  have n13_ : Aside0 (gb323 ≠ gb309) := ⟨h13_⟩
  have n14_ : Aside0 (Below w.heap.size w w36) := ⟨h14_⟩
  clear HO302
  clear HO312
  clear BK293
  clear BK294
  clear BK309
  clear HB
  clear h0_ h1_ h2_ h3_ h4_ h5_ h6_ h7_ h8_ h9_ h10_ h11_ h12_ h13_ h14_
  have HO302 := n0_
  have HO312 := n1_
  have BK293 := n2_
  have BK294 := n3_
  have BK309 := n4_
  have BK323 := n5_
  have GW323 := n6_
  have GE323 := n7_
  have NB293_323 := n8_
  have NB323_293 := n9_
  have NB294_323 := n10_
  have NB323_294 := n11_
  have NB309_323 := n12_
  have NB323_309 := n13_
  have HB := n14_
  clear n0_ n1_ n2_ n3_ n4_ n5_ n6_ n7_ n8_ n9_ n10_ n11_ n12_ n13_ n14_
  have hHeld : w36.cell? ⟨gb293, 0, none⟩ = some (.int .i8 a0_0) ∧ w36.cell? ⟨gb293, 1, none⟩ = some (.int .i8 a0_1) ∧ w36.cell? ⟨gb293, 2, none⟩ = some (.bool a0_2) ∧ w36.cell? ⟨gb293, 3, none⟩ = some (.bool a0_3) ∧ w36.cell? ⟨gb294, 0, none⟩ = some (.int .i8 a2_0) ∧ w36.cell? ⟨gb294, 1, none⟩ = some (.bool a2_1) := hS_
  refine norm_ (a' := ?_) ?_ ?_
  rotate_left
  ·simp only [putAll, Act.put, List.setIfInBounds_toArray, List.set_cons_zero, List.set_cons_succ]
   rfl
  refine one_ (i := 11) (N := none) #[true, true, true, true, true, true, true, true, true, true, true, true, false, false] rfl rfl (one_of HT_.out (by kernel_rfl)) (by decide) (fun K hK => ?_)
  have hs37 : w36.cell? ⟨gb323, 0, none⟩ = some (.int .i8 0) := (blk_cell BK323.out 0).trans rfl
  have hfs37 := blk_frozen BK323.out 0
  have hns37_0 := NB293_323.out
  have hns37_1 := NB294_323.out
  have hns37_2 := NB309_323.out
  have hms37_0 := NB323_293.out
  have hms37_1 := NB323_294.out
  have hms37_2 := NB323_309.out
  have hs38 : w36.cell? ⟨gb323, 1, none⟩ = some (.bool false) := (blk_cell BK323.out 1).trans rfl
  have hfs38 := blk_frozen BK323.out 1
  have hns38_0 := NB293_323.out
  have hns38_1 := NB294_323.out
  have hns38_2 := NB309_323.out
  have hms38_0 := NB323_293.out
  have hms38_1 := NB323_294.out
  have hms38_2 := NB323_309.out
  refine skip_ (w1 := ?_) (by rfl) rfl ?_ ?_
  rotate_left
  ·go_simp
   rfl
  refine hK.out _ _ ⟨((cell_far (p := ⟨gb323, _, none⟩) NB293_323.out _).trans (((cell_far (p := ⟨gb323, _, none⟩) NB293_323.out _).trans (hHeld.1)))), ((cell_far (p := ⟨gb323, _, none⟩) NB293_323.out _).trans (((cell_far (p := ⟨gb323, _, none⟩) NB293_323.out _).trans (hHeld.2.1)))), ((cell_far (p := ⟨gb323, _, none⟩) NB293_323.out _).trans (((cell_far (p := ⟨gb323, _, none⟩) NB293_323.out _).trans (hHeld.2.2.1)))), ((cell_far (p := ⟨gb323, _, none⟩) NB293_323.out _).trans (((cell_far (p := ⟨gb323, _, none⟩) NB293_323.out _).trans (hHeld.2.2.2.1)))), ((cell_far (p := ⟨gb323, _, none⟩) NB294_323.out _).trans (((cell_far (p := ⟨gb323, _, none⟩) NB294_323.out _).trans (hHeld.2.2.2.2.1)))), ((cell_far (p := ⟨gb323, _, none⟩) NB294_323.out _).trans (((cell_far (p := ⟨gb323, _, none⟩) NB294_323.out _).trans (hHeld.2.2.2.2.2))))⟩ (fun hHeld => ?_)
  clear hK K
  refine pure_ (i := 12) (N := some 13) (v := ?_) (a' := ?_) #[true, true, true, true, true, true, true, true, true, true, true, true, true, false] rfl rfl (any_of HT_.out (by kernel_rfl)) (fun _ _ _ h => h) (Or.inl ⟨by rfl, ?_⟩) ?_ ?_
  rotate_left
  ·intro w'
   go_simp
   with_reducible rfl
  rotate_left
  ·simp only [Act.put, sp_]
   rfl
  refine pure_ (i := 13) (N := some 14) (v := ?_) (a' := ?_) #[true, true, true, true, true, true, true, true, true, true, true, true, true, true] rfl rfl (any_of HT_.out (by kernel_rfl)) (fun _ _ _ h => h) (Or.inl ⟨by rfl, ?_⟩) ?_ ?_
  rotate_left
  ·intro w'
   go_simp
   with_reducible rfl
  rotate_left
  ·simp only [Act.put, sp_]
   rfl
  refine done_ (done_of HT_.out (by kernel_rfl)) ?_
  go_upto_region 8 with (fail)
  go_cut [56] (fun v56 wc => ∃ (kq : Nat) (x56_15 : Bool), v56 = .bool x56_15 ∧ Aside0 (laws_FnExactFollowPlan.j0 kq l1 t310 x56_15 = some r) ∧ Aside0 (kq ≤ k) ∧ Aside0 (Kd.R k58 58 wc w.heap.size (fun _ => True) (.slice Ao30 t310.length co30) t310) ∧ Aside0 (wc.heap[gb293]? = some (.cells #[.int .i8 a0_0, .int .i8 a0_1, .bool a0_2, .bool a0_3] 24 (0, 0))) ∧ Aside0 (wc.heap[gb294]? = some (.cells #[.int .i8 a2_0, .bool a2_1] 42 (0, 0))) ∧ Aside0 (wc.heap[gb309]? = some (.cells #[.int .i8 t305, .bool t306] 43 (0, 0))) ∧ Aside0 (wc.heap[gb323]? = some (.cells #[.int .i8 t319, .bool t320] 43 (0, 0))) ∧ Aside0 (Below w.heap.size w wc))
  case first =>
   have H := HC16.out
   clear HC16
   replace H := Option.bind_eq_some_iff.mp H
   obtain ⟨t324, A390, H⟩ := H
   replace H : (if t324 = true then (if t321 = t307 then (laws_FnExactFollowPlan.j0 k l1 t310 (t322 != t308)) else (laws_FnExactFollowPlan.j0 k l1 t310 true)) else (laws_FnExactFollowPlan.j0 k l1 t310 true)) = some r := H
   have A39 := Aside0.mk A390
   clear A390
   by_cases c40 : t324 = true
   ·subst c40
    have H1 : (if t321 = t307 then (laws_FnExactFollowPlan.j0 k l1 t310 (t322 != t308)) else (laws_FnExactFollowPlan.j0 k l1 t310 true)) = some r := by rw [if_pos rfl] at H; exact H
    clear H
    have H := H1
    clear H1
    by_cases c41 : t321 = t307
    ·rw [if_pos c41] at H
     have c41b0 : (t321 == t307) = true := beq_iff_eq.mpr c41
     have c41b1 : (t321 != t307) = false := bne_eq_false_iff_eq.mpr c41
     clear c41
     (first | rw [c41b0] | (simp only [i64_w, i32_w]; rw [c41b0]) | skip)
     have H' := Aside0.mk H
     clear H
     have hnb42 := NB323_293.out
     have hnc42 := NB293_323.out
     have hnb43 := NB323_294.out
     have hnc43 := NB294_323.out
     have hnb44 := NB323_309.out
     have hnc44 := NB309_323.out
     obtain ⟨hcz45_0, hcz45_1, hfz45_0, hfz45_1⟩ := cl2_ BK323
     have hnb46 := NB309_293.out
     have hnc46 := NB293_309.out
     have hnb47 := NB309_294.out
     have hnc47 := NB294_309.out
     obtain ⟨hcz48_0, hcz48_1, hfz48_0, hfz48_1⟩ := cl2_ BK309
     go_wp2_with (first | ((with_reducible refine gate_callee (f := 21) rfl ?_); refine goesL_ (some 45) rfl rfl Try.func21 (by kernel_rfl) rfl #[.agg #[.int .i8 t319, .bool t320], .agg #[.int .i8 t305, .bool t306]] rfl arg_ ?_; (with_reducible refine (laws_eqCase.calls t319 t320 t305 t306 true _ A39.out).mono ?_); rintro e w49 ⟨rfl, hb⟩; refine ⟨_, rfl, ?_⟩; have n0_ := A_ (Kd.R_below (by (with_reducible repeat (first | apply Kd.R_alloc | apply Kd.R_drewN | apply Kd.R_drew)); exact (rf2_ HO302 BK323 (by decide))) hb); have n1_ := A_ (Kd.R_below (by (with_reducible repeat (first | apply Kd.R_alloc | apply Kd.R_drewN | apply Kd.R_drew)); exact (rf2_ HO312 BK323 (by decide))) hb); have n2_ := A_ (blk_below (g := gb293) (o := .cells #[.int .i8 a0_0, .int .i8 a0_1, .bool a0_2, .bool a0_3] 24 (0, 0)) (pf_ BK293 NB293_323) hb); have n3_ := A_ (blk_below (g := gb294) (o := .cells #[.int .i8 a2_0, .bool a2_1] 42 (0, 0)) (pf_ BK294 NB294_323) hb); have n4_ := A_ (blk_below (g := gb309) (o := .cells #[.int .i8 t305, .bool t306] 43 (0, 0)) (pf_ BK309 NB309_323) hb); have n5_ := A_ (blk_below (g := gb323) (o := .cells #[.int .i8 t319, .bool t320] 43 (0, 0)) (by (with_reducible repeat (first | refine blk_drewN ?_ _ | refine blk_drew ?_ | refine blk_alloc ?_ _)); refine blk_put (cs := #[.int .i8 t319, .bool false]) ?_ 1 _ rfl; (with_reducible repeat (first | refine blk_drewN ?_ _ | refine blk_drew ?_ | refine blk_alloc ?_ _)); refine blk_put (cs := #[.int .i8 0, .bool false]) ?_ 0 _ rfl; (with_reducible repeat (first | refine blk_drewN ?_ _ | refine blk_drew ?_ | refine blk_alloc ?_ _)); exact BK323.out) hb); have n6_ := A_ (below_step (bs_ HB GE323) hb); clear HO302; clear HO312; clear BK293; clear BK294; clear BK309; clear BK323; clear HB; have HO302 := n0_; have HO312 := n1_; have BK293 := n2_; have BK294 := n3_; have BK309 := n4_; have BK323 := n5_; have HB := n6_; clear n0_ n1_ n2_ n3_ n4_ n5_ n6_; (try clear hb); (try clear hb2); (try clear hk); (try clear hi)))
     go_meet
     case rel => exact ⟨_, ((t322 != t308)), rs_, H', ⟨by first | omega | exact Nat.le_refl _⟩, ⟨by (with_reducible repeat (first | apply Kd.R_alloc | apply Kd.R_drewN | apply Kd.R_drew)); exact Kd.R_mono HO312.out (fun _ hk => trivial)⟩, ⟨pl_ BK293⟩, ⟨pl_ BK294⟩, ⟨pl_ BK309⟩, ⟨pl_ BK323⟩, ⟨bl_ HB⟩⟩
    ·rw [if_neg c41] at H
     have c41b0 : (t321 == t307) = false := beq_eq_false_iff_ne.mpr c41
     have c41b1 : (t321 != t307) = true := bne_iff_ne.mpr c41
     (first | rw [c41b0] | (simp only [i64_w, i32_w]; rw [c41b0]) | skip)
     have H' := Aside0.mk H
     clear H
     have hnb50 := NB323_293.out
     have hnc50 := NB293_323.out
     have hnb51 := NB323_294.out
     have hnc51 := NB294_323.out
     have hnb52 := NB323_309.out
     have hnc52 := NB309_323.out
     obtain ⟨hcz53_0, hcz53_1, hfz53_0, hfz53_1⟩ := cl2_ BK323
     have hnb54 := NB309_293.out
     have hnc54 := NB293_309.out
     have hnb55 := NB309_294.out
     have hnc55 := NB294_309.out
     obtain ⟨hcz56_0, hcz56_1, hfz56_0, hfz56_1⟩ := cl2_ BK309
     go_wp2_with (first | ((with_reducible refine gate_callee (f := 21) rfl ?_); refine goesL_ (some 45) rfl rfl Try.func21 (by kernel_rfl) rfl #[.agg #[.int .i8 t319, .bool t320], .agg #[.int .i8 t305, .bool t306]] rfl arg_ ?_; (with_reducible refine (laws_eqCase.calls t319 t320 t305 t306 true _ A39.out).mono ?_); rintro e w57 ⟨rfl, hb⟩; refine ⟨_, rfl, ?_⟩; have n0_ := A_ (Kd.R_below (by (with_reducible repeat (first | apply Kd.R_alloc | apply Kd.R_drewN | apply Kd.R_drew)); exact (rf2_ HO302 BK323 (by decide))) hb); have n1_ := A_ (Kd.R_below (by (with_reducible repeat (first | apply Kd.R_alloc | apply Kd.R_drewN | apply Kd.R_drew)); exact (rf2_ HO312 BK323 (by decide))) hb); have n2_ := A_ (blk_below (g := gb293) (o := .cells #[.int .i8 a0_0, .int .i8 a0_1, .bool a0_2, .bool a0_3] 24 (0, 0)) (pf_ BK293 NB293_323) hb); have n3_ := A_ (blk_below (g := gb294) (o := .cells #[.int .i8 a2_0, .bool a2_1] 42 (0, 0)) (pf_ BK294 NB294_323) hb); have n4_ := A_ (blk_below (g := gb309) (o := .cells #[.int .i8 t305, .bool t306] 43 (0, 0)) (pf_ BK309 NB309_323) hb); have n5_ := A_ (blk_below (g := gb323) (o := .cells #[.int .i8 t319, .bool t320] 43 (0, 0)) (by (with_reducible repeat (first | refine blk_drewN ?_ _ | refine blk_drew ?_ | refine blk_alloc ?_ _)); refine blk_put (cs := #[.int .i8 t319, .bool false]) ?_ 1 _ rfl; (with_reducible repeat (first | refine blk_drewN ?_ _ | refine blk_drew ?_ | refine blk_alloc ?_ _)); refine blk_put (cs := #[.int .i8 0, .bool false]) ?_ 0 _ rfl; (with_reducible repeat (first | refine blk_drewN ?_ _ | refine blk_drew ?_ | refine blk_alloc ?_ _)); exact BK323.out) hb); have n6_ := A_ (below_step (bs_ HB GE323) hb); clear HO302; clear HO312; clear BK293; clear BK294; clear BK309; clear BK323; clear HB; have HO302 := n0_; have HO312 := n1_; have BK293 := n2_; have BK294 := n3_; have BK309 := n4_; have BK323 := n5_; have HB := n6_; clear n0_ n1_ n2_ n3_ n4_ n5_ n6_; (try clear hb); (try clear hb2); (try clear hk); (try clear hi)))
     go_meet
     case rel => exact ⟨_, (true), rs_, H', ⟨by first | omega | exact Nat.le_refl _⟩, ⟨by (with_reducible repeat (first | apply Kd.R_alloc | apply Kd.R_drewN | apply Kd.R_drew)); exact Kd.R_mono HO312.out (fun _ hk => trivial)⟩, ⟨pl_ BK293⟩, ⟨pl_ BK294⟩, ⟨pl_ BK309⟩, ⟨pl_ BK323⟩, ⟨bl_ HB⟩⟩
   ·replace c40 := Bool.eq_false_iff.mpr c40
    subst c40
    have H1 : (laws_FnExactFollowPlan.j0 k l1 t310 true) = some r := by rw [if_neg (show ¬ (false = true) by decide)] at H; exact H
    clear H
    have H := H1
    clear H1
    have H' := Aside0.mk H
    clear H
    have hnb58 := NB323_293.out
    have hnc58 := NB293_323.out
    have hnb59 := NB323_294.out
    have hnc59 := NB294_323.out
    have hnb60 := NB323_309.out
    have hnc60 := NB309_323.out
    obtain ⟨hcz61_0, hcz61_1, hfz61_0, hfz61_1⟩ := cl2_ BK323
    have hnb62 := NB309_293.out
    have hnc62 := NB293_309.out
    have hnb63 := NB309_294.out
    have hnc63 := NB294_309.out
    obtain ⟨hcz64_0, hcz64_1, hfz64_0, hfz64_1⟩ := cl2_ BK309
    go_wp2_with (first | ((with_reducible refine gate_callee (f := 21) rfl ?_); refine goesL_ (some 45) rfl rfl Try.func21 (by kernel_rfl) rfl #[.agg #[.int .i8 t319, .bool t320], .agg #[.int .i8 t305, .bool t306]] rfl arg_ ?_; (with_reducible refine (laws_eqCase.calls t319 t320 t305 t306 false _ A39.out).mono ?_); rintro e w65 ⟨rfl, hb⟩; refine ⟨_, rfl, ?_⟩; have n0_ := A_ (Kd.R_below (by (with_reducible repeat (first | apply Kd.R_alloc | apply Kd.R_drewN | apply Kd.R_drew)); exact (rf2_ HO302 BK323 (by decide))) hb); have n1_ := A_ (Kd.R_below (by (with_reducible repeat (first | apply Kd.R_alloc | apply Kd.R_drewN | apply Kd.R_drew)); exact (rf2_ HO312 BK323 (by decide))) hb); have n2_ := A_ (blk_below (g := gb293) (o := .cells #[.int .i8 a0_0, .int .i8 a0_1, .bool a0_2, .bool a0_3] 24 (0, 0)) (pf_ BK293 NB293_323) hb); have n3_ := A_ (blk_below (g := gb294) (o := .cells #[.int .i8 a2_0, .bool a2_1] 42 (0, 0)) (pf_ BK294 NB294_323) hb); have n4_ := A_ (blk_below (g := gb309) (o := .cells #[.int .i8 t305, .bool t306] 43 (0, 0)) (pf_ BK309 NB309_323) hb); have n5_ := A_ (blk_below (g := gb323) (o := .cells #[.int .i8 t319, .bool t320] 43 (0, 0)) (by (with_reducible repeat (first | refine blk_drewN ?_ _ | refine blk_drew ?_ | refine blk_alloc ?_ _)); refine blk_put (cs := #[.int .i8 t319, .bool false]) ?_ 1 _ rfl; (with_reducible repeat (first | refine blk_drewN ?_ _ | refine blk_drew ?_ | refine blk_alloc ?_ _)); refine blk_put (cs := #[.int .i8 0, .bool false]) ?_ 0 _ rfl; (with_reducible repeat (first | refine blk_drewN ?_ _ | refine blk_drew ?_ | refine blk_alloc ?_ _)); exact BK323.out) hb); have n6_ := A_ (below_step (bs_ HB GE323) hb); clear HO302; clear HO312; clear BK293; clear BK294; clear BK309; clear BK323; clear HB; have HO302 := n0_; have HO312 := n1_; have BK293 := n2_; have BK294 := n3_; have BK309 := n4_; have BK323 := n5_; have HB := n6_; clear n0_ n1_ n2_ n3_ n4_ n5_ n6_; (try clear hb); (try clear hb2); (try clear hk); (try clear hi)))
    go_meet
    case rel => exact ⟨_, (true), rs_, H', ⟨by first | omega | exact Nat.le_refl _⟩, ⟨by (with_reducible repeat (first | apply Kd.R_alloc | apply Kd.R_drewN | apply Kd.R_drew)); exact Kd.R_mono HO312.out (fun _ hk => trivial)⟩, ⟨pl_ BK293⟩, ⟨pl_ BK294⟩, ⟨pl_ BK309⟩, ⟨pl_ BK323⟩, ⟨bl_ HB⟩⟩
  case rest =>
   clear HC16
   try clear c1
   try clear c2
   try clear p2
   try clear c4
   try clear c5
   try clear c6
   try clear c8
   try clear c19
   try clear c20
   try clear c21
   try clear c40
   try clear c41
   try clear c41b0
   try clear c41b1
   try clear c42
   try clear c43
   try clear c44
   try clear c46
   try clear c47
   try clear c50
   try clear c51
   try clear c52
   try clear c54
   try clear c55
   try clear c58
   try clear c59
   try clear c60
   try clear c62
   try clear c63
   try clear hcz45_0
   try clear hcz45_1
   try clear hcz48_0
   try clear hcz48_1
   try clear hcz53_0
   try clear hcz53_1
   try clear hcz56_0
   try clear hcz56_1
   try clear hcz61_0
   try clear hcz61_1
   try clear hcz64_0
   try clear hcz64_1
   try clear hfz45_0
   try clear hfz45_1
   try clear hfz48_0
   try clear hfz48_1
   try clear hfz53_0
   try clear hfz53_1
   try clear hfz56_0
   try clear hfz56_1
   try clear hfz61_0
   try clear hfz61_1
   try clear hfz64_0
   try clear hfz64_1
   obtain ⟨kq, x56_15, rfl, HA, HJ15, HO_11, BK293, BK294, BK309, BK323, HB⟩ := hcut
   cases kq with
   | zero => exact absurd HA.out (by simp [laws_FnExactFollowPlan.j0])
   | succ kj15 =>
    have H := HA.out
    clear HA
    simp only [laws_FnExactFollowPlan.j0] at H
    by_cases c66 : x56_15 = true
    ·subst c66
     have H1 : (some false) = some r := by rw [if_pos rfl] at H; exact H
     clear H
     have H := H1
     clear H1
     obtain rfl := Option.some.inj H
     go_wp2
     go_ret
     exact ⟨by first | rfl | (simp [errW_none, errW_some] <;> rfl) | (simp [*, errW_none, errW_some] <;> rfl), bl_ HB⟩
    ·replace c66 := Bool.eq_false_iff.mpr c66
     subst c66
     have H1 : ((laws_toNodeS.f kj15 l1).bind fun t325 => ((laws_eqNodeS.f kj15 t310 t325).bind fun t328 => (if t328 = true then (some true) else (some false)))) = some r := by rw [if_neg (show ¬ (false = true) by decide)] at H; exact H
     clear H
     have H := H1
     clear H1
     replace H := Option.bind_eq_some_iff.mp H
     obtain ⟨t325, A670, H⟩ := H
     replace H : ((laws_eqNodeS.f kj15 t310 t325).bind fun t328 => (if t328 = true then (some true) else (some false))) = some r := H
     have A67 := Aside0.mk A670
     clear A670
     replace H := Option.bind_eq_some_iff.mp H
     obtain ⟨t328, A680, H⟩ := H
     replace H : (if t328 = true then (some true) else (some false)) = some r := H
     have A68 := Aside0.mk A680
     clear A680
     by_cases c69 : t328 = true
     ·subst c69
      have H1 : (some true) = some r := by rw [if_pos rfl] at H; exact H
      clear H
      have H := H1
      clear H1
      obtain rfl := Option.some.inj H
      go_wp2_with (first | ((with_reducible refine gate_callee (f := 13) rfl ?_); refine goesL_ (some 59) rfl rfl Try.func13 (by kernel_rfl) rfl #[.slice A1 l1.length c1] rfl arg_ ?_; (with_reducible refine (laws_toNodeS.calls kj15 _ _ l1 t325 _ ?side1 ?side2 A67.out).mono ?_); (case side1 => exact Kd.C_below HR1.out (bl_ HB)); (case side2 => exact HC1.out); rintro e w70 ⟨v326, rfl, ho0, hb⟩; refine ⟨_, rfl, ?_⟩; have n0_ := A_ (Kd.R_elder' (pr_ HO_11) (Kd.R_base ho0) hb); have n1_ := A_ (Kd.R_lower (Kd.R_new' ho0 (Kd.R_lt (pr_ HO_11))) (below_size (bl_ HB))); have n2_ := A_ (blk_below (pl_ BK293) hb); have n3_ := A_ (blk_below (pl_ BK294) hb); have n4_ := A_ (blk_below (pl_ BK309) hb); have n5_ := A_ (blk_below (pl_ BK323) hb); have n6_ := A_ (below_step (bl_ HB) hb); clear HO_11; clear BK293; clear BK294; clear BK309; clear BK323; clear HB; have HO_11 := n0_; have HO327 := n1_; have BK293 := n2_; have BK294 := n3_; have BK309 := n4_; have BK323 := n5_; have HB := n6_; clear n0_ n1_ n2_ n3_ n4_ n5_ n6_; (try clear hb); (try clear hb2); (try clear hk); (try clear hi); (try clear ho0); obtain ⟨Ao71, co71, eo71⟩ := Kd.R_slice HO327.out; subst eo71) | ((with_reducible refine gate_callee (f := 15) rfl ?_); refine goesL_ (some 60) rfl rfl Try.func15 (by kernel_rfl) rfl #[.slice Ao30 t310.length co30, .slice Ao71 t325.length co71] rfl arg_ ?_; (with_reducible refine (laws_eqNodeS.calls kj15 _ _ t310 _ _ t325 true _ ?side1 ?side2 ?side3 ?side4 A68.out).mono ?_); (case side1 => repeat (first | exact (Kd.R_reads' HO_11.out).2.2 | (with_reducible refine Kd.C_alloc ?_ _) | (with_reducible refine Kd.C_drewN ?_ _) | (with_reducible refine Kd.C_drew ?_))); (case side2 => exact (Kd.R_reads' HO_11.out).2.1); (case side3 => repeat (first | exact (Kd.R_reads' HO327.out).2.2 | (with_reducible refine Kd.C_alloc ?_ _) | (with_reducible refine Kd.C_drewN ?_ _) | (with_reducible refine Kd.C_drew ?_))); (case side4 => exact (Kd.R_reads' HO327.out).2.1); rintro e w72 ⟨rfl, hb⟩; refine ⟨_, rfl, ?_⟩; have n0_ := A_ (Kd.R_below (pr_ HO_11) hb); have n1_ := A_ (Kd.R_below (pr_ HO327) hb); have n2_ := A_ (blk_below (pl_ BK293) hb); have n3_ := A_ (blk_below (pl_ BK294) hb); have n4_ := A_ (blk_below (pl_ BK309) hb); have n5_ := A_ (blk_below (pl_ BK323) hb); have n6_ := A_ (below_step (bl_ HB) hb); clear HO_11; clear HO327; clear BK293; clear BK294; clear BK309; clear BK323; clear HB; have HO_11 := n0_; have HO327 := n1_; have BK293 := n2_; have BK294 := n3_; have BK309 := n4_; have BK323 := n5_; have HB := n6_; clear n0_ n1_ n2_ n3_ n4_ n5_ n6_; (try clear hb); (try clear hb2); (try clear hk); (try clear hi)))
      go_ret
      exact ⟨by first | rfl | (simp [errW_none, errW_some] <;> rfl) | (simp [*, errW_none, errW_some] <;> rfl), bl_ HB⟩
     ·replace c69 := Bool.eq_false_iff.mpr c69
      subst c69
      have H1 : (some false) = some r := by rw [if_neg (show ¬ (false = true) by decide)] at H; exact H
      clear H
      have H := H1
      clear H1
      obtain rfl := Option.some.inj H
      go_wp2_with (first | ((with_reducible refine gate_callee (f := 13) rfl ?_); refine goesL_ (some 59) rfl rfl Try.func13 (by kernel_rfl) rfl #[.slice A1 l1.length c1] rfl arg_ ?_; (with_reducible refine (laws_toNodeS.calls kj15 _ _ l1 t325 _ ?side1 ?side2 A67.out).mono ?_); (case side1 => exact Kd.C_below HR1.out (bl_ HB)); (case side2 => exact HC1.out); rintro e w73 ⟨v326, rfl, ho0, hb⟩; refine ⟨_, rfl, ?_⟩; have n0_ := A_ (Kd.R_elder' (pr_ HO_11) (Kd.R_base ho0) hb); have n1_ := A_ (Kd.R_lower (Kd.R_new' ho0 (Kd.R_lt (pr_ HO_11))) (below_size (bl_ HB))); have n2_ := A_ (blk_below (pl_ BK293) hb); have n3_ := A_ (blk_below (pl_ BK294) hb); have n4_ := A_ (blk_below (pl_ BK309) hb); have n5_ := A_ (blk_below (pl_ BK323) hb); have n6_ := A_ (below_step (bl_ HB) hb); clear HO_11; clear BK293; clear BK294; clear BK309; clear BK323; clear HB; have HO_11 := n0_; have HO327 := n1_; have BK293 := n2_; have BK294 := n3_; have BK309 := n4_; have BK323 := n5_; have HB := n6_; clear n0_ n1_ n2_ n3_ n4_ n5_ n6_; (try clear hb); (try clear hb2); (try clear hk); (try clear hi); (try clear ho0); obtain ⟨Ao74, co74, eo74⟩ := Kd.R_slice HO327.out; subst eo74) | ((with_reducible refine gate_callee (f := 15) rfl ?_); refine goesL_ (some 60) rfl rfl Try.func15 (by kernel_rfl) rfl #[.slice Ao30 t310.length co30, .slice Ao74 t325.length co74] rfl arg_ ?_; (with_reducible refine (laws_eqNodeS.calls kj15 _ _ t310 _ _ t325 false _ ?side1 ?side2 ?side3 ?side4 A68.out).mono ?_); (case side1 => repeat (first | exact (Kd.R_reads' HO_11.out).2.2 | (with_reducible refine Kd.C_alloc ?_ _) | (with_reducible refine Kd.C_drewN ?_ _) | (with_reducible refine Kd.C_drew ?_))); (case side2 => exact (Kd.R_reads' HO_11.out).2.1); (case side3 => repeat (first | exact (Kd.R_reads' HO327.out).2.2 | (with_reducible refine Kd.C_alloc ?_ _) | (with_reducible refine Kd.C_drewN ?_ _) | (with_reducible refine Kd.C_drew ?_))); (case side4 => exact (Kd.R_reads' HO327.out).2.1); rintro e w75 ⟨rfl, hb⟩; refine ⟨_, rfl, ?_⟩; have n0_ := A_ (Kd.R_below (pr_ HO_11) hb); have n1_ := A_ (Kd.R_below (pr_ HO327) hb); have n2_ := A_ (blk_below (pl_ BK293) hb); have n3_ := A_ (blk_below (pl_ BK294) hb); have n4_ := A_ (blk_below (pl_ BK309) hb); have n5_ := A_ (blk_below (pl_ BK323) hb); have n6_ := A_ (below_step (bl_ HB) hb); clear HO_11; clear HO327; clear BK293; clear BK294; clear BK309; clear BK323; clear HB; have HO_11 := n0_; have HO327 := n1_; have BK293 := n2_; have BK294 := n3_; have BK309 := n4_; have BK323 := n5_; have HB := n6_; clear n0_ n1_ n2_ n3_ n4_ n5_ n6_; (try clear hb); (try clear hb2); (try clear hk); (try clear hi)))
      go_ret
      exact ⟨by first | rfl | (simp [errW_none, errW_some] <;> rfl) | (simp [*, errW_none, errW_some] <;> rfl), bl_ HB⟩

end Go.Proofs.Ytcghglembmohcaa.M
