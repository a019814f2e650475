-- By this seat's own program over the kit's printer (arrays, functions told by hand); nothing of it is trusted: the kernel checks it.
import Derived.Test.YtkieplebdbdigaaMx0
import Derived.Test.YtkieplebdbdigaaMx1
import Derived.Test.YtkieplebdbdigaaMx3
import Derived.Test.YtkieplebdbdigaaMx4
import Derived.Test.YtkieplebdbdigaaMx7
import Derived.Test.YtkieplebdbdigaaMx10
import Derived.Test.YtkieplebdbdigaaMx11
namespace Go.Proofs.Ytkieplebdbdigaa.M
open Go.RowKit Go.Proofs.YtkieplebdbdigaaW.PrintWords Go.Proofs.YtkieplebdbdigaaW.PrintLast Go.Proofs.YtkieplebdbdigaaW.PrintMore
attribute [local go_sem] max2_int min2_int max_two min_two max_three min_three max_four min_four   -- for this text's walks alone
set_option linter.unusedVariables false
set_option linter.unusedSimpArgs false

/-! ### laws_FnExactDropWord: function 3 -/
mutual
def laws_FnExactDropWord.j0 : Nat → Int → Int → Int → Bool → Int → Int → List (S36) → Int → Int → List (S41) → Int → Int → List (S41) → Int → Int → List (S41) → Option (Bool)
 | 0, _, _, _, _, _, _, _, _, _, _, _, _, _, _, _, _ => none
 | k + 1, x1, x7, x10, x44, x205000, x205001, x205002, x218000, x218001, x218002, x224000, x224001, x224002, x231000, x231001, x231002 => if x44 = true then (some false) else ((laws_toFixed.f k x205000 x205001 x205002).bind fun bt232 => ((laws_eqFixed.f k x224000 x224001 x224002 bt232.1 bt232.2.1 bt232.2.2).bind fun t237 => (if t237 = true then ((laws_markFixed.f k x224000 x224001 x224002 1).bind fun bt238 => (if bt238.1 < 0 then (laws_FnExactDropWord.j1 k x1 x7 true x205000 x205001 x205002 x218000 x218001 x218002 x231000 x231001 x231002) else ((laws_eqFixed.f k x231000 x231001 x231002 x218000 x218001 x218002).bind fun t240 => (if t240 = true then (laws_FnExactDropWord.j1 k x1 x7 (x10 != x7) x205000 x205001 x205002 x218000 x218001 x218002 x231000 x231001 x231002) else (laws_FnExactDropWord.j1 k x1 x7 true x205000 x205001 x205002 x218000 x218001 x218002 x231000 x231001 x231002))))) else (some false))))
def laws_FnExactDropWord.j1 : Nat → Int → Int → Bool → Int → Int → List (S36) → Int → Int → List (S41) → Int → Int → List (S41) → Option (Bool)
 | 0, _, _, _, _, _, _, _, _, _, _, _, _ => none
 | k + 1, x1, x7, x65, x205000, x205001, x205002, x218000, x218001, x218002, x231000, x231001, x231002 => if x65 = true then (some false) else ((laws_markFixed.f k x231000 x231001 x231002 1).bind fun bt241 => ((laws_heldFixed.f k x231000 x231001 bt241.2 1).bind fun t243 => (if t243 < 0 then (some false) else (if t243 = bt241.1 then ((laws_toFixed.f k x205000 x205001 x205002).bind fun bt244 => ((impl_DropWord.f k bt244.1 bt244.2.1 bt244.2.2 x1).bind fun bt249 => ((laws_eqFixed.f k bt249.1 bt249.2.1 bt249.2.2.1 x218000 x218001 x218002).bind fun t256 => (if t256 = true then (laws_FnExactDropWord.j2 k bt241.1 (bt249.2.2.2 != x7) x231000 x231001 bt241.2) else (laws_FnExactDropWord.j2 k bt241.1 true x231000 x231001 bt241.2))))) else (some false)))))
def laws_FnExactDropWord.j2 : Nat → Int → Bool → Int → Int → List (S41) → Option (Bool)
 | 0, _, _, _, _, _ => none
 | k + 1, x12, x92, x231000, x231001, x231002 => if x92 = true then (some false) else ((laws_heldFixed.f k x231000 x231001 x231002 1).bind fun t257 => (if t257 < 0 then (some false) else (if t257 = x12 then (some true) else (some false))))
end
def laws_FnExactDropWord.f (k : Nat) (a0_0 : Int) (a0_1 : Int) (l0_2 : List (S36)) (a1 : Int) : Option (Bool) := (laws_szFixed.f a0_0 a0_1 l0_2 1048576).bind fun t205 => (if t205 < 0 then (some true) else ((laws_toFixed.f k a0_0 a0_1 l0_2).bind fun bt206 => ((spec_DropWord.f k bt206.1 bt206.2.1 bt206.2.2 a1).bind fun bt211 => ((laws_toFixed.f k a0_0 a0_1 l0_2).bind fun bt218 => ((impl_DropWord.f k bt218.1 bt218.2.1 bt218.2.2 a1).bind fun bt224 => ((laws_eqFixed.f k bt224.1 bt224.2.1 bt224.2.2.1 bt211.1 bt211.2.1 bt211.2.2.1).bind fun t231 => (if t231 = true then (laws_FnExactDropWord.j0 k a1 bt211.2.2.2 bt224.2.2.2 (bt224.2.2.2 != bt211.2.2.2) a0_0 a0_1 l0_2 bt211.1 bt211.2.1 bt211.2.2.1 bt218.1 bt218.2.1 bt218.2.2 bt224.1 bt224.2.1 bt224.2.2.1) else (laws_FnExactDropWord.j0 k a1 bt211.2.2.2 bt224.2.2.2 true a0_0 a0_1 l0_2 bt211.1 bt211.2.1 bt211.2.2.1 bt218.1 bt218.2.1 bt218.2.2 bt224.1 bt224.2.1 bt224.2.2.1))))))))
theorem laws_FnExactDropWord.mono_l : ∀ k, (∀ y0 y1 y2 y3 y4 y5 y6 y7 y8 y9 y10 y11 y12 y13 y14 y15, LeO (laws_FnExactDropWord.j0 k y0 y1 y2 y3 y4 y5 y6 y7 y8 y9 y10 y11 y12 y13 y14 y15) (laws_FnExactDropWord.j0 (k + 1) y0 y1 y2 y3 y4 y5 y6 y7 y8 y9 y10 y11 y12 y13 y14 y15)) ∧ (∀ y0 y1 y2 y3 y4 y5 y6 y7 y8 y9 y10 y11, LeO (laws_FnExactDropWord.j1 k y0 y1 y2 y3 y4 y5 y6 y7 y8 y9 y10 y11) (laws_FnExactDropWord.j1 (k + 1) y0 y1 y2 y3 y4 y5 y6 y7 y8 y9 y10 y11)) ∧ (∀ y0 y1 y2 y3 y4, LeO (laws_FnExactDropWord.j2 k y0 y1 y2 y3 y4) (laws_FnExactDropWord.j2 (k + 1) y0 y1 y2 y3 y4))
 | 0 => ⟨fun _ _ _ _ _ _ _ _ _ _ _ _ _ _ _ _ r h => by simp [laws_FnExactDropWord.j0] at h, fun _ _ _ _ _ _ _ _ _ _ _ _ r h => by simp [laws_FnExactDropWord.j1] at h, fun _ _ _ _ _ r h => by simp [laws_FnExactDropWord.j2] at h⟩
 | k + 1 => by
  obtain ⟨ih0, ih1, ih2⟩ := laws_FnExactDropWord.mono_l k
  refine ⟨?_, ?_, ?_⟩
  ·intro y0 y1 y2 y3 y4 y5 y6 y7 y8 y9 y10 y11 y12 y13 y14 y15
   unfold laws_FnExactDropWord.j0
   repeat' first
   | (with_reducible exact ih0 _ _ _ _ _ _ _ _ _ _ _ _ _ _ _ _)
   | (with_reducible exact ih1 _ _ _ _ _ _ _ _ _ _ _ _)
   | (with_reducible exact ih2 _ _ _ _ _)
   | (with_reducible exact impl_DropWord.mono _ _ _ _ _)
   | (with_reducible exact laws_eqFixed.mono _ _ _ _ _ _ _)
   | (with_reducible exact laws_heldFixed.mono _ _ _ _ _)
   | (with_reducible exact laws_markFixed.mono _ _ _ _ _)
   | (with_reducible exact laws_toFixed.mono _ _ _ _)
   | (with_reducible exact spec_DropWord.mono _ _ _ _ _)
   | (with_reducible exact LeO.refl _)
   | (with_reducible exact LeO.none _)
   | (with_reducible refine LeO.ite ?_ ?_)
   | (with_reducible refine LeO.bind ?_ (fun _ => ?_))
   | exact ih0 _ _ _ _ _ _ _ _ _ _ _ _ _ _ _ _
   | exact ih1 _ _ _ _ _ _ _ _ _ _ _ _
   | exact ih2 _ _ _ _ _
   | exact impl_DropWord.mono _ _ _ _ _
   | exact laws_eqFixed.mono _ _ _ _ _ _ _
   | exact laws_heldFixed.mono _ _ _ _ _
   | exact laws_markFixed.mono _ _ _ _ _
   | exact laws_toFixed.mono _ _ _ _
   | exact spec_DropWord.mono _ _ _ _ _
   | exact LeO.none _
   | refine LeO.ite ?_ ?_
   | refine LeO.bind ?_ (fun _ => ?_)
  ·intro y0 y1 y2 y3 y4 y5 y6 y7 y8 y9 y10 y11
   unfold laws_FnExactDropWord.j1
   repeat' first
   | (with_reducible exact ih0 _ _ _ _ _ _ _ _ _ _ _ _ _ _ _ _)
   | (with_reducible exact ih1 _ _ _ _ _ _ _ _ _ _ _ _)
   | (with_reducible exact ih2 _ _ _ _ _)
   | (with_reducible exact impl_DropWord.mono _ _ _ _ _)
   | (with_reducible exact laws_eqFixed.mono _ _ _ _ _ _ _)
   | (with_reducible exact laws_heldFixed.mono _ _ _ _ _)
   | (with_reducible exact laws_markFixed.mono _ _ _ _ _)
   | (with_reducible exact laws_toFixed.mono _ _ _ _)
   | (with_reducible exact spec_DropWord.mono _ _ _ _ _)
   | (with_reducible exact LeO.refl _)
   | (with_reducible exact LeO.none _)
   | (with_reducible refine LeO.ite ?_ ?_)
   | (with_reducible refine LeO.bind ?_ (fun _ => ?_))
   | exact ih0 _ _ _ _ _ _ _ _ _ _ _ _ _ _ _ _
   | exact ih1 _ _ _ _ _ _ _ _ _ _ _ _
   | exact ih2 _ _ _ _ _
   | exact impl_DropWord.mono _ _ _ _ _
   | exact laws_eqFixed.mono _ _ _ _ _ _ _
   | exact laws_heldFixed.mono _ _ _ _ _
   | exact laws_markFixed.mono _ _ _ _ _
   | exact laws_toFixed.mono _ _ _ _
   | exact spec_DropWord.mono _ _ _ _ _
   | exact LeO.none _
   | refine LeO.ite ?_ ?_
   | refine LeO.bind ?_ (fun _ => ?_)
  ·intro y0 y1 y2 y3 y4
   unfold laws_FnExactDropWord.j2
   repeat' first
   | (with_reducible exact ih0 _ _ _ _ _ _ _ _ _ _ _ _ _ _ _ _)
   | (with_reducible exact ih1 _ _ _ _ _ _ _ _ _ _ _ _)
   | (with_reducible exact ih2 _ _ _ _ _)
   | (with_reducible exact impl_DropWord.mono _ _ _ _ _)
   | (with_reducible exact laws_eqFixed.mono _ _ _ _ _ _ _)
   | (with_reducible exact laws_heldFixed.mono _ _ _ _ _)
   | (with_reducible exact laws_markFixed.mono _ _ _ _ _)
   | (with_reducible exact laws_toFixed.mono _ _ _ _)
   | (with_reducible exact spec_DropWord.mono _ _ _ _ _)
   | (with_reducible exact LeO.refl _)
   | (with_reducible exact LeO.none _)
   | (with_reducible refine LeO.ite ?_ ?_)
   | (with_reducible refine LeO.bind ?_ (fun _ => ?_))
   | exact ih0 _ _ _ _ _ _ _ _ _ _ _ _ _ _ _ _
   | exact ih1 _ _ _ _ _ _ _ _ _ _ _ _
   | exact ih2 _ _ _ _ _
   | exact impl_DropWord.mono _ _ _ _ _
   | exact laws_eqFixed.mono _ _ _ _ _ _ _
   | exact laws_heldFixed.mono _ _ _ _ _
   | exact laws_markFixed.mono _ _ _ _ _
   | exact laws_toFixed.mono _ _ _ _
   | exact spec_DropWord.mono _ _ _ _ _
   | exact LeO.none _
   | refine LeO.ite ?_ ?_
   | refine LeO.bind ?_ (fun _ => ?_)
theorem laws_FnExactDropWord.mono : ∀ a0 a1 a2 a3 k, LeO (laws_FnExactDropWord.f k a0 a1 a2 a3) (laws_FnExactDropWord.f (k + 1) a0 a1 a2 a3) := by
 intro a0 a1 a2 a3 k
 obtain ⟨ih0, ih1, ih2⟩ := laws_FnExactDropWord.mono_l k
 unfold laws_FnExactDropWord.f
 repeat' first
   | (with_reducible exact ih0 _ _ _ _ _ _ _ _ _ _ _ _ _ _ _ _)
   | (with_reducible exact ih1 _ _ _ _ _ _ _ _ _ _ _ _)
   | (with_reducible exact ih2 _ _ _ _ _)
   | (with_reducible exact impl_DropWord.mono _ _ _ _ _)
   | (with_reducible exact laws_eqFixed.mono _ _ _ _ _ _ _)
   | (with_reducible exact laws_heldFixed.mono _ _ _ _ _)
   | (with_reducible exact laws_markFixed.mono _ _ _ _ _)
   | (with_reducible exact laws_toFixed.mono _ _ _ _)
   | (with_reducible exact spec_DropWord.mono _ _ _ _ _)
   | (with_reducible exact LeO.refl _)
   | (with_reducible exact LeO.none _)
   | (with_reducible refine LeO.ite ?_ ?_)
   | (with_reducible refine LeO.bind ?_ (fun _ => ?_))
   | exact ih0 _ _ _ _ _ _ _ _ _ _ _ _ _ _ _ _
   | exact ih1 _ _ _ _ _ _ _ _ _ _ _ _
   | exact ih2 _ _ _ _ _
   | exact impl_DropWord.mono _ _ _ _ _
   | exact laws_eqFixed.mono _ _ _ _ _ _ _
   | exact laws_heldFixed.mono _ _ _ _ _
   | exact laws_markFixed.mono _ _ _ _ _
   | exact laws_toFixed.mono _ _ _ _
   | exact spec_DropWord.mono _ _ _ _ _
   | exact LeO.none _
   | refine LeO.ite ?_ ?_
   | refine LeO.bind ?_ (fun _ => ?_)
set_option maxHeartbeats 8000000 in
set_option maxRecDepth 100000 in
theorem laws_FnExactDropWord.calls (k : Nat) (a0_0 : Int) (a0_1 : Int) (A0_2 : Option Addr) (c0_2 : Nat) (l0_2 : List (S36)) (a1 : Int) (r : Bool) (w : World) (hr0_2 : Kd.C k36 w A0_2 l0_2.length l0_2) (hc0_2 : l0_2.length ≤ c0_2) (h : laws_FnExactDropWord.f k a0_0 a0_1 l0_2 a1 = some r) :
  Calls Try.prog 3 #[.agg #[.int .i8 a0_0, .int .i8 a0_1, .slice A0_2 l0_2.length c0_2], .int .i64 a1] w fun e w' => e = .returned (.bool r) ∧ Below w.heap.size w w' := by
 have hu25 := Try.underlying25
 have hu29 := Try.underlying29
 have HR0_2 := Aside0.mk hr0_2
 have HC0_2 := Aside0.mk hc0_2
 clear hr0_2 hc0_2
 have HB := A_ (Below.refl w.heap.size w)
 have H : ((laws_szFixed.f a0_0 a0_1 l0_2 1048576).bind fun t205 => (if t205 < 0 then (some true) else ((laws_toFixed.f k a0_0 a0_1 l0_2).bind fun bt206 => ((spec_DropWord.f k bt206.1 bt206.2.1 bt206.2.2 a1).bind fun bt211 => ((laws_toFixed.f k a0_0 a0_1 l0_2).bind fun bt218 => ((impl_DropWord.f k bt218.1 bt218.2.1 bt218.2.2 a1).bind fun bt224 => ((laws_eqFixed.f k bt224.1 bt224.2.1 bt224.2.2.1 bt211.1 bt211.2.1 bt211.2.2.1).bind fun t231 => (if t231 = true then (laws_FnExactDropWord.j0 k a1 bt211.2.2.2 bt224.2.2.2 (bt224.2.2.2 != bt211.2.2.2) a0_0 a0_1 l0_2 bt211.1 bt211.2.1 bt211.2.2.1 bt218.1 bt218.2.1 bt218.2.2 bt224.1 bt224.2.1 bt224.2.2.1) else (laws_FnExactDropWord.j0 k a1 bt211.2.2.2 bt224.2.2.2 true a0_0 a0_1 l0_2 bt211.1 bt211.2.1 bt211.2.2.1 bt218.1 bt218.2.1 bt218.2.2 bt224.1 bt224.2.1 bt224.2.2.1))))))))) = some r := h
 clear h
 replace H := Option.bind_eq_some_iff.mp H
 obtain ⟨t205, A30, H⟩ := H
 replace H : (if t205 < 0 then (some true) else ((laws_toFixed.f k a0_0 a0_1 l0_2).bind fun bt206 => ((spec_DropWord.f k bt206.1 bt206.2.1 bt206.2.2 a1).bind fun bt211 => ((laws_toFixed.f k a0_0 a0_1 l0_2).bind fun bt218 => ((impl_DropWord.f k bt218.1 bt218.2.1 bt218.2.2 a1).bind fun bt224 => ((laws_eqFixed.f k bt224.1 bt224.2.1 bt224.2.2.1 bt211.1 bt211.2.1 bt211.2.2.1).bind fun t231 => (if t231 = true then (laws_FnExactDropWord.j0 k a1 bt211.2.2.2 bt224.2.2.2 (bt224.2.2.2 != bt211.2.2.2) a0_0 a0_1 l0_2 bt211.1 bt211.2.1 bt211.2.2.1 bt218.1 bt218.2.1 bt218.2.2 bt224.1 bt224.2.1 bt224.2.2.1) else (laws_FnExactDropWord.j0 k a1 bt211.2.2.2 bt224.2.2.2 true a0_0 a0_1 l0_2 bt211.1 bt211.2.1 bt211.2.2.1 bt218.1 bt218.2.1 bt218.2.2 bt224.1 bt224.2.1 bt224.2.2.1)))))))) = some r := H
 have A3 := Aside0.mk A30
 clear A30
 by_cases c4 : t205 < 0
 ·rw [if_pos c4] at H
  have c4b0 : decide (t205 < 0) = true := decide_eq_true c4
  clear c4
  obtain rfl := Option.some.inj H
  go_enter Try.func3, Try.ntmps3
  go_wp2_with (first | ((with_reducible refine gate_dst (N := 2) rfl ?_); refine box_event ?hg (N := 2) ?hd (cs := #[.int .i8 a0_0, .int .i8 a0_1, .slice A0_2 l0_2.length c0_2]) (t := 25) ?hr ?_; (case hd => rfl); (case hg => rfl); (case hr => first | (go_simp; done) | (go_simp; rfl)); intro gb204 hg w5 hbox hb; have n0_ := A_ (below_step (bl_ HB) hb); have n1_ := A_ (hbox); have n2_ := A_ ((by rw [hg]; exact (below_size (bl_ HB)) : w.heap.size ≤ gb204)); have n3_ := n2_; clear HB; have HB := n0_; have BK204 := n1_; have GW204 := n2_; have GE204 := n3_; clear n0_ n1_ n2_ n3_; clear hb hbox hg; obtain ⟨hcz6_0, hcz6_1, hcz6_2, hfz6_0, hfz6_1, hfz6_2⟩ := cl3_ BK204) | ((with_reducible refine gate_callee (f := 5) rfl ?_); refine goesL_ (some 18) rfl rfl Try.func5 (by kernel_rfl) rfl #[.agg #[.int .i8 a0_0, .int .i8 a0_1, .slice A0_2 l0_2.length c0_2], .int .i64 1048576] rfl arg_ ?_; (with_reducible refine (laws_szFixed.calls a0_0 a0_1 _ _ l0_2 1048576 t205 _ ?side1 ?side2 A3.out).mono ?_); (case side1 => exact Kd.C_below HR0_2.out (bl_ HB)); (case side2 => exact HC0_2.out); rintro e w7 ⟨rfl, hb⟩; refine ⟨_, rfl, ?_⟩; have n0_ := A_ (blk_below (pl_ BK204) hb); have n1_ := A_ (below_step (bl_ HB) hb); clear BK204; clear HB; have BK204 := n0_; have HB := n1_; clear n0_ n1_; (try clear hb); (try clear hb2); (try clear hk); (try clear hi)))
  go_ret
  exact ⟨by first | rfl | (simp [errW_none, errW_some] <;> rfl) | (simp [*, errW_none, errW_some] <;> rfl), bl_ HB⟩
 ·rw [if_neg c4] at H
  have c4b0 : decide (t205 < 0) = false := decide_eq_false c4
  clear c4
  replace H := Option.bind_eq_some_iff.mp H
  obtain ⟨⟨t206, t207, t208⟩, A80, H⟩ := H
  replace H : ((spec_DropWord.f k t206 t207 t208 a1).bind fun bt211 => ((laws_toFixed.f k a0_0 a0_1 l0_2).bind fun bt218 => ((impl_DropWord.f k bt218.1 bt218.2.1 bt218.2.2 a1).bind fun bt224 => ((laws_eqFixed.f k bt224.1 bt224.2.1 bt224.2.2.1 bt211.1 bt211.2.1 bt211.2.2.1).bind fun t231 => (if t231 = true then (laws_FnExactDropWord.j0 k a1 bt211.2.2.2 bt224.2.2.2 (bt224.2.2.2 != bt211.2.2.2) a0_0 a0_1 l0_2 bt211.1 bt211.2.1 bt211.2.2.1 bt218.1 bt218.2.1 bt218.2.2 bt224.1 bt224.2.1 bt224.2.2.1) else (laws_FnExactDropWord.j0 k a1 bt211.2.2.2 bt224.2.2.2 true a0_0 a0_1 l0_2 bt211.1 bt211.2.1 bt211.2.2.1 bt218.1 bt218.2.1 bt218.2.2 bt224.1 bt224.2.1 bt224.2.2.1)))))) = some r := H
  have A8 := Aside0.mk A80
  clear A80
  replace H := Option.bind_eq_some_iff.mp H
  obtain ⟨⟨t211, t212, t213, t216⟩, A90, H⟩ := H
  replace H : ((laws_toFixed.f k a0_0 a0_1 l0_2).bind fun bt218 => ((impl_DropWord.f k bt218.1 bt218.2.1 bt218.2.2 a1).bind fun bt224 => ((laws_eqFixed.f k bt224.1 bt224.2.1 bt224.2.2.1 t211 t212 t213).bind fun t231 => (if t231 = true then (laws_FnExactDropWord.j0 k a1 t216 bt224.2.2.2 (bt224.2.2.2 != t216) a0_0 a0_1 l0_2 t211 t212 t213 bt218.1 bt218.2.1 bt218.2.2 bt224.1 bt224.2.1 bt224.2.2.1) else (laws_FnExactDropWord.j0 k a1 t216 bt224.2.2.2 true a0_0 a0_1 l0_2 t211 t212 t213 bt218.1 bt218.2.1 bt218.2.2 bt224.1 bt224.2.1 bt224.2.2.1))))) = some r := H
  have A9 := Aside0.mk A90
  clear A90
  replace H := Option.bind_eq_some_iff.mp H
  obtain ⟨⟨t218, t219, t220⟩, A100, H⟩ := H
  replace H : ((impl_DropWord.f k t218 t219 t220 a1).bind fun bt224 => ((laws_eqFixed.f k bt224.1 bt224.2.1 bt224.2.2.1 t211 t212 t213).bind fun t231 => (if t231 = true then (laws_FnExactDropWord.j0 k a1 t216 bt224.2.2.2 (bt224.2.2.2 != t216) a0_0 a0_1 l0_2 t211 t212 t213 t218 t219 t220 bt224.1 bt224.2.1 bt224.2.2.1) else (laws_FnExactDropWord.j0 k a1 t216 bt224.2.2.2 true a0_0 a0_1 l0_2 t211 t212 t213 t218 t219 t220 bt224.1 bt224.2.1 bt224.2.2.1)))) = some r := H
  have A10 := Aside0.mk A100
  clear A100
  replace H := Option.bind_eq_some_iff.mp H
  obtain ⟨⟨t224, t225, t226, t229⟩, A110, H⟩ := H
  replace H : ((laws_eqFixed.f k t224 t225 t226 t211 t212 t213).bind fun t231 => (if t231 = true then (laws_FnExactDropWord.j0 k a1 t216 t229 (t229 != t216) a0_0 a0_1 l0_2 t211 t212 t213 t218 t219 t220 t224 t225 t226) else (laws_FnExactDropWord.j0 k a1 t216 t229 true a0_0 a0_1 l0_2 t211 t212 t213 t218 t219 t220 t224 t225 t226))) = some r := H
  have A11 := Aside0.mk A110
  clear A110
  have HC12 := Aside0.mk H
  clear H
  go_enter Try.func3, Try.ntmps3
  go_upto_region 8 with (first | ((with_reducible refine gate_dst (N := 2) rfl ?_); refine box_event ?hg (N := 2) ?hd (cs := #[.int .i8 a0_0, .int .i8 a0_1, .slice A0_2 l0_2.length c0_2]) (t := 25) ?hr ?_; (case hd => rfl); (case hg => rfl); (case hr => first | (go_simp; done) | (go_simp; rfl)); intro gb204 hg w13 hbox hb; have n0_ := A_ (below_step (bl_ HB) hb); have n1_ := A_ (hbox); have n2_ := A_ ((by rw [hg]; exact (below_size (bl_ HB)) : w.heap.size ≤ gb204)); have n3_ := n2_; clear HB; have HB := n0_; have BK204 := n1_; have GW204 := n2_; have GE204 := n3_; clear n0_ n1_ n2_ n3_; clear hb hbox hg; obtain ⟨hcz14_0, hcz14_1, hcz14_2, hfz14_0, hfz14_1, hfz14_2⟩ := cl3_ BK204) | ((with_reducible refine gate_callee (f := 5) rfl ?_); refine goesL_ (some 18) rfl rfl Try.func5 (by kernel_rfl) rfl #[.agg #[.int .i8 a0_0, .int .i8 a0_1, .slice A0_2 l0_2.length c0_2], .int .i64 1048576] rfl arg_ ?_; (with_reducible refine (laws_szFixed.calls a0_0 a0_1 _ _ l0_2 1048576 t205 _ ?side1 ?side2 A3.out).mono ?_); (case side1 => exact Kd.C_below HR0_2.out (bl_ HB)); (case side2 => exact HC0_2.out); rintro e w15 ⟨rfl, hb⟩; refine ⟨_, rfl, ?_⟩; have n0_ := A_ (blk_below (pl_ BK204) hb); have n1_ := A_ (below_step (bl_ HB) hb); clear BK204; clear HB; have BK204 := n0_; have HB := n1_; clear n0_ n1_; (try clear hb); (try clear hb2); (try clear hk); (try clear hi); obtain ⟨hcz16_0, hcz16_1, hcz16_2, hfz16_0, hfz16_1, hfz16_2⟩ := cl3_ BK204) | ((with_reducible refine gate_callee (f := 7) rfl ?_); refine goesL_ (some 23) rfl rfl Try.func7 (by kernel_rfl) rfl #[.agg #[.int .i8 a0_0, .int .i8 a0_1, .slice A0_2 l0_2.length c0_2]] rfl arg_ ?_; (with_reducible refine (laws_toFixed.calls k a0_0 a0_1 _ _ l0_2 t206 t207 t208 _ ?side1 ?side2 A8.out).mono ?_); (case side1 => exact Kd.C_below HR0_2.out (bl_ HB)); (case side2 => exact HC0_2.out); rintro e w17 ⟨v209, rfl, ho0, hb⟩; refine ⟨_, rfl, ?_⟩; have n0_ := A_ (Kd.R_lower ho0 (below_size (bl_ HB))); have n1_ := A_ (blk_below (pl_ BK204) hb); have n2_ := A_ (below_step (bl_ HB) hb); clear BK204; clear HB; have HO210 := n0_; have BK204 := n1_; have HB := n2_; clear n0_ n1_ n2_; (try clear hb); (try clear hb2); (try clear hk); (try clear hi); (try clear ho0); obtain ⟨Ao18, co18, eo18⟩ := Kd.R_slice HO210.out; subst eo18) | ((with_reducible refine gate_callee (f := 6) rfl ?_); refine goesL_ (some 25) rfl rfl Try.func6 (by kernel_rfl) rfl #[.agg #[.int .i8 t206, .int .i8 t207, .slice Ao18 t208.length co18], .int .i64 a1] rfl arg_ ?_; (with_reducible refine (spec_DropWord.calls k t206 t207 _ _ t208 a1 t211 t212 t213 t216 _ ?side1 ?side2 A9.out).mono ?_); (case side1 => repeat (first | exact (Kd.R_reads' HO210.out).2.2 | (with_reducible refine Kd.C_alloc ?_ _) | (with_reducible refine Kd.C_drewN ?_ _) | (with_reducible refine Kd.C_drew ?_))); (case side2 => exact (Kd.R_reads' HO210.out).2.1); rintro e w19 ⟨v214, rfl, ho0, hb⟩; refine ⟨_, rfl, ?_⟩; have n0_ := A_ (Kd.R_elder' (pr_ HO210) (Kd.R_base ho0) hb); have n1_ := A_ (Kd.R_lower (Kd.R_new' ho0 (Kd.R_lt (pr_ HO210))) (below_size (bl_ HB))); have n2_ := A_ (blk_below (pl_ BK204) hb); have n3_ := A_ (below_step (bl_ HB) hb); clear HO210; clear BK204; clear HB; have HO210 := n0_; have HO215 := n1_; have BK204 := n2_; have HB := n3_; clear n0_ n1_ n2_ n3_; (try clear hb); (try clear hb2); (try clear hk); (try clear hi); (try clear ho0)) | ((with_reducible refine gate_dst (N := 6) rfl ?_); refine box_event ?hg (N := 6) ?hd (cs := #[.int .i8 0, .int .i8 0, .slice none 0 0]) (t := 29) ?hr ?_; (case hd => rfl); (case hg => rfl); (case hr => first | (go_simp; done) | (go_simp; rfl)); intro gb217 hg w20 hbox hb; have n0_ := A_ (Kd.R_below (pr_ HO210) hb); have n1_ := A_ (Kd.R_below (pr_ HO215) hb); have n2_ := A_ (blk_below (pl_ BK204) hb); have n3_ := A_ (below_step (bl_ HB) hb); have n4_ := A_ (hbox); have n5_ := A_ ((by rw [hg]; exact (below_size (bl_ HB)) : w.heap.size ≤ gb217)); have n6_ := n5_; have n7_ := A_ ((by rw [hg]; exact Nat.ne_of_lt (blk_lt (pl_ BK204)) : gb204 ≠ gb217)); have n8_ := Aside0.mk n7_.out.symm; clear HO210; clear HO215; clear BK204; clear HB; have HO210 := n0_; have HO215 := n1_; have BK204 := n2_; have HB := n3_; have BK217 := n4_; have GW217 := n5_; have GE217 := n6_; have NB204_217 := n7_; have NB217_204 := n8_; clear n0_ n1_ n2_ n3_ n4_ n5_ n6_ n7_ n8_; clear hb hbox hg; have hnb21 := NB217_204.out; have hnc21 := NB204_217.out; obtain ⟨hcz22_0, hcz22_1, hcz22_2, hfz22_0, hfz22_1, hfz22_2⟩ := cl3_ BK217; obtain ⟨Ao23, co23, eo23⟩ := Kd.R_slice HO215.out; subst eo23; obtain ⟨hcz24_0, hcz24_1, hcz24_2, hfz24_0, hfz24_1, hfz24_2⟩ := cl3_ BK204) | ((with_reducible refine gate_callee (f := 7) rfl ?_); refine goesL_ (some 29) rfl rfl Try.func7 (by kernel_rfl) rfl #[.agg #[.int .i8 a0_0, .int .i8 a0_1, .slice A0_2 l0_2.length c0_2]] rfl arg_ ?_; (with_reducible refine (laws_toFixed.calls k a0_0 a0_1 _ _ l0_2 t218 t219 t220 _ ?side1 ?side2 A10.out).mono ?_); (case side1 => exact Kd.C_below HR0_2.out (bs_ HB GE217)); (case side2 => exact HC0_2.out); rintro e w25 ⟨v221, rfl, ho0, hb⟩; refine ⟨_, rfl, ?_⟩; have n0_ := A_ (Kd.R_elder' (by (with_reducible repeat (first | apply Kd.R_alloc | apply Kd.R_drewN | apply Kd.R_drew)); exact (rf3_ HO210 BK217 (by decide))) (Kd.R_base ho0) hb); have n1_ := A_ (Kd.R_elder' (by (with_reducible repeat (first | apply Kd.R_alloc | apply Kd.R_drewN | apply Kd.R_drew)); exact (rf3_ HO215 BK217 (by decide))) (Kd.R_base ho0) hb); have n2_ := A_ (Kd.R_lower (Kd.R_new' (Kd.R_new' ho0 (Kd.R_lt (by (with_reducible repeat (first | apply Kd.R_alloc | apply Kd.R_drewN | apply Kd.R_drew)); exact (rf3_ HO210 BK217 (by decide))))) (Kd.R_lt (by (with_reducible repeat (first | apply Kd.R_alloc | apply Kd.R_drewN | apply Kd.R_drew)); exact (rf3_ HO215 BK217 (by decide))))) (below_size (bs_ HB GE217))); have n3_ := A_ (blk_below (g := gb204) (o := .cells #[.int .i8 a0_0, .int .i8 a0_1, .slice A0_2 l0_2.length c0_2] 25 (0, 0)) (pf_ BK204 NB204_217) hb); have n4_ := A_ (blk_below (g := gb217) (o := .cells #[.int .i8 t211, .int .i8 t212, .slice Ao23 t213.length co23] 29 (0, 0)) (by (with_reducible repeat (first | refine blk_drewN ?_ _ | refine blk_drew ?_ | refine blk_alloc ?_ _)); refine blk_put (cs := #[.int .i8 t211, .int .i8 t212, .slice none 0 0]) ?_ 2 _ rfl; (with_reducible repeat (first | refine blk_drewN ?_ _ | refine blk_drew ?_ | refine blk_alloc ?_ _)); refine blk_put (cs := #[.int .i8 t211, .int .i8 0, .slice none 0 0]) ?_ 1 _ rfl; (with_reducible repeat (first | refine blk_drewN ?_ _ | refine blk_drew ?_ | refine blk_alloc ?_ _)); refine blk_put (cs := #[.int .i8 0, .int .i8 0, .slice none 0 0]) ?_ 0 _ rfl; (with_reducible repeat (first | refine blk_drewN ?_ _ | refine blk_drew ?_ | refine blk_alloc ?_ _)); exact BK217.out) hb); have n5_ := A_ (below_step (bs_ HB GE217) hb); clear HO210; clear HO215; clear BK204; clear BK217; clear HB; have HO210 := n0_; have HO215 := n1_; have HO222 := n2_; have BK204 := n3_; have BK217 := n4_; have HB := n5_; clear n0_ n1_ n2_ n3_ n4_ n5_; (try clear hb); (try clear hb2); (try clear hk); (try clear hi); (try clear ho0)) | ((with_reducible refine gate_dst (N := 8) rfl ?_); refine box_event ?hg (N := 8) ?hd (cs := #[.int .i8 0, .int .i8 0, .slice none 0 0]) (t := 29) ?hr ?_; (case hd => rfl); (case hg => rfl); (case hr => first | (go_simp; done) | (go_simp; rfl)); intro gb223 hg w26 hbox hb; have n0_ := A_ (Kd.R_below (pr_ HO210) hb); have n1_ := A_ (Kd.R_below (pr_ HO215) hb); have n2_ := A_ (Kd.R_below (pr_ HO222) hb); have n3_ := A_ (blk_below (pl_ BK204) hb); have n4_ := A_ (blk_below (pl_ BK217) hb); have n5_ := A_ (below_step (bl_ HB) hb); have n6_ := A_ (hbox); have n7_ := A_ ((by rw [hg]; exact (below_size (bl_ HB)) : w.heap.size ≤ gb223)); have n8_ := n7_; have n9_ := A_ ((by rw [hg]; exact Nat.ne_of_lt (blk_lt (pl_ BK204)) : gb204 ≠ gb223)); have n10_ := Aside0.mk n9_.out.symm; have n11_ := A_ ((by rw [hg]; exact Nat.ne_of_lt (blk_lt (pl_ BK217)) : gb217 ≠ gb223)); have n12_ := Aside0.mk n11_.out.symm; clear HO210; clear HO215; clear HO222; clear BK204; clear BK217; clear HB; have HO210 := n0_; have HO215 := n1_; have HO222 := n2_; have BK204 := n3_; have BK217 := n4_; have HB := n5_; have BK223 := n6_; have GW223 := n7_; have GE223 := n8_; have NB204_223 := n9_; have NB223_204 := n10_; have NB217_223 := n11_; have NB223_217 := n12_; clear n0_ n1_ n2_ n3_ n4_ n5_ n6_ n7_ n8_ n9_ n10_ n11_ n12_; clear hb hbox hg; have hnb27 := NB223_204.out; have hnc27 := NB204_223.out; have hnb28 := NB223_217.out; have hnc28 := NB217_223.out; obtain ⟨hcz29_0, hcz29_1, hcz29_2, hfz29_0, hfz29_1, hfz29_2⟩ := cl3_ BK223; obtain ⟨Ao30, co30, eo30⟩ := Kd.R_slice HO222.out; subst eo30) | ((with_reducible refine gate_callee (f := 8) rfl ?_); refine goesL_ (some 33) rfl rfl Try.func8 (by kernel_rfl) rfl #[.agg #[.int .i8 t218, .int .i8 t219, .slice Ao30 t220.length co30], .int .i64 a1] rfl arg_ ?_; (with_reducible refine (impl_DropWord.calls k t218 t219 _ _ t220 a1 t224 t225 t226 t229 _ ?side1 ?side2 A11.out).mono ?_); (case side1 => refine (Kd.R_reads' (e := 41) (base := w.heap.size) (ok := fun k_ => ((True ∧ some k_ ≠ (.slice Ao18 t208.length co18 : Value).ownBlock) ∧ some k_ ≠ (.slice Ao23 t213.length co23 : Value).ownBlock)) (n := t220.length) (c := co30) ?_).2.2; exact (by (with_reducible repeat (first | apply Kd.R_alloc | apply Kd.R_drewN | apply Kd.R_drew)); exact (rf3_ HO222 BK223 (by decide)))); (case side2 => exact (Kd.R_reads' HO222.out).2.1); rintro e w31 ⟨v227, rfl, ho0, hb⟩; refine ⟨_, rfl, ?_⟩; have n0_ := A_ (Kd.R_elder' (by (with_reducible repeat (first | apply Kd.R_alloc | apply Kd.R_drewN | apply Kd.R_drew)); exact (rf3_ HO210 BK223 (by decide))) (Kd.R_base ho0) hb); have n1_ := A_ (Kd.R_elder' (by (with_reducible repeat (first | apply Kd.R_alloc | apply Kd.R_drewN | apply Kd.R_drew)); exact (rf3_ HO215 BK223 (by decide))) (Kd.R_base ho0) hb); have n2_ := A_ (Kd.R_elder' (by (with_reducible repeat (first | apply Kd.R_alloc | apply Kd.R_drewN | apply Kd.R_drew)); exact (rf3_ HO222 BK223 (by decide))) (Kd.R_base ho0) hb); have n3_ := A_ (Kd.R_lower (Kd.R_new' (Kd.R_new' (Kd.R_new' ho0 (Kd.R_lt (by (with_reducible repeat (first | apply Kd.R_alloc | apply Kd.R_drewN | apply Kd.R_drew)); exact (rf3_ HO210 BK223 (by decide))))) (Kd.R_lt (by (with_reducible repeat (first | apply Kd.R_alloc | apply Kd.R_drewN | apply Kd.R_drew)); exact (rf3_ HO215 BK223 (by decide))))) (Kd.R_lt (by (with_reducible repeat (first | apply Kd.R_alloc | apply Kd.R_drewN | apply Kd.R_drew)); exact (rf3_ HO222 BK223 (by decide))))) (below_size (bs_ HB GE223))); have n4_ := A_ (blk_below (g := gb204) (o := .cells #[.int .i8 a0_0, .int .i8 a0_1, .slice A0_2 l0_2.length c0_2] 25 (0, 0)) (pf_ BK204 NB204_223) hb); have n5_ := A_ (blk_below (g := gb217) (o := .cells #[.int .i8 t211, .int .i8 t212, .slice Ao23 t213.length co23] 29 (0, 0)) (pf_ BK217 NB217_223) hb); have n6_ := A_ (blk_below (g := gb223) (o := .cells #[.int .i8 t218, .int .i8 t219, .slice Ao30 t220.length co30] 29 (0, 0)) (by (with_reducible repeat (first | refine blk_drewN ?_ _ | refine blk_drew ?_ | refine blk_alloc ?_ _)); refine blk_put (cs := #[.int .i8 t218, .int .i8 t219, .slice none 0 0]) ?_ 2 _ rfl; (with_reducible repeat (first | refine blk_drewN ?_ _ | refine blk_drew ?_ | refine blk_alloc ?_ _)); refine blk_put (cs := #[.int .i8 t218, .int .i8 0, .slice none 0 0]) ?_ 1 _ rfl; (with_reducible repeat (first | refine blk_drewN ?_ _ | refine blk_drew ?_ | refine blk_alloc ?_ _)); refine blk_put (cs := #[.int .i8 0, .int .i8 0, .slice none 0 0]) ?_ 0 _ rfl; (with_reducible repeat (first | refine blk_drewN ?_ _ | refine blk_drew ?_ | refine blk_alloc ?_ _)); exact BK223.out) hb); have n7_ := A_ (below_step (bs_ HB GE223) hb); clear HO210; clear HO215; clear HO222; clear BK204; clear BK217; clear BK223; clear HB; have HO210 := n0_; have HO215 := n1_; have HO222 := n2_; have HO228 := n3_; have BK204 := n4_; have BK217 := n5_; have BK223 := n6_; have HB := n7_; clear n0_ n1_ n2_ n3_ n4_ n5_ n6_ n7_; (try clear hb); (try clear hb2); (try clear hk); (try clear hi); (try clear ho0)) | ((with_reducible refine gate_dst (N := 9) rfl ?_); refine box_event ?hg (N := 9) ?hd (cs := #[.int .i8 0, .int .i8 0, .slice none 0 0]) (t := 29) ?hr ?_; (case hd => rfl); (case hg => rfl); (case hr => first | (go_simp; done) | (go_simp; rfl)); intro gb230 hg w32 hbox hb; have n0_ := A_ (Kd.R_below (pr_ HO210) hb); have n1_ := A_ (Kd.R_below (pr_ HO215) hb); have n2_ := A_ (Kd.R_below (pr_ HO222) hb); have n3_ := A_ (Kd.R_below (pr_ HO228) hb); have n4_ := A_ (blk_below (pl_ BK204) hb); have n5_ := A_ (blk_below (pl_ BK217) hb); have n6_ := A_ (blk_below (pl_ BK223) hb); have n7_ := A_ (below_step (bl_ HB) hb); have n8_ := A_ (hbox); have n9_ := A_ ((by rw [hg]; exact (below_size (bl_ HB)) : w.heap.size ≤ gb230)); have n10_ := n9_; have n11_ := A_ ((by rw [hg]; exact Nat.ne_of_lt (blk_lt (pl_ BK204)) : gb204 ≠ gb230)); have n12_ := Aside0.mk n11_.out.symm; have n13_ := A_ ((by rw [hg]; exact Nat.ne_of_lt (blk_lt (pl_ BK217)) : gb217 ≠ gb230)); have n14_ := Aside0.mk n13_.out.symm; have n15_ := A_ ((by rw [hg]; exact Nat.ne_of_lt (blk_lt (pl_ BK223)) : gb223 ≠ gb230)); have n16_ := Aside0.mk n15_.out.symm; clear HO210; clear HO215; clear HO222; clear HO228; clear BK204; clear BK217; clear BK223; clear HB; have HO210 := n0_; have HO215 := n1_; have HO222 := n2_; have HO228 := n3_; have BK204 := n4_; have BK217 := n5_; have BK223 := n6_; have HB := n7_; have BK230 := n8_; have GW230 := n9_; have GE230 := n10_; have NB204_230 := n11_; have NB230_204 := n12_; have NB217_230 := n13_; have NB230_217 := n14_; have NB223_230 := n15_; have NB230_223 := n16_; clear n0_ n1_ n2_ n3_ n4_ n5_ n6_ n7_ n8_ n9_ n10_ n11_ n12_ n13_ n14_ n15_ n16_; clear hb hbox hg; have hnb33 := NB230_204.out; have hnc33 := NB204_230.out; have hnb34 := NB230_217.out; have hnc34 := NB217_230.out; have hnb35 := NB230_223.out; have hnc35 := NB223_230.out; obtain ⟨hcz36_0, hcz36_1, hcz36_2, hfz36_0, hfz36_1, hfz36_2⟩ := cl3_ BK230; obtain ⟨Ao37, co37, eo37⟩ := Kd.R_slice HO228.out; subst eo37))
  (try simp only [Act.put, List.setIfInBounds_toArray, List.set_cons_zero, List.set_cons_succ])
  go_cut [44] (fun v44 wc => ∃ (kq : Nat) (x44_11 : Bool), v44 = .bool x44_11 ∧ Aside0 (laws_FnExactDropWord.j0 kq a1 t216 t229 x44_11 a0_0 a0_1 l0_2 t211 t212 t213 t218 t219 t220 t224 t225 t226 = some r) ∧ Aside0 (kq ≤ k) ∧ Aside0 (Kd.R k41 41 wc w.heap.size (fun k_ => some k_ ≠ ((.slice Ao30 t220.length co30) : Value).ownBlock ∧ some k_ ≠ ((.slice Ao37 t226.length co37) : Value).ownBlock) (.slice Ao23 t213.length co23) t213) ∧ Aside0 (Kd.R k41 41 wc w.heap.size (fun k_ => some k_ ≠ ((.slice Ao23 t213.length co23) : Value).ownBlock ∧ some k_ ≠ ((.slice Ao37 t226.length co37) : Value).ownBlock) (.slice Ao30 t220.length co30) t220) ∧ Aside0 (Kd.R k41 41 wc w.heap.size (fun k_ => some k_ ≠ ((.slice Ao23 t213.length co23) : Value).ownBlock ∧ some k_ ≠ ((.slice Ao30 t220.length co30) : Value).ownBlock) (.slice Ao37 t226.length co37) t226) ∧ Aside0 (wc.heap[gb204]? = some (.cells #[.int .i8 a0_0, .int .i8 a0_1, (.slice A0_2 l0_2.length c0_2)] 25 (0, 0))) ∧ Aside0 (wc.heap[gb217]? = some (.cells #[.int .i8 t211, .int .i8 t212, (.slice Ao23 t213.length co23)] 29 (0, 0))) ∧ Aside0 (wc.heap[gb223]? = some (.cells #[.int .i8 t218, .int .i8 t219, (.slice Ao30 t220.length co30)] 29 (0, 0))) ∧ Aside0 (wc.heap[gb230]? = some (.cells #[.int .i8 t224, .int .i8 t225, (.slice Ao37 t226.length co37)] 29 (0, 0))) ∧ Aside0 (Below w.heap.size w wc))
  case first =>
   have H := HC12.out
   clear HC12
   replace H := Option.bind_eq_some_iff.mp H
   obtain ⟨t231, A380, H⟩ := H
   replace H : (if t231 = true then (laws_FnExactDropWord.j0 k a1 t216 t229 (t229 != t216) a0_0 a0_1 l0_2 t211 t212 t213 t218 t219 t220 t224 t225 t226) else (laws_FnExactDropWord.j0 k a1 t216 t229 true a0_0 a0_1 l0_2 t211 t212 t213 t218 t219 t220 t224 t225 t226)) = some r := H
   have A38 := Aside0.mk A380
   clear A380
   by_cases c39 : t231 = true
   ·subst c39
    have H1 : (laws_FnExactDropWord.j0 k a1 t216 t229 (t229 != t216) a0_0 a0_1 l0_2 t211 t212 t213 t218 t219 t220 t224 t225 t226) = some r := by rw [if_pos rfl] at H; exact H
    clear H
    have H := H1
    clear H1
    have H' := Aside0.mk H
    clear H
    have hnb40 := NB230_204.out
    have hnc40 := NB204_230.out
    have hnb41 := NB230_217.out
    have hnc41 := NB217_230.out
    have hnb42 := NB230_223.out
    have hnc42 := NB223_230.out
    obtain ⟨hcz43_0, hcz43_1, hcz43_2, hfz43_0, hfz43_1, hfz43_2⟩ := cl3_ BK230
    have hnb44 := NB217_204.out
    have hnc44 := NB204_217.out
    have hnb45 := NB217_223.out
    have hnc45 := NB223_217.out
    obtain ⟨hcz46_0, hcz46_1, hcz46_2, hfz46_0, hfz46_1, hfz46_2⟩ := cl3_ BK217
    go_wp2_with (first | ((with_reducible refine gate_callee (f := 9) rfl ?_); refine goesL_ (some 38) rfl rfl Try.func9 (by kernel_rfl) rfl #[.agg #[.int .i8 t224, .int .i8 t225, .slice Ao37 t226.length co37], .agg #[.int .i8 t211, .int .i8 t212, .slice Ao23 t213.length co23]] rfl arg_ ?_; (with_reducible refine (laws_eqFixed.calls k t224 t225 _ _ t226 t211 t212 _ _ t213 true _ ?side1 ?side2 ?side3 ?side4 A38.out).mono ?_); (case side1 => refine (Kd.R_reads' (e := 41) (base := w.heap.size) (ok := fun k_ => (((True ∧ some k_ ≠ (.slice Ao18 t208.length co18 : Value).ownBlock) ∧ some k_ ≠ (.slice Ao23 t213.length co23 : Value).ownBlock) ∧ some k_ ≠ (.slice Ao30 t220.length co30 : Value).ownBlock)) (n := t226.length) (c := co37) ?_).2.2; exact (by (with_reducible repeat (first | apply Kd.R_alloc | apply Kd.R_drewN | apply Kd.R_drew)); exact (rf3_ HO228 BK230 (by decide)))); (case side2 => exact (Kd.R_reads' HO228.out).2.1); (case side3 => refine (Kd.R_reads' (e := 41) (base := w.heap.size) (ok := fun k_ => (((True ∧ some k_ ≠ (.slice Ao18 t208.length co18 : Value).ownBlock) ∧ some k_ ≠ (.slice Ao30 t220.length co30 : Value).ownBlock) ∧ some k_ ≠ (.slice Ao37 t226.length co37 : Value).ownBlock)) (n := t213.length) (c := co23) ?_).2.2; exact (by (with_reducible repeat (first | apply Kd.R_alloc | apply Kd.R_drewN | apply Kd.R_drew)); exact (rf3_ HO215 BK230 (by decide)))); (case side4 => exact (Kd.R_reads' HO215.out).2.1); rintro e w47 ⟨rfl, hb⟩; refine ⟨_, rfl, ?_⟩; have n0_ := A_ (Kd.R_below (by (with_reducible repeat (first | apply Kd.R_alloc | apply Kd.R_drewN | apply Kd.R_drew)); exact (rf3_ HO210 BK230 (by decide))) hb); have n1_ := A_ (Kd.R_below (by (with_reducible repeat (first | apply Kd.R_alloc | apply Kd.R_drewN | apply Kd.R_drew)); exact (rf3_ HO215 BK230 (by decide))) hb); have n2_ := A_ (Kd.R_below (by (with_reducible repeat (first | apply Kd.R_alloc | apply Kd.R_drewN | apply Kd.R_drew)); exact (rf3_ HO222 BK230 (by decide))) hb); have n3_ := A_ (Kd.R_below (by (with_reducible repeat (first | apply Kd.R_alloc | apply Kd.R_drewN | apply Kd.R_drew)); exact (rf3_ HO228 BK230 (by decide))) hb); have n4_ := A_ (blk_below (g := gb204) (o := .cells #[.int .i8 a0_0, .int .i8 a0_1, .slice A0_2 l0_2.length c0_2] 25 (0, 0)) (pf_ BK204 NB204_230) hb); have n5_ := A_ (blk_below (g := gb217) (o := .cells #[.int .i8 t211, .int .i8 t212, .slice Ao23 t213.length co23] 29 (0, 0)) (pf_ BK217 NB217_230) hb); have n6_ := A_ (blk_below (g := gb223) (o := .cells #[.int .i8 t218, .int .i8 t219, .slice Ao30 t220.length co30] 29 (0, 0)) (pf_ BK223 NB223_230) hb); have n7_ := A_ (blk_below (g := gb230) (o := .cells #[.int .i8 t224, .int .i8 t225, .slice Ao37 t226.length co37] 29 (0, 0)) (by (with_reducible repeat (first | refine blk_drewN ?_ _ | refine blk_drew ?_ | refine blk_alloc ?_ _)); refine blk_put (cs := #[.int .i8 t224, .int .i8 t225, .slice none 0 0]) ?_ 2 _ rfl; (with_reducible repeat (first | refine blk_drewN ?_ _ | refine blk_drew ?_ | refine blk_alloc ?_ _)); refine blk_put (cs := #[.int .i8 t224, .int .i8 0, .slice none 0 0]) ?_ 1 _ rfl; (with_reducible repeat (first | refine blk_drewN ?_ _ | refine blk_drew ?_ | refine blk_alloc ?_ _)); refine blk_put (cs := #[.int .i8 0, .int .i8 0, .slice none 0 0]) ?_ 0 _ rfl; (with_reducible repeat (first | refine blk_drewN ?_ _ | refine blk_drew ?_ | refine blk_alloc ?_ _)); exact BK230.out) hb); have n8_ := A_ (below_step (bs_ HB GE230) hb); clear HO210; clear HO215; clear HO222; clear HO228; clear BK204; clear BK217; clear BK223; clear BK230; clear HB; have HO210 := n0_; have HO215 := n1_; have HO222 := n2_; have HO228 := n3_; have BK204 := n4_; have BK217 := n5_; have BK223 := n6_; have BK230 := n7_; have HB := n8_; clear n0_ n1_ n2_ n3_ n4_ n5_ n6_ n7_ n8_; (try clear hb); (try clear hb2); (try clear hk); (try clear hi)))
    go_meet
    case rel => exact ⟨_, ((t229 != t216)), rs_, H', ⟨by first | omega | exact Nat.le_refl _⟩, ⟨by (with_reducible repeat (first | apply Kd.R_alloc | apply Kd.R_drewN | apply Kd.R_drew)); exact Kd.R_mono HO215.out (fun _ hk => ⟨hk.1.2, hk.2⟩)⟩, ⟨by (with_reducible repeat (first | apply Kd.R_alloc | apply Kd.R_drewN | apply Kd.R_drew)); exact Kd.R_mono HO222.out (fun _ hk => ⟨hk.1.2, hk.2⟩)⟩, ⟨by (with_reducible repeat (first | apply Kd.R_alloc | apply Kd.R_drewN | apply Kd.R_drew)); exact Kd.R_mono HO228.out (fun _ hk => ⟨hk.1.2, hk.2⟩)⟩, ⟨pl_ BK204⟩, ⟨pl_ BK217⟩, ⟨pl_ BK223⟩, ⟨pl_ BK230⟩, ⟨bl_ HB⟩⟩
   ·replace c39 := Bool.eq_false_iff.mpr c39
    subst c39
    have H1 : (laws_FnExactDropWord.j0 k a1 t216 t229 true a0_0 a0_1 l0_2 t211 t212 t213 t218 t219 t220 t224 t225 t226) = some r := by rw [if_neg (show ¬ (false = true) by decide)] at H; exact H
    clear H
    have H := H1
    clear H1
    have H' := Aside0.mk H
    clear H
    have hnb48 := NB230_204.out
    have hnc48 := NB204_230.out
    have hnb49 := NB230_217.out
    have hnc49 := NB217_230.out
    have hnb50 := NB230_223.out
    have hnc50 := NB223_230.out
    obtain ⟨hcz51_0, hcz51_1, hcz51_2, hfz51_0, hfz51_1, hfz51_2⟩ := cl3_ BK230
    have hnb52 := NB217_204.out
    have hnc52 := NB204_217.out
    have hnb53 := NB217_223.out
    have hnc53 := NB223_217.out
    obtain ⟨hcz54_0, hcz54_1, hcz54_2, hfz54_0, hfz54_1, hfz54_2⟩ := cl3_ BK217
    go_wp2_with (first | ((with_reducible refine gate_callee (f := 9) rfl ?_); refine goesL_ (some 38) rfl rfl Try.func9 (by kernel_rfl) rfl #[.agg #[.int .i8 t224, .int .i8 t225, .slice Ao37 t226.length co37], .agg #[.int .i8 t211, .int .i8 t212, .slice Ao23 t213.length co23]] rfl arg_ ?_; (with_reducible refine (laws_eqFixed.calls k t224 t225 _ _ t226 t211 t212 _ _ t213 false _ ?side1 ?side2 ?side3 ?side4 A38.out).mono ?_); (case side1 => refine (Kd.R_reads' (e := 41) (base := w.heap.size) (ok := fun k_ => (((True ∧ some k_ ≠ (.slice Ao18 t208.length co18 : Value).ownBlock) ∧ some k_ ≠ (.slice Ao23 t213.length co23 : Value).ownBlock) ∧ some k_ ≠ (.slice Ao30 t220.length co30 : Value).ownBlock)) (n := t226.length) (c := co37) ?_).2.2; exact (by (with_reducible repeat (first | apply Kd.R_alloc | apply Kd.R_drewN | apply Kd.R_drew)); exact (rf3_ HO228 BK230 (by decide)))); (case side2 => exact (Kd.R_reads' HO228.out).2.1); (case side3 => refine (Kd.R_reads' (e := 41) (base := w.heap.size) (ok := fun k_ => (((True ∧ some k_ ≠ (.slice Ao18 t208.length co18 : Value).ownBlock) ∧ some k_ ≠ (.slice Ao30 t220.length co30 : Value).ownBlock) ∧ some k_ ≠ (.slice Ao37 t226.length co37 : Value).ownBlock)) (n := t213.length) (c := co23) ?_).2.2; exact (by (with_reducible repeat (first | apply Kd.R_alloc | apply Kd.R_drewN | apply Kd.R_drew)); exact (rf3_ HO215 BK230 (by decide)))); (case side4 => exact (Kd.R_reads' HO215.out).2.1); rintro e w55 ⟨rfl, hb⟩; refine ⟨_, rfl, ?_⟩; have n0_ := A_ (Kd.R_below (by (with_reducible repeat (first | apply Kd.R_alloc | apply Kd.R_drewN | apply Kd.R_drew)); exact (rf3_ HO210 BK230 (by decide))) hb); have n1_ := A_ (Kd.R_below (by (with_reducible repeat (first | apply Kd.R_alloc | apply Kd.R_drewN | apply Kd.R_drew)); exact (rf3_ HO215 BK230 (by decide))) hb); have n2_ := A_ (Kd.R_below (by (with_reducible repeat (first | apply Kd.R_alloc | apply Kd.R_drewN | apply Kd.R_drew)); exact (rf3_ HO222 BK230 (by decide))) hb); have n3_ := A_ (Kd.R_below (by (with_reducible repeat (first | apply Kd.R_alloc | apply Kd.R_drewN | apply Kd.R_drew)); exact (rf3_ HO228 BK230 (by decide))) hb); have n4_ := A_ (blk_below (g := gb204) (o := .cells #[.int .i8 a0_0, .int .i8 a0_1, .slice A0_2 l0_2.length c0_2] 25 (0, 0)) (pf_ BK204 NB204_230) hb); have n5_ := A_ (blk_below (g := gb217) (o := .cells #[.int .i8 t211, .int .i8 t212, .slice Ao23 t213.length co23] 29 (0, 0)) (pf_ BK217 NB217_230) hb); have n6_ := A_ (blk_below (g := gb223) (o := .cells #[.int .i8 t218, .int .i8 t219, .slice Ao30 t220.length co30] 29 (0, 0)) (pf_ BK223 NB223_230) hb); have n7_ := A_ (blk_below (g := gb230) (o := .cells #[.int .i8 t224, .int .i8 t225, .slice Ao37 t226.length co37] 29 (0, 0)) (by (with_reducible repeat (first | refine blk_drewN ?_ _ | refine blk_drew ?_ | refine blk_alloc ?_ _)); refine blk_put (cs := #[.int .i8 t224, .int .i8 t225, .slice none 0 0]) ?_ 2 _ rfl; (with_reducible repeat (first | refine blk_drewN ?_ _ | refine blk_drew ?_ | refine blk_alloc ?_ _)); refine blk_put (cs := #[.int .i8 t224, .int .i8 0, .slice none 0 0]) ?_ 1 _ rfl; (with_reducible repeat (first | refine blk_drewN ?_ _ | refine blk_drew ?_ | refine blk_alloc ?_ _)); refine blk_put (cs := #[.int .i8 0, .int .i8 0, .slice none 0 0]) ?_ 0 _ rfl; (with_reducible repeat (first | refine blk_drewN ?_ _ | refine blk_drew ?_ | refine blk_alloc ?_ _)); exact BK230.out) hb); have n8_ := A_ (below_step (bs_ HB GE230) hb); clear HO210; clear HO215; clear HO222; clear HO228; clear BK204; clear BK217; clear BK223; clear BK230; clear HB; have HO210 := n0_; have HO215 := n1_; have HO222 := n2_; have HO228 := n3_; have BK204 := n4_; have BK217 := n5_; have BK223 := n6_; have BK230 := n7_; have HB := n8_; clear n0_ n1_ n2_ n3_ n4_ n5_ n6_ n7_ n8_; (try clear hb); (try clear hb2); (try clear hk); (try clear hi)))
    go_meet
    case rel => exact ⟨_, (true), rs_, H', ⟨by first | omega | exact Nat.le_refl _⟩, ⟨by (with_reducible repeat (first | apply Kd.R_alloc | apply Kd.R_drewN | apply Kd.R_drew)); exact Kd.R_mono HO215.out (fun _ hk => ⟨hk.1.2, hk.2⟩)⟩, ⟨by (with_reducible repeat (first | apply Kd.R_alloc | apply Kd.R_drewN | apply Kd.R_drew)); exact Kd.R_mono HO222.out (fun _ hk => ⟨hk.1.2, hk.2⟩)⟩, ⟨by (with_reducible repeat (first | apply Kd.R_alloc | apply Kd.R_drewN | apply Kd.R_drew)); exact Kd.R_mono HO228.out (fun _ hk => ⟨hk.1.2, hk.2⟩)⟩, ⟨pl_ BK204⟩, ⟨pl_ BK217⟩, ⟨pl_ BK223⟩, ⟨pl_ BK230⟩, ⟨bl_ HB⟩⟩
  case rest =>
   clear HC12
   try clear c2
   try clear p2
   try clear c3
   try clear c4
   try clear c4b0
   try clear c5
   try clear c6
   try clear c7
   try clear c8
   try clear c9
   try clear c21
   try clear c27
   try clear c28
   try clear c33
   try clear c34
   try clear c35
   try clear c39
   try clear c40
   try clear c41
   try clear c42
   try clear c44
   try clear c45
   try clear c48
   try clear c49
   try clear c50
   try clear c52
   try clear c53
   try clear hcz14_0
   try clear hcz14_1
   try clear hcz14_2
   try clear hcz16_0
   try clear hcz16_1
   try clear hcz16_2
   try clear hcz22_0
   try clear hcz22_1
   try clear hcz22_2
   try clear hcz24_0
   try clear hcz24_1
   try clear hcz24_2
   try clear hcz29_0
   try clear hcz29_1
   try clear hcz29_2
   try clear hcz36_0
   try clear hcz36_1
   try clear hcz36_2
   try clear hcz43_0
   try clear hcz43_1
   try clear hcz43_2
   try clear hcz46_0
   try clear hcz46_1
   try clear hcz46_2
   try clear hcz51_0
   try clear hcz51_1
   try clear hcz51_2
   try clear hcz54_0
   try clear hcz54_1
   try clear hcz54_2
   try clear hcz6_0
   try clear hcz6_1
   try clear hcz6_2
   try clear hfz14_0
   try clear hfz14_1
   try clear hfz14_2
   try clear hfz16_0
   try clear hfz16_1
   try clear hfz16_2
   try clear hfz22_0
   try clear hfz22_1
   try clear hfz22_2
   try clear hfz24_0
   try clear hfz24_1
   try clear hfz24_2
   try clear hfz29_0
   try clear hfz29_1
   try clear hfz29_2
   try clear hfz36_0
   try clear hfz36_1
   try clear hfz36_2
   try clear hfz43_0
   try clear hfz43_1
   try clear hfz43_2
   try clear hfz46_0
   try clear hfz46_1
   try clear hfz46_2
   try clear hfz51_0
   try clear hfz51_1
   try clear hfz51_2
   try clear hfz54_0
   try clear hfz54_1
   try clear hfz54_2
   try clear hfz6_0
   try clear hfz6_1
   try clear hfz6_2
   obtain ⟨kq, x44_11, rfl, HA, HJ11, HO_218002, HO_224002, HO_231002, BK204, BK217, BK223, BK230, HB⟩ := hcut
   cases kq with
   | zero => exact absurd HA.out (by simp [laws_FnExactDropWord.j0])
   | succ kj11 =>
    have H := HA.out
    clear HA
    simp only [laws_FnExactDropWord.j0] at H
    by_cases c56 : x44_11 = true
    ·subst c56
     have H1 : (some false) = some r := by rw [if_pos rfl] at H; exact H
     clear H
     have H := H1
     clear H1
     obtain rfl := Option.some.inj H
     go_wp2
     go_ret
     exact ⟨by first | rfl | (simp [errW_none, errW_some] <;> rfl) | (simp [*, errW_none, errW_some] <;> rfl), bl_ HB⟩
    ·replace c56 := Bool.eq_false_iff.mpr c56
     subst c56
     have H1 : ((laws_toFixed.f kj11 a0_0 a0_1 l0_2).bind fun bt232 => ((laws_eqFixed.f kj11 t218 t219 t220 bt232.1 bt232.2.1 bt232.2.2).bind fun t237 => (if t237 = true then ((laws_markFixed.f kj11 t218 t219 t220 1).bind fun bt238 => (if bt238.1 < 0 then (laws_FnExactDropWord.j1 kj11 a1 t216 true a0_0 a0_1 l0_2 t211 t212 t213 t224 t225 t226) else ((laws_eqFixed.f kj11 t224 t225 t226 t211 t212 t213).bind fun t240 => (if t240 = true then (laws_FnExactDropWord.j1 kj11 a1 t216 (t229 != t216) a0_0 a0_1 l0_2 t211 t212 t213 t224 t225 t226) else (laws_FnExactDropWord.j1 kj11 a1 t216 true a0_0 a0_1 l0_2 t211 t212 t213 t224 t225 t226))))) else (some false)))) = some r := by rw [if_neg (show ¬ (false = true) by decide)] at H; exact H
     clear H
     have H := H1
     clear H1
     replace H := Option.bind_eq_some_iff.mp H
     obtain ⟨⟨t232, t233, t234⟩, A570, H⟩ := H
     replace H : ((laws_eqFixed.f kj11 t218 t219 t220 t232 t233 t234).bind fun t237 => (if t237 = true then ((laws_markFixed.f kj11 t218 t219 t220 1).bind fun bt238 => (if bt238.1 < 0 then (laws_FnExactDropWord.j1 kj11 a1 t216 true a0_0 a0_1 l0_2 t211 t212 t213 t224 t225 t226) else ((laws_eqFixed.f kj11 t224 t225 t226 t211 t212 t213).bind fun t240 => (if t240 = true then (laws_FnExactDropWord.j1 kj11 a1 t216 (t229 != t216) a0_0 a0_1 l0_2 t211 t212 t213 t224 t225 t226) else (laws_FnExactDropWord.j1 kj11 a1 t216 true a0_0 a0_1 l0_2 t211 t212 t213 t224 t225 t226))))) else (some false))) = some r := H
     have A57 := Aside0.mk A570
     clear A570
     replace H := Option.bind_eq_some_iff.mp H
     obtain ⟨t237, A580, H⟩ := H
     replace H : (if t237 = true then ((laws_markFixed.f kj11 t218 t219 t220 1).bind fun bt238 => (if bt238.1 < 0 then (laws_FnExactDropWord.j1 kj11 a1 t216 true a0_0 a0_1 l0_2 t211 t212 t213 t224 t225 t226) else ((laws_eqFixed.f kj11 t224 t225 t226 t211 t212 t213).bind fun t240 => (if t240 = true then (laws_FnExactDropWord.j1 kj11 a1 t216 (t229 != t216) a0_0 a0_1 l0_2 t211 t212 t213 t224 t225 t226) else (laws_FnExactDropWord.j1 kj11 a1 t216 true a0_0 a0_1 l0_2 t211 t212 t213 t224 t225 t226))))) else (some false)) = some r := H
     have A58 := Aside0.mk A580
     clear A580
     by_cases c59 : t237 = true
     ·subst c59
      have H1 : ((laws_markFixed.f kj11 t218 t219 t220 1).bind fun bt238 => (if bt238.1 < 0 then (laws_FnExactDropWord.j1 kj11 a1 t216 true a0_0 a0_1 l0_2 t211 t212 t213 t224 t225 t226) else ((laws_eqFixed.f kj11 t224 t225 t226 t211 t212 t213).bind fun t240 => (if t240 = true then (laws_FnExactDropWord.j1 kj11 a1 t216 (t229 != t216) a0_0 a0_1 l0_2 t211 t212 t213 t224 t225 t226) else (laws_FnExactDropWord.j1 kj11 a1 t216 true a0_0 a0_1 l0_2 t211 t212 t213 t224 t225 t226))))) = some r := by rw [if_pos rfl] at H; exact H
      clear H
      have H := H1
      clear H1
      replace H := Option.bind_eq_some_iff.mp H
      obtain ⟨⟨t238, t239⟩, A600, H⟩ := H
      replace H : (if t238 < 0 then (laws_FnExactDropWord.j1 kj11 a1 t216 true a0_0 a0_1 l0_2 t211 t212 t213 t224 t225 t226) else ((laws_eqFixed.f kj11 t224 t225 t226 t211 t212 t213).bind fun t240 => (if t240 = true then (laws_FnExactDropWord.j1 kj11 a1 t216 (t229 != t216) a0_0 a0_1 l0_2 t211 t212 t213 t224 t225 t226) else (laws_FnExactDropWord.j1 kj11 a1 t216 true a0_0 a0_1 l0_2 t211 t212 t213 t224 t225 t226)))) = some r := H
      have A60 := Aside0.mk A600
      clear A600
      have HC61 := Aside0.mk H
      clear H
      try go_wp2
      have n0_ := A_ (Kd.R_drew HO_218002.out)
      have n1_ := A_ (Kd.R_drew HO_224002.out)
      have n2_ := A_ (Kd.R_drew HO_231002.out)
      have n3_ := A_ (blk_drew BK204.out)
      have n4_ := A_ (blk_drew BK217.out)
      have n5_ := A_ (blk_drew BK223.out)
      have n6_ := A_ (blk_drew BK230.out)
      have n7_ := A_ (below_drew1 HB.out)
      clear HO_218002
      clear HO_224002
      clear HO_231002
      clear BK204
      clear BK217
      clear BK223
      clear BK230
      clear HB
      have HO_218002 := n0_
      have HO_224002 := n1_
      have HO_231002 := n2_
      have BK204 := n3_
      have BK217 := n4_
      have BK223 := n5_
      have BK230 := n6_
      have HB := n7_
      clear n0_ n1_ n2_ n3_ n4_ n5_ n6_ n7_
      refine start_ (n := 5) (S := fun w' => w'.cell? ⟨gb223, 0, none⟩ = some (.int .i8 t218) ∧ w'.cell? ⟨gb223, 1, none⟩ = some (.int .i8 t219) ∧ w'.cell? ⟨gb223, 2, none⟩ = some (.slice Ao30 t220.length co30) ∧ w'.cell? ⟨gb204, 0, none⟩ = some (.int .i8 a0_0) ∧ w'.cell? ⟨gb204, 1, none⟩ = some (.int .i8 a0_1) ∧ w'.cell? ⟨gb204, 2, none⟩ = some (.slice A0_2 l0_2.length c0_2)) (ds := []) #[false, false, false, false, false] (by kernel_rfl) rfl rfl ⟨(blk_cell BK223.out 0).trans rfl, (blk_cell BK223.out 1).trans rfl, (blk_cell BK223.out 2).trans rfl, (blk_cell BK204.out 0).trans rfl, (blk_cell BK204.out 1).trans rfl, (blk_cell BK204.out 2).trans rfl⟩ (fun hHeld => ?_)
      generalize wc.drew = w62 at HO_218002 HO_224002 HO_231002 BK204 BK217 BK223 BK230 HB hHeld ⊢
      refine take_ (i := 0) (N := some 45) (v := ?_) (a' := ?_) #[true, false, false, false, false] rfl rfl (by kernel_rfl) (fun _ _ _ h => h) (Or.inl ⟨by rfl, ?_⟩) hHeld ?_ ?_
      rotate_left
      ·rintro w' ⟨s0, s1, s2, s3, s4, s5⟩
       go_simp
       with_reducible rfl
      rotate_left
      ·simp only [Act.put, sp_]
       rfl
      refine take_ (i := 1) (N := some 46) (v := ?_) (a' := ?_) #[true, true, false, false, false] rfl rfl (by kernel_rfl) (fun _ _ _ h => h) (Or.inl ⟨by rfl, ?_⟩) hHeld ?_ ?_
      rotate_left
      ·rintro w' ⟨s0, s1, s2, s3, s4, s5⟩
       go_simp
       with_reducible rfl
      rotate_left
      ·simp only [Act.put, sp_]
       rfl
      refine one_ (i := 2) (N := some 47) #[true, true, true, false, false] rfl rfl (by kernel_rfl) (by decide) (fun K hK => ?_)
      refine goes_ Try.func7 (by kernel_rfl) rfl #[.agg #[.int .i8 a0_0, .int .i8 a0_1, .slice A0_2 l0_2.length c0_2]] (by rfl) rfl rfl arg_ ?_
      with_reducible refine (laws_toFixed.calls kj11 a0_0 a0_1 _ _ l0_2 t232 t233 t234 _ ?side1 ?side2 A57.out).mono ?_
      (case side1 => exact Kd.C_below HR0_2.out (bl_ HB))
      (case side2 => exact HC0_2.out)
      rintro e w63 ⟨v235, rfl, ho0, hb⟩
      refine ⟨_, rfl, ?_⟩
      have n0_ := A_ (Kd.R_elder' (pr_ HO_218002) (Kd.R_base ho0) hb)
      have n1_ := A_ (Kd.R_elder' (pr_ HO_224002) (Kd.R_base ho0) hb)
      have n2_ := A_ (Kd.R_elder' (pr_ HO_231002) (Kd.R_base ho0) hb)
      have n3_ := A_ (Kd.R_lower (Kd.R_new' (Kd.R_new' (Kd.R_new' ho0 (Kd.R_lt (pr_ HO_218002))) (Kd.R_lt (pr_ HO_224002))) (Kd.R_lt (pr_ HO_231002))) (below_size (bl_ HB)))
      have n4_ := A_ (blk_below (pl_ BK204) hb)
      have n5_ := A_ (blk_below (pl_ BK217) hb)
      have n6_ := A_ (blk_below (pl_ BK223) hb)
      have n7_ := A_ (blk_below (pl_ BK230) hb)
      have n8_ := A_ (below_step (bl_ HB) hb)
      clear HO_218002
      clear HO_224002
      clear HO_231002
      clear BK204
      clear BK217
      clear BK223
      clear BK230
      clear HB
      have HO_218002 := n0_
      have HO_224002 := n1_
      have HO_231002 := n2_
      have HO236 := n3_
      have BK204 := n4_
      have BK217 := n5_
      have BK223 := n6_
      have BK230 := n7_
      have HB := n8_
      clear n0_ n1_ n2_ n3_ n4_ n5_ n6_ n7_ n8_
      (try clear hb)
      (try clear hb2)
      (try clear hk)
      (try clear hi)
      (try clear ho0)
      obtain ⟨Ao64, co64, eo64⟩ := Kd.R_slice HO236.out
      (first | subst eo64 | (injection eo64 with f1_ f2_ f3_; have f4_ := f1_.symm; have f5_ := f3_.symm; clear f1_ f2_ f3_; subst f4_; subst f5_))
      refine hK.out _ _ ⟨(blk_cell BK223.out 0).trans rfl, (blk_cell BK223.out 1).trans rfl, (blk_cell BK223.out 2).trans rfl, (blk_cell BK204.out 0).trans rfl, (blk_cell BK204.out 1).trans rfl, (blk_cell BK204.out 2).trans rfl⟩ (fun hHeld => ?_)
      clear hK K
      refine norm_ (a' := ?_) ?_ ?_
      rotate_left
      ·show Act.put _ (some 47) _ = _
       simp only [Act.put, sp_]
       rfl
      refine one_ (i := 3) (N := some 48) #[true, true, true, true, false] rfl rfl (by kernel_rfl) (by decide) (fun K hK => ?_)
      refine goes_ Try.func9 (by kernel_rfl) rfl #[.agg #[.int .i8 t218, .int .i8 t219, .slice Ao30 t220.length co30], .agg #[.int .i8 t232, .int .i8 t233, .slice Ao64 t234.length co64]] (by rfl) rfl rfl arg_ ?_
      with_reducible refine (laws_eqFixed.calls kj11 t218 t219 _ _ t220 t232 t233 _ _ t234 true _ ?side1 ?side2 ?side3 ?side4 A58.out).mono ?_
      (case side1 => repeat (first | exact (Kd.R_reads' HO_224002.out).2.2 | (with_reducible refine Kd.C_alloc ?_ _) | (with_reducible refine Kd.C_drewN ?_ _) | (with_reducible refine Kd.C_drew ?_)))
      (case side2 => exact (Kd.R_reads' HO_224002.out).2.1)
      (case side3 => repeat (first | exact (Kd.R_reads' HO236.out).2.2 | (with_reducible refine Kd.C_alloc ?_ _) | (with_reducible refine Kd.C_drewN ?_ _) | (with_reducible refine Kd.C_drew ?_)))
      (case side4 => exact (Kd.R_reads' HO236.out).2.1)
      rintro e w65 ⟨rfl, hb⟩
      refine ⟨_, rfl, ?_⟩
      have n0_ := A_ (Kd.R_below (pr_ HO_218002) hb)
      have n1_ := A_ (Kd.R_below (pr_ HO_224002) hb)
      have n2_ := A_ (Kd.R_below (pr_ HO_231002) hb)
      have n3_ := A_ (Kd.R_below (pr_ HO236) hb)
      have n4_ := A_ (blk_below (pl_ BK204) hb)
      have n5_ := A_ (blk_below (pl_ BK217) hb)
      have n6_ := A_ (blk_below (pl_ BK223) hb)
      have n7_ := A_ (blk_below (pl_ BK230) hb)
      have n8_ := A_ (below_step (bl_ HB) hb)
      clear HO_218002
      clear HO_224002
      clear HO_231002
      clear HO236
      clear BK204
      clear BK217
      clear BK223
      clear BK230
      clear HB
      have HO_218002 := n0_
      have HO_224002 := n1_
      have HO_231002 := n2_
      have HO236 := n3_
      have BK204 := n4_
      have BK217 := n5_
      have BK223 := n6_
      have BK230 := n7_
      have HB := n8_
      clear n0_ n1_ n2_ n3_ n4_ n5_ n6_ n7_ n8_
      (try clear hb)
      (try clear hb2)
      (try clear hk)
      (try clear hi)
      refine hK.out _ _ ⟨(blk_cell BK223.out 0).trans rfl, (blk_cell BK223.out 1).trans rfl, (blk_cell BK223.out 2).trans rfl, (blk_cell BK204.out 0).trans rfl, (blk_cell BK204.out 1).trans rfl, (blk_cell BK204.out 2).trans rfl⟩ (fun hHeld => ?_)
      clear hK K
      refine norm_ (a' := ?_) ?_ ?_
      rotate_left
      ·show Act.put _ (some 48) _ = _
       simp only [Act.put, sp_]
       rfl
      refine pure_ (i := 4) (N := some 49) (v := ?_) (a' := ?_) #[true, true, true, true, true] rfl rfl (by kernel_rfl) (fun _ _ _ h => h) (Or.inl ⟨by rfl, ?_⟩) ?_ ?_
      rotate_left
      ·intro w'
       go_simp
       with_reducible rfl
      rotate_left
      ·simp only [Act.put, sp_]
       rfl
      refine done_ (by kernel_rfl) ?_
      have hnb66 := NB223_204.out
      have hnc66 := NB204_223.out
      have hnb67 := NB223_217.out
      have hnc67 := NB217_223.out
      have hnb68 := NB223_230.out
      have hnc68 := NB230_223.out
      obtain ⟨hcz69_0, hcz69_1, hcz69_2, hfz69_0, hfz69_1, hfz69_2⟩ := cl3_ BK223
      go_upto_region 14 with (first | ((with_reducible refine gate_callee (f := 10) rfl ?_); refine goesL_ (some 52) rfl rfl Try.func10 (by kernel_rfl) rfl #[.agg #[.int .i8 t218, .int .i8 t219, .slice Ao30 t220.length co30], .int .i64 1] rfl arg_ ?_; (with_reducible refine (laws_markFixed.calls kj11 t218 t219 (fun k_ => some k_ = (.slice Ao30 t220.length co30 : Value).ownBlock) (.slice Ao30 t220.length co30) t220 1 t238 t239 w _ ?side1 ?side2 A60.out).mono ?_); (case side1 => repeat (first | (with_reducible first | exact HB.out | apply below_alloc | apply pw_below_drewN | apply below_drew1) | exact HB.out)); (case side2 => exact Kd.R_tight rfl HO_224002.out); rintro e w70 ⟨rfl, hy0, hb, hkp⟩; refine ⟨_, rfl, ?_⟩; have n0_ := A_ (Kd.R_mono (ok' := fun k_ => some k_ ≠ (.slice Ao30 t220.length co30 : Value).ownBlock ∧ some k_ ≠ (.slice Ao37 t226.length co37 : Value).ownBlock ∧ some k_ ≠ (.slice Ao64 t234.length co64 : Value).ownBlock) (Kd.R_keptB (HO_218002.out) hkp (fun k_ hk_ hs_ => (hk_.1.1) hs_)) (fun k_ hk_ => ⟨hk_.1.1.1, hk_.1.1.2, hk_.1.2⟩)); have n1_ := A_ (Kd.R_reok rfl hy0 (fun k_ e_ => HO_224002.out.1 k_ e_)); have n2_ := A_ (Kd.R_mono (ok' := fun k_ => some k_ ≠ (.slice Ao23 t213.length co23 : Value).ownBlock ∧ some k_ ≠ (.slice Ao30 t220.length co30 : Value).ownBlock ∧ some k_ ≠ (.slice Ao64 t234.length co64 : Value).ownBlock) (Kd.R_keptB (HO_231002.out) hkp (fun k_ hk_ hs_ => (hk_.1.2) hs_)) (fun k_ hk_ => ⟨hk_.1.1.1, hk_.1.1.2, hk_.1.2⟩)); have n3_ := A_ (blk_kept (pl_ BK204) hkp (fun hs_ => (fun e_ => (Kd.R_ne HO_224002.out BK204.out (by decide)) e_) hs_)); have n4_ := A_ (blk_kept (pl_ BK217) hkp (fun hs_ => (fun e_ => (Kd.R_ne HO_224002.out BK217.out (by decide)) e_) hs_)); have n5_ := A_ (blk_kept (pl_ BK223) hkp (fun hs_ => (fun e_ => (Kd.R_ne HO_224002.out BK223.out (by decide)) e_) hs_)); have n6_ := A_ (blk_kept (pl_ BK230) hkp (fun hs_ => (fun e_ => (Kd.R_ne HO_224002.out BK230.out (by decide)) e_) hs_)); have n7_ := A_ (Kd.R_mono (ok' := fun k_ => some k_ ≠ (.slice Ao23 t213.length co23 : Value).ownBlock ∧ some k_ ≠ (.slice Ao30 t220.length co30 : Value).ownBlock ∧ some k_ ≠ (.slice Ao37 t226.length co37 : Value).ownBlock) (Kd.R_keptB (HO236.out) hkp (fun k_ hk_ hs_ => (hk_.1.2) hs_)) (fun k_ hk_ => ⟨hk_.1.1.1.2, hk_.1.1.2, hk_.1.2⟩)); have n8_ := A_ (hb); clear HO_218002; clear HO_224002; clear HO_231002; clear BK204; clear BK217; clear BK223; clear BK230; clear HO236; clear HB; have HO_218002 := n0_; have HO_224002 := n1_; have HO_231002 := n2_; have BK204 := n3_; have BK217 := n4_; have BK223 := n5_; have BK230 := n6_; have HO236 := n7_; have HB := n8_; clear n0_ n1_ n2_ n3_ n4_ n5_ n6_ n7_ n8_; (try clear hb); (try clear hkp); (try clear hy0)))
      (try simp only [Act.put, List.setIfInBounds_toArray, List.set_cons_zero, List.set_cons_succ])
      go_cut [65] (fun v65 wc => ∃ (kq : Nat) (x65_60 : Bool), v65 = .bool x65_60 ∧ Aside0 (laws_FnExactDropWord.j1 kq a1 t216 x65_60 a0_0 a0_1 l0_2 t211 t212 t213 t224 t225 t226 = some r) ∧ Aside0 (kq ≤ kj11) ∧ Aside0 (Kd.R k41 41 wc w.heap.size (fun k_ => some k_ ≠ ((.slice Ao30 t220.length co30) : Value).ownBlock ∧ some k_ ≠ ((.slice Ao37 t226.length co37) : Value).ownBlock) (.slice Ao23 t213.length co23) t213) ∧ Aside0 (Kd.R k41 41 wc w.heap.size (fun k_ => some k_ ≠ ((.slice Ao23 t213.length co23) : Value).ownBlock ∧ some k_ ≠ ((.slice Ao37 t226.length co37) : Value).ownBlock) (.slice Ao30 t220.length co30) t239) ∧ Aside0 (Kd.R k41 41 wc w.heap.size (fun k_ => some k_ ≠ ((.slice Ao23 t213.length co23) : Value).ownBlock ∧ some k_ ≠ ((.slice Ao30 t220.length co30) : Value).ownBlock) (.slice Ao37 t226.length co37) t226) ∧ Aside0 (wc.heap[gb204]? = some (.cells #[.int .i8 a0_0, .int .i8 a0_1, (.slice A0_2 l0_2.length c0_2)] 25 (0, 0))) ∧ Aside0 (wc.heap[gb217]? = some (.cells #[.int .i8 t211, .int .i8 t212, (.slice Ao23 t213.length co23)] 29 (0, 0))) ∧ Aside0 (wc.heap[gb223]? = some (.cells #[.int .i8 t218, .int .i8 t219, (.slice Ao30 t220.length co30)] 29 (0, 0))) ∧ Aside0 (wc.heap[gb230]? = some (.cells #[.int .i8 t224, .int .i8 t225, (.slice Ao37 t226.length co37)] 29 (0, 0))) ∧ Aside0 (Below w.heap.size w wc))
      case first =>
       have H := HC61.out
       clear HC61
       by_cases c71 : t238 < 0
       ·rw [if_pos c71] at H
        have c71b0 : decide (t238 < 0) = true := decide_eq_true c71
        clear c71
        (first | rw [c71b0] | (simp only [i64_w, i32_w]; rw [c71b0]) | skip)
        have H' := Aside0.mk H
        clear H
        go_wp2
        go_meet
        case rel => exact ⟨_, (true), rs_, H', ⟨by have := HJ11.out; first | omega | exact Nat.le_refl _⟩, ⟨by (with_reducible repeat (first | apply Kd.R_alloc | apply Kd.R_drewN | apply Kd.R_drew)); exact Kd.R_mono HO_218002.out (fun _ hk => ⟨hk.1, hk.2.1⟩)⟩, ⟨by (with_reducible repeat (first | apply Kd.R_alloc | apply Kd.R_drewN | apply Kd.R_drew)); exact Kd.R_mono HO_224002.out (fun _ hk => ⟨hk.1.1, hk.1.2⟩)⟩, ⟨by (with_reducible repeat (first | apply Kd.R_alloc | apply Kd.R_drewN | apply Kd.R_drew)); exact Kd.R_mono HO_231002.out (fun _ hk => ⟨hk.1, hk.2.1⟩)⟩, ⟨pl_ BK204⟩, ⟨pl_ BK217⟩, ⟨pl_ BK223⟩, ⟨pl_ BK230⟩, ⟨bl_ HB⟩⟩
       ·rw [if_neg c71] at H
        have c71b0 : decide (t238 < 0) = false := decide_eq_false c71
        clear c71
        (first | rw [c71b0] | (simp only [i64_w, i32_w]; rw [c71b0]) | skip)
        replace H := Option.bind_eq_some_iff.mp H
        obtain ⟨t240, A720, H⟩ := H
        replace H : (if t240 = true then (laws_FnExactDropWord.j1 kj11 a1 t216 (t229 != t216) a0_0 a0_1 l0_2 t211 t212 t213 t224 t225 t226) else (laws_FnExactDropWord.j1 kj11 a1 t216 true a0_0 a0_1 l0_2 t211 t212 t213 t224 t225 t226)) = some r := H
        have A72 := Aside0.mk A720
        clear A720
        by_cases c73 : t240 = true
        ·subst c73
         have H1 : (laws_FnExactDropWord.j1 kj11 a1 t216 (t229 != t216) a0_0 a0_1 l0_2 t211 t212 t213 t224 t225 t226) = some r := by rw [if_pos rfl] at H; exact H
         clear H
         have H := H1
         clear H1
         have H' := Aside0.mk H
         clear H
         have hnb74 := NB230_204.out
         have hnc74 := NB204_230.out
         have hnb75 := NB230_217.out
         have hnc75 := NB217_230.out
         have hnb76 := NB230_223.out
         have hnc76 := NB223_230.out
         obtain ⟨hcz77_0, hcz77_1, hcz77_2, hfz77_0, hfz77_1, hfz77_2⟩ := cl3_ BK230
         have hnb78 := NB217_204.out
         have hnc78 := NB204_217.out
         have hnb79 := NB217_223.out
         have hnc79 := NB223_217.out
         obtain ⟨hcz80_0, hcz80_1, hcz80_2, hfz80_0, hfz80_1, hfz80_2⟩ := cl3_ BK217
         go_wp2_with (first | (go_at_call 9; (with_reducible refine (laws_eqFixed.calls kj11 t224 t225 _ _ t226 t211 t212 _ _ t213 true _ ?side1 ?side2 ?side3 ?side4 A72.out).mono ?_); (case side1 => repeat (first | exact (Kd.R_reads' HO_231002.out).2.2 | (with_reducible refine Kd.C_alloc ?_ _) | (with_reducible refine Kd.C_drewN ?_ _) | (with_reducible refine Kd.C_drew ?_))); (case side2 => exact (Kd.R_reads' HO_231002.out).2.1); (case side3 => repeat (first | exact (Kd.R_reads' HO_218002.out).2.2 | (with_reducible refine Kd.C_alloc ?_ _) | (with_reducible refine Kd.C_drewN ?_ _) | (with_reducible refine Kd.C_drew ?_))); (case side4 => exact (Kd.R_reads' HO_218002.out).2.1); rintro e w81 ⟨rfl, hb⟩; have n0_ := A_ (Kd.R_below (pr_ HO_218002) hb); have n1_ := A_ (Kd.R_below (pr_ HO_224002) hb); have n2_ := A_ (Kd.R_below (pr_ HO_231002) hb); have n3_ := A_ (Kd.R_below (pr_ HO236) hb); have n4_ := A_ (blk_below (pl_ BK204) hb); have n5_ := A_ (blk_below (pl_ BK217) hb); have n6_ := A_ (blk_below (pl_ BK223) hb); have n7_ := A_ (blk_below (pl_ BK230) hb); have n8_ := A_ (below_step (bl_ HB) hb); clear HO_218002; clear HO_224002; clear HO_231002; clear HO236; clear BK204; clear BK217; clear BK223; clear BK230; clear HB; have HO_218002 := n0_; have HO_224002 := n1_; have HO_231002 := n2_; have HO236 := n3_; have BK204 := n4_; have BK217 := n5_; have BK223 := n6_; have BK230 := n7_; have HB := n8_; clear n0_ n1_ n2_ n3_ n4_ n5_ n6_ n7_ n8_; (try clear hb); (try clear hb2); (try clear hk); (try clear hi)))
         go_meet
         case rel => exact ⟨_, ((t229 != t216)), rs_, H', ⟨by have := HJ11.out; first | omega | exact Nat.le_refl _⟩, ⟨by (with_reducible repeat (first | apply Kd.R_alloc | apply Kd.R_drewN | apply Kd.R_drew)); exact Kd.R_mono HO_218002.out (fun _ hk => ⟨hk.1, hk.2.1⟩)⟩, ⟨by (with_reducible repeat (first | apply Kd.R_alloc | apply Kd.R_drewN | apply Kd.R_drew)); exact Kd.R_mono HO_224002.out (fun _ hk => ⟨hk.1.1, hk.1.2⟩)⟩, ⟨by (with_reducible repeat (first | apply Kd.R_alloc | apply Kd.R_drewN | apply Kd.R_drew)); exact Kd.R_mono HO_231002.out (fun _ hk => ⟨hk.1, hk.2.1⟩)⟩, ⟨pl_ BK204⟩, ⟨pl_ BK217⟩, ⟨pl_ BK223⟩, ⟨pl_ BK230⟩, ⟨bl_ HB⟩⟩
        ·replace c73 := Bool.eq_false_iff.mpr c73
         subst c73
         have H1 : (laws_FnExactDropWord.j1 kj11 a1 t216 true a0_0 a0_1 l0_2 t211 t212 t213 t224 t225 t226) = some r := by rw [if_neg (show ¬ (false = true) by decide)] at H; exact H
         clear H
         have H := H1
         clear H1
         have H' := Aside0.mk H
         clear H
         have hnb82 := NB230_204.out
         have hnc82 := NB204_230.out
         have hnb83 := NB230_217.out
         have hnc83 := NB217_230.out
         have hnb84 := NB230_223.out
         have hnc84 := NB223_230.out
         obtain ⟨hcz85_0, hcz85_1, hcz85_2, hfz85_0, hfz85_1, hfz85_2⟩ := cl3_ BK230
         have hnb86 := NB217_204.out
         have hnc86 := NB204_217.out
         have hnb87 := NB217_223.out
         have hnc87 := NB223_217.out
         obtain ⟨hcz88_0, hcz88_1, hcz88_2, hfz88_0, hfz88_1, hfz88_2⟩ := cl3_ BK217
         go_wp2_with (first | (go_at_call 9; (with_reducible refine (laws_eqFixed.calls kj11 t224 t225 _ _ t226 t211 t212 _ _ t213 false _ ?side1 ?side2 ?side3 ?side4 A72.out).mono ?_); (case side1 => repeat (first | exact (Kd.R_reads' HO_231002.out).2.2 | (with_reducible refine Kd.C_alloc ?_ _) | (with_reducible refine Kd.C_drewN ?_ _) | (with_reducible refine Kd.C_drew ?_))); (case side2 => exact (Kd.R_reads' HO_231002.out).2.1); (case side3 => repeat (first | exact (Kd.R_reads' HO_218002.out).2.2 | (with_reducible refine Kd.C_alloc ?_ _) | (with_reducible refine Kd.C_drewN ?_ _) | (with_reducible refine Kd.C_drew ?_))); (case side4 => exact (Kd.R_reads' HO_218002.out).2.1); rintro e w89 ⟨rfl, hb⟩; have n0_ := A_ (Kd.R_below (pr_ HO_218002) hb); have n1_ := A_ (Kd.R_below (pr_ HO_224002) hb); have n2_ := A_ (Kd.R_below (pr_ HO_231002) hb); have n3_ := A_ (Kd.R_below (pr_ HO236) hb); have n4_ := A_ (blk_below (pl_ BK204) hb); have n5_ := A_ (blk_below (pl_ BK217) hb); have n6_ := A_ (blk_below (pl_ BK223) hb); have n7_ := A_ (blk_below (pl_ BK230) hb); have n8_ := A_ (below_step (bl_ HB) hb); clear HO_218002; clear HO_224002; clear HO_231002; clear HO236; clear BK204; clear BK217; clear BK223; clear BK230; clear HB; have HO_218002 := n0_; have HO_224002 := n1_; have HO_231002 := n2_; have HO236 := n3_; have BK204 := n4_; have BK217 := n5_; have BK223 := n6_; have BK230 := n7_; have HB := n8_; clear n0_ n1_ n2_ n3_ n4_ n5_ n6_ n7_ n8_; (try clear hb); (try clear hb2); (try clear hk); (try clear hi)))
         go_meet
         case rel => exact ⟨_, (true), rs_, H', ⟨by have := HJ11.out; first | omega | exact Nat.le_refl _⟩, ⟨by (with_reducible repeat (first | apply Kd.R_alloc | apply Kd.R_drewN | apply Kd.R_drew)); exact Kd.R_mono HO_218002.out (fun _ hk => ⟨hk.1, hk.2.1⟩)⟩, ⟨by (with_reducible repeat (first | apply Kd.R_alloc | apply Kd.R_drewN | apply Kd.R_drew)); exact Kd.R_mono HO_224002.out (fun _ hk => ⟨hk.1.1, hk.1.2⟩)⟩, ⟨by (with_reducible repeat (first | apply Kd.R_alloc | apply Kd.R_drewN | apply Kd.R_drew)); exact Kd.R_mono HO_231002.out (fun _ hk => ⟨hk.1, hk.2.1⟩)⟩, ⟨pl_ BK204⟩, ⟨pl_ BK217⟩, ⟨pl_ BK223⟩, ⟨pl_ BK230⟩, ⟨bl_ HB⟩⟩
      case rest =>
       clear HC61
       try clear c1
       try clear c2
       try clear p2
       try clear c3
       try clear c4
       try clear c4b0
       try clear c5
       try clear c6
       try clear c7
       try clear c8
       try clear c9
       try clear c10
       try clear c21
       try clear c27
       try clear c28
       try clear c33
       try clear c34
       try clear c35
       try clear c39
       try clear c40
       try clear c41
       try clear c42
       try clear c44
       try clear c45
       try clear c48
       try clear c49
       try clear c50
       try clear c52
       try clear c53
       try clear c56
       try clear c59
       try clear c66
       try clear c67
       try clear c68
       try clear c71
       try clear c71b0
       try clear c73
       try clear c74
       try clear c75
       try clear c76
       try clear c78
       try clear c79
       try clear c82
       try clear c83
       try clear c84
       try clear c86
       try clear c87
       try clear hcz14_0
       try clear hcz14_1
       try clear hcz14_2
       try clear hcz16_0
       try clear hcz16_1
       try clear hcz16_2
       try clear hcz22_0
       try clear hcz22_1
       try clear hcz22_2
       try clear hcz24_0
       try clear hcz24_1
       try clear hcz24_2
       try clear hcz29_0
       try clear hcz29_1
       try clear hcz29_2
       try clear hcz36_0
       try clear hcz36_1
       try clear hcz36_2
       try clear hcz43_0
       try clear hcz43_1
       try clear hcz43_2
       try clear hcz46_0
       try clear hcz46_1
       try clear hcz46_2
       try clear hcz51_0
       try clear hcz51_1
       try clear hcz51_2
       try clear hcz54_0
       try clear hcz54_1
       try clear hcz54_2
       try clear hcz69_0
       try clear hcz69_1
       try clear hcz69_2
       try clear hcz6_0
       try clear hcz6_1
       try clear hcz6_2
       try clear hcz77_0
       try clear hcz77_1
       try clear hcz77_2
       try clear hcz80_0
       try clear hcz80_1
       try clear hcz80_2
       try clear hcz85_0
       try clear hcz85_1
       try clear hcz85_2
       try clear hcz88_0
       try clear hcz88_1
       try clear hcz88_2
       try clear hfz14_0
       try clear hfz14_1
       try clear hfz14_2
       try clear hfz16_0
       try clear hfz16_1
       try clear hfz16_2
       try clear hfz22_0
       try clear hfz22_1
       try clear hfz22_2
       try clear hfz24_0
       try clear hfz24_1
       try clear hfz24_2
       try clear hfz29_0
       try clear hfz29_1
       try clear hfz29_2
       try clear hfz36_0
       try clear hfz36_1
       try clear hfz36_2
       try clear hfz43_0
       try clear hfz43_1
       try clear hfz43_2
       try clear hfz46_0
       try clear hfz46_1
       try clear hfz46_2
       try clear hfz51_0
       try clear hfz51_1
       try clear hfz51_2
       try clear hfz54_0
       try clear hfz54_1
       try clear hfz54_2
       try clear hfz69_0
       try clear hfz69_1
       try clear hfz69_2
       try clear hfz6_0
       try clear hfz6_1
       try clear hfz6_2
       try clear hfz77_0
       try clear hfz77_1
       try clear hfz77_2
       try clear hfz80_0
       try clear hfz80_1
       try clear hfz80_2
       try clear hfz85_0
       try clear hfz85_1
       try clear hfz85_2
       try clear hfz88_0
       try clear hfz88_1
       try clear hfz88_2
       try clear p2
       obtain ⟨kq, x65_60, rfl, HA, HJ60, HO_218002, HO_224002, HO_231002, BK204, BK217, BK223, BK230, HB⟩ := hcut
       have hl224002_60 := (Kd.R_reads' HO_224002.out).1
       rw [hl224002_60] at HO_224002
       (try simp only [hl224002_60])
       (try simp only [hl224002_60] at BK204)
       (try simp only [hl224002_60] at BK217)
       (try simp only [hl224002_60] at BK223)
       (try simp only [hl224002_60] at BK230)
       (try simp only [hl224002_60] at HO_218002)
       (try simp only [hl224002_60] at HO_231002)
       cases kq with
       | zero => exact absurd HA.out (by simp [laws_FnExactDropWord.j1])
       | succ kj60 =>
        have H := HA.out
        clear HA
        simp only [laws_FnExactDropWord.j1] at H
        by_cases c90 : x65_60 = true
        ·subst c90
         have H1 : (some false) = some r := by rw [if_pos rfl] at H; exact H
         clear H
         have H := H1
         clear H1
         obtain rfl := Option.some.inj H
         go_wp2
         go_ret
         exact ⟨by first | rfl | (simp [errW_none, errW_some] <;> rfl) | (simp [*, errW_none, errW_some] <;> rfl), bl_ HB⟩
        ·replace c90 := Bool.eq_false_iff.mpr c90
         subst c90
         have H1 : ((laws_markFixed.f kj60 t224 t225 t226 1).bind fun bt241 => ((laws_heldFixed.f kj60 t224 t225 bt241.2 1).bind fun t243 => (if t243 < 0 then (some false) else (if t243 = bt241.1 then ((laws_toFixed.f kj60 a0_0 a0_1 l0_2).bind fun bt244 => ((impl_DropWord.f kj60 bt244.1 bt244.2.1 bt244.2.2 a1).bind fun bt249 => ((laws_eqFixed.f kj60 bt249.1 bt249.2.1 bt249.2.2.1 t211 t212 t213).bind fun t256 => (if t256 = true then (laws_FnExactDropWord.j2 kj60 bt241.1 (bt249.2.2.2 != t216) t224 t225 bt241.2) else (laws_FnExactDropWord.j2 kj60 bt241.1 true t224 t225 bt241.2))))) else (some false))))) = some r := by rw [if_neg (show ¬ (false = true) by decide)] at H; exact H
         clear H
         have H := H1
         clear H1
         replace H := Option.bind_eq_some_iff.mp H
         obtain ⟨⟨t241, t242⟩, A910, H⟩ := H
         replace H : ((laws_heldFixed.f kj60 t224 t225 t242 1).bind fun t243 => (if t243 < 0 then (some false) else (if t243 = t241 then ((laws_toFixed.f kj60 a0_0 a0_1 l0_2).bind fun bt244 => ((impl_DropWord.f kj60 bt244.1 bt244.2.1 bt244.2.2 a1).bind fun bt249 => ((laws_eqFixed.f kj60 bt249.1 bt249.2.1 bt249.2.2.1 t211 t212 t213).bind fun t256 => (if t256 = true then (laws_FnExactDropWord.j2 kj60 t241 (bt249.2.2.2 != t216) t224 t225 t242) else (laws_FnExactDropWord.j2 kj60 t241 true t224 t225 t242))))) else (some false)))) = some r := H
         have A91 := Aside0.mk A910
         clear A910
         replace H := Option.bind_eq_some_iff.mp H
         obtain ⟨t243, A920, H⟩ := H
         replace H : (if t243 < 0 then (some false) else (if t243 = t241 then ((laws_toFixed.f kj60 a0_0 a0_1 l0_2).bind fun bt244 => ((impl_DropWord.f kj60 bt244.1 bt244.2.1 bt244.2.2 a1).bind fun bt249 => ((laws_eqFixed.f kj60 bt249.1 bt249.2.1 bt249.2.2.1 t211 t212 t213).bind fun t256 => (if t256 = true then (laws_FnExactDropWord.j2 kj60 t241 (bt249.2.2.2 != t216) t224 t225 t242) else (laws_FnExactDropWord.j2 kj60 t241 true t224 t225 t242))))) else (some false))) = some r := H
         have A92 := Aside0.mk A920
         clear A920
         by_cases c93 : t243 < 0
         ·rw [if_pos c93] at H
          have c93b0 : decide (t243 < 0) = true := decide_eq_true c93
          clear c93
          obtain rfl := Option.some.inj H
          have hnb94 := NB230_204.out
          have hnc94 := NB204_230.out
          have hnb95 := NB230_217.out
          have hnc95 := NB217_230.out
          have hnb96 := NB230_223.out
          have hnc96 := NB223_230.out
          obtain ⟨hcz97_0, hcz97_1, hcz97_2, hfz97_0, hfz97_1, hfz97_2⟩ := cl3_ BK230
          go_wp2_with (first | ((with_reducible refine gate_callee (f := 10) rfl ?_); refine goesL_ (some 68) rfl rfl Try.func10 (by kernel_rfl) rfl #[.agg #[.int .i8 t224, .int .i8 t225, .slice Ao37 t226.length co37], .int .i64 1] rfl arg_ ?_; (with_reducible refine (laws_markFixed.calls kj60 t224 t225 (fun k_ => some k_ = (.slice Ao37 t226.length co37 : Value).ownBlock) (.slice Ao37 t226.length co37) t226 1 t241 t242 w _ ?side1 ?side2 A91.out).mono ?_); (case side1 => repeat (first | (with_reducible first | exact HB.out | apply below_alloc | apply pw_below_drewN | apply below_drew1) | exact HB.out)); (case side2 => exact Kd.R_tight rfl HO_231002.out); rintro e w98 ⟨rfl, hy0, hb, hkp⟩; refine ⟨_, rfl, ?_⟩; have n0_ := A_ (Kd.R_mono (ok' := fun k_ => some k_ ≠ (.slice Ao30 t239.length co30 : Value).ownBlock ∧ some k_ ≠ (.slice Ao37 t226.length co37 : Value).ownBlock) (Kd.R_keptB (HO_218002.out) hkp (fun k_ hk_ hs_ => (hk_.2) hs_)) (fun k_ hk_ => ⟨hk_.1.1, hk_.1.2⟩)); have n1_ := A_ (Kd.R_mono (ok' := fun k_ => some k_ ≠ (.slice Ao23 t213.length co23 : Value).ownBlock ∧ some k_ ≠ (.slice Ao37 t226.length co37 : Value).ownBlock) (Kd.R_keptB (HO_224002.out) hkp (fun k_ hk_ hs_ => (hk_.2) hs_)) (fun k_ hk_ => ⟨hk_.1.1, hk_.1.2⟩)); have n2_ := A_ (Kd.R_reok rfl hy0 (fun k_ e_ => HO_231002.out.1 k_ e_)); have n3_ := A_ (blk_kept (pl_ BK204) hkp (fun hs_ => (fun e_ => (Kd.R_ne HO_231002.out BK204.out (by decide)) e_) hs_)); have n4_ := A_ (blk_kept (pl_ BK217) hkp (fun hs_ => (fun e_ => (Kd.R_ne HO_231002.out BK217.out (by decide)) e_) hs_)); have n5_ := A_ (blk_kept (pl_ BK223) hkp (fun hs_ => (fun e_ => (Kd.R_ne HO_231002.out BK223.out (by decide)) e_) hs_)); have n6_ := A_ (blk_kept (pl_ BK230) hkp (fun hs_ => (fun e_ => (Kd.R_ne HO_231002.out BK230.out (by decide)) e_) hs_)); have n7_ := A_ (hb); clear HO_218002; clear HO_224002; clear HO_231002; clear BK204; clear BK217; clear BK223; clear BK230; clear HB; have HO_218002 := n0_; have HO_224002 := n1_; have HO_231002 := n2_; have BK204 := n3_; have BK217 := n4_; have BK223 := n5_; have BK230 := n6_; have HB := n7_; clear n0_ n1_ n2_ n3_ n4_ n5_ n6_ n7_; (try clear hb); (try clear hkp); (try clear hy0); obtain ⟨hcz99_0, hcz99_1, hcz99_2, hfz99_0, hfz99_1, hfz99_2⟩ := cl3_ BK230) | ((with_reducible refine gate_callee (f := 11) rfl ?_); refine goesL_ (some 71) rfl rfl Try.func11 (by kernel_rfl) rfl #[.agg #[.int .i8 t224, .int .i8 t225, .slice Ao37 t242.length co37], .int .i64 1] rfl (by (try simp only [List.map_toArray, List.map_cons, List.map_nil]); first | done | (rw [show t242.length = t226.length from (Kd.R_reads' HO_231002.out).1.symm] <;> rfl) | rfl | (simp only [List.length_drop, List.length_take]; rfl)) ?_; (with_reducible refine (laws_heldFixed.calls kj60 t224 t225 _ _ t242 1 t243 _ ?side1 ?side2 A92.out).mono ?_); (case side1 => repeat (first | exact (Kd.R_reads' HO_231002.out).2.2 | (with_reducible refine Kd.C_alloc ?_ _) | (with_reducible refine Kd.C_drewN ?_ _) | (with_reducible refine Kd.C_drew ?_))); (case side2 => rw [show t242.length = t226.length from (Kd.R_reads' HO_231002.out).1.symm]; exact (Kd.R_reads' HO_231002.out).2.1); rintro e w100 ⟨rfl, hb⟩; refine ⟨_, rfl, ?_⟩; have n0_ := A_ (Kd.R_below (pr_ HO_218002) hb); have n1_ := A_ (Kd.R_below (pr_ HO_224002) hb); have n2_ := A_ (Kd.R_below (pr_ HO_231002) hb); have n3_ := A_ (blk_below (pl_ BK204) hb); have n4_ := A_ (blk_below (pl_ BK217) hb); have n5_ := A_ (blk_below (pl_ BK223) hb); have n6_ := A_ (blk_below (pl_ BK230) hb); have n7_ := A_ (below_step (bl_ HB) hb); clear HO_218002; clear HO_224002; clear HO_231002; clear BK204; clear BK217; clear BK223; clear BK230; clear HB; have HO_218002 := n0_; have HO_224002 := n1_; have HO_231002 := n2_; have BK204 := n3_; have BK217 := n4_; have BK223 := n5_; have BK230 := n6_; have HB := n7_; clear n0_ n1_ n2_ n3_ n4_ n5_ n6_ n7_; (try clear hb); (try clear hb2); (try clear hk); (try clear hi)))
          go_ret
          exact ⟨by first | rfl | (simp [errW_none, errW_some] <;> rfl) | (simp [*, errW_none, errW_some] <;> rfl), bl_ HB⟩
         ·rw [if_neg c93] at H
          have c93b0 : decide (t243 < 0) = false := decide_eq_false c93
          clear c93
          by_cases c101 : t243 = t241
          ·rw [if_pos c101] at H
           have c101b0 : (t243 == t241) = true := beq_iff_eq.mpr c101
           have c101b1 : (t243 != t241) = false := bne_eq_false_iff_eq.mpr c101
           clear c101
           replace H := Option.bind_eq_some_iff.mp H
           obtain ⟨⟨t244, t245, t246⟩, A1020, H⟩ := H
           replace H : ((impl_DropWord.f kj60 t244 t245 t246 a1).bind fun bt249 => ((laws_eqFixed.f kj60 bt249.1 bt249.2.1 bt249.2.2.1 t211 t212 t213).bind fun t256 => (if t256 = true then (laws_FnExactDropWord.j2 kj60 t241 (bt249.2.2.2 != t216) t224 t225 t242) else (laws_FnExactDropWord.j2 kj60 t241 true t224 t225 t242)))) = some r := H
           have A102 := Aside0.mk A1020
           clear A1020
           replace H := Option.bind_eq_some_iff.mp H
           obtain ⟨⟨t249, t250, t251, t254⟩, A1030, H⟩ := H
           replace H : ((laws_eqFixed.f kj60 t249 t250 t251 t211 t212 t213).bind fun t256 => (if t256 = true then (laws_FnExactDropWord.j2 kj60 t241 (t254 != t216) t224 t225 t242) else (laws_FnExactDropWord.j2 kj60 t241 true t224 t225 t242))) = some r := H
           have A103 := Aside0.mk A1030
           clear A1030
           have HC104 := Aside0.mk H
           clear H
           have hnb105 := NB230_204.out
           have hnc105 := NB204_230.out
           have hnb106 := NB230_217.out
           have hnc106 := NB217_230.out
           have hnb107 := NB230_223.out
           have hnc107 := NB223_230.out
           obtain ⟨hcz108_0, hcz108_1, hcz108_2, hfz108_0, hfz108_1, hfz108_2⟩ := cl3_ BK230
           go_upto_region 25 with (first | ((with_reducible refine gate_callee (f := 10) rfl ?_); refine goesL_ (some 68) rfl rfl Try.func10 (by kernel_rfl) rfl #[.agg #[.int .i8 t224, .int .i8 t225, .slice Ao37 t226.length co37], .int .i64 1] rfl arg_ ?_; (with_reducible refine (laws_markFixed.calls kj60 t224 t225 (fun k_ => some k_ = (.slice Ao37 t226.length co37 : Value).ownBlock) (.slice Ao37 t226.length co37) t226 1 t241 t242 w _ ?side1 ?side2 A91.out).mono ?_); (case side1 => repeat (first | (with_reducible first | exact HB.out | apply below_alloc | apply pw_below_drewN | apply below_drew1) | exact HB.out)); (case side2 => exact Kd.R_tight rfl HO_231002.out); rintro e w109 ⟨rfl, hy0, hb, hkp⟩; refine ⟨_, rfl, ?_⟩; have n0_ := A_ (Kd.R_mono (ok' := fun k_ => some k_ ≠ (.slice Ao30 t239.length co30 : Value).ownBlock ∧ some k_ ≠ (.slice Ao37 t226.length co37 : Value).ownBlock) (Kd.R_keptB (HO_218002.out) hkp (fun k_ hk_ hs_ => (hk_.2) hs_)) (fun k_ hk_ => ⟨hk_.1.1, hk_.1.2⟩)); have n1_ := A_ (Kd.R_mono (ok' := fun k_ => some k_ ≠ (.slice Ao23 t213.length co23 : Value).ownBlock ∧ some k_ ≠ (.slice Ao37 t226.length co37 : Value).ownBlock) (Kd.R_keptB (HO_224002.out) hkp (fun k_ hk_ hs_ => (hk_.2) hs_)) (fun k_ hk_ => ⟨hk_.1.1, hk_.1.2⟩)); have n2_ := A_ (Kd.R_reok rfl hy0 (fun k_ e_ => HO_231002.out.1 k_ e_)); have n3_ := A_ (blk_kept (pl_ BK204) hkp (fun hs_ => (fun e_ => (Kd.R_ne HO_231002.out BK204.out (by decide)) e_) hs_)); have n4_ := A_ (blk_kept (pl_ BK217) hkp (fun hs_ => (fun e_ => (Kd.R_ne HO_231002.out BK217.out (by decide)) e_) hs_)); have n5_ := A_ (blk_kept (pl_ BK223) hkp (fun hs_ => (fun e_ => (Kd.R_ne HO_231002.out BK223.out (by decide)) e_) hs_)); have n6_ := A_ (blk_kept (pl_ BK230) hkp (fun hs_ => (fun e_ => (Kd.R_ne HO_231002.out BK230.out (by decide)) e_) hs_)); have n7_ := A_ (hb); clear HO_218002; clear HO_224002; clear HO_231002; clear BK204; clear BK217; clear BK223; clear BK230; clear HB; have HO_218002 := n0_; have HO_224002 := n1_; have HO_231002 := n2_; have BK204 := n3_; have BK217 := n4_; have BK223 := n5_; have BK230 := n6_; have HB := n7_; clear n0_ n1_ n2_ n3_ n4_ n5_ n6_ n7_; (try clear hb); (try clear hkp); (try clear hy0); obtain ⟨hcz110_0, hcz110_1, hcz110_2, hfz110_0, hfz110_1, hfz110_2⟩ := cl3_ BK230) | ((with_reducible refine gate_callee (f := 11) rfl ?_); refine goesL_ (some 71) rfl rfl Try.func11 (by kernel_rfl) rfl #[.agg #[.int .i8 t224, .int .i8 t225, .slice Ao37 t242.length co37], .int .i64 1] rfl (by (try simp only [List.map_toArray, List.map_cons, List.map_nil]); first | done | (rw [show t242.length = t226.length from (Kd.R_reads' HO_231002.out).1.symm] <;> rfl) | rfl | (simp only [List.length_drop, List.length_take]; rfl)) ?_; (with_reducible refine (laws_heldFixed.calls kj60 t224 t225 _ _ t242 1 t243 _ ?side1 ?side2 A92.out).mono ?_); (case side1 => repeat (first | exact (Kd.R_reads' HO_231002.out).2.2 | (with_reducible refine Kd.C_alloc ?_ _) | (with_reducible refine Kd.C_drewN ?_ _) | (with_reducible refine Kd.C_drew ?_))); (case side2 => rw [show t242.length = t226.length from (Kd.R_reads' HO_231002.out).1.symm]; exact (Kd.R_reads' HO_231002.out).2.1); rintro e w111 ⟨rfl, hb⟩; refine ⟨_, rfl, ?_⟩; have n0_ := A_ (Kd.R_below (pr_ HO_218002) hb); have n1_ := A_ (Kd.R_below (pr_ HO_224002) hb); have n2_ := A_ (Kd.R_below (pr_ HO_231002) hb); have n3_ := A_ (blk_below (pl_ BK204) hb); have n4_ := A_ (blk_below (pl_ BK217) hb); have n5_ := A_ (blk_below (pl_ BK223) hb); have n6_ := A_ (blk_below (pl_ BK230) hb); have n7_ := A_ (below_step (bl_ HB) hb); clear HO_218002; clear HO_224002; clear HO_231002; clear BK204; clear BK217; clear BK223; clear BK230; clear HB; have HO_218002 := n0_; have HO_224002 := n1_; have HO_231002 := n2_; have BK204 := n3_; have BK217 := n4_; have BK223 := n5_; have BK230 := n6_; have HB := n7_; clear n0_ n1_ n2_ n3_ n4_ n5_ n6_ n7_; (try clear hb); (try clear hb2); (try clear hk); (try clear hi); have hnb112 := NB204_217.out; have hnc112 := NB217_204.out; have hnb113 := NB204_223.out; have hnc113 := NB223_204.out; obtain ⟨hcz114_0, hcz114_1, hcz114_2, hfz114_0, hfz114_1, hfz114_2⟩ := cl3_ BK204) | ((with_reducible refine gate_callee (f := 7) rfl ?_); refine goesL_ (some 79) rfl rfl Try.func7 (by kernel_rfl) rfl #[.agg #[.int .i8 a0_0, .int .i8 a0_1, .slice A0_2 l0_2.length c0_2]] rfl arg_ ?_; (with_reducible refine (laws_toFixed.calls kj60 a0_0 a0_1 _ _ l0_2 t244 t245 t246 _ ?side1 ?side2 A102.out).mono ?_); (case side1 => exact Kd.C_below HR0_2.out (bl_ HB)); (case side2 => exact HC0_2.out); rintro e w115 ⟨v247, rfl, ho0, hb⟩; refine ⟨_, rfl, ?_⟩; have n0_ := A_ (Kd.R_elder' (pr_ HO_218002) (Kd.R_base ho0) hb); have n1_ := A_ (Kd.R_elder' (pr_ HO_224002) (Kd.R_base ho0) hb); have n2_ := A_ (Kd.R_elder' (pr_ HO_231002) (Kd.R_base ho0) hb); have n3_ := A_ (Kd.R_lower (Kd.R_new' (Kd.R_new' (Kd.R_new' ho0 (Kd.R_lt (pr_ HO_218002))) (Kd.R_lt (pr_ HO_224002))) (Kd.R_lt (pr_ HO_231002))) (below_size (bl_ HB))); have n4_ := A_ (blk_below (pl_ BK204) hb); have n5_ := A_ (blk_below (pl_ BK217) hb); have n6_ := A_ (blk_below (pl_ BK223) hb); have n7_ := A_ (blk_below (pl_ BK230) hb); have n8_ := A_ (below_step (bl_ HB) hb); clear HO_218002; clear HO_224002; clear HO_231002; clear BK204; clear BK217; clear BK223; clear BK230; clear HB; have HO_218002 := n0_; have HO_224002 := n1_; have HO_231002 := n2_; have HO248 := n3_; have BK204 := n4_; have BK217 := n5_; have BK223 := n6_; have BK230 := n7_; have HB := n8_; clear n0_ n1_ n2_ n3_ n4_ n5_ n6_ n7_ n8_; (try clear hb); (try clear hb2); (try clear hk); (try clear hi); (try clear ho0); obtain ⟨Ao116, co116, eo116⟩ := Kd.R_slice HO248.out; subst eo116) | ((with_reducible refine gate_callee (f := 8) rfl ?_); refine goesL_ (some 81) rfl rfl Try.func8 (by kernel_rfl) rfl #[.agg #[.int .i8 t244, .int .i8 t245, .slice Ao116 t246.length co116], .int .i64 a1] rfl arg_ ?_; (with_reducible refine (impl_DropWord.calls kj60 t244 t245 _ _ t246 a1 t249 t250 t251 t254 _ ?side1 ?side2 A103.out).mono ?_); (case side1 => repeat (first | exact (Kd.R_reads' HO248.out).2.2 | (with_reducible refine Kd.C_alloc ?_ _) | (with_reducible refine Kd.C_drewN ?_ _) | (with_reducible refine Kd.C_drew ?_))); (case side2 => exact (Kd.R_reads' HO248.out).2.1); rintro e w117 ⟨v252, rfl, ho0, hb⟩; refine ⟨_, rfl, ?_⟩; have n0_ := A_ (Kd.R_elder' (pr_ HO_218002) (Kd.R_base ho0) hb); have n1_ := A_ (Kd.R_elder' (pr_ HO_224002) (Kd.R_base ho0) hb); have n2_ := A_ (Kd.R_elder' (pr_ HO_231002) (Kd.R_base ho0) hb); have n3_ := A_ (Kd.R_elder' (pr_ HO248) (Kd.R_base ho0) hb); have n4_ := A_ (Kd.R_lower (Kd.R_new' (Kd.R_new' (Kd.R_new' (Kd.R_new' ho0 (Kd.R_lt (pr_ HO_218002))) (Kd.R_lt (pr_ HO_224002))) (Kd.R_lt (pr_ HO_231002))) (Kd.R_lt (pr_ HO248))) (below_size (bl_ HB))); have n5_ := A_ (blk_below (pl_ BK204) hb); have n6_ := A_ (blk_below (pl_ BK217) hb); have n7_ := A_ (blk_below (pl_ BK223) hb); have n8_ := A_ (blk_below (pl_ BK230) hb); have n9_ := A_ (below_step (bl_ HB) hb); clear HO_218002; clear HO_224002; clear HO_231002; clear HO248; clear BK204; clear BK217; clear BK223; clear BK230; clear HB; have HO_218002 := n0_; have HO_224002 := n1_; have HO_231002 := n2_; have HO248 := n3_; have HO253 := n4_; have BK204 := n5_; have BK217 := n6_; have BK223 := n7_; have BK230 := n8_; have HB := n9_; clear n0_ n1_ n2_ n3_ n4_ n5_ n6_ n7_ n8_ n9_; (try clear hb); (try clear hb2); (try clear hk); (try clear hi); (try clear ho0)) | ((with_reducible refine gate_dst (N := 14) rfl ?_); refine box_event ?hg (N := 14) ?hd (cs := #[.int .i8 0, .int .i8 0, .slice none 0 0]) (t := 29) ?hr ?_; (case hd => rfl); (case hg => rfl); (case hr => first | (go_simp; done) | (go_simp; rfl)); intro gb255 hg w118 hbox hb; have n0_ := A_ (Kd.R_below (pr_ HO_218002) hb); have n1_ := A_ (Kd.R_below (pr_ HO_224002) hb); have n2_ := A_ (Kd.R_below (pr_ HO_231002) hb); have n3_ := A_ (Kd.R_below (pr_ HO248) hb); have n4_ := A_ (Kd.R_below (pr_ HO253) hb); have n5_ := A_ (blk_below (pl_ BK204) hb); have n6_ := A_ (blk_below (pl_ BK217) hb); have n7_ := A_ (blk_below (pl_ BK223) hb); have n8_ := A_ (blk_below (pl_ BK230) hb); have n9_ := A_ (below_step (bl_ HB) hb); have n10_ := A_ (hbox); have n11_ := A_ ((by rw [hg]; exact (below_size (bl_ HB)) : w.heap.size ≤ gb255)); have n12_ := n11_; have n13_ := A_ ((by rw [hg]; exact Nat.ne_of_lt (blk_lt (pl_ BK204)) : gb204 ≠ gb255)); have n14_ := Aside0.mk n13_.out.symm; have n15_ := A_ ((by rw [hg]; exact Nat.ne_of_lt (blk_lt (pl_ BK217)) : gb217 ≠ gb255)); have n16_ := Aside0.mk n15_.out.symm; have n17_ := A_ ((by rw [hg]; exact Nat.ne_of_lt (blk_lt (pl_ BK223)) : gb223 ≠ gb255)); have n18_ := Aside0.mk n17_.out.symm; have n19_ := A_ ((by rw [hg]; exact Nat.ne_of_lt (blk_lt (pl_ BK230)) : gb230 ≠ gb255)); have n20_ := Aside0.mk n19_.out.symm; clear HO_218002; clear HO_224002; clear HO_231002; clear HO248; clear HO253; clear BK204; clear BK217; clear BK223; clear BK230; clear HB; have HO_218002 := n0_; have HO_224002 := n1_; have HO_231002 := n2_; have HO248 := n3_; have HO253 := n4_; have BK204 := n5_; have BK217 := n6_; have BK223 := n7_; have BK230 := n8_; have HB := n9_; have BK255 := n10_; have GW255 := n11_; have GE255 := n12_; have NB204_255 := n13_; have NB255_204 := n14_; have NB217_255 := n15_; have NB255_217 := n16_; have NB223_255 := n17_; have NB255_223 := n18_; have NB230_255 := n19_; have NB255_230 := n20_; clear n0_ n1_ n2_ n3_ n4_ n5_ n6_ n7_ n8_ n9_ n10_ n11_ n12_ n13_ n14_ n15_ n16_ n17_ n18_ n19_ n20_; clear hb hbox hg; have hnb119 := NB255_204.out; have hnc119 := NB204_255.out; have hnb120 := NB255_217.out; have hnc120 := NB217_255.out; have hnb121 := NB255_223.out; have hnc121 := NB223_255.out; have hnb122 := NB255_230.out; have hnc122 := NB230_255.out; obtain ⟨hcz123_0, hcz123_1, hcz123_2, hfz123_0, hfz123_1, hfz123_2⟩ := cl3_ BK255; obtain ⟨Ao124, co124, eo124⟩ := Kd.R_slice HO253.out; subst eo124))
           (try simp only [Act.put, List.setIfInBounds_toArray, List.set_cons_zero, List.set_cons_succ])
           go_cut [92] (fun v92 wc => ∃ (kq : Nat) (x92_103 : Bool), v92 = .bool x92_103 ∧ Aside0 (laws_FnExactDropWord.j2 kq t241 x92_103 t224 t225 t242 = some r) ∧ Aside0 (kq ≤ kj60) ∧ Aside0 (Kd.R k41 41 wc w.heap.size (fun k_ => some k_ ≠ ((.slice Ao30 t239.length co30) : Value).ownBlock ∧ some k_ ≠ ((.slice Ao37 t226.length co37) : Value).ownBlock ∧ some k_ ≠ ((.slice Ao124 t251.length co124) : Value).ownBlock) (.slice Ao23 t213.length co23) t213) ∧ Aside0 (Kd.R k41 41 wc w.heap.size (fun k_ => some k_ ≠ ((.slice Ao23 t213.length co23) : Value).ownBlock ∧ some k_ ≠ ((.slice Ao37 t226.length co37) : Value).ownBlock ∧ some k_ ≠ ((.slice Ao124 t251.length co124) : Value).ownBlock) (.slice Ao30 t239.length co30) t239) ∧ Aside0 (Kd.R k41 41 wc w.heap.size (fun k_ => some k_ ≠ ((.slice Ao23 t213.length co23) : Value).ownBlock ∧ some k_ ≠ ((.slice Ao30 t239.length co30) : Value).ownBlock ∧ some k_ ≠ ((.slice Ao124 t251.length co124) : Value).ownBlock) (.slice Ao37 t226.length co37) t242) ∧ Aside0 (Kd.R k41 41 wc w.heap.size (fun k_ => some k_ ≠ ((.slice Ao23 t213.length co23) : Value).ownBlock ∧ some k_ ≠ ((.slice Ao30 t239.length co30) : Value).ownBlock ∧ some k_ ≠ ((.slice Ao37 t226.length co37) : Value).ownBlock) (.slice Ao124 t251.length co124) t251) ∧ Aside0 (wc.heap[gb204]? = some (.cells #[.int .i8 a0_0, .int .i8 a0_1, (.slice A0_2 l0_2.length c0_2)] 25 (0, 0))) ∧ Aside0 (wc.heap[gb217]? = some (.cells #[.int .i8 t211, .int .i8 t212, (.slice Ao23 t213.length co23)] 29 (0, 0))) ∧ Aside0 (wc.heap[gb223]? = some (.cells #[.int .i8 t218, .int .i8 t219, (.slice Ao30 t239.length co30)] 29 (0, 0))) ∧ Aside0 (wc.heap[gb230]? = some (.cells #[.int .i8 t224, .int .i8 t225, (.slice Ao37 t226.length co37)] 29 (0, 0))) ∧ Aside0 (wc.heap[gb255]? = some (.cells #[.int .i8 t249, .int .i8 t250, (.slice Ao124 t251.length co124)] 29 (0, 0))) ∧ Aside0 (Below w.heap.size w wc))
           case first =>
            have H := HC104.out
            clear HC104
            replace H := Option.bind_eq_some_iff.mp H
            obtain ⟨t256, A1250, H⟩ := H
            replace H : (if t256 = true then (laws_FnExactDropWord.j2 kj60 t241 (t254 != t216) t224 t225 t242) else (laws_FnExactDropWord.j2 kj60 t241 true t224 t225 t242)) = some r := H
            have A125 := Aside0.mk A1250
            clear A1250
            by_cases c126 : t256 = true
            ·subst c126
             have H1 : (laws_FnExactDropWord.j2 kj60 t241 (t254 != t216) t224 t225 t242) = some r := by rw [if_pos rfl] at H; exact H
             clear H
             have H := H1
             clear H1
             have H' := Aside0.mk H
             clear H
             have hnb127 := NB255_204.out
             have hnc127 := NB204_255.out
             have hnb128 := NB255_217.out
             have hnc128 := NB217_255.out
             have hnb129 := NB255_223.out
             have hnc129 := NB223_255.out
             have hnb130 := NB255_230.out
             have hnc130 := NB230_255.out
             obtain ⟨hcz131_0, hcz131_1, hcz131_2, hfz131_0, hfz131_1, hfz131_2⟩ := cl3_ BK255
             have hnb132 := NB217_204.out
             have hnc132 := NB204_217.out
             have hnb133 := NB217_223.out
             have hnc133 := NB223_217.out
             have hnb134 := NB217_230.out
             have hnc134 := NB230_217.out
             obtain ⟨hcz135_0, hcz135_1, hcz135_2, hfz135_0, hfz135_1, hfz135_2⟩ := cl3_ BK217
             go_wp2_with (first | ((with_reducible refine gate_callee (f := 9) rfl ?_); refine goesL_ (some 86) rfl rfl Try.func9 (by kernel_rfl) rfl #[.agg #[.int .i8 t249, .int .i8 t250, .slice Ao124 t251.length co124], .agg #[.int .i8 t211, .int .i8 t212, .slice Ao23 t213.length co23]] rfl arg_ ?_; (with_reducible refine (laws_eqFixed.calls kj60 t249 t250 _ _ t251 t211 t212 _ _ t213 true _ ?side1 ?side2 ?side3 ?side4 A125.out).mono ?_); (case side1 => refine (Kd.R_reads' (e := 41) (base := w.heap.size) (ok := fun k_ => ((((True ∧ some k_ ≠ (.slice Ao23 t213.length co23 : Value).ownBlock) ∧ some k_ ≠ (.slice Ao30 t239.length co30 : Value).ownBlock) ∧ some k_ ≠ (.slice Ao37 t226.length co37 : Value).ownBlock) ∧ some k_ ≠ (.slice Ao116 t246.length co116 : Value).ownBlock)) (n := t251.length) (c := co124) ?_).2.2; exact (by (with_reducible repeat (first | apply Kd.R_alloc | apply Kd.R_drewN | apply Kd.R_drew)); exact (rf3_ HO253 BK255 (by decide)))); (case side2 => exact (Kd.R_reads' HO253.out).2.1); (case side3 => refine (Kd.R_reads' (e := 41) (base := w.heap.size) (ok := fun k_ => (((some k_ ≠ (.slice Ao30 t239.length co30 : Value).ownBlock ∧ some k_ ≠ (.slice Ao37 t226.length co37 : Value).ownBlock) ∧ some k_ ≠ (.slice Ao116 t246.length co116 : Value).ownBlock) ∧ some k_ ≠ (.slice Ao124 t251.length co124 : Value).ownBlock)) (n := t213.length) (c := co23) ?_).2.2; exact (by (with_reducible repeat (first | apply Kd.R_alloc | apply Kd.R_drewN | apply Kd.R_drew)); exact (rf3_ HO_218002 BK255 (by decide)))); (case side4 => exact (Kd.R_reads' HO_218002.out).2.1); rintro e w136 ⟨rfl, hb⟩; refine ⟨_, rfl, ?_⟩; have n0_ := A_ (Kd.R_below (by (with_reducible repeat (first | apply Kd.R_alloc | apply Kd.R_drewN | apply Kd.R_drew)); exact (rf3_ HO_218002 BK255 (by decide))) hb); have n1_ := A_ (Kd.R_below (by (with_reducible repeat (first | apply Kd.R_alloc | apply Kd.R_drewN | apply Kd.R_drew)); exact (rf3_ HO_224002 BK255 (by decide))) hb); have n2_ := A_ (Kd.R_below (by (with_reducible repeat (first | apply Kd.R_alloc | apply Kd.R_drewN | apply Kd.R_drew)); exact (rf3_ HO_231002 BK255 (by decide))) hb); have n3_ := A_ (Kd.R_below (by (with_reducible repeat (first | apply Kd.R_alloc | apply Kd.R_drewN | apply Kd.R_drew)); exact (rf3_ HO248 BK255 (by decide))) hb); have n4_ := A_ (Kd.R_below (by (with_reducible repeat (first | apply Kd.R_alloc | apply Kd.R_drewN | apply Kd.R_drew)); exact (rf3_ HO253 BK255 (by decide))) hb); have n5_ := A_ (blk_below (g := gb204) (o := .cells #[.int .i8 a0_0, .int .i8 a0_1, .slice A0_2 l0_2.length c0_2] 25 (0, 0)) (pf_ BK204 NB204_255) hb); have n6_ := A_ (blk_below (g := gb217) (o := .cells #[.int .i8 t211, .int .i8 t212, .slice Ao23 t213.length co23] 29 (0, 0)) (pf_ BK217 NB217_255) hb); have n7_ := A_ (blk_below (g := gb223) (o := .cells #[.int .i8 t218, .int .i8 t219, .slice Ao30 t239.length co30] 29 (0, 0)) (pf_ BK223 NB223_255) hb); have n8_ := A_ (blk_below (g := gb230) (o := .cells #[.int .i8 t224, .int .i8 t225, .slice Ao37 t226.length co37] 29 (0, 0)) (pf_ BK230 NB230_255) hb); have n9_ := A_ (blk_below (g := gb255) (o := .cells #[.int .i8 t249, .int .i8 t250, .slice Ao124 t251.length co124] 29 (0, 0)) (by (with_reducible repeat (first | refine blk_drewN ?_ _ | refine blk_drew ?_ | refine blk_alloc ?_ _)); refine blk_put (cs := #[.int .i8 t249, .int .i8 t250, .slice none 0 0]) ?_ 2 _ rfl; (with_reducible repeat (first | refine blk_drewN ?_ _ | refine blk_drew ?_ | refine blk_alloc ?_ _)); refine blk_put (cs := #[.int .i8 t249, .int .i8 0, .slice none 0 0]) ?_ 1 _ rfl; (with_reducible repeat (first | refine blk_drewN ?_ _ | refine blk_drew ?_ | refine blk_alloc ?_ _)); refine blk_put (cs := #[.int .i8 0, .int .i8 0, .slice none 0 0]) ?_ 0 _ rfl; (with_reducible repeat (first | refine blk_drewN ?_ _ | refine blk_drew ?_ | refine blk_alloc ?_ _)); exact BK255.out) hb); have n10_ := A_ (below_step (bs_ HB GE255) hb); clear HO_218002; clear HO_224002; clear HO_231002; clear HO248; clear HO253; clear BK204; clear BK217; clear BK223; clear BK230; clear BK255; clear HB; have HO_218002 := n0_; have HO_224002 := n1_; have HO_231002 := n2_; have HO248 := n3_; have HO253 := n4_; have BK204 := n5_; have BK217 := n6_; have BK223 := n7_; have BK230 := n8_; have BK255 := n9_; have HB := n10_; clear n0_ n1_ n2_ n3_ n4_ n5_ n6_ n7_ n8_ n9_ n10_; (try clear hb); (try clear hb2); (try clear hk); (try clear hi)))
             go_meet
             case rel => exact ⟨_, ((t254 != t216)), rs_, H', ⟨by have := HJ11.out; have := HJ60.out; first | omega | exact Nat.le_refl _⟩, ⟨by (try simp only [hl224002_60]); (with_reducible repeat (first | apply Kd.R_alloc | apply Kd.R_drewN | apply Kd.R_drew)); exact Kd.R_mono HO_218002.out (fun _ hk => ⟨hk.1.1.1, ⟨hk.1.1.2, hk.2⟩⟩)⟩, ⟨by (try simp only [hl224002_60]); (with_reducible repeat (first | apply Kd.R_alloc | apply Kd.R_drewN | apply Kd.R_drew)); exact Kd.R_mono HO_224002.out (fun _ hk => ⟨hk.1.1.1, ⟨hk.1.1.2, hk.2⟩⟩)⟩, ⟨by (try simp only [hl224002_60]); (with_reducible repeat (first | apply Kd.R_alloc | apply Kd.R_drewN | apply Kd.R_drew)); exact Kd.R_mono HO_231002.out (fun _ hk => ⟨hk.1.1.1, ⟨hk.1.1.2, hk.2⟩⟩)⟩, ⟨by (try simp only [hl224002_60]); (with_reducible repeat (first | apply Kd.R_alloc | apply Kd.R_drewN | apply Kd.R_drew)); exact Kd.R_mono HO253.out (fun _ hk => ⟨hk.1.1.1.2, ⟨hk.1.1.2, hk.1.2⟩⟩)⟩, ⟨by (try simp only [hl224002_60]); (with_reducible repeat (first | refine blk_drewN ?_ _ | refine blk_drew ?_ | refine blk_alloc ?_ _)); exact BK204.out⟩, ⟨by (try simp only [hl224002_60]); (with_reducible repeat (first | refine blk_drewN ?_ _ | refine blk_drew ?_ | refine blk_alloc ?_ _)); exact BK217.out⟩, ⟨by (try simp only [hl224002_60]); (with_reducible repeat (first | refine blk_drewN ?_ _ | refine blk_drew ?_ | refine blk_alloc ?_ _)); exact BK223.out⟩, ⟨by (try simp only [hl224002_60]); (with_reducible repeat (first | refine blk_drewN ?_ _ | refine blk_drew ?_ | refine blk_alloc ?_ _)); exact BK230.out⟩, ⟨by (try simp only [hl224002_60]); (with_reducible repeat (first | refine blk_drewN ?_ _ | refine blk_drew ?_ | refine blk_alloc ?_ _)); exact BK255.out⟩, ⟨bl_ HB⟩⟩
            ·replace c126 := Bool.eq_false_iff.mpr c126
             subst c126
             have H1 : (laws_FnExactDropWord.j2 kj60 t241 true t224 t225 t242) = some r := by rw [if_neg (show ¬ (false = true) by decide)] at H; exact H
             clear H
             have H := H1
             clear H1
             have H' := Aside0.mk H
             clear H
             have hnb137 := NB255_204.out
             have hnc137 := NB204_255.out
             have hnb138 := NB255_217.out
             have hnc138 := NB217_255.out
             have hnb139 := NB255_223.out
             have hnc139 := NB223_255.out
             have hnb140 := NB255_230.out
             have hnc140 := NB230_255.out
             obtain ⟨hcz141_0, hcz141_1, hcz141_2, hfz141_0, hfz141_1, hfz141_2⟩ := cl3_ BK255
             have hnb142 := NB217_204.out
             have hnc142 := NB204_217.out
             have hnb143 := NB217_223.out
             have hnc143 := NB223_217.out
             have hnb144 := NB217_230.out
             have hnc144 := NB230_217.out
             obtain ⟨hcz145_0, hcz145_1, hcz145_2, hfz145_0, hfz145_1, hfz145_2⟩ := cl3_ BK217
             go_wp2_with (first | ((with_reducible refine gate_callee (f := 9) rfl ?_); refine goesL_ (some 86) rfl rfl Try.func9 (by kernel_rfl) rfl #[.agg #[.int .i8 t249, .int .i8 t250, .slice Ao124 t251.length co124], .agg #[.int .i8 t211, .int .i8 t212, .slice Ao23 t213.length co23]] rfl arg_ ?_; (with_reducible refine (laws_eqFixed.calls kj60 t249 t250 _ _ t251 t211 t212 _ _ t213 false _ ?side1 ?side2 ?side3 ?side4 A125.out).mono ?_); (case side1 => refine (Kd.R_reads' (e := 41) (base := w.heap.size) (ok := fun k_ => ((((True ∧ some k_ ≠ (.slice Ao23 t213.length co23 : Value).ownBlock) ∧ some k_ ≠ (.slice Ao30 t239.length co30 : Value).ownBlock) ∧ some k_ ≠ (.slice Ao37 t226.length co37 : Value).ownBlock) ∧ some k_ ≠ (.slice Ao116 t246.length co116 : Value).ownBlock)) (n := t251.length) (c := co124) ?_).2.2; exact (by (with_reducible repeat (first | apply Kd.R_alloc | apply Kd.R_drewN | apply Kd.R_drew)); exact (rf3_ HO253 BK255 (by decide)))); (case side2 => exact (Kd.R_reads' HO253.out).2.1); (case side3 => refine (Kd.R_reads' (e := 41) (base := w.heap.size) (ok := fun k_ => (((some k_ ≠ (.slice Ao30 t239.length co30 : Value).ownBlock ∧ some k_ ≠ (.slice Ao37 t226.length co37 : Value).ownBlock) ∧ some k_ ≠ (.slice Ao116 t246.length co116 : Value).ownBlock) ∧ some k_ ≠ (.slice Ao124 t251.length co124 : Value).ownBlock)) (n := t213.length) (c := co23) ?_).2.2; exact (by (with_reducible repeat (first | apply Kd.R_alloc | apply Kd.R_drewN | apply Kd.R_drew)); exact (rf3_ HO_218002 BK255 (by decide)))); (case side4 => exact (Kd.R_reads' HO_218002.out).2.1); rintro e w146 ⟨rfl, hb⟩; refine ⟨_, rfl, ?_⟩; have n0_ := A_ (Kd.R_below (by (with_reducible repeat (first | apply Kd.R_alloc | apply Kd.R_drewN | apply Kd.R_drew)); exact (rf3_ HO_218002 BK255 (by decide))) hb); have n1_ := A_ (Kd.R_below (by (with_reducible repeat (first | apply Kd.R_alloc | apply Kd.R_drewN | apply Kd.R_drew)); exact (rf3_ HO_224002 BK255 (by decide))) hb); have n2_ := A_ (Kd.R_below (by (with_reducible repeat (first | apply Kd.R_alloc | apply Kd.R_drewN | apply Kd.R_drew)); exact (rf3_ HO_231002 BK255 (by decide))) hb); have n3_ := A_ (Kd.R_below (by (with_reducible repeat (first | apply Kd.R_alloc | apply Kd.R_drewN | apply Kd.R_drew)); exact (rf3_ HO248 BK255 (by decide))) hb); have n4_ := A_ (Kd.R_below (by (with_reducible repeat (first | apply Kd.R_alloc | apply Kd.R_drewN | apply Kd.R_drew)); exact (rf3_ HO253 BK255 (by decide))) hb); have n5_ := A_ (blk_below (g := gb204) (o := .cells #[.int .i8 a0_0, .int .i8 a0_1, .slice A0_2 l0_2.length c0_2] 25 (0, 0)) (pf_ BK204 NB204_255) hb); have n6_ := A_ (blk_below (g := gb217) (o := .cells #[.int .i8 t211, .int .i8 t212, .slice Ao23 t213.length co23] 29 (0, 0)) (pf_ BK217 NB217_255) hb); have n7_ := A_ (blk_below (g := gb223) (o := .cells #[.int .i8 t218, .int .i8 t219, .slice Ao30 t239.length co30] 29 (0, 0)) (pf_ BK223 NB223_255) hb); have n8_ := A_ (blk_below (g := gb230) (o := .cells #[.int .i8 t224, .int .i8 t225, .slice Ao37 t226.length co37] 29 (0, 0)) (pf_ BK230 NB230_255) hb); have n9_ := A_ (blk_below (g := gb255) (o := .cells #[.int .i8 t249, .int .i8 t250, .slice Ao124 t251.length co124] 29 (0, 0)) (by (with_reducible repeat (first | refine blk_drewN ?_ _ | refine blk_drew ?_ | refine blk_alloc ?_ _)); refine blk_put (cs := #[.int .i8 t249, .int .i8 t250, .slice none 0 0]) ?_ 2 _ rfl; (with_reducible repeat (first | refine blk_drewN ?_ _ | refine blk_drew ?_ | refine blk_alloc ?_ _)); refine blk_put (cs := #[.int .i8 t249, .int .i8 0, .slice none 0 0]) ?_ 1 _ rfl; (with_reducible repeat (first | refine blk_drewN ?_ _ | refine blk_drew ?_ | refine blk_alloc ?_ _)); refine blk_put (cs := #[.int .i8 0, .int .i8 0, .slice none 0 0]) ?_ 0 _ rfl; (with_reducible repeat (first | refine blk_drewN ?_ _ | refine blk_drew ?_ | refine blk_alloc ?_ _)); exact BK255.out) hb); have n10_ := A_ (below_step (bs_ HB GE255) hb); clear HO_218002; clear HO_224002; clear HO_231002; clear HO248; clear HO253; clear BK204; clear BK217; clear BK223; clear BK230; clear BK255; clear HB; have HO_218002 := n0_; have HO_224002 := n1_; have HO_231002 := n2_; have HO248 := n3_; have HO253 := n4_; have BK204 := n5_; have BK217 := n6_; have BK223 := n7_; have BK230 := n8_; have BK255 := n9_; have HB := n10_; clear n0_ n1_ n2_ n3_ n4_ n5_ n6_ n7_ n8_ n9_ n10_; (try clear hb); (try clear hb2); (try clear hk); (try clear hi)))
             go_meet
             case rel => exact ⟨_, (true), rs_, H', ⟨by have := HJ11.out; have := HJ60.out; first | omega | exact Nat.le_refl _⟩, ⟨by (try simp only [hl224002_60]); (with_reducible repeat (first | apply Kd.R_alloc | apply Kd.R_drewN | apply Kd.R_drew)); exact Kd.R_mono HO_218002.out (fun _ hk => ⟨hk.1.1.1, ⟨hk.1.1.2, hk.2⟩⟩)⟩, ⟨by (try simp only [hl224002_60]); (with_reducible repeat (first | apply Kd.R_alloc | apply Kd.R_drewN | apply Kd.R_drew)); exact Kd.R_mono HO_224002.out (fun _ hk => ⟨hk.1.1.1, ⟨hk.1.1.2, hk.2⟩⟩)⟩, ⟨by (try simp only [hl224002_60]); (with_reducible repeat (first | apply Kd.R_alloc | apply Kd.R_drewN | apply Kd.R_drew)); exact Kd.R_mono HO_231002.out (fun _ hk => ⟨hk.1.1.1, ⟨hk.1.1.2, hk.2⟩⟩)⟩, ⟨by (try simp only [hl224002_60]); (with_reducible repeat (first | apply Kd.R_alloc | apply Kd.R_drewN | apply Kd.R_drew)); exact Kd.R_mono HO253.out (fun _ hk => ⟨hk.1.1.1.2, ⟨hk.1.1.2, hk.1.2⟩⟩)⟩, ⟨by (try simp only [hl224002_60]); (with_reducible repeat (first | refine blk_drewN ?_ _ | refine blk_drew ?_ | refine blk_alloc ?_ _)); exact BK204.out⟩, ⟨by (try simp only [hl224002_60]); (with_reducible repeat (first | refine blk_drewN ?_ _ | refine blk_drew ?_ | refine blk_alloc ?_ _)); exact BK217.out⟩, ⟨by (try simp only [hl224002_60]); (with_reducible repeat (first | refine blk_drewN ?_ _ | refine blk_drew ?_ | refine blk_alloc ?_ _)); exact BK223.out⟩, ⟨by (try simp only [hl224002_60]); (with_reducible repeat (first | refine blk_drewN ?_ _ | refine blk_drew ?_ | refine blk_alloc ?_ _)); exact BK230.out⟩, ⟨by (try simp only [hl224002_60]); (with_reducible repeat (first | refine blk_drewN ?_ _ | refine blk_drew ?_ | refine blk_alloc ?_ _)); exact BK255.out⟩, ⟨bl_ HB⟩⟩
           case rest =>
            clear HC104
            try clear c1
            try clear c2
            try clear p2
            try clear c3
            try clear c4
            try clear c4b0
            try clear c5
            try clear c6
            try clear c7
            try clear c8
            try clear c9
            try clear c10
            try clear c11
            try clear c12
            try clear c13
            try clear c14
            try clear c21
            try clear c27
            try clear c28
            try clear c33
            try clear c34
            try clear c35
            try clear c39
            try clear c40
            try clear c41
            try clear c42
            try clear c44
            try clear c45
            try clear c48
            try clear c49
            try clear c50
            try clear c52
            try clear c53
            try clear c56
            try clear c59
            try clear c66
            try clear c67
            try clear c68
            try clear c71
            try clear c71b0
            try clear c73
            try clear c74
            try clear c75
            try clear c76
            try clear c78
            try clear c79
            try clear c82
            try clear c83
            try clear c84
            try clear c86
            try clear c87
            try clear c90
            try clear c93
            try clear c93b0
            try clear c94
            try clear c95
            try clear c96
            try clear c101
            try clear c101b0
            try clear c101b1
            try clear c105
            try clear c106
            try clear c107
            try clear c112
            try clear c113
            try clear c119
            try clear c120
            try clear c121
            try clear c122
            try clear c126
            try clear c127
            try clear c128
            try clear c129
            try clear c130
            try clear c132
            try clear c133
            try clear c134
            try clear c137
            try clear c138
            try clear c139
            try clear c140
            try clear c142
            try clear c143
            try clear c144
            try clear hcz108_0
            try clear hcz108_1
            try clear hcz108_2
            try clear hcz110_0
            try clear hcz110_1
            try clear hcz110_2
            try clear hcz114_0
            try clear hcz114_1
            try clear hcz114_2
            try clear hcz123_0
            try clear hcz123_1
            try clear hcz123_2
            try clear hcz131_0
            try clear hcz131_1
            try clear hcz131_2
            try clear hcz135_0
            try clear hcz135_1
            try clear hcz135_2
            try clear hcz141_0
            try clear hcz141_1
            try clear hcz141_2
            try clear hcz145_0
            try clear hcz145_1
            try clear hcz145_2
            try clear hcz14_0
            try clear hcz14_1
            try clear hcz14_2
            try clear hcz16_0
            try clear hcz16_1
            try clear hcz16_2
            try clear hcz22_0
            try clear hcz22_1
            try clear hcz22_2
            try clear hcz24_0
            try clear hcz24_1
            try clear hcz24_2
            try clear hcz29_0
            try clear hcz29_1
            try clear hcz29_2
            try clear hcz36_0
            try clear hcz36_1
            try clear hcz36_2
            try clear hcz43_0
            try clear hcz43_1
            try clear hcz43_2
            try clear hcz46_0
            try clear hcz46_1
            try clear hcz46_2
            try clear hcz51_0
            try clear hcz51_1
            try clear hcz51_2
            try clear hcz54_0
            try clear hcz54_1
            try clear hcz54_2
            try clear hcz69_0
            try clear hcz69_1
            try clear hcz69_2
            try clear hcz6_0
            try clear hcz6_1
            try clear hcz6_2
            try clear hcz77_0
            try clear hcz77_1
            try clear hcz77_2
            try clear hcz80_0
            try clear hcz80_1
            try clear hcz80_2
            try clear hcz85_0
            try clear hcz85_1
            try clear hcz85_2
            try clear hcz88_0
            try clear hcz88_1
            try clear hcz88_2
            try clear hcz97_0
            try clear hcz97_1
            try clear hcz97_2
            try clear hcz99_0
            try clear hcz99_1
            try clear hcz99_2
            try clear hfz108_0
            try clear hfz108_1
            try clear hfz108_2
            try clear hfz110_0
            try clear hfz110_1
            try clear hfz110_2
            try clear hfz114_0
            try clear hfz114_1
            try clear hfz114_2
            try clear hfz123_0
            try clear hfz123_1
            try clear hfz123_2
            try clear hfz131_0
            try clear hfz131_1
            try clear hfz131_2
            try clear hfz135_0
            try clear hfz135_1
            try clear hfz135_2
            try clear hfz141_0
            try clear hfz141_1
            try clear hfz141_2
            try clear hfz145_0
            try clear hfz145_1
            try clear hfz145_2
            try clear hfz14_0
            try clear hfz14_1
            try clear hfz14_2
            try clear hfz16_0
            try clear hfz16_1
            try clear hfz16_2
            try clear hfz22_0
            try clear hfz22_1
            try clear hfz22_2
            try clear hfz24_0
            try clear hfz24_1
            try clear hfz24_2
            try clear hfz29_0
            try clear hfz29_1
            try clear hfz29_2
            try clear hfz36_0
            try clear hfz36_1
            try clear hfz36_2
            try clear hfz43_0
            try clear hfz43_1
            try clear hfz43_2
            try clear hfz46_0
            try clear hfz46_1
            try clear hfz46_2
            try clear hfz51_0
            try clear hfz51_1
            try clear hfz51_2
            try clear hfz54_0
            try clear hfz54_1
            try clear hfz54_2
            try clear hfz69_0
            try clear hfz69_1
            try clear hfz69_2
            try clear hfz6_0
            try clear hfz6_1
            try clear hfz6_2
            try clear hfz77_0
            try clear hfz77_1
            try clear hfz77_2
            try clear hfz80_0
            try clear hfz80_1
            try clear hfz80_2
            try clear hfz85_0
            try clear hfz85_1
            try clear hfz85_2
            try clear hfz88_0
            try clear hfz88_1
            try clear hfz88_2
            try clear hfz97_0
            try clear hfz97_1
            try clear hfz97_2
            try clear hfz99_0
            try clear hfz99_1
            try clear hfz99_2
            try clear p2
            obtain ⟨kq, x92_103, rfl, HA, HJ103, HO_218002, HO_224002, HO_231002, HO_256002, BK204, BK217, BK223, BK230, BK255, HB⟩ := hcut
            have hl231002_103 := (Kd.R_reads' HO_231002.out).1
            rw [hl231002_103] at HO_231002
            (try simp only [hl231002_103])
            (try simp only [hl231002_103] at BK204)
            (try simp only [hl231002_103] at BK217)
            (try simp only [hl231002_103] at BK223)
            (try simp only [hl231002_103] at BK230)
            (try simp only [hl231002_103] at BK255)
            (try simp only [hl231002_103] at HO_218002)
            (try simp only [hl231002_103] at HO_224002)
            (try simp only [hl231002_103] at HO_256002)
            cases kq with
            | zero => exact absurd HA.out (by simp [laws_FnExactDropWord.j2])
            | succ kj103 =>
             have H := HA.out
             clear HA
             simp only [laws_FnExactDropWord.j2] at H
             by_cases c147 : x92_103 = true
             ·subst c147
              have H1 : (some false) = some r := by rw [if_pos rfl] at H; exact H
              clear H
              have H := H1
              clear H1
              obtain rfl := Option.some.inj H
              go_wp2
              go_ret
              exact ⟨by first | rfl | (simp [errW_none, errW_some] <;> rfl) | (simp [*, errW_none, errW_some] <;> rfl), bl_ HB⟩
             ·replace c147 := Bool.eq_false_iff.mpr c147
              subst c147
              have H1 : ((laws_heldFixed.f kj103 t224 t225 t242 1).bind fun t257 => (if t257 < 0 then (some false) else (if t257 = t241 then (some true) else (some false)))) = some r := by rw [if_neg (show ¬ (false = true) by decide)] at H; exact H
              clear H
              have H := H1
              clear H1
              replace H := Option.bind_eq_some_iff.mp H
              obtain ⟨t257, A1480, H⟩ := H
              replace H : (if t257 < 0 then (some false) else (if t257 = t241 then (some true) else (some false))) = some r := H
              have A148 := Aside0.mk A1480
              clear A1480
              by_cases c149 : t257 < 0
              ·rw [if_pos c149] at H
               have c149b0 : decide (t257 < 0) = true := decide_eq_true c149
               clear c149
               obtain rfl := Option.some.inj H
               have hnb150 := NB230_204.out
               have hnc150 := NB204_230.out
               have hnb151 := NB230_217.out
               have hnc151 := NB217_230.out
               have hnb152 := NB230_223.out
               have hnc152 := NB223_230.out
               have hnb153 := NB230_255.out
               have hnc153 := NB255_230.out
               obtain ⟨hcz154_0, hcz154_1, hcz154_2, hfz154_0, hfz154_1, hfz154_2⟩ := cl3_ BK230
               go_wp2_with (first | ((with_reducible refine gate_callee (f := 11) rfl ?_); refine goesL_ (some 95) rfl rfl Try.func11 (by kernel_rfl) rfl #[.agg #[.int .i8 t224, .int .i8 t225, .slice Ao37 t242.length co37], .int .i64 1] rfl arg_ ?_; (with_reducible refine (laws_heldFixed.calls kj103 t224 t225 _ _ t242 1 t257 _ ?side1 ?side2 A148.out).mono ?_); (case side1 => repeat (first | exact (Kd.R_reads' HO_231002.out).2.2 | (with_reducible refine Kd.C_alloc ?_ _) | (with_reducible refine Kd.C_drewN ?_ _) | (with_reducible refine Kd.C_drew ?_))); (case side2 => exact (Kd.R_reads' HO_231002.out).2.1); rintro e w155 ⟨rfl, hb⟩; refine ⟨_, rfl, ?_⟩; have n0_ := A_ (Kd.R_below (pr_ HO_218002) hb); have n1_ := A_ (Kd.R_below (pr_ HO_224002) hb); have n2_ := A_ (Kd.R_below (pr_ HO_231002) hb); have n3_ := A_ (Kd.R_below (pr_ HO_256002) hb); have n4_ := A_ (blk_below (pl_ BK204) hb); have n5_ := A_ (blk_below (pl_ BK217) hb); have n6_ := A_ (blk_below (pl_ BK223) hb); have n7_ := A_ (blk_below (pl_ BK230) hb); have n8_ := A_ (blk_below (pl_ BK255) hb); have n9_ := A_ (below_step (bl_ HB) hb); clear HO_218002; clear HO_224002; clear HO_231002; clear HO_256002; clear BK204; clear BK217; clear BK223; clear BK230; clear BK255; clear HB; have HO_218002 := n0_; have HO_224002 := n1_; have HO_231002 := n2_; have HO_256002 := n3_; have BK204 := n4_; have BK217 := n5_; have BK223 := n6_; have BK230 := n7_; have BK255 := n8_; have HB := n9_; clear n0_ n1_ n2_ n3_ n4_ n5_ n6_ n7_ n8_ n9_; (try clear hb); (try clear hb2); (try clear hk); (try clear hi)))
               go_ret
               exact ⟨by first | rfl | (simp [errW_none, errW_some] <;> rfl) | (simp [*, errW_none, errW_some] <;> rfl), bl_ HB⟩
              ·rw [if_neg c149] at H
               have c149b0 : decide (t257 < 0) = false := decide_eq_false c149
               clear c149
               by_cases c156 : t257 = t241
               ·rw [if_pos c156] at H
                have c156b0 : (t257 == t241) = true := beq_iff_eq.mpr c156
                have c156b1 : (t257 != t241) = false := bne_eq_false_iff_eq.mpr c156
                clear c156
                obtain rfl := Option.some.inj H
                have hnb157 := NB230_204.out
                have hnc157 := NB204_230.out
                have hnb158 := NB230_217.out
                have hnc158 := NB217_230.out
                have hnb159 := NB230_223.out
                have hnc159 := NB223_230.out
                have hnb160 := NB230_255.out
                have hnc160 := NB255_230.out
                obtain ⟨hcz161_0, hcz161_1, hcz161_2, hfz161_0, hfz161_1, hfz161_2⟩ := cl3_ BK230
                go_wp2_with (first | ((with_reducible refine gate_callee (f := 11) rfl ?_); refine goesL_ (some 95) rfl rfl Try.func11 (by kernel_rfl) rfl #[.agg #[.int .i8 t224, .int .i8 t225, .slice Ao37 t242.length co37], .int .i64 1] rfl arg_ ?_; (with_reducible refine (laws_heldFixed.calls kj103 t224 t225 _ _ t242 1 t257 _ ?side1 ?side2 A148.out).mono ?_); (case side1 => repeat (first | exact (Kd.R_reads' HO_231002.out).2.2 | (with_reducible refine Kd.C_alloc ?_ _) | (with_reducible refine Kd.C_drewN ?_ _) | (with_reducible refine Kd.C_drew ?_))); (case side2 => exact (Kd.R_reads' HO_231002.out).2.1); rintro e w162 ⟨rfl, hb⟩; refine ⟨_, rfl, ?_⟩; have n0_ := A_ (Kd.R_below (pr_ HO_218002) hb); have n1_ := A_ (Kd.R_below (pr_ HO_224002) hb); have n2_ := A_ (Kd.R_below (pr_ HO_231002) hb); have n3_ := A_ (Kd.R_below (pr_ HO_256002) hb); have n4_ := A_ (blk_below (pl_ BK204) hb); have n5_ := A_ (blk_below (pl_ BK217) hb); have n6_ := A_ (blk_below (pl_ BK223) hb); have n7_ := A_ (blk_below (pl_ BK230) hb); have n8_ := A_ (blk_below (pl_ BK255) hb); have n9_ := A_ (below_step (bl_ HB) hb); clear HO_218002; clear HO_224002; clear HO_231002; clear HO_256002; clear BK204; clear BK217; clear BK223; clear BK230; clear BK255; clear HB; have HO_218002 := n0_; have HO_224002 := n1_; have HO_231002 := n2_; have HO_256002 := n3_; have BK204 := n4_; have BK217 := n5_; have BK223 := n6_; have BK230 := n7_; have BK255 := n8_; have HB := n9_; clear n0_ n1_ n2_ n3_ n4_ n5_ n6_ n7_ n8_ n9_; (try clear hb); (try clear hb2); (try clear hk); (try clear hi)))
                go_ret
                exact ⟨by first | rfl | (simp [errW_none, errW_some] <;> rfl) | (simp [*, errW_none, errW_some] <;> rfl), bl_ HB⟩
               ·rw [if_neg c156] at H
                have c156b0 : (t257 == t241) = false := beq_eq_false_iff_ne.mpr c156
                have c156b1 : (t257 != t241) = true := bne_iff_ne.mpr c156
                obtain rfl := Option.some.inj H
                have hnb163 := NB230_204.out
                have hnc163 := NB204_230.out
                have hnb164 := NB230_217.out
                have hnc164 := NB217_230.out
                have hnb165 := NB230_223.out
                have hnc165 := NB223_230.out
                have hnb166 := NB230_255.out
                have hnc166 := NB255_230.out
                obtain ⟨hcz167_0, hcz167_1, hcz167_2, hfz167_0, hfz167_1, hfz167_2⟩ := cl3_ BK230
                go_wp2_with (first | ((with_reducible refine gate_callee (f := 11) rfl ?_); refine goesL_ (some 95) rfl rfl Try.func11 (by kernel_rfl) rfl #[.agg #[.int .i8 t224, .int .i8 t225, .slice Ao37 t242.length co37], .int .i64 1] rfl arg_ ?_; (with_reducible refine (laws_heldFixed.calls kj103 t224 t225 _ _ t242 1 t257 _ ?side1 ?side2 A148.out).mono ?_); (case side1 => repeat (first | exact (Kd.R_reads' HO_231002.out).2.2 | (with_reducible refine Kd.C_alloc ?_ _) | (with_reducible refine Kd.C_drewN ?_ _) | (with_reducible refine Kd.C_drew ?_))); (case side2 => exact (Kd.R_reads' HO_231002.out).2.1); rintro e w168 ⟨rfl, hb⟩; refine ⟨_, rfl, ?_⟩; have n0_ := A_ (Kd.R_below (pr_ HO_218002) hb); have n1_ := A_ (Kd.R_below (pr_ HO_224002) hb); have n2_ := A_ (Kd.R_below (pr_ HO_231002) hb); have n3_ := A_ (Kd.R_below (pr_ HO_256002) hb); have n4_ := A_ (blk_below (pl_ BK204) hb); have n5_ := A_ (blk_below (pl_ BK217) hb); have n6_ := A_ (blk_below (pl_ BK223) hb); have n7_ := A_ (blk_below (pl_ BK230) hb); have n8_ := A_ (blk_below (pl_ BK255) hb); have n9_ := A_ (below_step (bl_ HB) hb); clear HO_218002; clear HO_224002; clear HO_231002; clear HO_256002; clear BK204; clear BK217; clear BK223; clear BK230; clear BK255; clear HB; have HO_218002 := n0_; have HO_224002 := n1_; have HO_231002 := n2_; have HO_256002 := n3_; have BK204 := n4_; have BK217 := n5_; have BK223 := n6_; have BK230 := n7_; have BK255 := n8_; have HB := n9_; clear n0_ n1_ n2_ n3_ n4_ n5_ n6_ n7_ n8_ n9_; (try clear hb); (try clear hb2); (try clear hk); (try clear hi)))
                go_ret
                exact ⟨by first | rfl | (simp [errW_none, errW_some] <;> rfl) | (simp [*, errW_none, errW_some] <;> rfl), bl_ HB⟩
          ·rw [if_neg c101] at H
           have c101b0 : (t243 == t241) = false := beq_eq_false_iff_ne.mpr c101
           have c101b1 : (t243 != t241) = true := bne_iff_ne.mpr c101
           obtain rfl := Option.some.inj H
           have hnb169 := NB230_204.out
           have hnc169 := NB204_230.out
           have hnb170 := NB230_217.out
           have hnc170 := NB217_230.out
           have hnb171 := NB230_223.out
           have hnc171 := NB223_230.out
           obtain ⟨hcz172_0, hcz172_1, hcz172_2, hfz172_0, hfz172_1, hfz172_2⟩ := cl3_ BK230
           go_wp2_with (first | ((with_reducible refine gate_callee (f := 10) rfl ?_); refine goesL_ (some 68) rfl rfl Try.func10 (by kernel_rfl) rfl #[.agg #[.int .i8 t224, .int .i8 t225, .slice Ao37 t226.length co37], .int .i64 1] rfl arg_ ?_; (with_reducible refine (laws_markFixed.calls kj60 t224 t225 (fun k_ => some k_ = (.slice Ao37 t226.length co37 : Value).ownBlock) (.slice Ao37 t226.length co37) t226 1 t241 t242 w _ ?side1 ?side2 A91.out).mono ?_); (case side1 => repeat (first | (with_reducible first | exact HB.out | apply below_alloc | apply pw_below_drewN | apply below_drew1) | exact HB.out)); (case side2 => exact Kd.R_tight rfl HO_231002.out); rintro e w173 ⟨rfl, hy0, hb, hkp⟩; refine ⟨_, rfl, ?_⟩; have n0_ := A_ (Kd.R_mono (ok' := fun k_ => some k_ ≠ (.slice Ao30 t239.length co30 : Value).ownBlock ∧ some k_ ≠ (.slice Ao37 t226.length co37 : Value).ownBlock) (Kd.R_keptB (HO_218002.out) hkp (fun k_ hk_ hs_ => (hk_.2) hs_)) (fun k_ hk_ => ⟨hk_.1.1, hk_.1.2⟩)); have n1_ := A_ (Kd.R_mono (ok' := fun k_ => some k_ ≠ (.slice Ao23 t213.length co23 : Value).ownBlock ∧ some k_ ≠ (.slice Ao37 t226.length co37 : Value).ownBlock) (Kd.R_keptB (HO_224002.out) hkp (fun k_ hk_ hs_ => (hk_.2) hs_)) (fun k_ hk_ => ⟨hk_.1.1, hk_.1.2⟩)); have n2_ := A_ (Kd.R_reok rfl hy0 (fun k_ e_ => HO_231002.out.1 k_ e_)); have n3_ := A_ (blk_kept (pl_ BK204) hkp (fun hs_ => (fun e_ => (Kd.R_ne HO_231002.out BK204.out (by decide)) e_) hs_)); have n4_ := A_ (blk_kept (pl_ BK217) hkp (fun hs_ => (fun e_ => (Kd.R_ne HO_231002.out BK217.out (by decide)) e_) hs_)); have n5_ := A_ (blk_kept (pl_ BK223) hkp (fun hs_ => (fun e_ => (Kd.R_ne HO_231002.out BK223.out (by decide)) e_) hs_)); have n6_ := A_ (blk_kept (pl_ BK230) hkp (fun hs_ => (fun e_ => (Kd.R_ne HO_231002.out BK230.out (by decide)) e_) hs_)); have n7_ := A_ (hb); clear HO_218002; clear HO_224002; clear HO_231002; clear BK204; clear BK217; clear BK223; clear BK230; clear HB; have HO_218002 := n0_; have HO_224002 := n1_; have HO_231002 := n2_; have BK204 := n3_; have BK217 := n4_; have BK223 := n5_; have BK230 := n6_; have HB := n7_; clear n0_ n1_ n2_ n3_ n4_ n5_ n6_ n7_; (try clear hb); (try clear hkp); (try clear hy0); obtain ⟨hcz174_0, hcz174_1, hcz174_2, hfz174_0, hfz174_1, hfz174_2⟩ := cl3_ BK230) | ((with_reducible refine gate_callee (f := 11) rfl ?_); refine goesL_ (some 71) rfl rfl Try.func11 (by kernel_rfl) rfl #[.agg #[.int .i8 t224, .int .i8 t225, .slice Ao37 t242.length co37], .int .i64 1] rfl (by (try simp only [List.map_toArray, List.map_cons, List.map_nil]); first | done | (rw [show t242.length = t226.length from (Kd.R_reads' HO_231002.out).1.symm] <;> rfl) | rfl | (simp only [List.length_drop, List.length_take]; rfl)) ?_; (with_reducible refine (laws_heldFixed.calls kj60 t224 t225 _ _ t242 1 t243 _ ?side1 ?side2 A92.out).mono ?_); (case side1 => repeat (first | exact (Kd.R_reads' HO_231002.out).2.2 | (with_reducible refine Kd.C_alloc ?_ _) | (with_reducible refine Kd.C_drewN ?_ _) | (with_reducible refine Kd.C_drew ?_))); (case side2 => rw [show t242.length = t226.length from (Kd.R_reads' HO_231002.out).1.symm]; exact (Kd.R_reads' HO_231002.out).2.1); rintro e w175 ⟨rfl, hb⟩; refine ⟨_, rfl, ?_⟩; have n0_ := A_ (Kd.R_below (pr_ HO_218002) hb); have n1_ := A_ (Kd.R_below (pr_ HO_224002) hb); have n2_ := A_ (Kd.R_below (pr_ HO_231002) hb); have n3_ := A_ (blk_below (pl_ BK204) hb); have n4_ := A_ (blk_below (pl_ BK217) hb); have n5_ := A_ (blk_below (pl_ BK223) hb); have n6_ := A_ (blk_below (pl_ BK230) hb); have n7_ := A_ (below_step (bl_ HB) hb); clear HO_218002; clear HO_224002; clear HO_231002; clear BK204; clear BK217; clear BK223; clear BK230; clear HB; have HO_218002 := n0_; have HO_224002 := n1_; have HO_231002 := n2_; have BK204 := n3_; have BK217 := n4_; have BK223 := n5_; have BK230 := n6_; have HB := n7_; clear n0_ n1_ n2_ n3_ n4_ n5_ n6_ n7_; (try clear hb); (try clear hb2); (try clear hk); (try clear hi)))
           go_ret
           exact ⟨by first | rfl | (simp [errW_none, errW_some] <;> rfl) | (simp [*, errW_none, errW_some] <;> rfl), bl_ HB⟩
     ·replace c59 := Bool.eq_false_iff.mpr c59
      subst c59
      have H1 : (some false) = some r := by rw [if_neg (show ¬ (false = true) by decide)] at H; exact H
      clear H
      have H := H1
      clear H1
      obtain rfl := Option.some.inj H
      try go_wp2
      have n0_ := A_ (Kd.R_drew HO_218002.out)
      have n1_ := A_ (Kd.R_drew HO_224002.out)
      have n2_ := A_ (Kd.R_drew HO_231002.out)
      have n3_ := A_ (blk_drew BK204.out)
      have n4_ := A_ (blk_drew BK217.out)
      have n5_ := A_ (blk_drew BK223.out)
      have n6_ := A_ (blk_drew BK230.out)
      have n7_ := A_ (below_drew1 HB.out)
      clear HO_218002
      clear HO_224002
      clear HO_231002
      clear BK204
      clear BK217
      clear BK223
      clear BK230
      clear HB
      have HO_218002 := n0_
      have HO_224002 := n1_
      have HO_231002 := n2_
      have BK204 := n3_
      have BK217 := n4_
      have BK223 := n5_
      have BK230 := n6_
      have HB := n7_
      clear n0_ n1_ n2_ n3_ n4_ n5_ n6_ n7_
      refine start_ (n := 5) (S := fun w' => w'.cell? ⟨gb223, 0, none⟩ = some (.int .i8 t218) ∧ w'.cell? ⟨gb223, 1, none⟩ = some (.int .i8 t219) ∧ w'.cell? ⟨gb223, 2, none⟩ = some (.slice Ao30 t220.length co30) ∧ w'.cell? ⟨gb204, 0, none⟩ = some (.int .i8 a0_0) ∧ w'.cell? ⟨gb204, 1, none⟩ = some (.int .i8 a0_1) ∧ w'.cell? ⟨gb204, 2, none⟩ = some (.slice A0_2 l0_2.length c0_2)) (ds := []) #[false, false, false, false, false] (by kernel_rfl) rfl rfl ⟨(blk_cell BK223.out 0).trans rfl, (blk_cell BK223.out 1).trans rfl, (blk_cell BK223.out 2).trans rfl, (blk_cell BK204.out 0).trans rfl, (blk_cell BK204.out 1).trans rfl, (blk_cell BK204.out 2).trans rfl⟩ (fun hHeld => ?_)
      generalize wc.drew = w176 at HO_218002 HO_224002 HO_231002 BK204 BK217 BK223 BK230 HB hHeld ⊢
      refine take_ (i := 0) (N := some 45) (v := ?_) (a' := ?_) #[true, false, false, false, false] rfl rfl (by kernel_rfl) (fun _ _ _ h => h) (Or.inl ⟨by rfl, ?_⟩) hHeld ?_ ?_
      rotate_left
      ·rintro w' ⟨s0, s1, s2, s3, s4, s5⟩
       go_simp
       with_reducible rfl
      rotate_left
      ·simp only [Act.put, sp_]
       rfl
      refine take_ (i := 1) (N := some 46) (v := ?_) (a' := ?_) #[true, true, false, false, false] rfl rfl (by kernel_rfl) (fun _ _ _ h => h) (Or.inl ⟨by rfl, ?_⟩) hHeld ?_ ?_
      rotate_left
      ·rintro w' ⟨s0, s1, s2, s3, s4, s5⟩
       go_simp
       with_reducible rfl
      rotate_left
      ·simp only [Act.put, sp_]
       rfl
      refine one_ (i := 2) (N := some 47) #[true, true, true, false, false] rfl rfl (by kernel_rfl) (by decide) (fun K hK => ?_)
      refine goes_ Try.func7 (by kernel_rfl) rfl #[.agg #[.int .i8 a0_0, .int .i8 a0_1, .slice A0_2 l0_2.length c0_2]] (by rfl) rfl rfl arg_ ?_
      with_reducible refine (laws_toFixed.calls kj11 a0_0 a0_1 _ _ l0_2 t232 t233 t234 _ ?side1 ?side2 A57.out).mono ?_
      (case side1 => exact Kd.C_below HR0_2.out (bl_ HB))
      (case side2 => exact HC0_2.out)
      rintro e w177 ⟨v235, rfl, ho0, hb⟩
      refine ⟨_, rfl, ?_⟩
      have n0_ := A_ (Kd.R_elder' (pr_ HO_218002) (Kd.R_base ho0) hb)
      have n1_ := A_ (Kd.R_elder' (pr_ HO_224002) (Kd.R_base ho0) hb)
      have n2_ := A_ (Kd.R_elder' (pr_ HO_231002) (Kd.R_base ho0) hb)
      have n3_ := A_ (Kd.R_lower (Kd.R_new' (Kd.R_new' (Kd.R_new' ho0 (Kd.R_lt (pr_ HO_218002))) (Kd.R_lt (pr_ HO_224002))) (Kd.R_lt (pr_ HO_231002))) (below_size (bl_ HB)))
      have n4_ := A_ (blk_below (pl_ BK204) hb)
      have n5_ := A_ (blk_below (pl_ BK217) hb)
      have n6_ := A_ (blk_below (pl_ BK223) hb)
      have n7_ := A_ (blk_below (pl_ BK230) hb)
      have n8_ := A_ (below_step (bl_ HB) hb)
      clear HO_218002
      clear HO_224002
      clear HO_231002
      clear BK204
      clear BK217
      clear BK223
      clear BK230
      clear HB
      have HO_218002 := n0_
      have HO_224002 := n1_
      have HO_231002 := n2_
      have HO236 := n3_
      have BK204 := n4_
      have BK217 := n5_
      have BK223 := n6_
      have BK230 := n7_
      have HB := n8_
      clear n0_ n1_ n2_ n3_ n4_ n5_ n6_ n7_ n8_
      (try clear hb)
      (try clear hb2)
      (try clear hk)
      (try clear hi)
      (try clear ho0)
      obtain ⟨Ao178, co178, eo178⟩ := Kd.R_slice HO236.out
      (first | subst eo178 | (injection eo178 with f1_ f2_ f3_; have f4_ := f1_.symm; have f5_ := f3_.symm; clear f1_ f2_ f3_; subst f4_; subst f5_))
      refine hK.out _ _ ⟨(blk_cell BK223.out 0).trans rfl, (blk_cell BK223.out 1).trans rfl, (blk_cell BK223.out 2).trans rfl, (blk_cell BK204.out 0).trans rfl, (blk_cell BK204.out 1).trans rfl, (blk_cell BK204.out 2).trans rfl⟩ (fun hHeld => ?_)
      clear hK K
      refine norm_ (a' := ?_) ?_ ?_
      rotate_left
      ·show Act.put _ (some 47) _ = _
       simp only [Act.put, sp_]
       rfl
      refine one_ (i := 3) (N := some 48) #[true, true, true, true, false] rfl rfl (by kernel_rfl) (by decide) (fun K hK => ?_)
      refine goes_ Try.func9 (by kernel_rfl) rfl #[.agg #[.int .i8 t218, .int .i8 t219, .slice Ao30 t220.length co30], .agg #[.int .i8 t232, .int .i8 t233, .slice Ao178 t234.length co178]] (by rfl) rfl rfl arg_ ?_
      with_reducible refine (laws_eqFixed.calls kj11 t218 t219 _ _ t220 t232 t233 _ _ t234 false _ ?side1 ?side2 ?side3 ?side4 A58.out).mono ?_
      (case side1 => repeat (first | exact (Kd.R_reads' HO_224002.out).2.2 | (with_reducible refine Kd.C_alloc ?_ _) | (with_reducible refine Kd.C_drewN ?_ _) | (with_reducible refine Kd.C_drew ?_)))
      (case side2 => exact (Kd.R_reads' HO_224002.out).2.1)
      (case side3 => repeat (first | exact (Kd.R_reads' HO236.out).2.2 | (with_reducible refine Kd.C_alloc ?_ _) | (with_reducible refine Kd.C_drewN ?_ _) | (with_reducible refine Kd.C_drew ?_)))
      (case side4 => exact (Kd.R_reads' HO236.out).2.1)
      rintro e w179 ⟨rfl, hb⟩
      refine ⟨_, rfl, ?_⟩
      have n0_ := A_ (Kd.R_below (pr_ HO_218002) hb)
      have n1_ := A_ (Kd.R_below (pr_ HO_224002) hb)
      have n2_ := A_ (Kd.R_below (pr_ HO_231002) hb)
      have n3_ := A_ (Kd.R_below (pr_ HO236) hb)
      have n4_ := A_ (blk_below (pl_ BK204) hb)
      have n5_ := A_ (blk_below (pl_ BK217) hb)
      have n6_ := A_ (blk_below (pl_ BK223) hb)
      have n7_ := A_ (blk_below (pl_ BK230) hb)
      have n8_ := A_ (below_step (bl_ HB) hb)
      clear HO_218002
      clear HO_224002
      clear HO_231002
      clear HO236
      clear BK204
      clear BK217
      clear BK223
      clear BK230
      clear HB
      have HO_218002 := n0_
      have HO_224002 := n1_
      have HO_231002 := n2_
      have HO236 := n3_
      have BK204 := n4_
      have BK217 := n5_
      have BK223 := n6_
      have BK230 := n7_
      have HB := n8_
      clear n0_ n1_ n2_ n3_ n4_ n5_ n6_ n7_ n8_
      (try clear hb)
      (try clear hb2)
      (try clear hk)
      (try clear hi)
      refine hK.out _ _ ⟨(blk_cell BK223.out 0).trans rfl, (blk_cell BK223.out 1).trans rfl, (blk_cell BK223.out 2).trans rfl, (blk_cell BK204.out 0).trans rfl, (blk_cell BK204.out 1).trans rfl, (blk_cell BK204.out 2).trans rfl⟩ (fun hHeld => ?_)
      clear hK K
      refine norm_ (a' := ?_) ?_ ?_
      rotate_left
      ·show Act.put _ (some 48) _ = _
       simp only [Act.put, sp_]
       rfl
      refine pure_ (i := 4) (N := some 49) (v := ?_) (a' := ?_) #[true, true, true, true, true] rfl rfl (by kernel_rfl) (fun _ _ _ h => h) (Or.inl ⟨by rfl, ?_⟩) ?_ ?_
      rotate_left
      ·intro w'
       go_simp
       with_reducible rfl
      rotate_left
      ·simp only [Act.put, sp_]
       rfl
      refine done_ (by kernel_rfl) ?_
      try go_wp2
      go_ret
      exact ⟨by first | rfl | (simp [errW_none, errW_some] <;> rfl) | (simp [*, errW_none, errW_some] <;> rfl), bl_ HB⟩

end Go.Proofs.Ytkieplebdbdigaa.M
