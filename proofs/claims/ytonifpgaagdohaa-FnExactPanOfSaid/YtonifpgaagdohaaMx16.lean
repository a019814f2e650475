-- By this seat's own program over the kit's printer (arrays, functions told by hand); nothing of it is trusted: the kernel checks it.
import Derived.Test.YtonifpgaagdohaaMx0
import Derived.Test.YtonifpgaagdohaaMx1
import Derived.Test.YtonifpgaagdohaaMx2
import Derived.Test.YtonifpgaagdohaaMx5
import Derived.Test.YtonifpgaagdohaaMx6
import Derived.Test.YtonifpgaagdohaaMx9
import Derived.Test.YtonifpgaagdohaaMx13
import Derived.Test.YtonifpgaagdohaaMx14
import Derived.Test.YtonifpgaagdohaaMx15
namespace Go.Proofs.Ytonifpgaagdohaa.M
open Go.RowKit Go.Proofs.YtonifpgaagdohaaW.PrintWords Go.Proofs.YtonifpgaagdohaaW.PrintLast Go.Proofs.YtonifpgaagdohaaW.PrintMore
attribute [local go_sem] max2_int min2_int max_two min_two max_three min_three max_four min_four   -- for this text's walks alone
set_option linter.unusedVariables false
set_option linter.unusedSimpArgs false

/-! ### laws_FnExactPanOf: function 8 -/
mutual
def laws_FnExactPanOf.j0 : Nat → Int → List Int → List Int → Int → List Int → List Int → Int → Bool → Int → Int → List (S37) → Int → Int → List (S40) → Option (Bool)
 | 0, _, _, _, _, _, _, _, _, _, _, _, _, _, _ => none
 | k + 1, x1, x6, x7, x8, x10, x11, x12, x55, x213000, x213001, x213002, x232000, x232001, x232002 => if x55 = true then (some false) else ((laws_toFixed.f k x213000 x213001 x213002).bind fun bt241 => ((laws_eqFixed.f k x232000 x232001 x232002 bt241.1 bt241.2.1 bt241.2.2).bind fun t246 => (if t246 = true then ((laws_markFixed.f k x232000 x232001 x232002 1).bind fun bt247 => (if bt247.1 < 0 then (laws_FnExactPanOf.j1 k x1 x6 x7 x8 x10 x11 true x213000 x213001 x213002) else ((laws_eqInt64S.f k x10 x6).bind fun t249 => (if t249 = true then ((laws_eqInt64S.f k x11 x7).bind fun t250 => (if t250 = true then (laws_FnExactPanOf.j1 k x1 x6 x7 x8 x10 x11 (x12 != x8) x213000 x213001 x213002) else (laws_FnExactPanOf.j1 k x1 x6 x7 x8 x10 x11 true x213000 x213001 x213002))) else (laws_FnExactPanOf.j1 k x1 x6 x7 x8 x10 x11 true x213000 x213001 x213002))))) else (some false))))
def laws_FnExactPanOf.j1 : Nat → Int → List Int → List Int → Int → List Int → List Int → Bool → Int → Int → List (S37) → Option (Bool)
 | 0, _, _, _, _, _, _, _, _, _, _ => none
 | k + 1, x1, x6, x7, x8, x10, x11, x82, x213000, x213001, x213002 => if x82 = true then (some false) else ((laws_markInt64S.f k x10 1).bind fun bt251 => ((laws_markInt64S.f k x11 bt251.1).bind fun bt253 => ((laws_heldInt64S.f k bt251.2 1).bind fun t255 => (if t255 < 0 then (some false) else ((laws_heldInt64S.f k bt253.2 t255).bind fun t256 => (if t256 < 0 then (some false) else (if t256 = bt253.1 then ((laws_toFixed.f k x213000 x213001 x213002).bind fun bt257 => ((impl_PanOf.f k bt257.1 bt257.2.1 bt257.2.2 x1).bind fun bt262 => ((laws_eqInt64S.f k bt262.1 x6).bind fun t269 => (if t269 = true then ((laws_eqInt64S.f k bt262.2.1 x7).bind fun t270 => (if t270 = true then (laws_FnExactPanOf.j2 k bt251.2 bt253.2 bt253.1 (bt262.2.2 != x8)) else (laws_FnExactPanOf.j2 k bt251.2 bt253.2 bt253.1 true))) else (laws_FnExactPanOf.j2 k bt251.2 bt253.2 bt253.1 true))))) else (some false))))))))
def laws_FnExactPanOf.j2 : Nat → List Int → List Int → Int → Bool → Option (Bool)
 | 0, _, _, _, _ => none
 | k + 1, x10, x11, x14, x124 => if x124 = true then (some false) else ((laws_heldInt64S.f k x10 1).bind fun t271 => (if t271 < 0 then (some false) else ((laws_heldInt64S.f k x11 t271).bind fun t272 => (if t272 < 0 then (some false) else (if t272 = x14 then (some true) else (some false))))))
end
def laws_FnExactPanOf.f (k : Nat) (a0_0 : Int) (a0_1 : Int) (l0_2 : List (S37)) (a1 : Int) : Option (Bool) := (laws_szFixed.f a0_0 a0_1 l0_2 1048576).bind fun t213 => (if t213 < 0 then (some true) else ((laws_toFixed.f k a0_0 a0_1 l0_2).bind fun bt214 => ((spec_PanOf.f k bt214.1 bt214.2.1 bt214.2.2 a1).bind fun bt219 => ((laws_toFixed.f k a0_0 a0_1 l0_2).bind fun bt226 => ((impl_PanOf.f k bt226.1 bt226.2.1 bt226.2.2 a1).bind fun bt232 => ((laws_eqInt64S.f k bt232.1 bt219.1).bind fun t239 => (if t239 = true then ((laws_eqInt64S.f k bt232.2.1 bt219.2.1).bind fun t240 => (if t240 = true then (laws_FnExactPanOf.j0 k a1 bt219.1 bt219.2.1 bt219.2.2 bt232.1 bt232.2.1 bt232.2.2 (bt232.2.2 != bt219.2.2) a0_0 a0_1 l0_2 bt226.1 bt226.2.1 bt226.2.2) else (laws_FnExactPanOf.j0 k a1 bt219.1 bt219.2.1 bt219.2.2 bt232.1 bt232.2.1 bt232.2.2 true a0_0 a0_1 l0_2 bt226.1 bt226.2.1 bt226.2.2))) else (laws_FnExactPanOf.j0 k a1 bt219.1 bt219.2.1 bt219.2.2 bt232.1 bt232.2.1 bt232.2.2 true a0_0 a0_1 l0_2 bt226.1 bt226.2.1 bt226.2.2))))))))
theorem laws_FnExactPanOf.mono_l : ∀ k, (∀ y0 y1 y2 y3 y4 y5 y6 y7 y8 y9 y10 y11 y12 y13, LeO (laws_FnExactPanOf.j0 k y0 y1 y2 y3 y4 y5 y6 y7 y8 y9 y10 y11 y12 y13) (laws_FnExactPanOf.j0 (k + 1) y0 y1 y2 y3 y4 y5 y6 y7 y8 y9 y10 y11 y12 y13)) ∧ (∀ y0 y1 y2 y3 y4 y5 y6 y7 y8 y9, LeO (laws_FnExactPanOf.j1 k y0 y1 y2 y3 y4 y5 y6 y7 y8 y9) (laws_FnExactPanOf.j1 (k + 1) y0 y1 y2 y3 y4 y5 y6 y7 y8 y9)) ∧ (∀ y0 y1 y2 y3, LeO (laws_FnExactPanOf.j2 k y0 y1 y2 y3) (laws_FnExactPanOf.j2 (k + 1) y0 y1 y2 y3))
 | 0 => ⟨fun _ _ _ _ _ _ _ _ _ _ _ _ _ _ r h => by simp [laws_FnExactPanOf.j0] at h, fun _ _ _ _ _ _ _ _ _ _ r h => by simp [laws_FnExactPanOf.j1] at h, fun _ _ _ _ r h => by simp [laws_FnExactPanOf.j2] at h⟩
 | k + 1 => by
  obtain ⟨ih0, ih1, ih2⟩ := laws_FnExactPanOf.mono_l k
  refine ⟨?_, ?_, ?_⟩
  ·intro y0 y1 y2 y3 y4 y5 y6 y7 y8 y9 y10 y11 y12 y13
   unfold laws_FnExactPanOf.j0
   repeat' first
   | (with_reducible exact ih0 _ _ _ _ _ _ _ _ _ _ _ _ _ _)
   | (with_reducible exact ih1 _ _ _ _ _ _ _ _ _ _)
   | (with_reducible exact ih2 _ _ _ _)
   | (with_reducible exact impl_PanOf.mono _ _ _ _ _)
   | (with_reducible exact laws_eqFixed.mono _ _ _ _ _ _ _)
   | (with_reducible exact laws_eqInt64S.mono _ _ _)
   | (with_reducible exact laws_heldInt64S.mono _ _ _)
   | (with_reducible exact laws_markFixed.mono _ _ _ _ _)
   | (with_reducible exact laws_markInt64S.mono _ _ _)
   | (with_reducible exact laws_toFixed.mono _ _ _ _)
   | (with_reducible exact spec_PanOf.mono _ _ _ _ _)
   | (with_reducible exact LeO.refl _)
   | (with_reducible exact LeO.none _)
   | (with_reducible refine LeO.ite ?_ ?_)
   | (with_reducible refine LeO.bind ?_ (fun _ => ?_))
   | exact ih0 _ _ _ _ _ _ _ _ _ _ _ _ _ _
   | exact ih1 _ _ _ _ _ _ _ _ _ _
   | exact ih2 _ _ _ _
   | exact impl_PanOf.mono _ _ _ _ _
   | exact laws_eqFixed.mono _ _ _ _ _ _ _
   | exact laws_eqInt64S.mono _ _ _
   | exact laws_heldInt64S.mono _ _ _
   | exact laws_markFixed.mono _ _ _ _ _
   | exact laws_markInt64S.mono _ _ _
   | exact laws_toFixed.mono _ _ _ _
   | exact spec_PanOf.mono _ _ _ _ _
   | exact LeO.none _
   | refine LeO.ite ?_ ?_
   | refine LeO.bind ?_ (fun _ => ?_)
  ·intro y0 y1 y2 y3 y4 y5 y6 y7 y8 y9
   unfold laws_FnExactPanOf.j1
   repeat' first
   | (with_reducible exact ih0 _ _ _ _ _ _ _ _ _ _ _ _ _ _)
   | (with_reducible exact ih1 _ _ _ _ _ _ _ _ _ _)
   | (with_reducible exact ih2 _ _ _ _)
   | (with_reducible exact impl_PanOf.mono _ _ _ _ _)
   | (with_reducible exact laws_eqFixed.mono _ _ _ _ _ _ _)
   | (with_reducible exact laws_eqInt64S.mono _ _ _)
   | (with_reducible exact laws_heldInt64S.mono _ _ _)
   | (with_reducible exact laws_markFixed.mono _ _ _ _ _)
   | (with_reducible exact laws_markInt64S.mono _ _ _)
   | (with_reducible exact laws_toFixed.mono _ _ _ _)
   | (with_reducible exact spec_PanOf.mono _ _ _ _ _)
   | (with_reducible exact LeO.refl _)
   | (with_reducible exact LeO.none _)
   | (with_reducible refine LeO.ite ?_ ?_)
   | (with_reducible refine LeO.bind ?_ (fun _ => ?_))
   | exact ih0 _ _ _ _ _ _ _ _ _ _ _ _ _ _
   | exact ih1 _ _ _ _ _ _ _ _ _ _
   | exact ih2 _ _ _ _
   | exact impl_PanOf.mono _ _ _ _ _
   | exact laws_eqFixed.mono _ _ _ _ _ _ _
   | exact laws_eqInt64S.mono _ _ _
   | exact laws_heldInt64S.mono _ _ _
   | exact laws_markFixed.mono _ _ _ _ _
   | exact laws_markInt64S.mono _ _ _
   | exact laws_toFixed.mono _ _ _ _
   | exact spec_PanOf.mono _ _ _ _ _
   | exact LeO.none _
   | refine LeO.ite ?_ ?_
   | refine LeO.bind ?_ (fun _ => ?_)
  ·intro y0 y1 y2 y3
   unfold laws_FnExactPanOf.j2
   repeat' first
   | (with_reducible exact ih0 _ _ _ _ _ _ _ _ _ _ _ _ _ _)
   | (with_reducible exact ih1 _ _ _ _ _ _ _ _ _ _)
   | (with_reducible exact ih2 _ _ _ _)
   | (with_reducible exact impl_PanOf.mono _ _ _ _ _)
   | (with_reducible exact laws_eqFixed.mono _ _ _ _ _ _ _)
   | (with_reducible exact laws_eqInt64S.mono _ _ _)
   | (with_reducible exact laws_heldInt64S.mono _ _ _)
   | (with_reducible exact laws_markFixed.mono _ _ _ _ _)
   | (with_reducible exact laws_markInt64S.mono _ _ _)
   | (with_reducible exact laws_toFixed.mono _ _ _ _)
   | (with_reducible exact spec_PanOf.mono _ _ _ _ _)
   | (with_reducible exact LeO.refl _)
   | (with_reducible exact LeO.none _)
   | (with_reducible refine LeO.ite ?_ ?_)
   | (with_reducible refine LeO.bind ?_ (fun _ => ?_))
   | exact ih0 _ _ _ _ _ _ _ _ _ _ _ _ _ _
   | exact ih1 _ _ _ _ _ _ _ _ _ _
   | exact ih2 _ _ _ _
   | exact impl_PanOf.mono _ _ _ _ _
   | exact laws_eqFixed.mono _ _ _ _ _ _ _
   | exact laws_eqInt64S.mono _ _ _
   | exact laws_heldInt64S.mono _ _ _
   | exact laws_markFixed.mono _ _ _ _ _
   | exact laws_markInt64S.mono _ _ _
   | exact laws_toFixed.mono _ _ _ _
   | exact spec_PanOf.mono _ _ _ _ _
   | exact LeO.none _
   | refine LeO.ite ?_ ?_
   | refine LeO.bind ?_ (fun _ => ?_)
theorem laws_FnExactPanOf.mono : ∀ a0 a1 a2 a3 k, LeO (laws_FnExactPanOf.f k a0 a1 a2 a3) (laws_FnExactPanOf.f (k + 1) a0 a1 a2 a3) := by
 intro a0 a1 a2 a3 k
 obtain ⟨ih0, ih1, ih2⟩ := laws_FnExactPanOf.mono_l k
 unfold laws_FnExactPanOf.f
 repeat' first
   | (with_reducible exact ih0 _ _ _ _ _ _ _ _ _ _ _ _ _ _)
   | (with_reducible exact ih1 _ _ _ _ _ _ _ _ _ _)
   | (with_reducible exact ih2 _ _ _ _)
   | (with_reducible exact impl_PanOf.mono _ _ _ _ _)
   | (with_reducible exact laws_eqFixed.mono _ _ _ _ _ _ _)
   | (with_reducible exact laws_eqInt64S.mono _ _ _)
   | (with_reducible exact laws_heldInt64S.mono _ _ _)
   | (with_reducible exact laws_markFixed.mono _ _ _ _ _)
   | (with_reducible exact laws_markInt64S.mono _ _ _)
   | (with_reducible exact laws_toFixed.mono _ _ _ _)
   | (with_reducible exact spec_PanOf.mono _ _ _ _ _)
   | (with_reducible exact LeO.refl _)
   | (with_reducible exact LeO.none _)
   | (with_reducible refine LeO.ite ?_ ?_)
   | (with_reducible refine LeO.bind ?_ (fun _ => ?_))
   | exact ih0 _ _ _ _ _ _ _ _ _ _ _ _ _ _
   | exact ih1 _ _ _ _ _ _ _ _ _ _
   | exact ih2 _ _ _ _
   | exact impl_PanOf.mono _ _ _ _ _
   | exact laws_eqFixed.mono _ _ _ _ _ _ _
   | exact laws_eqInt64S.mono _ _ _
   | exact laws_heldInt64S.mono _ _ _
   | exact laws_markFixed.mono _ _ _ _ _
   | exact laws_markInt64S.mono _ _ _
   | exact laws_toFixed.mono _ _ _ _
   | exact spec_PanOf.mono _ _ _ _ _
   | exact LeO.none _
   | refine LeO.ite ?_ ?_
   | refine LeO.bind ?_ (fun _ => ?_)
set_option maxHeartbeats 8000000 in
set_option maxRecDepth 100000 in
theorem laws_FnExactPanOf.calls (k : Nat) (a0_0 : Int) (a0_1 : Int) (A0_2 : Option Addr) (c0_2 : Nat) (l0_2 : List (S37)) (a1 : Int) (r : Bool) (w : World) (hr0_2 : Kd.C k37 w A0_2 l0_2.length l0_2) (hc0_2 : l0_2.length ≤ c0_2) (h : laws_FnExactPanOf.f k a0_0 a0_1 l0_2 a1 = some r) :
  Calls Try.prog 8 #[.agg #[.int .i8 a0_0, .int .i8 a0_1, .slice A0_2 l0_2.length c0_2], .int .i64 a1] w fun e w' => e = .returned (.bool r) ∧ Below w.heap.size w w' := by
 have hu25 := Try.underlying25
 have hu30 := Try.underlying30
 have HR0_2 := Aside0.mk hr0_2
 have HC0_2 := Aside0.mk hc0_2
 clear hr0_2 hc0_2
 have HB := A_ (Below.refl w.heap.size w)
 have H : ((laws_szFixed.f a0_0 a0_1 l0_2 1048576).bind fun t213 => (if t213 < 0 then (some true) else ((laws_toFixed.f k a0_0 a0_1 l0_2).bind fun bt214 => ((spec_PanOf.f k bt214.1 bt214.2.1 bt214.2.2 a1).bind fun bt219 => ((laws_toFixed.f k a0_0 a0_1 l0_2).bind fun bt226 => ((impl_PanOf.f k bt226.1 bt226.2.1 bt226.2.2 a1).bind fun bt232 => ((laws_eqInt64S.f k bt232.1 bt219.1).bind fun t239 => (if t239 = true then ((laws_eqInt64S.f k bt232.2.1 bt219.2.1).bind fun t240 => (if t240 = true then (laws_FnExactPanOf.j0 k a1 bt219.1 bt219.2.1 bt219.2.2 bt232.1 bt232.2.1 bt232.2.2 (bt232.2.2 != bt219.2.2) a0_0 a0_1 l0_2 bt226.1 bt226.2.1 bt226.2.2) else (laws_FnExactPanOf.j0 k a1 bt219.1 bt219.2.1 bt219.2.2 bt232.1 bt232.2.1 bt232.2.2 true a0_0 a0_1 l0_2 bt226.1 bt226.2.1 bt226.2.2))) else (laws_FnExactPanOf.j0 k a1 bt219.1 bt219.2.1 bt219.2.2 bt232.1 bt232.2.1 bt232.2.2 true a0_0 a0_1 l0_2 bt226.1 bt226.2.1 bt226.2.2))))))))) = some r := h
 clear h
 replace H := Option.bind_eq_some_iff.mp H
 obtain ⟨t213, A30, H⟩ := H
 replace H : (if t213 < 0 then (some true) else ((laws_toFixed.f k a0_0 a0_1 l0_2).bind fun bt214 => ((spec_PanOf.f k bt214.1 bt214.2.1 bt214.2.2 a1).bind fun bt219 => ((laws_toFixed.f k a0_0 a0_1 l0_2).bind fun bt226 => ((impl_PanOf.f k bt226.1 bt226.2.1 bt226.2.2 a1).bind fun bt232 => ((laws_eqInt64S.f k bt232.1 bt219.1).bind fun t239 => (if t239 = true then ((laws_eqInt64S.f k bt232.2.1 bt219.2.1).bind fun t240 => (if t240 = true then (laws_FnExactPanOf.j0 k a1 bt219.1 bt219.2.1 bt219.2.2 bt232.1 bt232.2.1 bt232.2.2 (bt232.2.2 != bt219.2.2) a0_0 a0_1 l0_2 bt226.1 bt226.2.1 bt226.2.2) else (laws_FnExactPanOf.j0 k a1 bt219.1 bt219.2.1 bt219.2.2 bt232.1 bt232.2.1 bt232.2.2 true a0_0 a0_1 l0_2 bt226.1 bt226.2.1 bt226.2.2))) else (laws_FnExactPanOf.j0 k a1 bt219.1 bt219.2.1 bt219.2.2 bt232.1 bt232.2.1 bt232.2.2 true a0_0 a0_1 l0_2 bt226.1 bt226.2.1 bt226.2.2)))))))) = some r := H
 have A3 := Aside0.mk A30
 clear A30
 by_cases c4 : t213 < 0
 ·rw [if_pos c4] at H
  have c4b0 : decide (t213 < 0) = true := decide_eq_true c4
  clear c4
  obtain rfl := Option.some.inj H
  go_enter Try.func8, Try.ntmps8
  go_wp2_with (first | ((with_reducible refine gate_dst (N := 2) rfl ?_); refine box_event ?hg (N := 2) ?hd (cs := #[.int .i8 a0_0, .int .i8 a0_1, .slice A0_2 l0_2.length c0_2]) (t := 25) ?hr ?_; (case hd => rfl); (case hg => rfl); (case hr => first | (go_simp; done) | (go_simp; rfl)); intro gb212 hg w5 hbox hb; have n0_ := A_ (below_step (bl_ HB) hb); have n1_ := A_ (hbox); have n2_ := A_ ((by rw [hg]; exact (below_size (bl_ HB)) : w.heap.size ≤ gb212)); have n3_ := n2_; clear HB; have HB := n0_; have BK212 := n1_; have GW212 := n2_; have GE212 := n3_; clear n0_ n1_ n2_ n3_; clear hb hbox hg; have hcz6_0 : w5.cell? ⟨gb212, 0, none⟩ = some (.int .i8 a0_0) := (blk_cell BK212.out 0).trans rfl; have hcz6_1 : w5.cell? ⟨gb212, 1, none⟩ = some (.int .i8 a0_1) := (blk_cell BK212.out 1).trans rfl; have hcz6_2 : w5.cell? ⟨gb212, 2, none⟩ = some (.slice A0_2 l0_2.length c0_2) := (blk_cell BK212.out 2).trans rfl; have hfz6_0 := blk_frozen BK212.out 0; have hfz6_1 := blk_frozen BK212.out 1; have hfz6_2 := blk_frozen BK212.out 2) | ((with_reducible refine gate_callee (f := 9) rfl ?_); refine goesL_ (some 21) rfl rfl Try.func9 (by kernel_rfl) rfl #[.agg #[.int .i8 a0_0, .int .i8 a0_1, .slice A0_2 l0_2.length c0_2], .int .i64 1048576] rfl arg_ ?_; (with_reducible refine (laws_szFixed.calls a0_0 a0_1 _ _ l0_2 1048576 t213 _ ?side1 ?side2 A3.out).mono ?_); (case side1 => repeat (first | exact (Kd.C_below HR0_2.out HB.out) | (with_reducible refine Kd.C_alloc ?_ _) | (with_reducible refine Kd.C_drewN ?_ _) | (with_reducible refine Kd.C_drew ?_))); (case side2 => exact HC0_2.out); rintro e w7 ⟨rfl, hb⟩; refine ⟨_, rfl, ?_⟩; have n0_ := A_ (blk_below (g := gb212) (o := .cells #[.int .i8 a0_0, .int .i8 a0_1, .slice A0_2 l0_2.length c0_2] 25 (0, 0)) (pl_ BK212) hb); have n1_ := A_ (below_step (bl_ HB) hb); clear BK212; clear HB; have BK212 := n0_; have HB := n1_; clear n0_ n1_; (try clear hb); (try clear hb2); (try clear hk); (try clear hi)))
  go_ret
  exact ⟨by first | rfl | (simp [errW_none, errW_some] <;> rfl) | (simp [*, errW_none, errW_some] <;> rfl), bl_ HB⟩
 ·rw [if_neg c4] at H
  have c4b0 : decide (t213 < 0) = false := decide_eq_false c4
  clear c4
  replace H := Option.bind_eq_some_iff.mp H
  obtain ⟨⟨t214, t215, t216⟩, A80, H⟩ := H
  replace H : ((spec_PanOf.f k t214 t215 t216 a1).bind fun bt219 => ((laws_toFixed.f k a0_0 a0_1 l0_2).bind fun bt226 => ((impl_PanOf.f k bt226.1 bt226.2.1 bt226.2.2 a1).bind fun bt232 => ((laws_eqInt64S.f k bt232.1 bt219.1).bind fun t239 => (if t239 = true then ((laws_eqInt64S.f k bt232.2.1 bt219.2.1).bind fun t240 => (if t240 = true then (laws_FnExactPanOf.j0 k a1 bt219.1 bt219.2.1 bt219.2.2 bt232.1 bt232.2.1 bt232.2.2 (bt232.2.2 != bt219.2.2) a0_0 a0_1 l0_2 bt226.1 bt226.2.1 bt226.2.2) else (laws_FnExactPanOf.j0 k a1 bt219.1 bt219.2.1 bt219.2.2 bt232.1 bt232.2.1 bt232.2.2 true a0_0 a0_1 l0_2 bt226.1 bt226.2.1 bt226.2.2))) else (laws_FnExactPanOf.j0 k a1 bt219.1 bt219.2.1 bt219.2.2 bt232.1 bt232.2.1 bt232.2.2 true a0_0 a0_1 l0_2 bt226.1 bt226.2.1 bt226.2.2)))))) = some r := H
  have A8 := Aside0.mk A80
  clear A80
  replace H := Option.bind_eq_some_iff.mp H
  obtain ⟨⟨t219, t222, t225⟩, A90, H⟩ := H
  replace H : ((laws_toFixed.f k a0_0 a0_1 l0_2).bind fun bt226 => ((impl_PanOf.f k bt226.1 bt226.2.1 bt226.2.2 a1).bind fun bt232 => ((laws_eqInt64S.f k bt232.1 t219).bind fun t239 => (if t239 = true then ((laws_eqInt64S.f k bt232.2.1 t222).bind fun t240 => (if t240 = true then (laws_FnExactPanOf.j0 k a1 t219 t222 t225 bt232.1 bt232.2.1 bt232.2.2 (bt232.2.2 != t225) a0_0 a0_1 l0_2 bt226.1 bt226.2.1 bt226.2.2) else (laws_FnExactPanOf.j0 k a1 t219 t222 t225 bt232.1 bt232.2.1 bt232.2.2 true a0_0 a0_1 l0_2 bt226.1 bt226.2.1 bt226.2.2))) else (laws_FnExactPanOf.j0 k a1 t219 t222 t225 bt232.1 bt232.2.1 bt232.2.2 true a0_0 a0_1 l0_2 bt226.1 bt226.2.1 bt226.2.2))))) = some r := H
  have A9 := Aside0.mk A90
  clear A90
  replace H := Option.bind_eq_some_iff.mp H
  obtain ⟨⟨t226, t227, t228⟩, A100, H⟩ := H
  replace H : ((impl_PanOf.f k t226 t227 t228 a1).bind fun bt232 => ((laws_eqInt64S.f k bt232.1 t219).bind fun t239 => (if t239 = true then ((laws_eqInt64S.f k bt232.2.1 t222).bind fun t240 => (if t240 = true then (laws_FnExactPanOf.j0 k a1 t219 t222 t225 bt232.1 bt232.2.1 bt232.2.2 (bt232.2.2 != t225) a0_0 a0_1 l0_2 t226 t227 t228) else (laws_FnExactPanOf.j0 k a1 t219 t222 t225 bt232.1 bt232.2.1 bt232.2.2 true a0_0 a0_1 l0_2 t226 t227 t228))) else (laws_FnExactPanOf.j0 k a1 t219 t222 t225 bt232.1 bt232.2.1 bt232.2.2 true a0_0 a0_1 l0_2 t226 t227 t228)))) = some r := H
  have A10 := Aside0.mk A100
  clear A100
  replace H := Option.bind_eq_some_iff.mp H
  obtain ⟨⟨t232, t235, t238⟩, A110, H⟩ := H
  replace H : ((laws_eqInt64S.f k t232 t219).bind fun t239 => (if t239 = true then ((laws_eqInt64S.f k t235 t222).bind fun t240 => (if t240 = true then (laws_FnExactPanOf.j0 k a1 t219 t222 t225 t232 t235 t238 (t238 != t225) a0_0 a0_1 l0_2 t226 t227 t228) else (laws_FnExactPanOf.j0 k a1 t219 t222 t225 t232 t235 t238 true a0_0 a0_1 l0_2 t226 t227 t228))) else (laws_FnExactPanOf.j0 k a1 t219 t222 t225 t232 t235 t238 true a0_0 a0_1 l0_2 t226 t227 t228))) = some r := H
  have A11 := Aside0.mk A110
  clear A110
  have HC12 := Aside0.mk H
  clear H
  go_enter Try.func8, Try.ntmps8
  go_upto_region 8 with (first | ((with_reducible refine gate_dst (N := 2) rfl ?_); refine box_event ?hg (N := 2) ?hd (cs := #[.int .i8 a0_0, .int .i8 a0_1, .slice A0_2 l0_2.length c0_2]) (t := 25) ?hr ?_; (case hd => rfl); (case hg => rfl); (case hr => first | (go_simp; done) | (go_simp; rfl)); intro gb212 hg w13 hbox hb; have n0_ := A_ (below_step (bl_ HB) hb); have n1_ := A_ (hbox); have n2_ := A_ ((by rw [hg]; exact (below_size (bl_ HB)) : w.heap.size ≤ gb212)); have n3_ := n2_; clear HB; have HB := n0_; have BK212 := n1_; have GW212 := n2_; have GE212 := n3_; clear n0_ n1_ n2_ n3_; clear hb hbox hg; have hcz14_0 : w13.cell? ⟨gb212, 0, none⟩ = some (.int .i8 a0_0) := (blk_cell BK212.out 0).trans rfl; have hcz14_1 : w13.cell? ⟨gb212, 1, none⟩ = some (.int .i8 a0_1) := (blk_cell BK212.out 1).trans rfl; have hcz14_2 : w13.cell? ⟨gb212, 2, none⟩ = some (.slice A0_2 l0_2.length c0_2) := (blk_cell BK212.out 2).trans rfl; have hfz14_0 := blk_frozen BK212.out 0; have hfz14_1 := blk_frozen BK212.out 1; have hfz14_2 := blk_frozen BK212.out 2) | ((with_reducible refine gate_callee (f := 9) rfl ?_); refine goesL_ (some 21) rfl rfl Try.func9 (by kernel_rfl) rfl #[.agg #[.int .i8 a0_0, .int .i8 a0_1, .slice A0_2 l0_2.length c0_2], .int .i64 1048576] rfl arg_ ?_; (with_reducible refine (laws_szFixed.calls a0_0 a0_1 _ _ l0_2 1048576 t213 _ ?side1 ?side2 A3.out).mono ?_); (case side1 => repeat (first | exact (Kd.C_below HR0_2.out HB.out) | (with_reducible refine Kd.C_alloc ?_ _) | (with_reducible refine Kd.C_drewN ?_ _) | (with_reducible refine Kd.C_drew ?_))); (case side2 => exact HC0_2.out); rintro e w15 ⟨rfl, hb⟩; refine ⟨_, rfl, ?_⟩; have n0_ := A_ (blk_below (g := gb212) (o := .cells #[.int .i8 a0_0, .int .i8 a0_1, .slice A0_2 l0_2.length c0_2] 25 (0, 0)) (pl_ BK212) hb); have n1_ := A_ (below_step (bl_ HB) hb); clear BK212; clear HB; have BK212 := n0_; have HB := n1_; clear n0_ n1_; (try clear hb); (try clear hb2); (try clear hk); (try clear hi); have hcz16_0 : w15.cell? ⟨gb212, 0, none⟩ = some (.int .i8 a0_0) := (blk_cell BK212.out 0).trans rfl; have hcz16_1 : w15.cell? ⟨gb212, 1, none⟩ = some (.int .i8 a0_1) := (blk_cell BK212.out 1).trans rfl; have hcz16_2 : w15.cell? ⟨gb212, 2, none⟩ = some (.slice A0_2 l0_2.length c0_2) := (blk_cell BK212.out 2).trans rfl; have hfz16_0 := blk_frozen BK212.out 0; have hfz16_1 := blk_frozen BK212.out 1; have hfz16_2 := blk_frozen BK212.out 2) | ((with_reducible refine gate_callee (f := 11) rfl ?_); refine goesL_ (some 26) rfl rfl Try.func11 (by kernel_rfl) rfl #[.agg #[.int .i8 a0_0, .int .i8 a0_1, .slice A0_2 l0_2.length c0_2]] rfl arg_ ?_; (with_reducible refine (laws_toFixed.calls k a0_0 a0_1 _ _ l0_2 t214 t215 t216 _ ?side1 ?side2 A8.out).mono ?_); (case side1 => repeat (first | exact (Kd.C_below HR0_2.out HB.out) | (with_reducible refine Kd.C_alloc ?_ _) | (with_reducible refine Kd.C_drewN ?_ _) | (with_reducible refine Kd.C_drew ?_))); (case side2 => exact HC0_2.out); rintro e w17 ⟨v217, rfl, ho0, hb⟩; refine ⟨_, rfl, ?_⟩; have n0_ := A_ (Kd.R_lower ho0 (below_size (bl_ HB))); have n1_ := A_ (blk_below (g := gb212) (o := .cells #[.int .i8 a0_0, .int .i8 a0_1, .slice A0_2 l0_2.length c0_2] 25 (0, 0)) (pl_ BK212) hb); have n2_ := A_ (below_step (bl_ HB) hb); clear BK212; clear HB; have HO218 := n0_; have BK212 := n1_; have HB := n2_; clear n0_ n1_ n2_; (try clear hb); (try clear hb2); (try clear hk); (try clear hi); (try clear ho0); obtain ⟨Ao18, co18, eo18⟩ := Kd.R_slice HO218.out; subst eo18) | ((with_reducible refine gate_callee (f := 25) rfl ?_); refine goesL_ (some 28) rfl rfl Try.func25 (by kernel_rfl) rfl #[.agg #[.int .i8 t214, .int .i8 t215, .slice Ao18 t216.length co18], .int .i64 a1] rfl arg_ ?_; (with_reducible refine (spec_PanOf.calls k t214 t215 _ _ t216 a1 t219 t222 t225 _ ?side1 ?side2 A9.out).mono ?_); (case side1 => repeat (first | exact (Kd.R_reads' HO218.out).2.2 | (with_reducible refine Kd.C_alloc ?_ _) | (with_reducible refine Kd.C_drewN ?_ _) | (with_reducible refine Kd.C_drew ?_))); (case side2 => exact (Kd.R_reads' HO218.out).2.1); rintro e w19 ⟨v220, v223, rfl, ho0, ho1, hb⟩; refine ⟨_, rfl, ?_⟩; have n0_ := A_ (Kd.R_below (pr_ HO218) hb); have n1_ := A_ (Kd.R_lower ho0 (below_size (bl_ HB))); have n2_ := A_ (Kd.R_lower ho1 (below_size (bl_ HB))); have n3_ := A_ (blk_below (g := gb212) (o := .cells #[.int .i8 a0_0, .int .i8 a0_1, .slice A0_2 l0_2.length c0_2] 25 (0, 0)) (pl_ BK212) hb); have n4_ := A_ (below_step (bl_ HB) hb); clear HO218; clear BK212; clear HB; have HO218 := n0_; have HO221 := n1_; have HO224 := n2_; have BK212 := n3_; have HB := n4_; clear n0_ n1_ n2_ n3_ n4_; (try clear hb); (try clear hb2); (try clear hk); (try clear hi); (try clear ho0); (try clear ho1); have hcz20_0 : w19.cell? ⟨gb212, 0, none⟩ = some (.int .i8 a0_0) := (blk_cell BK212.out 0).trans rfl; have hcz20_1 : w19.cell? ⟨gb212, 1, none⟩ = some (.int .i8 a0_1) := (blk_cell BK212.out 1).trans rfl; have hcz20_2 : w19.cell? ⟨gb212, 2, none⟩ = some (.slice A0_2 l0_2.length c0_2) := (blk_cell BK212.out 2).trans rfl; have hfz20_0 := blk_frozen BK212.out 0; have hfz20_1 := blk_frozen BK212.out 1; have hfz20_2 := blk_frozen BK212.out 2) | ((with_reducible refine gate_callee (f := 11) rfl ?_); refine goesL_ (some 33) rfl rfl Try.func11 (by kernel_rfl) rfl #[.agg #[.int .i8 a0_0, .int .i8 a0_1, .slice A0_2 l0_2.length c0_2]] rfl arg_ ?_; (with_reducible refine (laws_toFixed.calls k a0_0 a0_1 _ _ l0_2 t226 t227 t228 _ ?side1 ?side2 A10.out).mono ?_); (case side1 => repeat (first | exact (Kd.C_below HR0_2.out HB.out) | (with_reducible refine Kd.C_alloc ?_ _) | (with_reducible refine Kd.C_drewN ?_ _) | (with_reducible refine Kd.C_drew ?_))); (case side2 => exact HC0_2.out); rintro e w21 ⟨v229, rfl, ho0, hb⟩; refine ⟨_, rfl, ?_⟩; have n0_ := A_ (Kd.R_elder' (pr_ HO218) (Kd.R_base ho0) hb); have n1_ := A_ (Kd.R_below (pr_ HO221) hb); have n2_ := A_ (Kd.R_below (pr_ HO224) hb); have n3_ := A_ (Kd.R_lower (Kd.R_new' ho0 (Kd.R_lt (pr_ HO218))) (below_size (bl_ HB))); have n4_ := A_ (blk_below (g := gb212) (o := .cells #[.int .i8 a0_0, .int .i8 a0_1, .slice A0_2 l0_2.length c0_2] 25 (0, 0)) (pl_ BK212) hb); have n5_ := A_ (below_step (bl_ HB) hb); clear HO218; clear HO221; clear HO224; clear BK212; clear HB; have HO218 := n0_; have HO221 := n1_; have HO224 := n2_; have HO230 := n3_; have BK212 := n4_; have HB := n5_; clear n0_ n1_ n2_ n3_ n4_ n5_; (try clear hb); (try clear hb2); (try clear hk); (try clear hi); (try clear ho0)) | ((with_reducible refine gate_dst (N := 9) rfl ?_); refine box_event ?hg (N := 9) ?hd (cs := #[.int .i8 0, .int .i8 0, .slice none 0 0]) (t := 30) ?hr ?_; (case hd => rfl); (case hg => rfl); (case hr => first | (go_simp; done) | (go_simp; rfl)); intro gb231 hg w22 hbox hb; have n0_ := A_ (Kd.R_below (pr_ HO218) hb); have n1_ := A_ (Kd.R_below (pr_ HO221) hb); have n2_ := A_ (Kd.R_below (pr_ HO224) hb); have n3_ := A_ (Kd.R_below (pr_ HO230) hb); have n4_ := A_ (blk_below (g := gb212) (o := .cells #[.int .i8 a0_0, .int .i8 a0_1, .slice A0_2 l0_2.length c0_2] 25 (0, 0)) (pl_ BK212) hb); have n5_ := A_ (below_step (bl_ HB) hb); have n6_ := A_ (hbox); have n7_ := A_ ((by rw [hg]; exact (below_size (bl_ HB)) : w.heap.size ≤ gb231)); have n8_ := n7_; have n9_ := A_ ((by rw [hg]; exact Nat.ne_of_lt (blk_lt (g := gb212) (o := .cells #[.int .i8 a0_0, .int .i8 a0_1, .slice A0_2 l0_2.length c0_2] 25 (0, 0)) (pl_ BK212)) : gb212 ≠ gb231)); have n10_ := A_ ((by rw [hg]; exact Nat.ne_of_gt (blk_lt (g := gb212) (o := .cells #[.int .i8 a0_0, .int .i8 a0_1, .slice A0_2 l0_2.length c0_2] 25 (0, 0)) (pl_ BK212)) : gb231 ≠ gb212)); clear HO218; clear HO221; clear HO224; clear HO230; clear BK212; clear HB; have HO218 := n0_; have HO221 := n1_; have HO224 := n2_; have HO230 := n3_; have BK212 := n4_; have HB := n5_; have BK231 := n6_; have GW231 := n7_; have GE231 := n8_; have NB212_231 := n9_; have NB231_212 := n10_; clear n0_ n1_ n2_ n3_ n4_ n5_ n6_ n7_ n8_ n9_ n10_; clear hb hbox hg; have hnb23 := NB231_212.out; have hnc23 := NB212_231.out; have hcz24_0 : w22.cell? ⟨gb231, 0, none⟩ = some (.int .i8 0) := (blk_cell BK231.out 0).trans rfl; have hcz24_1 : w22.cell? ⟨gb231, 1, none⟩ = some (.int .i8 0) := (blk_cell BK231.out 1).trans rfl; have hcz24_2 : w22.cell? ⟨gb231, 2, none⟩ = some (.slice none 0 0) := (blk_cell BK231.out 2).trans rfl; have hfz24_0 := blk_frozen BK231.out 0; have hfz24_1 := blk_frozen BK231.out 1; have hfz24_2 := blk_frozen BK231.out 2; obtain ⟨Ao25, co25, eo25⟩ := Kd.R_slice HO230.out; subst eo25) | ((with_reducible refine gate_callee (f := 26) rfl ?_); refine goesL_ (some 37) rfl rfl Try.func26 (by kernel_rfl) rfl #[.agg #[.int .i8 t226, .int .i8 t227, .slice Ao25 t228.length co25], .int .i64 a1] rfl arg_ ?_; (with_reducible refine (impl_PanOf.calls k t226 t227 _ _ t228 a1 t232 t235 t238 _ ?side1 ?side2 A11.out).mono ?_); (case side1 => refine (Kd.R_reads' (e := 40) (base := w.heap.size) (ok := fun k_ => (True ∧ some k_ ≠ (.slice Ao18 t216.length co18 : Value).ownBlock)) (n := t228.length) (c := co25) ?_).2.2; exact (by (with_reducible repeat (first | apply Kd.R_alloc | apply Kd.R_drewN | apply Kd.R_drew)); exact (rf3_ HO230 BK231 (by decide)))); (case side2 => exact (Kd.R_reads' HO230.out).2.1); rintro e w26 ⟨v233, v236, rfl, ho0, ho1, hb⟩; refine ⟨_, rfl, ?_⟩; have n0_ := A_ (Kd.R_below (by (with_reducible repeat (first | apply Kd.R_alloc | apply Kd.R_drewN | apply Kd.R_drew)); exact (rf3_ HO218 BK231 (by decide))) hb); have n1_ := A_ (Kd.R_mono (Kd.R_told (Kd.R_told (Kd.R_old (by (with_reducible repeat (first | apply Kd.R_alloc | apply Kd.R_drewN | apply Kd.R_drew)); exact (rf3_ HO221 BK231 (by decide))) hb) (Kd.R_base ho0)) (Kd.R_base ho1)) (fun _ h_ => h_.1)); have n2_ := A_ (Kd.R_mono (Kd.R_told (Kd.R_told (Kd.R_old (by (with_reducible repeat (first | apply Kd.R_alloc | apply Kd.R_drewN | apply Kd.R_drew)); exact (rf3_ HO224 BK231 (by decide))) hb) (Kd.R_base ho0)) (Kd.R_base ho1)) (fun _ h_ => h_.1)); have n3_ := A_ (Kd.R_below (by (with_reducible repeat (first | apply Kd.R_alloc | apply Kd.R_drewN | apply Kd.R_drew)); exact (rf3_ HO230 BK231 (by decide))) hb); have n4_ := A_ (Kd.R_lower (Kd.R_new' (Kd.R_new' ho0 (Kd.R_lt (by (with_reducible repeat (first | apply Kd.R_alloc | apply Kd.R_drewN | apply Kd.R_drew)); exact (rf3_ HO221 BK231 (by decide))))) (Kd.R_lt (by (with_reducible repeat (first | apply Kd.R_alloc | apply Kd.R_drewN | apply Kd.R_drew)); exact (rf3_ HO224 BK231 (by decide))))) (below_size (bs_ HB GE231))); have n5_ := A_ (Kd.R_lower (Kd.R_new' (Kd.R_new' ho1 (Kd.R_lt (by (with_reducible repeat (first | apply Kd.R_alloc | apply Kd.R_drewN | apply Kd.R_drew)); exact (rf3_ HO221 BK231 (by decide))))) (Kd.R_lt (by (with_reducible repeat (first | apply Kd.R_alloc | apply Kd.R_drewN | apply Kd.R_drew)); exact (rf3_ HO224 BK231 (by decide))))) (below_size (bs_ HB GE231))); have n6_ := A_ (blk_below (g := gb212) (o := .cells #[.int .i8 a0_0, .int .i8 a0_1, .slice A0_2 l0_2.length c0_2] 25 (0, 0)) (pf_ BK212 NB212_231) hb); have n7_ := A_ (blk_below (g := gb231) (o := .cells #[.int .i8 t226, .int .i8 t227, .slice Ao25 t228.length co25] 30 (0, 0)) (by (with_reducible repeat (first | refine blk_drewN ?_ _ | refine blk_drew ?_ | refine blk_alloc ?_ _)); refine blk_put (cs := #[.int .i8 t226, .int .i8 t227, .slice none 0 0]) ?_ 2 _ rfl; (with_reducible repeat (first | refine blk_drewN ?_ _ | refine blk_drew ?_ | refine blk_alloc ?_ _)); refine blk_put (cs := #[.int .i8 t226, .int .i8 0, .slice none 0 0]) ?_ 1 _ rfl; (with_reducible repeat (first | refine blk_drewN ?_ _ | refine blk_drew ?_ | refine blk_alloc ?_ _)); refine blk_put (cs := #[.int .i8 0, .int .i8 0, .slice none 0 0]) ?_ 0 _ rfl; (with_reducible repeat (first | refine blk_drewN ?_ _ | refine blk_drew ?_ | refine blk_alloc ?_ _)); exact BK231.out) hb); have n8_ := A_ (below_step (bs_ HB GE231) hb); clear HO218; clear HO221; clear HO224; clear HO230; clear BK212; clear BK231; clear HB; have HO218 := n0_; have HO221 := n1_; have HO224 := n2_; have HO230 := n3_; have HO234 := n4_; have HO237 := n5_; have BK212 := n6_; have BK231 := n7_; have HB := n8_; clear n0_ n1_ n2_ n3_ n4_ n5_ n6_ n7_ n8_; (try clear hb); (try clear hb2); (try clear hk); (try clear hi); (try clear ho0); (try clear ho1)))
  (try simp only [Act.put, List.setIfInBounds_toArray, List.set_cons_zero, List.set_cons_succ])
  go_cut [55] (fun v55 wc => ∃ (kq : Nat) (x55_11 : Bool), v55 = .bool x55_11 ∧ Aside0 (laws_FnExactPanOf.j0 kq a1 t219 t222 t225 t232 t235 t238 x55_11 a0_0 a0_1 l0_2 t226 t227 t228 = some r) ∧ Aside0 (kq ≤ k) ∧ Aside0 (Kd.R (Kd.int .i64) 2 wc w.heap.size (fun k_ => some k_ ≠ (v223 : Value).ownBlock ∧ some k_ ≠ (v233 : Value).ownBlock ∧ some k_ ≠ (v236 : Value).ownBlock) v220 t219) ∧ Aside0 (Kd.R (Kd.int .i64) 2 wc w.heap.size (fun k_ => some k_ ≠ (v220 : Value).ownBlock ∧ some k_ ≠ (v233 : Value).ownBlock ∧ some k_ ≠ (v236 : Value).ownBlock) v223 t222) ∧ Aside0 (Kd.R (Kd.int .i64) 2 wc w.heap.size (fun k_ => some k_ ≠ (v220 : Value).ownBlock ∧ some k_ ≠ (v223 : Value).ownBlock ∧ some k_ ≠ (v236 : Value).ownBlock) v233 t232) ∧ Aside0 (Kd.R (Kd.int .i64) 2 wc w.heap.size (fun k_ => some k_ ≠ (v220 : Value).ownBlock ∧ some k_ ≠ (v223 : Value).ownBlock ∧ some k_ ≠ (v233 : Value).ownBlock) v236 t235) ∧ Aside0 (Kd.R k40 40 wc w.heap.size (fun _ => True) (.slice Ao25 t228.length co25) t228) ∧ Aside0 (wc.heap[gb212]? = some (.cells #[.int .i8 a0_0, .int .i8 a0_1, (.slice A0_2 l0_2.length c0_2)] 25 (0, 0))) ∧ Aside0 (wc.heap[gb231]? = some (.cells #[.int .i8 t226, .int .i8 t227, (.slice Ao25 t228.length co25)] 30 (0, 0))) ∧ Aside0 (Below w.heap.size w wc))
  case first =>
   have H := HC12.out
   clear HC12
   replace H := Option.bind_eq_some_iff.mp H
   obtain ⟨t239, A270, H⟩ := H
   replace H : (if t239 = true then ((laws_eqInt64S.f k t235 t222).bind fun t240 => (if t240 = true then (laws_FnExactPanOf.j0 k a1 t219 t222 t225 t232 t235 t238 (t238 != t225) a0_0 a0_1 l0_2 t226 t227 t228) else (laws_FnExactPanOf.j0 k a1 t219 t222 t225 t232 t235 t238 true a0_0 a0_1 l0_2 t226 t227 t228))) else (laws_FnExactPanOf.j0 k a1 t219 t222 t225 t232 t235 t238 true a0_0 a0_1 l0_2 t226 t227 t228)) = some r := H
   have A27 := Aside0.mk A270
   clear A270
   by_cases c28 : t239 = true
   ·subst c28
    have H1 : ((laws_eqInt64S.f k t235 t222).bind fun t240 => (if t240 = true then (laws_FnExactPanOf.j0 k a1 t219 t222 t225 t232 t235 t238 (t238 != t225) a0_0 a0_1 l0_2 t226 t227 t228) else (laws_FnExactPanOf.j0 k a1 t219 t222 t225 t232 t235 t238 true a0_0 a0_1 l0_2 t226 t227 t228))) = some r := by rw [if_pos rfl] at H; exact H
    clear H
    have H := H1
    clear H1
    replace H := Option.bind_eq_some_iff.mp H
    obtain ⟨t240, A290, H⟩ := H
    replace H : (if t240 = true then (laws_FnExactPanOf.j0 k a1 t219 t222 t225 t232 t235 t238 (t238 != t225) a0_0 a0_1 l0_2 t226 t227 t228) else (laws_FnExactPanOf.j0 k a1 t219 t222 t225 t232 t235 t238 true a0_0 a0_1 l0_2 t226 t227 t228)) = some r := H
    have A29 := Aside0.mk A290
    clear A290
    by_cases c30 : t240 = true
    ·subst c30
     have H1 : (laws_FnExactPanOf.j0 k a1 t219 t222 t225 t232 t235 t238 (t238 != t225) a0_0 a0_1 l0_2 t226 t227 t228) = some r := by rw [if_pos rfl] at H; exact H
     clear H
     have H := H1
     clear H1
     have H' := Aside0.mk H
     clear H
     obtain ⟨Ao31, co31, eo31⟩ := Kd.R_slice HO234.out
     subst eo31
     obtain ⟨Ao32, co32, eo32⟩ := Kd.R_slice HO221.out
     subst eo32
     go_wp2_with (first | ((with_reducible refine gate_callee (f := 27) rfl ?_); refine goesL_ (some 43) rfl rfl Try.func27 (by kernel_rfl) rfl #[.slice Ao31 t232.length co31, .slice Ao32 t219.length co32] rfl arg_ ?_; (with_reducible refine (laws_eqInt64S.calls k _ _ t232 _ _ t219 true _ ?side1 ?side2 ?side3 ?side4 A27.out).mono ?_); (case side1 => repeat (first | exact (Kd.R_reads' HO234.out).2.2 | (with_reducible refine Kd.C_alloc ?_ _) | (with_reducible refine Kd.C_drewN ?_ _) | (with_reducible refine Kd.C_drew ?_))); (case side2 => exact (Kd.R_reads' HO234.out).2.1); (case side3 => repeat (first | exact (Kd.R_reads' HO221.out).2.2 | (with_reducible refine Kd.C_alloc ?_ _) | (with_reducible refine Kd.C_drewN ?_ _) | (with_reducible refine Kd.C_drew ?_))); (case side4 => exact (Kd.R_reads' HO221.out).2.1); rintro e w' ⟨rfl, ⟨nd, rfl⟩⟩; refine ⟨_, rfl, ?_⟩; obtain ⟨Ao33, co33, eo33⟩ := Kd.R_slice HO237.out; subst eo33; obtain ⟨Ao34, co34, eo34⟩ := Kd.R_slice HO224.out; subst eo34) | (go_at_call 27; (with_reducible refine (laws_eqInt64S.calls k _ _ t235 _ _ t222 true _ ?side1 ?side2 ?side3 ?side4 A29.out).mono ?_); (case side1 => repeat (first | exact (Kd.R_reads' HO237.out).2.2 | (with_reducible refine Kd.C_alloc ?_ _) | (with_reducible refine Kd.C_drewN ?_ _) | (with_reducible refine Kd.C_drew ?_))); (case side2 => exact (Kd.R_reads' HO237.out).2.1); (case side3 => repeat (first | exact (Kd.R_reads' HO224.out).2.2 | (with_reducible refine Kd.C_alloc ?_ _) | (with_reducible refine Kd.C_drewN ?_ _) | (with_reducible refine Kd.C_drew ?_))); (case side4 => exact (Kd.R_reads' HO224.out).2.1); rintro e w' ⟨rfl, ⟨nd, rfl⟩⟩))
     go_meet
     case rel => exact ⟨_, ((t238 != t225)), rs_, H', ⟨by first | omega | exact Nat.le_refl _⟩, ⟨by (with_reducible repeat (first | apply Kd.R_alloc | apply Kd.R_drewN | apply Kd.R_drew)); exact Kd.R_mono HO221.out (fun _ hk => ⟨hk.1.1, ⟨hk.1.2, hk.2⟩⟩)⟩, ⟨by (with_reducible repeat (first | apply Kd.R_alloc | apply Kd.R_drewN | apply Kd.R_drew)); exact Kd.R_mono HO224.out (fun _ hk => ⟨hk.1.1, ⟨hk.1.2, hk.2⟩⟩)⟩, ⟨by (with_reducible repeat (first | apply Kd.R_alloc | apply Kd.R_drewN | apply Kd.R_drew)); exact Kd.R_mono HO234.out (fun _ hk => ⟨hk.1.2, ⟨hk.2, hk.1.1⟩⟩)⟩, ⟨by (with_reducible repeat (first | apply Kd.R_alloc | apply Kd.R_drewN | apply Kd.R_drew)); exact Kd.R_mono HO237.out (fun _ hk => ⟨hk.1.2, ⟨hk.2, hk.1.1⟩⟩)⟩, ⟨by (with_reducible repeat (first | apply Kd.R_alloc | apply Kd.R_drewN | apply Kd.R_drew)); exact Kd.R_mono HO230.out (fun _ hk => trivial)⟩, ⟨pl_ BK212⟩, ⟨pl_ BK231⟩, ⟨bl_ HB⟩⟩
    ·replace c30 := Bool.eq_false_iff.mpr c30
     subst c30
     have H1 : (laws_FnExactPanOf.j0 k a1 t219 t222 t225 t232 t235 t238 true a0_0 a0_1 l0_2 t226 t227 t228) = some r := by rw [if_neg (show ¬ (false = true) by decide)] at H; exact H
     clear H
     have H := H1
     clear H1
     have H' := Aside0.mk H
     clear H
     obtain ⟨Ao35, co35, eo35⟩ := Kd.R_slice HO234.out
     subst eo35
     obtain ⟨Ao36, co36, eo36⟩ := Kd.R_slice HO221.out
     subst eo36
     go_wp2_with (first | ((with_reducible refine gate_callee (f := 27) rfl ?_); refine goesL_ (some 43) rfl rfl Try.func27 (by kernel_rfl) rfl #[.slice Ao35 t232.length co35, .slice Ao36 t219.length co36] rfl arg_ ?_; (with_reducible refine (laws_eqInt64S.calls k _ _ t232 _ _ t219 true _ ?side1 ?side2 ?side3 ?side4 A27.out).mono ?_); (case side1 => repeat (first | exact (Kd.R_reads' HO234.out).2.2 | (with_reducible refine Kd.C_alloc ?_ _) | (with_reducible refine Kd.C_drewN ?_ _) | (with_reducible refine Kd.C_drew ?_))); (case side2 => exact (Kd.R_reads' HO234.out).2.1); (case side3 => repeat (first | exact (Kd.R_reads' HO221.out).2.2 | (with_reducible refine Kd.C_alloc ?_ _) | (with_reducible refine Kd.C_drewN ?_ _) | (with_reducible refine Kd.C_drew ?_))); (case side4 => exact (Kd.R_reads' HO221.out).2.1); rintro e w' ⟨rfl, ⟨nd, rfl⟩⟩; refine ⟨_, rfl, ?_⟩; obtain ⟨Ao37, co37, eo37⟩ := Kd.R_slice HO237.out; subst eo37; obtain ⟨Ao38, co38, eo38⟩ := Kd.R_slice HO224.out; subst eo38) | (go_at_call 27; (with_reducible refine (laws_eqInt64S.calls k _ _ t235 _ _ t222 false _ ?side1 ?side2 ?side3 ?side4 A29.out).mono ?_); (case side1 => repeat (first | exact (Kd.R_reads' HO237.out).2.2 | (with_reducible refine Kd.C_alloc ?_ _) | (with_reducible refine Kd.C_drewN ?_ _) | (with_reducible refine Kd.C_drew ?_))); (case side2 => exact (Kd.R_reads' HO237.out).2.1); (case side3 => repeat (first | exact (Kd.R_reads' HO224.out).2.2 | (with_reducible refine Kd.C_alloc ?_ _) | (with_reducible refine Kd.C_drewN ?_ _) | (with_reducible refine Kd.C_drew ?_))); (case side4 => exact (Kd.R_reads' HO224.out).2.1); rintro e w' ⟨rfl, ⟨nd, rfl⟩⟩))
     go_meet
     case rel => exact ⟨_, (true), rs_, H', ⟨by first | omega | exact Nat.le_refl _⟩, ⟨by (with_reducible repeat (first | apply Kd.R_alloc | apply Kd.R_drewN | apply Kd.R_drew)); exact Kd.R_mono HO221.out (fun _ hk => ⟨hk.1.1, ⟨hk.1.2, hk.2⟩⟩)⟩, ⟨by (with_reducible repeat (first | apply Kd.R_alloc | apply Kd.R_drewN | apply Kd.R_drew)); exact Kd.R_mono HO224.out (fun _ hk => ⟨hk.1.1, ⟨hk.1.2, hk.2⟩⟩)⟩, ⟨by (with_reducible repeat (first | apply Kd.R_alloc | apply Kd.R_drewN | apply Kd.R_drew)); exact Kd.R_mono HO234.out (fun _ hk => ⟨hk.1.2, ⟨hk.2, hk.1.1⟩⟩)⟩, ⟨by (with_reducible repeat (first | apply Kd.R_alloc | apply Kd.R_drewN | apply Kd.R_drew)); exact Kd.R_mono HO237.out (fun _ hk => ⟨hk.1.2, ⟨hk.2, hk.1.1⟩⟩)⟩, ⟨by (with_reducible repeat (first | apply Kd.R_alloc | apply Kd.R_drewN | apply Kd.R_drew)); exact Kd.R_mono HO230.out (fun _ hk => trivial)⟩, ⟨pl_ BK212⟩, ⟨pl_ BK231⟩, ⟨bl_ HB⟩⟩
   ·replace c28 := Bool.eq_false_iff.mpr c28
    subst c28
    have H1 : (laws_FnExactPanOf.j0 k a1 t219 t222 t225 t232 t235 t238 true a0_0 a0_1 l0_2 t226 t227 t228) = some r := by rw [if_neg (show ¬ (false = true) by decide)] at H; exact H
    clear H
    have H := H1
    clear H1
    have H' := Aside0.mk H
    clear H
    obtain ⟨Ao39, co39, eo39⟩ := Kd.R_slice HO234.out
    subst eo39
    obtain ⟨Ao40, co40, eo40⟩ := Kd.R_slice HO221.out
    subst eo40
    go_wp2_with (first | ((with_reducible refine gate_callee (f := 27) rfl ?_); refine goesL_ (some 43) rfl rfl Try.func27 (by kernel_rfl) rfl #[.slice Ao39 t232.length co39, .slice Ao40 t219.length co40] rfl arg_ ?_; (with_reducible refine (laws_eqInt64S.calls k _ _ t232 _ _ t219 false _ ?side1 ?side2 ?side3 ?side4 A27.out).mono ?_); (case side1 => repeat (first | exact (Kd.R_reads' HO234.out).2.2 | (with_reducible refine Kd.C_alloc ?_ _) | (with_reducible refine Kd.C_drewN ?_ _) | (with_reducible refine Kd.C_drew ?_))); (case side2 => exact (Kd.R_reads' HO234.out).2.1); (case side3 => repeat (first | exact (Kd.R_reads' HO221.out).2.2 | (with_reducible refine Kd.C_alloc ?_ _) | (with_reducible refine Kd.C_drewN ?_ _) | (with_reducible refine Kd.C_drew ?_))); (case side4 => exact (Kd.R_reads' HO221.out).2.1); rintro e w' ⟨rfl, ⟨nd, rfl⟩⟩; refine ⟨_, rfl, ?_⟩))
    go_meet
    case rel => exact ⟨_, (true), rs_, H', ⟨by first | omega | exact Nat.le_refl _⟩, ⟨by (with_reducible repeat (first | apply Kd.R_alloc | apply Kd.R_drewN | apply Kd.R_drew)); exact Kd.R_mono HO221.out (fun _ hk => ⟨hk.1.1, ⟨hk.1.2, hk.2⟩⟩)⟩, ⟨by (with_reducible repeat (first | apply Kd.R_alloc | apply Kd.R_drewN | apply Kd.R_drew)); exact Kd.R_mono HO224.out (fun _ hk => ⟨hk.1.1, ⟨hk.1.2, hk.2⟩⟩)⟩, ⟨by (with_reducible repeat (first | apply Kd.R_alloc | apply Kd.R_drewN | apply Kd.R_drew)); exact Kd.R_mono HO234.out (fun _ hk => ⟨hk.1.2, ⟨hk.2, hk.1.1⟩⟩)⟩, ⟨by (with_reducible repeat (first | apply Kd.R_alloc | apply Kd.R_drewN | apply Kd.R_drew)); exact Kd.R_mono HO237.out (fun _ hk => ⟨hk.1.2, ⟨hk.2, hk.1.1⟩⟩)⟩, ⟨by (with_reducible repeat (first | apply Kd.R_alloc | apply Kd.R_drewN | apply Kd.R_drew)); exact Kd.R_mono HO230.out (fun _ hk => trivial)⟩, ⟨pl_ BK212⟩, ⟨pl_ BK231⟩, ⟨bl_ HB⟩⟩
  case rest =>
   clear HC12
   try clear c1
   try clear c2
   try clear p2
   try clear c3
   try clear c4
   try clear c4b0
   try clear c8
   try clear c9
   try clear c11
   try clear c23
   try clear c25
   try clear c26
   try clear c27
   try clear c28
   try clear c30
   try clear hcz14_0
   try clear hcz14_1
   try clear hcz14_2
   try clear hcz16_0
   try clear hcz16_1
   try clear hcz16_2
   try clear hcz20_0
   try clear hcz20_1
   try clear hcz20_2
   try clear hcz24_0
   try clear hcz24_1
   try clear hcz24_2
   try clear hcz6_0
   try clear hcz6_1
   try clear hcz6_2
   try clear hfz14_0
   try clear hfz14_1
   try clear hfz14_2
   try clear hfz16_0
   try clear hfz16_1
   try clear hfz16_2
   try clear hfz20_0
   try clear hfz20_1
   try clear hfz20_2
   try clear hfz24_0
   try clear hfz24_1
   try clear hfz24_2
   try clear hfz6_0
   try clear hfz6_1
   try clear hfz6_2
   obtain ⟨kq, x55_11, rfl, HA, HJ11, HO_6, HO_7, HO_10, HO_11, HO_232002, BK212, BK231, HB⟩ := hcut
   cases kq with
   | zero => exact absurd HA.out (by simp [laws_FnExactPanOf.j0])
   | succ kj11 =>
    have H := HA.out
    clear HA
    simp only [laws_FnExactPanOf.j0] at H
    by_cases c41 : x55_11 = true
    ·subst c41
     have H1 : (some false) = some r := by rw [if_pos rfl] at H; exact H
     clear H
     have H := H1
     clear H1
     obtain rfl := Option.some.inj H
     go_wp2
     go_ret
     exact ⟨by first | rfl | (simp [errW_none, errW_some] <;> rfl) | (simp [*, errW_none, errW_some] <;> rfl), bl_ HB⟩
    ·replace c41 := Bool.eq_false_iff.mpr c41
     subst c41
     have H1 : ((laws_toFixed.f kj11 a0_0 a0_1 l0_2).bind fun bt241 => ((laws_eqFixed.f kj11 t226 t227 t228 bt241.1 bt241.2.1 bt241.2.2).bind fun t246 => (if t246 = true then ((laws_markFixed.f kj11 t226 t227 t228 1).bind fun bt247 => (if bt247.1 < 0 then (laws_FnExactPanOf.j1 kj11 a1 t219 t222 t225 t232 t235 true a0_0 a0_1 l0_2) else ((laws_eqInt64S.f kj11 t232 t219).bind fun t249 => (if t249 = true then ((laws_eqInt64S.f kj11 t235 t222).bind fun t250 => (if t250 = true then (laws_FnExactPanOf.j1 kj11 a1 t219 t222 t225 t232 t235 (t238 != t225) a0_0 a0_1 l0_2) else (laws_FnExactPanOf.j1 kj11 a1 t219 t222 t225 t232 t235 true a0_0 a0_1 l0_2))) else (laws_FnExactPanOf.j1 kj11 a1 t219 t222 t225 t232 t235 true a0_0 a0_1 l0_2))))) else (some false)))) = some r := by rw [if_neg (show ¬ (false = true) by decide)] at H; exact H
     clear H
     have H := H1
     clear H1
     replace H := Option.bind_eq_some_iff.mp H
     obtain ⟨⟨t241, t242, t243⟩, A420, H⟩ := H
     replace H : ((laws_eqFixed.f kj11 t226 t227 t228 t241 t242 t243).bind fun t246 => (if t246 = true then ((laws_markFixed.f kj11 t226 t227 t228 1).bind fun bt247 => (if bt247.1 < 0 then (laws_FnExactPanOf.j1 kj11 a1 t219 t222 t225 t232 t235 true a0_0 a0_1 l0_2) else ((laws_eqInt64S.f kj11 t232 t219).bind fun t249 => (if t249 = true then ((laws_eqInt64S.f kj11 t235 t222).bind fun t250 => (if t250 = true then (laws_FnExactPanOf.j1 kj11 a1 t219 t222 t225 t232 t235 (t238 != t225) a0_0 a0_1 l0_2) else (laws_FnExactPanOf.j1 kj11 a1 t219 t222 t225 t232 t235 true a0_0 a0_1 l0_2))) else (laws_FnExactPanOf.j1 kj11 a1 t219 t222 t225 t232 t235 true a0_0 a0_1 l0_2))))) else (some false))) = some r := H
     have A42 := Aside0.mk A420
     clear A420
     replace H := Option.bind_eq_some_iff.mp H
     obtain ⟨t246, A430, H⟩ := H
     replace H : (if t246 = true then ((laws_markFixed.f kj11 t226 t227 t228 1).bind fun bt247 => (if bt247.1 < 0 then (laws_FnExactPanOf.j1 kj11 a1 t219 t222 t225 t232 t235 true a0_0 a0_1 l0_2) else ((laws_eqInt64S.f kj11 t232 t219).bind fun t249 => (if t249 = true then ((laws_eqInt64S.f kj11 t235 t222).bind fun t250 => (if t250 = true then (laws_FnExactPanOf.j1 kj11 a1 t219 t222 t225 t232 t235 (t238 != t225) a0_0 a0_1 l0_2) else (laws_FnExactPanOf.j1 kj11 a1 t219 t222 t225 t232 t235 true a0_0 a0_1 l0_2))) else (laws_FnExactPanOf.j1 kj11 a1 t219 t222 t225 t232 t235 true a0_0 a0_1 l0_2))))) else (some false)) = some r := H
     have A43 := Aside0.mk A430
     clear A430
     by_cases c44 : t246 = true
     ·subst c44
      have H1 : ((laws_markFixed.f kj11 t226 t227 t228 1).bind fun bt247 => (if bt247.1 < 0 then (laws_FnExactPanOf.j1 kj11 a1 t219 t222 t225 t232 t235 true a0_0 a0_1 l0_2) else ((laws_eqInt64S.f kj11 t232 t219).bind fun t249 => (if t249 = true then ((laws_eqInt64S.f kj11 t235 t222).bind fun t250 => (if t250 = true then (laws_FnExactPanOf.j1 kj11 a1 t219 t222 t225 t232 t235 (t238 != t225) a0_0 a0_1 l0_2) else (laws_FnExactPanOf.j1 kj11 a1 t219 t222 t225 t232 t235 true a0_0 a0_1 l0_2))) else (laws_FnExactPanOf.j1 kj11 a1 t219 t222 t225 t232 t235 true a0_0 a0_1 l0_2))))) = some r := by rw [if_pos rfl] at H; exact H
      clear H
      have H := H1
      clear H1
      replace H := Option.bind_eq_some_iff.mp H
      obtain ⟨⟨t247, t248⟩, A450, H⟩ := H
      replace H : (if t247 < 0 then (laws_FnExactPanOf.j1 kj11 a1 t219 t222 t225 t232 t235 true a0_0 a0_1 l0_2) else ((laws_eqInt64S.f kj11 t232 t219).bind fun t249 => (if t249 = true then ((laws_eqInt64S.f kj11 t235 t222).bind fun t250 => (if t250 = true then (laws_FnExactPanOf.j1 kj11 a1 t219 t222 t225 t232 t235 (t238 != t225) a0_0 a0_1 l0_2) else (laws_FnExactPanOf.j1 kj11 a1 t219 t222 t225 t232 t235 true a0_0 a0_1 l0_2))) else (laws_FnExactPanOf.j1 kj11 a1 t219 t222 t225 t232 t235 true a0_0 a0_1 l0_2)))) = some r := H
      have A45 := Aside0.mk A450
      clear A450
      have HC46 := Aside0.mk H
      clear H
      try go_wp2
      have n0_ := A_ (Kd.R_drew HO_6.out)
      have n1_ := A_ (Kd.R_drew HO_7.out)
      have n2_ := A_ (Kd.R_drew HO_10.out)
      have n3_ := A_ (Kd.R_drew HO_11.out)
      have n4_ := A_ (Kd.R_drew HO_232002.out)
      have n5_ := A_ (blk_drew BK212.out)
      have n6_ := A_ (blk_drew BK231.out)
      have n7_ := A_ (below_drew1 HB.out)
      clear HO_6
      clear HO_7
      clear HO_10
      clear HO_11
      clear HO_232002
      clear BK212
      clear BK231
      clear HB
      have HO_6 := n0_
      have HO_7 := n1_
      have HO_10 := n2_
      have HO_11 := n3_
      have HO_232002 := n4_
      have BK212 := n5_
      have BK231 := n6_
      have HB := n7_
      clear n0_ n1_ n2_ n3_ n4_ n5_ n6_ n7_
      refine start_ (n := 5) (S := fun w' => w'.cell? ⟨gb231, 0, none⟩ = some (.int .i8 t226) ∧ w'.cell? ⟨gb231, 1, none⟩ = some (.int .i8 t227) ∧ w'.cell? ⟨gb231, 2, none⟩ = some (.slice Ao25 t228.length co25) ∧ w'.cell? ⟨gb212, 0, none⟩ = some (.int .i8 a0_0) ∧ w'.cell? ⟨gb212, 1, none⟩ = some (.int .i8 a0_1) ∧ w'.cell? ⟨gb212, 2, none⟩ = some (.slice A0_2 l0_2.length c0_2)) (ds := []) #[false, false, false, false, false] (by kernel_rfl) rfl rfl ⟨(blk_cell BK231.out 0).trans rfl, (blk_cell BK231.out 1).trans rfl, (blk_cell BK231.out 2).trans rfl, (blk_cell BK212.out 0).trans rfl, (blk_cell BK212.out 1).trans rfl, (blk_cell BK212.out 2).trans rfl⟩ (fun hHeld => ?_)
      generalize wc.drew = w47 at HO_6 HO_7 HO_10 HO_11 HO_232002 BK212 BK231 HB hHeld ⊢
      refine take_ (i := 0) (N := some 56) (v := ?_) (a' := ?_) #[true, false, false, false, false] rfl rfl (by kernel_rfl) (fun _ _ _ h => h) (Or.inl ⟨by rfl, ?_⟩) hHeld ?_ ?_
      rotate_left
      ·rintro w' ⟨s0, s1, s2, s3, s4, s5⟩
       go_simp
       with_reducible rfl
      rotate_left
      ·simp only [Act.put, List.setIfInBounds_toArray, List.set_cons_zero, List.set_cons_succ, i64_w, i32_w]
       rfl
      refine take_ (i := 1) (N := some 57) (v := ?_) (a' := ?_) #[true, true, false, false, false] rfl rfl (by kernel_rfl) (fun _ _ _ h => h) (Or.inl ⟨by rfl, ?_⟩) hHeld ?_ ?_
      rotate_left
      ·rintro w' ⟨s0, s1, s2, s3, s4, s5⟩
       go_simp
       with_reducible rfl
      rotate_left
      ·simp only [Act.put, List.setIfInBounds_toArray, List.set_cons_zero, List.set_cons_succ, i64_w, i32_w]
       rfl
      refine one_ (i := 2) (N := some 58) #[true, true, true, false, false] rfl rfl (by kernel_rfl) (by decide) (fun K hK => ?_)
      refine goes_ Try.func11 (by kernel_rfl) rfl #[.agg #[.int .i8 a0_0, .int .i8 a0_1, .slice A0_2 l0_2.length c0_2]] (by rfl) rfl rfl arg_ ?_
      with_reducible refine (laws_toFixed.calls kj11 a0_0 a0_1 _ _ l0_2 t241 t242 t243 _ ?side1 ?side2 A42.out).mono ?_
      (case side1 => repeat (first | exact (Kd.C_below HR0_2.out HB.out) | (with_reducible refine Kd.C_alloc ?_ _) | (with_reducible refine Kd.C_drewN ?_ _) | (with_reducible refine Kd.C_drew ?_)))
      (case side2 => exact HC0_2.out)
      rintro e w48 ⟨v244, rfl, ho0, hb⟩
      refine ⟨_, rfl, ?_⟩
      have n0_ := A_ (Kd.R_below (pr_ HO_6) hb)
      have n1_ := A_ (Kd.R_below (pr_ HO_7) hb)
      have n2_ := A_ (Kd.R_below (pr_ HO_10) hb)
      have n3_ := A_ (Kd.R_below (pr_ HO_11) hb)
      have n4_ := A_ (Kd.R_elder' (pr_ HO_232002) (Kd.R_base ho0) hb)
      have n5_ := A_ (Kd.R_lower (Kd.R_new' ho0 (Kd.R_lt (pr_ HO_232002))) (below_size (bl_ HB)))
      have n6_ := A_ (blk_below (g := gb212) (o := .cells #[.int .i8 a0_0, .int .i8 a0_1, .slice A0_2 l0_2.length c0_2] 25 (0, 0)) (pl_ BK212) hb)
      have n7_ := A_ (blk_below (g := gb231) (o := .cells #[.int .i8 t226, .int .i8 t227, .slice Ao25 t228.length co25] 30 (0, 0)) (pl_ BK231) hb)
      have n8_ := A_ (below_step (bl_ HB) hb)
      clear HO_6
      clear HO_7
      clear HO_10
      clear HO_11
      clear HO_232002
      clear BK212
      clear BK231
      clear HB
      have HO_6 := n0_
      have HO_7 := n1_
      have HO_10 := n2_
      have HO_11 := n3_
      have HO_232002 := n4_
      have HO245 := n5_
      have BK212 := n6_
      have BK231 := n7_
      have HB := n8_
      clear n0_ n1_ n2_ n3_ n4_ n5_ n6_ n7_ n8_
      (try clear hb)
      (try clear hb2)
      (try clear hk)
      (try clear hi)
      (try clear ho0)
      obtain ⟨Ao49, co49, eo49⟩ := Kd.R_slice HO245.out
      (first | subst eo49 | (injection eo49 with f1_ f2_ f3_; have f4_ := f1_.symm; have f5_ := f3_.symm; clear f1_ f2_ f3_; subst f4_; subst f5_))
      refine hK.out _ _ ⟨(blk_cell BK231.out 0).trans rfl, (blk_cell BK231.out 1).trans rfl, (blk_cell BK231.out 2).trans rfl, (blk_cell BK212.out 0).trans rfl, (blk_cell BK212.out 1).trans rfl, (blk_cell BK212.out 2).trans rfl⟩ (fun hHeld => ?_)
      clear hK K
      refine norm_ (a' := ?_) ?_ ?_
      rotate_left
      ·show Act.put _ (some 58) _ = _
       simp only [Act.put, List.setIfInBounds_toArray, List.set_cons_zero, List.set_cons_succ, i64_w, i32_w]
       rfl
      refine one_ (i := 3) (N := some 59) #[true, true, true, true, false] rfl rfl (by kernel_rfl) (by decide) (fun K hK => ?_)
      refine goes_ Try.func13 (by kernel_rfl) rfl #[.agg #[.int .i8 t226, .int .i8 t227, .slice Ao25 t228.length co25], .agg #[.int .i8 t241, .int .i8 t242, .slice Ao49 t243.length co49]] (by rfl) rfl rfl arg_ ?_
      with_reducible refine (laws_eqFixed.calls kj11 t226 t227 _ _ t228 t241 t242 _ _ t243 true _ ?side1 ?side2 ?side3 ?side4 A43.out).mono ?_
      (case side1 => repeat (first | exact (Kd.R_reads' HO_232002.out).2.2 | (with_reducible refine Kd.C_alloc ?_ _) | (with_reducible refine Kd.C_drewN ?_ _) | (with_reducible refine Kd.C_drew ?_)))
      (case side2 => exact (Kd.R_reads' HO_232002.out).2.1)
      (case side3 => repeat (first | exact (Kd.R_reads' HO245.out).2.2 | (with_reducible refine Kd.C_alloc ?_ _) | (with_reducible refine Kd.C_drewN ?_ _) | (with_reducible refine Kd.C_drew ?_)))
      (case side4 => exact (Kd.R_reads' HO245.out).2.1)
      rintro e w50 ⟨rfl, hb⟩
      refine ⟨_, rfl, ?_⟩
      have n0_ := A_ (Kd.R_below (pr_ HO_6) hb)
      have n1_ := A_ (Kd.R_below (pr_ HO_7) hb)
      have n2_ := A_ (Kd.R_below (pr_ HO_10) hb)
      have n3_ := A_ (Kd.R_below (pr_ HO_11) hb)
      have n4_ := A_ (Kd.R_below (pr_ HO_232002) hb)
      have n5_ := A_ (Kd.R_below (pr_ HO245) hb)
      have n6_ := A_ (blk_below (g := gb212) (o := .cells #[.int .i8 a0_0, .int .i8 a0_1, .slice A0_2 l0_2.length c0_2] 25 (0, 0)) (pl_ BK212) hb)
      have n7_ := A_ (blk_below (g := gb231) (o := .cells #[.int .i8 t226, .int .i8 t227, .slice Ao25 t228.length co25] 30 (0, 0)) (pl_ BK231) hb)
      have n8_ := A_ (below_step (bl_ HB) hb)
      clear HO_6
      clear HO_7
      clear HO_10
      clear HO_11
      clear HO_232002
      clear HO245
      clear BK212
      clear BK231
      clear HB
      have HO_6 := n0_
      have HO_7 := n1_
      have HO_10 := n2_
      have HO_11 := n3_
      have HO_232002 := n4_
      have HO245 := n5_
      have BK212 := n6_
      have BK231 := n7_
      have HB := n8_
      clear n0_ n1_ n2_ n3_ n4_ n5_ n6_ n7_ n8_
      (try clear hb)
      (try clear hb2)
      (try clear hk)
      (try clear hi)
      refine hK.out _ _ ⟨(blk_cell BK231.out 0).trans rfl, (blk_cell BK231.out 1).trans rfl, (blk_cell BK231.out 2).trans rfl, (blk_cell BK212.out 0).trans rfl, (blk_cell BK212.out 1).trans rfl, (blk_cell BK212.out 2).trans rfl⟩ (fun hHeld => ?_)
      clear hK K
      refine norm_ (a' := ?_) ?_ ?_
      rotate_left
      ·show Act.put _ (some 59) _ = _
       simp only [Act.put, List.setIfInBounds_toArray, List.set_cons_zero, List.set_cons_succ, i64_w, i32_w]
       rfl
      refine pure_ (i := 4) (N := some 60) (v := ?_) (a' := ?_) #[true, true, true, true, true] rfl rfl (by kernel_rfl) (fun _ _ _ h => h) (Or.inl ⟨by rfl, ?_⟩) ?_ ?_
      rotate_left
      ·intro w'
       go_simp
       with_reducible rfl
      rotate_left
      ·simp only [Act.put, List.setIfInBounds_toArray, List.set_cons_zero, List.set_cons_succ, i64_w, i32_w]
       rfl
      refine done_ (by kernel_rfl) ?_
      have hnb51 := NB231_212.out
      have hnc51 := NB212_231.out
      have hcz52_0 : w50.cell? ⟨gb231, 0, none⟩ = some (.int .i8 t226) := (blk_cell BK231.out 0).trans rfl
      have hcz52_1 : w50.cell? ⟨gb231, 1, none⟩ = some (.int .i8 t227) := (blk_cell BK231.out 1).trans rfl
      have hcz52_2 : w50.cell? ⟨gb231, 2, none⟩ = some (.slice Ao25 t228.length co25) := (blk_cell BK231.out 2).trans rfl
      have hfz52_0 := blk_frozen BK231.out 0
      have hfz52_1 := blk_frozen BK231.out 1
      have hfz52_2 := blk_frozen BK231.out 2
      go_upto_region 14 with (first | ((with_reducible refine gate_callee (f := 21) rfl ?_); refine goesL_ (some 63) rfl rfl Try.func21 (by kernel_rfl) rfl #[.agg #[.int .i8 t226, .int .i8 t227, .slice Ao25 t228.length co25], .int .i64 1] rfl arg_ ?_; (with_reducible refine (laws_markFixed.calls kj11 t226 t227 (fun k_ => some k_ = (.slice Ao25 t228.length co25 : Value).ownBlock) (.slice Ao25 t228.length co25) t228 1 t247 t248 w _ ?side1 ?side2 A45.out).mono ?_); (case side1 => repeat (first | (with_reducible first | exact HB.out | apply below_alloc | apply pw_below_drewN | apply below_drew1) | exact HB.out)); (case side2 => exact Kd.R_tight rfl HO_232002.out); rintro e w53 ⟨rfl, hy0, hb, hkp⟩; refine ⟨_, rfl, ?_⟩; have n0_ := A_ (Kd.R_mono (ok' := fun k_ => some k_ ≠ (v223 : Value).ownBlock ∧ some k_ ≠ (v233 : Value).ownBlock ∧ some k_ ≠ (v236 : Value).ownBlock) (Kd.R_keptB ((Kd.R_apart' HO_6.out (Kd.R_typed HO_232002.out) (by decide))) hkp (fun k_ hk_ hs_ => (hk_.2) hs_)) (fun k_ hk_ => ⟨hk_.1.1.1, hk_.1.1.2.1, hk_.1.1.2.2⟩)); have n1_ := A_ (Kd.R_mono (ok' := fun k_ => some k_ ≠ (v220 : Value).ownBlock ∧ some k_ ≠ (v233 : Value).ownBlock ∧ some k_ ≠ (v236 : Value).ownBlock) (Kd.R_keptB ((Kd.R_apart' HO_7.out (Kd.R_typed HO_232002.out) (by decide))) hkp (fun k_ hk_ hs_ => (hk_.2) hs_)) (fun k_ hk_ => ⟨hk_.1.1.1, hk_.1.1.2.1, hk_.1.1.2.2⟩)); have n2_ := A_ (Kd.R_mono (ok' := fun k_ => some k_ ≠ (v220 : Value).ownBlock ∧ some k_ ≠ (v223 : Value).ownBlock ∧ some k_ ≠ (v236 : Value).ownBlock) (Kd.R_keptB ((Kd.R_apart' HO_10.out (Kd.R_typed HO_232002.out) (by decide))) hkp (fun k_ hk_ hs_ => (hk_.2) hs_)) (fun k_ hk_ => ⟨hk_.1.1.1, hk_.1.1.2.1, hk_.1.1.2.2⟩)); have n3_ := A_ (Kd.R_mono (ok' := fun k_ => some k_ ≠ (v220 : Value).ownBlock ∧ some k_ ≠ (v223 : Value).ownBlock ∧ some k_ ≠ (v233 : Value).ownBlock) (Kd.R_keptB ((Kd.R_apart' HO_11.out (Kd.R_typed HO_232002.out) (by decide))) hkp (fun k_ hk_ hs_ => (hk_.2) hs_)) (fun k_ hk_ => ⟨hk_.1.1.1, hk_.1.1.2.1, hk_.1.1.2.2⟩)); have n4_ := A_ (Kd.R_reok rfl hy0 (fun k_ e_ => HO_232002.out.1 k_ e_)); have n5_ := A_ (blk_kept (pl_ BK212) hkp (fun hs_ => (fun e_ => (Kd.R_ne HO_232002.out BK212.out (by decide)) e_) hs_)); have n6_ := A_ (blk_kept (pl_ BK231) hkp (fun hs_ => (fun e_ => (Kd.R_ne HO_232002.out BK231.out (by decide)) e_) hs_)); have n7_ := A_ (Kd.R_mono (ok' := fun k_ => some k_ ≠ (.slice Ao25 t228.length co25 : Value).ownBlock) (Kd.R_keptB (HO245.out) hkp (fun k_ hk_ hs_ => (hk_.2) hs_)) (fun k_ hk_ => hk_.1.2)); have n8_ := A_ (hb); clear HO_6; clear HO_7; clear HO_10; clear HO_11; clear HO_232002; clear BK212; clear BK231; clear HO245; clear HB; have HO_6 := n0_; have HO_7 := n1_; have HO_10 := n2_; have HO_11 := n3_; have HO_232002 := n4_; have BK212 := n5_; have BK231 := n6_; have HO245 := n7_; have HB := n8_; clear n0_ n1_ n2_ n3_ n4_ n5_ n6_ n7_ n8_; (try clear hb); (try clear hkp); (try clear hy0)))
      (try simp only [Act.put, List.setIfInBounds_toArray, List.set_cons_zero, List.set_cons_succ])
      go_cut [82] (fun v82 wc => ∃ (kq : Nat) (x82_45 : Bool), v82 = .bool x82_45 ∧ Aside0 (laws_FnExactPanOf.j1 kq a1 t219 t222 t225 t232 t235 x82_45 a0_0 a0_1 l0_2 = some r) ∧ Aside0 (kq ≤ kj11) ∧ Aside0 (Kd.R (Kd.int .i64) 2 wc w.heap.size (fun k_ => some k_ ≠ (v223 : Value).ownBlock ∧ some k_ ≠ (v233 : Value).ownBlock ∧ some k_ ≠ (v236 : Value).ownBlock) v220 t219) ∧ Aside0 (Kd.R (Kd.int .i64) 2 wc w.heap.size (fun k_ => some k_ ≠ (v220 : Value).ownBlock ∧ some k_ ≠ (v233 : Value).ownBlock ∧ some k_ ≠ (v236 : Value).ownBlock) v223 t222) ∧ Aside0 (Kd.R (Kd.int .i64) 2 wc w.heap.size (fun k_ => some k_ ≠ (v220 : Value).ownBlock ∧ some k_ ≠ (v223 : Value).ownBlock ∧ some k_ ≠ (v236 : Value).ownBlock) v233 t232) ∧ Aside0 (Kd.R (Kd.int .i64) 2 wc w.heap.size (fun k_ => some k_ ≠ (v220 : Value).ownBlock ∧ some k_ ≠ (v223 : Value).ownBlock ∧ some k_ ≠ (v233 : Value).ownBlock) v236 t235) ∧ Aside0 (Kd.R k40 40 wc w.heap.size (fun _ => True) (.slice Ao25 t228.length co25) t248) ∧ Aside0 (wc.heap[gb212]? = some (.cells #[.int .i8 a0_0, .int .i8 a0_1, (.slice A0_2 l0_2.length c0_2)] 25 (0, 0))) ∧ Aside0 (wc.heap[gb231]? = some (.cells #[.int .i8 t226, .int .i8 t227, (.slice Ao25 t228.length co25)] 30 (0, 0))) ∧ Aside0 (Below w.heap.size w wc))
      case first =>
       have H := HC46.out
       clear HC46
       by_cases c54 : t247 < 0
       ·rw [if_pos c54] at H
        have c54b0 : decide (t247 < 0) = true := decide_eq_true c54
        clear c54
        (first | rw [c54b0] | (simp only [i64_w, i32_w]; rw [c54b0]) | skip)
        have H' := Aside0.mk H
        clear H
        go_wp2
        go_meet
        case rel => exact ⟨_, (true), rs_, H', ⟨by have := HJ11.out; first | omega | exact Nat.le_refl _⟩, ⟨pr_ HO_6⟩, ⟨pr_ HO_7⟩, ⟨pr_ HO_10⟩, ⟨pr_ HO_11⟩, ⟨by (with_reducible repeat (first | apply Kd.R_alloc | apply Kd.R_drewN | apply Kd.R_drew)); exact Kd.R_mono HO_232002.out (fun _ hk => trivial)⟩, ⟨pl_ BK212⟩, ⟨pl_ BK231⟩, ⟨bl_ HB⟩⟩
       ·rw [if_neg c54] at H
        have c54b0 : decide (t247 < 0) = false := decide_eq_false c54
        clear c54
        (first | rw [c54b0] | (simp only [i64_w, i32_w]; rw [c54b0]) | skip)
        replace H := Option.bind_eq_some_iff.mp H
        obtain ⟨t249, A550, H⟩ := H
        replace H : (if t249 = true then ((laws_eqInt64S.f kj11 t235 t222).bind fun t250 => (if t250 = true then (laws_FnExactPanOf.j1 kj11 a1 t219 t222 t225 t232 t235 (t238 != t225) a0_0 a0_1 l0_2) else (laws_FnExactPanOf.j1 kj11 a1 t219 t222 t225 t232 t235 true a0_0 a0_1 l0_2))) else (laws_FnExactPanOf.j1 kj11 a1 t219 t222 t225 t232 t235 true a0_0 a0_1 l0_2)) = some r := H
        have A55 := Aside0.mk A550
        clear A550
        by_cases c56 : t249 = true
        ·subst c56
         have H1 : ((laws_eqInt64S.f kj11 t235 t222).bind fun t250 => (if t250 = true then (laws_FnExactPanOf.j1 kj11 a1 t219 t222 t225 t232 t235 (t238 != t225) a0_0 a0_1 l0_2) else (laws_FnExactPanOf.j1 kj11 a1 t219 t222 t225 t232 t235 true a0_0 a0_1 l0_2))) = some r := by rw [if_pos rfl] at H; exact H
         clear H
         have H := H1
         clear H1
         replace H := Option.bind_eq_some_iff.mp H
         obtain ⟨t250, A570, H⟩ := H
         replace H : (if t250 = true then (laws_FnExactPanOf.j1 kj11 a1 t219 t222 t225 t232 t235 (t238 != t225) a0_0 a0_1 l0_2) else (laws_FnExactPanOf.j1 kj11 a1 t219 t222 t225 t232 t235 true a0_0 a0_1 l0_2)) = some r := H
         have A57 := Aside0.mk A570
         clear A570
         by_cases c58 : t250 = true
         ·subst c58
          have H1 : (laws_FnExactPanOf.j1 kj11 a1 t219 t222 t225 t232 t235 (t238 != t225) a0_0 a0_1 l0_2) = some r := by rw [if_pos rfl] at H; exact H
          clear H
          have H := H1
          clear H1
          have H' := Aside0.mk H
          clear H
          obtain ⟨Ao59, co59, eo59⟩ := Kd.R_slice HO_10.out
          subst eo59
          obtain ⟨Ao60, co60, eo60⟩ := Kd.R_slice HO_6.out
          subst eo60
          go_wp2_with (first | (go_at_call 27; (with_reducible refine (laws_eqInt64S.calls kj11 _ _ t232 _ _ t219 true _ ?side1 ?side2 ?side3 ?side4 A55.out).mono ?_); (case side1 => repeat (first | exact (Kd.R_reads' HO_10.out).2.2 | (with_reducible refine Kd.C_alloc ?_ _) | (with_reducible refine Kd.C_drewN ?_ _) | (with_reducible refine Kd.C_drew ?_))); (case side2 => exact (Kd.R_reads' HO_10.out).2.1); (case side3 => repeat (first | exact (Kd.R_reads' HO_6.out).2.2 | (with_reducible refine Kd.C_alloc ?_ _) | (with_reducible refine Kd.C_drewN ?_ _) | (with_reducible refine Kd.C_drew ?_))); (case side4 => exact (Kd.R_reads' HO_6.out).2.1); rintro e w' ⟨rfl, ⟨nd, rfl⟩⟩; obtain ⟨Ao61, co61, eo61⟩ := Kd.R_slice HO_11.out; subst eo61; obtain ⟨Ao62, co62, eo62⟩ := Kd.R_slice HO_7.out; subst eo62) | (go_at_call 27; (with_reducible refine (laws_eqInt64S.calls kj11 _ _ t235 _ _ t222 true _ ?side1 ?side2 ?side3 ?side4 A57.out).mono ?_); (case side1 => repeat (first | exact (Kd.R_reads' HO_11.out).2.2 | (with_reducible refine Kd.C_alloc ?_ _) | (with_reducible refine Kd.C_drewN ?_ _) | (with_reducible refine Kd.C_drew ?_))); (case side2 => exact (Kd.R_reads' HO_11.out).2.1); (case side3 => repeat (first | exact (Kd.R_reads' HO_7.out).2.2 | (with_reducible refine Kd.C_alloc ?_ _) | (with_reducible refine Kd.C_drewN ?_ _) | (with_reducible refine Kd.C_drew ?_))); (case side4 => exact (Kd.R_reads' HO_7.out).2.1); rintro e w' ⟨rfl, ⟨nd, rfl⟩⟩))
          go_meet
          case rel => exact ⟨_, ((t238 != t225)), rs_, H', ⟨by have := HJ11.out; first | omega | exact Nat.le_refl _⟩, ⟨pr_ HO_6⟩, ⟨pr_ HO_7⟩, ⟨pr_ HO_10⟩, ⟨pr_ HO_11⟩, ⟨by (with_reducible repeat (first | apply Kd.R_alloc | apply Kd.R_drewN | apply Kd.R_drew)); exact Kd.R_mono HO_232002.out (fun _ hk => trivial)⟩, ⟨pl_ BK212⟩, ⟨pl_ BK231⟩, ⟨bl_ HB⟩⟩
         ·replace c58 := Bool.eq_false_iff.mpr c58
          subst c58
          have H1 : (laws_FnExactPanOf.j1 kj11 a1 t219 t222 t225 t232 t235 true a0_0 a0_1 l0_2) = some r := by rw [if_neg (show ¬ (false = true) by decide)] at H; exact H
          clear H
          have H := H1
          clear H1
          have H' := Aside0.mk H
          clear H
          obtain ⟨Ao63, co63, eo63⟩ := Kd.R_slice HO_10.out
          subst eo63
          obtain ⟨Ao64, co64, eo64⟩ := Kd.R_slice HO_6.out
          subst eo64
          go_wp2_with (first | (go_at_call 27; (with_reducible refine (laws_eqInt64S.calls kj11 _ _ t232 _ _ t219 true _ ?side1 ?side2 ?side3 ?side4 A55.out).mono ?_); (case side1 => repeat (first | exact (Kd.R_reads' HO_10.out).2.2 | (with_reducible refine Kd.C_alloc ?_ _) | (with_reducible refine Kd.C_drewN ?_ _) | (with_reducible refine Kd.C_drew ?_))); (case side2 => exact (Kd.R_reads' HO_10.out).2.1); (case side3 => repeat (first | exact (Kd.R_reads' HO_6.out).2.2 | (with_reducible refine Kd.C_alloc ?_ _) | (with_reducible refine Kd.C_drewN ?_ _) | (with_reducible refine Kd.C_drew ?_))); (case side4 => exact (Kd.R_reads' HO_6.out).2.1); rintro e w' ⟨rfl, ⟨nd, rfl⟩⟩; obtain ⟨Ao65, co65, eo65⟩ := Kd.R_slice HO_11.out; subst eo65; obtain ⟨Ao66, co66, eo66⟩ := Kd.R_slice HO_7.out; subst eo66) | (go_at_call 27; (with_reducible refine (laws_eqInt64S.calls kj11 _ _ t235 _ _ t222 false _ ?side1 ?side2 ?side3 ?side4 A57.out).mono ?_); (case side1 => repeat (first | exact (Kd.R_reads' HO_11.out).2.2 | (with_reducible refine Kd.C_alloc ?_ _) | (with_reducible refine Kd.C_drewN ?_ _) | (with_reducible refine Kd.C_drew ?_))); (case side2 => exact (Kd.R_reads' HO_11.out).2.1); (case side3 => repeat (first | exact (Kd.R_reads' HO_7.out).2.2 | (with_reducible refine Kd.C_alloc ?_ _) | (with_reducible refine Kd.C_drewN ?_ _) | (with_reducible refine Kd.C_drew ?_))); (case side4 => exact (Kd.R_reads' HO_7.out).2.1); rintro e w' ⟨rfl, ⟨nd, rfl⟩⟩))
          go_meet
          case rel => exact ⟨_, (true), rs_, H', ⟨by have := HJ11.out; first | omega | exact Nat.le_refl _⟩, ⟨pr_ HO_6⟩, ⟨pr_ HO_7⟩, ⟨pr_ HO_10⟩, ⟨pr_ HO_11⟩, ⟨by (with_reducible repeat (first | apply Kd.R_alloc | apply Kd.R_drewN | apply Kd.R_drew)); exact Kd.R_mono HO_232002.out (fun _ hk => trivial)⟩, ⟨pl_ BK212⟩, ⟨pl_ BK231⟩, ⟨bl_ HB⟩⟩
        ·replace c56 := Bool.eq_false_iff.mpr c56
         subst c56
         have H1 : (laws_FnExactPanOf.j1 kj11 a1 t219 t222 t225 t232 t235 true a0_0 a0_1 l0_2) = some r := by rw [if_neg (show ¬ (false = true) by decide)] at H; exact H
         clear H
         have H := H1
         clear H1
         have H' := Aside0.mk H
         clear H
         obtain ⟨Ao67, co67, eo67⟩ := Kd.R_slice HO_10.out
         subst eo67
         obtain ⟨Ao68, co68, eo68⟩ := Kd.R_slice HO_6.out
         subst eo68
         go_wp2_with (first | (go_at_call 27; (with_reducible refine (laws_eqInt64S.calls kj11 _ _ t232 _ _ t219 false _ ?side1 ?side2 ?side3 ?side4 A55.out).mono ?_); (case side1 => repeat (first | exact (Kd.R_reads' HO_10.out).2.2 | (with_reducible refine Kd.C_alloc ?_ _) | (with_reducible refine Kd.C_drewN ?_ _) | (with_reducible refine Kd.C_drew ?_))); (case side2 => exact (Kd.R_reads' HO_10.out).2.1); (case side3 => repeat (first | exact (Kd.R_reads' HO_6.out).2.2 | (with_reducible refine Kd.C_alloc ?_ _) | (with_reducible refine Kd.C_drewN ?_ _) | (with_reducible refine Kd.C_drew ?_))); (case side4 => exact (Kd.R_reads' HO_6.out).2.1); rintro e w' ⟨rfl, ⟨nd, rfl⟩⟩))
         go_meet
         case rel => exact ⟨_, (true), rs_, H', ⟨by have := HJ11.out; first | omega | exact Nat.le_refl _⟩, ⟨pr_ HO_6⟩, ⟨pr_ HO_7⟩, ⟨pr_ HO_10⟩, ⟨pr_ HO_11⟩, ⟨by (with_reducible repeat (first | apply Kd.R_alloc | apply Kd.R_drewN | apply Kd.R_drew)); exact Kd.R_mono HO_232002.out (fun _ hk => trivial)⟩, ⟨pl_ BK212⟩, ⟨pl_ BK231⟩, ⟨bl_ HB⟩⟩
      case rest =>
       clear HC46
       try clear c1
       try clear c2
       try clear p2
       try clear c3
       try clear c4
       try clear c4b0
       try clear c5
       try clear c8
       try clear c9
       try clear c11
       try clear c13
       try clear c21
       try clear c23
       try clear c25
       try clear c26
       try clear c27
       try clear c28
       try clear c30
       try clear c41
       try clear c44
       try clear c51
       try clear c54
       try clear c54b0
       try clear c56
       try clear c58
       try clear hcz14_0
       try clear hcz14_1
       try clear hcz14_2
       try clear hcz16_0
       try clear hcz16_1
       try clear hcz16_2
       try clear hcz20_0
       try clear hcz20_1
       try clear hcz20_2
       try clear hcz24_0
       try clear hcz24_1
       try clear hcz24_2
       try clear hcz52_0
       try clear hcz52_1
       try clear hcz52_2
       try clear hcz6_0
       try clear hcz6_1
       try clear hcz6_2
       try clear hfz14_0
       try clear hfz14_1
       try clear hfz14_2
       try clear hfz16_0
       try clear hfz16_1
       try clear hfz16_2
       try clear hfz20_0
       try clear hfz20_1
       try clear hfz20_2
       try clear hfz24_0
       try clear hfz24_1
       try clear hfz24_2
       try clear hfz52_0
       try clear hfz52_1
       try clear hfz52_2
       try clear hfz6_0
       try clear hfz6_1
       try clear hfz6_2
       try clear p2
       obtain ⟨kq, x82_45, rfl, HA, HJ45, HO_6, HO_7, HO_10, HO_11, HO_232002, BK212, BK231, HB⟩ := hcut
       have hl232002_45 := (Kd.R_reads' HO_232002.out).1
       rw [hl232002_45] at HO_232002
       (try simp only [hl232002_45])
       (try simp only [hl232002_45] at BK212)
       (try simp only [hl232002_45] at BK231)
       (try simp only [hl232002_45] at HO_6)
       (try simp only [hl232002_45] at HO_7)
       (try simp only [hl232002_45] at HO_10)
       (try simp only [hl232002_45] at HO_11)
       cases kq with
       | zero => exact absurd HA.out (by simp [laws_FnExactPanOf.j1])
       | succ kj45 =>
        have H := HA.out
        clear HA
        simp only [laws_FnExactPanOf.j1] at H
        by_cases c69 : x82_45 = true
        ·subst c69
         have H1 : (some false) = some r := by rw [if_pos rfl] at H; exact H
         clear H
         have H := H1
         clear H1
         obtain rfl := Option.some.inj H
         go_wp2
         go_ret
         exact ⟨by first | rfl | (simp [errW_none, errW_some] <;> rfl) | (simp [*, errW_none, errW_some] <;> rfl), bl_ HB⟩
        ·replace c69 := Bool.eq_false_iff.mpr c69
         subst c69
         have H1 : ((laws_markInt64S.f kj45 t232 1).bind fun bt251 => ((laws_markInt64S.f kj45 t235 bt251.1).bind fun bt253 => ((laws_heldInt64S.f kj45 bt251.2 1).bind fun t255 => (if t255 < 0 then (some false) else ((laws_heldInt64S.f kj45 bt253.2 t255).bind fun t256 => (if t256 < 0 then (some false) else (if t256 = bt253.1 then ((laws_toFixed.f kj45 a0_0 a0_1 l0_2).bind fun bt257 => ((impl_PanOf.f kj45 bt257.1 bt257.2.1 bt257.2.2 a1).bind fun bt262 => ((laws_eqInt64S.f kj45 bt262.1 t219).bind fun t269 => (if t269 = true then ((laws_eqInt64S.f kj45 bt262.2.1 t222).bind fun t270 => (if t270 = true then (laws_FnExactPanOf.j2 kj45 bt251.2 bt253.2 bt253.1 (bt262.2.2 != t225)) else (laws_FnExactPanOf.j2 kj45 bt251.2 bt253.2 bt253.1 true))) else (laws_FnExactPanOf.j2 kj45 bt251.2 bt253.2 bt253.1 true))))) else (some false)))))))) = some r := by rw [if_neg (show ¬ (false = true) by decide)] at H; exact H
         clear H
         have H := H1
         clear H1
         replace H := Option.bind_eq_some_iff.mp H
         obtain ⟨⟨t251, t252⟩, A700, H⟩ := H
         replace H : ((laws_markInt64S.f kj45 t235 t251).bind fun bt253 => ((laws_heldInt64S.f kj45 t252 1).bind fun t255 => (if t255 < 0 then (some false) else ((laws_heldInt64S.f kj45 bt253.2 t255).bind fun t256 => (if t256 < 0 then (some false) else (if t256 = bt253.1 then ((laws_toFixed.f kj45 a0_0 a0_1 l0_2).bind fun bt257 => ((impl_PanOf.f kj45 bt257.1 bt257.2.1 bt257.2.2 a1).bind fun bt262 => ((laws_eqInt64S.f kj45 bt262.1 t219).bind fun t269 => (if t269 = true then ((laws_eqInt64S.f kj45 bt262.2.1 t222).bind fun t270 => (if t270 = true then (laws_FnExactPanOf.j2 kj45 t252 bt253.2 bt253.1 (bt262.2.2 != t225)) else (laws_FnExactPanOf.j2 kj45 t252 bt253.2 bt253.1 true))) else (laws_FnExactPanOf.j2 kj45 t252 bt253.2 bt253.1 true))))) else (some false))))))) = some r := H
         have A70 := Aside0.mk A700
         clear A700
         replace H := Option.bind_eq_some_iff.mp H
         obtain ⟨⟨t253, t254⟩, A710, H⟩ := H
         replace H : ((laws_heldInt64S.f kj45 t252 1).bind fun t255 => (if t255 < 0 then (some false) else ((laws_heldInt64S.f kj45 t254 t255).bind fun t256 => (if t256 < 0 then (some false) else (if t256 = t253 then ((laws_toFixed.f kj45 a0_0 a0_1 l0_2).bind fun bt257 => ((impl_PanOf.f kj45 bt257.1 bt257.2.1 bt257.2.2 a1).bind fun bt262 => ((laws_eqInt64S.f kj45 bt262.1 t219).bind fun t269 => (if t269 = true then ((laws_eqInt64S.f kj45 bt262.2.1 t222).bind fun t270 => (if t270 = true then (laws_FnExactPanOf.j2 kj45 t252 t254 t253 (bt262.2.2 != t225)) else (laws_FnExactPanOf.j2 kj45 t252 t254 t253 true))) else (laws_FnExactPanOf.j2 kj45 t252 t254 t253 true))))) else (some false)))))) = some r := H
         have A71 := Aside0.mk A710
         clear A710
         replace H := Option.bind_eq_some_iff.mp H
         obtain ⟨t255, A720, H⟩ := H
         replace H : (if t255 < 0 then (some false) else ((laws_heldInt64S.f kj45 t254 t255).bind fun t256 => (if t256 < 0 then (some false) else (if t256 = t253 then ((laws_toFixed.f kj45 a0_0 a0_1 l0_2).bind fun bt257 => ((impl_PanOf.f kj45 bt257.1 bt257.2.1 bt257.2.2 a1).bind fun bt262 => ((laws_eqInt64S.f kj45 bt262.1 t219).bind fun t269 => (if t269 = true then ((laws_eqInt64S.f kj45 bt262.2.1 t222).bind fun t270 => (if t270 = true then (laws_FnExactPanOf.j2 kj45 t252 t254 t253 (bt262.2.2 != t225)) else (laws_FnExactPanOf.j2 kj45 t252 t254 t253 true))) else (laws_FnExactPanOf.j2 kj45 t252 t254 t253 true))))) else (some false))))) = some r := H
         have A72 := Aside0.mk A720
         clear A720
         by_cases c73 : t255 < 0
         ·rw [if_pos c73] at H
          have c73b0 : decide (t255 < 0) = true := decide_eq_true c73
          clear c73
          obtain rfl := Option.some.inj H
          obtain ⟨Ao74, co74, eo74⟩ := Kd.R_slice HO_10.out
          subst eo74
          go_wp2_with (first | ((with_reducible refine gate_callee (f := 28) rfl ?_); refine goesL_ (some 85) rfl rfl Try.func28 (by kernel_rfl) rfl #[.slice Ao74 t232.length co74, .int .i64 1] rfl arg_ ?_; (with_reducible refine (laws_markInt64S.calls kj45 (fun k_ => some k_ = (.slice Ao74 t232.length co74 : Value).ownBlock) (.slice Ao74 t232.length co74) t232 1 t251 t252 w _ ?side1 ?side2 A70.out).mono ?_); (case side1 => repeat (first | (with_reducible first | exact HB.out | apply below_alloc | apply pw_below_drewN | apply below_drew1) | exact HB.out)); (case side2 => exact Kd.R_tight rfl HO_10.out); rintro e w75 ⟨rfl, hy0, hb, hkp⟩; refine ⟨_, rfl, ?_⟩; have n0_ := A_ (Kd.R_mono (ok' := fun k_ => some k_ ≠ (v223 : Value).ownBlock ∧ some k_ ≠ (.slice Ao74 t232.length co74 : Value).ownBlock ∧ some k_ ≠ (v236 : Value).ownBlock) (Kd.R_keptB (HO_6.out) hkp (fun k_ hk_ hs_ => (hk_.2.1) hs_)) (fun k_ hk_ => ⟨hk_.1.1, hk_.1.2.1, hk_.1.2.2⟩)); have n1_ := A_ (Kd.R_mono (ok' := fun k_ => some k_ ≠ (v220 : Value).ownBlock ∧ some k_ ≠ (.slice Ao74 t232.length co74 : Value).ownBlock ∧ some k_ ≠ (v236 : Value).ownBlock) (Kd.R_keptB (HO_7.out) hkp (fun k_ hk_ hs_ => (hk_.2.1) hs_)) (fun k_ hk_ => ⟨hk_.1.1, hk_.1.2.1, hk_.1.2.2⟩)); have n2_ := A_ (Kd.R_reok rfl hy0 (fun k_ e_ => HO_10.out.1 k_ e_)); have n3_ := A_ (Kd.R_mono (ok' := fun k_ => some k_ ≠ (v220 : Value).ownBlock ∧ some k_ ≠ (v223 : Value).ownBlock ∧ some k_ ≠ (.slice Ao74 t232.length co74 : Value).ownBlock) (Kd.R_keptB (HO_11.out) hkp (fun k_ hk_ hs_ => (hk_.2.2) hs_)) (fun k_ hk_ => ⟨hk_.1.1, hk_.1.2.1, hk_.1.2.2⟩)); have n4_ := A_ (Kd.R_mono (ok' := fun k_ => True) (Kd.R_keptB ((Kd.R_apart' HO_232002.out (Kd.R_typed HO_10.out) (by decide))) hkp (fun k_ hk_ hs_ => (hk_.2) hs_)) (fun k_ hk_ => trivial)); have n5_ := A_ (blk_kept (pl_ BK212) hkp (fun hs_ => (fun e_ => (Kd.R_ne HO_10.out BK212.out (by decide)) e_) hs_)); have n6_ := A_ (blk_kept (pl_ BK231) hkp (fun hs_ => (fun e_ => (Kd.R_ne HO_10.out BK231.out (by decide)) e_) hs_)); have n7_ := A_ (hb); clear HO_6; clear HO_7; clear HO_10; clear HO_11; clear HO_232002; clear BK212; clear BK231; clear HB; have HO_6 := n0_; have HO_7 := n1_; have HO_10 := n2_; have HO_11 := n3_; have HO_232002 := n4_; have BK212 := n5_; have BK231 := n6_; have HB := n7_; clear n0_ n1_ n2_ n3_ n4_ n5_ n6_ n7_; (try clear hb); (try clear hkp); (try clear hy0); obtain ⟨Ao76, co76, eo76⟩ := Kd.R_slice HO_11.out; subst eo76) | ((with_reducible refine gate_callee (f := 28) rfl ?_); refine goesL_ (some 88) rfl rfl Try.func28 (by kernel_rfl) rfl #[.slice Ao76 t235.length co76, .int .i64 t251] rfl arg_ ?_; (with_reducible refine (laws_markInt64S.calls kj45 (fun k_ => some k_ = (.slice Ao76 t235.length co76 : Value).ownBlock) (.slice Ao76 t235.length co76) t235 t251 t253 t254 w _ ?side1 ?side2 A71.out).mono ?_); (case side1 => repeat (first | (with_reducible first | exact HB.out | apply below_alloc | apply pw_below_drewN | apply below_drew1) | exact HB.out)); (case side2 => exact Kd.R_tight rfl HO_11.out); rintro e w77 ⟨rfl, hy0, hb, hkp⟩; refine ⟨_, rfl, ?_⟩; have n0_ := A_ (Kd.R_mono (ok' := fun k_ => some k_ ≠ (v223 : Value).ownBlock ∧ some k_ ≠ (.slice Ao74 t232.length co74 : Value).ownBlock ∧ some k_ ≠ (.slice Ao76 t235.length co76 : Value).ownBlock) (Kd.R_keptB (HO_6.out) hkp (fun k_ hk_ hs_ => (hk_.2.2) hs_)) (fun k_ hk_ => ⟨hk_.1.1, hk_.1.2.1, hk_.1.2.2⟩)); have n1_ := A_ (Kd.R_mono (ok' := fun k_ => some k_ ≠ (v220 : Value).ownBlock ∧ some k_ ≠ (.slice Ao74 t232.length co74 : Value).ownBlock ∧ some k_ ≠ (.slice Ao76 t235.length co76 : Value).ownBlock) (Kd.R_keptB (HO_7.out) hkp (fun k_ hk_ hs_ => (hk_.2.2) hs_)) (fun k_ hk_ => ⟨hk_.1.1, hk_.1.2.1, hk_.1.2.2⟩)); have n2_ := A_ (Kd.R_mono (ok' := fun k_ => some k_ ≠ (v220 : Value).ownBlock ∧ some k_ ≠ (v223 : Value).ownBlock ∧ some k_ ≠ (.slice Ao76 t235.length co76 : Value).ownBlock) (Kd.R_keptB (HO_10.out) hkp (fun k_ hk_ hs_ => (hk_.2.2) hs_)) (fun k_ hk_ => ⟨hk_.1.1, hk_.1.2.1, hk_.1.2.2⟩)); have n3_ := A_ (Kd.R_reok rfl hy0 (fun k_ e_ => HO_11.out.1 k_ e_)); have n4_ := A_ (Kd.R_mono (ok' := fun k_ => True) (Kd.R_keptB ((Kd.R_apart' HO_232002.out (Kd.R_typed HO_11.out) (by decide))) hkp (fun k_ hk_ hs_ => (hk_.2) hs_)) (fun k_ hk_ => trivial)); have n5_ := A_ (blk_kept (pl_ BK212) hkp (fun hs_ => (fun e_ => (Kd.R_ne HO_11.out BK212.out (by decide)) e_) hs_)); have n6_ := A_ (blk_kept (pl_ BK231) hkp (fun hs_ => (fun e_ => (Kd.R_ne HO_11.out BK231.out (by decide)) e_) hs_)); have n7_ := A_ (hb); clear HO_6; clear HO_7; clear HO_10; clear HO_11; clear HO_232002; clear BK212; clear BK231; clear HB; have HO_6 := n0_; have HO_7 := n1_; have HO_10 := n2_; have HO_11 := n3_; have HO_232002 := n4_; have BK212 := n5_; have BK231 := n6_; have HB := n7_; clear n0_ n1_ n2_ n3_ n4_ n5_ n6_ n7_; (try clear hb); (try clear hkp); (try clear hy0)) | ((with_reducible refine gate_callee (f := 29) rfl ?_); refine goesL_ (some 91) rfl rfl Try.func29 (by kernel_rfl) rfl #[.slice Ao74 t252.length co74, .int .i64 1] rfl (by (try simp only [List.map_toArray, List.map_cons, List.map_nil]); first | done | (rw [show t252.length = t232.length from (Kd.R_reads' HO_10.out).1.symm] <;> rfl) | rfl | (simp only [List.length_drop, List.length_take]; rfl)) ?_; (with_reducible refine (laws_heldInt64S.calls kj45 _ _ t252 1 t255 _ ?side1 ?side2 A72.out).mono ?_); (case side1 => repeat (first | exact (Kd.R_reads' HO_10.out).2.2 | (with_reducible refine Kd.C_alloc ?_ _) | (with_reducible refine Kd.C_drewN ?_ _) | (with_reducible refine Kd.C_drew ?_))); (case side2 => rw [show t252.length = t232.length from (Kd.R_reads' HO_10.out).1.symm]; exact (Kd.R_reads' HO_10.out).2.1); rintro e w' ⟨rfl, ⟨nd, rfl⟩⟩; refine ⟨_, rfl, ?_⟩))
          go_ret
          exact ⟨by first | rfl | (simp [errW_none, errW_some] <;> rfl) | (simp [*, errW_none, errW_some] <;> rfl), bl_ HB⟩
         ·rw [if_neg c73] at H
          have c73b0 : decide (t255 < 0) = false := decide_eq_false c73
          clear c73
          replace H := Option.bind_eq_some_iff.mp H
          obtain ⟨t256, A780, H⟩ := H
          replace H : (if t256 < 0 then (some false) else (if t256 = t253 then ((laws_toFixed.f kj45 a0_0 a0_1 l0_2).bind fun bt257 => ((impl_PanOf.f kj45 bt257.1 bt257.2.1 bt257.2.2 a1).bind fun bt262 => ((laws_eqInt64S.f kj45 bt262.1 t219).bind fun t269 => (if t269 = true then ((laws_eqInt64S.f kj45 bt262.2.1 t222).bind fun t270 => (if t270 = true then (laws_FnExactPanOf.j2 kj45 t252 t254 t253 (bt262.2.2 != t225)) else (laws_FnExactPanOf.j2 kj45 t252 t254 t253 true))) else (laws_FnExactPanOf.j2 kj45 t252 t254 t253 true))))) else (some false))) = some r := H
          have A78 := Aside0.mk A780
          clear A780
          by_cases c79 : t256 < 0
          ·rw [if_pos c79] at H
           have c79b0 : decide (t256 < 0) = true := decide_eq_true c79
           clear c79
           obtain rfl := Option.some.inj H
           obtain ⟨Ao80, co80, eo80⟩ := Kd.R_slice HO_10.out
           subst eo80
           go_wp2_with (first | ((with_reducible refine gate_callee (f := 28) rfl ?_); refine goesL_ (some 85) rfl rfl Try.func28 (by kernel_rfl) rfl #[.slice Ao80 t232.length co80, .int .i64 1] rfl arg_ ?_; (with_reducible refine (laws_markInt64S.calls kj45 (fun k_ => some k_ = (.slice Ao80 t232.length co80 : Value).ownBlock) (.slice Ao80 t232.length co80) t232 1 t251 t252 w _ ?side1 ?side2 A70.out).mono ?_); (case side1 => repeat (first | (with_reducible first | exact HB.out | apply below_alloc | apply pw_below_drewN | apply below_drew1) | exact HB.out)); (case side2 => exact Kd.R_tight rfl HO_10.out); rintro e w81 ⟨rfl, hy0, hb, hkp⟩; refine ⟨_, rfl, ?_⟩; have n0_ := A_ (Kd.R_mono (ok' := fun k_ => some k_ ≠ (v223 : Value).ownBlock ∧ some k_ ≠ (.slice Ao80 t232.length co80 : Value).ownBlock ∧ some k_ ≠ (v236 : Value).ownBlock) (Kd.R_keptB (HO_6.out) hkp (fun k_ hk_ hs_ => (hk_.2.1) hs_)) (fun k_ hk_ => ⟨hk_.1.1, hk_.1.2.1, hk_.1.2.2⟩)); have n1_ := A_ (Kd.R_mono (ok' := fun k_ => some k_ ≠ (v220 : Value).ownBlock ∧ some k_ ≠ (.slice Ao80 t232.length co80 : Value).ownBlock ∧ some k_ ≠ (v236 : Value).ownBlock) (Kd.R_keptB (HO_7.out) hkp (fun k_ hk_ hs_ => (hk_.2.1) hs_)) (fun k_ hk_ => ⟨hk_.1.1, hk_.1.2.1, hk_.1.2.2⟩)); have n2_ := A_ (Kd.R_reok rfl hy0 (fun k_ e_ => HO_10.out.1 k_ e_)); have n3_ := A_ (Kd.R_mono (ok' := fun k_ => some k_ ≠ (v220 : Value).ownBlock ∧ some k_ ≠ (v223 : Value).ownBlock ∧ some k_ ≠ (.slice Ao80 t232.length co80 : Value).ownBlock) (Kd.R_keptB (HO_11.out) hkp (fun k_ hk_ hs_ => (hk_.2.2) hs_)) (fun k_ hk_ => ⟨hk_.1.1, hk_.1.2.1, hk_.1.2.2⟩)); have n4_ := A_ (Kd.R_mono (ok' := fun k_ => True) (Kd.R_keptB ((Kd.R_apart' HO_232002.out (Kd.R_typed HO_10.out) (by decide))) hkp (fun k_ hk_ hs_ => (hk_.2) hs_)) (fun k_ hk_ => trivial)); have n5_ := A_ (blk_kept (pl_ BK212) hkp (fun hs_ => (fun e_ => (Kd.R_ne HO_10.out BK212.out (by decide)) e_) hs_)); have n6_ := A_ (blk_kept (pl_ BK231) hkp (fun hs_ => (fun e_ => (Kd.R_ne HO_10.out BK231.out (by decide)) e_) hs_)); have n7_ := A_ (hb); clear HO_6; clear HO_7; clear HO_10; clear HO_11; clear HO_232002; clear BK212; clear BK231; clear HB; have HO_6 := n0_; have HO_7 := n1_; have HO_10 := n2_; have HO_11 := n3_; have HO_232002 := n4_; have BK212 := n5_; have BK231 := n6_; have HB := n7_; clear n0_ n1_ n2_ n3_ n4_ n5_ n6_ n7_; (try clear hb); (try clear hkp); (try clear hy0); obtain ⟨Ao82, co82, eo82⟩ := Kd.R_slice HO_11.out; subst eo82) | ((with_reducible refine gate_callee (f := 28) rfl ?_); refine goesL_ (some 88) rfl rfl Try.func28 (by kernel_rfl) rfl #[.slice Ao82 t235.length co82, .int .i64 t251] rfl arg_ ?_; (with_reducible refine (laws_markInt64S.calls kj45 (fun k_ => some k_ = (.slice Ao82 t235.length co82 : Value).ownBlock) (.slice Ao82 t235.length co82) t235 t251 t253 t254 w _ ?side1 ?side2 A71.out).mono ?_); (case side1 => repeat (first | (with_reducible first | exact HB.out | apply below_alloc | apply pw_below_drewN | apply below_drew1) | exact HB.out)); (case side2 => exact Kd.R_tight rfl HO_11.out); rintro e w83 ⟨rfl, hy0, hb, hkp⟩; refine ⟨_, rfl, ?_⟩; have n0_ := A_ (Kd.R_mono (ok' := fun k_ => some k_ ≠ (v223 : Value).ownBlock ∧ some k_ ≠ (.slice Ao80 t232.length co80 : Value).ownBlock ∧ some k_ ≠ (.slice Ao82 t235.length co82 : Value).ownBlock) (Kd.R_keptB (HO_6.out) hkp (fun k_ hk_ hs_ => (hk_.2.2) hs_)) (fun k_ hk_ => ⟨hk_.1.1, hk_.1.2.1, hk_.1.2.2⟩)); have n1_ := A_ (Kd.R_mono (ok' := fun k_ => some k_ ≠ (v220 : Value).ownBlock ∧ some k_ ≠ (.slice Ao80 t232.length co80 : Value).ownBlock ∧ some k_ ≠ (.slice Ao82 t235.length co82 : Value).ownBlock) (Kd.R_keptB (HO_7.out) hkp (fun k_ hk_ hs_ => (hk_.2.2) hs_)) (fun k_ hk_ => ⟨hk_.1.1, hk_.1.2.1, hk_.1.2.2⟩)); have n2_ := A_ (Kd.R_mono (ok' := fun k_ => some k_ ≠ (v220 : Value).ownBlock ∧ some k_ ≠ (v223 : Value).ownBlock ∧ some k_ ≠ (.slice Ao82 t235.length co82 : Value).ownBlock) (Kd.R_keptB (HO_10.out) hkp (fun k_ hk_ hs_ => (hk_.2.2) hs_)) (fun k_ hk_ => ⟨hk_.1.1, hk_.1.2.1, hk_.1.2.2⟩)); have n3_ := A_ (Kd.R_reok rfl hy0 (fun k_ e_ => HO_11.out.1 k_ e_)); have n4_ := A_ (Kd.R_mono (ok' := fun k_ => True) (Kd.R_keptB ((Kd.R_apart' HO_232002.out (Kd.R_typed HO_11.out) (by decide))) hkp (fun k_ hk_ hs_ => (hk_.2) hs_)) (fun k_ hk_ => trivial)); have n5_ := A_ (blk_kept (pl_ BK212) hkp (fun hs_ => (fun e_ => (Kd.R_ne HO_11.out BK212.out (by decide)) e_) hs_)); have n6_ := A_ (blk_kept (pl_ BK231) hkp (fun hs_ => (fun e_ => (Kd.R_ne HO_11.out BK231.out (by decide)) e_) hs_)); have n7_ := A_ (hb); clear HO_6; clear HO_7; clear HO_10; clear HO_11; clear HO_232002; clear BK212; clear BK231; clear HB; have HO_6 := n0_; have HO_7 := n1_; have HO_10 := n2_; have HO_11 := n3_; have HO_232002 := n4_; have BK212 := n5_; have BK231 := n6_; have HB := n7_; clear n0_ n1_ n2_ n3_ n4_ n5_ n6_ n7_; (try clear hb); (try clear hkp); (try clear hy0)) | ((with_reducible refine gate_callee (f := 29) rfl ?_); refine goesL_ (some 91) rfl rfl Try.func29 (by kernel_rfl) rfl #[.slice Ao80 t252.length co80, .int .i64 1] rfl (by (try simp only [List.map_toArray, List.map_cons, List.map_nil]); first | done | (rw [show t252.length = t232.length from (Kd.R_reads' HO_10.out).1.symm] <;> rfl) | rfl | (simp only [List.length_drop, List.length_take]; rfl)) ?_; (with_reducible refine (laws_heldInt64S.calls kj45 _ _ t252 1 t255 _ ?side1 ?side2 A72.out).mono ?_); (case side1 => repeat (first | exact (Kd.R_reads' HO_10.out).2.2 | (with_reducible refine Kd.C_alloc ?_ _) | (with_reducible refine Kd.C_drewN ?_ _) | (with_reducible refine Kd.C_drew ?_))); (case side2 => rw [show t252.length = t232.length from (Kd.R_reads' HO_10.out).1.symm]; exact (Kd.R_reads' HO_10.out).2.1); rintro e w' ⟨rfl, ⟨nd, rfl⟩⟩; refine ⟨_, rfl, ?_⟩) | ((with_reducible refine gate_callee (f := 29) rfl ?_); refine goesL_ (some 96) rfl rfl Try.func29 (by kernel_rfl) rfl #[.slice Ao82 t254.length co82, .int .i64 t255] rfl (by (try simp only [List.map_toArray, List.map_cons, List.map_nil]); first | done | (rw [show t254.length = t235.length from (Kd.R_reads' HO_11.out).1.symm] <;> rfl) | rfl | (simp only [List.length_drop, List.length_take]; rfl)) ?_; (with_reducible refine (laws_heldInt64S.calls kj45 _ _ t254 t255 t256 _ ?side1 ?side2 A78.out).mono ?_); (case side1 => repeat (first | exact (Kd.R_reads' HO_11.out).2.2 | (with_reducible refine Kd.C_alloc ?_ _) | (with_reducible refine Kd.C_drewN ?_ _) | (with_reducible refine Kd.C_drew ?_))); (case side2 => rw [show t254.length = t235.length from (Kd.R_reads' HO_11.out).1.symm]; exact (Kd.R_reads' HO_11.out).2.1); rintro e w' ⟨rfl, ⟨nd, rfl⟩⟩; refine ⟨_, rfl, ?_⟩))
           go_ret
           exact ⟨by first | rfl | (simp [errW_none, errW_some] <;> rfl) | (simp [*, errW_none, errW_some] <;> rfl), bl_ HB⟩
          ·rw [if_neg c79] at H
           have c79b0 : decide (t256 < 0) = false := decide_eq_false c79
           clear c79
           by_cases c84 : t256 = t253
           ·rw [if_pos c84] at H
            have c84b0 : (t256 == t253) = true := beq_iff_eq.mpr c84
            have c84b1 : (t256 != t253) = false := bne_eq_false_iff_eq.mpr c84
            clear c84
            replace H := Option.bind_eq_some_iff.mp H
            obtain ⟨⟨t257, t258, t259⟩, A850, H⟩ := H
            replace H : ((impl_PanOf.f kj45 t257 t258 t259 a1).bind fun bt262 => ((laws_eqInt64S.f kj45 bt262.1 t219).bind fun t269 => (if t269 = true then ((laws_eqInt64S.f kj45 bt262.2.1 t222).bind fun t270 => (if t270 = true then (laws_FnExactPanOf.j2 kj45 t252 t254 t253 (bt262.2.2 != t225)) else (laws_FnExactPanOf.j2 kj45 t252 t254 t253 true))) else (laws_FnExactPanOf.j2 kj45 t252 t254 t253 true)))) = some r := H
            have A85 := Aside0.mk A850
            clear A850
            replace H := Option.bind_eq_some_iff.mp H
            obtain ⟨⟨t262, t265, t268⟩, A860, H⟩ := H
            replace H : ((laws_eqInt64S.f kj45 t262 t219).bind fun t269 => (if t269 = true then ((laws_eqInt64S.f kj45 t265 t222).bind fun t270 => (if t270 = true then (laws_FnExactPanOf.j2 kj45 t252 t254 t253 (t268 != t225)) else (laws_FnExactPanOf.j2 kj45 t252 t254 t253 true))) else (laws_FnExactPanOf.j2 kj45 t252 t254 t253 true))) = some r := H
            have A86 := Aside0.mk A860
            clear A860
            have HC87 := Aside0.mk H
            clear H
            obtain ⟨Ao88, co88, eo88⟩ := Kd.R_slice HO_10.out
            subst eo88
            go_upto_region 29 with (first | ((with_reducible refine gate_callee (f := 28) rfl ?_); refine goesL_ (some 85) rfl rfl Try.func28 (by kernel_rfl) rfl #[.slice Ao88 t232.length co88, .int .i64 1] rfl arg_ ?_; (with_reducible refine (laws_markInt64S.calls kj45 (fun k_ => some k_ = (.slice Ao88 t232.length co88 : Value).ownBlock) (.slice Ao88 t232.length co88) t232 1 t251 t252 w _ ?side1 ?side2 A70.out).mono ?_); (case side1 => repeat (first | (with_reducible first | exact HB.out | apply below_alloc | apply pw_below_drewN | apply below_drew1) | exact HB.out)); (case side2 => exact Kd.R_tight rfl HO_10.out); rintro e w89 ⟨rfl, hy0, hb, hkp⟩; refine ⟨_, rfl, ?_⟩; have n0_ := A_ (Kd.R_mono (ok' := fun k_ => some k_ ≠ (v223 : Value).ownBlock ∧ some k_ ≠ (.slice Ao88 t232.length co88 : Value).ownBlock ∧ some k_ ≠ (v236 : Value).ownBlock) (Kd.R_keptB (HO_6.out) hkp (fun k_ hk_ hs_ => (hk_.2.1) hs_)) (fun k_ hk_ => ⟨hk_.1.1, hk_.1.2.1, hk_.1.2.2⟩)); have n1_ := A_ (Kd.R_mono (ok' := fun k_ => some k_ ≠ (v220 : Value).ownBlock ∧ some k_ ≠ (.slice Ao88 t232.length co88 : Value).ownBlock ∧ some k_ ≠ (v236 : Value).ownBlock) (Kd.R_keptB (HO_7.out) hkp (fun k_ hk_ hs_ => (hk_.2.1) hs_)) (fun k_ hk_ => ⟨hk_.1.1, hk_.1.2.1, hk_.1.2.2⟩)); have n2_ := A_ (Kd.R_reok rfl hy0 (fun k_ e_ => HO_10.out.1 k_ e_)); have n3_ := A_ (Kd.R_mono (ok' := fun k_ => some k_ ≠ (v220 : Value).ownBlock ∧ some k_ ≠ (v223 : Value).ownBlock ∧ some k_ ≠ (.slice Ao88 t232.length co88 : Value).ownBlock) (Kd.R_keptB (HO_11.out) hkp (fun k_ hk_ hs_ => (hk_.2.2) hs_)) (fun k_ hk_ => ⟨hk_.1.1, hk_.1.2.1, hk_.1.2.2⟩)); have n4_ := A_ (Kd.R_mono (ok' := fun k_ => True) (Kd.R_keptB ((Kd.R_apart' HO_232002.out (Kd.R_typed HO_10.out) (by decide))) hkp (fun k_ hk_ hs_ => (hk_.2) hs_)) (fun k_ hk_ => trivial)); have n5_ := A_ (blk_kept (pl_ BK212) hkp (fun hs_ => (fun e_ => (Kd.R_ne HO_10.out BK212.out (by decide)) e_) hs_)); have n6_ := A_ (blk_kept (pl_ BK231) hkp (fun hs_ => (fun e_ => (Kd.R_ne HO_10.out BK231.out (by decide)) e_) hs_)); have n7_ := A_ (hb); clear HO_6; clear HO_7; clear HO_10; clear HO_11; clear HO_232002; clear BK212; clear BK231; clear HB; have HO_6 := n0_; have HO_7 := n1_; have HO_10 := n2_; have HO_11 := n3_; have HO_232002 := n4_; have BK212 := n5_; have BK231 := n6_; have HB := n7_; clear n0_ n1_ n2_ n3_ n4_ n5_ n6_ n7_; (try clear hb); (try clear hkp); (try clear hy0); obtain ⟨Ao90, co90, eo90⟩ := Kd.R_slice HO_11.out; subst eo90) | ((with_reducible refine gate_callee (f := 28) rfl ?_); refine goesL_ (some 88) rfl rfl Try.func28 (by kernel_rfl) rfl #[.slice Ao90 t235.length co90, .int .i64 t251] rfl arg_ ?_; (with_reducible refine (laws_markInt64S.calls kj45 (fun k_ => some k_ = (.slice Ao90 t235.length co90 : Value).ownBlock) (.slice Ao90 t235.length co90) t235 t251 t253 t254 w _ ?side1 ?side2 A71.out).mono ?_); (case side1 => repeat (first | (with_reducible first | exact HB.out | apply below_alloc | apply pw_below_drewN | apply below_drew1) | exact HB.out)); (case side2 => exact Kd.R_tight rfl HO_11.out); rintro e w91 ⟨rfl, hy0, hb, hkp⟩; refine ⟨_, rfl, ?_⟩; have n0_ := A_ (Kd.R_mono (ok' := fun k_ => some k_ ≠ (v223 : Value).ownBlock ∧ some k_ ≠ (.slice Ao88 t232.length co88 : Value).ownBlock ∧ some k_ ≠ (.slice Ao90 t235.length co90 : Value).ownBlock) (Kd.R_keptB (HO_6.out) hkp (fun k_ hk_ hs_ => (hk_.2.2) hs_)) (fun k_ hk_ => ⟨hk_.1.1, hk_.1.2.1, hk_.1.2.2⟩)); have n1_ := A_ (Kd.R_mono (ok' := fun k_ => some k_ ≠ (v220 : Value).ownBlock ∧ some k_ ≠ (.slice Ao88 t232.length co88 : Value).ownBlock ∧ some k_ ≠ (.slice Ao90 t235.length co90 : Value).ownBlock) (Kd.R_keptB (HO_7.out) hkp (fun k_ hk_ hs_ => (hk_.2.2) hs_)) (fun k_ hk_ => ⟨hk_.1.1, hk_.1.2.1, hk_.1.2.2⟩)); have n2_ := A_ (Kd.R_mono (ok' := fun k_ => some k_ ≠ (v220 : Value).ownBlock ∧ some k_ ≠ (v223 : Value).ownBlock ∧ some k_ ≠ (.slice Ao90 t235.length co90 : Value).ownBlock) (Kd.R_keptB (HO_10.out) hkp (fun k_ hk_ hs_ => (hk_.2.2) hs_)) (fun k_ hk_ => ⟨hk_.1.1, hk_.1.2.1, hk_.1.2.2⟩)); have n3_ := A_ (Kd.R_reok rfl hy0 (fun k_ e_ => HO_11.out.1 k_ e_)); have n4_ := A_ (Kd.R_mono (ok' := fun k_ => True) (Kd.R_keptB ((Kd.R_apart' HO_232002.out (Kd.R_typed HO_11.out) (by decide))) hkp (fun k_ hk_ hs_ => (hk_.2) hs_)) (fun k_ hk_ => trivial)); have n5_ := A_ (blk_kept (pl_ BK212) hkp (fun hs_ => (fun e_ => (Kd.R_ne HO_11.out BK212.out (by decide)) e_) hs_)); have n6_ := A_ (blk_kept (pl_ BK231) hkp (fun hs_ => (fun e_ => (Kd.R_ne HO_11.out BK231.out (by decide)) e_) hs_)); have n7_ := A_ (hb); clear HO_6; clear HO_7; clear HO_10; clear HO_11; clear HO_232002; clear BK212; clear BK231; clear HB; have HO_6 := n0_; have HO_7 := n1_; have HO_10 := n2_; have HO_11 := n3_; have HO_232002 := n4_; have BK212 := n5_; have BK231 := n6_; have HB := n7_; clear n0_ n1_ n2_ n3_ n4_ n5_ n6_ n7_; (try clear hb); (try clear hkp); (try clear hy0)) | ((with_reducible refine gate_callee (f := 29) rfl ?_); refine goesL_ (some 91) rfl rfl Try.func29 (by kernel_rfl) rfl #[.slice Ao88 t252.length co88, .int .i64 1] rfl (by (try simp only [List.map_toArray, List.map_cons, List.map_nil]); first | done | (rw [show t252.length = t232.length from (Kd.R_reads' HO_10.out).1.symm] <;> rfl) | rfl | (simp only [List.length_drop, List.length_take]; rfl)) ?_; (with_reducible refine (laws_heldInt64S.calls kj45 _ _ t252 1 t255 _ ?side1 ?side2 A72.out).mono ?_); (case side1 => repeat (first | exact (Kd.R_reads' HO_10.out).2.2 | (with_reducible refine Kd.C_alloc ?_ _) | (with_reducible refine Kd.C_drewN ?_ _) | (with_reducible refine Kd.C_drew ?_))); (case side2 => rw [show t252.length = t232.length from (Kd.R_reads' HO_10.out).1.symm]; exact (Kd.R_reads' HO_10.out).2.1); rintro e w' ⟨rfl, ⟨nd, rfl⟩⟩; refine ⟨_, rfl, ?_⟩) | ((with_reducible refine gate_callee (f := 29) rfl ?_); refine goesL_ (some 96) rfl rfl Try.func29 (by kernel_rfl) rfl #[.slice Ao90 t254.length co90, .int .i64 t255] rfl (by (try simp only [List.map_toArray, List.map_cons, List.map_nil]); first | done | (rw [show t254.length = t235.length from (Kd.R_reads' HO_11.out).1.symm] <;> rfl) | rfl | (simp only [List.length_drop, List.length_take]; rfl)) ?_; (with_reducible refine (laws_heldInt64S.calls kj45 _ _ t254 t255 t256 _ ?side1 ?side2 A78.out).mono ?_); (case side1 => repeat (first | exact (Kd.R_reads' HO_11.out).2.2 | (with_reducible refine Kd.C_alloc ?_ _) | (with_reducible refine Kd.C_drewN ?_ _) | (with_reducible refine Kd.C_drew ?_))); (case side2 => rw [show t254.length = t235.length from (Kd.R_reads' HO_11.out).1.symm]; exact (Kd.R_reads' HO_11.out).2.1); rintro e w' ⟨rfl, ⟨nd, rfl⟩⟩; refine ⟨_, rfl, ?_⟩; have hnb92 := NB212_231.out; have hnc92 := NB231_212.out; have hcz93_0 : w91.cell? ⟨gb212, 0, none⟩ = some (.int .i8 a0_0) := (blk_cell BK212.out 0).trans rfl; have hcz93_1 : w91.cell? ⟨gb212, 1, none⟩ = some (.int .i8 a0_1) := (blk_cell BK212.out 1).trans rfl; have hcz93_2 : w91.cell? ⟨gb212, 2, none⟩ = some (.slice A0_2 l0_2.length c0_2) := (blk_cell BK212.out 2).trans rfl; have hfz93_0 := blk_frozen BK212.out 0; have hfz93_1 := blk_frozen BK212.out 1; have hfz93_2 := blk_frozen BK212.out 2) | ((with_reducible refine gate_callee (f := 11) rfl ?_); refine goesL_ (some 104) rfl rfl Try.func11 (by kernel_rfl) rfl #[.agg #[.int .i8 a0_0, .int .i8 a0_1, .slice A0_2 l0_2.length c0_2]] rfl arg_ ?_; (with_reducible refine (laws_toFixed.calls kj45 a0_0 a0_1 _ _ l0_2 t257 t258 t259 _ ?side1 ?side2 A85.out).mono ?_); (case side1 => repeat (first | exact (Kd.C_below HR0_2.out (bl_ HB)) | (with_reducible refine Kd.C_alloc ?_ _) | (with_reducible refine Kd.C_drewN ?_ _) | (with_reducible refine Kd.C_drew ?_))); (case side2 => exact HC0_2.out); rintro e w94 ⟨v260, rfl, ho0, hb⟩; refine ⟨_, rfl, ?_⟩; have n0_ := A_ (Kd.R_below (pr_ HO_6) hb); have n1_ := A_ (Kd.R_below (pr_ HO_7) hb); have n2_ := A_ (Kd.R_below (pr_ HO_10) hb); have n3_ := A_ (Kd.R_below (pr_ HO_11) hb); have n4_ := A_ (Kd.R_elder' (pr_ HO_232002) (Kd.R_base ho0) hb); have n5_ := A_ (Kd.R_lower (Kd.R_new' ho0 (Kd.R_lt (pr_ HO_232002))) (below_size (bl_ HB))); have n6_ := A_ (blk_below (g := gb212) (o := .cells #[.int .i8 a0_0, .int .i8 a0_1, .slice A0_2 l0_2.length c0_2] 25 (0, 0)) (pl_ BK212) hb); have n7_ := A_ (blk_below (g := gb231) (o := .cells #[.int .i8 t226, .int .i8 t227, .slice Ao25 t248.length co25] 30 (0, 0)) (pl_ BK231) hb); have n8_ := A_ (below_step (bl_ HB) hb); clear HO_6; clear HO_7; clear HO_10; clear HO_11; clear HO_232002; clear BK212; clear BK231; clear HB; have HO_6 := n0_; have HO_7 := n1_; have HO_10 := n2_; have HO_11 := n3_; have HO_232002 := n4_; have HO261 := n5_; have BK212 := n6_; have BK231 := n7_; have HB := n8_; clear n0_ n1_ n2_ n3_ n4_ n5_ n6_ n7_ n8_; (try clear hb); (try clear hb2); (try clear hk); (try clear hi); (try clear ho0); obtain ⟨Ao95, co95, eo95⟩ := Kd.R_slice HO261.out; subst eo95) | ((with_reducible refine gate_callee (f := 26) rfl ?_); refine goesL_ (some 106) rfl rfl Try.func26 (by kernel_rfl) rfl #[.agg #[.int .i8 t257, .int .i8 t258, .slice Ao95 t259.length co95], .int .i64 a1] rfl arg_ ?_; (with_reducible refine (impl_PanOf.calls kj45 t257 t258 _ _ t259 a1 t262 t265 t268 _ ?side1 ?side2 A86.out).mono ?_); (case side1 => repeat (first | exact (Kd.R_reads' HO261.out).2.2 | (with_reducible refine Kd.C_alloc ?_ _) | (with_reducible refine Kd.C_drewN ?_ _) | (with_reducible refine Kd.C_drew ?_))); (case side2 => exact (Kd.R_reads' HO261.out).2.1); rintro e w96 ⟨v263, v266, rfl, ho0, ho1, hb⟩; refine ⟨_, rfl, ?_⟩; have n0_ := A_ (Kd.R_mono (Kd.R_told (Kd.R_told (Kd.R_old (pr_ HO_6) hb) (Kd.R_base ho0)) (Kd.R_base ho1)) (fun _ h_ => h_.1)); have n1_ := A_ (Kd.R_mono (Kd.R_told (Kd.R_told (Kd.R_old (pr_ HO_7) hb) (Kd.R_base ho0)) (Kd.R_base ho1)) (fun _ h_ => h_.1)); have n2_ := A_ (Kd.R_mono (Kd.R_told (Kd.R_told (Kd.R_old (pr_ HO_10) hb) (Kd.R_base ho0)) (Kd.R_base ho1)) (fun _ h_ => h_.1)); have n3_ := A_ (Kd.R_mono (Kd.R_told (Kd.R_told (Kd.R_old (pr_ HO_11) hb) (Kd.R_base ho0)) (Kd.R_base ho1)) (fun _ h_ => h_.1)); have n4_ := A_ (Kd.R_below (pr_ HO_232002) hb); have n5_ := A_ (Kd.R_below (pr_ HO261) hb); have n6_ := A_ (Kd.R_lower (Kd.R_new' (Kd.R_new' (Kd.R_new' (Kd.R_new' ho0 (Kd.R_lt (pr_ HO_6))) (Kd.R_lt (pr_ HO_7))) (Kd.R_lt (pr_ HO_10))) (Kd.R_lt (pr_ HO_11))) (below_size (bl_ HB))); have n7_ := A_ (Kd.R_lower (Kd.R_new' (Kd.R_new' (Kd.R_new' (Kd.R_new' ho1 (Kd.R_lt (pr_ HO_6))) (Kd.R_lt (pr_ HO_7))) (Kd.R_lt (pr_ HO_10))) (Kd.R_lt (pr_ HO_11))) (below_size (bl_ HB))); have n8_ := A_ (blk_below (g := gb212) (o := .cells #[.int .i8 a0_0, .int .i8 a0_1, .slice A0_2 l0_2.length c0_2] 25 (0, 0)) (pl_ BK212) hb); have n9_ := A_ (blk_below (g := gb231) (o := .cells #[.int .i8 t226, .int .i8 t227, .slice Ao25 t248.length co25] 30 (0, 0)) (pl_ BK231) hb); have n10_ := A_ (below_step (bl_ HB) hb); clear HO_6; clear HO_7; clear HO_10; clear HO_11; clear HO_232002; clear HO261; clear BK212; clear BK231; clear HB; have HO_6 := n0_; have HO_7 := n1_; have HO_10 := n2_; have HO_11 := n3_; have HO_232002 := n4_; have HO261 := n5_; have HO264 := n6_; have HO267 := n7_; have BK212 := n8_; have BK231 := n9_; have HB := n10_; clear n0_ n1_ n2_ n3_ n4_ n5_ n6_ n7_ n8_ n9_ n10_; (try clear hb); (try clear hb2); (try clear hk); (try clear hi); (try clear ho0); (try clear ho1)))
            (try simp only [Act.put, List.setIfInBounds_toArray, List.set_cons_zero, List.set_cons_succ])
            go_cut [124] (fun v124 wc => ∃ (kq : Nat) (x124_86 : Bool), v124 = .bool x124_86 ∧ Aside0 (laws_FnExactPanOf.j2 kq t252 t254 t253 x124_86 = some r) ∧ Aside0 (kq ≤ kj45) ∧ Aside0 (Kd.R (Kd.int .i64) 2 wc w.heap.size (fun k_ => some k_ ≠ ((.slice Ao90 t235.length co90) : Value).ownBlock) (.slice Ao88 t232.length co88) t252) ∧ Aside0 (Kd.R (Kd.int .i64) 2 wc w.heap.size (fun k_ => some k_ ≠ ((.slice Ao88 t232.length co88) : Value).ownBlock) (.slice Ao90 t235.length co90) t254) ∧ Aside0 (Kd.R k40 40 wc w.heap.size (fun _ => True) (.slice Ao25 t248.length co25) t248) ∧ Aside0 (wc.heap[gb212]? = some (.cells #[.int .i8 a0_0, .int .i8 a0_1, (.slice A0_2 l0_2.length c0_2)] 25 (0, 0))) ∧ Aside0 (wc.heap[gb231]? = some (.cells #[.int .i8 t226, .int .i8 t227, (.slice Ao25 t248.length co25)] 30 (0, 0))) ∧ Aside0 (Below w.heap.size w wc))
            case first =>
             have H := HC87.out
             clear HC87
             replace H := Option.bind_eq_some_iff.mp H
             obtain ⟨t269, A970, H⟩ := H
             replace H : (if t269 = true then ((laws_eqInt64S.f kj45 t265 t222).bind fun t270 => (if t270 = true then (laws_FnExactPanOf.j2 kj45 t252 t254 t253 (t268 != t225)) else (laws_FnExactPanOf.j2 kj45 t252 t254 t253 true))) else (laws_FnExactPanOf.j2 kj45 t252 t254 t253 true)) = some r := H
             have A97 := Aside0.mk A970
             clear A970
             by_cases c98 : t269 = true
             ·subst c98
              have H1 : ((laws_eqInt64S.f kj45 t265 t222).bind fun t270 => (if t270 = true then (laws_FnExactPanOf.j2 kj45 t252 t254 t253 (t268 != t225)) else (laws_FnExactPanOf.j2 kj45 t252 t254 t253 true))) = some r := by rw [if_pos rfl] at H; exact H
              clear H
              have H := H1
              clear H1
              replace H := Option.bind_eq_some_iff.mp H
              obtain ⟨t270, A990, H⟩ := H
              replace H : (if t270 = true then (laws_FnExactPanOf.j2 kj45 t252 t254 t253 (t268 != t225)) else (laws_FnExactPanOf.j2 kj45 t252 t254 t253 true)) = some r := H
              have A99 := Aside0.mk A990
              clear A990
              by_cases c100 : t270 = true
              ·subst c100
               have H1 : (laws_FnExactPanOf.j2 kj45 t252 t254 t253 (t268 != t225)) = some r := by rw [if_pos rfl] at H; exact H
               clear H
               have H := H1
               clear H1
               have H' := Aside0.mk H
               clear H
               obtain ⟨Ao101, co101, eo101⟩ := Kd.R_slice HO264.out
               subst eo101
               obtain ⟨Ao102, co102, eo102⟩ := Kd.R_slice HO_6.out
               subst eo102
               go_wp2_with (first | ((with_reducible refine gate_callee (f := 27) rfl ?_); refine goesL_ (some 112) rfl rfl Try.func27 (by kernel_rfl) rfl #[.slice Ao101 t262.length co101, .slice Ao102 t219.length co102] rfl arg_ ?_; (with_reducible refine (laws_eqInt64S.calls kj45 _ _ t262 _ _ t219 true _ ?side1 ?side2 ?side3 ?side4 A97.out).mono ?_); (case side1 => repeat (first | exact (Kd.R_reads' HO264.out).2.2 | (with_reducible refine Kd.C_alloc ?_ _) | (with_reducible refine Kd.C_drewN ?_ _) | (with_reducible refine Kd.C_drew ?_))); (case side2 => exact (Kd.R_reads' HO264.out).2.1); (case side3 => repeat (first | exact (Kd.R_reads' HO_6.out).2.2 | (with_reducible refine Kd.C_alloc ?_ _) | (with_reducible refine Kd.C_drewN ?_ _) | (with_reducible refine Kd.C_drew ?_))); (case side4 => exact (Kd.R_reads' HO_6.out).2.1); rintro e w' ⟨rfl, ⟨nd, rfl⟩⟩; refine ⟨_, rfl, ?_⟩; obtain ⟨Ao103, co103, eo103⟩ := Kd.R_slice HO267.out; subst eo103; obtain ⟨Ao104, co104, eo104⟩ := Kd.R_slice HO_7.out; subst eo104) | (go_at_call 27; (with_reducible refine (laws_eqInt64S.calls kj45 _ _ t265 _ _ t222 true _ ?side1 ?side2 ?side3 ?side4 A99.out).mono ?_); (case side1 => repeat (first | exact (Kd.R_reads' HO267.out).2.2 | (with_reducible refine Kd.C_alloc ?_ _) | (with_reducible refine Kd.C_drewN ?_ _) | (with_reducible refine Kd.C_drew ?_))); (case side2 => exact (Kd.R_reads' HO267.out).2.1); (case side3 => repeat (first | exact (Kd.R_reads' HO_7.out).2.2 | (with_reducible refine Kd.C_alloc ?_ _) | (with_reducible refine Kd.C_drewN ?_ _) | (with_reducible refine Kd.C_drew ?_))); (case side4 => exact (Kd.R_reads' HO_7.out).2.1); rintro e w' ⟨rfl, ⟨nd, rfl⟩⟩))
               go_meet
               case rel => exact ⟨_, ((t268 != t225)), rs_, H', ⟨by have := HJ11.out; have := HJ45.out; first | omega | exact Nat.le_refl _⟩, ⟨by (try simp only [hl232002_45]); (with_reducible repeat (first | apply Kd.R_alloc | apply Kd.R_drewN | apply Kd.R_drew)); exact Kd.R_mono HO_10.out (fun _ hk => hk.1.1.2.2)⟩, ⟨by (try simp only [hl232002_45]); (with_reducible repeat (first | apply Kd.R_alloc | apply Kd.R_drewN | apply Kd.R_drew)); exact Kd.R_mono HO_11.out (fun _ hk => hk.1.1.2.2)⟩, ⟨by (try simp only [hl232002_45]); (with_reducible repeat (first | apply Kd.R_alloc | apply Kd.R_drewN | apply Kd.R_drew)); exact Kd.R_mono HO_232002.out (fun _ hk => trivial)⟩, ⟨by (try simp only [hl232002_45]); (with_reducible repeat (first | refine blk_drewN ?_ _ | refine blk_drew ?_ | refine blk_alloc ?_ _)); exact BK212.out⟩, ⟨by (try simp only [hl232002_45]); (with_reducible repeat (first | refine blk_drewN ?_ _ | refine blk_drew ?_ | refine blk_alloc ?_ _)); exact BK231.out⟩, ⟨bl_ HB⟩⟩
              ·replace c100 := Bool.eq_false_iff.mpr c100
               subst c100
               have H1 : (laws_FnExactPanOf.j2 kj45 t252 t254 t253 true) = some r := by rw [if_neg (show ¬ (false = true) by decide)] at H; exact H
               clear H
               have H := H1
               clear H1
               have H' := Aside0.mk H
               clear H
               obtain ⟨Ao105, co105, eo105⟩ := Kd.R_slice HO264.out
               subst eo105
               obtain ⟨Ao106, co106, eo106⟩ := Kd.R_slice HO_6.out
               subst eo106
               go_wp2_with (first | ((with_reducible refine gate_callee (f := 27) rfl ?_); refine goesL_ (some 112) rfl rfl Try.func27 (by kernel_rfl) rfl #[.slice Ao105 t262.length co105, .slice Ao106 t219.length co106] rfl arg_ ?_; (with_reducible refine (laws_eqInt64S.calls kj45 _ _ t262 _ _ t219 true _ ?side1 ?side2 ?side3 ?side4 A97.out).mono ?_); (case side1 => repeat (first | exact (Kd.R_reads' HO264.out).2.2 | (with_reducible refine Kd.C_alloc ?_ _) | (with_reducible refine Kd.C_drewN ?_ _) | (with_reducible refine Kd.C_drew ?_))); (case side2 => exact (Kd.R_reads' HO264.out).2.1); (case side3 => repeat (first | exact (Kd.R_reads' HO_6.out).2.2 | (with_reducible refine Kd.C_alloc ?_ _) | (with_reducible refine Kd.C_drewN ?_ _) | (with_reducible refine Kd.C_drew ?_))); (case side4 => exact (Kd.R_reads' HO_6.out).2.1); rintro e w' ⟨rfl, ⟨nd, rfl⟩⟩; refine ⟨_, rfl, ?_⟩; obtain ⟨Ao107, co107, eo107⟩ := Kd.R_slice HO267.out; subst eo107; obtain ⟨Ao108, co108, eo108⟩ := Kd.R_slice HO_7.out; subst eo108) | (go_at_call 27; (with_reducible refine (laws_eqInt64S.calls kj45 _ _ t265 _ _ t222 false _ ?side1 ?side2 ?side3 ?side4 A99.out).mono ?_); (case side1 => repeat (first | exact (Kd.R_reads' HO267.out).2.2 | (with_reducible refine Kd.C_alloc ?_ _) | (with_reducible refine Kd.C_drewN ?_ _) | (with_reducible refine Kd.C_drew ?_))); (case side2 => exact (Kd.R_reads' HO267.out).2.1); (case side3 => repeat (first | exact (Kd.R_reads' HO_7.out).2.2 | (with_reducible refine Kd.C_alloc ?_ _) | (with_reducible refine Kd.C_drewN ?_ _) | (with_reducible refine Kd.C_drew ?_))); (case side4 => exact (Kd.R_reads' HO_7.out).2.1); rintro e w' ⟨rfl, ⟨nd, rfl⟩⟩))
               go_meet
               case rel => exact ⟨_, (true), rs_, H', ⟨by have := HJ11.out; have := HJ45.out; first | omega | exact Nat.le_refl _⟩, ⟨by (try simp only [hl232002_45]); (with_reducible repeat (first | apply Kd.R_alloc | apply Kd.R_drewN | apply Kd.R_drew)); exact Kd.R_mono HO_10.out (fun _ hk => hk.1.1.2.2)⟩, ⟨by (try simp only [hl232002_45]); (with_reducible repeat (first | apply Kd.R_alloc | apply Kd.R_drewN | apply Kd.R_drew)); exact Kd.R_mono HO_11.out (fun _ hk => hk.1.1.2.2)⟩, ⟨by (try simp only [hl232002_45]); (with_reducible repeat (first | apply Kd.R_alloc | apply Kd.R_drewN | apply Kd.R_drew)); exact Kd.R_mono HO_232002.out (fun _ hk => trivial)⟩, ⟨by (try simp only [hl232002_45]); (with_reducible repeat (first | refine blk_drewN ?_ _ | refine blk_drew ?_ | refine blk_alloc ?_ _)); exact BK212.out⟩, ⟨by (try simp only [hl232002_45]); (with_reducible repeat (first | refine blk_drewN ?_ _ | refine blk_drew ?_ | refine blk_alloc ?_ _)); exact BK231.out⟩, ⟨bl_ HB⟩⟩
             ·replace c98 := Bool.eq_false_iff.mpr c98
              subst c98
              have H1 : (laws_FnExactPanOf.j2 kj45 t252 t254 t253 true) = some r := by rw [if_neg (show ¬ (false = true) by decide)] at H; exact H
              clear H
              have H := H1
              clear H1
              have H' := Aside0.mk H
              clear H
              obtain ⟨Ao109, co109, eo109⟩ := Kd.R_slice HO264.out
              subst eo109
              obtain ⟨Ao110, co110, eo110⟩ := Kd.R_slice HO_6.out
              subst eo110
              go_wp2_with (first | ((with_reducible refine gate_callee (f := 27) rfl ?_); refine goesL_ (some 112) rfl rfl Try.func27 (by kernel_rfl) rfl #[.slice Ao109 t262.length co109, .slice Ao110 t219.length co110] rfl arg_ ?_; (with_reducible refine (laws_eqInt64S.calls kj45 _ _ t262 _ _ t219 false _ ?side1 ?side2 ?side3 ?side4 A97.out).mono ?_); (case side1 => repeat (first | exact (Kd.R_reads' HO264.out).2.2 | (with_reducible refine Kd.C_alloc ?_ _) | (with_reducible refine Kd.C_drewN ?_ _) | (with_reducible refine Kd.C_drew ?_))); (case side2 => exact (Kd.R_reads' HO264.out).2.1); (case side3 => repeat (first | exact (Kd.R_reads' HO_6.out).2.2 | (with_reducible refine Kd.C_alloc ?_ _) | (with_reducible refine Kd.C_drewN ?_ _) | (with_reducible refine Kd.C_drew ?_))); (case side4 => exact (Kd.R_reads' HO_6.out).2.1); rintro e w' ⟨rfl, ⟨nd, rfl⟩⟩; refine ⟨_, rfl, ?_⟩))
              go_meet
              case rel => exact ⟨_, (true), rs_, H', ⟨by have := HJ11.out; have := HJ45.out; first | omega | exact Nat.le_refl _⟩, ⟨by (try simp only [hl232002_45]); (with_reducible repeat (first | apply Kd.R_alloc | apply Kd.R_drewN | apply Kd.R_drew)); exact Kd.R_mono HO_10.out (fun _ hk => hk.1.1.2.2)⟩, ⟨by (try simp only [hl232002_45]); (with_reducible repeat (first | apply Kd.R_alloc | apply Kd.R_drewN | apply Kd.R_drew)); exact Kd.R_mono HO_11.out (fun _ hk => hk.1.1.2.2)⟩, ⟨by (try simp only [hl232002_45]); (with_reducible repeat (first | apply Kd.R_alloc | apply Kd.R_drewN | apply Kd.R_drew)); exact Kd.R_mono HO_232002.out (fun _ hk => trivial)⟩, ⟨by (try simp only [hl232002_45]); (with_reducible repeat (first | refine blk_drewN ?_ _ | refine blk_drew ?_ | refine blk_alloc ?_ _)); exact BK212.out⟩, ⟨by (try simp only [hl232002_45]); (with_reducible repeat (first | refine blk_drewN ?_ _ | refine blk_drew ?_ | refine blk_alloc ?_ _)); exact BK231.out⟩, ⟨bl_ HB⟩⟩
            case rest =>
             clear HC87
             try clear c1
             try clear c2
             try clear p2
             try clear c3
             try clear c4
             try clear c4b0
             try clear c5
             try clear c6
             try clear c7
             try clear c8
             try clear c9
             try clear c10
             try clear c11
             try clear c13
             try clear c21
             try clear c23
             try clear c25
             try clear c26
             try clear c27
             try clear c28
             try clear c29
             try clear c30
             try clear c41
             try clear c44
             try clear c51
             try clear c54
             try clear c54b0
             try clear c56
             try clear c58
             try clear c69
             try clear c73
             try clear c73b0
             try clear c79
             try clear c79b0
             try clear c84
             try clear c84b0
             try clear c84b1
             try clear c92
             try clear c98
             try clear c100
             try clear hcz14_0
             try clear hcz14_1
             try clear hcz14_2
             try clear hcz16_0
             try clear hcz16_1
             try clear hcz16_2
             try clear hcz20_0
             try clear hcz20_1
             try clear hcz20_2
             try clear hcz24_0
             try clear hcz24_1
             try clear hcz24_2
             try clear hcz52_0
             try clear hcz52_1
             try clear hcz52_2
             try clear hcz6_0
             try clear hcz6_1
             try clear hcz6_2
             try clear hcz93_0
             try clear hcz93_1
             try clear hcz93_2
             try clear hfz14_0
             try clear hfz14_1
             try clear hfz14_2
             try clear hfz16_0
             try clear hfz16_1
             try clear hfz16_2
             try clear hfz20_0
             try clear hfz20_1
             try clear hfz20_2
             try clear hfz24_0
             try clear hfz24_1
             try clear hfz24_2
             try clear hfz52_0
             try clear hfz52_1
             try clear hfz52_2
             try clear hfz6_0
             try clear hfz6_1
             try clear hfz6_2
             try clear hfz93_0
             try clear hfz93_1
             try clear hfz93_2
             try clear p2
             obtain ⟨kq, x124_86, rfl, HA, HJ86, HO_10, HO_11, HO_232002, BK212, BK231, HB⟩ := hcut
             have hl10_86 := (Kd.R_reads' HO_10.out).1
             rw [hl10_86] at HO_10
             (try simp only [hl10_86])
             (try simp only [hl10_86] at BK212)
             (try simp only [hl10_86] at BK231)
             (try simp only [hl10_86] at HO_11)
             (try simp only [hl10_86] at HO_232002)
             have hl11_86 := (Kd.R_reads' HO_11.out).1
             rw [hl11_86] at HO_11
             (try simp only [hl11_86])
             (try simp only [hl11_86] at BK212)
             (try simp only [hl11_86] at BK231)
             (try simp only [hl11_86] at HO_10)
             (try simp only [hl11_86] at HO_232002)
             cases kq with
             | zero => exact absurd HA.out (by simp [laws_FnExactPanOf.j2])
             | succ kj86 =>
              have H := HA.out
              clear HA
              simp only [laws_FnExactPanOf.j2] at H
              by_cases c111 : x124_86 = true
              ·subst c111
               have H1 : (some false) = some r := by rw [if_pos rfl] at H; exact H
               clear H
               have H := H1
               clear H1
               obtain rfl := Option.some.inj H
               go_wp2
               go_ret
               exact ⟨by first | rfl | (simp [errW_none, errW_some] <;> rfl) | (simp [*, errW_none, errW_some] <;> rfl), bl_ HB⟩
              ·replace c111 := Bool.eq_false_iff.mpr c111
               subst c111
               have H1 : ((laws_heldInt64S.f kj86 t252 1).bind fun t271 => (if t271 < 0 then (some false) else ((laws_heldInt64S.f kj86 t254 t271).bind fun t272 => (if t272 < 0 then (some false) else (if t272 = t253 then (some true) else (some false)))))) = some r := by rw [if_neg (show ¬ (false = true) by decide)] at H; exact H
               clear H
               have H := H1
               clear H1
               replace H := Option.bind_eq_some_iff.mp H
               obtain ⟨t271, A1120, H⟩ := H
               replace H : (if t271 < 0 then (some false) else ((laws_heldInt64S.f kj86 t254 t271).bind fun t272 => (if t272 < 0 then (some false) else (if t272 = t253 then (some true) else (some false))))) = some r := H
               have A112 := Aside0.mk A1120
               clear A1120
               by_cases c113 : t271 < 0
               ·rw [if_pos c113] at H
                have c113b0 : decide (t271 < 0) = true := decide_eq_true c113
                clear c113
                obtain rfl := Option.some.inj H
                go_wp2_with (first | ((with_reducible refine gate_callee (f := 29) rfl ?_); refine goesL_ (some 127) rfl rfl Try.func29 (by kernel_rfl) rfl #[.slice Ao88 t252.length co88, .int .i64 1] rfl arg_ ?_; (with_reducible refine (laws_heldInt64S.calls kj86 _ _ t252 1 t271 _ ?side1 ?side2 A112.out).mono ?_); (case side1 => repeat (first | exact (Kd.R_reads' HO_10.out).2.2 | (with_reducible refine Kd.C_alloc ?_ _) | (with_reducible refine Kd.C_drewN ?_ _) | (with_reducible refine Kd.C_drew ?_))); (case side2 => exact (Kd.R_reads' HO_10.out).2.1); rintro e w' ⟨rfl, ⟨nd, rfl⟩⟩; refine ⟨_, rfl, ?_⟩))
                go_ret
                exact ⟨by first | rfl | (simp [errW_none, errW_some] <;> rfl) | (simp [*, errW_none, errW_some] <;> rfl), bl_ HB⟩
               ·rw [if_neg c113] at H
                have c113b0 : decide (t271 < 0) = false := decide_eq_false c113
                clear c113
                replace H := Option.bind_eq_some_iff.mp H
                obtain ⟨t272, A1140, H⟩ := H
                replace H : (if t272 < 0 then (some false) else (if t272 = t253 then (some true) else (some false))) = some r := H
                have A114 := Aside0.mk A1140
                clear A1140
                by_cases c115 : t272 < 0
                ·rw [if_pos c115] at H
                 have c115b0 : decide (t272 < 0) = true := decide_eq_true c115
                 clear c115
                 obtain rfl := Option.some.inj H
                 go_wp2_with (first | ((with_reducible refine gate_callee (f := 29) rfl ?_); refine goesL_ (some 127) rfl rfl Try.func29 (by kernel_rfl) rfl #[.slice Ao88 t252.length co88, .int .i64 1] rfl arg_ ?_; (with_reducible refine (laws_heldInt64S.calls kj86 _ _ t252 1 t271 _ ?side1 ?side2 A112.out).mono ?_); (case side1 => repeat (first | exact (Kd.R_reads' HO_10.out).2.2 | (with_reducible refine Kd.C_alloc ?_ _) | (with_reducible refine Kd.C_drewN ?_ _) | (with_reducible refine Kd.C_drew ?_))); (case side2 => exact (Kd.R_reads' HO_10.out).2.1); rintro e w' ⟨rfl, ⟨nd, rfl⟩⟩; refine ⟨_, rfl, ?_⟩) | ((with_reducible refine gate_callee (f := 29) rfl ?_); refine goesL_ (some 132) rfl rfl Try.func29 (by kernel_rfl) rfl #[.slice Ao90 t254.length co90, .int .i64 t271] rfl arg_ ?_; (with_reducible refine (laws_heldInt64S.calls kj86 _ _ t254 t271 t272 _ ?side1 ?side2 A114.out).mono ?_); (case side1 => repeat (first | exact (Kd.R_reads' HO_11.out).2.2 | (with_reducible refine Kd.C_alloc ?_ _) | (with_reducible refine Kd.C_drewN ?_ _) | (with_reducible refine Kd.C_drew ?_))); (case side2 => exact (Kd.R_reads' HO_11.out).2.1); rintro e w' ⟨rfl, ⟨nd, rfl⟩⟩; refine ⟨_, rfl, ?_⟩))
                 go_ret
                 exact ⟨by first | rfl | (simp [errW_none, errW_some] <;> rfl) | (simp [*, errW_none, errW_some] <;> rfl), bl_ HB⟩
                ·rw [if_neg c115] at H
                 have c115b0 : decide (t272 < 0) = false := decide_eq_false c115
                 clear c115
                 by_cases c116 : t272 = t253
                 ·rw [if_pos c116] at H
                  have c116b0 : (t272 == t253) = true := beq_iff_eq.mpr c116
                  have c116b1 : (t272 != t253) = false := bne_eq_false_iff_eq.mpr c116
                  clear c116
                  obtain rfl := Option.some.inj H
                  go_wp2_with (first | ((with_reducible refine gate_callee (f := 29) rfl ?_); refine goesL_ (some 127) rfl rfl Try.func29 (by kernel_rfl) rfl #[.slice Ao88 t252.length co88, .int .i64 1] rfl arg_ ?_; (with_reducible refine (laws_heldInt64S.calls kj86 _ _ t252 1 t271 _ ?side1 ?side2 A112.out).mono ?_); (case side1 => repeat (first | exact (Kd.R_reads' HO_10.out).2.2 | (with_reducible refine Kd.C_alloc ?_ _) | (with_reducible refine Kd.C_drewN ?_ _) | (with_reducible refine Kd.C_drew ?_))); (case side2 => exact (Kd.R_reads' HO_10.out).2.1); rintro e w' ⟨rfl, ⟨nd, rfl⟩⟩; refine ⟨_, rfl, ?_⟩) | ((with_reducible refine gate_callee (f := 29) rfl ?_); refine goesL_ (some 132) rfl rfl Try.func29 (by kernel_rfl) rfl #[.slice Ao90 t254.length co90, .int .i64 t271] rfl arg_ ?_; (with_reducible refine (laws_heldInt64S.calls kj86 _ _ t254 t271 t272 _ ?side1 ?side2 A114.out).mono ?_); (case side1 => repeat (first | exact (Kd.R_reads' HO_11.out).2.2 | (with_reducible refine Kd.C_alloc ?_ _) | (with_reducible refine Kd.C_drewN ?_ _) | (with_reducible refine Kd.C_drew ?_))); (case side2 => exact (Kd.R_reads' HO_11.out).2.1); rintro e w' ⟨rfl, ⟨nd, rfl⟩⟩; refine ⟨_, rfl, ?_⟩))
                  go_ret
                  exact ⟨by first | rfl | (simp [errW_none, errW_some] <;> rfl) | (simp [*, errW_none, errW_some] <;> rfl), bl_ HB⟩
                 ·rw [if_neg c116] at H
                  have c116b0 : (t272 == t253) = false := beq_eq_false_iff_ne.mpr c116
                  have c116b1 : (t272 != t253) = true := bne_iff_ne.mpr c116
                  obtain rfl := Option.some.inj H
                  go_wp2_with (first | ((with_reducible refine gate_callee (f := 29) rfl ?_); refine goesL_ (some 127) rfl rfl Try.func29 (by kernel_rfl) rfl #[.slice Ao88 t252.length co88, .int .i64 1] rfl arg_ ?_; (with_reducible refine (laws_heldInt64S.calls kj86 _ _ t252 1 t271 _ ?side1 ?side2 A112.out).mono ?_); (case side1 => repeat (first | exact (Kd.R_reads' HO_10.out).2.2 | (with_reducible refine Kd.C_alloc ?_ _) | (with_reducible refine Kd.C_drewN ?_ _) | (with_reducible refine Kd.C_drew ?_))); (case side2 => exact (Kd.R_reads' HO_10.out).2.1); rintro e w' ⟨rfl, ⟨nd, rfl⟩⟩; refine ⟨_, rfl, ?_⟩) | ((with_reducible refine gate_callee (f := 29) rfl ?_); refine goesL_ (some 132) rfl rfl Try.func29 (by kernel_rfl) rfl #[.slice Ao90 t254.length co90, .int .i64 t271] rfl arg_ ?_; (with_reducible refine (laws_heldInt64S.calls kj86 _ _ t254 t271 t272 _ ?side1 ?side2 A114.out).mono ?_); (case side1 => repeat (first | exact (Kd.R_reads' HO_11.out).2.2 | (with_reducible refine Kd.C_alloc ?_ _) | (with_reducible refine Kd.C_drewN ?_ _) | (with_reducible refine Kd.C_drew ?_))); (case side2 => exact (Kd.R_reads' HO_11.out).2.1); rintro e w' ⟨rfl, ⟨nd, rfl⟩⟩; refine ⟨_, rfl, ?_⟩))
                  go_ret
                  exact ⟨by first | rfl | (simp [errW_none, errW_some] <;> rfl) | (simp [*, errW_none, errW_some] <;> rfl), bl_ HB⟩
           ·rw [if_neg c84] at H
            have c84b0 : (t256 == t253) = false := beq_eq_false_iff_ne.mpr c84
            have c84b1 : (t256 != t253) = true := bne_iff_ne.mpr c84
            obtain rfl := Option.some.inj H
            obtain ⟨Ao117, co117, eo117⟩ := Kd.R_slice HO_10.out
            subst eo117
            go_wp2_with (first | ((with_reducible refine gate_callee (f := 28) rfl ?_); refine goesL_ (some 85) rfl rfl Try.func28 (by kernel_rfl) rfl #[.slice Ao117 t232.length co117, .int .i64 1] rfl arg_ ?_; (with_reducible refine (laws_markInt64S.calls kj45 (fun k_ => some k_ = (.slice Ao117 t232.length co117 : Value).ownBlock) (.slice Ao117 t232.length co117) t232 1 t251 t252 w _ ?side1 ?side2 A70.out).mono ?_); (case side1 => repeat (first | (with_reducible first | exact HB.out | apply below_alloc | apply pw_below_drewN | apply below_drew1) | exact HB.out)); (case side2 => exact Kd.R_tight rfl HO_10.out); rintro e w118 ⟨rfl, hy0, hb, hkp⟩; refine ⟨_, rfl, ?_⟩; have n0_ := A_ (Kd.R_mono (ok' := fun k_ => some k_ ≠ (v223 : Value).ownBlock ∧ some k_ ≠ (.slice Ao117 t232.length co117 : Value).ownBlock ∧ some k_ ≠ (v236 : Value).ownBlock) (Kd.R_keptB (HO_6.out) hkp (fun k_ hk_ hs_ => (hk_.2.1) hs_)) (fun k_ hk_ => ⟨hk_.1.1, hk_.1.2.1, hk_.1.2.2⟩)); have n1_ := A_ (Kd.R_mono (ok' := fun k_ => some k_ ≠ (v220 : Value).ownBlock ∧ some k_ ≠ (.slice Ao117 t232.length co117 : Value).ownBlock ∧ some k_ ≠ (v236 : Value).ownBlock) (Kd.R_keptB (HO_7.out) hkp (fun k_ hk_ hs_ => (hk_.2.1) hs_)) (fun k_ hk_ => ⟨hk_.1.1, hk_.1.2.1, hk_.1.2.2⟩)); have n2_ := A_ (Kd.R_reok rfl hy0 (fun k_ e_ => HO_10.out.1 k_ e_)); have n3_ := A_ (Kd.R_mono (ok' := fun k_ => some k_ ≠ (v220 : Value).ownBlock ∧ some k_ ≠ (v223 : Value).ownBlock ∧ some k_ ≠ (.slice Ao117 t232.length co117 : Value).ownBlock) (Kd.R_keptB (HO_11.out) hkp (fun k_ hk_ hs_ => (hk_.2.2) hs_)) (fun k_ hk_ => ⟨hk_.1.1, hk_.1.2.1, hk_.1.2.2⟩)); have n4_ := A_ (Kd.R_mono (ok' := fun k_ => True) (Kd.R_keptB ((Kd.R_apart' HO_232002.out (Kd.R_typed HO_10.out) (by decide))) hkp (fun k_ hk_ hs_ => (hk_.2) hs_)) (fun k_ hk_ => trivial)); have n5_ := A_ (blk_kept (pl_ BK212) hkp (fun hs_ => (fun e_ => (Kd.R_ne HO_10.out BK212.out (by decide)) e_) hs_)); have n6_ := A_ (blk_kept (pl_ BK231) hkp (fun hs_ => (fun e_ => (Kd.R_ne HO_10.out BK231.out (by decide)) e_) hs_)); have n7_ := A_ (hb); clear HO_6; clear HO_7; clear HO_10; clear HO_11; clear HO_232002; clear BK212; clear BK231; clear HB; have HO_6 := n0_; have HO_7 := n1_; have HO_10 := n2_; have HO_11 := n3_; have HO_232002 := n4_; have BK212 := n5_; have BK231 := n6_; have HB := n7_; clear n0_ n1_ n2_ n3_ n4_ n5_ n6_ n7_; (try clear hb); (try clear hkp); (try clear hy0); obtain ⟨Ao119, co119, eo119⟩ := Kd.R_slice HO_11.out; subst eo119) | ((with_reducible refine gate_callee (f := 28) rfl ?_); refine goesL_ (some 88) rfl rfl Try.func28 (by kernel_rfl) rfl #[.slice Ao119 t235.length co119, .int .i64 t251] rfl arg_ ?_; (with_reducible refine (laws_markInt64S.calls kj45 (fun k_ => some k_ = (.slice Ao119 t235.length co119 : Value).ownBlock) (.slice Ao119 t235.length co119) t235 t251 t253 t254 w _ ?side1 ?side2 A71.out).mono ?_); (case side1 => repeat (first | (with_reducible first | exact HB.out | apply below_alloc | apply pw_below_drewN | apply below_drew1) | exact HB.out)); (case side2 => exact Kd.R_tight rfl HO_11.out); rintro e w120 ⟨rfl, hy0, hb, hkp⟩; refine ⟨_, rfl, ?_⟩; have n0_ := A_ (Kd.R_mono (ok' := fun k_ => some k_ ≠ (v223 : Value).ownBlock ∧ some k_ ≠ (.slice Ao117 t232.length co117 : Value).ownBlock ∧ some k_ ≠ (.slice Ao119 t235.length co119 : Value).ownBlock) (Kd.R_keptB (HO_6.out) hkp (fun k_ hk_ hs_ => (hk_.2.2) hs_)) (fun k_ hk_ => ⟨hk_.1.1, hk_.1.2.1, hk_.1.2.2⟩)); have n1_ := A_ (Kd.R_mono (ok' := fun k_ => some k_ ≠ (v220 : Value).ownBlock ∧ some k_ ≠ (.slice Ao117 t232.length co117 : Value).ownBlock ∧ some k_ ≠ (.slice Ao119 t235.length co119 : Value).ownBlock) (Kd.R_keptB (HO_7.out) hkp (fun k_ hk_ hs_ => (hk_.2.2) hs_)) (fun k_ hk_ => ⟨hk_.1.1, hk_.1.2.1, hk_.1.2.2⟩)); have n2_ := A_ (Kd.R_mono (ok' := fun k_ => some k_ ≠ (v220 : Value).ownBlock ∧ some k_ ≠ (v223 : Value).ownBlock ∧ some k_ ≠ (.slice Ao119 t235.length co119 : Value).ownBlock) (Kd.R_keptB (HO_10.out) hkp (fun k_ hk_ hs_ => (hk_.2.2) hs_)) (fun k_ hk_ => ⟨hk_.1.1, hk_.1.2.1, hk_.1.2.2⟩)); have n3_ := A_ (Kd.R_reok rfl hy0 (fun k_ e_ => HO_11.out.1 k_ e_)); have n4_ := A_ (Kd.R_mono (ok' := fun k_ => True) (Kd.R_keptB ((Kd.R_apart' HO_232002.out (Kd.R_typed HO_11.out) (by decide))) hkp (fun k_ hk_ hs_ => (hk_.2) hs_)) (fun k_ hk_ => trivial)); have n5_ := A_ (blk_kept (pl_ BK212) hkp (fun hs_ => (fun e_ => (Kd.R_ne HO_11.out BK212.out (by decide)) e_) hs_)); have n6_ := A_ (blk_kept (pl_ BK231) hkp (fun hs_ => (fun e_ => (Kd.R_ne HO_11.out BK231.out (by decide)) e_) hs_)); have n7_ := A_ (hb); clear HO_6; clear HO_7; clear HO_10; clear HO_11; clear HO_232002; clear BK212; clear BK231; clear HB; have HO_6 := n0_; have HO_7 := n1_; have HO_10 := n2_; have HO_11 := n3_; have HO_232002 := n4_; have BK212 := n5_; have BK231 := n6_; have HB := n7_; clear n0_ n1_ n2_ n3_ n4_ n5_ n6_ n7_; (try clear hb); (try clear hkp); (try clear hy0)) | ((with_reducible refine gate_callee (f := 29) rfl ?_); refine goesL_ (some 91) rfl rfl Try.func29 (by kernel_rfl) rfl #[.slice Ao117 t252.length co117, .int .i64 1] rfl (by (try simp only [List.map_toArray, List.map_cons, List.map_nil]); first | done | (rw [show t252.length = t232.length from (Kd.R_reads' HO_10.out).1.symm] <;> rfl) | rfl | (simp only [List.length_drop, List.length_take]; rfl)) ?_; (with_reducible refine (laws_heldInt64S.calls kj45 _ _ t252 1 t255 _ ?side1 ?side2 A72.out).mono ?_); (case side1 => repeat (first | exact (Kd.R_reads' HO_10.out).2.2 | (with_reducible refine Kd.C_alloc ?_ _) | (with_reducible refine Kd.C_drewN ?_ _) | (with_reducible refine Kd.C_drew ?_))); (case side2 => rw [show t252.length = t232.length from (Kd.R_reads' HO_10.out).1.symm]; exact (Kd.R_reads' HO_10.out).2.1); rintro e w' ⟨rfl, ⟨nd, rfl⟩⟩; refine ⟨_, rfl, ?_⟩) | ((with_reducible refine gate_callee (f := 29) rfl ?_); refine goesL_ (some 96) rfl rfl Try.func29 (by kernel_rfl) rfl #[.slice Ao119 t254.length co119, .int .i64 t255] rfl (by (try simp only [List.map_toArray, List.map_cons, List.map_nil]); first | done | (rw [show t254.length = t235.length from (Kd.R_reads' HO_11.out).1.symm] <;> rfl) | rfl | (simp only [List.length_drop, List.length_take]; rfl)) ?_; (with_reducible refine (laws_heldInt64S.calls kj45 _ _ t254 t255 t256 _ ?side1 ?side2 A78.out).mono ?_); (case side1 => repeat (first | exact (Kd.R_reads' HO_11.out).2.2 | (with_reducible refine Kd.C_alloc ?_ _) | (with_reducible refine Kd.C_drewN ?_ _) | (with_reducible refine Kd.C_drew ?_))); (case side2 => rw [show t254.length = t235.length from (Kd.R_reads' HO_11.out).1.symm]; exact (Kd.R_reads' HO_11.out).2.1); rintro e w' ⟨rfl, ⟨nd, rfl⟩⟩; refine ⟨_, rfl, ?_⟩))
            go_ret
            exact ⟨by first | rfl | (simp [errW_none, errW_some] <;> rfl) | (simp [*, errW_none, errW_some] <;> rfl), bl_ HB⟩
     ·replace c44 := Bool.eq_false_iff.mpr c44
      subst c44
      have H1 : (some false) = some r := by rw [if_neg (show ¬ (false = true) by decide)] at H; exact H
      clear H
      have H := H1
      clear H1
      obtain rfl := Option.some.inj H
      try go_wp2
      have n0_ := A_ (Kd.R_drew HO_6.out)
      have n1_ := A_ (Kd.R_drew HO_7.out)
      have n2_ := A_ (Kd.R_drew HO_10.out)
      have n3_ := A_ (Kd.R_drew HO_11.out)
      have n4_ := A_ (Kd.R_drew HO_232002.out)
      have n5_ := A_ (blk_drew BK212.out)
      have n6_ := A_ (blk_drew BK231.out)
      have n7_ := A_ (below_drew1 HB.out)
      clear HO_6
      clear HO_7
      clear HO_10
      clear HO_11
      clear HO_232002
      clear BK212
      clear BK231
      clear HB
      have HO_6 := n0_
      have HO_7 := n1_
      have HO_10 := n2_
      have HO_11 := n3_
      have HO_232002 := n4_
      have BK212 := n5_
      have BK231 := n6_
      have HB := n7_
      clear n0_ n1_ n2_ n3_ n4_ n5_ n6_ n7_
      refine start_ (n := 5) (S := fun w' => w'.cell? ⟨gb231, 0, none⟩ = some (.int .i8 t226) ∧ w'.cell? ⟨gb231, 1, none⟩ = some (.int .i8 t227) ∧ w'.cell? ⟨gb231, 2, none⟩ = some (.slice Ao25 t228.length co25) ∧ w'.cell? ⟨gb212, 0, none⟩ = some (.int .i8 a0_0) ∧ w'.cell? ⟨gb212, 1, none⟩ = some (.int .i8 a0_1) ∧ w'.cell? ⟨gb212, 2, none⟩ = some (.slice A0_2 l0_2.length c0_2)) (ds := []) #[false, false, false, false, false] (by kernel_rfl) rfl rfl ⟨(blk_cell BK231.out 0).trans rfl, (blk_cell BK231.out 1).trans rfl, (blk_cell BK231.out 2).trans rfl, (blk_cell BK212.out 0).trans rfl, (blk_cell BK212.out 1).trans rfl, (blk_cell BK212.out 2).trans rfl⟩ (fun hHeld => ?_)
      generalize wc.drew = w121 at HO_6 HO_7 HO_10 HO_11 HO_232002 BK212 BK231 HB hHeld ⊢
      refine take_ (i := 0) (N := some 56) (v := ?_) (a' := ?_) #[true, false, false, false, false] rfl rfl (by kernel_rfl) (fun _ _ _ h => h) (Or.inl ⟨by rfl, ?_⟩) hHeld ?_ ?_
      rotate_left
      ·rintro w' ⟨s0, s1, s2, s3, s4, s5⟩
       go_simp
       with_reducible rfl
      rotate_left
      ·simp only [Act.put, List.setIfInBounds_toArray, List.set_cons_zero, List.set_cons_succ, i64_w, i32_w]
       rfl
      refine take_ (i := 1) (N := some 57) (v := ?_) (a' := ?_) #[true, true, false, false, false] rfl rfl (by kernel_rfl) (fun _ _ _ h => h) (Or.inl ⟨by rfl, ?_⟩) hHeld ?_ ?_
      rotate_left
      ·rintro w' ⟨s0, s1, s2, s3, s4, s5⟩
       go_simp
       with_reducible rfl
      rotate_left
      ·simp only [Act.put, List.setIfInBounds_toArray, List.set_cons_zero, List.set_cons_succ, i64_w, i32_w]
       rfl
      refine one_ (i := 2) (N := some 58) #[true, true, true, false, false] rfl rfl (by kernel_rfl) (by decide) (fun K hK => ?_)
      refine goes_ Try.func11 (by kernel_rfl) rfl #[.agg #[.int .i8 a0_0, .int .i8 a0_1, .slice A0_2 l0_2.length c0_2]] (by rfl) rfl rfl arg_ ?_
      with_reducible refine (laws_toFixed.calls kj11 a0_0 a0_1 _ _ l0_2 t241 t242 t243 _ ?side1 ?side2 A42.out).mono ?_
      (case side1 => repeat (first | exact (Kd.C_below HR0_2.out HB.out) | (with_reducible refine Kd.C_alloc ?_ _) | (with_reducible refine Kd.C_drewN ?_ _) | (with_reducible refine Kd.C_drew ?_)))
      (case side2 => exact HC0_2.out)
      rintro e w122 ⟨v244, rfl, ho0, hb⟩
      refine ⟨_, rfl, ?_⟩
      have n0_ := A_ (Kd.R_below (pr_ HO_6) hb)
      have n1_ := A_ (Kd.R_below (pr_ HO_7) hb)
      have n2_ := A_ (Kd.R_below (pr_ HO_10) hb)
      have n3_ := A_ (Kd.R_below (pr_ HO_11) hb)
      have n4_ := A_ (Kd.R_elder' (pr_ HO_232002) (Kd.R_base ho0) hb)
      have n5_ := A_ (Kd.R_lower (Kd.R_new' ho0 (Kd.R_lt (pr_ HO_232002))) (below_size (bl_ HB)))
      have n6_ := A_ (blk_below (g := gb212) (o := .cells #[.int .i8 a0_0, .int .i8 a0_1, .slice A0_2 l0_2.length c0_2] 25 (0, 0)) (pl_ BK212) hb)
      have n7_ := A_ (blk_below (g := gb231) (o := .cells #[.int .i8 t226, .int .i8 t227, .slice Ao25 t228.length co25] 30 (0, 0)) (pl_ BK231) hb)
      have n8_ := A_ (below_step (bl_ HB) hb)
      clear HO_6
      clear HO_7
      clear HO_10
      clear HO_11
      clear HO_232002
      clear BK212
      clear BK231
      clear HB
      have HO_6 := n0_
      have HO_7 := n1_
      have HO_10 := n2_
      have HO_11 := n3_
      have HO_232002 := n4_
      have HO245 := n5_
      have BK212 := n6_
      have BK231 := n7_
      have HB := n8_
      clear n0_ n1_ n2_ n3_ n4_ n5_ n6_ n7_ n8_
      (try clear hb)
      (try clear hb2)
      (try clear hk)
      (try clear hi)
      (try clear ho0)
      obtain ⟨Ao123, co123, eo123⟩ := Kd.R_slice HO245.out
      (first | subst eo123 | (injection eo123 with f1_ f2_ f3_; have f4_ := f1_.symm; have f5_ := f3_.symm; clear f1_ f2_ f3_; subst f4_; subst f5_))
      refine hK.out _ _ ⟨(blk_cell BK231.out 0).trans rfl, (blk_cell BK231.out 1).trans rfl, (blk_cell BK231.out 2).trans rfl, (blk_cell BK212.out 0).trans rfl, (blk_cell BK212.out 1).trans rfl, (blk_cell BK212.out 2).trans rfl⟩ (fun hHeld => ?_)
      clear hK K
      refine norm_ (a' := ?_) ?_ ?_
      rotate_left
      ·show Act.put _ (some 58) _ = _
       simp only [Act.put, List.setIfInBounds_toArray, List.set_cons_zero, List.set_cons_succ, i64_w, i32_w]
       rfl
      refine one_ (i := 3) (N := some 59) #[true, true, true, true, false] rfl rfl (by kernel_rfl) (by decide) (fun K hK => ?_)
      refine goes_ Try.func13 (by kernel_rfl) rfl #[.agg #[.int .i8 t226, .int .i8 t227, .slice Ao25 t228.length co25], .agg #[.int .i8 t241, .int .i8 t242, .slice Ao123 t243.length co123]] (by rfl) rfl rfl arg_ ?_
      with_reducible refine (laws_eqFixed.calls kj11 t226 t227 _ _ t228 t241 t242 _ _ t243 false _ ?side1 ?side2 ?side3 ?side4 A43.out).mono ?_
      (case side1 => repeat (first | exact (Kd.R_reads' HO_232002.out).2.2 | (with_reducible refine Kd.C_alloc ?_ _) | (with_reducible refine Kd.C_drewN ?_ _) | (with_reducible refine Kd.C_drew ?_)))
      (case side2 => exact (Kd.R_reads' HO_232002.out).2.1)
      (case side3 => repeat (first | exact (Kd.R_reads' HO245.out).2.2 | (with_reducible refine Kd.C_alloc ?_ _) | (with_reducible refine Kd.C_drewN ?_ _) | (with_reducible refine Kd.C_drew ?_)))
      (case side4 => exact (Kd.R_reads' HO245.out).2.1)
      rintro e w124 ⟨rfl, hb⟩
      refine ⟨_, rfl, ?_⟩
      have n0_ := A_ (Kd.R_below (pr_ HO_6) hb)
      have n1_ := A_ (Kd.R_below (pr_ HO_7) hb)
      have n2_ := A_ (Kd.R_below (pr_ HO_10) hb)
      have n3_ := A_ (Kd.R_below (pr_ HO_11) hb)
      have n4_ := A_ (Kd.R_below (pr_ HO_232002) hb)
      have n5_ := A_ (Kd.R_below (pr_ HO245) hb)
      have n6_ := A_ (blk_below (g := gb212) (o := .cells #[.int .i8 a0_0, .int .i8 a0_1, .slice A0_2 l0_2.length c0_2] 25 (0, 0)) (pl_ BK212) hb)
      have n7_ := A_ (blk_below (g := gb231) (o := .cells #[.int .i8 t226, .int .i8 t227, .slice Ao25 t228.length co25] 30 (0, 0)) (pl_ BK231) hb)
      have n8_ := A_ (below_step (bl_ HB) hb)
      clear HO_6
      clear HO_7
      clear HO_10
      clear HO_11
      clear HO_232002
      clear HO245
      clear BK212
      clear BK231
      clear HB
      have HO_6 := n0_
      have HO_7 := n1_
      have HO_10 := n2_
      have HO_11 := n3_
      have HO_232002 := n4_
      have HO245 := n5_
      have BK212 := n6_
      have BK231 := n7_
      have HB := n8_
      clear n0_ n1_ n2_ n3_ n4_ n5_ n6_ n7_ n8_
      (try clear hb)
      (try clear hb2)
      (try clear hk)
      (try clear hi)
      refine hK.out _ _ ⟨(blk_cell BK231.out 0).trans rfl, (blk_cell BK231.out 1).trans rfl, (blk_cell BK231.out 2).trans rfl, (blk_cell BK212.out 0).trans rfl, (blk_cell BK212.out 1).trans rfl, (blk_cell BK212.out 2).trans rfl⟩ (fun hHeld => ?_)
      clear hK K
      refine norm_ (a' := ?_) ?_ ?_
      rotate_left
      ·show Act.put _ (some 59) _ = _
       simp only [Act.put, List.setIfInBounds_toArray, List.set_cons_zero, List.set_cons_succ, i64_w, i32_w]
       rfl
      refine pure_ (i := 4) (N := some 60) (v := ?_) (a' := ?_) #[true, true, true, true, true] rfl rfl (by kernel_rfl) (fun _ _ _ h => h) (Or.inl ⟨by rfl, ?_⟩) ?_ ?_
      rotate_left
      ·intro w'
       go_simp
       with_reducible rfl
      rotate_left
      ·simp only [Act.put, List.setIfInBounds_toArray, List.set_cons_zero, List.set_cons_succ, i64_w, i32_w]
       rfl
      refine done_ (by kernel_rfl) ?_
      try go_wp2
      go_ret
      exact ⟨by first | rfl | (simp [errW_none, errW_some] <;> rfl) | (simp [*, errW_none, errW_some] <;> rfl), bl_ HB⟩

end Go.Proofs.Ytonifpgaagdohaa.M
