-- By this seat's own program over the kit's printer (arrays, functions told by hand); nothing of it is trusted: the kernel checks it.
import Derived.Test.YtodmfjophjhbeaaDoorMx0
import Derived.Test.YtodmfjophjhbeaaDoorMx4
import Derived.Test.YtodmfjophjhbeaaDoorMx7
import Derived.Test.YtodmfjophjhbeaaDoorMx8
import Derived.Test.YtodmfjophjhbeaaDoorMx9
namespace Go.Proofs.YtodmfjophjhbeaaDoor.M
open Go.RowKit Go.Proofs.YtodmfjophjhbeaaDoorW.PrintWords Go.Proofs.YtodmfjophjhbeaaDoorW.PrintLast Go.Proofs.YtodmfjophjhbeaaDoorW.PrintMore
attribute [local go_sem] max2_int min2_int max_two min_two max_three min_three max_four min_four   -- for this text's walks alone
set_option linter.unusedVariables false
set_option linter.unusedSimpArgs false

/-! ### laws_FnExactReadMoves: function 4 -/
mutual
def laws_FnExactReadMoves.j0 : Nat → ByteArray → List (S56) → Int → List (S56) → Bool → Option (Bool)
 | 0, _, _, _, _, _ => none
 | k + 1, x0, x3, x4, x5, x32 => if x32 = true then (some false) else ((laws_markMoveS.f k x5 1).bind fun bt191 => ((laws_heldMoveS.f k bt191.2 1).bind fun t193 => (if t193 < 0 then (some false) else (if t193 = bt191.1 then ((impl_ReadMoves.f k x0).bind fun bt194 => ((laws_eqMoveS.f k bt194.1 x3).bind fun t198 => (if t198 = true then (laws_FnExactReadMoves.j1 k bt191.2 bt191.1 (bt194.2 != x4)) else (laws_FnExactReadMoves.j1 k bt191.2 bt191.1 true)))) else (some false)))))
def laws_FnExactReadMoves.j1 : Nat → List (S56) → Int → Bool → Option (Bool)
 | 0, _, _, _ => none
 | k + 1, x5, x7, x57 => if x57 = true then (some false) else ((laws_heldMoveS.f k x5 1).bind fun t199 => (if t199 < 0 then (some false) else (if t199 = x7 then (some true) else (some false))))
end
def laws_FnExactReadMoves.f (k : Nat) (a0 : ByteArray) : Option (Bool) := if (a0.size : Int) > 1048576 then (some true) else ((spec_ReadMoves.f k a0).bind fun bt182 => ((impl_ReadMoves.f k a0).bind fun bt186 => ((laws_eqMoveS.f k bt186.1 bt182.1).bind fun t190 => (if t190 = true then (laws_FnExactReadMoves.j0 k a0 bt182.1 bt182.2 bt186.1 (bt186.2 != bt182.2)) else (laws_FnExactReadMoves.j0 k a0 bt182.1 bt182.2 bt186.1 true)))))
theorem laws_FnExactReadMoves.mono_l : ∀ k, (∀ y0 y1 y2 y3 y4, LeO (laws_FnExactReadMoves.j0 k y0 y1 y2 y3 y4) (laws_FnExactReadMoves.j0 (k + 1) y0 y1 y2 y3 y4)) ∧ (∀ y0 y1 y2, LeO (laws_FnExactReadMoves.j1 k y0 y1 y2) (laws_FnExactReadMoves.j1 (k + 1) y0 y1 y2))
 | 0 => ⟨fun _ _ _ _ _ r h => by simp [laws_FnExactReadMoves.j0] at h, fun _ _ _ r h => by simp [laws_FnExactReadMoves.j1] at h⟩
 | k + 1 => by
  obtain ⟨ih0, ih1⟩ := laws_FnExactReadMoves.mono_l k
  refine ⟨?_, ?_⟩
  ·intro y0 y1 y2 y3 y4
   unfold laws_FnExactReadMoves.j0
   repeat' first
   | (with_reducible exact ih0 _ _ _ _ _)
   | (with_reducible exact ih1 _ _ _)
   | (with_reducible exact impl_ReadMoves.mono _ _)
   | (with_reducible exact laws_eqMoveS.mono _ _ _)
   | (with_reducible exact laws_heldMoveS.mono _ _ _)
   | (with_reducible exact laws_markMoveS.mono _ _ _)
   | (with_reducible exact spec_ReadMoves.mono _ _)
   | (with_reducible exact LeO.refl _)
   | (with_reducible exact LeO.none _)
   | (with_reducible refine LeO.ite ?_ ?_)
   | (with_reducible refine LeO.bind ?_ (fun _ => ?_))
   | exact ih0 _ _ _ _ _
   | exact ih1 _ _ _
   | exact impl_ReadMoves.mono _ _
   | exact laws_eqMoveS.mono _ _ _
   | exact laws_heldMoveS.mono _ _ _
   | exact laws_markMoveS.mono _ _ _
   | exact spec_ReadMoves.mono _ _
   | exact LeO.none _
   | refine LeO.ite ?_ ?_
   | refine LeO.bind ?_ (fun _ => ?_)
  ·intro y0 y1 y2
   unfold laws_FnExactReadMoves.j1
   repeat' first
   | (with_reducible exact ih0 _ _ _ _ _)
   | (with_reducible exact ih1 _ _ _)
   | (with_reducible exact impl_ReadMoves.mono _ _)
   | (with_reducible exact laws_eqMoveS.mono _ _ _)
   | (with_reducible exact laws_heldMoveS.mono _ _ _)
   | (with_reducible exact laws_markMoveS.mono _ _ _)
   | (with_reducible exact spec_ReadMoves.mono _ _)
   | (with_reducible exact LeO.refl _)
   | (with_reducible exact LeO.none _)
   | (with_reducible refine LeO.ite ?_ ?_)
   | (with_reducible refine LeO.bind ?_ (fun _ => ?_))
   | exact ih0 _ _ _ _ _
   | exact ih1 _ _ _
   | exact impl_ReadMoves.mono _ _
   | exact laws_eqMoveS.mono _ _ _
   | exact laws_heldMoveS.mono _ _ _
   | exact laws_markMoveS.mono _ _ _
   | exact spec_ReadMoves.mono _ _
   | exact LeO.none _
   | refine LeO.ite ?_ ?_
   | refine LeO.bind ?_ (fun _ => ?_)
theorem laws_FnExactReadMoves.mono : ∀ a0 k, LeO (laws_FnExactReadMoves.f k a0) (laws_FnExactReadMoves.f (k + 1) a0) := by
 intro a0 k
 obtain ⟨ih0, ih1⟩ := laws_FnExactReadMoves.mono_l k
 unfold laws_FnExactReadMoves.f
 repeat' first
   | (with_reducible exact ih0 _ _ _ _ _)
   | (with_reducible exact ih1 _ _ _)
   | (with_reducible exact impl_ReadMoves.mono _ _)
   | (with_reducible exact laws_eqMoveS.mono _ _ _)
   | (with_reducible exact laws_heldMoveS.mono _ _ _)
   | (with_reducible exact laws_markMoveS.mono _ _ _)
   | (with_reducible exact spec_ReadMoves.mono _ _)
   | (with_reducible exact LeO.refl _)
   | (with_reducible exact LeO.none _)
   | (with_reducible refine LeO.ite ?_ ?_)
   | (with_reducible refine LeO.bind ?_ (fun _ => ?_))
   | exact ih0 _ _ _ _ _
   | exact ih1 _ _ _
   | exact impl_ReadMoves.mono _ _
   | exact laws_eqMoveS.mono _ _ _
   | exact laws_heldMoveS.mono _ _ _
   | exact laws_markMoveS.mono _ _ _
   | exact spec_ReadMoves.mono _ _
   | exact LeO.none _
   | refine LeO.ite ?_ ?_
   | refine LeO.bind ?_ (fun _ => ?_)
set_option maxHeartbeats 8000000 in
set_option maxRecDepth 100000 in
theorem laws_FnExactReadMoves.calls (k : Nat) (a0 : ByteArray) (r : Bool) (w : World) (hM : HasM w) (h : laws_FnExactReadMoves.f k a0 = some r) :
  Calls Tryd.prog 4 #[.string a0] w fun e w' => e = .returned (.bool r) ∧ Below w.heap.size w w' := by
 have HB := A_ (Below.refl w.heap.size w)
 have H : (if (a0.size : Int) > 1048576 then (some true) else ((spec_ReadMoves.f k a0).bind fun bt182 => ((impl_ReadMoves.f k a0).bind fun bt186 => ((laws_eqMoveS.f k bt186.1 bt182.1).bind fun t190 => (if t190 = true then (laws_FnExactReadMoves.j0 k a0 bt182.1 bt182.2 bt186.1 (bt186.2 != bt182.2)) else (laws_FnExactReadMoves.j0 k a0 bt182.1 bt182.2 bt186.1 true)))))) = some r := h
 clear h
 by_cases c2 : (a0.size : Int) > 1048576
 ·rw [if_pos c2] at H
  have c2b0 : decide (1048576 < (a0.size : Int)) = true := decide_eq_true c2
  have c2b1 : decide (1048576 < a0.size) = true := decide_eq_true (by omega)
  clear c2
  obtain rfl := Option.some.inj H
  go_enter Tryd.func4, Tryd.ntmps4
  go_wp2
  go_ret
  exact ⟨by first | rfl | (simp [errW_none, errW_some] <;> rfl) | (simp [*, errW_none, errW_some] <;> rfl), bl_ HB⟩
 ·rw [if_neg c2] at H
  have c2b0 : decide (1048576 < (a0.size : Int)) = false := decide_eq_false c2
  have c2b1 : decide (1048576 < a0.size) = false := decide_eq_false (by omega)
  clear c2
  replace H := Option.bind_eq_some_iff.mp H
  obtain ⟨⟨t182, t183⟩, A30, H⟩ := H
  replace H : ((impl_ReadMoves.f k a0).bind fun bt186 => ((laws_eqMoveS.f k bt186.1 t182).bind fun t190 => (if t190 = true then (laws_FnExactReadMoves.j0 k a0 t182 t183 bt186.1 (bt186.2 != t183)) else (laws_FnExactReadMoves.j0 k a0 t182 t183 bt186.1 true)))) = some r := H
  have A3 := Aside0.mk A30
  clear A30
  replace H := Option.bind_eq_some_iff.mp H
  obtain ⟨⟨t186, t187⟩, A40, H⟩ := H
  replace H : ((laws_eqMoveS.f k t186 t182).bind fun t190 => (if t190 = true then (laws_FnExactReadMoves.j0 k a0 t182 t183 t186 (t187 != t183)) else (laws_FnExactReadMoves.j0 k a0 t182 t183 t186 true))) = some r := H
  have A4 := Aside0.mk A40
  clear A40
  have HC5 := Aside0.mk H
  clear H
  go_enter Tryd.func4, Tryd.ntmps4
  go_upto_region 5 with (first | ((with_reducible refine gate_callee (f := 10) rfl ?_); refine goesL_ (some 16) rfl rfl Tryd.func10 (by kernel_rfl) rfl #[.string a0] rfl arg_ ?_; (with_reducible refine (spec_ReadMoves.calls k a0 t182 t183 _ A3.out).mono ?_); rintro e w6 ⟨v184, rfl, ho0, hb⟩; refine ⟨_, rfl, ?_⟩; have n0_ := A_ (Kd.R_lower ho0 (below_size (bl_ HB))); have n1_ := A_ (below_step (bl_ HB) hb); clear HB; have HO185 := n0_; have HB := n1_; clear n0_ n1_; (try clear hb); (try clear hb2); (try clear hk); (try clear hi); (try clear ho0)) | ((with_reducible refine gate_callee (f := 11) rfl ?_); refine goesL_ (some 21) rfl rfl Tryd.func11 (by kernel_rfl) rfl #[.string a0] rfl arg_ ?_; (with_reducible refine (impl_ReadMoves.calls k a0 t186 t187 _ ?sideM A4.out).mono ?_); (case sideM => exact hM.below (bl_ HB)); rintro e w7 ⟨v188, rfl, ho0, hb⟩; refine ⟨_, rfl, ?_⟩; have n0_ := A_ (Kd.R_elder' (pr_ HO185) (Kd.R_base ho0) hb); have n1_ := A_ (Kd.R_lower (Kd.R_new' ho0 (Kd.R_lt (pr_ HO185))) (below_size (bl_ HB))); have n2_ := A_ (below_step (bl_ HB) hb); clear HO185; clear HB; have HO185 := n0_; have HO189 := n1_; have HB := n2_; clear n0_ n1_ n2_; (try clear hb); (try clear hb2); (try clear hk); (try clear hi); (try clear ho0)))
  (try simp only [Act.put, List.setIfInBounds_toArray, List.set_cons_zero, List.set_cons_succ])
  go_cut [32] (fun v32 wc => ∃ (kq : Nat) (x32_4 : Bool), v32 = .bool x32_4 ∧ Aside0 (laws_FnExactReadMoves.j0 kq a0 t182 t183 t186 x32_4 = some r) ∧ Aside0 (kq ≤ k) ∧ Aside0 (Kd.R k56 56 wc w.heap.size (fun k_ => some k_ ≠ (v188 : Value).ownBlock) v184 t182) ∧ Aside0 (Kd.R k56 56 wc w.heap.size (fun k_ => some k_ ≠ (v184 : Value).ownBlock) v188 t186) ∧ Aside0 (Below w.heap.size w wc))
  case first =>
   have H := HC5.out
   clear HC5
   replace H := Option.bind_eq_some_iff.mp H
   obtain ⟨t190, A80, H⟩ := H
   replace H : (if t190 = true then (laws_FnExactReadMoves.j0 k a0 t182 t183 t186 (t187 != t183)) else (laws_FnExactReadMoves.j0 k a0 t182 t183 t186 true)) = some r := H
   have A8 := Aside0.mk A80
   clear A80
   by_cases c9 : t190 = true
   ·subst c9
    have H1 : (laws_FnExactReadMoves.j0 k a0 t182 t183 t186 (t187 != t183)) = some r := by rw [if_pos rfl] at H; exact H
    clear H
    have H := H1
    clear H1
    have H' := Aside0.mk H
    clear H
    obtain ⟨Ao10, co10, eo10⟩ := Kd.R_slice HO189.out
    subst eo10
    obtain ⟨Ao11, co11, eo11⟩ := Kd.R_slice HO185.out
    subst eo11
    go_wp2_with (first | ((with_reducible refine gate_callee (f := 12) rfl ?_); refine goesL_ (some 26) rfl rfl Tryd.func12 (by kernel_rfl) rfl #[.slice Ao10 t186.length co10, .slice Ao11 t182.length co11] rfl arg_ ?_; (with_reducible refine (laws_eqMoveS.calls k _ _ t186 _ _ t182 true _ ?side1 ?side2 ?side3 ?side4 A8.out).mono ?_); (case side1 => repeat (first | exact (Kd.R_reads' HO189.out).2.2 | (with_reducible refine Kd.C_alloc ?_ _) | (with_reducible refine Kd.C_drewN ?_ _) | (with_reducible refine Kd.C_drew ?_))); (case side2 => exact (Kd.R_reads' HO189.out).2.1); (case side3 => repeat (first | exact (Kd.R_reads' HO185.out).2.2 | (with_reducible refine Kd.C_alloc ?_ _) | (with_reducible refine Kd.C_drewN ?_ _) | (with_reducible refine Kd.C_drew ?_))); (case side4 => exact (Kd.R_reads' HO185.out).2.1); rintro e w12 ⟨rfl, hb⟩; refine ⟨_, rfl, ?_⟩; have n0_ := A_ (Kd.R_below (pr_ HO185) hb); have n1_ := A_ (Kd.R_below (pr_ HO189) hb); have n2_ := A_ (below_step (bl_ HB) hb); clear HO185; clear HO189; clear HB; have HO185 := n0_; have HO189 := n1_; have HB := n2_; clear n0_ n1_ n2_; (try clear hb); (try clear hb2); (try clear hk); (try clear hi)))
    go_meet
    case rel => exact ⟨_, ((t187 != t183)), rs_, H', ⟨by first | omega | exact Nat.le_refl _⟩, ⟨by (with_reducible repeat (first | apply Kd.R_alloc | apply Kd.R_drewN | apply Kd.R_drew)); exact Kd.R_mono HO185.out (fun _ hk => hk.2)⟩, ⟨by (with_reducible repeat (first | apply Kd.R_alloc | apply Kd.R_drewN | apply Kd.R_drew)); exact Kd.R_mono HO189.out (fun _ hk => hk.2)⟩, ⟨bl_ HB⟩⟩
   ·replace c9 := Bool.eq_false_iff.mpr c9
    subst c9
    have H1 : (laws_FnExactReadMoves.j0 k a0 t182 t183 t186 true) = some r := by rw [if_neg (show ¬ (false = true) by decide)] at H; exact H
    clear H
    have H := H1
    clear H1
    have H' := Aside0.mk H
    clear H
    obtain ⟨Ao13, co13, eo13⟩ := Kd.R_slice HO189.out
    subst eo13
    obtain ⟨Ao14, co14, eo14⟩ := Kd.R_slice HO185.out
    subst eo14
    go_wp2_with (first | ((with_reducible refine gate_callee (f := 12) rfl ?_); refine goesL_ (some 26) rfl rfl Tryd.func12 (by kernel_rfl) rfl #[.slice Ao13 t186.length co13, .slice Ao14 t182.length co14] rfl arg_ ?_; (with_reducible refine (laws_eqMoveS.calls k _ _ t186 _ _ t182 false _ ?side1 ?side2 ?side3 ?side4 A8.out).mono ?_); (case side1 => repeat (first | exact (Kd.R_reads' HO189.out).2.2 | (with_reducible refine Kd.C_alloc ?_ _) | (with_reducible refine Kd.C_drewN ?_ _) | (with_reducible refine Kd.C_drew ?_))); (case side2 => exact (Kd.R_reads' HO189.out).2.1); (case side3 => repeat (first | exact (Kd.R_reads' HO185.out).2.2 | (with_reducible refine Kd.C_alloc ?_ _) | (with_reducible refine Kd.C_drewN ?_ _) | (with_reducible refine Kd.C_drew ?_))); (case side4 => exact (Kd.R_reads' HO185.out).2.1); rintro e w15 ⟨rfl, hb⟩; refine ⟨_, rfl, ?_⟩; have n0_ := A_ (Kd.R_below (pr_ HO185) hb); have n1_ := A_ (Kd.R_below (pr_ HO189) hb); have n2_ := A_ (below_step (bl_ HB) hb); clear HO185; clear HO189; clear HB; have HO185 := n0_; have HO189 := n1_; have HB := n2_; clear n0_ n1_ n2_; (try clear hb); (try clear hb2); (try clear hk); (try clear hi)))
    go_meet
    case rel => exact ⟨_, (true), rs_, H', ⟨by first | omega | exact Nat.le_refl _⟩, ⟨by (with_reducible repeat (first | apply Kd.R_alloc | apply Kd.R_drewN | apply Kd.R_drew)); exact Kd.R_mono HO185.out (fun _ hk => hk.2)⟩, ⟨by (with_reducible repeat (first | apply Kd.R_alloc | apply Kd.R_drewN | apply Kd.R_drew)); exact Kd.R_mono HO189.out (fun _ hk => hk.2)⟩, ⟨bl_ HB⟩⟩
  case rest =>
   clear HC5
   try clear c1
   try clear c2
   try clear c2b0
   try clear c2b1
   try clear p2
   try clear c4
   try clear c9
   try clear c10
   try clear c11
   try clear c12
   obtain ⟨kq, x32_4, rfl, HA, HJ4, HO_3, HO_5, HB⟩ := hcut
   cases kq with
   | zero => exact absurd HA.out (by simp [laws_FnExactReadMoves.j0])
   | succ kj4 =>
    have H := HA.out
    clear HA
    simp only [laws_FnExactReadMoves.j0] at H
    by_cases c16 : x32_4 = true
    ·subst c16
     have H1 : (some false) = some r := by rw [if_pos rfl] at H; exact H
     clear H
     have H := H1
     clear H1
     obtain rfl := Option.some.inj H
     go_wp2
     go_ret
     exact ⟨by first | rfl | (simp [errW_none, errW_some] <;> rfl) | (simp [*, errW_none, errW_some] <;> rfl), bl_ HB⟩
    ·replace c16 := Bool.eq_false_iff.mpr c16
     subst c16
     have H1 : ((laws_markMoveS.f kj4 t186 1).bind fun bt191 => ((laws_heldMoveS.f kj4 bt191.2 1).bind fun t193 => (if t193 < 0 then (some false) else (if t193 = bt191.1 then ((impl_ReadMoves.f kj4 a0).bind fun bt194 => ((laws_eqMoveS.f kj4 bt194.1 t182).bind fun t198 => (if t198 = true then (laws_FnExactReadMoves.j1 kj4 bt191.2 bt191.1 (bt194.2 != t183)) else (laws_FnExactReadMoves.j1 kj4 bt191.2 bt191.1 true)))) else (some false))))) = some r := by rw [if_neg (show ¬ (false = true) by decide)] at H; exact H
     clear H
     have H := H1
     clear H1
     replace H := Option.bind_eq_some_iff.mp H
     obtain ⟨⟨t191, t192⟩, A170, H⟩ := H
     replace H : ((laws_heldMoveS.f kj4 t192 1).bind fun t193 => (if t193 < 0 then (some false) else (if t193 = t191 then ((impl_ReadMoves.f kj4 a0).bind fun bt194 => ((laws_eqMoveS.f kj4 bt194.1 t182).bind fun t198 => (if t198 = true then (laws_FnExactReadMoves.j1 kj4 t192 t191 (bt194.2 != t183)) else (laws_FnExactReadMoves.j1 kj4 t192 t191 true)))) else (some false)))) = some r := H
     have A17 := Aside0.mk A170
     clear A170
     replace H := Option.bind_eq_some_iff.mp H
     obtain ⟨t193, A180, H⟩ := H
     replace H : (if t193 < 0 then (some false) else (if t193 = t191 then ((impl_ReadMoves.f kj4 a0).bind fun bt194 => ((laws_eqMoveS.f kj4 bt194.1 t182).bind fun t198 => (if t198 = true then (laws_FnExactReadMoves.j1 kj4 t192 t191 (bt194.2 != t183)) else (laws_FnExactReadMoves.j1 kj4 t192 t191 true)))) else (some false))) = some r := H
     have A18 := Aside0.mk A180
     clear A180
     by_cases c19 : t193 < 0
     ·rw [if_pos c19] at H
      have c19b0 : decide (t193 < 0) = true := decide_eq_true c19
      clear c19
      obtain rfl := Option.some.inj H
      obtain ⟨Ao20, co20, eo20⟩ := Kd.R_slice HO_5.out
      subst eo20
      go_wp2_with (first | ((with_reducible refine gate_callee (f := 13) rfl ?_); refine goesL_ (some 35) rfl rfl Tryd.func13 (by kernel_rfl) rfl #[.slice Ao20 t186.length co20, .int .i64 1] rfl arg_ ?_; (with_reducible refine (laws_markMoveS.calls kj4 (fun k_ => some k_ = (.slice Ao20 t186.length co20 : Value).ownBlock) (.slice Ao20 t186.length co20) t186 1 t191 t192 w _ ?side1 ?side2 A17.out).mono ?_); (case side1 => repeat (first | (with_reducible first | exact HB.out | apply below_alloc | apply pw_below_drewN | apply below_drew1) | exact HB.out)); (case side2 => exact Kd.R_tight rfl HO_5.out); rintro e w21 ⟨rfl, hy0, hb, hkp⟩; refine ⟨_, rfl, ?_⟩; have n0_ := A_ (Kd.R_mono (ok' := fun k_ => some k_ ≠ (.slice Ao20 t186.length co20 : Value).ownBlock) (Kd.R_keptB (HO_3.out) hkp (fun k_ hk_ hs_ => (hk_) hs_)) (fun k_ hk_ => hk_.1)); have n1_ := A_ (Kd.R_reok rfl hy0 (fun k_ e_ => HO_5.out.1 k_ e_)); have n2_ := A_ (hb); clear HO_3; clear HO_5; clear HB; have HO_3 := n0_; have HO_5 := n1_; have HB := n2_; clear n0_ n1_ n2_; (try clear hb); (try clear hkp); (try clear hy0)) | ((with_reducible refine gate_callee (f := 14) rfl ?_); refine goesL_ (some 38) rfl rfl Tryd.func14 (by kernel_rfl) rfl #[.slice Ao20 t192.length co20, .int .i64 1] rfl (by (try simp only [List.map_toArray, List.map_cons, List.map_nil]); first | done | (rw [show t192.length = t186.length from (Kd.R_reads' HO_5.out).1.symm] <;> rfl) | rfl | (simp only [List.length_drop, List.length_take]; rfl)) ?_; (with_reducible refine (laws_heldMoveS.calls kj4 _ _ t192 1 t193 _ ?side1 ?side2 A18.out).mono ?_); (case side1 => repeat (first | exact (Kd.R_reads' HO_5.out).2.2 | (with_reducible refine Kd.C_alloc ?_ _) | (with_reducible refine Kd.C_drewN ?_ _) | (with_reducible refine Kd.C_drew ?_))); (case side2 => rw [show t192.length = t186.length from (Kd.R_reads' HO_5.out).1.symm]; exact (Kd.R_reads' HO_5.out).2.1); rintro e w' ⟨rfl, ⟨nd, rfl⟩⟩; refine ⟨_, rfl, ?_⟩))
      go_ret
      exact ⟨by first | rfl | (simp [errW_none, errW_some] <;> rfl) | (simp [*, errW_none, errW_some] <;> rfl), bl_ HB⟩
     ·rw [if_neg c19] at H
      have c19b0 : decide (t193 < 0) = false := decide_eq_false c19
      clear c19
      by_cases c22 : t193 = t191
      ·rw [if_pos c22] at H
       have c22b0 : (t193 == t191) = true := beq_iff_eq.mpr c22
       have c22b1 : (t193 != t191) = false := bne_eq_false_iff_eq.mpr c22
       clear c22
       replace H := Option.bind_eq_some_iff.mp H
       obtain ⟨⟨t194, t195⟩, A230, H⟩ := H
       replace H : ((laws_eqMoveS.f kj4 t194 t182).bind fun t198 => (if t198 = true then (laws_FnExactReadMoves.j1 kj4 t192 t191 (t195 != t183)) else (laws_FnExactReadMoves.j1 kj4 t192 t191 true))) = some r := H
       have A23 := Aside0.mk A230
       clear A230
       have HC24 := Aside0.mk H
       clear H
       obtain ⟨Ao25, co25, eo25⟩ := Kd.R_slice HO_5.out
       subst eo25
       go_upto_region 16 with (first | ((with_reducible refine gate_callee (f := 13) rfl ?_); refine goesL_ (some 35) rfl rfl Tryd.func13 (by kernel_rfl) rfl #[.slice Ao25 t186.length co25, .int .i64 1] rfl arg_ ?_; (with_reducible refine (laws_markMoveS.calls kj4 (fun k_ => some k_ = (.slice Ao25 t186.length co25 : Value).ownBlock) (.slice Ao25 t186.length co25) t186 1 t191 t192 w _ ?side1 ?side2 A17.out).mono ?_); (case side1 => repeat (first | (with_reducible first | exact HB.out | apply below_alloc | apply pw_below_drewN | apply below_drew1) | exact HB.out)); (case side2 => exact Kd.R_tight rfl HO_5.out); rintro e w26 ⟨rfl, hy0, hb, hkp⟩; refine ⟨_, rfl, ?_⟩; have n0_ := A_ (Kd.R_mono (ok' := fun k_ => some k_ ≠ (.slice Ao25 t186.length co25 : Value).ownBlock) (Kd.R_keptB (HO_3.out) hkp (fun k_ hk_ hs_ => (hk_) hs_)) (fun k_ hk_ => hk_.1)); have n1_ := A_ (Kd.R_reok rfl hy0 (fun k_ e_ => HO_5.out.1 k_ e_)); have n2_ := A_ (hb); clear HO_3; clear HO_5; clear HB; have HO_3 := n0_; have HO_5 := n1_; have HB := n2_; clear n0_ n1_ n2_; (try clear hb); (try clear hkp); (try clear hy0)) | ((with_reducible refine gate_callee (f := 14) rfl ?_); refine goesL_ (some 38) rfl rfl Tryd.func14 (by kernel_rfl) rfl #[.slice Ao25 t192.length co25, .int .i64 1] rfl (by (try simp only [List.map_toArray, List.map_cons, List.map_nil]); first | done | (rw [show t192.length = t186.length from (Kd.R_reads' HO_5.out).1.symm] <;> rfl) | rfl | (simp only [List.length_drop, List.length_take]; rfl)) ?_; (with_reducible refine (laws_heldMoveS.calls kj4 _ _ t192 1 t193 _ ?side1 ?side2 A18.out).mono ?_); (case side1 => repeat (first | exact (Kd.R_reads' HO_5.out).2.2 | (with_reducible refine Kd.C_alloc ?_ _) | (with_reducible refine Kd.C_drewN ?_ _) | (with_reducible refine Kd.C_drew ?_))); (case side2 => rw [show t192.length = t186.length from (Kd.R_reads' HO_5.out).1.symm]; exact (Kd.R_reads' HO_5.out).2.1); rintro e w' ⟨rfl, ⟨nd, rfl⟩⟩; refine ⟨_, rfl, ?_⟩) | ((with_reducible refine gate_callee (f := 11) rfl ?_); refine goesL_ (some 46) rfl rfl Tryd.func11 (by kernel_rfl) rfl #[.string a0] rfl arg_ ?_; (with_reducible refine (impl_ReadMoves.calls kj4 a0 t194 t195 _ ?sideM A23.out).mono ?_); (case sideM => exact hM.below (bl_ HB)); rintro e w27 ⟨v196, rfl, ho0, hb⟩; refine ⟨_, rfl, ?_⟩; have n0_ := A_ (Kd.R_elder' (pr_ HO_3) (Kd.R_base ho0) hb); have n1_ := A_ (Kd.R_elder' (pr_ HO_5) (Kd.R_base ho0) hb); have n2_ := A_ (Kd.R_lower (Kd.R_new' (Kd.R_new' ho0 (Kd.R_lt (pr_ HO_3))) (Kd.R_lt (pr_ HO_5))) (below_size (bl_ HB))); have n3_ := A_ (below_step (bl_ HB) hb); clear HO_3; clear HO_5; clear HB; have HO_3 := n0_; have HO_5 := n1_; have HO197 := n2_; have HB := n3_; clear n0_ n1_ n2_ n3_; (try clear hb); (try clear hb2); (try clear hk); (try clear hi); (try clear ho0)))
       (try simp only [Act.put, List.setIfInBounds_toArray, List.set_cons_zero, List.set_cons_succ])
       go_cut [57] (fun v57 wc => ∃ (kq : Nat) (x57_23 : Bool), v57 = .bool x57_23 ∧ Aside0 (laws_FnExactReadMoves.j1 kq t192 t191 x57_23 = some r) ∧ Aside0 (kq ≤ kj4) ∧ Aside0 (Kd.R k56 56 wc w.heap.size (fun _ => True) (.slice Ao25 t186.length co25) t192) ∧ Aside0 (Below w.heap.size w wc))
       case first =>
        have H := HC24.out
        clear HC24
        replace H := Option.bind_eq_some_iff.mp H
        obtain ⟨t198, A280, H⟩ := H
        replace H : (if t198 = true then (laws_FnExactReadMoves.j1 kj4 t192 t191 (t195 != t183)) else (laws_FnExactReadMoves.j1 kj4 t192 t191 true)) = some r := H
        have A28 := Aside0.mk A280
        clear A280
        by_cases c29 : t198 = true
        ·subst c29
         have H1 : (laws_FnExactReadMoves.j1 kj4 t192 t191 (t195 != t183)) = some r := by rw [if_pos rfl] at H; exact H
         clear H
         have H := H1
         clear H1
         have H' := Aside0.mk H
         clear H
         obtain ⟨Ao30, co30, eo30⟩ := Kd.R_slice HO197.out
         subst eo30
         obtain ⟨Ao31, co31, eo31⟩ := Kd.R_slice HO_3.out
         subst eo31
         go_wp2_with (first | ((with_reducible refine gate_callee (f := 12) rfl ?_); refine goesL_ (some 51) rfl rfl Tryd.func12 (by kernel_rfl) rfl #[.slice Ao30 t194.length co30, .slice Ao31 t182.length co31] rfl arg_ ?_; (with_reducible refine (laws_eqMoveS.calls kj4 _ _ t194 _ _ t182 true _ ?side1 ?side2 ?side3 ?side4 A28.out).mono ?_); (case side1 => repeat (first | exact (Kd.R_reads' HO197.out).2.2 | (with_reducible refine Kd.C_alloc ?_ _) | (with_reducible refine Kd.C_drewN ?_ _) | (with_reducible refine Kd.C_drew ?_))); (case side2 => exact (Kd.R_reads' HO197.out).2.1); (case side3 => repeat (first | exact (Kd.R_reads' HO_3.out).2.2 | (with_reducible refine Kd.C_alloc ?_ _) | (with_reducible refine Kd.C_drewN ?_ _) | (with_reducible refine Kd.C_drew ?_))); (case side4 => exact (Kd.R_reads' HO_3.out).2.1); rintro e w32 ⟨rfl, hb⟩; refine ⟨_, rfl, ?_⟩; have n0_ := A_ (Kd.R_below (pr_ HO_3) hb); have n1_ := A_ (Kd.R_below (pr_ HO_5) hb); have n2_ := A_ (Kd.R_below (pr_ HO197) hb); have n3_ := A_ (below_step (bl_ HB) hb); clear HO_3; clear HO_5; clear HO197; clear HB; have HO_3 := n0_; have HO_5 := n1_; have HO197 := n2_; have HB := n3_; clear n0_ n1_ n2_ n3_; (try clear hb); (try clear hb2); (try clear hk); (try clear hi)))
         go_meet
         case rel => exact ⟨_, ((t195 != t183)), rs_, H', ⟨by have := HJ4.out; first | omega | exact Nat.le_refl _⟩, ⟨by (with_reducible repeat (first | apply Kd.R_alloc | apply Kd.R_drewN | apply Kd.R_drew)); exact Kd.R_mono HO_5.out (fun _ hk => trivial)⟩, ⟨bl_ HB⟩⟩
        ·replace c29 := Bool.eq_false_iff.mpr c29
         subst c29
         have H1 : (laws_FnExactReadMoves.j1 kj4 t192 t191 true) = some r := by rw [if_neg (show ¬ (false = true) by decide)] at H; exact H
         clear H
         have H := H1
         clear H1
         have H' := Aside0.mk H
         clear H
         obtain ⟨Ao33, co33, eo33⟩ := Kd.R_slice HO197.out
         subst eo33
         obtain ⟨Ao34, co34, eo34⟩ := Kd.R_slice HO_3.out
         subst eo34
         go_wp2_with (first | ((with_reducible refine gate_callee (f := 12) rfl ?_); refine goesL_ (some 51) rfl rfl Tryd.func12 (by kernel_rfl) rfl #[.slice Ao33 t194.length co33, .slice Ao34 t182.length co34] rfl arg_ ?_; (with_reducible refine (laws_eqMoveS.calls kj4 _ _ t194 _ _ t182 false _ ?side1 ?side2 ?side3 ?side4 A28.out).mono ?_); (case side1 => repeat (first | exact (Kd.R_reads' HO197.out).2.2 | (with_reducible refine Kd.C_alloc ?_ _) | (with_reducible refine Kd.C_drewN ?_ _) | (with_reducible refine Kd.C_drew ?_))); (case side2 => exact (Kd.R_reads' HO197.out).2.1); (case side3 => repeat (first | exact (Kd.R_reads' HO_3.out).2.2 | (with_reducible refine Kd.C_alloc ?_ _) | (with_reducible refine Kd.C_drewN ?_ _) | (with_reducible refine Kd.C_drew ?_))); (case side4 => exact (Kd.R_reads' HO_3.out).2.1); rintro e w35 ⟨rfl, hb⟩; refine ⟨_, rfl, ?_⟩; have n0_ := A_ (Kd.R_below (pr_ HO_3) hb); have n1_ := A_ (Kd.R_below (pr_ HO_5) hb); have n2_ := A_ (Kd.R_below (pr_ HO197) hb); have n3_ := A_ (below_step (bl_ HB) hb); clear HO_3; clear HO_5; clear HO197; clear HB; have HO_3 := n0_; have HO_5 := n1_; have HO197 := n2_; have HB := n3_; clear n0_ n1_ n2_ n3_; (try clear hb); (try clear hb2); (try clear hk); (try clear hi)))
         go_meet
         case rel => exact ⟨_, (true), rs_, H', ⟨by have := HJ4.out; first | omega | exact Nat.le_refl _⟩, ⟨by (with_reducible repeat (first | apply Kd.R_alloc | apply Kd.R_drewN | apply Kd.R_drew)); exact Kd.R_mono HO_5.out (fun _ hk => trivial)⟩, ⟨bl_ HB⟩⟩
       case rest =>
        clear HC24
        try clear c1
        try clear c2
        try clear c2b0
        try clear c2b1
        try clear p2
        try clear c4
        try clear c9
        try clear c10
        try clear c11
        try clear c12
        try clear c13
        try clear c14
        try clear c16
        try clear c19
        try clear c19b0
        try clear c22
        try clear c22b0
        try clear c22b1
        try clear c29
        try clear p2
        obtain ⟨kq, x57_23, rfl, HA, HJ23, HO_5, HB⟩ := hcut
        have hl5_23 := (Kd.R_reads' HO_5.out).1
        rw [hl5_23] at HO_5
        (try simp only [hl5_23])
        cases kq with
        | zero => exact absurd HA.out (by simp [laws_FnExactReadMoves.j1])
        | succ kj23 =>
         have H := HA.out
         clear HA
         simp only [laws_FnExactReadMoves.j1] at H
         by_cases c36 : x57_23 = true
         ·subst c36
          have H1 : (some false) = some r := by rw [if_pos rfl] at H; exact H
          clear H
          have H := H1
          clear H1
          obtain rfl := Option.some.inj H
          go_wp2
          go_ret
          exact ⟨by first | rfl | (simp [errW_none, errW_some] <;> rfl) | (simp [*, errW_none, errW_some] <;> rfl), bl_ HB⟩
         ·replace c36 := Bool.eq_false_iff.mpr c36
          subst c36
          have H1 : ((laws_heldMoveS.f kj23 t192 1).bind fun t199 => (if t199 < 0 then (some false) else (if t199 = t191 then (some true) else (some false)))) = some r := by rw [if_neg (show ¬ (false = true) by decide)] at H; exact H
          clear H
          have H := H1
          clear H1
          replace H := Option.bind_eq_some_iff.mp H
          obtain ⟨t199, A370, H⟩ := H
          replace H : (if t199 < 0 then (some false) else (if t199 = t191 then (some true) else (some false))) = some r := H
          have A37 := Aside0.mk A370
          clear A370
          by_cases c38 : t199 < 0
          ·rw [if_pos c38] at H
           have c38b0 : decide (t199 < 0) = true := decide_eq_true c38
           clear c38
           obtain rfl := Option.some.inj H
           go_wp2_with (first | ((with_reducible refine gate_callee (f := 14) rfl ?_); refine goesL_ (some 60) rfl rfl Tryd.func14 (by kernel_rfl) rfl #[.slice Ao25 t192.length co25, .int .i64 1] rfl arg_ ?_; (with_reducible refine (laws_heldMoveS.calls kj23 _ _ t192 1 t199 _ ?side1 ?side2 A37.out).mono ?_); (case side1 => repeat (first | exact (Kd.R_reads' HO_5.out).2.2 | (with_reducible refine Kd.C_alloc ?_ _) | (with_reducible refine Kd.C_drewN ?_ _) | (with_reducible refine Kd.C_drew ?_))); (case side2 => exact (Kd.R_reads' HO_5.out).2.1); rintro e w' ⟨rfl, ⟨nd, rfl⟩⟩; refine ⟨_, rfl, ?_⟩))
           go_ret
           exact ⟨by first | rfl | (simp [errW_none, errW_some] <;> rfl) | (simp [*, errW_none, errW_some] <;> rfl), bl_ HB⟩
          ·rw [if_neg c38] at H
           have c38b0 : decide (t199 < 0) = false := decide_eq_false c38
           clear c38
           by_cases c39 : t199 = t191
           ·rw [if_pos c39] at H
            have c39b0 : (t199 == t191) = true := beq_iff_eq.mpr c39
            have c39b1 : (t199 != t191) = false := bne_eq_false_iff_eq.mpr c39
            clear c39
            obtain rfl := Option.some.inj H
            go_wp2_with (first | ((with_reducible refine gate_callee (f := 14) rfl ?_); refine goesL_ (some 60) rfl rfl Tryd.func14 (by kernel_rfl) rfl #[.slice Ao25 t192.length co25, .int .i64 1] rfl arg_ ?_; (with_reducible refine (laws_heldMoveS.calls kj23 _ _ t192 1 t199 _ ?side1 ?side2 A37.out).mono ?_); (case side1 => repeat (first | exact (Kd.R_reads' HO_5.out).2.2 | (with_reducible refine Kd.C_alloc ?_ _) | (with_reducible refine Kd.C_drewN ?_ _) | (with_reducible refine Kd.C_drew ?_))); (case side2 => exact (Kd.R_reads' HO_5.out).2.1); rintro e w' ⟨rfl, ⟨nd, rfl⟩⟩; refine ⟨_, rfl, ?_⟩))
            go_ret
            exact ⟨by first | rfl | (simp [errW_none, errW_some] <;> rfl) | (simp [*, errW_none, errW_some] <;> rfl), bl_ HB⟩
           ·rw [if_neg c39] at H
            have c39b0 : (t199 == t191) = false := beq_eq_false_iff_ne.mpr c39
            have c39b1 : (t199 != t191) = true := bne_iff_ne.mpr c39
            obtain rfl := Option.some.inj H
            go_wp2_with (first | ((with_reducible refine gate_callee (f := 14) rfl ?_); refine goesL_ (some 60) rfl rfl Tryd.func14 (by kernel_rfl) rfl #[.slice Ao25 t192.length co25, .int .i64 1] rfl arg_ ?_; (with_reducible refine (laws_heldMoveS.calls kj23 _ _ t192 1 t199 _ ?side1 ?side2 A37.out).mono ?_); (case side1 => repeat (first | exact (Kd.R_reads' HO_5.out).2.2 | (with_reducible refine Kd.C_alloc ?_ _) | (with_reducible refine Kd.C_drewN ?_ _) | (with_reducible refine Kd.C_drew ?_))); (case side2 => exact (Kd.R_reads' HO_5.out).2.1); rintro e w' ⟨rfl, ⟨nd, rfl⟩⟩; refine ⟨_, rfl, ?_⟩))
            go_ret
            exact ⟨by first | rfl | (simp [errW_none, errW_some] <;> rfl) | (simp [*, errW_none, errW_some] <;> rfl), bl_ HB⟩
      ·rw [if_neg c22] at H
       have c22b0 : (t193 == t191) = false := beq_eq_false_iff_ne.mpr c22
       have c22b1 : (t193 != t191) = true := bne_iff_ne.mpr c22
       obtain rfl := Option.some.inj H
       obtain ⟨Ao40, co40, eo40⟩ := Kd.R_slice HO_5.out
       subst eo40
       go_wp2_with (first | ((with_reducible refine gate_callee (f := 13) rfl ?_); refine goesL_ (some 35) rfl rfl Tryd.func13 (by kernel_rfl) rfl #[.slice Ao40 t186.length co40, .int .i64 1] rfl arg_ ?_; (with_reducible refine (laws_markMoveS.calls kj4 (fun k_ => some k_ = (.slice Ao40 t186.length co40 : Value).ownBlock) (.slice Ao40 t186.length co40) t186 1 t191 t192 w _ ?side1 ?side2 A17.out).mono ?_); (case side1 => repeat (first | (with_reducible first | exact HB.out | apply below_alloc | apply pw_below_drewN | apply below_drew1) | exact HB.out)); (case side2 => exact Kd.R_tight rfl HO_5.out); rintro e w41 ⟨rfl, hy0, hb, hkp⟩; refine ⟨_, rfl, ?_⟩; have n0_ := A_ (Kd.R_mono (ok' := fun k_ => some k_ ≠ (.slice Ao40 t186.length co40 : Value).ownBlock) (Kd.R_keptB (HO_3.out) hkp (fun k_ hk_ hs_ => (hk_) hs_)) (fun k_ hk_ => hk_.1)); have n1_ := A_ (Kd.R_reok rfl hy0 (fun k_ e_ => HO_5.out.1 k_ e_)); have n2_ := A_ (hb); clear HO_3; clear HO_5; clear HB; have HO_3 := n0_; have HO_5 := n1_; have HB := n2_; clear n0_ n1_ n2_; (try clear hb); (try clear hkp); (try clear hy0)) | ((with_reducible refine gate_callee (f := 14) rfl ?_); refine goesL_ (some 38) rfl rfl Tryd.func14 (by kernel_rfl) rfl #[.slice Ao40 t192.length co40, .int .i64 1] rfl (by (try simp only [List.map_toArray, List.map_cons, List.map_nil]); first | done | (rw [show t192.length = t186.length from (Kd.R_reads' HO_5.out).1.symm] <;> rfl) | rfl | (simp only [List.length_drop, List.length_take]; rfl)) ?_; (with_reducible refine (laws_heldMoveS.calls kj4 _ _ t192 1 t193 _ ?side1 ?side2 A18.out).mono ?_); (case side1 => repeat (first | exact (Kd.R_reads' HO_5.out).2.2 | (with_reducible refine Kd.C_alloc ?_ _) | (with_reducible refine Kd.C_drewN ?_ _) | (with_reducible refine Kd.C_drew ?_))); (case side2 => rw [show t192.length = t186.length from (Kd.R_reads' HO_5.out).1.symm]; exact (Kd.R_reads' HO_5.out).2.1); rintro e w' ⟨rfl, ⟨nd, rfl⟩⟩; refine ⟨_, rfl, ?_⟩))
       go_ret
       exact ⟨by first | rfl | (simp [errW_none, errW_some] <;> rfl) | (simp [*, errW_none, errW_some] <;> rfl), bl_ HB⟩

/-- THE ONE PURE STATEMENT of laws_FnExactReadMoves: yours. -/
def laws_FnExactReadMoves.Pure : Prop := ∀ (a0 : ByteArray), a0.size ≤ 140737488351232 → ∃ k, laws_FnExactReadMoves.f k a0 = some true
theorem laws_FnExactReadMoves.walk (P : laws_FnExactReadMoves.Pure) (a0 : ByteArray) (w : World) (hM : HasM w) (w0 : a0.size ≤ 140737488351232) :
  Calls Tryd.prog 4 #[.string a0] w fun e w' => e = .returned (.bool true) ∧ Below w.heap.size w w' := by
 obtain ⟨k, h⟩ := P a0 w0
 refine (laws_FnExactReadMoves.calls k a0 true w hM h).mono ?_
 rintro e w' ⟨rfl, hd⟩
 exact ⟨rfl, hd⟩

end Go.Proofs.YtodmfjophjhbeaaDoor.M
