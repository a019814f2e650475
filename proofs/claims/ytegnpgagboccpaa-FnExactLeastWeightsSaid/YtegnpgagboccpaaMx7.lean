-- By this seat's own program over the kit's printer (arrays, functions told by hand); nothing of it is trusted: the kernel checks it.
import Derived.Test.YtegnpgagboccpaaMx0
import Derived.Test.YtegnpgagboccpaaMx2
import Derived.Test.YtegnpgagboccpaaMx5
import Derived.Test.YtegnpgagboccpaaMx6
namespace Go.Proofs.Ytegnpgagboccpaa.M
open Go.RowKit Go.Proofs.YtegnpgagboccpaaW.PrintWords Go.Proofs.YtegnpgagboccpaaW.PrintLast Go.Proofs.YtegnpgagboccpaaW.PrintMore
attribute [local go_sem] max2_int min2_int max_two min_two max_three min_three max_four min_four   -- for this text's walks alone
set_option linter.unusedVariables false
set_option linter.unusedSimpArgs false

/-! ### laws_FnExactLeastWeights: function 3 -/
mutual
def laws_FnExactLeastWeights.j0 : Nat → Int → Bool → List Int → Int → List Int → Bool → Option (Bool)
 | 0, _, _, _, _, _, _ => none
 | k + 1, x0, x1, x5, x6, x7, x33 => if x33 = true then (some false) else ((laws_markWeights.f k x7 1).bind fun bt201 => ((laws_heldWeights.f k bt201.2 1).bind fun t203 => (if t203 < 0 then (some false) else (if t203 = bt201.1 then ((impl_LeastWeights.f k x0 x1).bind fun bt204 => ((laws_eqWeights.f k bt204.1 x5).bind fun t208 => (if t208 = true then (laws_FnExactLeastWeights.j1 k bt201.2 bt201.1 (bt204.2 != x6)) else (laws_FnExactLeastWeights.j1 k bt201.2 bt201.1 true)))) else (some false)))))
def laws_FnExactLeastWeights.j1 : Nat → List Int → Int → Bool → Option (Bool)
 | 0, _, _, _ => none
 | k + 1, x7, x9, x59 => if x59 = true then (some false) else ((laws_heldWeights.f k x7 1).bind fun t209 => (if t209 < 0 then (some false) else (if t209 = x9 then (some true) else (some false))))
end
def laws_FnExactLeastWeights.f (k : Nat) (a0 : Int) (a1 : Bool) : Option (Bool) := (spec_LeastWeights.f k a0 a1).bind fun bt192 => ((impl_LeastWeights.f k a0 a1).bind fun bt196 => ((laws_eqWeights.f k bt196.1 bt192.1).bind fun t200 => (if t200 = true then (laws_FnExactLeastWeights.j0 k a0 a1 bt192.1 bt192.2 bt196.1 (bt196.2 != bt192.2)) else (laws_FnExactLeastWeights.j0 k a0 a1 bt192.1 bt192.2 bt196.1 true))))
theorem laws_FnExactLeastWeights.mono_l : ∀ k, (∀ y0 y1 y2 y3 y4 y5, LeO (laws_FnExactLeastWeights.j0 k y0 y1 y2 y3 y4 y5) (laws_FnExactLeastWeights.j0 (k + 1) y0 y1 y2 y3 y4 y5)) ∧ (∀ y0 y1 y2, LeO (laws_FnExactLeastWeights.j1 k y0 y1 y2) (laws_FnExactLeastWeights.j1 (k + 1) y0 y1 y2))
 | 0 => ⟨fun _ _ _ _ _ _ r h => by simp [laws_FnExactLeastWeights.j0] at h, fun _ _ _ r h => by simp [laws_FnExactLeastWeights.j1] at h⟩
 | k + 1 => by
  obtain ⟨ih0, ih1⟩ := laws_FnExactLeastWeights.mono_l k
  refine ⟨?_, ?_⟩
  ·intro y0 y1 y2 y3 y4 y5
   unfold laws_FnExactLeastWeights.j0
   repeat' first
   | (with_reducible exact ih0 _ _ _ _ _ _)
   | (with_reducible exact ih1 _ _ _)
   | (with_reducible exact impl_LeastWeights.mono _ _ _)
   | (with_reducible exact laws_eqWeights.mono _ _ _)
   | (with_reducible exact laws_heldWeights.mono _ _ _)
   | (with_reducible exact laws_markWeights.mono _ _ _)
   | (with_reducible exact spec_LeastWeights.mono _ _ _)
   | (with_reducible exact LeO.refl _)
   | (with_reducible exact LeO.none _)
   | (with_reducible refine LeO.ite ?_ ?_)
   | (with_reducible refine LeO.bind ?_ (fun _ => ?_))
   | exact ih0 _ _ _ _ _ _
   | exact ih1 _ _ _
   | exact impl_LeastWeights.mono _ _ _
   | exact laws_eqWeights.mono _ _ _
   | exact laws_heldWeights.mono _ _ _
   | exact laws_markWeights.mono _ _ _
   | exact spec_LeastWeights.mono _ _ _
   | exact LeO.none _
   | refine LeO.ite ?_ ?_
   | refine LeO.bind ?_ (fun _ => ?_)
  ·intro y0 y1 y2
   unfold laws_FnExactLeastWeights.j1
   repeat' first
   | (with_reducible exact ih0 _ _ _ _ _ _)
   | (with_reducible exact ih1 _ _ _)
   | (with_reducible exact impl_LeastWeights.mono _ _ _)
   | (with_reducible exact laws_eqWeights.mono _ _ _)
   | (with_reducible exact laws_heldWeights.mono _ _ _)
   | (with_reducible exact laws_markWeights.mono _ _ _)
   | (with_reducible exact spec_LeastWeights.mono _ _ _)
   | (with_reducible exact LeO.refl _)
   | (with_reducible exact LeO.none _)
   | (with_reducible refine LeO.ite ?_ ?_)
   | (with_reducible refine LeO.bind ?_ (fun _ => ?_))
   | exact ih0 _ _ _ _ _ _
   | exact ih1 _ _ _
   | exact impl_LeastWeights.mono _ _ _
   | exact laws_eqWeights.mono _ _ _
   | exact laws_heldWeights.mono _ _ _
   | exact laws_markWeights.mono _ _ _
   | exact spec_LeastWeights.mono _ _ _
   | exact LeO.none _
   | refine LeO.ite ?_ ?_
   | refine LeO.bind ?_ (fun _ => ?_)
theorem laws_FnExactLeastWeights.mono : ∀ a0 a1 k, LeO (laws_FnExactLeastWeights.f k a0 a1) (laws_FnExactLeastWeights.f (k + 1) a0 a1) := by
 intro a0 a1 k
 obtain ⟨ih0, ih1⟩ := laws_FnExactLeastWeights.mono_l k
 unfold laws_FnExactLeastWeights.f
 repeat' first
   | (with_reducible exact ih0 _ _ _ _ _ _)
   | (with_reducible exact ih1 _ _ _)
   | (with_reducible exact impl_LeastWeights.mono _ _ _)
   | (with_reducible exact laws_eqWeights.mono _ _ _)
   | (with_reducible exact laws_heldWeights.mono _ _ _)
   | (with_reducible exact laws_markWeights.mono _ _ _)
   | (with_reducible exact spec_LeastWeights.mono _ _ _)
   | (with_reducible exact LeO.refl _)
   | (with_reducible exact LeO.none _)
   | (with_reducible refine LeO.ite ?_ ?_)
   | (with_reducible refine LeO.bind ?_ (fun _ => ?_))
   | exact ih0 _ _ _ _ _ _
   | exact ih1 _ _ _
   | exact impl_LeastWeights.mono _ _ _
   | exact laws_eqWeights.mono _ _ _
   | exact laws_heldWeights.mono _ _ _
   | exact laws_markWeights.mono _ _ _
   | exact spec_LeastWeights.mono _ _ _
   | exact LeO.none _
   | refine LeO.ite ?_ ?_
   | refine LeO.bind ?_ (fun _ => ?_)
set_option maxHeartbeats 8000000 in
set_option maxRecDepth 100000 in
theorem laws_FnExactLeastWeights.calls (k : Nat) (a0 : Int) (a1 : Bool) (r : Bool) (w : World) (h : laws_FnExactLeastWeights.f k a0 a1 = some r) :
  Calls Try.prog 3 #[.int .i64 a0, .bool a1] w fun e w' => e = .returned (.bool r) ∧ Below w.heap.size w w' := by
 have HB := A_ (Below.refl w.heap.size w)
 have H : ((spec_LeastWeights.f k a0 a1).bind fun bt192 => ((impl_LeastWeights.f k a0 a1).bind fun bt196 => ((laws_eqWeights.f k bt196.1 bt192.1).bind fun t200 => (if t200 = true then (laws_FnExactLeastWeights.j0 k a0 a1 bt192.1 bt192.2 bt196.1 (bt196.2 != bt192.2)) else (laws_FnExactLeastWeights.j0 k a0 a1 bt192.1 bt192.2 bt196.1 true))))) = some r := h
 clear h
 replace H := Option.bind_eq_some_iff.mp H
 obtain ⟨⟨t192, t193⟩, A30, H⟩ := H
 replace H : ((impl_LeastWeights.f k a0 a1).bind fun bt196 => ((laws_eqWeights.f k bt196.1 t192).bind fun t200 => (if t200 = true then (laws_FnExactLeastWeights.j0 k a0 a1 t192 t193 bt196.1 (bt196.2 != t193)) else (laws_FnExactLeastWeights.j0 k a0 a1 t192 t193 bt196.1 true)))) = some r := H
 have A3 := Aside0.mk A30
 clear A30
 replace H := Option.bind_eq_some_iff.mp H
 obtain ⟨⟨t196, t197⟩, A40, H⟩ := H
 replace H : ((laws_eqWeights.f k t196 t192).bind fun t200 => (if t200 = true then (laws_FnExactLeastWeights.j0 k a0 a1 t192 t193 t196 (t197 != t193)) else (laws_FnExactLeastWeights.j0 k a0 a1 t192 t193 t196 true))) = some r := H
 have A4 := Aside0.mk A40
 clear A40
 have HC5 := Aside0.mk H
 clear H
 go_enter Try.func3, Try.ntmps3
 go_upto_region 3 with (first | ((with_reducible refine gate_callee (f := 6) rfl ?_); refine goesL_ (some 16) rfl rfl Try.func6 (by kernel_rfl) rfl #[.int .i64 a0, .bool a1] rfl arg_ ?_; (with_reducible refine (spec_LeastWeights.calls k a0 a1 t192 t193 _ A3.out).mono ?_); rintro e w6 ⟨v194, rfl, ho0, hb⟩; refine ⟨_, rfl, ?_⟩; have n0_ := A_ (Kd.R_lower ho0 (below_size (bl_ HB))); have n1_ := A_ (below_step (bl_ HB) hb); clear HB; have HO195 := n0_; have HB := n1_; clear n0_ n1_; (try clear hb); (try clear hb2); (try clear hk); (try clear hi); (try clear ho0)) | ((with_reducible refine gate_callee (f := 7) rfl ?_); refine goesL_ (some 22) rfl rfl Try.func7 (by kernel_rfl) rfl #[.int .i64 a0, .bool a1] rfl arg_ ?_; (with_reducible refine (impl_LeastWeights.calls k a0 a1 t196 t197 _ A4.out).mono ?_); rintro e w7 ⟨v198, rfl, ho0, hb⟩; refine ⟨_, rfl, ?_⟩; have n0_ := A_ (Kd.R_elder' (pr_ HO195) (Kd.R_base ho0) hb); have n1_ := A_ (Kd.R_lower (Kd.R_new' ho0 (Kd.R_lt (pr_ HO195))) (below_size (bl_ HB))); have n2_ := A_ (below_step (bl_ HB) hb); clear HO195; clear HB; have HO195 := n0_; have HO199 := n1_; have HB := n2_; clear n0_ n1_ n2_; (try clear hb); (try clear hb2); (try clear hk); (try clear hi); (try clear ho0)))
 (try simp only [Act.put, List.setIfInBounds_toArray, List.set_cons_zero, List.set_cons_succ])
 go_cut [33] (fun v33 wc => ∃ (kq : Nat) (x33_4 : Bool), v33 = .bool x33_4 ∧ Aside0 (laws_FnExactLeastWeights.j0 kq a0 a1 t192 t193 t196 x33_4 = some r) ∧ Aside0 (kq ≤ k) ∧ Aside0 (Kd.R (Kd.int .i16) 42 wc w.heap.size (fun k_ => some k_ ≠ (v198 : Value).ownBlock) v194 t192) ∧ Aside0 (Kd.R (Kd.int .i16) 42 wc w.heap.size (fun k_ => some k_ ≠ (v194 : Value).ownBlock) v198 t196) ∧ Aside0 (Below w.heap.size w wc))
 case first =>
  have H := HC5.out
  clear HC5
  replace H := Option.bind_eq_some_iff.mp H
  obtain ⟨t200, A80, H⟩ := H
  replace H : (if t200 = true then (laws_FnExactLeastWeights.j0 k a0 a1 t192 t193 t196 (t197 != t193)) else (laws_FnExactLeastWeights.j0 k a0 a1 t192 t193 t196 true)) = some r := H
  have A8 := Aside0.mk A80
  clear A80
  by_cases c9 : t200 = true
  ·subst c9
   have H1 : (laws_FnExactLeastWeights.j0 k a0 a1 t192 t193 t196 (t197 != t193)) = some r := by rw [if_pos rfl] at H; exact H
   clear H
   have H := H1
   clear H1
   have H' := Aside0.mk H
   clear H
   obtain ⟨Ao10, co10, eo10⟩ := Kd.R_slice HO199.out
   subst eo10
   obtain ⟨Ao11, co11, eo11⟩ := Kd.R_slice HO195.out
   subst eo11
   go_wp2_with (first | ((with_reducible refine gate_callee (f := 8) rfl ?_); refine goesL_ (some 27) rfl rfl Try.func8 (by kernel_rfl) rfl #[.slice Ao10 t196.length co10, .slice Ao11 t192.length co11] rfl arg_ ?_; (with_reducible refine (laws_eqWeights.calls k _ _ t196 _ _ t192 true _ ?side1 ?side2 ?side3 ?side4 A8.out).mono ?_); (case side1 => repeat (first | exact (Kd.R_reads' HO199.out).2.2 | (with_reducible refine Kd.C_alloc ?_ _) | (with_reducible refine Kd.C_drewN ?_ _) | (with_reducible refine Kd.C_drew ?_))); (case side2 => exact (Kd.R_reads' HO199.out).2.1); (case side3 => repeat (first | exact (Kd.R_reads' HO195.out).2.2 | (with_reducible refine Kd.C_alloc ?_ _) | (with_reducible refine Kd.C_drewN ?_ _) | (with_reducible refine Kd.C_drew ?_))); (case side4 => exact (Kd.R_reads' HO195.out).2.1); rintro e w' ⟨rfl, ⟨nd, rfl⟩⟩; refine ⟨_, rfl, ?_⟩))
   go_meet
   case rel => exact ⟨_, ((t197 != t193)), rs_, H', ⟨by first | omega | exact Nat.le_refl _⟩, ⟨by (with_reducible repeat (first | apply Kd.R_alloc | apply Kd.R_drewN | apply Kd.R_drew)); exact Kd.R_mono HO195.out (fun _ hk => hk.2)⟩, ⟨by (with_reducible repeat (first | apply Kd.R_alloc | apply Kd.R_drewN | apply Kd.R_drew)); exact Kd.R_mono HO199.out (fun _ hk => hk.2)⟩, ⟨bl_ HB⟩⟩
  ·replace c9 := Bool.eq_false_iff.mpr c9
   subst c9
   have H1 : (laws_FnExactLeastWeights.j0 k a0 a1 t192 t193 t196 true) = some r := by rw [if_neg (show ¬ (false = true) by decide)] at H; exact H
   clear H
   have H := H1
   clear H1
   have H' := Aside0.mk H
   clear H
   obtain ⟨Ao12, co12, eo12⟩ := Kd.R_slice HO199.out
   subst eo12
   obtain ⟨Ao13, co13, eo13⟩ := Kd.R_slice HO195.out
   subst eo13
   go_wp2_with (first | ((with_reducible refine gate_callee (f := 8) rfl ?_); refine goesL_ (some 27) rfl rfl Try.func8 (by kernel_rfl) rfl #[.slice Ao12 t196.length co12, .slice Ao13 t192.length co13] rfl arg_ ?_; (with_reducible refine (laws_eqWeights.calls k _ _ t196 _ _ t192 false _ ?side1 ?side2 ?side3 ?side4 A8.out).mono ?_); (case side1 => repeat (first | exact (Kd.R_reads' HO199.out).2.2 | (with_reducible refine Kd.C_alloc ?_ _) | (with_reducible refine Kd.C_drewN ?_ _) | (with_reducible refine Kd.C_drew ?_))); (case side2 => exact (Kd.R_reads' HO199.out).2.1); (case side3 => repeat (first | exact (Kd.R_reads' HO195.out).2.2 | (with_reducible refine Kd.C_alloc ?_ _) | (with_reducible refine Kd.C_drewN ?_ _) | (with_reducible refine Kd.C_drew ?_))); (case side4 => exact (Kd.R_reads' HO195.out).2.1); rintro e w' ⟨rfl, ⟨nd, rfl⟩⟩; refine ⟨_, rfl, ?_⟩))
   go_meet
   case rel => exact ⟨_, (true), rs_, H', ⟨by first | omega | exact Nat.le_refl _⟩, ⟨by (with_reducible repeat (first | apply Kd.R_alloc | apply Kd.R_drewN | apply Kd.R_drew)); exact Kd.R_mono HO195.out (fun _ hk => hk.2)⟩, ⟨by (with_reducible repeat (first | apply Kd.R_alloc | apply Kd.R_drewN | apply Kd.R_drew)); exact Kd.R_mono HO199.out (fun _ hk => hk.2)⟩, ⟨bl_ HB⟩⟩
 case rest =>
  clear HC5
  try clear p2
  try clear c3
  try clear c6
  try clear c7
  try clear c8
  try clear c9
  obtain ⟨kq, x33_4, rfl, HA, HJ4, HO_5, HO_7, HB⟩ := hcut
  cases kq with
  | zero => exact absurd HA.out (by simp [laws_FnExactLeastWeights.j0])
  | succ kj4 =>
   have H := HA.out
   clear HA
   simp only [laws_FnExactLeastWeights.j0] at H
   by_cases c14 : x33_4 = true
   ·subst c14
    have H1 : (some false) = some r := by rw [if_pos rfl] at H; exact H
    clear H
    have H := H1
    clear H1
    obtain rfl := Option.some.inj H
    go_wp2
    go_ret
    exact ⟨by first | rfl | (simp [errW_none, errW_some] <;> rfl) | (simp [*, errW_none, errW_some] <;> rfl), bl_ HB⟩
   ·replace c14 := Bool.eq_false_iff.mpr c14
    subst c14
    have H1 : ((laws_markWeights.f kj4 t196 1).bind fun bt201 => ((laws_heldWeights.f kj4 bt201.2 1).bind fun t203 => (if t203 < 0 then (some false) else (if t203 = bt201.1 then ((impl_LeastWeights.f kj4 a0 a1).bind fun bt204 => ((laws_eqWeights.f kj4 bt204.1 t192).bind fun t208 => (if t208 = true then (laws_FnExactLeastWeights.j1 kj4 bt201.2 bt201.1 (bt204.2 != t193)) else (laws_FnExactLeastWeights.j1 kj4 bt201.2 bt201.1 true)))) else (some false))))) = some r := by rw [if_neg (show ¬ (false = true) by decide)] at H; exact H
    clear H
    have H := H1
    clear H1
    replace H := Option.bind_eq_some_iff.mp H
    obtain ⟨⟨t201, t202⟩, A150, H⟩ := H
    replace H : ((laws_heldWeights.f kj4 t202 1).bind fun t203 => (if t203 < 0 then (some false) else (if t203 = t201 then ((impl_LeastWeights.f kj4 a0 a1).bind fun bt204 => ((laws_eqWeights.f kj4 bt204.1 t192).bind fun t208 => (if t208 = true then (laws_FnExactLeastWeights.j1 kj4 t202 t201 (bt204.2 != t193)) else (laws_FnExactLeastWeights.j1 kj4 t202 t201 true)))) else (some false)))) = some r := H
    have A15 := Aside0.mk A150
    clear A150
    replace H := Option.bind_eq_some_iff.mp H
    obtain ⟨t203, A160, H⟩ := H
    replace H : (if t203 < 0 then (some false) else (if t203 = t201 then ((impl_LeastWeights.f kj4 a0 a1).bind fun bt204 => ((laws_eqWeights.f kj4 bt204.1 t192).bind fun t208 => (if t208 = true then (laws_FnExactLeastWeights.j1 kj4 t202 t201 (bt204.2 != t193)) else (laws_FnExactLeastWeights.j1 kj4 t202 t201 true)))) else (some false))) = some r := H
    have A16 := Aside0.mk A160
    clear A160
    by_cases c17 : t203 < 0
    ·rw [if_pos c17] at H
     have c17b0 : decide (t203 < 0) = true := decide_eq_true c17
     clear c17
     obtain rfl := Option.some.inj H
     obtain ⟨Ao18, co18, eo18⟩ := Kd.R_slice HO_7.out
     subst eo18
     go_wp2_with (first | ((with_reducible refine gate_callee (f := 9) rfl ?_); refine goesL_ (some 36) rfl rfl Try.func9 (by kernel_rfl) rfl #[.slice Ao18 t196.length co18, .int .i64 1] rfl arg_ ?_; (with_reducible refine (laws_markWeights.calls kj4 (fun k_ => some k_ = (.slice Ao18 t196.length co18 : Value).ownBlock) (.slice Ao18 t196.length co18) t196 1 t201 t202 w _ ?side1 ?side2 A15.out).mono ?_); (case side1 => repeat (first | (with_reducible first | exact HB.out | apply below_alloc | apply pw_below_drewN | apply below_drew1) | exact HB.out)); (case side2 => exact Kd.R_tight rfl HO_7.out); rintro e w19 ⟨rfl, hy0, hb, hkp⟩; refine ⟨_, rfl, ?_⟩; have n0_ := A_ (Kd.R_mono (ok' := fun k_ => some k_ ≠ (.slice Ao18 t196.length co18 : Value).ownBlock) (Kd.R_keptB (HO_5.out) hkp (fun k_ hk_ hs_ => (hk_) hs_)) (fun k_ hk_ => hk_.1)); have n1_ := A_ (Kd.R_reok rfl hy0 (fun k_ e_ => HO_7.out.1 k_ e_)); have n2_ := A_ (hb); clear HO_5; clear HO_7; clear HB; have HO_5 := n0_; have HO_7 := n1_; have HB := n2_; clear n0_ n1_ n2_; (try clear hb); (try clear hkp); (try clear hy0)) | ((with_reducible refine gate_callee (f := 10) rfl ?_); refine goesL_ (some 39) rfl rfl Try.func10 (by kernel_rfl) rfl #[.slice Ao18 t202.length co18, .int .i64 1] rfl (by (try simp only [List.map_toArray, List.map_cons, List.map_nil]); first | done | (rw [show t202.length = t196.length from (Kd.R_reads' HO_7.out).1.symm] <;> rfl) | rfl | (simp only [List.length_drop, List.length_take]; rfl)) ?_; (with_reducible refine (laws_heldWeights.calls kj4 _ _ t202 1 t203 _ ?side1 ?side2 A16.out).mono ?_); (case side1 => repeat (first | exact (Kd.R_reads' HO_7.out).2.2 | (with_reducible refine Kd.C_alloc ?_ _) | (with_reducible refine Kd.C_drewN ?_ _) | (with_reducible refine Kd.C_drew ?_))); (case side2 => rw [show t202.length = t196.length from (Kd.R_reads' HO_7.out).1.symm]; exact (Kd.R_reads' HO_7.out).2.1); rintro e w' ⟨rfl, ⟨nd, rfl⟩⟩; refine ⟨_, rfl, ?_⟩))
     go_ret
     exact ⟨by first | rfl | (simp [errW_none, errW_some] <;> rfl) | (simp [*, errW_none, errW_some] <;> rfl), bl_ HB⟩
    ·rw [if_neg c17] at H
     have c17b0 : decide (t203 < 0) = false := decide_eq_false c17
     clear c17
     by_cases c20 : t203 = t201
     ·rw [if_pos c20] at H
      have c20b0 : (t203 == t201) = true := beq_iff_eq.mpr c20
      have c20b1 : (t203 != t201) = false := bne_eq_false_iff_eq.mpr c20
      clear c20
      replace H := Option.bind_eq_some_iff.mp H
      obtain ⟨⟨t204, t205⟩, A210, H⟩ := H
      replace H : ((laws_eqWeights.f kj4 t204 t192).bind fun t208 => (if t208 = true then (laws_FnExactLeastWeights.j1 kj4 t202 t201 (t205 != t193)) else (laws_FnExactLeastWeights.j1 kj4 t202 t201 true))) = some r := H
      have A21 := Aside0.mk A210
      clear A210
      have HC22 := Aside0.mk H
      clear H
      obtain ⟨Ao23, co23, eo23⟩ := Kd.R_slice HO_7.out
      subst eo23
      go_upto_region 14 with (first | ((with_reducible refine gate_callee (f := 9) rfl ?_); refine goesL_ (some 36) rfl rfl Try.func9 (by kernel_rfl) rfl #[.slice Ao23 t196.length co23, .int .i64 1] rfl arg_ ?_; (with_reducible refine (laws_markWeights.calls kj4 (fun k_ => some k_ = (.slice Ao23 t196.length co23 : Value).ownBlock) (.slice Ao23 t196.length co23) t196 1 t201 t202 w _ ?side1 ?side2 A15.out).mono ?_); (case side1 => repeat (first | (with_reducible first | exact HB.out | apply below_alloc | apply pw_below_drewN | apply below_drew1) | exact HB.out)); (case side2 => exact Kd.R_tight rfl HO_7.out); rintro e w24 ⟨rfl, hy0, hb, hkp⟩; refine ⟨_, rfl, ?_⟩; have n0_ := A_ (Kd.R_mono (ok' := fun k_ => some k_ ≠ (.slice Ao23 t196.length co23 : Value).ownBlock) (Kd.R_keptB (HO_5.out) hkp (fun k_ hk_ hs_ => (hk_) hs_)) (fun k_ hk_ => hk_.1)); have n1_ := A_ (Kd.R_reok rfl hy0 (fun k_ e_ => HO_7.out.1 k_ e_)); have n2_ := A_ (hb); clear HO_5; clear HO_7; clear HB; have HO_5 := n0_; have HO_7 := n1_; have HB := n2_; clear n0_ n1_ n2_; (try clear hb); (try clear hkp); (try clear hy0)) | ((with_reducible refine gate_callee (f := 10) rfl ?_); refine goesL_ (some 39) rfl rfl Try.func10 (by kernel_rfl) rfl #[.slice Ao23 t202.length co23, .int .i64 1] rfl (by (try simp only [List.map_toArray, List.map_cons, List.map_nil]); first | done | (rw [show t202.length = t196.length from (Kd.R_reads' HO_7.out).1.symm] <;> rfl) | rfl | (simp only [List.length_drop, List.length_take]; rfl)) ?_; (with_reducible refine (laws_heldWeights.calls kj4 _ _ t202 1 t203 _ ?side1 ?side2 A16.out).mono ?_); (case side1 => repeat (first | exact (Kd.R_reads' HO_7.out).2.2 | (with_reducible refine Kd.C_alloc ?_ _) | (with_reducible refine Kd.C_drewN ?_ _) | (with_reducible refine Kd.C_drew ?_))); (case side2 => rw [show t202.length = t196.length from (Kd.R_reads' HO_7.out).1.symm]; exact (Kd.R_reads' HO_7.out).2.1); rintro e w' ⟨rfl, ⟨nd, rfl⟩⟩; refine ⟨_, rfl, ?_⟩) | ((with_reducible refine gate_callee (f := 7) rfl ?_); refine goesL_ (some 48) rfl rfl Try.func7 (by kernel_rfl) rfl #[.int .i64 a0, .bool a1] rfl arg_ ?_; (with_reducible refine (impl_LeastWeights.calls kj4 a0 a1 t204 t205 _ A21.out).mono ?_); rintro e w25 ⟨v206, rfl, ho0, hb⟩; refine ⟨_, rfl, ?_⟩; have n0_ := A_ (Kd.R_elder' (pr_ HO_5) (Kd.R_base ho0) hb); have n1_ := A_ (Kd.R_elder' (pr_ HO_7) (Kd.R_base ho0) hb); have n2_ := A_ (Kd.R_lower (Kd.R_new' (Kd.R_new' ho0 (Kd.R_lt (pr_ HO_5))) (Kd.R_lt (pr_ HO_7))) (below_size (bl_ HB))); have n3_ := A_ (below_step (bl_ HB) hb); clear HO_5; clear HO_7; clear HB; have HO_5 := n0_; have HO_7 := n1_; have HO207 := n2_; have HB := n3_; clear n0_ n1_ n2_ n3_; (try clear hb); (try clear hb2); (try clear hk); (try clear hi); (try clear ho0)))
      (try simp only [Act.put, List.setIfInBounds_toArray, List.set_cons_zero, List.set_cons_succ])
      go_cut [59] (fun v59 wc => ∃ (kq : Nat) (x59_21 : Bool), v59 = .bool x59_21 ∧ Aside0 (laws_FnExactLeastWeights.j1 kq t202 t201 x59_21 = some r) ∧ Aside0 (kq ≤ kj4) ∧ Aside0 (Kd.R (Kd.int .i16) 42 wc w.heap.size (fun _ => True) (.slice Ao23 t196.length co23) t202) ∧ Aside0 (Below w.heap.size w wc))
      case first =>
       have H := HC22.out
       clear HC22
       replace H := Option.bind_eq_some_iff.mp H
       obtain ⟨t208, A260, H⟩ := H
       replace H : (if t208 = true then (laws_FnExactLeastWeights.j1 kj4 t202 t201 (t205 != t193)) else (laws_FnExactLeastWeights.j1 kj4 t202 t201 true)) = some r := H
       have A26 := Aside0.mk A260
       clear A260
       by_cases c27 : t208 = true
       ·subst c27
        have H1 : (laws_FnExactLeastWeights.j1 kj4 t202 t201 (t205 != t193)) = some r := by rw [if_pos rfl] at H; exact H
        clear H
        have H := H1
        clear H1
        have H' := Aside0.mk H
        clear H
        obtain ⟨Ao28, co28, eo28⟩ := Kd.R_slice HO207.out
        subst eo28
        obtain ⟨Ao29, co29, eo29⟩ := Kd.R_slice HO_5.out
        subst eo29
        go_wp2_with (first | ((with_reducible refine gate_callee (f := 8) rfl ?_); refine goesL_ (some 53) rfl rfl Try.func8 (by kernel_rfl) rfl #[.slice Ao28 t204.length co28, .slice Ao29 t192.length co29] rfl arg_ ?_; (with_reducible refine (laws_eqWeights.calls kj4 _ _ t204 _ _ t192 true _ ?side1 ?side2 ?side3 ?side4 A26.out).mono ?_); (case side1 => repeat (first | exact (Kd.R_reads' HO207.out).2.2 | (with_reducible refine Kd.C_alloc ?_ _) | (with_reducible refine Kd.C_drewN ?_ _) | (with_reducible refine Kd.C_drew ?_))); (case side2 => exact (Kd.R_reads' HO207.out).2.1); (case side3 => repeat (first | exact (Kd.R_reads' HO_5.out).2.2 | (with_reducible refine Kd.C_alloc ?_ _) | (with_reducible refine Kd.C_drewN ?_ _) | (with_reducible refine Kd.C_drew ?_))); (case side4 => exact (Kd.R_reads' HO_5.out).2.1); rintro e w' ⟨rfl, ⟨nd, rfl⟩⟩; refine ⟨_, rfl, ?_⟩))
        go_meet
        case rel => exact ⟨_, ((t205 != t193)), rs_, H', ⟨by have := HJ4.out; first | omega | exact Nat.le_refl _⟩, ⟨by (with_reducible repeat (first | apply Kd.R_alloc | apply Kd.R_drewN | apply Kd.R_drew)); exact Kd.R_mono HO_7.out (fun _ hk => trivial)⟩, ⟨bl_ HB⟩⟩
       ·replace c27 := Bool.eq_false_iff.mpr c27
        subst c27
        have H1 : (laws_FnExactLeastWeights.j1 kj4 t202 t201 true) = some r := by rw [if_neg (show ¬ (false = true) by decide)] at H; exact H
        clear H
        have H := H1
        clear H1
        have H' := Aside0.mk H
        clear H
        obtain ⟨Ao30, co30, eo30⟩ := Kd.R_slice HO207.out
        subst eo30
        obtain ⟨Ao31, co31, eo31⟩ := Kd.R_slice HO_5.out
        subst eo31
        go_wp2_with (first | ((with_reducible refine gate_callee (f := 8) rfl ?_); refine goesL_ (some 53) rfl rfl Try.func8 (by kernel_rfl) rfl #[.slice Ao30 t204.length co30, .slice Ao31 t192.length co31] rfl arg_ ?_; (with_reducible refine (laws_eqWeights.calls kj4 _ _ t204 _ _ t192 false _ ?side1 ?side2 ?side3 ?side4 A26.out).mono ?_); (case side1 => repeat (first | exact (Kd.R_reads' HO207.out).2.2 | (with_reducible refine Kd.C_alloc ?_ _) | (with_reducible refine Kd.C_drewN ?_ _) | (with_reducible refine Kd.C_drew ?_))); (case side2 => exact (Kd.R_reads' HO207.out).2.1); (case side3 => repeat (first | exact (Kd.R_reads' HO_5.out).2.2 | (with_reducible refine Kd.C_alloc ?_ _) | (with_reducible refine Kd.C_drewN ?_ _) | (with_reducible refine Kd.C_drew ?_))); (case side4 => exact (Kd.R_reads' HO_5.out).2.1); rintro e w' ⟨rfl, ⟨nd, rfl⟩⟩; refine ⟨_, rfl, ?_⟩))
        go_meet
        case rel => exact ⟨_, (true), rs_, H', ⟨by have := HJ4.out; first | omega | exact Nat.le_refl _⟩, ⟨by (with_reducible repeat (first | apply Kd.R_alloc | apply Kd.R_drewN | apply Kd.R_drew)); exact Kd.R_mono HO_7.out (fun _ hk => trivial)⟩, ⟨bl_ HB⟩⟩
      case rest =>
       clear HC22
       try clear c1
       try clear c2
       try clear p2
       try clear c3
       try clear c6
       try clear c7
       try clear c8
       try clear c9
       try clear c10
       try clear c14
       try clear c17
       try clear c17b0
       try clear c20
       try clear c20b0
       try clear c20b1
       try clear c27
       try clear p2
       obtain ⟨kq, x59_21, rfl, HA, HJ21, HO_7, HB⟩ := hcut
       have hl7_21 := (Kd.R_reads' HO_7.out).1
       rw [hl7_21] at HO_7
       (try simp only [hl7_21])
       cases kq with
       | zero => exact absurd HA.out (by simp [laws_FnExactLeastWeights.j1])
       | succ kj21 =>
        have H := HA.out
        clear HA
        simp only [laws_FnExactLeastWeights.j1] at H
        by_cases c32 : x59_21 = true
        ·subst c32
         have H1 : (some false) = some r := by rw [if_pos rfl] at H; exact H
         clear H
         have H := H1
         clear H1
         obtain rfl := Option.some.inj H
         go_wp2
         go_ret
         exact ⟨by first | rfl | (simp [errW_none, errW_some] <;> rfl) | (simp [*, errW_none, errW_some] <;> rfl), bl_ HB⟩
        ·replace c32 := Bool.eq_false_iff.mpr c32
         subst c32
         have H1 : ((laws_heldWeights.f kj21 t202 1).bind fun t209 => (if t209 < 0 then (some false) else (if t209 = t201 then (some true) else (some false)))) = some r := by rw [if_neg (show ¬ (false = true) by decide)] at H; exact H
         clear H
         have H := H1
         clear H1
         replace H := Option.bind_eq_some_iff.mp H
         obtain ⟨t209, A330, H⟩ := H
         replace H : (if t209 < 0 then (some false) else (if t209 = t201 then (some true) else (some false))) = some r := H
         have A33 := Aside0.mk A330
         clear A330
         by_cases c34 : t209 < 0
         ·rw [if_pos c34] at H
          have c34b0 : decide (t209 < 0) = true := decide_eq_true c34
          clear c34
          obtain rfl := Option.some.inj H
          go_wp2_with (first | ((with_reducible refine gate_callee (f := 10) rfl ?_); refine goesL_ (some 62) rfl rfl Try.func10 (by kernel_rfl) rfl #[.slice Ao23 t202.length co23, .int .i64 1] rfl arg_ ?_; (with_reducible refine (laws_heldWeights.calls kj21 _ _ t202 1 t209 _ ?side1 ?side2 A33.out).mono ?_); (case side1 => repeat (first | exact (Kd.R_reads' HO_7.out).2.2 | (with_reducible refine Kd.C_alloc ?_ _) | (with_reducible refine Kd.C_drewN ?_ _) | (with_reducible refine Kd.C_drew ?_))); (case side2 => exact (Kd.R_reads' HO_7.out).2.1); rintro e w' ⟨rfl, ⟨nd, rfl⟩⟩; refine ⟨_, rfl, ?_⟩))
          go_ret
          exact ⟨by first | rfl | (simp [errW_none, errW_some] <;> rfl) | (simp [*, errW_none, errW_some] <;> rfl), bl_ HB⟩
         ·rw [if_neg c34] at H
          have c34b0 : decide (t209 < 0) = false := decide_eq_false c34
          clear c34
          by_cases c35 : t209 = t201
          ·rw [if_pos c35] at H
           have c35b0 : (t209 == t201) = true := beq_iff_eq.mpr c35
           have c35b1 : (t209 != t201) = false := bne_eq_false_iff_eq.mpr c35
           clear c35
           obtain rfl := Option.some.inj H
           go_wp2_with (first | ((with_reducible refine gate_callee (f := 10) rfl ?_); refine goesL_ (some 62) rfl rfl Try.func10 (by kernel_rfl) rfl #[.slice Ao23 t202.length co23, .int .i64 1] rfl arg_ ?_; (with_reducible refine (laws_heldWeights.calls kj21 _ _ t202 1 t209 _ ?side1 ?side2 A33.out).mono ?_); (case side1 => repeat (first | exact (Kd.R_reads' HO_7.out).2.2 | (with_reducible refine Kd.C_alloc ?_ _) | (with_reducible refine Kd.C_drewN ?_ _) | (with_reducible refine Kd.C_drew ?_))); (case side2 => exact (Kd.R_reads' HO_7.out).2.1); rintro e w' ⟨rfl, ⟨nd, rfl⟩⟩; refine ⟨_, rfl, ?_⟩))
           go_ret
           exact ⟨by first | rfl | (simp [errW_none, errW_some] <;> rfl) | (simp [*, errW_none, errW_some] <;> rfl), bl_ HB⟩
          ·rw [if_neg c35] at H
           have c35b0 : (t209 == t201) = false := beq_eq_false_iff_ne.mpr c35
           have c35b1 : (t209 != t201) = true := bne_iff_ne.mpr c35
           obtain rfl := Option.some.inj H
           go_wp2_with (first | ((with_reducible refine gate_callee (f := 10) rfl ?_); refine goesL_ (some 62) rfl rfl Try.func10 (by kernel_rfl) rfl #[.slice Ao23 t202.length co23, .int .i64 1] rfl arg_ ?_; (with_reducible refine (laws_heldWeights.calls kj21 _ _ t202 1 t209 _ ?side1 ?side2 A33.out).mono ?_); (case side1 => repeat (first | exact (Kd.R_reads' HO_7.out).2.2 | (with_reducible refine Kd.C_alloc ?_ _) | (with_reducible refine Kd.C_drewN ?_ _) | (with_reducible refine Kd.C_drew ?_))); (case side2 => exact (Kd.R_reads' HO_7.out).2.1); rintro e w' ⟨rfl, ⟨nd, rfl⟩⟩; refine ⟨_, rfl, ?_⟩))
           go_ret
           exact ⟨by first | rfl | (simp [errW_none, errW_some] <;> rfl) | (simp [*, errW_none, errW_some] <;> rfl), bl_ HB⟩
     ·rw [if_neg c20] at H
      have c20b0 : (t203 == t201) = false := beq_eq_false_iff_ne.mpr c20
      have c20b1 : (t203 != t201) = true := bne_iff_ne.mpr c20
      obtain rfl := Option.some.inj H
      obtain ⟨Ao36, co36, eo36⟩ := Kd.R_slice HO_7.out
      subst eo36
      go_wp2_with (first | ((with_reducible refine gate_callee (f := 9) rfl ?_); refine goesL_ (some 36) rfl rfl Try.func9 (by kernel_rfl) rfl #[.slice Ao36 t196.length co36, .int .i64 1] rfl arg_ ?_; (with_reducible refine (laws_markWeights.calls kj4 (fun k_ => some k_ = (.slice Ao36 t196.length co36 : Value).ownBlock) (.slice Ao36 t196.length co36) t196 1 t201 t202 w _ ?side1 ?side2 A15.out).mono ?_); (case side1 => repeat (first | (with_reducible first | exact HB.out | apply below_alloc | apply pw_below_drewN | apply below_drew1) | exact HB.out)); (case side2 => exact Kd.R_tight rfl HO_7.out); rintro e w37 ⟨rfl, hy0, hb, hkp⟩; refine ⟨_, rfl, ?_⟩; have n0_ := A_ (Kd.R_mono (ok' := fun k_ => some k_ ≠ (.slice Ao36 t196.length co36 : Value).ownBlock) (Kd.R_keptB (HO_5.out) hkp (fun k_ hk_ hs_ => (hk_) hs_)) (fun k_ hk_ => hk_.1)); have n1_ := A_ (Kd.R_reok rfl hy0 (fun k_ e_ => HO_7.out.1 k_ e_)); have n2_ := A_ (hb); clear HO_5; clear HO_7; clear HB; have HO_5 := n0_; have HO_7 := n1_; have HB := n2_; clear n0_ n1_ n2_; (try clear hb); (try clear hkp); (try clear hy0)) | ((with_reducible refine gate_callee (f := 10) rfl ?_); refine goesL_ (some 39) rfl rfl Try.func10 (by kernel_rfl) rfl #[.slice Ao36 t202.length co36, .int .i64 1] rfl (by (try simp only [List.map_toArray, List.map_cons, List.map_nil]); first | done | (rw [show t202.length = t196.length from (Kd.R_reads' HO_7.out).1.symm] <;> rfl) | rfl | (simp only [List.length_drop, List.length_take]; rfl)) ?_; (with_reducible refine (laws_heldWeights.calls kj4 _ _ t202 1 t203 _ ?side1 ?side2 A16.out).mono ?_); (case side1 => repeat (first | exact (Kd.R_reads' HO_7.out).2.2 | (with_reducible refine Kd.C_alloc ?_ _) | (with_reducible refine Kd.C_drewN ?_ _) | (with_reducible refine Kd.C_drew ?_))); (case side2 => rw [show t202.length = t196.length from (Kd.R_reads' HO_7.out).1.symm]; exact (Kd.R_reads' HO_7.out).2.1); rintro e w' ⟨rfl, ⟨nd, rfl⟩⟩; refine ⟨_, rfl, ?_⟩))
      go_ret
      exact ⟨by first | rfl | (simp [errW_none, errW_some] <;> rfl) | (simp [*, errW_none, errW_some] <;> rfl), bl_ HB⟩

/-- THE ONE PURE STATEMENT of laws_FnExactLeastWeights: yours. -/
def laws_FnExactLeastWeights.Pure : Prop := ∀ (a0 : Int) (a1 : Bool), (Lit.int .i64 a0).wf = true → ∃ k, laws_FnExactLeastWeights.f k a0 a1 = some true
theorem laws_FnExactLeastWeights.walk (P : laws_FnExactLeastWeights.Pure) (a0 : Int) (a1 : Bool) (w : World) (w0 : (Lit.int .i64 a0).wf = true) :
  Calls Try.prog 3 #[.int .i64 a0, .bool a1] w fun e w' => e = .returned (.bool true) ∧ Below w.heap.size w w' := by
 obtain ⟨k, h⟩ := P a0 a1 w0
 refine (laws_FnExactLeastWeights.calls k a0 a1 true w h).mono ?_
 rintro e w' ⟨rfl, hd⟩
 exact ⟨rfl, hd⟩

end Go.Proofs.Ytegnpgagboccpaa.M
