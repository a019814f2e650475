-- By this seat's own program over the kit's printer (arrays, functions told by hand); nothing of it is trusted: the kernel checks it.
import Derived.Test.YtmekcockddoaiaaMx0
import Derived.Test.YtmekcockddoaiaaMx1
import Derived.Test.YtmekcockddoaiaaMx5
import Derived.Test.YtmekcockddoaiaaMx9
import Derived.Test.YtmekcockddoaiaaMx12
namespace Go.Proofs.Ytmekcockddoaiaa.M
open Go.RowKit Go.Proofs.YtmekcockddoaiaaW.PrintWords Go.Proofs.YtmekcockddoaiaaW.PrintLast Go.Proofs.YtmekcockddoaiaaW.PrintMore
attribute [local go_sem] max2_int min2_int max_two min_two max_three min_three max_four min_four   -- for this text's walks alone
set_option linter.unusedVariables false
set_option linter.unusedSimpArgs false

/-! ### laws_FnExactFixedText: function 3 -/
def laws_FnExactFixedText.f (k : Nat) (a0_0 : Int) (a0_1 : Int) (l0_2 : List (S42)) : Option (Bool) := (laws_szFixed.f a0_0 a0_1 l0_2 1048576).bind fun t205 => (if t205 < 0 then (some true) else ((laws_toFixed.f k a0_0 a0_1 l0_2).bind fun bt206 => ((spec_FixedText.f k bt206.1 bt206.2.1 bt206.2.2).bind fun t211 => ((laws_toFixed.f k a0_0 a0_1 l0_2).bind fun bt212 => ((impl_FixedText.f k bt212.1 bt212.2.1 bt212.2.2).bind fun t218 => (if t218.toList = t211.toList then ((laws_toFixed.f k a0_0 a0_1 l0_2).bind fun bt219 => ((laws_eqFixed.f k bt212.1 bt212.2.1 bt212.2.2 bt219.1 bt219.2.1 bt219.2.2).bind fun t224 => (if t224 = true then (some true) else (some false)))) else (some false)))))))
theorem laws_FnExactFixedText.mono : ∀ a0 a1 a2 k, LeO (laws_FnExactFixedText.f k a0 a1 a2) (laws_FnExactFixedText.f (k + 1) a0 a1 a2) := by
 intro a0 a1 a2 k
 unfold laws_FnExactFixedText.f
 repeat' first
   | (with_reducible exact impl_FixedText.mono _ _ _ _)
   | (with_reducible exact laws_eqFixed.mono _ _ _ _ _ _ _)
   | (with_reducible exact laws_toFixed.mono _ _ _ _)
   | (with_reducible exact spec_FixedText.mono _ _ _ _)
   | (with_reducible exact LeO.refl _)
   | (with_reducible exact LeO.none _)
   | (with_reducible refine LeO.ite ?_ ?_)
   | (with_reducible refine LeO.bind ?_ (fun _ => ?_))
   | exact impl_FixedText.mono _ _ _ _
   | exact laws_eqFixed.mono _ _ _ _ _ _ _
   | exact laws_toFixed.mono _ _ _ _
   | exact spec_FixedText.mono _ _ _ _
   | exact LeO.none _
   | refine LeO.ite ?_ ?_
   | refine LeO.bind ?_ (fun _ => ?_)
set_option maxHeartbeats 8000000 in
set_option maxRecDepth 100000 in
theorem laws_FnExactFixedText.calls (k : Nat) (a0_0 : Int) (a0_1 : Int) (A0_2 : Option Addr) (c0_2 : Nat) (l0_2 : List (S42)) (r : Bool) (w : World) (hr0_2 : Kd.C k42 w A0_2 l0_2.length l0_2) (hc0_2 : l0_2.length ≤ c0_2) (h : laws_FnExactFixedText.f k a0_0 a0_1 l0_2 = some r) :
  Calls Try.prog 3 #[.agg #[.int .i8 a0_0, .int .i8 a0_1, .slice A0_2 l0_2.length c0_2]] w fun e w' => e = .returned (.bool r) ∧ Below w.heap.size w w' := by
 have hu25 := Try.underlying25
 have hu30 := Try.underlying30
 have HR0_2 := Aside0.mk hr0_2
 have HC0_2 := Aside0.mk hc0_2
 clear hr0_2 hc0_2
 have HB := A_ (Below.refl w.heap.size w)
 have H : ((laws_szFixed.f a0_0 a0_1 l0_2 1048576).bind fun t205 => (if t205 < 0 then (some true) else ((laws_toFixed.f k a0_0 a0_1 l0_2).bind fun bt206 => ((spec_FixedText.f k bt206.1 bt206.2.1 bt206.2.2).bind fun t211 => ((laws_toFixed.f k a0_0 a0_1 l0_2).bind fun bt212 => ((impl_FixedText.f k bt212.1 bt212.2.1 bt212.2.2).bind fun t218 => (if t218.toList = t211.toList then ((laws_toFixed.f k a0_0 a0_1 l0_2).bind fun bt219 => ((laws_eqFixed.f k bt212.1 bt212.2.1 bt212.2.2 bt219.1 bt219.2.1 bt219.2.2).bind fun t224 => (if t224 = true then (some true) else (some false)))) else (some false)))))))) = some r := h
 clear h
 replace H := Option.bind_eq_some_iff.mp H
 obtain ⟨t205, A20, H⟩ := H
 replace H : (if t205 < 0 then (some true) else ((laws_toFixed.f k a0_0 a0_1 l0_2).bind fun bt206 => ((spec_FixedText.f k bt206.1 bt206.2.1 bt206.2.2).bind fun t211 => ((laws_toFixed.f k a0_0 a0_1 l0_2).bind fun bt212 => ((impl_FixedText.f k bt212.1 bt212.2.1 bt212.2.2).bind fun t218 => (if t218.toList = t211.toList then ((laws_toFixed.f k a0_0 a0_1 l0_2).bind fun bt219 => ((laws_eqFixed.f k bt212.1 bt212.2.1 bt212.2.2 bt219.1 bt219.2.1 bt219.2.2).bind fun t224 => (if t224 = true then (some true) else (some false)))) else (some false))))))) = some r := H
 have A2 := Aside0.mk A20
 clear A20
 by_cases c3 : t205 < 0
 ·rw [if_pos c3] at H
  have c3b0 : decide (t205 < 0) = true := decide_eq_true c3
  clear c3
  obtain rfl := Option.some.inj H
  go_enter Try.func3, Try.ntmps3
  go_wp2_with (first | ((with_reducible refine gate_dst (N := 1) rfl ?_); refine box_event ?hg (N := 1) ?hd (cs := #[.int .i8 a0_0, .int .i8 a0_1, .slice A0_2 l0_2.length c0_2]) (t := 25) ?hr ?_; (case hd => rfl); (case hg => rfl); (case hr => first | (go_simp; done) | (go_simp; rfl)); intro gb204 hg w4 hbox hb; have n0_ := A_ (below_step (bl_ HB) hb); have n1_ := A_ (hbox); have n2_ := A_ ((by rw [hg]; exact (below_size (bl_ HB)) : w.heap.size ≤ gb204)); have n3_ := n2_; clear HB; have HB := n0_; have BK204 := n1_; have GW204 := n2_; have GE204 := n3_; clear n0_ n1_ n2_ n3_; clear hb hbox hg; obtain ⟨hcz5_0, hcz5_1, hcz5_2, hfz5_0, hfz5_1, hfz5_2⟩ := cl3_ BK204) | ((with_reducible refine gate_callee (f := 4) rfl ?_); refine goesL_ (some 9) rfl rfl Try.func4 (by kernel_rfl) rfl #[.agg #[.int .i8 a0_0, .int .i8 a0_1, .slice A0_2 l0_2.length c0_2], .int .i64 1048576] rfl arg_ ?_; (with_reducible refine (laws_szFixed.calls a0_0 a0_1 _ _ l0_2 1048576 t205 _ ?side1 ?side2 A2.out).mono ?_); (case side1 => exact Kd.C_below HR0_2.out (bl_ HB)); (case side2 => exact HC0_2.out); rintro e w6 ⟨rfl, hb⟩; refine ⟨_, rfl, ?_⟩; have n0_ := A_ (blk_below (pl_ BK204) hb); have n1_ := A_ (below_step (bl_ HB) hb); clear BK204; clear HB; have BK204 := n0_; have HB := n1_; clear n0_ n1_; (try clear hb); (try clear hb2); (try clear hk); (try clear hi)))
  go_ret
  exact ⟨by first | rfl | (simp [errW_none, errW_some] <;> rfl) | (simp [*, errW_none, errW_some] <;> rfl), bl_ HB⟩
 ·rw [if_neg c3] at H
  have c3b0 : decide (t205 < 0) = false := decide_eq_false c3
  clear c3
  replace H := Option.bind_eq_some_iff.mp H
  obtain ⟨⟨t206, t207, t208⟩, A70, H⟩ := H
  replace H : ((spec_FixedText.f k t206 t207 t208).bind fun t211 => ((laws_toFixed.f k a0_0 a0_1 l0_2).bind fun bt212 => ((impl_FixedText.f k bt212.1 bt212.2.1 bt212.2.2).bind fun t218 => (if t218.toList = t211.toList then ((laws_toFixed.f k a0_0 a0_1 l0_2).bind fun bt219 => ((laws_eqFixed.f k bt212.1 bt212.2.1 bt212.2.2 bt219.1 bt219.2.1 bt219.2.2).bind fun t224 => (if t224 = true then (some true) else (some false)))) else (some false))))) = some r := H
  have A7 := Aside0.mk A70
  clear A70
  replace H := Option.bind_eq_some_iff.mp H
  obtain ⟨t211, A80, H⟩ := H
  replace H : ((laws_toFixed.f k a0_0 a0_1 l0_2).bind fun bt212 => ((impl_FixedText.f k bt212.1 bt212.2.1 bt212.2.2).bind fun t218 => (if t218.toList = t211.toList then ((laws_toFixed.f k a0_0 a0_1 l0_2).bind fun bt219 => ((laws_eqFixed.f k bt212.1 bt212.2.1 bt212.2.2 bt219.1 bt219.2.1 bt219.2.2).bind fun t224 => (if t224 = true then (some true) else (some false)))) else (some false)))) = some r := H
  have A8 := Aside0.mk A80
  clear A80
  replace H := Option.bind_eq_some_iff.mp H
  obtain ⟨⟨t212, t213, t214⟩, A90, H⟩ := H
  replace H : ((impl_FixedText.f k t212 t213 t214).bind fun t218 => (if t218.toList = t211.toList then ((laws_toFixed.f k a0_0 a0_1 l0_2).bind fun bt219 => ((laws_eqFixed.f k t212 t213 t214 bt219.1 bt219.2.1 bt219.2.2).bind fun t224 => (if t224 = true then (some true) else (some false)))) else (some false))) = some r := H
  have A9 := Aside0.mk A90
  clear A90
  replace H := Option.bind_eq_some_iff.mp H
  obtain ⟨t218, A100, H⟩ := H
  replace H : (if t218.toList = t211.toList then ((laws_toFixed.f k a0_0 a0_1 l0_2).bind fun bt219 => ((laws_eqFixed.f k t212 t213 t214 bt219.1 bt219.2.1 bt219.2.2).bind fun t224 => (if t224 = true then (some true) else (some false)))) else (some false)) = some r := H
  have A10 := Aside0.mk A100
  clear A100
  by_cases c11 : t218.toList = t211.toList
  ·rw [if_pos c11] at H
   have c11b0 : (t218.toList == t211.toList) = true := beq_iff_eq.mpr c11
   have c11b1 : (t218.toList != t211.toList) = false := bne_eq_false_iff_eq.mpr c11
   clear c11
   replace H := Option.bind_eq_some_iff.mp H
   obtain ⟨⟨t219, t220, t221⟩, A120, H⟩ := H
   replace H : ((laws_eqFixed.f k t212 t213 t214 t219 t220 t221).bind fun t224 => (if t224 = true then (some true) else (some false))) = some r := H
   have A12 := Aside0.mk A120
   clear A120
   replace H := Option.bind_eq_some_iff.mp H
   obtain ⟨t224, A130, H⟩ := H
   replace H : (if t224 = true then (some true) else (some false)) = some r := H
   have A13 := Aside0.mk A130
   clear A130
   by_cases c14 : t224 = true
   ·subst c14
    have H1 : (some true) = some r := by rw [if_pos rfl] at H; exact H
    clear H
    have H := H1
    clear H1
    obtain rfl := Option.some.inj H
    go_enter Try.func3, Try.ntmps3
    try go_wp2_with (first | ((with_reducible refine gate_dst (N := 1) rfl ?_); refine box_event ?hg (N := 1) ?hd (cs := #[.int .i8 a0_0, .int .i8 a0_1, .slice A0_2 l0_2.length c0_2]) (t := 25) ?hr ?_; (case hd => rfl); (case hg => rfl); (case hr => first | (go_simp; done) | (go_simp; rfl)); intro gb204 hg w15 hbox hb; have n0_ := A_ (below_step (bl_ HB) hb); have n1_ := A_ (hbox); have n2_ := A_ ((by rw [hg]; exact (below_size (bl_ HB)) : w.heap.size ≤ gb204)); have n3_ := n2_; clear HB; have HB := n0_; have BK204 := n1_; have GW204 := n2_; have GE204 := n3_; clear n0_ n1_ n2_ n3_; clear hb hbox hg; obtain ⟨hcz16_0, hcz16_1, hcz16_2, hfz16_0, hfz16_1, hfz16_2⟩ := cl3_ BK204) | ((with_reducible refine gate_callee (f := 4) rfl ?_); refine goesL_ (some 9) rfl rfl Try.func4 (by kernel_rfl) rfl #[.agg #[.int .i8 a0_0, .int .i8 a0_1, .slice A0_2 l0_2.length c0_2], .int .i64 1048576] rfl arg_ ?_; (with_reducible refine (laws_szFixed.calls a0_0 a0_1 _ _ l0_2 1048576 t205 _ ?side1 ?side2 A2.out).mono ?_); (case side1 => exact Kd.C_below HR0_2.out (bl_ HB)); (case side2 => exact HC0_2.out); rintro e w17 ⟨rfl, hb⟩; refine ⟨_, rfl, ?_⟩; have n0_ := A_ (blk_below (pl_ BK204) hb); have n1_ := A_ (below_step (bl_ HB) hb); clear BK204; clear HB; have BK204 := n0_; have HB := n1_; clear n0_ n1_; (try clear hb); (try clear hb2); (try clear hk); (try clear hi); obtain ⟨hcz18_0, hcz18_1, hcz18_2, hfz18_0, hfz18_1, hfz18_2⟩ := cl3_ BK204) | ((with_reducible refine gate_callee (f := 6) rfl ?_); refine goesL_ (some 13) rfl rfl Try.func6 (by kernel_rfl) rfl #[.agg #[.int .i8 a0_0, .int .i8 a0_1, .slice A0_2 l0_2.length c0_2]] rfl arg_ ?_; (with_reducible refine (laws_toFixed.calls k a0_0 a0_1 _ _ l0_2 t206 t207 t208 _ ?side1 ?side2 A7.out).mono ?_); (case side1 => exact Kd.C_below HR0_2.out (bl_ HB)); (case side2 => exact HC0_2.out); rintro e w19 ⟨v209, rfl, ho0, hb⟩; refine ⟨_, rfl, ?_⟩; have n0_ := A_ (Kd.R_lower ho0 (below_size (bl_ HB))); have n1_ := A_ (blk_below (pl_ BK204) hb); have n2_ := A_ (below_step (bl_ HB) hb); clear BK204; clear HB; have HO210 := n0_; have BK204 := n1_; have HB := n2_; clear n0_ n1_ n2_; (try clear hb); (try clear hb2); (try clear hk); (try clear hi); (try clear ho0); obtain ⟨Ao20, co20, eo20⟩ := Kd.R_slice HO210.out; subst eo20) | ((with_reducible refine gate_callee (f := 5) rfl ?_); refine goesL_ (some 14) rfl rfl Try.func5 (by kernel_rfl) rfl #[.agg #[.int .i8 t206, .int .i8 t207, .slice Ao20 t208.length co20]] rfl arg_ ?_; (with_reducible refine (spec_FixedText.calls k t206 t207 _ _ t208 t211 _ ?side1 ?side2 A8.out).mono ?_); (case side1 => repeat (first | exact (Kd.R_reads' HO210.out).2.2 | (with_reducible refine Kd.C_alloc ?_ _) | (with_reducible refine Kd.C_drewN ?_ _) | (with_reducible refine Kd.C_drew ?_))); (case side2 => exact (Kd.R_reads' HO210.out).2.1); rintro e w21 ⟨rfl, hb⟩; refine ⟨_, rfl, ?_⟩; have n0_ := A_ (Kd.R_below (pr_ HO210) hb); have n1_ := A_ (blk_below (pl_ BK204) hb); have n2_ := A_ (below_step (bl_ HB) hb); clear HO210; clear BK204; clear HB; have HO210 := n0_; have BK204 := n1_; have HB := n2_; clear n0_ n1_ n2_; (try clear hb); (try clear hb2); (try clear hk); (try clear hi); obtain ⟨hcz22_0, hcz22_1, hcz22_2, hfz22_0, hfz22_1, hfz22_2⟩ := cl3_ BK204) | ((with_reducible refine gate_callee (f := 6) rfl ?_); refine goesL_ (some 16) rfl rfl Try.func6 (by kernel_rfl) rfl #[.agg #[.int .i8 a0_0, .int .i8 a0_1, .slice A0_2 l0_2.length c0_2]] rfl arg_ ?_; (with_reducible refine (laws_toFixed.calls k a0_0 a0_1 _ _ l0_2 t212 t213 t214 _ ?side1 ?side2 A9.out).mono ?_); (case side1 => exact Kd.C_below HR0_2.out (bl_ HB)); (case side2 => exact HC0_2.out); rintro e w23 ⟨v215, rfl, ho0, hb⟩; refine ⟨_, rfl, ?_⟩; have n0_ := A_ (Kd.R_elder' (pr_ HO210) (Kd.R_base ho0) hb); have n1_ := A_ (Kd.R_lower (Kd.R_new' ho0 (Kd.R_lt (pr_ HO210))) (below_size (bl_ HB))); have n2_ := A_ (blk_below (pl_ BK204) hb); have n3_ := A_ (below_step (bl_ HB) hb); clear HO210; clear BK204; clear HB; have HO210 := n0_; have HO216 := n1_; have BK204 := n2_; have HB := n3_; clear n0_ n1_ n2_ n3_; (try clear hb); (try clear hb2); (try clear hk); (try clear hi); (try clear ho0)) | ((with_reducible refine gate_dst (N := 5) rfl ?_); refine box_event ?hg (N := 5) ?hd (cs := #[.int .i8 0, .int .i8 0, .slice none 0 0]) (t := 30) ?hr ?_; (case hd => rfl); (case hg => rfl); (case hr => first | (go_simp; done) | (go_simp; rfl)); intro gb217 hg w24 hbox hb; have n0_ := A_ (Kd.R_below (pr_ HO210) hb); have n1_ := A_ (Kd.R_below (pr_ HO216) hb); have n2_ := A_ (blk_below (pl_ BK204) hb); have n3_ := A_ (below_step (bl_ HB) hb); have n4_ := A_ (hbox); have n5_ := A_ ((by rw [hg]; exact (below_size (bl_ HB)) : w.heap.size ≤ gb217)); have n6_ := n5_; have n7_ := A_ ((by rw [hg]; exact Nat.ne_of_lt (blk_lt (pl_ BK204)) : gb204 ≠ gb217)); have n8_ := Aside0.mk n7_.out.symm; clear HO210; clear HO216; clear BK204; clear HB; have HO210 := n0_; have HO216 := n1_; have BK204 := n2_; have HB := n3_; have BK217 := n4_; have GW217 := n5_; have GE217 := n6_; have NB204_217 := n7_; have NB217_204 := n8_; clear n0_ n1_ n2_ n3_ n4_ n5_ n6_ n7_ n8_; clear hb hbox hg; have hnb25 := NB217_204.out; have hnc25 := NB204_217.out; obtain ⟨hcz26_0, hcz26_1, hcz26_2, hfz26_0, hfz26_1, hfz26_2⟩ := cl3_ BK217; obtain ⟨Ao27, co27, eo27⟩ := Kd.R_slice HO216.out; subst eo27) | ((with_reducible refine gate_callee (f := 7) rfl ?_); refine goesL_ (some 18) rfl rfl Try.func7 (by kernel_rfl) rfl #[.agg #[.int .i8 t212, .int .i8 t213, .slice Ao27 t214.length co27]] rfl arg_ ?_; (with_reducible refine (impl_FixedText.calls k t212 t213 _ _ t214 t218 _ ?side1 ?side2 A10.out).mono ?_); (case side1 => refine (Kd.R_reads' (e := 43) (base := w.heap.size) (ok := fun k_ => (True ∧ some k_ ≠ (.slice Ao20 t208.length co20 : Value).ownBlock)) (n := t214.length) (c := co27) ?_).2.2; exact (by (with_reducible repeat (first | apply Kd.R_alloc | apply Kd.R_drewN | apply Kd.R_drew)); exact (rf3_ HO216 BK217 (by decide)))); (case side2 => exact (Kd.R_reads' HO216.out).2.1); rintro e w28 ⟨rfl, hb⟩; refine ⟨_, rfl, ?_⟩; have n0_ := A_ (Kd.R_below (by (with_reducible repeat (first | apply Kd.R_alloc | apply Kd.R_drewN | apply Kd.R_drew)); exact (rf3_ HO210 BK217 (by decide))) hb); have n1_ := A_ (Kd.R_below (by (with_reducible repeat (first | apply Kd.R_alloc | apply Kd.R_drewN | apply Kd.R_drew)); exact (rf3_ HO216 BK217 (by decide))) hb); have n2_ := A_ (blk_below (g := gb204) (o := .cells #[.int .i8 a0_0, .int .i8 a0_1, .slice A0_2 l0_2.length c0_2] 25 (0, 0)) (pf_ BK204 NB204_217) hb); have n3_ := A_ (blk_below (g := gb217) (o := .cells #[.int .i8 t212, .int .i8 t213, .slice Ao27 t214.length co27] 30 (0, 0)) (by (with_reducible repeat (first | refine blk_drewN ?_ _ | refine blk_drew ?_ | refine blk_alloc ?_ _)); refine blk_put (cs := #[.int .i8 t212, .int .i8 t213, .slice none 0 0]) ?_ 2 _ rfl; (with_reducible repeat (first | refine blk_drewN ?_ _ | refine blk_drew ?_ | refine blk_alloc ?_ _)); refine blk_put (cs := #[.int .i8 t212, .int .i8 0, .slice none 0 0]) ?_ 1 _ rfl; (with_reducible repeat (first | refine blk_drewN ?_ _ | refine blk_drew ?_ | refine blk_alloc ?_ _)); refine blk_put (cs := #[.int .i8 0, .int .i8 0, .slice none 0 0]) ?_ 0 _ rfl; (with_reducible repeat (first | refine blk_drewN ?_ _ | refine blk_drew ?_ | refine blk_alloc ?_ _)); exact BK217.out) hb); have n4_ := A_ (below_step (bs_ HB GE217) hb); clear HO210; clear HO216; clear BK204; clear BK217; clear HB; have HO210 := n0_; have HO216 := n1_; have BK204 := n2_; have BK217 := n3_; have HB := n4_; clear n0_ n1_ n2_ n3_ n4_; (try clear hb); (try clear hb2); (try clear hk); (try clear hi)))
    have n0_ := A_ (Kd.R_drew HO210.out)
    have n1_ := A_ (Kd.R_drew HO216.out)
    have n2_ := A_ (blk_drew BK204.out)
    have n3_ := A_ (blk_drew BK217.out)
    have n4_ := A_ (below_drew1 HB.out)
    clear HO210
    clear HO216
    clear BK204
    clear BK217
    clear HB
    have HO210 := n0_
    have HO216 := n1_
    have BK204 := n2_
    have BK217 := n3_
    have HB := n4_
    clear n0_ n1_ n2_ n3_ n4_
    refine start_ (n := 5) (S := fun w' => w'.cell? ⟨gb217, 0, none⟩ = some (.int .i8 t212) ∧ w'.cell? ⟨gb217, 1, none⟩ = some (.int .i8 t213) ∧ w'.cell? ⟨gb217, 2, none⟩ = some (.slice Ao27 t214.length co27) ∧ w'.cell? ⟨gb204, 0, none⟩ = some (.int .i8 a0_0) ∧ w'.cell? ⟨gb204, 1, none⟩ = some (.int .i8 a0_1) ∧ w'.cell? ⟨gb204, 2, none⟩ = some (.slice A0_2 l0_2.length c0_2)) (ds := []) #[false, false, false, false, false] (by kernel_rfl) rfl rfl ⟨(blk_cell BK217.out 0).trans rfl, (blk_cell BK217.out 1).trans rfl, (blk_cell BK217.out 2).trans rfl, (blk_cell BK204.out 0).trans rfl, (blk_cell BK204.out 1).trans rfl, (blk_cell BK204.out 2).trans rfl⟩ (fun hHeld => ?_)
    generalize w28.drew = w29 at HO210 HO216 BK204 BK217 HB hHeld ⊢
    refine take_ (i := 0) (N := some 22) (v := ?_) (a' := ?_) #[true, false, false, false, false] rfl rfl (by kernel_rfl) (fun _ _ _ h => h) (Or.inl ⟨by rfl, ?_⟩) hHeld ?_ ?_
    rotate_left
    ·rintro w' ⟨s0, s1, s2, s3, s4, s5⟩
     go_simp
     with_reducible rfl
    rotate_left
    ·simp only [Act.put, sp_]
     rfl
    refine take_ (i := 1) (N := some 23) (v := ?_) (a' := ?_) #[true, true, false, false, false] rfl rfl (by kernel_rfl) (fun _ _ _ h => h) (Or.inl ⟨by rfl, ?_⟩) hHeld ?_ ?_
    rotate_left
    ·rintro w' ⟨s0, s1, s2, s3, s4, s5⟩
     go_simp
     with_reducible rfl
    rotate_left
    ·simp only [Act.put, sp_]
     rfl
    refine one_ (i := 2) (N := some 24) #[true, true, true, false, false] rfl rfl (by kernel_rfl) (by decide) (fun K hK => ?_)
    refine goes_ Try.func6 (by kernel_rfl) rfl #[.agg #[.int .i8 a0_0, .int .i8 a0_1, .slice A0_2 l0_2.length c0_2]] (by rfl) rfl rfl arg_ ?_
    with_reducible refine (laws_toFixed.calls k a0_0 a0_1 _ _ l0_2 t219 t220 t221 _ ?side1 ?side2 A12.out).mono ?_
    (case side1 => exact Kd.C_below HR0_2.out (bl_ HB))
    (case side2 => exact HC0_2.out)
    rintro e w30 ⟨v222, rfl, ho0, hb⟩
    refine ⟨_, rfl, ?_⟩
    have n0_ := A_ (Kd.R_elder' (pr_ HO210) (Kd.R_base ho0) hb)
    have n1_ := A_ (Kd.R_elder' (pr_ HO216) (Kd.R_base ho0) hb)
    have n2_ := A_ (Kd.R_lower (Kd.R_new' (Kd.R_new' ho0 (Kd.R_lt (pr_ HO210))) (Kd.R_lt (pr_ HO216))) (below_size (bl_ HB)))
    have n3_ := A_ (blk_below (pl_ BK204) hb)
    have n4_ := A_ (blk_below (pl_ BK217) hb)
    have n5_ := A_ (below_step (bl_ HB) hb)
    clear HO210
    clear HO216
    clear BK204
    clear BK217
    clear HB
    have HO210 := n0_
    have HO216 := n1_
    have HO223 := n2_
    have BK204 := n3_
    have BK217 := n4_
    have HB := n5_
    clear n0_ n1_ n2_ n3_ n4_ n5_
    (try clear hb)
    (try clear hb2)
    (try clear hk)
    (try clear hi)
    (try clear ho0)
    obtain ⟨Ao31, co31, eo31⟩ := Kd.R_slice HO223.out
    (first | subst eo31 | (injection eo31 with f1_ f2_ f3_; have f4_ := f1_.symm; have f5_ := f3_.symm; clear f1_ f2_ f3_; subst f4_; subst f5_))
    refine hK.out _ _ ⟨(blk_cell BK217.out 0).trans rfl, (blk_cell BK217.out 1).trans rfl, (blk_cell BK217.out 2).trans rfl, (blk_cell BK204.out 0).trans rfl, (blk_cell BK204.out 1).trans rfl, (blk_cell BK204.out 2).trans rfl⟩ (fun hHeld => ?_)
    clear hK K
    refine norm_ (a' := ?_) ?_ ?_
    rotate_left
    ·show Act.put _ (some 24) _ = _
     simp only [Act.put, sp_]
     rfl
    refine one_ (i := 3) (N := some 25) #[true, true, true, true, false] rfl rfl (by kernel_rfl) (by decide) (fun K hK => ?_)
    refine goes_ Try.func8 (by kernel_rfl) rfl #[.agg #[.int .i8 t212, .int .i8 t213, .slice Ao27 t214.length co27], .agg #[.int .i8 t219, .int .i8 t220, .slice Ao31 t221.length co31]] (by rfl) rfl rfl arg_ ?_
    with_reducible refine (laws_eqFixed.calls k t212 t213 _ _ t214 t219 t220 _ _ t221 true _ ?side1 ?side2 ?side3 ?side4 A13.out).mono ?_
    (case side1 => repeat (first | exact (Kd.R_reads' HO216.out).2.2 | (with_reducible refine Kd.C_alloc ?_ _) | (with_reducible refine Kd.C_drewN ?_ _) | (with_reducible refine Kd.C_drew ?_)))
    (case side2 => exact (Kd.R_reads' HO216.out).2.1)
    (case side3 => repeat (first | exact (Kd.R_reads' HO223.out).2.2 | (with_reducible refine Kd.C_alloc ?_ _) | (with_reducible refine Kd.C_drewN ?_ _) | (with_reducible refine Kd.C_drew ?_)))
    (case side4 => exact (Kd.R_reads' HO223.out).2.1)
    rintro e w32 ⟨rfl, hb⟩
    refine ⟨_, rfl, ?_⟩
    have n0_ := A_ (Kd.R_below (pr_ HO210) hb)
    have n1_ := A_ (Kd.R_below (pr_ HO216) hb)
    have n2_ := A_ (Kd.R_below (pr_ HO223) hb)
    have n3_ := A_ (blk_below (pl_ BK204) hb)
    have n4_ := A_ (blk_below (pl_ BK217) hb)
    have n5_ := A_ (below_step (bl_ HB) hb)
    clear HO210
    clear HO216
    clear HO223
    clear BK204
    clear BK217
    clear HB
    have HO210 := n0_
    have HO216 := n1_
    have HO223 := n2_
    have BK204 := n3_
    have BK217 := n4_
    have HB := n5_
    clear n0_ n1_ n2_ n3_ n4_ n5_
    (try clear hb)
    (try clear hb2)
    (try clear hk)
    (try clear hi)
    refine hK.out _ _ ⟨(blk_cell BK217.out 0).trans rfl, (blk_cell BK217.out 1).trans rfl, (blk_cell BK217.out 2).trans rfl, (blk_cell BK204.out 0).trans rfl, (blk_cell BK204.out 1).trans rfl, (blk_cell BK204.out 2).trans rfl⟩ (fun hHeld => ?_)
    clear hK K
    refine norm_ (a' := ?_) ?_ ?_
    rotate_left
    ·show Act.put _ (some 25) _ = _
     simp only [Act.put, sp_]
     rfl
    refine pure_ (i := 4) (N := some 26) (v := ?_) (a' := ?_) #[true, true, true, true, true] rfl rfl (by kernel_rfl) (fun _ _ _ h => h) (Or.inl ⟨by rfl, ?_⟩) ?_ ?_
    rotate_left
    ·intro w'
     go_simp
     with_reducible rfl
    rotate_left
    ·simp only [Act.put, sp_]
     rfl
    refine done_ (by kernel_rfl) ?_
    try go_wp2
    go_ret
    exact ⟨by first | rfl | (simp [errW_none, errW_some] <;> rfl) | (simp [*, errW_none, errW_some] <;> rfl), bl_ HB⟩
   ·replace c14 := Bool.eq_false_iff.mpr c14
    subst c14
    have H1 : (some false) = some r := by rw [if_neg (show ¬ (false = true) by decide)] at H; exact H
    clear H
    have H := H1
    clear H1
    obtain rfl := Option.some.inj H
    go_enter Try.func3, Try.ntmps3
    try go_wp2_with (first | ((with_reducible refine gate_dst (N := 1) rfl ?_); refine box_event ?hg (N := 1) ?hd (cs := #[.int .i8 a0_0, .int .i8 a0_1, .slice A0_2 l0_2.length c0_2]) (t := 25) ?hr ?_; (case hd => rfl); (case hg => rfl); (case hr => first | (go_simp; done) | (go_simp; rfl)); intro gb204 hg w33 hbox hb; have n0_ := A_ (below_step (bl_ HB) hb); have n1_ := A_ (hbox); have n2_ := A_ ((by rw [hg]; exact (below_size (bl_ HB)) : w.heap.size ≤ gb204)); have n3_ := n2_; clear HB; have HB := n0_; have BK204 := n1_; have GW204 := n2_; have GE204 := n3_; clear n0_ n1_ n2_ n3_; clear hb hbox hg; obtain ⟨hcz34_0, hcz34_1, hcz34_2, hfz34_0, hfz34_1, hfz34_2⟩ := cl3_ BK204) | ((with_reducible refine gate_callee (f := 4) rfl ?_); refine goesL_ (some 9) rfl rfl Try.func4 (by kernel_rfl) rfl #[.agg #[.int .i8 a0_0, .int .i8 a0_1, .slice A0_2 l0_2.length c0_2], .int .i64 1048576] rfl arg_ ?_; (with_reducible refine (laws_szFixed.calls a0_0 a0_1 _ _ l0_2 1048576 t205 _ ?side1 ?side2 A2.out).mono ?_); (case side1 => exact Kd.C_below HR0_2.out (bl_ HB)); (case side2 => exact HC0_2.out); rintro e w35 ⟨rfl, hb⟩; refine ⟨_, rfl, ?_⟩; have n0_ := A_ (blk_below (pl_ BK204) hb); have n1_ := A_ (below_step (bl_ HB) hb); clear BK204; clear HB; have BK204 := n0_; have HB := n1_; clear n0_ n1_; (try clear hb); (try clear hb2); (try clear hk); (try clear hi); obtain ⟨hcz36_0, hcz36_1, hcz36_2, hfz36_0, hfz36_1, hfz36_2⟩ := cl3_ BK204) | ((with_reducible refine gate_callee (f := 6) rfl ?_); refine goesL_ (some 13) rfl rfl Try.func6 (by kernel_rfl) rfl #[.agg #[.int .i8 a0_0, .int .i8 a0_1, .slice A0_2 l0_2.length c0_2]] rfl arg_ ?_; (with_reducible refine (laws_toFixed.calls k a0_0 a0_1 _ _ l0_2 t206 t207 t208 _ ?side1 ?side2 A7.out).mono ?_); (case side1 => exact Kd.C_below HR0_2.out (bl_ HB)); (case side2 => exact HC0_2.out); rintro e w37 ⟨v209, rfl, ho0, hb⟩; refine ⟨_, rfl, ?_⟩; have n0_ := A_ (Kd.R_lower ho0 (below_size (bl_ HB))); have n1_ := A_ (blk_below (pl_ BK204) hb); have n2_ := A_ (below_step (bl_ HB) hb); clear BK204; clear HB; have HO210 := n0_; have BK204 := n1_; have HB := n2_; clear n0_ n1_ n2_; (try clear hb); (try clear hb2); (try clear hk); (try clear hi); (try clear ho0); obtain ⟨Ao38, co38, eo38⟩ := Kd.R_slice HO210.out; subst eo38) | ((with_reducible refine gate_callee (f := 5) rfl ?_); refine goesL_ (some 14) rfl rfl Try.func5 (by kernel_rfl) rfl #[.agg #[.int .i8 t206, .int .i8 t207, .slice Ao38 t208.length co38]] rfl arg_ ?_; (with_reducible refine (spec_FixedText.calls k t206 t207 _ _ t208 t211 _ ?side1 ?side2 A8.out).mono ?_); (case side1 => repeat (first | exact (Kd.R_reads' HO210.out).2.2 | (with_reducible refine Kd.C_alloc ?_ _) | (with_reducible refine Kd.C_drewN ?_ _) | (with_reducible refine Kd.C_drew ?_))); (case side2 => exact (Kd.R_reads' HO210.out).2.1); rintro e w39 ⟨rfl, hb⟩; refine ⟨_, rfl, ?_⟩; have n0_ := A_ (Kd.R_below (pr_ HO210) hb); have n1_ := A_ (blk_below (pl_ BK204) hb); have n2_ := A_ (below_step (bl_ HB) hb); clear HO210; clear BK204; clear HB; have HO210 := n0_; have BK204 := n1_; have HB := n2_; clear n0_ n1_ n2_; (try clear hb); (try clear hb2); (try clear hk); (try clear hi); obtain ⟨hcz40_0, hcz40_1, hcz40_2, hfz40_0, hfz40_1, hfz40_2⟩ := cl3_ BK204) | ((with_reducible refine gate_callee (f := 6) rfl ?_); refine goesL_ (some 16) rfl rfl Try.func6 (by kernel_rfl) rfl #[.agg #[.int .i8 a0_0, .int .i8 a0_1, .slice A0_2 l0_2.length c0_2]] rfl arg_ ?_; (with_reducible refine (laws_toFixed.calls k a0_0 a0_1 _ _ l0_2 t212 t213 t214 _ ?side1 ?side2 A9.out).mono ?_); (case side1 => exact Kd.C_below HR0_2.out (bl_ HB)); (case side2 => exact HC0_2.out); rintro e w41 ⟨v215, rfl, ho0, hb⟩; refine ⟨_, rfl, ?_⟩; have n0_ := A_ (Kd.R_elder' (pr_ HO210) (Kd.R_base ho0) hb); have n1_ := A_ (Kd.R_lower (Kd.R_new' ho0 (Kd.R_lt (pr_ HO210))) (below_size (bl_ HB))); have n2_ := A_ (blk_below (pl_ BK204) hb); have n3_ := A_ (below_step (bl_ HB) hb); clear HO210; clear BK204; clear HB; have HO210 := n0_; have HO216 := n1_; have BK204 := n2_; have HB := n3_; clear n0_ n1_ n2_ n3_; (try clear hb); (try clear hb2); (try clear hk); (try clear hi); (try clear ho0)) | ((with_reducible refine gate_dst (N := 5) rfl ?_); refine box_event ?hg (N := 5) ?hd (cs := #[.int .i8 0, .int .i8 0, .slice none 0 0]) (t := 30) ?hr ?_; (case hd => rfl); (case hg => rfl); (case hr => first | (go_simp; done) | (go_simp; rfl)); intro gb217 hg w42 hbox hb; have n0_ := A_ (Kd.R_below (pr_ HO210) hb); have n1_ := A_ (Kd.R_below (pr_ HO216) hb); have n2_ := A_ (blk_below (pl_ BK204) hb); have n3_ := A_ (below_step (bl_ HB) hb); have n4_ := A_ (hbox); have n5_ := A_ ((by rw [hg]; exact (below_size (bl_ HB)) : w.heap.size ≤ gb217)); have n6_ := n5_; have n7_ := A_ ((by rw [hg]; exact Nat.ne_of_lt (blk_lt (pl_ BK204)) : gb204 ≠ gb217)); have n8_ := Aside0.mk n7_.out.symm; clear HO210; clear HO216; clear BK204; clear HB; have HO210 := n0_; have HO216 := n1_; have BK204 := n2_; have HB := n3_; have BK217 := n4_; have GW217 := n5_; have GE217 := n6_; have NB204_217 := n7_; have NB217_204 := n8_; clear n0_ n1_ n2_ n3_ n4_ n5_ n6_ n7_ n8_; clear hb hbox hg; have hnb43 := NB217_204.out; have hnc43 := NB204_217.out; obtain ⟨hcz44_0, hcz44_1, hcz44_2, hfz44_0, hfz44_1, hfz44_2⟩ := cl3_ BK217; obtain ⟨Ao45, co45, eo45⟩ := Kd.R_slice HO216.out; subst eo45) | ((with_reducible refine gate_callee (f := 7) rfl ?_); refine goesL_ (some 18) rfl rfl Try.func7 (by kernel_rfl) rfl #[.agg #[.int .i8 t212, .int .i8 t213, .slice Ao45 t214.length co45]] rfl arg_ ?_; (with_reducible refine (impl_FixedText.calls k t212 t213 _ _ t214 t218 _ ?side1 ?side2 A10.out).mono ?_); (case side1 => refine (Kd.R_reads' (e := 43) (base := w.heap.size) (ok := fun k_ => (True ∧ some k_ ≠ (.slice Ao38 t208.length co38 : Value).ownBlock)) (n := t214.length) (c := co45) ?_).2.2; exact (by (with_reducible repeat (first | apply Kd.R_alloc | apply Kd.R_drewN | apply Kd.R_drew)); exact (rf3_ HO216 BK217 (by decide)))); (case side2 => exact (Kd.R_reads' HO216.out).2.1); rintro e w46 ⟨rfl, hb⟩; refine ⟨_, rfl, ?_⟩; have n0_ := A_ (Kd.R_below (by (with_reducible repeat (first | apply Kd.R_alloc | apply Kd.R_drewN | apply Kd.R_drew)); exact (rf3_ HO210 BK217 (by decide))) hb); have n1_ := A_ (Kd.R_below (by (with_reducible repeat (first | apply Kd.R_alloc | apply Kd.R_drewN | apply Kd.R_drew)); exact (rf3_ HO216 BK217 (by decide))) hb); have n2_ := A_ (blk_below (g := gb204) (o := .cells #[.int .i8 a0_0, .int .i8 a0_1, .slice A0_2 l0_2.length c0_2] 25 (0, 0)) (pf_ BK204 NB204_217) hb); have n3_ := A_ (blk_below (g := gb217) (o := .cells #[.int .i8 t212, .int .i8 t213, .slice Ao45 t214.length co45] 30 (0, 0)) (by (with_reducible repeat (first | refine blk_drewN ?_ _ | refine blk_drew ?_ | refine blk_alloc ?_ _)); refine blk_put (cs := #[.int .i8 t212, .int .i8 t213, .slice none 0 0]) ?_ 2 _ rfl; (with_reducible repeat (first | refine blk_drewN ?_ _ | refine blk_drew ?_ | refine blk_alloc ?_ _)); refine blk_put (cs := #[.int .i8 t212, .int .i8 0, .slice none 0 0]) ?_ 1 _ rfl; (with_reducible repeat (first | refine blk_drewN ?_ _ | refine blk_drew ?_ | refine blk_alloc ?_ _)); refine blk_put (cs := #[.int .i8 0, .int .i8 0, .slice none 0 0]) ?_ 0 _ rfl; (with_reducible repeat (first | refine blk_drewN ?_ _ | refine blk_drew ?_ | refine blk_alloc ?_ _)); exact BK217.out) hb); have n4_ := A_ (below_step (bs_ HB GE217) hb); clear HO210; clear HO216; clear BK204; clear BK217; clear HB; have HO210 := n0_; have HO216 := n1_; have BK204 := n2_; have BK217 := n3_; have HB := n4_; clear n0_ n1_ n2_ n3_ n4_; (try clear hb); (try clear hb2); (try clear hk); (try clear hi)))
    have n0_ := A_ (Kd.R_drew HO210.out)
    have n1_ := A_ (Kd.R_drew HO216.out)
    have n2_ := A_ (blk_drew BK204.out)
    have n3_ := A_ (blk_drew BK217.out)
    have n4_ := A_ (below_drew1 HB.out)
    clear HO210
    clear HO216
    clear BK204
    clear BK217
    clear HB
    have HO210 := n0_
    have HO216 := n1_
    have BK204 := n2_
    have BK217 := n3_
    have HB := n4_
    clear n0_ n1_ n2_ n3_ n4_
    refine start_ (n := 5) (S := fun w' => w'.cell? ⟨gb217, 0, none⟩ = some (.int .i8 t212) ∧ w'.cell? ⟨gb217, 1, none⟩ = some (.int .i8 t213) ∧ w'.cell? ⟨gb217, 2, none⟩ = some (.slice Ao45 t214.length co45) ∧ w'.cell? ⟨gb204, 0, none⟩ = some (.int .i8 a0_0) ∧ w'.cell? ⟨gb204, 1, none⟩ = some (.int .i8 a0_1) ∧ w'.cell? ⟨gb204, 2, none⟩ = some (.slice A0_2 l0_2.length c0_2)) (ds := []) #[false, false, false, false, false] (by kernel_rfl) rfl rfl ⟨(blk_cell BK217.out 0).trans rfl, (blk_cell BK217.out 1).trans rfl, (blk_cell BK217.out 2).trans rfl, (blk_cell BK204.out 0).trans rfl, (blk_cell BK204.out 1).trans rfl, (blk_cell BK204.out 2).trans rfl⟩ (fun hHeld => ?_)
    generalize w46.drew = w47 at HO210 HO216 BK204 BK217 HB hHeld ⊢
    refine take_ (i := 0) (N := some 22) (v := ?_) (a' := ?_) #[true, false, false, false, false] rfl rfl (by kernel_rfl) (fun _ _ _ h => h) (Or.inl ⟨by rfl, ?_⟩) hHeld ?_ ?_
    rotate_left
    ·rintro w' ⟨s0, s1, s2, s3, s4, s5⟩
     go_simp
     with_reducible rfl
    rotate_left
    ·simp only [Act.put, sp_]
     rfl
    refine take_ (i := 1) (N := some 23) (v := ?_) (a' := ?_) #[true, true, false, false, false] rfl rfl (by kernel_rfl) (fun _ _ _ h => h) (Or.inl ⟨by rfl, ?_⟩) hHeld ?_ ?_
    rotate_left
    ·rintro w' ⟨s0, s1, s2, s3, s4, s5⟩
     go_simp
     with_reducible rfl
    rotate_left
    ·simp only [Act.put, sp_]
     rfl
    refine one_ (i := 2) (N := some 24) #[true, true, true, false, false] rfl rfl (by kernel_rfl) (by decide) (fun K hK => ?_)
    refine goes_ Try.func6 (by kernel_rfl) rfl #[.agg #[.int .i8 a0_0, .int .i8 a0_1, .slice A0_2 l0_2.length c0_2]] (by rfl) rfl rfl arg_ ?_
    with_reducible refine (laws_toFixed.calls k a0_0 a0_1 _ _ l0_2 t219 t220 t221 _ ?side1 ?side2 A12.out).mono ?_
    (case side1 => exact Kd.C_below HR0_2.out (bl_ HB))
    (case side2 => exact HC0_2.out)
    rintro e w48 ⟨v222, rfl, ho0, hb⟩
    refine ⟨_, rfl, ?_⟩
    have n0_ := A_ (Kd.R_elder' (pr_ HO210) (Kd.R_base ho0) hb)
    have n1_ := A_ (Kd.R_elder' (pr_ HO216) (Kd.R_base ho0) hb)
    have n2_ := A_ (Kd.R_lower (Kd.R_new' (Kd.R_new' ho0 (Kd.R_lt (pr_ HO210))) (Kd.R_lt (pr_ HO216))) (below_size (bl_ HB)))
    have n3_ := A_ (blk_below (pl_ BK204) hb)
    have n4_ := A_ (blk_below (pl_ BK217) hb)
    have n5_ := A_ (below_step (bl_ HB) hb)
    clear HO210
    clear HO216
    clear BK204
    clear BK217
    clear HB
    have HO210 := n0_
    have HO216 := n1_
    have HO223 := n2_
    have BK204 := n3_
    have BK217 := n4_
    have HB := n5_
    clear n0_ n1_ n2_ n3_ n4_ n5_
    (try clear hb)
    (try clear hb2)
    (try clear hk)
    (try clear hi)
    (try clear ho0)
    obtain ⟨Ao49, co49, eo49⟩ := Kd.R_slice HO223.out
    (first | subst eo49 | (injection eo49 with f1_ f2_ f3_; have f4_ := f1_.symm; have f5_ := f3_.symm; clear f1_ f2_ f3_; subst f4_; subst f5_))
    refine hK.out _ _ ⟨(blk_cell BK217.out 0).trans rfl, (blk_cell BK217.out 1).trans rfl, (blk_cell BK217.out 2).trans rfl, (blk_cell BK204.out 0).trans rfl, (blk_cell BK204.out 1).trans rfl, (blk_cell BK204.out 2).trans rfl⟩ (fun hHeld => ?_)
    clear hK K
    refine norm_ (a' := ?_) ?_ ?_
    rotate_left
    ·show Act.put _ (some 24) _ = _
     simp only [Act.put, sp_]
     rfl
    refine one_ (i := 3) (N := some 25) #[true, true, true, true, false] rfl rfl (by kernel_rfl) (by decide) (fun K hK => ?_)
    refine goes_ Try.func8 (by kernel_rfl) rfl #[.agg #[.int .i8 t212, .int .i8 t213, .slice Ao45 t214.length co45], .agg #[.int .i8 t219, .int .i8 t220, .slice Ao49 t221.length co49]] (by rfl) rfl rfl arg_ ?_
    with_reducible refine (laws_eqFixed.calls k t212 t213 _ _ t214 t219 t220 _ _ t221 false _ ?side1 ?side2 ?side3 ?side4 A13.out).mono ?_
    (case side1 => repeat (first | exact (Kd.R_reads' HO216.out).2.2 | (with_reducible refine Kd.C_alloc ?_ _) | (with_reducible refine Kd.C_drewN ?_ _) | (with_reducible refine Kd.C_drew ?_)))
    (case side2 => exact (Kd.R_reads' HO216.out).2.1)
    (case side3 => repeat (first | exact (Kd.R_reads' HO223.out).2.2 | (with_reducible refine Kd.C_alloc ?_ _) | (with_reducible refine Kd.C_drewN ?_ _) | (with_reducible refine Kd.C_drew ?_)))
    (case side4 => exact (Kd.R_reads' HO223.out).2.1)
    rintro e w50 ⟨rfl, hb⟩
    refine ⟨_, rfl, ?_⟩
    have n0_ := A_ (Kd.R_below (pr_ HO210) hb)
    have n1_ := A_ (Kd.R_below (pr_ HO216) hb)
    have n2_ := A_ (Kd.R_below (pr_ HO223) hb)
    have n3_ := A_ (blk_below (pl_ BK204) hb)
    have n4_ := A_ (blk_below (pl_ BK217) hb)
    have n5_ := A_ (below_step (bl_ HB) hb)
    clear HO210
    clear HO216
    clear HO223
    clear BK204
    clear BK217
    clear HB
    have HO210 := n0_
    have HO216 := n1_
    have HO223 := n2_
    have BK204 := n3_
    have BK217 := n4_
    have HB := n5_
    clear n0_ n1_ n2_ n3_ n4_ n5_
    (try clear hb)
    (try clear hb2)
    (try clear hk)
    (try clear hi)
    refine hK.out _ _ ⟨(blk_cell BK217.out 0).trans rfl, (blk_cell BK217.out 1).trans rfl, (blk_cell BK217.out 2).trans rfl, (blk_cell BK204.out 0).trans rfl, (blk_cell BK204.out 1).trans rfl, (blk_cell BK204.out 2).trans rfl⟩ (fun hHeld => ?_)
    clear hK K
    refine norm_ (a' := ?_) ?_ ?_
    rotate_left
    ·show Act.put _ (some 25) _ = _
     simp only [Act.put, sp_]
     rfl
    refine pure_ (i := 4) (N := some 26) (v := ?_) (a' := ?_) #[true, true, true, true, true] rfl rfl (by kernel_rfl) (fun _ _ _ h => h) (Or.inl ⟨by rfl, ?_⟩) ?_ ?_
    rotate_left
    ·intro w'
     go_simp
     with_reducible rfl
    rotate_left
    ·simp only [Act.put, sp_]
     rfl
    refine done_ (by kernel_rfl) ?_
    try go_wp2
    go_ret
    exact ⟨by first | rfl | (simp [errW_none, errW_some] <;> rfl) | (simp [*, errW_none, errW_some] <;> rfl), bl_ HB⟩
  ·rw [if_neg c11] at H
   have c11b0 : (t218.toList == t211.toList) = false := beq_eq_false_iff_ne.mpr c11
   have c11b1 : (t218.toList != t211.toList) = true := bne_iff_ne.mpr c11
   obtain rfl := Option.some.inj H
   go_enter Try.func3, Try.ntmps3
   go_wp2_with (first | ((with_reducible refine gate_dst (N := 1) rfl ?_); refine box_event ?hg (N := 1) ?hd (cs := #[.int .i8 a0_0, .int .i8 a0_1, .slice A0_2 l0_2.length c0_2]) (t := 25) ?hr ?_; (case hd => rfl); (case hg => rfl); (case hr => first | (go_simp; done) | (go_simp; rfl)); intro gb204 hg w51 hbox hb; have n0_ := A_ (below_step (bl_ HB) hb); have n1_ := A_ (hbox); have n2_ := A_ ((by rw [hg]; exact (below_size (bl_ HB)) : w.heap.size ≤ gb204)); have n3_ := n2_; clear HB; have HB := n0_; have BK204 := n1_; have GW204 := n2_; have GE204 := n3_; clear n0_ n1_ n2_ n3_; clear hb hbox hg; obtain ⟨hcz52_0, hcz52_1, hcz52_2, hfz52_0, hfz52_1, hfz52_2⟩ := cl3_ BK204) | ((with_reducible refine gate_callee (f := 4) rfl ?_); refine goesL_ (some 9) rfl rfl Try.func4 (by kernel_rfl) rfl #[.agg #[.int .i8 a0_0, .int .i8 a0_1, .slice A0_2 l0_2.length c0_2], .int .i64 1048576] rfl arg_ ?_; (with_reducible refine (laws_szFixed.calls a0_0 a0_1 _ _ l0_2 1048576 t205 _ ?side1 ?side2 A2.out).mono ?_); (case side1 => exact Kd.C_below HR0_2.out (bl_ HB)); (case side2 => exact HC0_2.out); rintro e w53 ⟨rfl, hb⟩; refine ⟨_, rfl, ?_⟩; have n0_ := A_ (blk_below (pl_ BK204) hb); have n1_ := A_ (below_step (bl_ HB) hb); clear BK204; clear HB; have BK204 := n0_; have HB := n1_; clear n0_ n1_; (try clear hb); (try clear hb2); (try clear hk); (try clear hi); obtain ⟨hcz54_0, hcz54_1, hcz54_2, hfz54_0, hfz54_1, hfz54_2⟩ := cl3_ BK204) | ((with_reducible refine gate_callee (f := 6) rfl ?_); refine goesL_ (some 13) rfl rfl Try.func6 (by kernel_rfl) rfl #[.agg #[.int .i8 a0_0, .int .i8 a0_1, .slice A0_2 l0_2.length c0_2]] rfl arg_ ?_; (with_reducible refine (laws_toFixed.calls k a0_0 a0_1 _ _ l0_2 t206 t207 t208 _ ?side1 ?side2 A7.out).mono ?_); (case side1 => exact Kd.C_below HR0_2.out (bl_ HB)); (case side2 => exact HC0_2.out); rintro e w55 ⟨v209, rfl, ho0, hb⟩; refine ⟨_, rfl, ?_⟩; have n0_ := A_ (Kd.R_lower ho0 (below_size (bl_ HB))); have n1_ := A_ (blk_below (pl_ BK204) hb); have n2_ := A_ (below_step (bl_ HB) hb); clear BK204; clear HB; have HO210 := n0_; have BK204 := n1_; have HB := n2_; clear n0_ n1_ n2_; (try clear hb); (try clear hb2); (try clear hk); (try clear hi); (try clear ho0); obtain ⟨Ao56, co56, eo56⟩ := Kd.R_slice HO210.out; subst eo56) | ((with_reducible refine gate_callee (f := 5) rfl ?_); refine goesL_ (some 14) rfl rfl Try.func5 (by kernel_rfl) rfl #[.agg #[.int .i8 t206, .int .i8 t207, .slice Ao56 t208.length co56]] rfl arg_ ?_; (with_reducible refine (spec_FixedText.calls k t206 t207 _ _ t208 t211 _ ?side1 ?side2 A8.out).mono ?_); (case side1 => repeat (first | exact (Kd.R_reads' HO210.out).2.2 | (with_reducible refine Kd.C_alloc ?_ _) | (with_reducible refine Kd.C_drewN ?_ _) | (with_reducible refine Kd.C_drew ?_))); (case side2 => exact (Kd.R_reads' HO210.out).2.1); rintro e w57 ⟨rfl, hb⟩; refine ⟨_, rfl, ?_⟩; have n0_ := A_ (Kd.R_below (pr_ HO210) hb); have n1_ := A_ (blk_below (pl_ BK204) hb); have n2_ := A_ (below_step (bl_ HB) hb); clear HO210; clear BK204; clear HB; have HO210 := n0_; have BK204 := n1_; have HB := n2_; clear n0_ n1_ n2_; (try clear hb); (try clear hb2); (try clear hk); (try clear hi); obtain ⟨hcz58_0, hcz58_1, hcz58_2, hfz58_0, hfz58_1, hfz58_2⟩ := cl3_ BK204) | ((with_reducible refine gate_callee (f := 6) rfl ?_); refine goesL_ (some 16) rfl rfl Try.func6 (by kernel_rfl) rfl #[.agg #[.int .i8 a0_0, .int .i8 a0_1, .slice A0_2 l0_2.length c0_2]] rfl arg_ ?_; (with_reducible refine (laws_toFixed.calls k a0_0 a0_1 _ _ l0_2 t212 t213 t214 _ ?side1 ?side2 A9.out).mono ?_); (case side1 => exact Kd.C_below HR0_2.out (bl_ HB)); (case side2 => exact HC0_2.out); rintro e w59 ⟨v215, rfl, ho0, hb⟩; refine ⟨_, rfl, ?_⟩; have n0_ := A_ (Kd.R_elder' (pr_ HO210) (Kd.R_base ho0) hb); have n1_ := A_ (Kd.R_lower (Kd.R_new' ho0 (Kd.R_lt (pr_ HO210))) (below_size (bl_ HB))); have n2_ := A_ (blk_below (pl_ BK204) hb); have n3_ := A_ (below_step (bl_ HB) hb); clear HO210; clear BK204; clear HB; have HO210 := n0_; have HO216 := n1_; have BK204 := n2_; have HB := n3_; clear n0_ n1_ n2_ n3_; (try clear hb); (try clear hb2); (try clear hk); (try clear hi); (try clear ho0)) | ((with_reducible refine gate_dst (N := 5) rfl ?_); refine box_event ?hg (N := 5) ?hd (cs := #[.int .i8 0, .int .i8 0, .slice none 0 0]) (t := 30) ?hr ?_; (case hd => rfl); (case hg => rfl); (case hr => first | (go_simp; done) | (go_simp; rfl)); intro gb217 hg w60 hbox hb; have n0_ := A_ (Kd.R_below (pr_ HO210) hb); have n1_ := A_ (Kd.R_below (pr_ HO216) hb); have n2_ := A_ (blk_below (pl_ BK204) hb); have n3_ := A_ (below_step (bl_ HB) hb); have n4_ := A_ (hbox); have n5_ := A_ ((by rw [hg]; exact (below_size (bl_ HB)) : w.heap.size ≤ gb217)); have n6_ := n5_; have n7_ := A_ ((by rw [hg]; exact Nat.ne_of_lt (blk_lt (pl_ BK204)) : gb204 ≠ gb217)); have n8_ := Aside0.mk n7_.out.symm; clear HO210; clear HO216; clear BK204; clear HB; have HO210 := n0_; have HO216 := n1_; have BK204 := n2_; have HB := n3_; have BK217 := n4_; have GW217 := n5_; have GE217 := n6_; have NB204_217 := n7_; have NB217_204 := n8_; clear n0_ n1_ n2_ n3_ n4_ n5_ n6_ n7_ n8_; clear hb hbox hg; have hnb61 := NB217_204.out; have hnc61 := NB204_217.out; obtain ⟨hcz62_0, hcz62_1, hcz62_2, hfz62_0, hfz62_1, hfz62_2⟩ := cl3_ BK217; obtain ⟨Ao63, co63, eo63⟩ := Kd.R_slice HO216.out; subst eo63) | ((with_reducible refine gate_callee (f := 7) rfl ?_); refine goesL_ (some 18) rfl rfl Try.func7 (by kernel_rfl) rfl #[.agg #[.int .i8 t212, .int .i8 t213, .slice Ao63 t214.length co63]] rfl arg_ ?_; (with_reducible refine (impl_FixedText.calls k t212 t213 _ _ t214 t218 _ ?side1 ?side2 A10.out).mono ?_); (case side1 => refine (Kd.R_reads' (e := 43) (base := w.heap.size) (ok := fun k_ => (True ∧ some k_ ≠ (.slice Ao56 t208.length co56 : Value).ownBlock)) (n := t214.length) (c := co63) ?_).2.2; exact (by (with_reducible repeat (first | apply Kd.R_alloc | apply Kd.R_drewN | apply Kd.R_drew)); exact (rf3_ HO216 BK217 (by decide)))); (case side2 => exact (Kd.R_reads' HO216.out).2.1); rintro e w64 ⟨rfl, hb⟩; refine ⟨_, rfl, ?_⟩; have n0_ := A_ (Kd.R_below (by (with_reducible repeat (first | apply Kd.R_alloc | apply Kd.R_drewN | apply Kd.R_drew)); exact (rf3_ HO210 BK217 (by decide))) hb); have n1_ := A_ (Kd.R_below (by (with_reducible repeat (first | apply Kd.R_alloc | apply Kd.R_drewN | apply Kd.R_drew)); exact (rf3_ HO216 BK217 (by decide))) hb); have n2_ := A_ (blk_below (g := gb204) (o := .cells #[.int .i8 a0_0, .int .i8 a0_1, .slice A0_2 l0_2.length c0_2] 25 (0, 0)) (pf_ BK204 NB204_217) hb); have n3_ := A_ (blk_below (g := gb217) (o := .cells #[.int .i8 t212, .int .i8 t213, .slice Ao63 t214.length co63] 30 (0, 0)) (by (with_reducible repeat (first | refine blk_drewN ?_ _ | refine blk_drew ?_ | refine blk_alloc ?_ _)); refine blk_put (cs := #[.int .i8 t212, .int .i8 t213, .slice none 0 0]) ?_ 2 _ rfl; (with_reducible repeat (first | refine blk_drewN ?_ _ | refine blk_drew ?_ | refine blk_alloc ?_ _)); refine blk_put (cs := #[.int .i8 t212, .int .i8 0, .slice none 0 0]) ?_ 1 _ rfl; (with_reducible repeat (first | refine blk_drewN ?_ _ | refine blk_drew ?_ | refine blk_alloc ?_ _)); refine blk_put (cs := #[.int .i8 0, .int .i8 0, .slice none 0 0]) ?_ 0 _ rfl; (with_reducible repeat (first | refine blk_drewN ?_ _ | refine blk_drew ?_ | refine blk_alloc ?_ _)); exact BK217.out) hb); have n4_ := A_ (below_step (bs_ HB GE217) hb); clear HO210; clear HO216; clear BK204; clear BK217; clear HB; have HO210 := n0_; have HO216 := n1_; have BK204 := n2_; have BK217 := n3_; have HB := n4_; clear n0_ n1_ n2_ n3_ n4_; (try clear hb); (try clear hb2); (try clear hk); (try clear hi)))
   go_ret
   exact ⟨by first | rfl | (simp [errW_none, errW_some] <;> rfl) | (simp [*, errW_none, errW_some] <;> rfl), bl_ HB⟩

end Go.Proofs.Ytmekcockddoaiaa.M
