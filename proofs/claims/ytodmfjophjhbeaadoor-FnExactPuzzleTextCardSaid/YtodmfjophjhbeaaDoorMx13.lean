-- By this seat's own program over the kit's printer (arrays, functions told by hand); nothing of it is trusted: the kernel checks it.
import Derived.Test.YtodmfjophjhbeaaDoorMx0
import Derived.Test.YtodmfjophjhbeaaDoorMx1
import Derived.Test.YtodmfjophjhbeaaDoorMx6
import Derived.Test.YtodmfjophjhbeaaDoorMx10
import Derived.Test.YtodmfjophjhbeaaDoorMx12
namespace Go.Proofs.YtodmfjophjhbeaaDoor.M
open Go.RowKit Go.Proofs.YtodmfjophjhbeaaDoorW.PrintWords Go.Proofs.YtodmfjophjhbeaaDoorW.PrintLast Go.Proofs.YtodmfjophjhbeaaDoorW.PrintMore
attribute [local go_sem] max2_int min2_int max_two min_two max_three min_three max_four min_four   -- for this text's walks alone
set_option linter.unusedVariables false
set_option linter.unusedSimpArgs false

/-! ### laws_FnExactPuzzleText: function 3 -/
def laws_FnExactPuzzleText.f (k : Nat) (l0_0 : List Int) (a0_1 : Int) (a0_2 : Int) (a0_3 : Int) (a0_4 : Int) (a0_5 : Bool) : Option (Bool) := (laws_szPuzzle.f l0_0 a0_1 a0_2 a0_3 a0_4 a0_5 1048576).bind fun t195 => (if t195 < 0 then (some true) else ((laws_toPuzzle.f k l0_0 a0_1 a0_2 a0_3 a0_4 a0_5).bind fun bt196 => ((spec_PuzzleText.f k bt196.1 bt196.2.1 bt196.2.2.1 bt196.2.2.2.1 bt196.2.2.2.2.1 bt196.2.2.2.2.2).bind fun t204 => ((laws_toPuzzle.f k l0_0 a0_1 a0_2 a0_3 a0_4 a0_5).bind fun bt205 => ((impl_PuzzleText.f k bt205.1 bt205.2.1 bt205.2.2.1 bt205.2.2.2.1 bt205.2.2.2.2.1 bt205.2.2.2.2.2).bind fun t214 => (if t214.toList = t204.toList then ((laws_toPuzzle.f k l0_0 a0_1 a0_2 a0_3 a0_4 a0_5).bind fun bt215 => ((laws_eqPuzzle.f k bt205.1 bt205.2.1 bt205.2.2.1 bt205.2.2.2.1 bt205.2.2.2.2.1 bt205.2.2.2.2.2 bt215.1 bt215.2.1 bt215.2.2.1 bt215.2.2.2.1 bt215.2.2.2.2.1 bt215.2.2.2.2.2).bind fun t223 => (if t223 = true then (some true) else (some false)))) else (some false)))))))
theorem laws_FnExactPuzzleText.mono : ∀ a0 a1 a2 a3 a4 a5 k, LeO (laws_FnExactPuzzleText.f k a0 a1 a2 a3 a4 a5) (laws_FnExactPuzzleText.f (k + 1) a0 a1 a2 a3 a4 a5) := by
 intro a0 a1 a2 a3 a4 a5 k
 unfold laws_FnExactPuzzleText.f
 repeat' first
   | (with_reducible exact impl_PuzzleText.mono _ _ _ _ _ _ _)
   | (with_reducible exact laws_eqPuzzle.mono _ _ _ _ _ _ _ _ _ _ _ _ _)
   | (with_reducible exact laws_toPuzzle.mono _ _ _ _ _ _ _)
   | (with_reducible exact spec_PuzzleText.mono _ _ _ _ _ _ _)
   | (with_reducible exact LeO.refl _)
   | (with_reducible exact LeO.none _)
   | (with_reducible refine LeO.ite ?_ ?_)
   | (with_reducible refine LeO.bind ?_ (fun _ => ?_))
   | exact impl_PuzzleText.mono _ _ _ _ _ _ _
   | exact laws_eqPuzzle.mono _ _ _ _ _ _ _ _ _ _ _ _ _
   | exact laws_toPuzzle.mono _ _ _ _ _ _ _
   | exact spec_PuzzleText.mono _ _ _ _ _ _ _
   | exact LeO.none _
   | refine LeO.ite ?_ ?_
   | refine LeO.bind ?_ (fun _ => ?_)
set_option maxHeartbeats 8000000 in
set_option maxRecDepth 100000 in
theorem laws_FnExactPuzzleText.calls (k : Nat) (A0_0 : Option Addr) (c0_0 : Nat) (l0_0 : List Int) (a0_1 : Int) (a0_2 : Int) (a0_3 : Int) (a0_4 : Int) (a0_5 : Bool) (r : Bool) (w : World) (hr0_0 : Kd.C (Kd.int .i16) w A0_0 l0_0.length l0_0) (hc0_0 : l0_0.length ≤ c0_0) (h : laws_FnExactPuzzleText.f k l0_0 a0_1 a0_2 a0_3 a0_4 a0_5 = some r) :
  Calls Tryd.prog 3 #[.agg #[.slice A0_0 l0_0.length c0_0, .int .i16 a0_1, .int .i16 a0_2, .int .i16 a0_3, .int .i16 a0_4, .bool a0_5]] w fun e w' => e = .returned (.bool r) ∧ Below w.heap.size w w' := by
 have hu26 := Tryd.underlying26
 have hu31 := Tryd.underlying31
 have HR0_0 := Aside0.mk hr0_0
 have HC0_0 := Aside0.mk hc0_0
 clear hr0_0 hc0_0
 have HB := A_ (Below.refl w.heap.size w)
 have H : ((laws_szPuzzle.f l0_0 a0_1 a0_2 a0_3 a0_4 a0_5 1048576).bind fun t195 => (if t195 < 0 then (some true) else ((laws_toPuzzle.f k l0_0 a0_1 a0_2 a0_3 a0_4 a0_5).bind fun bt196 => ((spec_PuzzleText.f k bt196.1 bt196.2.1 bt196.2.2.1 bt196.2.2.2.1 bt196.2.2.2.2.1 bt196.2.2.2.2.2).bind fun t204 => ((laws_toPuzzle.f k l0_0 a0_1 a0_2 a0_3 a0_4 a0_5).bind fun bt205 => ((impl_PuzzleText.f k bt205.1 bt205.2.1 bt205.2.2.1 bt205.2.2.2.1 bt205.2.2.2.2.1 bt205.2.2.2.2.2).bind fun t214 => (if t214.toList = t204.toList then ((laws_toPuzzle.f k l0_0 a0_1 a0_2 a0_3 a0_4 a0_5).bind fun bt215 => ((laws_eqPuzzle.f k bt205.1 bt205.2.1 bt205.2.2.1 bt205.2.2.2.1 bt205.2.2.2.2.1 bt205.2.2.2.2.2 bt215.1 bt215.2.1 bt215.2.2.1 bt215.2.2.2.1 bt215.2.2.2.2.1 bt215.2.2.2.2.2).bind fun t223 => (if t223 = true then (some true) else (some false)))) else (some false)))))))) = some r := h
 clear h
 replace H := Option.bind_eq_some_iff.mp H
 obtain ⟨t195, A20, H⟩ := H
 replace H : (if t195 < 0 then (some true) else ((laws_toPuzzle.f k l0_0 a0_1 a0_2 a0_3 a0_4 a0_5).bind fun bt196 => ((spec_PuzzleText.f k bt196.1 bt196.2.1 bt196.2.2.1 bt196.2.2.2.1 bt196.2.2.2.2.1 bt196.2.2.2.2.2).bind fun t204 => ((laws_toPuzzle.f k l0_0 a0_1 a0_2 a0_3 a0_4 a0_5).bind fun bt205 => ((impl_PuzzleText.f k bt205.1 bt205.2.1 bt205.2.2.1 bt205.2.2.2.1 bt205.2.2.2.2.1 bt205.2.2.2.2.2).bind fun t214 => (if t214.toList = t204.toList then ((laws_toPuzzle.f k l0_0 a0_1 a0_2 a0_3 a0_4 a0_5).bind fun bt215 => ((laws_eqPuzzle.f k bt205.1 bt205.2.1 bt205.2.2.1 bt205.2.2.2.1 bt205.2.2.2.2.1 bt205.2.2.2.2.2 bt215.1 bt215.2.1 bt215.2.2.1 bt215.2.2.2.1 bt215.2.2.2.2.1 bt215.2.2.2.2.2).bind fun t223 => (if t223 = true then (some true) else (some false)))) else (some false))))))) = some r := H
 have A2 := Aside0.mk A20
 clear A20
 by_cases c3 : t195 < 0
 ·rw [if_pos c3] at H
  have c3b0 : decide (t195 < 0) = true := decide_eq_true c3
  clear c3
  obtain rfl := Option.some.inj H
  go_enter Tryd.func3, Tryd.ntmps3
  go_wp2_with (first | ((with_reducible refine gate_dst (N := 1) rfl ?_); refine box_event ?hg (N := 1) ?hd (cs := #[.slice A0_0 l0_0.length c0_0, .int .i16 a0_1, .int .i16 a0_2, .int .i16 a0_3, .int .i16 a0_4, .bool a0_5]) (t := 26) ?hr ?_; (case hd => rfl); (case hg => rfl); (case hr => first | (go_simp; done) | (go_simp; rfl)); intro gb194 hg w4 hbox hb; have n0_ := A_ (below_step (bl_ HB) hb); have n1_ := A_ (hbox); have n2_ := A_ ((by rw [hg]; exact (below_size (bl_ HB)) : w.heap.size ≤ gb194)); have n3_ := n2_; clear HB; have HB := n0_; have BK194 := n1_; have GW194 := n2_; have GE194 := n3_; clear n0_ n1_ n2_ n3_; clear hb hbox hg; obtain ⟨hcz5_0, hcz5_1, hcz5_2, hcz5_3, hcz5_4, hcz5_5, hfz5_0, hfz5_1, hfz5_2, hfz5_3, hfz5_4, hfz5_5⟩ := cl6_ BK194) | ((with_reducible refine gate_callee (f := 5) rfl ?_); refine goesL_ (some 9) rfl rfl Tryd.func5 (by kernel_rfl) rfl #[.agg #[.slice A0_0 l0_0.length c0_0, .int .i16 a0_1, .int .i16 a0_2, .int .i16 a0_3, .int .i16 a0_4, .bool a0_5], .int .i64 1048576] rfl arg_ ?_; (with_reducible refine (laws_szPuzzle.calls _ _ l0_0 a0_1 a0_2 a0_3 a0_4 a0_5 1048576 t195 _ ?side1 ?side2 A2.out).mono ?_); (case side1 => exact Kd.C_below HR0_0.out (bl_ HB)); (case side2 => exact HC0_0.out); rintro e w6 ⟨rfl, hb⟩; refine ⟨_, rfl, ?_⟩; have n0_ := A_ (blk_below (pl_ BK194) hb); have n1_ := A_ (below_step (bl_ HB) hb); clear BK194; clear HB; have BK194 := n0_; have HB := n1_; clear n0_ n1_; (try clear hb); (try clear hb2); (try clear hk); (try clear hi)))
  go_ret
  exact ⟨by first | rfl | (simp [errW_none, errW_some] <;> rfl) | (simp [*, errW_none, errW_some] <;> rfl), bl_ HB⟩
 ·rw [if_neg c3] at H
  have c3b0 : decide (t195 < 0) = false := decide_eq_false c3
  clear c3
  replace H := Option.bind_eq_some_iff.mp H
  obtain ⟨⟨t196, t199, t200, t201, t202, t203⟩, A70, H⟩ := H
  replace H : ((spec_PuzzleText.f k t196 t199 t200 t201 t202 t203).bind fun t204 => ((laws_toPuzzle.f k l0_0 a0_1 a0_2 a0_3 a0_4 a0_5).bind fun bt205 => ((impl_PuzzleText.f k bt205.1 bt205.2.1 bt205.2.2.1 bt205.2.2.2.1 bt205.2.2.2.2.1 bt205.2.2.2.2.2).bind fun t214 => (if t214.toList = t204.toList then ((laws_toPuzzle.f k l0_0 a0_1 a0_2 a0_3 a0_4 a0_5).bind fun bt215 => ((laws_eqPuzzle.f k bt205.1 bt205.2.1 bt205.2.2.1 bt205.2.2.2.1 bt205.2.2.2.2.1 bt205.2.2.2.2.2 bt215.1 bt215.2.1 bt215.2.2.1 bt215.2.2.2.1 bt215.2.2.2.2.1 bt215.2.2.2.2.2).bind fun t223 => (if t223 = true then (some true) else (some false)))) else (some false))))) = some r := H
  have A7 := Aside0.mk A70
  clear A70
  replace H := Option.bind_eq_some_iff.mp H
  obtain ⟨t204, A80, H⟩ := H
  replace H : ((laws_toPuzzle.f k l0_0 a0_1 a0_2 a0_3 a0_4 a0_5).bind fun bt205 => ((impl_PuzzleText.f k bt205.1 bt205.2.1 bt205.2.2.1 bt205.2.2.2.1 bt205.2.2.2.2.1 bt205.2.2.2.2.2).bind fun t214 => (if t214.toList = t204.toList then ((laws_toPuzzle.f k l0_0 a0_1 a0_2 a0_3 a0_4 a0_5).bind fun bt215 => ((laws_eqPuzzle.f k bt205.1 bt205.2.1 bt205.2.2.1 bt205.2.2.2.1 bt205.2.2.2.2.1 bt205.2.2.2.2.2 bt215.1 bt215.2.1 bt215.2.2.1 bt215.2.2.2.1 bt215.2.2.2.2.1 bt215.2.2.2.2.2).bind fun t223 => (if t223 = true then (some true) else (some false)))) else (some false)))) = some r := H
  have A8 := Aside0.mk A80
  clear A80
  replace H := Option.bind_eq_some_iff.mp H
  obtain ⟨⟨t205, t208, t209, t210, t211, t212⟩, A90, H⟩ := H
  replace H : ((impl_PuzzleText.f k t205 t208 t209 t210 t211 t212).bind fun t214 => (if t214.toList = t204.toList then ((laws_toPuzzle.f k l0_0 a0_1 a0_2 a0_3 a0_4 a0_5).bind fun bt215 => ((laws_eqPuzzle.f k t205 t208 t209 t210 t211 t212 bt215.1 bt215.2.1 bt215.2.2.1 bt215.2.2.2.1 bt215.2.2.2.2.1 bt215.2.2.2.2.2).bind fun t223 => (if t223 = true then (some true) else (some false)))) else (some false))) = some r := H
  have A9 := Aside0.mk A90
  clear A90
  replace H := Option.bind_eq_some_iff.mp H
  obtain ⟨t214, A100, H⟩ := H
  replace H : (if t214.toList = t204.toList then ((laws_toPuzzle.f k l0_0 a0_1 a0_2 a0_3 a0_4 a0_5).bind fun bt215 => ((laws_eqPuzzle.f k t205 t208 t209 t210 t211 t212 bt215.1 bt215.2.1 bt215.2.2.1 bt215.2.2.2.1 bt215.2.2.2.2.1 bt215.2.2.2.2.2).bind fun t223 => (if t223 = true then (some true) else (some false)))) else (some false)) = some r := H
  have A10 := Aside0.mk A100
  clear A100
  by_cases c11 : t214.toList = t204.toList
  ·rw [if_pos c11] at H
   have c11b0 : (t214.toList == t204.toList) = true := beq_iff_eq.mpr c11
   have c11b1 : (t214.toList != t204.toList) = false := bne_eq_false_iff_eq.mpr c11
   clear c11
   replace H := Option.bind_eq_some_iff.mp H
   obtain ⟨⟨t215, t218, t219, t220, t221, t222⟩, A120, H⟩ := H
   replace H : ((laws_eqPuzzle.f k t205 t208 t209 t210 t211 t212 t215 t218 t219 t220 t221 t222).bind fun t223 => (if t223 = true then (some true) else (some false))) = some r := H
   have A12 := Aside0.mk A120
   clear A120
   replace H := Option.bind_eq_some_iff.mp H
   obtain ⟨t223, A130, H⟩ := H
   replace H : (if t223 = true then (some true) else (some false)) = some r := H
   have A13 := Aside0.mk A130
   clear A130
   by_cases c14 : t223 = true
   ·subst c14
    have H1 : (some true) = some r := by rw [if_pos rfl] at H; exact H
    clear H
    have H := H1
    clear H1
    obtain rfl := Option.some.inj H
    go_enter Tryd.func3, Tryd.ntmps3
    try go_wp2_with (first | ((with_reducible refine gate_dst (N := 1) rfl ?_); refine box_event ?hg (N := 1) ?hd (cs := #[.slice A0_0 l0_0.length c0_0, .int .i16 a0_1, .int .i16 a0_2, .int .i16 a0_3, .int .i16 a0_4, .bool a0_5]) (t := 26) ?hr ?_; (case hd => rfl); (case hg => rfl); (case hr => first | (go_simp; done) | (go_simp; rfl)); intro gb194 hg w15 hbox hb; have n0_ := A_ (below_step (bl_ HB) hb); have n1_ := A_ (hbox); have n2_ := A_ ((by rw [hg]; exact (below_size (bl_ HB)) : w.heap.size ≤ gb194)); have n3_ := n2_; clear HB; have HB := n0_; have BK194 := n1_; have GW194 := n2_; have GE194 := n3_; clear n0_ n1_ n2_ n3_; clear hb hbox hg; obtain ⟨hcz16_0, hcz16_1, hcz16_2, hcz16_3, hcz16_4, hcz16_5, hfz16_0, hfz16_1, hfz16_2, hfz16_3, hfz16_4, hfz16_5⟩ := cl6_ BK194) | ((with_reducible refine gate_callee (f := 5) rfl ?_); refine goesL_ (some 9) rfl rfl Tryd.func5 (by kernel_rfl) rfl #[.agg #[.slice A0_0 l0_0.length c0_0, .int .i16 a0_1, .int .i16 a0_2, .int .i16 a0_3, .int .i16 a0_4, .bool a0_5], .int .i64 1048576] rfl arg_ ?_; (with_reducible refine (laws_szPuzzle.calls _ _ l0_0 a0_1 a0_2 a0_3 a0_4 a0_5 1048576 t195 _ ?side1 ?side2 A2.out).mono ?_); (case side1 => exact Kd.C_below HR0_0.out (bl_ HB)); (case side2 => exact HC0_0.out); rintro e w17 ⟨rfl, hb⟩; refine ⟨_, rfl, ?_⟩; have n0_ := A_ (blk_below (pl_ BK194) hb); have n1_ := A_ (below_step (bl_ HB) hb); clear BK194; clear HB; have BK194 := n0_; have HB := n1_; clear n0_ n1_; (try clear hb); (try clear hb2); (try clear hk); (try clear hi); obtain ⟨hcz18_0, hcz18_1, hcz18_2, hcz18_3, hcz18_4, hcz18_5, hfz18_0, hfz18_1, hfz18_2, hfz18_3, hfz18_4, hfz18_5⟩ := cl6_ BK194) | ((with_reducible refine gate_callee (f := 7) rfl ?_); refine goesL_ (some 13) rfl rfl Tryd.func7 (by kernel_rfl) rfl #[.agg #[.slice A0_0 l0_0.length c0_0, .int .i16 a0_1, .int .i16 a0_2, .int .i16 a0_3, .int .i16 a0_4, .bool a0_5]] rfl arg_ ?_; (with_reducible refine (laws_toPuzzle.calls k _ _ l0_0 a0_1 a0_2 a0_3 a0_4 a0_5 t196 t199 t200 t201 t202 t203 _ ?side1 ?side2 A7.out).mono ?_); (case side1 => exact Kd.C_below HR0_0.out (bl_ HB)); (case side2 => exact HC0_0.out); rintro e w19 ⟨v197, rfl, ho0, hb⟩; refine ⟨_, rfl, ?_⟩; have n0_ := A_ (Kd.R_lower ho0 (below_size (bl_ HB))); have n1_ := A_ (blk_below (pl_ BK194) hb); have n2_ := A_ (below_step (bl_ HB) hb); clear BK194; clear HB; have HO198 := n0_; have BK194 := n1_; have HB := n2_; clear n0_ n1_ n2_; (try clear hb); (try clear hb2); (try clear hk); (try clear hi); (try clear ho0); obtain ⟨Ao20, co20, eo20⟩ := Kd.R_slice HO198.out; subst eo20) | ((with_reducible refine gate_callee (f := 6) rfl ?_); refine goesL_ (some 14) rfl rfl Tryd.func6 (by kernel_rfl) rfl #[.agg #[.slice Ao20 t196.length co20, .int .i16 t199, .int .i16 t200, .int .i16 t201, .int .i16 t202, .bool t203]] rfl arg_ ?_; (with_reducible refine (spec_PuzzleText.calls k _ _ t196 t199 t200 t201 t202 t203 t204 _ ?side1 ?side2 A8.out).mono ?_); (case side1 => repeat (first | exact (Kd.R_reads' HO198.out).2.2 | (with_reducible refine Kd.C_alloc ?_ _) | (with_reducible refine Kd.C_drewN ?_ _) | (with_reducible refine Kd.C_drew ?_))); (case side2 => exact (Kd.R_reads' HO198.out).2.1); rintro e w21 ⟨rfl, hb⟩; refine ⟨_, rfl, ?_⟩; have n0_ := A_ (Kd.R_below (pr_ HO198) hb); have n1_ := A_ (blk_below (pl_ BK194) hb); have n2_ := A_ (below_step (bl_ HB) hb); clear HO198; clear BK194; clear HB; have HO198 := n0_; have BK194 := n1_; have HB := n2_; clear n0_ n1_ n2_; (try clear hb); (try clear hb2); (try clear hk); (try clear hi); obtain ⟨hcz22_0, hcz22_1, hcz22_2, hcz22_3, hcz22_4, hcz22_5, hfz22_0, hfz22_1, hfz22_2, hfz22_3, hfz22_4, hfz22_5⟩ := cl6_ BK194) | ((with_reducible refine gate_callee (f := 7) rfl ?_); refine goesL_ (some 16) rfl rfl Tryd.func7 (by kernel_rfl) rfl #[.agg #[.slice A0_0 l0_0.length c0_0, .int .i16 a0_1, .int .i16 a0_2, .int .i16 a0_3, .int .i16 a0_4, .bool a0_5]] rfl arg_ ?_; (with_reducible refine (laws_toPuzzle.calls k _ _ l0_0 a0_1 a0_2 a0_3 a0_4 a0_5 t205 t208 t209 t210 t211 t212 _ ?side1 ?side2 A9.out).mono ?_); (case side1 => exact Kd.C_below HR0_0.out (bl_ HB)); (case side2 => exact HC0_0.out); rintro e w23 ⟨v206, rfl, ho0, hb⟩; refine ⟨_, rfl, ?_⟩; have n0_ := A_ (Kd.R_elder' (pr_ HO198) (Kd.R_base ho0) hb); have n1_ := A_ (Kd.R_lower (Kd.R_new' ho0 (Kd.R_lt (pr_ HO198))) (below_size (bl_ HB))); have n2_ := A_ (blk_below (pl_ BK194) hb); have n3_ := A_ (below_step (bl_ HB) hb); clear HO198; clear BK194; clear HB; have HO198 := n0_; have HO207 := n1_; have BK194 := n2_; have HB := n3_; clear n0_ n1_ n2_ n3_; (try clear hb); (try clear hb2); (try clear hk); (try clear hi); (try clear ho0)) | ((with_reducible refine gate_dst (N := 5) rfl ?_); refine box_event ?hg (N := 5) ?hd (cs := #[.slice none 0 0, .int .i16 0, .int .i16 0, .int .i16 0, .int .i16 0, .bool false]) (t := 31) ?hr ?_; (case hd => rfl); (case hg => rfl); (case hr => first | (go_simp; done) | (go_simp; rfl)); intro gb213 hg w24 hbox hb; have n0_ := A_ (Kd.R_below (pr_ HO198) hb); have n1_ := A_ (Kd.R_below (pr_ HO207) hb); have n2_ := A_ (blk_below (pl_ BK194) hb); have n3_ := A_ (below_step (bl_ HB) hb); have n4_ := A_ (hbox); have n5_ := A_ ((by rw [hg]; exact (below_size (bl_ HB)) : w.heap.size ≤ gb213)); have n6_ := n5_; have n7_ := A_ ((by rw [hg]; exact Nat.ne_of_lt (blk_lt (pl_ BK194)) : gb194 ≠ gb213)); have n8_ := Aside0.mk n7_.out.symm; clear HO198; clear HO207; clear BK194; clear HB; have HO198 := n0_; have HO207 := n1_; have BK194 := n2_; have HB := n3_; have BK213 := n4_; have GW213 := n5_; have GE213 := n6_; have NB194_213 := n7_; have NB213_194 := n8_; clear n0_ n1_ n2_ n3_ n4_ n5_ n6_ n7_ n8_; clear hb hbox hg; obtain ⟨Ao25, co25, eo25⟩ := Kd.R_slice HO207.out; subst eo25; have hnb26 := NB213_194.out; have hnc26 := NB194_213.out; obtain ⟨hcz27_0, hcz27_1, hcz27_2, hcz27_3, hcz27_4, hcz27_5, hfz27_0, hfz27_1, hfz27_2, hfz27_3, hfz27_4, hfz27_5⟩ := cl6_ BK213) | ((with_reducible refine gate_callee (f := 8) rfl ?_); refine goesL_ (some 18) rfl rfl Tryd.func8 (by kernel_rfl) rfl #[.agg #[.slice Ao25 t205.length co25, .int .i16 t208, .int .i16 t209, .int .i16 t210, .int .i16 t211, .bool t212]] rfl arg_ ?_; (with_reducible refine (impl_PuzzleText.calls k _ _ t205 t208 t209 t210 t211 t212 t214 _ ?side1 ?side2 A10.out).mono ?_); (case side1 => refine (Kd.R_reads' (e := 23) (base := w.heap.size) (ok := fun k_ => (True ∧ some k_ ≠ (.slice Ao20 t196.length co20 : Value).ownBlock)) (n := t205.length) (c := co25) ?_).2.2; exact (by (with_reducible repeat (first | apply Kd.R_alloc | apply Kd.R_drewN | apply Kd.R_drew)); exact (rf6_ HO207 BK213 (by decide)))); (case side2 => exact (Kd.R_reads' HO207.out).2.1); rintro e w28 ⟨rfl, hb⟩; refine ⟨_, rfl, ?_⟩; have n0_ := A_ (Kd.R_below (by (with_reducible repeat (first | apply Kd.R_alloc | apply Kd.R_drewN | apply Kd.R_drew)); exact (rf6_ HO198 BK213 (by decide))) hb); have n1_ := A_ (Kd.R_below (by (with_reducible repeat (first | apply Kd.R_alloc | apply Kd.R_drewN | apply Kd.R_drew)); exact (rf6_ HO207 BK213 (by decide))) hb); have n2_ := A_ (blk_below (g := gb194) (o := .cells #[.slice A0_0 l0_0.length c0_0, .int .i16 a0_1, .int .i16 a0_2, .int .i16 a0_3, .int .i16 a0_4, .bool a0_5] 26 (0, 0)) (pf_ BK194 NB194_213) hb); have n3_ := A_ (blk_below (g := gb213) (o := .cells #[.slice Ao25 t205.length co25, .int .i16 t208, .int .i16 t209, .int .i16 t210, .int .i16 t211, .bool t212] 31 (0, 0)) (by (with_reducible repeat (first | refine blk_drewN ?_ _ | refine blk_drew ?_ | refine blk_alloc ?_ _)); refine blk_put (cs := #[.slice Ao25 t205.length co25, .int .i16 t208, .int .i16 t209, .int .i16 t210, .int .i16 t211, .bool false]) ?_ 5 _ rfl; (with_reducible repeat (first | refine blk_drewN ?_ _ | refine blk_drew ?_ | refine blk_alloc ?_ _)); refine blk_put (cs := #[.slice Ao25 t205.length co25, .int .i16 t208, .int .i16 t209, .int .i16 t210, .int .i16 0, .bool false]) ?_ 4 _ rfl; (with_reducible repeat (first | refine blk_drewN ?_ _ | refine blk_drew ?_ | refine blk_alloc ?_ _)); refine blk_put (cs := #[.slice Ao25 t205.length co25, .int .i16 t208, .int .i16 t209, .int .i16 0, .int .i16 0, .bool false]) ?_ 3 _ rfl; (with_reducible repeat (first | refine blk_drewN ?_ _ | refine blk_drew ?_ | refine blk_alloc ?_ _)); refine blk_put (cs := #[.slice Ao25 t205.length co25, .int .i16 t208, .int .i16 0, .int .i16 0, .int .i16 0, .bool false]) ?_ 2 _ rfl; (with_reducible repeat (first | refine blk_drewN ?_ _ | refine blk_drew ?_ | refine blk_alloc ?_ _)); refine blk_put (cs := #[.slice Ao25 t205.length co25, .int .i16 0, .int .i16 0, .int .i16 0, .int .i16 0, .bool false]) ?_ 1 _ rfl; (with_reducible repeat (first | refine blk_drewN ?_ _ | refine blk_drew ?_ | refine blk_alloc ?_ _)); refine blk_put (cs := #[.slice none 0 0, .int .i16 0, .int .i16 0, .int .i16 0, .int .i16 0, .bool false]) ?_ 0 _ rfl; (with_reducible repeat (first | refine blk_drewN ?_ _ | refine blk_drew ?_ | refine blk_alloc ?_ _)); exact BK213.out) hb); have n4_ := A_ (below_step (bs_ HB GE213) hb); clear HO198; clear HO207; clear BK194; clear BK213; clear HB; have HO198 := n0_; have HO207 := n1_; have BK194 := n2_; have BK213 := n3_; have HB := n4_; clear n0_ n1_ n2_ n3_ n4_; (try clear hb); (try clear hb2); (try clear hk); (try clear hi)))
    have n0_ := A_ (Kd.R_drew HO198.out)
    have n1_ := A_ (Kd.R_drew HO207.out)
    have n2_ := A_ (blk_drew BK194.out)
    have n3_ := A_ (blk_drew BK213.out)
    have n4_ := A_ (below_drew1 HB.out)
    clear HO198
    clear HO207
    clear BK194
    clear BK213
    clear HB
    have HO198 := n0_
    have HO207 := n1_
    have BK194 := n2_
    have BK213 := n3_
    have HB := n4_
    clear n0_ n1_ n2_ n3_ n4_
    refine start_ (n := 5) (S := fun w' => w'.cell? ⟨gb213, 0, none⟩ = some (.slice Ao25 t205.length co25) ∧ w'.cell? ⟨gb213, 1, none⟩ = some (.int .i16 t208) ∧ w'.cell? ⟨gb213, 2, none⟩ = some (.int .i16 t209) ∧ w'.cell? ⟨gb213, 3, none⟩ = some (.int .i16 t210) ∧ w'.cell? ⟨gb213, 4, none⟩ = some (.int .i16 t211) ∧ w'.cell? ⟨gb213, 5, none⟩ = some (.bool t212) ∧ w'.cell? ⟨gb194, 0, none⟩ = some (.slice A0_0 l0_0.length c0_0) ∧ w'.cell? ⟨gb194, 1, none⟩ = some (.int .i16 a0_1) ∧ w'.cell? ⟨gb194, 2, none⟩ = some (.int .i16 a0_2) ∧ w'.cell? ⟨gb194, 3, none⟩ = some (.int .i16 a0_3) ∧ w'.cell? ⟨gb194, 4, none⟩ = some (.int .i16 a0_4) ∧ w'.cell? ⟨gb194, 5, none⟩ = some (.bool a0_5)) (ds := []) #[false, false, false, false, false] (by kernel_rfl) rfl rfl ⟨(blk_cell BK213.out 0).trans rfl, (blk_cell BK213.out 1).trans rfl, (blk_cell BK213.out 2).trans rfl, (blk_cell BK213.out 3).trans rfl, (blk_cell BK213.out 4).trans rfl, (blk_cell BK213.out 5).trans rfl, (blk_cell BK194.out 0).trans rfl, (blk_cell BK194.out 1).trans rfl, (blk_cell BK194.out 2).trans rfl, (blk_cell BK194.out 3).trans rfl, (blk_cell BK194.out 4).trans rfl, (blk_cell BK194.out 5).trans rfl⟩ (fun hHeld => ?_)
    generalize w28.drew = w29 at HO198 HO207 BK194 BK213 HB hHeld ⊢
    refine take_ (i := 0) (N := some 22) (v := ?_) (a' := ?_) #[true, false, false, false, false] rfl rfl (by kernel_rfl) (fun _ _ _ h => h) (Or.inl ⟨by rfl, ?_⟩) hHeld ?_ ?_
    rotate_left
    ·rintro w' ⟨s0, s1, s2, s3, s4, s5, s6, s7, s8, s9, s10, s11⟩
     go_simp
     with_reducible rfl
    rotate_left
    ·simp only [Act.put, sp_]
     rfl
    refine take_ (i := 1) (N := some 23) (v := ?_) (a' := ?_) #[true, true, false, false, false] rfl rfl (by kernel_rfl) (fun _ _ _ h => h) (Or.inl ⟨by rfl, ?_⟩) hHeld ?_ ?_
    rotate_left
    ·rintro w' ⟨s0, s1, s2, s3, s4, s5, s6, s7, s8, s9, s10, s11⟩
     go_simp
     with_reducible rfl
    rotate_left
    ·simp only [Act.put, sp_]
     rfl
    refine one_ (i := 2) (N := some 24) #[true, true, true, false, false] rfl rfl (by kernel_rfl) (by decide) (fun K hK => ?_)
    refine goes_ Tryd.func7 (by kernel_rfl) rfl #[.agg #[.slice A0_0 l0_0.length c0_0, .int .i16 a0_1, .int .i16 a0_2, .int .i16 a0_3, .int .i16 a0_4, .bool a0_5]] (by rfl) rfl rfl arg_ ?_
    with_reducible refine (laws_toPuzzle.calls k _ _ l0_0 a0_1 a0_2 a0_3 a0_4 a0_5 t215 t218 t219 t220 t221 t222 _ ?side1 ?side2 A12.out).mono ?_
    (case side1 => exact Kd.C_below HR0_0.out (bl_ HB))
    (case side2 => exact HC0_0.out)
    rintro e w30 ⟨v216, rfl, ho0, hb⟩
    refine ⟨_, rfl, ?_⟩
    have n0_ := A_ (Kd.R_elder' (pr_ HO198) (Kd.R_base ho0) hb)
    have n1_ := A_ (Kd.R_elder' (pr_ HO207) (Kd.R_base ho0) hb)
    have n2_ := A_ (Kd.R_lower (Kd.R_new' (Kd.R_new' ho0 (Kd.R_lt (pr_ HO198))) (Kd.R_lt (pr_ HO207))) (below_size (bl_ HB)))
    have n3_ := A_ (blk_below (pl_ BK194) hb)
    have n4_ := A_ (blk_below (pl_ BK213) hb)
    have n5_ := A_ (below_step (bl_ HB) hb)
    clear HO198
    clear HO207
    clear BK194
    clear BK213
    clear HB
    have HO198 := n0_
    have HO207 := n1_
    have HO217 := n2_
    have BK194 := n3_
    have BK213 := n4_
    have HB := n5_
    clear n0_ n1_ n2_ n3_ n4_ n5_
    (try clear hb)
    (try clear hb2)
    (try clear hk)
    (try clear hi)
    (try clear ho0)
    obtain ⟨Ao31, co31, eo31⟩ := Kd.R_slice HO217.out
    (first | subst eo31 | (injection eo31 with f1_ f2_ f3_; have f4_ := f1_.symm; have f5_ := f3_.symm; clear f1_ f2_ f3_; subst f4_; subst f5_))
    refine hK.out _ _ ⟨(blk_cell BK213.out 0).trans rfl, (blk_cell BK213.out 1).trans rfl, (blk_cell BK213.out 2).trans rfl, (blk_cell BK213.out 3).trans rfl, (blk_cell BK213.out 4).trans rfl, (blk_cell BK213.out 5).trans rfl, (blk_cell BK194.out 0).trans rfl, (blk_cell BK194.out 1).trans rfl, (blk_cell BK194.out 2).trans rfl, (blk_cell BK194.out 3).trans rfl, (blk_cell BK194.out 4).trans rfl, (blk_cell BK194.out 5).trans rfl⟩ (fun hHeld => ?_)
    clear hK K
    refine norm_ (a' := ?_) ?_ ?_
    rotate_left
    ·show Act.put _ (some 24) _ = _
     simp only [Act.put, sp_]
     rfl
    refine one_ (i := 3) (N := some 25) #[true, true, true, true, false] rfl rfl (by kernel_rfl) (by decide) (fun K hK => ?_)
    refine goes_ Tryd.func9 (by kernel_rfl) rfl #[.agg #[.slice Ao25 t205.length co25, .int .i16 t208, .int .i16 t209, .int .i16 t210, .int .i16 t211, .bool t212], .agg #[.slice Ao31 t215.length co31, .int .i16 t218, .int .i16 t219, .int .i16 t220, .int .i16 t221, .bool t222]] (by rfl) rfl rfl arg_ ?_
    with_reducible refine (laws_eqPuzzle.calls k _ _ t205 t208 t209 t210 t211 t212 _ _ t215 t218 t219 t220 t221 t222 true _ ?side1 ?side2 ?side3 ?side4 A13.out).mono ?_
    (case side1 => repeat (first | exact (Kd.R_reads' HO207.out).2.2 | (with_reducible refine Kd.C_alloc ?_ _) | (with_reducible refine Kd.C_drewN ?_ _) | (with_reducible refine Kd.C_drew ?_)))
    (case side2 => exact (Kd.R_reads' HO207.out).2.1)
    (case side3 => repeat (first | exact (Kd.R_reads' HO217.out).2.2 | (with_reducible refine Kd.C_alloc ?_ _) | (with_reducible refine Kd.C_drewN ?_ _) | (with_reducible refine Kd.C_drew ?_)))
    (case side4 => exact (Kd.R_reads' HO217.out).2.1)
    rintro e w32 ⟨rfl, hb⟩
    refine ⟨_, rfl, ?_⟩
    have n0_ := A_ (Kd.R_below (pr_ HO198) hb)
    have n1_ := A_ (Kd.R_below (pr_ HO207) hb)
    have n2_ := A_ (Kd.R_below (pr_ HO217) hb)
    have n3_ := A_ (blk_below (pl_ BK194) hb)
    have n4_ := A_ (blk_below (pl_ BK213) hb)
    have n5_ := A_ (below_step (bl_ HB) hb)
    clear HO198
    clear HO207
    clear HO217
    clear BK194
    clear BK213
    clear HB
    have HO198 := n0_
    have HO207 := n1_
    have HO217 := n2_
    have BK194 := n3_
    have BK213 := n4_
    have HB := n5_
    clear n0_ n1_ n2_ n3_ n4_ n5_
    (try clear hb)
    (try clear hb2)
    (try clear hk)
    (try clear hi)
    refine hK.out _ _ ⟨(blk_cell BK213.out 0).trans rfl, (blk_cell BK213.out 1).trans rfl, (blk_cell BK213.out 2).trans rfl, (blk_cell BK213.out 3).trans rfl, (blk_cell BK213.out 4).trans rfl, (blk_cell BK213.out 5).trans rfl, (blk_cell BK194.out 0).trans rfl, (blk_cell BK194.out 1).trans rfl, (blk_cell BK194.out 2).trans rfl, (blk_cell BK194.out 3).trans rfl, (blk_cell BK194.out 4).trans rfl, (blk_cell BK194.out 5).trans rfl⟩ (fun hHeld => ?_)
    clear hK K
    refine norm_ (a' := ?_) ?_ ?_
    rotate_left
    ·show Act.put _ (some 25) _ = _
     simp only [Act.put, sp_]
     rfl
    refine pure_ (i := 4) (N := some 26) (v := ?_) (a' := ?_) #[true, true, true, true, true] rfl rfl (by kernel_rfl) (fun _ _ _ h => h) (Or.inl ⟨by rfl, ?_⟩) ?_ ?_
    rotate_left
    ·intro w'
     go_simp
     with_reducible rfl
    rotate_left
    ·simp only [Act.put, sp_]
     rfl
    refine done_ (by kernel_rfl) ?_
    try go_wp2
    go_ret
    exact ⟨by first | rfl | (simp [errW_none, errW_some] <;> rfl) | (simp [*, errW_none, errW_some] <;> rfl), bl_ HB⟩
   ·replace c14 := Bool.eq_false_iff.mpr c14
    subst c14
    have H1 : (some false) = some r := by rw [if_neg (show ¬ (false = true) by decide)] at H; exact H
    clear H
    have H := H1
    clear H1
    obtain rfl := Option.some.inj H
    go_enter Tryd.func3, Tryd.ntmps3
    try go_wp2_with (first | ((with_reducible refine gate_dst (N := 1) rfl ?_); refine box_event ?hg (N := 1) ?hd (cs := #[.slice A0_0 l0_0.length c0_0, .int .i16 a0_1, .int .i16 a0_2, .int .i16 a0_3, .int .i16 a0_4, .bool a0_5]) (t := 26) ?hr ?_; (case hd => rfl); (case hg => rfl); (case hr => first | (go_simp; done) | (go_simp; rfl)); intro gb194 hg w33 hbox hb; have n0_ := A_ (below_step (bl_ HB) hb); have n1_ := A_ (hbox); have n2_ := A_ ((by rw [hg]; exact (below_size (bl_ HB)) : w.heap.size ≤ gb194)); have n3_ := n2_; clear HB; have HB := n0_; have BK194 := n1_; have GW194 := n2_; have GE194 := n3_; clear n0_ n1_ n2_ n3_; clear hb hbox hg; obtain ⟨hcz34_0, hcz34_1, hcz34_2, hcz34_3, hcz34_4, hcz34_5, hfz34_0, hfz34_1, hfz34_2, hfz34_3, hfz34_4, hfz34_5⟩ := cl6_ BK194) | ((with_reducible refine gate_callee (f := 5) rfl ?_); refine goesL_ (some 9) rfl rfl Tryd.func5 (by kernel_rfl) rfl #[.agg #[.slice A0_0 l0_0.length c0_0, .int .i16 a0_1, .int .i16 a0_2, .int .i16 a0_3, .int .i16 a0_4, .bool a0_5], .int .i64 1048576] rfl arg_ ?_; (with_reducible refine (laws_szPuzzle.calls _ _ l0_0 a0_1 a0_2 a0_3 a0_4 a0_5 1048576 t195 _ ?side1 ?side2 A2.out).mono ?_); (case side1 => exact Kd.C_below HR0_0.out (bl_ HB)); (case side2 => exact HC0_0.out); rintro e w35 ⟨rfl, hb⟩; refine ⟨_, rfl, ?_⟩; have n0_ := A_ (blk_below (pl_ BK194) hb); have n1_ := A_ (below_step (bl_ HB) hb); clear BK194; clear HB; have BK194 := n0_; have HB := n1_; clear n0_ n1_; (try clear hb); (try clear hb2); (try clear hk); (try clear hi); obtain ⟨hcz36_0, hcz36_1, hcz36_2, hcz36_3, hcz36_4, hcz36_5, hfz36_0, hfz36_1, hfz36_2, hfz36_3, hfz36_4, hfz36_5⟩ := cl6_ BK194) | ((with_reducible refine gate_callee (f := 7) rfl ?_); refine goesL_ (some 13) rfl rfl Tryd.func7 (by kernel_rfl) rfl #[.agg #[.slice A0_0 l0_0.length c0_0, .int .i16 a0_1, .int .i16 a0_2, .int .i16 a0_3, .int .i16 a0_4, .bool a0_5]] rfl arg_ ?_; (with_reducible refine (laws_toPuzzle.calls k _ _ l0_0 a0_1 a0_2 a0_3 a0_4 a0_5 t196 t199 t200 t201 t202 t203 _ ?side1 ?side2 A7.out).mono ?_); (case side1 => exact Kd.C_below HR0_0.out (bl_ HB)); (case side2 => exact HC0_0.out); rintro e w37 ⟨v197, rfl, ho0, hb⟩; refine ⟨_, rfl, ?_⟩; have n0_ := A_ (Kd.R_lower ho0 (below_size (bl_ HB))); have n1_ := A_ (blk_below (pl_ BK194) hb); have n2_ := A_ (below_step (bl_ HB) hb); clear BK194; clear HB; have HO198 := n0_; have BK194 := n1_; have HB := n2_; clear n0_ n1_ n2_; (try clear hb); (try clear hb2); (try clear hk); (try clear hi); (try clear ho0); obtain ⟨Ao38, co38, eo38⟩ := Kd.R_slice HO198.out; subst eo38) | ((with_reducible refine gate_callee (f := 6) rfl ?_); refine goesL_ (some 14) rfl rfl Tryd.func6 (by kernel_rfl) rfl #[.agg #[.slice Ao38 t196.length co38, .int .i16 t199, .int .i16 t200, .int .i16 t201, .int .i16 t202, .bool t203]] rfl arg_ ?_; (with_reducible refine (spec_PuzzleText.calls k _ _ t196 t199 t200 t201 t202 t203 t204 _ ?side1 ?side2 A8.out).mono ?_); (case side1 => repeat (first | exact (Kd.R_reads' HO198.out).2.2 | (with_reducible refine Kd.C_alloc ?_ _) | (with_reducible refine Kd.C_drewN ?_ _) | (with_reducible refine Kd.C_drew ?_))); (case side2 => exact (Kd.R_reads' HO198.out).2.1); rintro e w39 ⟨rfl, hb⟩; refine ⟨_, rfl, ?_⟩; have n0_ := A_ (Kd.R_below (pr_ HO198) hb); have n1_ := A_ (blk_below (pl_ BK194) hb); have n2_ := A_ (below_step (bl_ HB) hb); clear HO198; clear BK194; clear HB; have HO198 := n0_; have BK194 := n1_; have HB := n2_; clear n0_ n1_ n2_; (try clear hb); (try clear hb2); (try clear hk); (try clear hi); obtain ⟨hcz40_0, hcz40_1, hcz40_2, hcz40_3, hcz40_4, hcz40_5, hfz40_0, hfz40_1, hfz40_2, hfz40_3, hfz40_4, hfz40_5⟩ := cl6_ BK194) | ((with_reducible refine gate_callee (f := 7) rfl ?_); refine goesL_ (some 16) rfl rfl Tryd.func7 (by kernel_rfl) rfl #[.agg #[.slice A0_0 l0_0.length c0_0, .int .i16 a0_1, .int .i16 a0_2, .int .i16 a0_3, .int .i16 a0_4, .bool a0_5]] rfl arg_ ?_; (with_reducible refine (laws_toPuzzle.calls k _ _ l0_0 a0_1 a0_2 a0_3 a0_4 a0_5 t205 t208 t209 t210 t211 t212 _ ?side1 ?side2 A9.out).mono ?_); (case side1 => exact Kd.C_below HR0_0.out (bl_ HB)); (case side2 => exact HC0_0.out); rintro e w41 ⟨v206, rfl, ho0, hb⟩; refine ⟨_, rfl, ?_⟩; have n0_ := A_ (Kd.R_elder' (pr_ HO198) (Kd.R_base ho0) hb); have n1_ := A_ (Kd.R_lower (Kd.R_new' ho0 (Kd.R_lt (pr_ HO198))) (below_size (bl_ HB))); have n2_ := A_ (blk_below (pl_ BK194) hb); have n3_ := A_ (below_step (bl_ HB) hb); clear HO198; clear BK194; clear HB; have HO198 := n0_; have HO207 := n1_; have BK194 := n2_; have HB := n3_; clear n0_ n1_ n2_ n3_; (try clear hb); (try clear hb2); (try clear hk); (try clear hi); (try clear ho0)) | ((with_reducible refine gate_dst (N := 5) rfl ?_); refine box_event ?hg (N := 5) ?hd (cs := #[.slice none 0 0, .int .i16 0, .int .i16 0, .int .i16 0, .int .i16 0, .bool false]) (t := 31) ?hr ?_; (case hd => rfl); (case hg => rfl); (case hr => first | (go_simp; done) | (go_simp; rfl)); intro gb213 hg w42 hbox hb; have n0_ := A_ (Kd.R_below (pr_ HO198) hb); have n1_ := A_ (Kd.R_below (pr_ HO207) hb); have n2_ := A_ (blk_below (pl_ BK194) hb); have n3_ := A_ (below_step (bl_ HB) hb); have n4_ := A_ (hbox); have n5_ := A_ ((by rw [hg]; exact (below_size (bl_ HB)) : w.heap.size ≤ gb213)); have n6_ := n5_; have n7_ := A_ ((by rw [hg]; exact Nat.ne_of_lt (blk_lt (pl_ BK194)) : gb194 ≠ gb213)); have n8_ := Aside0.mk n7_.out.symm; clear HO198; clear HO207; clear BK194; clear HB; have HO198 := n0_; have HO207 := n1_; have BK194 := n2_; have HB := n3_; have BK213 := n4_; have GW213 := n5_; have GE213 := n6_; have NB194_213 := n7_; have NB213_194 := n8_; clear n0_ n1_ n2_ n3_ n4_ n5_ n6_ n7_ n8_; clear hb hbox hg; obtain ⟨Ao43, co43, eo43⟩ := Kd.R_slice HO207.out; subst eo43; have hnb44 := NB213_194.out; have hnc44 := NB194_213.out; obtain ⟨hcz45_0, hcz45_1, hcz45_2, hcz45_3, hcz45_4, hcz45_5, hfz45_0, hfz45_1, hfz45_2, hfz45_3, hfz45_4, hfz45_5⟩ := cl6_ BK213) | ((with_reducible refine gate_callee (f := 8) rfl ?_); refine goesL_ (some 18) rfl rfl Tryd.func8 (by kernel_rfl) rfl #[.agg #[.slice Ao43 t205.length co43, .int .i16 t208, .int .i16 t209, .int .i16 t210, .int .i16 t211, .bool t212]] rfl arg_ ?_; (with_reducible refine (impl_PuzzleText.calls k _ _ t205 t208 t209 t210 t211 t212 t214 _ ?side1 ?side2 A10.out).mono ?_); (case side1 => refine (Kd.R_reads' (e := 23) (base := w.heap.size) (ok := fun k_ => (True ∧ some k_ ≠ (.slice Ao38 t196.length co38 : Value).ownBlock)) (n := t205.length) (c := co43) ?_).2.2; exact (by (with_reducible repeat (first | apply Kd.R_alloc | apply Kd.R_drewN | apply Kd.R_drew)); exact (rf6_ HO207 BK213 (by decide)))); (case side2 => exact (Kd.R_reads' HO207.out).2.1); rintro e w46 ⟨rfl, hb⟩; refine ⟨_, rfl, ?_⟩; have n0_ := A_ (Kd.R_below (by (with_reducible repeat (first | apply Kd.R_alloc | apply Kd.R_drewN | apply Kd.R_drew)); exact (rf6_ HO198 BK213 (by decide))) hb); have n1_ := A_ (Kd.R_below (by (with_reducible repeat (first | apply Kd.R_alloc | apply Kd.R_drewN | apply Kd.R_drew)); exact (rf6_ HO207 BK213 (by decide))) hb); have n2_ := A_ (blk_below (g := gb194) (o := .cells #[.slice A0_0 l0_0.length c0_0, .int .i16 a0_1, .int .i16 a0_2, .int .i16 a0_3, .int .i16 a0_4, .bool a0_5] 26 (0, 0)) (pf_ BK194 NB194_213) hb); have n3_ := A_ (blk_below (g := gb213) (o := .cells #[.slice Ao43 t205.length co43, .int .i16 t208, .int .i16 t209, .int .i16 t210, .int .i16 t211, .bool t212] 31 (0, 0)) (by (with_reducible repeat (first | refine blk_drewN ?_ _ | refine blk_drew ?_ | refine blk_alloc ?_ _)); refine blk_put (cs := #[.slice Ao43 t205.length co43, .int .i16 t208, .int .i16 t209, .int .i16 t210, .int .i16 t211, .bool false]) ?_ 5 _ rfl; (with_reducible repeat (first | refine blk_drewN ?_ _ | refine blk_drew ?_ | refine blk_alloc ?_ _)); refine blk_put (cs := #[.slice Ao43 t205.length co43, .int .i16 t208, .int .i16 t209, .int .i16 t210, .int .i16 0, .bool false]) ?_ 4 _ rfl; (with_reducible repeat (first | refine blk_drewN ?_ _ | refine blk_drew ?_ | refine blk_alloc ?_ _)); refine blk_put (cs := #[.slice Ao43 t205.length co43, .int .i16 t208, .int .i16 t209, .int .i16 0, .int .i16 0, .bool false]) ?_ 3 _ rfl; (with_reducible repeat (first | refine blk_drewN ?_ _ | refine blk_drew ?_ | refine blk_alloc ?_ _)); refine blk_put (cs := #[.slice Ao43 t205.length co43, .int .i16 t208, .int .i16 0, .int .i16 0, .int .i16 0, .bool false]) ?_ 2 _ rfl; (with_reducible repeat (first | refine blk_drewN ?_ _ | refine blk_drew ?_ | refine blk_alloc ?_ _)); refine blk_put (cs := #[.slice Ao43 t205.length co43, .int .i16 0, .int .i16 0, .int .i16 0, .int .i16 0, .bool false]) ?_ 1 _ rfl; (with_reducible repeat (first | refine blk_drewN ?_ _ | refine blk_drew ?_ | refine blk_alloc ?_ _)); refine blk_put (cs := #[.slice none 0 0, .int .i16 0, .int .i16 0, .int .i16 0, .int .i16 0, .bool false]) ?_ 0 _ rfl; (with_reducible repeat (first | refine blk_drewN ?_ _ | refine blk_drew ?_ | refine blk_alloc ?_ _)); exact BK213.out) hb); have n4_ := A_ (below_step (bs_ HB GE213) hb); clear HO198; clear HO207; clear BK194; clear BK213; clear HB; have HO198 := n0_; have HO207 := n1_; have BK194 := n2_; have BK213 := n3_; have HB := n4_; clear n0_ n1_ n2_ n3_ n4_; (try clear hb); (try clear hb2); (try clear hk); (try clear hi)))
    have n0_ := A_ (Kd.R_drew HO198.out)
    have n1_ := A_ (Kd.R_drew HO207.out)
    have n2_ := A_ (blk_drew BK194.out)
    have n3_ := A_ (blk_drew BK213.out)
    have n4_ := A_ (below_drew1 HB.out)
    clear HO198
    clear HO207
    clear BK194
    clear BK213
    clear HB
    have HO198 := n0_
    have HO207 := n1_
    have BK194 := n2_
    have BK213 := n3_
    have HB := n4_
    clear n0_ n1_ n2_ n3_ n4_
    refine start_ (n := 5) (S := fun w' => w'.cell? ⟨gb213, 0, none⟩ = some (.slice Ao43 t205.length co43) ∧ w'.cell? ⟨gb213, 1, none⟩ = some (.int .i16 t208) ∧ w'.cell? ⟨gb213, 2, none⟩ = some (.int .i16 t209) ∧ w'.cell? ⟨gb213, 3, none⟩ = some (.int .i16 t210) ∧ w'.cell? ⟨gb213, 4, none⟩ = some (.int .i16 t211) ∧ w'.cell? ⟨gb213, 5, none⟩ = some (.bool t212) ∧ w'.cell? ⟨gb194, 0, none⟩ = some (.slice A0_0 l0_0.length c0_0) ∧ w'.cell? ⟨gb194, 1, none⟩ = some (.int .i16 a0_1) ∧ w'.cell? ⟨gb194, 2, none⟩ = some (.int .i16 a0_2) ∧ w'.cell? ⟨gb194, 3, none⟩ = some (.int .i16 a0_3) ∧ w'.cell? ⟨gb194, 4, none⟩ = some (.int .i16 a0_4) ∧ w'.cell? ⟨gb194, 5, none⟩ = some (.bool a0_5)) (ds := []) #[false, false, false, false, false] (by kernel_rfl) rfl rfl ⟨(blk_cell BK213.out 0).trans rfl, (blk_cell BK213.out 1).trans rfl, (blk_cell BK213.out 2).trans rfl, (blk_cell BK213.out 3).trans rfl, (blk_cell BK213.out 4).trans rfl, (blk_cell BK213.out 5).trans rfl, (blk_cell BK194.out 0).trans rfl, (blk_cell BK194.out 1).trans rfl, (blk_cell BK194.out 2).trans rfl, (blk_cell BK194.out 3).trans rfl, (blk_cell BK194.out 4).trans rfl, (blk_cell BK194.out 5).trans rfl⟩ (fun hHeld => ?_)
    generalize w46.drew = w47 at HO198 HO207 BK194 BK213 HB hHeld ⊢
    refine take_ (i := 0) (N := some 22) (v := ?_) (a' := ?_) #[true, false, false, false, false] rfl rfl (by kernel_rfl) (fun _ _ _ h => h) (Or.inl ⟨by rfl, ?_⟩) hHeld ?_ ?_
    rotate_left
    ·rintro w' ⟨s0, s1, s2, s3, s4, s5, s6, s7, s8, s9, s10, s11⟩
     go_simp
     with_reducible rfl
    rotate_left
    ·simp only [Act.put, sp_]
     rfl
    refine take_ (i := 1) (N := some 23) (v := ?_) (a' := ?_) #[true, true, false, false, false] rfl rfl (by kernel_rfl) (fun _ _ _ h => h) (Or.inl ⟨by rfl, ?_⟩) hHeld ?_ ?_
    rotate_left
    ·rintro w' ⟨s0, s1, s2, s3, s4, s5, s6, s7, s8, s9, s10, s11⟩
     go_simp
     with_reducible rfl
    rotate_left
    ·simp only [Act.put, sp_]
     rfl
    refine one_ (i := 2) (N := some 24) #[true, true, true, false, false] rfl rfl (by kernel_rfl) (by decide) (fun K hK => ?_)
    refine goes_ Tryd.func7 (by kernel_rfl) rfl #[.agg #[.slice A0_0 l0_0.length c0_0, .int .i16 a0_1, .int .i16 a0_2, .int .i16 a0_3, .int .i16 a0_4, .bool a0_5]] (by rfl) rfl rfl arg_ ?_
    with_reducible refine (laws_toPuzzle.calls k _ _ l0_0 a0_1 a0_2 a0_3 a0_4 a0_5 t215 t218 t219 t220 t221 t222 _ ?side1 ?side2 A12.out).mono ?_
    (case side1 => exact Kd.C_below HR0_0.out (bl_ HB))
    (case side2 => exact HC0_0.out)
    rintro e w48 ⟨v216, rfl, ho0, hb⟩
    refine ⟨_, rfl, ?_⟩
    have n0_ := A_ (Kd.R_elder' (pr_ HO198) (Kd.R_base ho0) hb)
    have n1_ := A_ (Kd.R_elder' (pr_ HO207) (Kd.R_base ho0) hb)
    have n2_ := A_ (Kd.R_lower (Kd.R_new' (Kd.R_new' ho0 (Kd.R_lt (pr_ HO198))) (Kd.R_lt (pr_ HO207))) (below_size (bl_ HB)))
    have n3_ := A_ (blk_below (pl_ BK194) hb)
    have n4_ := A_ (blk_below (pl_ BK213) hb)
    have n5_ := A_ (below_step (bl_ HB) hb)
    clear HO198
    clear HO207
    clear BK194
    clear BK213
    clear HB
    have HO198 := n0_
    have HO207 := n1_
    have HO217 := n2_
    have BK194 := n3_
    have BK213 := n4_
    have HB := n5_
    clear n0_ n1_ n2_ n3_ n4_ n5_
    (try clear hb)
    (try clear hb2)
    (try clear hk)
    (try clear hi)
    (try clear ho0)
    obtain ⟨Ao49, co49, eo49⟩ := Kd.R_slice HO217.out
    (first | subst eo49 | (injection eo49 with f1_ f2_ f3_; have f4_ := f1_.symm; have f5_ := f3_.symm; clear f1_ f2_ f3_; subst f4_; subst f5_))
    refine hK.out _ _ ⟨(blk_cell BK213.out 0).trans rfl, (blk_cell BK213.out 1).trans rfl, (blk_cell BK213.out 2).trans rfl, (blk_cell BK213.out 3).trans rfl, (blk_cell BK213.out 4).trans rfl, (blk_cell BK213.out 5).trans rfl, (blk_cell BK194.out 0).trans rfl, (blk_cell BK194.out 1).trans rfl, (blk_cell BK194.out 2).trans rfl, (blk_cell BK194.out 3).trans rfl, (blk_cell BK194.out 4).trans rfl, (blk_cell BK194.out 5).trans rfl⟩ (fun hHeld => ?_)
    clear hK K
    refine norm_ (a' := ?_) ?_ ?_
    rotate_left
    ·show Act.put _ (some 24) _ = _
     simp only [Act.put, sp_]
     rfl
    refine one_ (i := 3) (N := some 25) #[true, true, true, true, false] rfl rfl (by kernel_rfl) (by decide) (fun K hK => ?_)
    refine goes_ Tryd.func9 (by kernel_rfl) rfl #[.agg #[.slice Ao43 t205.length co43, .int .i16 t208, .int .i16 t209, .int .i16 t210, .int .i16 t211, .bool t212], .agg #[.slice Ao49 t215.length co49, .int .i16 t218, .int .i16 t219, .int .i16 t220, .int .i16 t221, .bool t222]] (by rfl) rfl rfl arg_ ?_
    with_reducible refine (laws_eqPuzzle.calls k _ _ t205 t208 t209 t210 t211 t212 _ _ t215 t218 t219 t220 t221 t222 false _ ?side1 ?side2 ?side3 ?side4 A13.out).mono ?_
    (case side1 => repeat (first | exact (Kd.R_reads' HO207.out).2.2 | (with_reducible refine Kd.C_alloc ?_ _) | (with_reducible refine Kd.C_drewN ?_ _) | (with_reducible refine Kd.C_drew ?_)))
    (case side2 => exact (Kd.R_reads' HO207.out).2.1)
    (case side3 => repeat (first | exact (Kd.R_reads' HO217.out).2.2 | (with_reducible refine Kd.C_alloc ?_ _) | (with_reducible refine Kd.C_drewN ?_ _) | (with_reducible refine Kd.C_drew ?_)))
    (case side4 => exact (Kd.R_reads' HO217.out).2.1)
    rintro e w50 ⟨rfl, hb⟩
    refine ⟨_, rfl, ?_⟩
    have n0_ := A_ (Kd.R_below (pr_ HO198) hb)
    have n1_ := A_ (Kd.R_below (pr_ HO207) hb)
    have n2_ := A_ (Kd.R_below (pr_ HO217) hb)
    have n3_ := A_ (blk_below (pl_ BK194) hb)
    have n4_ := A_ (blk_below (pl_ BK213) hb)
    have n5_ := A_ (below_step (bl_ HB) hb)
    clear HO198
    clear HO207
    clear HO217
    clear BK194
    clear BK213
    clear HB
    have HO198 := n0_
    have HO207 := n1_
    have HO217 := n2_
    have BK194 := n3_
    have BK213 := n4_
    have HB := n5_
    clear n0_ n1_ n2_ n3_ n4_ n5_
    (try clear hb)
    (try clear hb2)
    (try clear hk)
    (try clear hi)
    refine hK.out _ _ ⟨(blk_cell BK213.out 0).trans rfl, (blk_cell BK213.out 1).trans rfl, (blk_cell BK213.out 2).trans rfl, (blk_cell BK213.out 3).trans rfl, (blk_cell BK213.out 4).trans rfl, (blk_cell BK213.out 5).trans rfl, (blk_cell BK194.out 0).trans rfl, (blk_cell BK194.out 1).trans rfl, (blk_cell BK194.out 2).trans rfl, (blk_cell BK194.out 3).trans rfl, (blk_cell BK194.out 4).trans rfl, (blk_cell BK194.out 5).trans rfl⟩ (fun hHeld => ?_)
    clear hK K
    refine norm_ (a' := ?_) ?_ ?_
    rotate_left
    ·show Act.put _ (some 25) _ = _
     simp only [Act.put, sp_]
     rfl
    refine pure_ (i := 4) (N := some 26) (v := ?_) (a' := ?_) #[true, true, true, true, true] rfl rfl (by kernel_rfl) (fun _ _ _ h => h) (Or.inl ⟨by rfl, ?_⟩) ?_ ?_
    rotate_left
    ·intro w'
     go_simp
     with_reducible rfl
    rotate_left
    ·simp only [Act.put, sp_]
     rfl
    refine done_ (by kernel_rfl) ?_
    try go_wp2
    go_ret
    exact ⟨by first | rfl | (simp [errW_none, errW_some] <;> rfl) | (simp [*, errW_none, errW_some] <;> rfl), bl_ HB⟩
  ·rw [if_neg c11] at H
   have c11b0 : (t214.toList == t204.toList) = false := beq_eq_false_iff_ne.mpr c11
   have c11b1 : (t214.toList != t204.toList) = true := bne_iff_ne.mpr c11
   obtain rfl := Option.some.inj H
   go_enter Tryd.func3, Tryd.ntmps3
   go_wp2_with (first | ((with_reducible refine gate_dst (N := 1) rfl ?_); refine box_event ?hg (N := 1) ?hd (cs := #[.slice A0_0 l0_0.length c0_0, .int .i16 a0_1, .int .i16 a0_2, .int .i16 a0_3, .int .i16 a0_4, .bool a0_5]) (t := 26) ?hr ?_; (case hd => rfl); (case hg => rfl); (case hr => first | (go_simp; done) | (go_simp; rfl)); intro gb194 hg w51 hbox hb; have n0_ := A_ (below_step (bl_ HB) hb); have n1_ := A_ (hbox); have n2_ := A_ ((by rw [hg]; exact (below_size (bl_ HB)) : w.heap.size ≤ gb194)); have n3_ := n2_; clear HB; have HB := n0_; have BK194 := n1_; have GW194 := n2_; have GE194 := n3_; clear n0_ n1_ n2_ n3_; clear hb hbox hg; obtain ⟨hcz52_0, hcz52_1, hcz52_2, hcz52_3, hcz52_4, hcz52_5, hfz52_0, hfz52_1, hfz52_2, hfz52_3, hfz52_4, hfz52_5⟩ := cl6_ BK194) | ((with_reducible refine gate_callee (f := 5) rfl ?_); refine goesL_ (some 9) rfl rfl Tryd.func5 (by kernel_rfl) rfl #[.agg #[.slice A0_0 l0_0.length c0_0, .int .i16 a0_1, .int .i16 a0_2, .int .i16 a0_3, .int .i16 a0_4, .bool a0_5], .int .i64 1048576] rfl arg_ ?_; (with_reducible refine (laws_szPuzzle.calls _ _ l0_0 a0_1 a0_2 a0_3 a0_4 a0_5 1048576 t195 _ ?side1 ?side2 A2.out).mono ?_); (case side1 => exact Kd.C_below HR0_0.out (bl_ HB)); (case side2 => exact HC0_0.out); rintro e w53 ⟨rfl, hb⟩; refine ⟨_, rfl, ?_⟩; have n0_ := A_ (blk_below (pl_ BK194) hb); have n1_ := A_ (below_step (bl_ HB) hb); clear BK194; clear HB; have BK194 := n0_; have HB := n1_; clear n0_ n1_; (try clear hb); (try clear hb2); (try clear hk); (try clear hi); obtain ⟨hcz54_0, hcz54_1, hcz54_2, hcz54_3, hcz54_4, hcz54_5, hfz54_0, hfz54_1, hfz54_2, hfz54_3, hfz54_4, hfz54_5⟩ := cl6_ BK194) | ((with_reducible refine gate_callee (f := 7) rfl ?_); refine goesL_ (some 13) rfl rfl Tryd.func7 (by kernel_rfl) rfl #[.agg #[.slice A0_0 l0_0.length c0_0, .int .i16 a0_1, .int .i16 a0_2, .int .i16 a0_3, .int .i16 a0_4, .bool a0_5]] rfl arg_ ?_; (with_reducible refine (laws_toPuzzle.calls k _ _ l0_0 a0_1 a0_2 a0_3 a0_4 a0_5 t196 t199 t200 t201 t202 t203 _ ?side1 ?side2 A7.out).mono ?_); (case side1 => exact Kd.C_below HR0_0.out (bl_ HB)); (case side2 => exact HC0_0.out); rintro e w55 ⟨v197, rfl, ho0, hb⟩; refine ⟨_, rfl, ?_⟩; have n0_ := A_ (Kd.R_lower ho0 (below_size (bl_ HB))); have n1_ := A_ (blk_below (pl_ BK194) hb); have n2_ := A_ (below_step (bl_ HB) hb); clear BK194; clear HB; have HO198 := n0_; have BK194 := n1_; have HB := n2_; clear n0_ n1_ n2_; (try clear hb); (try clear hb2); (try clear hk); (try clear hi); (try clear ho0); obtain ⟨Ao56, co56, eo56⟩ := Kd.R_slice HO198.out; subst eo56) | ((with_reducible refine gate_callee (f := 6) rfl ?_); refine goesL_ (some 14) rfl rfl Tryd.func6 (by kernel_rfl) rfl #[.agg #[.slice Ao56 t196.length co56, .int .i16 t199, .int .i16 t200, .int .i16 t201, .int .i16 t202, .bool t203]] rfl arg_ ?_; (with_reducible refine (spec_PuzzleText.calls k _ _ t196 t199 t200 t201 t202 t203 t204 _ ?side1 ?side2 A8.out).mono ?_); (case side1 => repeat (first | exact (Kd.R_reads' HO198.out).2.2 | (with_reducible refine Kd.C_alloc ?_ _) | (with_reducible refine Kd.C_drewN ?_ _) | (with_reducible refine Kd.C_drew ?_))); (case side2 => exact (Kd.R_reads' HO198.out).2.1); rintro e w57 ⟨rfl, hb⟩; refine ⟨_, rfl, ?_⟩; have n0_ := A_ (Kd.R_below (pr_ HO198) hb); have n1_ := A_ (blk_below (pl_ BK194) hb); have n2_ := A_ (below_step (bl_ HB) hb); clear HO198; clear BK194; clear HB; have HO198 := n0_; have BK194 := n1_; have HB := n2_; clear n0_ n1_ n2_; (try clear hb); (try clear hb2); (try clear hk); (try clear hi); obtain ⟨hcz58_0, hcz58_1, hcz58_2, hcz58_3, hcz58_4, hcz58_5, hfz58_0, hfz58_1, hfz58_2, hfz58_3, hfz58_4, hfz58_5⟩ := cl6_ BK194) | ((with_reducible refine gate_callee (f := 7) rfl ?_); refine goesL_ (some 16) rfl rfl Tryd.func7 (by kernel_rfl) rfl #[.agg #[.slice A0_0 l0_0.length c0_0, .int .i16 a0_1, .int .i16 a0_2, .int .i16 a0_3, .int .i16 a0_4, .bool a0_5]] rfl arg_ ?_; (with_reducible refine (laws_toPuzzle.calls k _ _ l0_0 a0_1 a0_2 a0_3 a0_4 a0_5 t205 t208 t209 t210 t211 t212 _ ?side1 ?side2 A9.out).mono ?_); (case side1 => exact Kd.C_below HR0_0.out (bl_ HB)); (case side2 => exact HC0_0.out); rintro e w59 ⟨v206, rfl, ho0, hb⟩; refine ⟨_, rfl, ?_⟩; have n0_ := A_ (Kd.R_elder' (pr_ HO198) (Kd.R_base ho0) hb); have n1_ := A_ (Kd.R_lower (Kd.R_new' ho0 (Kd.R_lt (pr_ HO198))) (below_size (bl_ HB))); have n2_ := A_ (blk_below (pl_ BK194) hb); have n3_ := A_ (below_step (bl_ HB) hb); clear HO198; clear BK194; clear HB; have HO198 := n0_; have HO207 := n1_; have BK194 := n2_; have HB := n3_; clear n0_ n1_ n2_ n3_; (try clear hb); (try clear hb2); (try clear hk); (try clear hi); (try clear ho0)) | ((with_reducible refine gate_dst (N := 5) rfl ?_); refine box_event ?hg (N := 5) ?hd (cs := #[.slice none 0 0, .int .i16 0, .int .i16 0, .int .i16 0, .int .i16 0, .bool false]) (t := 31) ?hr ?_; (case hd => rfl); (case hg => rfl); (case hr => first | (go_simp; done) | (go_simp; rfl)); intro gb213 hg w60 hbox hb; have n0_ := A_ (Kd.R_below (pr_ HO198) hb); have n1_ := A_ (Kd.R_below (pr_ HO207) hb); have n2_ := A_ (blk_below (pl_ BK194) hb); have n3_ := A_ (below_step (bl_ HB) hb); have n4_ := A_ (hbox); have n5_ := A_ ((by rw [hg]; exact (below_size (bl_ HB)) : w.heap.size ≤ gb213)); have n6_ := n5_; have n7_ := A_ ((by rw [hg]; exact Nat.ne_of_lt (blk_lt (pl_ BK194)) : gb194 ≠ gb213)); have n8_ := Aside0.mk n7_.out.symm; clear HO198; clear HO207; clear BK194; clear HB; have HO198 := n0_; have HO207 := n1_; have BK194 := n2_; have HB := n3_; have BK213 := n4_; have GW213 := n5_; have GE213 := n6_; have NB194_213 := n7_; have NB213_194 := n8_; clear n0_ n1_ n2_ n3_ n4_ n5_ n6_ n7_ n8_; clear hb hbox hg; obtain ⟨Ao61, co61, eo61⟩ := Kd.R_slice HO207.out; subst eo61; have hnb62 := NB213_194.out; have hnc62 := NB194_213.out; obtain ⟨hcz63_0, hcz63_1, hcz63_2, hcz63_3, hcz63_4, hcz63_5, hfz63_0, hfz63_1, hfz63_2, hfz63_3, hfz63_4, hfz63_5⟩ := cl6_ BK213) | ((with_reducible refine gate_callee (f := 8) rfl ?_); refine goesL_ (some 18) rfl rfl Tryd.func8 (by kernel_rfl) rfl #[.agg #[.slice Ao61 t205.length co61, .int .i16 t208, .int .i16 t209, .int .i16 t210, .int .i16 t211, .bool t212]] rfl arg_ ?_; (with_reducible refine (impl_PuzzleText.calls k _ _ t205 t208 t209 t210 t211 t212 t214 _ ?side1 ?side2 A10.out).mono ?_); (case side1 => refine (Kd.R_reads' (e := 23) (base := w.heap.size) (ok := fun k_ => (True ∧ some k_ ≠ (.slice Ao56 t196.length co56 : Value).ownBlock)) (n := t205.length) (c := co61) ?_).2.2; exact (by (with_reducible repeat (first | apply Kd.R_alloc | apply Kd.R_drewN | apply Kd.R_drew)); exact (rf6_ HO207 BK213 (by decide)))); (case side2 => exact (Kd.R_reads' HO207.out).2.1); rintro e w64 ⟨rfl, hb⟩; refine ⟨_, rfl, ?_⟩; have n0_ := A_ (Kd.R_below (by (with_reducible repeat (first | apply Kd.R_alloc | apply Kd.R_drewN | apply Kd.R_drew)); exact (rf6_ HO198 BK213 (by decide))) hb); have n1_ := A_ (Kd.R_below (by (with_reducible repeat (first | apply Kd.R_alloc | apply Kd.R_drewN | apply Kd.R_drew)); exact (rf6_ HO207 BK213 (by decide))) hb); have n2_ := A_ (blk_below (g := gb194) (o := .cells #[.slice A0_0 l0_0.length c0_0, .int .i16 a0_1, .int .i16 a0_2, .int .i16 a0_3, .int .i16 a0_4, .bool a0_5] 26 (0, 0)) (pf_ BK194 NB194_213) hb); have n3_ := A_ (blk_below (g := gb213) (o := .cells #[.slice Ao61 t205.length co61, .int .i16 t208, .int .i16 t209, .int .i16 t210, .int .i16 t211, .bool t212] 31 (0, 0)) (by (with_reducible repeat (first | refine blk_drewN ?_ _ | refine blk_drew ?_ | refine blk_alloc ?_ _)); refine blk_put (cs := #[.slice Ao61 t205.length co61, .int .i16 t208, .int .i16 t209, .int .i16 t210, .int .i16 t211, .bool false]) ?_ 5 _ rfl; (with_reducible repeat (first | refine blk_drewN ?_ _ | refine blk_drew ?_ | refine blk_alloc ?_ _)); refine blk_put (cs := #[.slice Ao61 t205.length co61, .int .i16 t208, .int .i16 t209, .int .i16 t210, .int .i16 0, .bool false]) ?_ 4 _ rfl; (with_reducible repeat (first | refine blk_drewN ?_ _ | refine blk_drew ?_ | refine blk_alloc ?_ _)); refine blk_put (cs := #[.slice Ao61 t205.length co61, .int .i16 t208, .int .i16 t209, .int .i16 0, .int .i16 0, .bool false]) ?_ 3 _ rfl; (with_reducible repeat (first | refine blk_drewN ?_ _ | refine blk_drew ?_ | refine blk_alloc ?_ _)); refine blk_put (cs := #[.slice Ao61 t205.length co61, .int .i16 t208, .int .i16 0, .int .i16 0, .int .i16 0, .bool false]) ?_ 2 _ rfl; (with_reducible repeat (first | refine blk_drewN ?_ _ | refine blk_drew ?_ | refine blk_alloc ?_ _)); refine blk_put (cs := #[.slice Ao61 t205.length co61, .int .i16 0, .int .i16 0, .int .i16 0, .int .i16 0, .bool false]) ?_ 1 _ rfl; (with_reducible repeat (first | refine blk_drewN ?_ _ | refine blk_drew ?_ | refine blk_alloc ?_ _)); refine blk_put (cs := #[.slice none 0 0, .int .i16 0, .int .i16 0, .int .i16 0, .int .i16 0, .bool false]) ?_ 0 _ rfl; (with_reducible repeat (first | refine blk_drewN ?_ _ | refine blk_drew ?_ | refine blk_alloc ?_ _)); exact BK213.out) hb); have n4_ := A_ (below_step (bs_ HB GE213) hb); clear HO198; clear HO207; clear BK194; clear BK213; clear HB; have HO198 := n0_; have HO207 := n1_; have BK194 := n2_; have BK213 := n3_; have HB := n4_; clear n0_ n1_ n2_ n3_ n4_; (try clear hb); (try clear hb2); (try clear hk); (try clear hi)))
   go_ret
   exact ⟨by first | rfl | (simp [errW_none, errW_some] <;> rfl) | (simp [*, errW_none, errW_some] <;> rfl), bl_ HB⟩

end Go.Proofs.YtodmfjophjhbeaaDoor.M
