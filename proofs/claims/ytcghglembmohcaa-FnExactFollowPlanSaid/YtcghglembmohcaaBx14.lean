-- By this seat's own program over the kit's printer (arrays, functions told by hand); nothing of it is trusted: the kernel checks it.
import Derived.Test.YtcghglembmohcaaBx0
namespace Go.Proofs.Ytcghglembmohcaa.B
open Go.RowKit Go.Proofs.YtcghglembmohcaaW.PrintWords Go.Proofs.YtcghglembmohcaaW.PrintLast Go.Proofs.YtcghglembmohcaaW.PrintMore
attribute [local go_sem] max2_int min2_int max_two min_two max_three min_three max_four min_four   -- for this text's walks alone
set_option linter.unusedVariables false
set_option linter.unusedSimpArgs false

/-! ### spec_l00In: function 39 -/
def spec_l00In.f (a0 : Int) (a1 : Int) (a2 : Int) : Option (Bool) := if a0 ≥ a1 then (some (decide (a0 ≤ a2))) else (some false)
set_option maxHeartbeats 8000000 in
set_option maxRecDepth 100000 in
theorem spec_l00In.calls (a0 : Int) (a1 : Int) (a2 : Int) (r : Bool) (w : World) (h : spec_l00In.f a0 a1 a2 = some r) :
  Calls Try.prog 39 #[.int .i64 a0, .int .i64 a1, .int .i64 a2] w fun e w' => e = .returned (.bool r) ∧ Drawn0 w w' := by
 have H : (if a0 ≥ a1 then (some (decide (a0 ≤ a2))) else (some false)) = some r := h
 clear h
 by_cases c4 : a0 ≥ a1
 ·rw [if_pos c4] at H
  have c4b0 : decide (a1 ≤ a0) = true := decide_eq_true c4
  clear c4
  obtain rfl := Option.some.inj H
  go_enter Try.func39, Try.ntmps39
  go_wp2
  go_ret
  exact ⟨by first | rfl | (simp; done) | (simp [*]; done), by repeat (first | exact Drawn0.refl _ | apply Drawn0.step)⟩
 ·rw [if_neg c4] at H
  have c4b0 : decide (a1 ≤ a0) = false := decide_eq_false c4
  clear c4
  obtain rfl := Option.some.inj H
  go_enter Try.func39, Try.ntmps39
  go_wp2
  go_ret
  exact ⟨by first | rfl | (simp; done) | (simp [*]; done), by repeat (first | exact Drawn0.refl _ | apply Drawn0.step)⟩

/-! ### spec_l03Ok: function 22 -/
def spec_l03Ok.f (a0_0 : Int) (a0_1 : Int) (a0_2 : Bool) (a0_3 : Bool) : Option (Bool) := (spec_l00In.f (wrap64 (a0_0)) 1 13).bind fun t175 => (if t175 = true then ((spec_l00In.f (wrap64 (a0_1)) 0 2).bind fun t176 => (some t176)) else (some false))
set_option maxHeartbeats 8000000 in
set_option maxRecDepth 100000 in
theorem spec_l03Ok.calls (a0_0 : Int) (a0_1 : Int) (a0_2 : Bool) (a0_3 : Bool) (r : Bool) (w : World) (h : spec_l03Ok.f a0_0 a0_1 a0_2 a0_3 = some r) :
  Calls Try.prog 22 #[.agg #[.int .i8 a0_0, .int .i8 a0_1, .bool a0_2, .bool a0_3]] w fun e w' => e = .returned (.bool r) ∧ Below w.heap.size w w' := by
 have hu29 := Try.underlying29
 have HB := A_ (Below.refl w.heap.size w)
 have H : ((spec_l00In.f (wrap64 (a0_0)) 1 13).bind fun t175 => (if t175 = true then ((spec_l00In.f (wrap64 (a0_1)) 0 2).bind fun t176 => (some t176)) else (some false))) = some r := h
 clear h
 replace H := Option.bind_eq_some_iff.mp H
 obtain ⟨t175, A20, H⟩ := H
 replace H : (if t175 = true then ((spec_l00In.f (wrap64 (a0_1)) 0 2).bind fun t176 => (some t176)) else (some false)) = some r := H
 have A2 := Aside0.mk A20
 clear A20
 by_cases c3 : t175 = true
 ·subst c3
  have H1 : ((spec_l00In.f (wrap64 (a0_1)) 0 2).bind fun t176 => (some t176)) = some r := by rw [if_pos rfl] at H; exact H
  clear H
  have H := H1
  clear H1
  replace H := Option.bind_eq_some_iff.mp H
  obtain ⟨t176, A40, H⟩ := H
  replace H : (some t176) = some r := H
  have A4 := Aside0.mk A40
  clear A40
  obtain rfl := Option.some.inj H
  go_enter Try.func22, Try.ntmps22
  go_wp2_with (first | ((with_reducible refine gate_dst (N := 1) rfl ?_); refine box_event ?hg (N := 1) ?hd (cs := #[.int .i8 a0_0, .int .i8 a0_1, .bool a0_2, .bool a0_3]) (t := 29) ?hr ?_; (case hd => rfl); (case hg => rfl); (case hr => first | (go_simp; done) | (go_simp; rfl)); intro gb174 hg w5 hbox hb; have n0_ := A_ (below_step (bl_ HB) hb); have n1_ := A_ (hbox); have n2_ := A_ ((by rw [hg]; exact (below_size (bl_ HB)) : w.heap.size ≤ gb174)); have n3_ := n2_; clear HB; have HB := n0_; have BK174 := n1_; have GW174 := n2_; have GE174 := n3_; clear n0_ n1_ n2_ n3_; clear hb hbox hg; obtain ⟨hcz6_0, hcz6_1, hcz6_2, hcz6_3, hfz6_0, hfz6_1, hfz6_2, hfz6_3⟩ := cl4_ BK174) | ((with_reducible refine gate_callee (f := 39) rfl ?_); refine goesL_ (some 6) rfl rfl Try.func39 (by kernel_rfl) rfl #[.int .i64 (wrap64 (a0_0)), .int .i64 1, .int .i64 13] rfl arg_ ?_; (with_reducible refine (spec_l00In.calls (wrap64 (a0_0)) 1 13 true _ A2.out).mono ?_); rintro e w' ⟨rfl, ⟨nd, rfl⟩⟩; refine ⟨_, rfl, ?_⟩) | (go_at_call 39; (with_reducible refine (spec_l00In.calls (wrap64 (a0_1)) 0 2 t176 _ A4.out).mono ?_); rintro e w' ⟨rfl, ⟨nd, rfl⟩⟩))
  go_ret
  exact ⟨by first | rfl | (simp [errW_none, errW_some] <;> rfl) | (simp [*, errW_none, errW_some] <;> rfl), bl_ HB⟩
 ·replace c3 := Bool.eq_false_iff.mpr c3
  subst c3
  have H1 : (some false) = some r := by rw [if_neg (show ¬ (false = true) by decide)] at H; exact H
  clear H
  have H := H1
  clear H1
  obtain rfl := Option.some.inj H
  go_enter Try.func22, Try.ntmps22
  go_wp2_with (first | ((with_reducible refine gate_dst (N := 1) rfl ?_); refine box_event ?hg (N := 1) ?hd (cs := #[.int .i8 a0_0, .int .i8 a0_1, .bool a0_2, .bool a0_3]) (t := 29) ?hr ?_; (case hd => rfl); (case hg => rfl); (case hr => first | (go_simp; done) | (go_simp; rfl)); intro gb174 hg w7 hbox hb; have n0_ := A_ (below_step (bl_ HB) hb); have n1_ := A_ (hbox); have n2_ := A_ ((by rw [hg]; exact (below_size (bl_ HB)) : w.heap.size ≤ gb174)); have n3_ := n2_; clear HB; have HB := n0_; have BK174 := n1_; have GW174 := n2_; have GE174 := n3_; clear n0_ n1_ n2_ n3_; clear hb hbox hg; obtain ⟨hcz8_0, hcz8_1, hcz8_2, hcz8_3, hfz8_0, hfz8_1, hfz8_2, hfz8_3⟩ := cl4_ BK174) | ((with_reducible refine gate_callee (f := 39) rfl ?_); refine goesL_ (some 6) rfl rfl Try.func39 (by kernel_rfl) rfl #[.int .i64 (wrap64 (a0_0)), .int .i64 1, .int .i64 13] rfl arg_ ?_; (with_reducible refine (spec_l00In.calls (wrap64 (a0_0)) 1 13 false _ A2.out).mono ?_); rintro e w' ⟨rfl, ⟨nd, rfl⟩⟩; refine ⟨_, rfl, ?_⟩))
  go_ret
  exact ⟨by first | rfl | (simp [errW_none, errW_some] <;> rfl) | (simp [*, errW_none, errW_some] <;> rfl), bl_ HB⟩

/-! ### spec_l03There: function 40 -/
def spec_l03There.f (a0_0 : Int) (a0_1 : Int) (a0_2 : Bool) (a0_3 : Bool) (a1 : Int) : Option (Bool) := if a1 < (wrap64 (a0_0)) then (some true) else (if a1 = (wrap64 (a0_0)) then (some a0_3) else (some false))
set_option maxHeartbeats 8000000 in
set_option maxRecDepth 100000 in
theorem spec_l03There.calls (a0_0 : Int) (a0_1 : Int) (a0_2 : Bool) (a0_3 : Bool) (a1 : Int) (r : Bool) (w : World) (h : spec_l03There.f a0_0 a0_1 a0_2 a0_3 a1 = some r) :
  Calls Try.prog 40 #[.agg #[.int .i8 a0_0, .int .i8 a0_1, .bool a0_2, .bool a0_3], .int .i64 a1] w fun e w' => e = .returned (.bool r) ∧ Below w.heap.size w w' := by
 have hu29 := Try.underlying29
 have HB := A_ (Below.refl w.heap.size w)
 have H : (if a1 < (wrap64 (a0_0)) then (some true) else (if a1 = (wrap64 (a0_0)) then (some a0_3) else (some false))) = some r := h
 clear h
 by_cases c3 : a1 < (wrap64 (a0_0))
 ·rw [if_pos c3] at H
  have c3b0 : decide (a1 < (wrap64 (a0_0))) = true := decide_eq_true c3
  clear c3
  obtain rfl := Option.some.inj H
  go_enter Try.func40, Try.ntmps40
  go_wp2_with (first | ((with_reducible refine gate_dst (N := 2) rfl ?_); refine box_event ?hg (N := 2) ?hd (cs := #[.int .i8 a0_0, .int .i8 a0_1, .bool a0_2, .bool a0_3]) (t := 29) ?hr ?_; (case hd => rfl); (case hg => rfl); (case hr => first | (go_simp; done) | (go_simp; rfl)); intro gb177 hg w4 hbox hb; have n0_ := A_ (below_step (bl_ HB) hb); have n1_ := A_ (hbox); have n2_ := A_ ((by rw [hg]; exact (below_size (bl_ HB)) : w.heap.size ≤ gb177)); have n3_ := n2_; clear HB; have HB := n0_; have BK177 := n1_; have GW177 := n2_; have GE177 := n3_; clear n0_ n1_ n2_ n3_; clear hb hbox hg; obtain ⟨hcz5_0, hcz5_1, hcz5_2, hcz5_3, hfz5_0, hfz5_1, hfz5_2, hfz5_3⟩ := cl4_ BK177))
  go_ret
  exact ⟨by first | rfl | (simp [errW_none, errW_some] <;> rfl) | (simp [*, errW_none, errW_some] <;> rfl), bl_ HB⟩
 ·rw [if_neg c3] at H
  have c3b0 : decide (a1 < (wrap64 (a0_0))) = false := decide_eq_false c3
  clear c3
  by_cases c6 : a1 = (wrap64 (a0_0))
  ·rw [if_pos c6] at H
   have c6b0 : (a1 == (wrap64 (a0_0))) = true := beq_iff_eq.mpr c6
   have c6b1 : (a1 != (wrap64 (a0_0))) = false := bne_eq_false_iff_eq.mpr c6
   clear c6
   obtain rfl := Option.some.inj H
   go_enter Try.func40, Try.ntmps40
   go_wp2_with (first | ((with_reducible refine gate_dst (N := 2) rfl ?_); refine box_event ?hg (N := 2) ?hd (cs := #[.int .i8 a0_0, .int .i8 a0_1, .bool a0_2, .bool a0_3]) (t := 29) ?hr ?_; (case hd => rfl); (case hg => rfl); (case hr => first | (go_simp; done) | (go_simp; rfl)); intro gb177 hg w7 hbox hb; have n0_ := A_ (below_step (bl_ HB) hb); have n1_ := A_ (hbox); have n2_ := A_ ((by rw [hg]; exact (below_size (bl_ HB)) : w.heap.size ≤ gb177)); have n3_ := n2_; clear HB; have HB := n0_; have BK177 := n1_; have GW177 := n2_; have GE177 := n3_; clear n0_ n1_ n2_ n3_; clear hb hbox hg; obtain ⟨hcz8_0, hcz8_1, hcz8_2, hcz8_3, hfz8_0, hfz8_1, hfz8_2, hfz8_3⟩ := cl4_ BK177))
   go_ret
   exact ⟨by first | rfl | (simp [errW_none, errW_some] <;> rfl) | (simp [*, errW_none, errW_some] <;> rfl), bl_ HB⟩
  ·rw [if_neg c6] at H
   have c6b0 : (a1 == (wrap64 (a0_0))) = false := beq_eq_false_iff_ne.mpr c6
   have c6b1 : (a1 != (wrap64 (a0_0))) = true := bne_iff_ne.mpr c6
   obtain rfl := Option.some.inj H
   go_enter Try.func40, Try.ntmps40
   go_wp2_with (first | ((with_reducible refine gate_dst (N := 2) rfl ?_); refine box_event ?hg (N := 2) ?hd (cs := #[.int .i8 a0_0, .int .i8 a0_1, .bool a0_2, .bool a0_3]) (t := 29) ?hr ?_; (case hd => rfl); (case hg => rfl); (case hr => first | (go_simp; done) | (go_simp; rfl)); intro gb177 hg w9 hbox hb; have n0_ := A_ (below_step (bl_ HB) hb); have n1_ := A_ (hbox); have n2_ := A_ ((by rw [hg]; exact (below_size (bl_ HB)) : w.heap.size ≤ gb177)); have n3_ := n2_; clear HB; have HB := n0_; have BK177 := n1_; have GW177 := n2_; have GE177 := n3_; clear n0_ n1_ n2_ n3_; clear hb hbox hg; obtain ⟨hcz10_0, hcz10_1, hcz10_2, hcz10_3, hfz10_0, hfz10_1, hfz10_2, hfz10_3⟩ := cl4_ BK177))
   go_ret
   exact ⟨by first | rfl | (simp [errW_none, errW_some] <;> rfl) | (simp [*, errW_none, errW_some] <;> rfl), bl_ HB⟩

end Go.Proofs.Ytcghglembmohcaa.B
