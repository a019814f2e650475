-- By this seat's own program over the kit's printer (arrays, functions told by hand); nothing of it is trusted: the kernel checks it.
import Derived.Test.YtkieplebdbdigaaMx0
import Derived.Test.YtkieplebdbdigaaMx4
import Derived.Test.YtkieplebdbdigaaMx5
namespace Go.Proofs.Ytkieplebdbdigaa.M
open Go.RowKit Go.Proofs.YtkieplebdbdigaaW.PrintWords Go.Proofs.YtkieplebdbdigaaW.PrintLast Go.Proofs.YtkieplebdbdigaaW.PrintMore
attribute [local go_sem] max2_int min2_int max_two min_two max_three min_three max_four min_four   -- for this text's walks alone
set_option linter.unusedVariables false
set_option linter.unusedSimpArgs false

/-! ### impl_ValidFixed: function 20 -/
def impl_ValidFixed.f (k : Nat) (a0_0 : Int) (a0_1 : Int) (l0_2 : List (S41)) : Option (Bool) := (impl_areLetters.f (wrap64 (a0_0))).bind fun t167 => (if t167 = true then ((impl_isKind.f (wrap64 (a0_1))).bind fun t168 => (if t168 = true then ((impl_Word_22.f l0_2).bind fun t169 => ((impl_within.f t169 1 80).bind fun t170 => (if t170 = true then ((impl_Word_42_at_43.f k l0_2 (wrap64 (a0_0))).bind fun t171 => (some (!t171))) else (some false)))) else (some false))) else (some false))
theorem impl_ValidFixed.mono : ∀ a0 a1 a2 k, LeO (impl_ValidFixed.f k a0 a1 a2) (impl_ValidFixed.f (k + 1) a0 a1 a2) := by
 intro a0 a1 a2 k
 unfold impl_ValidFixed.f
 repeat' first
   | (with_reducible exact impl_Word_42_at_43.mono _ _ _)
   | (with_reducible exact LeO.refl _)
   | (with_reducible exact LeO.none _)
   | (with_reducible refine LeO.ite ?_ ?_)
   | (with_reducible refine LeO.bind ?_ (fun _ => ?_))
   | exact impl_Word_42_at_43.mono _ _ _
   | exact LeO.none _
   | refine LeO.ite ?_ ?_
   | refine LeO.bind ?_ (fun _ => ?_)
set_option maxHeartbeats 8000000 in
set_option maxRecDepth 100000 in
theorem impl_ValidFixed.calls (k : Nat) (a0_0 : Int) (a0_1 : Int) (A0_2 : Option Addr) (c0_2 : Nat) (l0_2 : List (S41)) (r : Bool) (w : World) (hr0_2 : Kd.C k41 w A0_2 l0_2.length l0_2) (hc0_2 : l0_2.length ≤ c0_2) (h : impl_ValidFixed.f k a0_0 a0_1 l0_2 = some r) :
  Calls Try.prog 20 #[.agg #[.int .i8 a0_0, .int .i8 a0_1, .slice A0_2 l0_2.length c0_2]] w fun e w' => e = .returned (.bool r) ∧ Below w.heap.size w w' := by
 have hu29 := Try.underlying29
 have HR0_2 := Aside0.mk hr0_2
 have HC0_2 := Aside0.mk hc0_2
 clear hr0_2 hc0_2
 have HB := A_ (Below.refl w.heap.size w)
 have H : ((impl_areLetters.f (wrap64 (a0_0))).bind fun t167 => (if t167 = true then ((impl_isKind.f (wrap64 (a0_1))).bind fun t168 => (if t168 = true then ((impl_Word_22.f l0_2).bind fun t169 => ((impl_within.f t169 1 80).bind fun t170 => (if t170 = true then ((impl_Word_42_at_43.f k l0_2 (wrap64 (a0_0))).bind fun t171 => (some (!t171))) else (some false)))) else (some false))) else (some false))) = some r := h
 clear h
 replace H := Option.bind_eq_some_iff.mp H
 obtain ⟨t167, A20, H⟩ := H
 replace H : (if t167 = true then ((impl_isKind.f (wrap64 (a0_1))).bind fun t168 => (if t168 = true then ((impl_Word_22.f l0_2).bind fun t169 => ((impl_within.f t169 1 80).bind fun t170 => (if t170 = true then ((impl_Word_42_at_43.f k l0_2 (wrap64 (a0_0))).bind fun t171 => (some (!t171))) else (some false)))) else (some false))) else (some false)) = some r := H
 have A2 := Aside0.mk A20
 clear A20
 by_cases c3 : t167 = true
 ·subst c3
  have H1 : ((impl_isKind.f (wrap64 (a0_1))).bind fun t168 => (if t168 = true then ((impl_Word_22.f l0_2).bind fun t169 => ((impl_within.f t169 1 80).bind fun t170 => (if t170 = true then ((impl_Word_42_at_43.f k l0_2 (wrap64 (a0_0))).bind fun t171 => (some (!t171))) else (some false)))) else (some false))) = some r := by rw [if_pos rfl] at H; exact H
  clear H
  have H := H1
  clear H1
  replace H := Option.bind_eq_some_iff.mp H
  obtain ⟨t168, A40, H⟩ := H
  replace H : (if t168 = true then ((impl_Word_22.f l0_2).bind fun t169 => ((impl_within.f t169 1 80).bind fun t170 => (if t170 = true then ((impl_Word_42_at_43.f k l0_2 (wrap64 (a0_0))).bind fun t171 => (some (!t171))) else (some false)))) else (some false)) = some r := H
  have A4 := Aside0.mk A40
  clear A40
  by_cases c5 : t168 = true
  ·subst c5
   have H1 : ((impl_Word_22.f l0_2).bind fun t169 => ((impl_within.f t169 1 80).bind fun t170 => (if t170 = true then ((impl_Word_42_at_43.f k l0_2 (wrap64 (a0_0))).bind fun t171 => (some (!t171))) else (some false)))) = some r := by rw [if_pos rfl] at H; exact H
   clear H
   have H := H1
   clear H1
   replace H := Option.bind_eq_some_iff.mp H
   obtain ⟨t169, A60, H⟩ := H
   replace H : ((impl_within.f t169 1 80).bind fun t170 => (if t170 = true then ((impl_Word_42_at_43.f k l0_2 (wrap64 (a0_0))).bind fun t171 => (some (!t171))) else (some false))) = some r := H
   have A6 := Aside0.mk A60
   clear A60
   replace H := Option.bind_eq_some_iff.mp H
   obtain ⟨t170, A70, H⟩ := H
   replace H : (if t170 = true then ((impl_Word_42_at_43.f k l0_2 (wrap64 (a0_0))).bind fun t171 => (some (!t171))) else (some false)) = some r := H
   have A7 := Aside0.mk A70
   clear A70
   by_cases c8 : t170 = true
   ·subst c8
    have H1 : ((impl_Word_42_at_43.f k l0_2 (wrap64 (a0_0))).bind fun t171 => (some (!t171))) = some r := by rw [if_pos rfl] at H; exact H
    clear H
    have H := H1
    clear H1
    replace H := Option.bind_eq_some_iff.mp H
    obtain ⟨t171, A90, H⟩ := H
    replace H : (some (!t171)) = some r := H
    have A9 := Aside0.mk A90
    clear A90
    obtain rfl := Option.some.inj H
    go_enter Try.func20, Try.ntmps20
    go_wp2_with (first | ((with_reducible refine gate_dst (N := 1) rfl ?_); refine box_event ?hg (N := 1) ?hd (cs := #[.int .i8 a0_0, .int .i8 a0_1, .slice A0_2 l0_2.length c0_2]) (t := 29) ?hr ?_; (case hd => rfl); (case hg => rfl); (case hr => first | (go_simp; done) | (go_simp; rfl)); intro gb165 hg w10 hbox hb; have n0_ := A_ (below_step (bl_ HB) hb); have n1_ := A_ (hbox); have n2_ := A_ ((by rw [hg]; exact (below_size (bl_ HB)) : w.heap.size ≤ gb165)); have n3_ := n2_; clear HB; have HB := n0_; have BK165 := n1_; have GW165 := n2_; have GE165 := n3_; clear n0_ n1_ n2_ n3_; clear hb hbox hg; obtain ⟨hcz11_0, hcz11_1, hcz11_2, hfz11_0, hfz11_1, hfz11_2⟩ := cl3_ BK165) | ((with_reducible refine gate_dst (N := 3) rfl ?_); refine box_event ?hg (N := 3) ?hd (cs := #[.int .i64 0]) (t := 2) ?hr ?_; (case hd => rfl); (case hg => rfl); (case hr => first | (go_simp; done) | (go_simp; rfl)); intro gb166 hg w12 hbox hb; have n0_ := A_ (blk_below (pl_ BK165) hb); have n1_ := A_ (below_step (bl_ HB) hb); have n2_ := A_ (hbox); have n3_ := A_ ((by rw [hg]; exact (below_size (bl_ HB)) : w.heap.size ≤ gb166)); have n4_ := n3_; have n5_ := A_ ((by rw [hg]; exact Nat.ne_of_lt (blk_lt (pl_ BK165)) : gb165 ≠ gb166)); have n6_ := Aside0.mk n5_.out.symm; clear BK165; clear HB; have BK165 := n0_; have HB := n1_; have BK166 := n2_; have GW166 := n3_; have GE166 := n4_; have NB165_166 := n5_; have NB166_165 := n6_; clear n0_ n1_ n2_ n3_ n4_ n5_ n6_; clear hb hbox hg; have hnb13 := NB166_165.out; have hnc13 := NB165_166.out; obtain ⟨hcz14_0, hfz14_0⟩ := cl1_ BK166) | ((with_reducible refine gate_callee (f := 40) rfl ?_); refine goesL_ (some 8) rfl rfl Try.func40 (by kernel_rfl) rfl #[.int .i64 (wrap64 (a0_0))] rfl arg_ ?_; (with_reducible refine (impl_areLetters.calls (wrap64 (a0_0)) true _ A2.out).mono ?_); rintro e w' ⟨rfl, ⟨nd, rfl⟩⟩; refine ⟨_, rfl, ?_⟩; obtain ⟨hcz15_0, hcz15_1, hcz15_2, hfz15_0, hfz15_1, hfz15_2⟩ := cl3_ BK165) | (go_at_call 41; (with_reducible refine (impl_isKind.calls (wrap64 (a0_1)) true _ A4.out).mono ?_); rintro e w' ⟨rfl, ⟨nd, rfl⟩⟩) | (go_at_call 22; (with_reducible refine (impl_Word_22.calls _ _ l0_2 t169 _ ?side1 ?side2 A6.out).mono ?_); (case side1 => exact Kd.C_below HR0_2.out (bs_ HB GE166)); (case side2 => exact HC0_2.out); rintro e w' ⟨rfl, ⟨nd, rfl⟩⟩) | (go_at_call 21; (with_reducible refine (impl_within.calls t169 1 80 true _ A7.out).mono ?_); rintro e w' ⟨rfl, ⟨nd, rfl⟩⟩) | (go_at_call 42; (with_reducible refine (impl_Word_42_at_43.calls k _ _ l0_2 gb166 (wrap64 (a0_0)) t171 _ ?side1 ?side2 ?side3 A9.out).mono ?_); (case side1 => exact Kd.C_below HR0_2.out (bs_ HB GE166)); (case side2 => exact HC0_2.out); (case side3 => exact (by (with_reducible repeat (first | refine blk_drewN ?_ _ | refine blk_drew ?_ | refine blk_alloc ?_ _)); refine blk_put (cs := #[.int .i64 0]) ?_ 0 _ rfl; (with_reducible repeat (first | refine blk_drewN ?_ _ | refine blk_drew ?_ | refine blk_alloc ?_ _)); exact BK166.out)); rintro e w16 ⟨rfl, hb⟩; have n0_ := A_ (blk_below (g := gb165) (o := .cells #[.int .i8 a0_0, .int .i8 a0_1, .slice A0_2 l0_2.length c0_2] 29 (0, 0)) (pf_ BK165 NB165_166) hb); have n1_ := A_ (blk_below (g := gb166) (o := .cells #[.int .i64 (wrap64 (a0_0))] 2 (0, 0)) (by (with_reducible repeat (first | refine blk_drewN ?_ _ | refine blk_drew ?_ | refine blk_alloc ?_ _)); refine blk_put (cs := #[.int .i64 0]) ?_ 0 _ rfl; (with_reducible repeat (first | refine blk_drewN ?_ _ | refine blk_drew ?_ | refine blk_alloc ?_ _)); exact BK166.out) hb); have n2_ := A_ (below_step (bs_ HB GE166) hb); clear BK165; clear BK166; clear HB; have BK165 := n0_; have BK166 := n1_; have HB := n2_; clear n0_ n1_ n2_; (try clear hb); (try clear hb2); (try clear hk); (try clear hi)))
    go_ret
    exact ⟨by first | rfl | (simp [errW_none, errW_some] <;> rfl) | (simp [*, errW_none, errW_some] <;> rfl), bl_ HB⟩
   ·replace c8 := Bool.eq_false_iff.mpr c8
    subst c8
    have H1 : (some false) = some r := by rw [if_neg (show ¬ (false = true) by decide)] at H; exact H
    clear H
    have H := H1
    clear H1
    obtain rfl := Option.some.inj H
    go_enter Try.func20, Try.ntmps20
    go_wp2_with (first | ((with_reducible refine gate_dst (N := 1) rfl ?_); refine box_event ?hg (N := 1) ?hd (cs := #[.int .i8 a0_0, .int .i8 a0_1, .slice A0_2 l0_2.length c0_2]) (t := 29) ?hr ?_; (case hd => rfl); (case hg => rfl); (case hr => first | (go_simp; done) | (go_simp; rfl)); intro gb165 hg w17 hbox hb; have n0_ := A_ (below_step (bl_ HB) hb); have n1_ := A_ (hbox); have n2_ := A_ ((by rw [hg]; exact (below_size (bl_ HB)) : w.heap.size ≤ gb165)); have n3_ := n2_; clear HB; have HB := n0_; have BK165 := n1_; have GW165 := n2_; have GE165 := n3_; clear n0_ n1_ n2_ n3_; clear hb hbox hg; obtain ⟨hcz18_0, hcz18_1, hcz18_2, hfz18_0, hfz18_1, hfz18_2⟩ := cl3_ BK165) | ((with_reducible refine gate_dst (N := 3) rfl ?_); refine box_event ?hg (N := 3) ?hd (cs := #[.int .i64 0]) (t := 2) ?hr ?_; (case hd => rfl); (case hg => rfl); (case hr => first | (go_simp; done) | (go_simp; rfl)); intro gb166 hg w19 hbox hb; have n0_ := A_ (blk_below (pl_ BK165) hb); have n1_ := A_ (below_step (bl_ HB) hb); have n2_ := A_ (hbox); have n3_ := A_ ((by rw [hg]; exact (below_size (bl_ HB)) : w.heap.size ≤ gb166)); have n4_ := n3_; have n5_ := A_ ((by rw [hg]; exact Nat.ne_of_lt (blk_lt (pl_ BK165)) : gb165 ≠ gb166)); have n6_ := Aside0.mk n5_.out.symm; clear BK165; clear HB; have BK165 := n0_; have HB := n1_; have BK166 := n2_; have GW166 := n3_; have GE166 := n4_; have NB165_166 := n5_; have NB166_165 := n6_; clear n0_ n1_ n2_ n3_ n4_ n5_ n6_; clear hb hbox hg; have hnb20 := NB166_165.out; have hnc20 := NB165_166.out; obtain ⟨hcz21_0, hfz21_0⟩ := cl1_ BK166) | ((with_reducible refine gate_callee (f := 40) rfl ?_); refine goesL_ (some 8) rfl rfl Try.func40 (by kernel_rfl) rfl #[.int .i64 (wrap64 (a0_0))] rfl arg_ ?_; (with_reducible refine (impl_areLetters.calls (wrap64 (a0_0)) true _ A2.out).mono ?_); rintro e w' ⟨rfl, ⟨nd, rfl⟩⟩; refine ⟨_, rfl, ?_⟩; obtain ⟨hcz22_0, hcz22_1, hcz22_2, hfz22_0, hfz22_1, hfz22_2⟩ := cl3_ BK165) | (go_at_call 41; (with_reducible refine (impl_isKind.calls (wrap64 (a0_1)) true _ A4.out).mono ?_); rintro e w' ⟨rfl, ⟨nd, rfl⟩⟩) | (go_at_call 22; (with_reducible refine (impl_Word_22.calls _ _ l0_2 t169 _ ?side1 ?side2 A6.out).mono ?_); (case side1 => exact Kd.C_below HR0_2.out (bs_ HB GE166)); (case side2 => exact HC0_2.out); rintro e w' ⟨rfl, ⟨nd, rfl⟩⟩) | (go_at_call 21; (with_reducible refine (impl_within.calls t169 1 80 false _ A7.out).mono ?_); rintro e w' ⟨rfl, ⟨nd, rfl⟩⟩))
    go_ret
    exact ⟨by first | rfl | (simp [errW_none, errW_some] <;> rfl) | (simp [*, errW_none, errW_some] <;> rfl), bs_ HB GE166⟩
  ·replace c5 := Bool.eq_false_iff.mpr c5
   subst c5
   have H1 : (some false) = some r := by rw [if_neg (show ¬ (false = true) by decide)] at H; exact H
   clear H
   have H := H1
   clear H1
   obtain rfl := Option.some.inj H
   go_enter Try.func20, Try.ntmps20
   go_wp2_with (first | ((with_reducible refine gate_dst (N := 1) rfl ?_); refine box_event ?hg (N := 1) ?hd (cs := #[.int .i8 a0_0, .int .i8 a0_1, .slice A0_2 l0_2.length c0_2]) (t := 29) ?hr ?_; (case hd => rfl); (case hg => rfl); (case hr => first | (go_simp; done) | (go_simp; rfl)); intro gb165 hg w23 hbox hb; have n0_ := A_ (below_step (bl_ HB) hb); have n1_ := A_ (hbox); have n2_ := A_ ((by rw [hg]; exact (below_size (bl_ HB)) : w.heap.size ≤ gb165)); have n3_ := n2_; clear HB; have HB := n0_; have BK165 := n1_; have GW165 := n2_; have GE165 := n3_; clear n0_ n1_ n2_ n3_; clear hb hbox hg; obtain ⟨hcz24_0, hcz24_1, hcz24_2, hfz24_0, hfz24_1, hfz24_2⟩ := cl3_ BK165) | ((with_reducible refine gate_dst (N := 3) rfl ?_); refine box_event ?hg (N := 3) ?hd (cs := #[.int .i64 0]) (t := 2) ?hr ?_; (case hd => rfl); (case hg => rfl); (case hr => first | (go_simp; done) | (go_simp; rfl)); intro gb166 hg w25 hbox hb; have n0_ := A_ (blk_below (pl_ BK165) hb); have n1_ := A_ (below_step (bl_ HB) hb); have n2_ := A_ (hbox); have n3_ := A_ ((by rw [hg]; exact (below_size (bl_ HB)) : w.heap.size ≤ gb166)); have n4_ := n3_; have n5_ := A_ ((by rw [hg]; exact Nat.ne_of_lt (blk_lt (pl_ BK165)) : gb165 ≠ gb166)); have n6_ := Aside0.mk n5_.out.symm; clear BK165; clear HB; have BK165 := n0_; have HB := n1_; have BK166 := n2_; have GW166 := n3_; have GE166 := n4_; have NB165_166 := n5_; have NB166_165 := n6_; clear n0_ n1_ n2_ n3_ n4_ n5_ n6_; clear hb hbox hg; have hnb26 := NB166_165.out; have hnc26 := NB165_166.out; obtain ⟨hcz27_0, hfz27_0⟩ := cl1_ BK166) | ((with_reducible refine gate_callee (f := 40) rfl ?_); refine goesL_ (some 8) rfl rfl Try.func40 (by kernel_rfl) rfl #[.int .i64 (wrap64 (a0_0))] rfl arg_ ?_; (with_reducible refine (impl_areLetters.calls (wrap64 (a0_0)) true _ A2.out).mono ?_); rintro e w' ⟨rfl, ⟨nd, rfl⟩⟩; refine ⟨_, rfl, ?_⟩; obtain ⟨hcz28_0, hcz28_1, hcz28_2, hfz28_0, hfz28_1, hfz28_2⟩ := cl3_ BK165) | (go_at_call 41; (with_reducible refine (impl_isKind.calls (wrap64 (a0_1)) false _ A4.out).mono ?_); rintro e w' ⟨rfl, ⟨nd, rfl⟩⟩))
   go_ret
   exact ⟨by first | rfl | (simp [errW_none, errW_some] <;> rfl) | (simp [*, errW_none, errW_some] <;> rfl), bs_ HB GE166⟩
 ·replace c3 := Bool.eq_false_iff.mpr c3
  subst c3
  have H1 : (some false) = some r := by rw [if_neg (show ¬ (false = true) by decide)] at H; exact H
  clear H
  have H := H1
  clear H1
  obtain rfl := Option.some.inj H
  go_enter Try.func20, Try.ntmps20
  go_wp2_with (first | ((with_reducible refine gate_dst (N := 1) rfl ?_); refine box_event ?hg (N := 1) ?hd (cs := #[.int .i8 a0_0, .int .i8 a0_1, .slice A0_2 l0_2.length c0_2]) (t := 29) ?hr ?_; (case hd => rfl); (case hg => rfl); (case hr => first | (go_simp; done) | (go_simp; rfl)); intro gb165 hg w29 hbox hb; have n0_ := A_ (below_step (bl_ HB) hb); have n1_ := A_ (hbox); have n2_ := A_ ((by rw [hg]; exact (below_size (bl_ HB)) : w.heap.size ≤ gb165)); have n3_ := n2_; clear HB; have HB := n0_; have BK165 := n1_; have GW165 := n2_; have GE165 := n3_; clear n0_ n1_ n2_ n3_; clear hb hbox hg; obtain ⟨hcz30_0, hcz30_1, hcz30_2, hfz30_0, hfz30_1, hfz30_2⟩ := cl3_ BK165) | ((with_reducible refine gate_dst (N := 3) rfl ?_); refine box_event ?hg (N := 3) ?hd (cs := #[.int .i64 0]) (t := 2) ?hr ?_; (case hd => rfl); (case hg => rfl); (case hr => first | (go_simp; done) | (go_simp; rfl)); intro gb166 hg w31 hbox hb; have n0_ := A_ (blk_below (pl_ BK165) hb); have n1_ := A_ (below_step (bl_ HB) hb); have n2_ := A_ (hbox); have n3_ := A_ ((by rw [hg]; exact (below_size (bl_ HB)) : w.heap.size ≤ gb166)); have n4_ := n3_; have n5_ := A_ ((by rw [hg]; exact Nat.ne_of_lt (blk_lt (pl_ BK165)) : gb165 ≠ gb166)); have n6_ := Aside0.mk n5_.out.symm; clear BK165; clear HB; have BK165 := n0_; have HB := n1_; have BK166 := n2_; have GW166 := n3_; have GE166 := n4_; have NB165_166 := n5_; have NB166_165 := n6_; clear n0_ n1_ n2_ n3_ n4_ n5_ n6_; clear hb hbox hg; have hnb32 := NB166_165.out; have hnc32 := NB165_166.out; obtain ⟨hcz33_0, hfz33_0⟩ := cl1_ BK166) | ((with_reducible refine gate_callee (f := 40) rfl ?_); refine goesL_ (some 8) rfl rfl Try.func40 (by kernel_rfl) rfl #[.int .i64 (wrap64 (a0_0))] rfl arg_ ?_; (with_reducible refine (impl_areLetters.calls (wrap64 (a0_0)) false _ A2.out).mono ?_); rintro e w' ⟨rfl, ⟨nd, rfl⟩⟩; refine ⟨_, rfl, ?_⟩))
  go_ret
  exact ⟨by first | rfl | (simp [errW_none, errW_some] <;> rfl) | (simp [*, errW_none, errW_some] <;> rfl), bs_ HB GE166⟩

/-! ### impl_Word_24: function 24 -/
def impl_Word_24.f (l0 : List (S41)) : Option ((List (S41))) := (some (([] : List (S41)) : List (S41))).bind fun y172 => (if y172.length + l0.length < 35184372088832 then (some (y172 ++ l0)) else (none))
set_option maxHeartbeats 8000000 in
set_option maxRecDepth 100000 in
theorem impl_Word_24.calls_some (adq_ : Addr) (c0 : Nat) (l0 : List (S41)) (r : List (S41)) (w : World) (hr0 : Kd.C k41 w (some adq_) l0.length l0) (hc0 : l0.length ≤ c0) (h : impl_Word_24.f l0 = some r) :
  Calls Try.prog 24 #[.slice (some adq_) l0.length c0] w fun e w' => ∃ v0_ : Value, e = .returned (v0_) ∧ Kd.R k41 41 w' w.heap.size (fun _ => True) v0_ r ∧ Below w.heap.size w w' := by
 have hnq0 := fun (n_ c_ : Nat) (W_ : World) => Lib.run_eql_slice_nil (P := Try.prog) W_ 27 41 (some adq_) n_ c_ 0 0 Try.underlying27
 have HR0 := Aside0.mk hr0
 have HC0 := Aside0.mk hc0
 clear hr0 hc0
 have HB := A_ (Below.refl w.heap.size w)
 have H : ((some (([] : List (S41)) : List (S41))).bind fun y172 => (if y172.length + l0.length < 35184372088832 then (some (y172 ++ l0)) else (none))) = some r := h
 clear h
 obtain ⟨y172, hy172⟩ : ∃ y_ : List (S41), y_ = (([] : List (S41))) := ⟨_, rfl⟩
 replace H : (if y172.length + l0.length < 35184372088832 then (some (y172 ++ l0)) else (none)) = some r := by first | (rw [hy172]; with_reducible exact H) | (have H2_ := (Option.bind_some _ _).symm.trans H; rw [hy172]; with_reducible exact H2_) | (have H2_ := (Option.bind_some _ _).symm.trans H; with_reducible exact H2_) | with_reducible exact H | (rw [hy172]; exact H) | exact H
 have Ny172 := Aside0.mk hy172
 clear hy172
 by_cases c2 : y172.length + l0.length < 35184372088832
 ·rw [if_pos c2] at H
  have LMc2 := Aside0.mk c2
  clear c2
  obtain ⟨y175, hy175⟩ : ∃ y_ : List (S41), y_ = (y172 ++ l0) := ⟨_, rfl⟩
  replace H : (some y175) = some r := by first | (rw [hy175]; with_reducible exact H) | (have H2_ := (Option.bind_some _ _).symm.trans H; rw [hy175]; with_reducible exact H2_) | (have H2_ := (Option.bind_some _ _).symm.trans H; with_reducible exact H2_) | with_reducible exact H | (rw [hy175]; exact H) | exact H
  have Ny175 := Aside0.mk hy175
  clear hy175
  obtain rfl := Option.some.inj H
  go_enter Try.func24, Try.ntmps24
  go_wp2_with (first | ((with_reducible refine gate_dst (N := 5) rfl ?_); refine Kd.R_lit k41 _ 41 ?hg (N := 5) ?hd (xs := ([] : List (S41))) (inner := []) (ok := fun _ => True) (okp := fun _ => True) ?hr ?hp (fun _ hk => hk) trivial (Below.refl _ _) (Nat.le_refl _) (by simp) ?_; (case hd => rfl); (case hg => rfl); (case hr => first | (go_simp; done) | (go_simp; rfl)); (case hp => exact (Reps.none _ _)); intro v173 w3 ho4 hb hg_ hnew_; clear hg_ hnew_; (first | rw [← Ny172.out] at ho4 | (simp only [Int.reduceToNat] at ho4; rw [← Ny172.out] at ho4)); have n0_ := A_ (Kd.R_lower ho4 (below_size (bl_ HB))); have n1_ := A_ (below_step (bl_ HB) hb); clear HB; have HO174 := n0_; have HB := n1_; clear n0_ n1_; clear hb ho4) | ((with_reducible refine gate_builtin (b := .append) (xs := #[.tmp 5, .tmp 6]) rfl ?_); at_builtin; refine Kd.R_append_rows k41 (w0 := w) w.heap.size rfl (.tmp 5) (.tmp 6) 27 41 (.agg #[(.int .i8 0), (.int .i8 0), (.int .i8 0), (.int .i8 0)]) 4 rfl Try.underlying27 info41 rfl (by decide) (by omega) v173 y172 l0 _ _ _ (fun _ => True) (fun _ => False) rfl rfl ?aO ?aR (fun _ _ h => h) (fun _ h => h.elim) ?aF ?aB ?aS ?aL ?_; (case aR => repeat (first | exact (Kd.C_below HR0.out HB.out) | (with_reducible refine Kd.C_alloc ?_ _) | (with_reducible refine Kd.C_drewN ?_ _) | (with_reducible refine Kd.C_drew ?_))); (case aB => exact (bl_ HB)); (case aF => exact (fun _ _ => trivial)); (case aO => exact (pr_ HO174)); (case aS => exact (below_size (bl_ HB))); (case aL => have := LMc2.out; omega); intro v176 w5 ho hb hg hat; rw [← Ny175.out] at ho; have n0_ := A_ (hb); have n1_ := A_ (ho); clear HB; clear HO174; have HB := n0_; have HO177 := n1_; clear n0_ n1_; clear ho hb hg hat))
  go_ret
  exact ⟨_, by first | rfl | (simp [errW_none, errW_some] <;> rfl) | (simp [*, errW_none, errW_some] <;> rfl), pr_ HO177, bl_ HB⟩
 ·rw [if_neg c2] at H
  exact absurd H (by simp)

set_option maxHeartbeats 800000 in
theorem impl_Word_24.calls (A0 : Option Addr) (c0 : Nat) (l0 : List (S41)) (r : List (S41)) (w : World) (hr0 : Kd.C k41 w A0 l0.length l0) (hc0 : l0.length ≤ c0) (h : impl_Word_24.f l0 = some r) :
  Calls Try.prog 24 #[.slice A0 l0.length c0] w fun e w' => ∃ v0_ : Value, e = .returned (v0_) ∧ Kd.R k41 41 w' w.heap.size (fun _ => True) v0_ r ∧ Below w.heap.size w w' := by
 cases A0 with
 | none =>
  obtain rfl : l0 = [] := List.eq_nil_of_length_eq_zero (by rcases Nat.eq_zero_or_pos l0.length with h_ | h_; exact h_; exact absurd (hr0.2.2 h_) (by simp))
  obtain rfl : r = [] := by simpa [impl_Word_24.f] using h.symm
  have hnq := fun (n_ c_ : Nat) (W_ : World) => Lib.run_eql_slice_nil (P := Try.prog) W_ 27 41 none n_ c_ 0 0 Try.underlying27
  go_enter Try.func24, Try.ntmps24
  go_wp2
  go_ret
  exact ⟨_, rfl, Kd.R_nil _ _ _ _ _, Below.refl _ _⟩
 | some adq_ => exact impl_Word_24.calls_some adq_ c0 l0 r w hr0 hc0 h

end Go.Proofs.Ytkieplebdbdigaa.M
