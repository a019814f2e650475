-- By this seat's own program over the kit's printer (arrays, functions told by hand); nothing of it is trusted: the kernel checks it.
import Derived.Test.YtkieplebdbdigaaMx0
import Derived.Test.YtkieplebdbdigaaMx9
namespace Go.Proofs.Ytkieplebdbdigaa.M
open Go.RowKit Go.Proofs.YtkieplebdbdigaaW.PrintWords Go.Proofs.YtkieplebdbdigaaW.PrintLast Go.Proofs.YtkieplebdbdigaaW.PrintMore
attribute [local go_sem] max2_int min2_int max_two min_two max_three min_three max_four min_four   -- for this text's walks alone
set_option linter.unusedVariables false
set_option linter.unusedSimpArgs false

/-! ### laws_eqFixed: function 9 -/
def laws_eqFixed.f (k : Nat) (a0_0 : Int) (a0_1 : Int) (l0_2 : List (S41)) (a1_0 : Int) (a1_1 : Int) (l1_2 : List (S41)) : Option (Bool) := if a0_0 = a1_0 then (if a0_1 = a1_1 then ((laws_eqWordS.f k l0_2 l1_2).bind fun t196 => (if t196 = true then (some true) else (some false))) else (some false)) else (some false)
theorem laws_eqFixed.mono : ∀ a0 a1 a2 a3 a4 a5 k, LeO (laws_eqFixed.f k a0 a1 a2 a3 a4 a5) (laws_eqFixed.f (k + 1) a0 a1 a2 a3 a4 a5) := by
 intro a0 a1 a2 a3 a4 a5 k
 unfold laws_eqFixed.f
 repeat' first
   | (with_reducible exact laws_eqWordS.mono _ _ _)
   | (with_reducible exact LeO.refl _)
   | (with_reducible exact LeO.none _)
   | (with_reducible refine LeO.ite ?_ ?_)
   | (with_reducible refine LeO.bind ?_ (fun _ => ?_))
   | exact laws_eqWordS.mono _ _ _
   | exact LeO.none _
   | refine LeO.ite ?_ ?_
   | refine LeO.bind ?_ (fun _ => ?_)
set_option maxHeartbeats 8000000 in
set_option maxRecDepth 100000 in
theorem laws_eqFixed.calls (k : Nat) (a0_0 : Int) (a0_1 : Int) (A0_2 : Option Addr) (c0_2 : Nat) (l0_2 : List (S41)) (a1_0 : Int) (a1_1 : Int) (A1_2 : Option Addr) (c1_2 : Nat) (l1_2 : List (S41)) (r : Bool) (w : World) (hr0_2 : Kd.C k41 w A0_2 l0_2.length l0_2) (hc0_2 : l0_2.length ≤ c0_2) (hr1_2 : Kd.C k41 w A1_2 l1_2.length l1_2) (hc1_2 : l1_2.length ≤ c1_2) (h : laws_eqFixed.f k a0_0 a0_1 l0_2 a1_0 a1_1 l1_2 = some r) :
  Calls Try.prog 9 #[.agg #[.int .i8 a0_0, .int .i8 a0_1, .slice A0_2 l0_2.length c0_2], .agg #[.int .i8 a1_0, .int .i8 a1_1, .slice A1_2 l1_2.length c1_2]] w fun e w' => e = .returned (.bool r) ∧ Below w.heap.size w w' := by
 have hu29 := Try.underlying29
 have HR0_2 := Aside0.mk hr0_2
 have HC0_2 := Aside0.mk hc0_2
 clear hr0_2 hc0_2
 have HR1_2 := Aside0.mk hr1_2
 have HC1_2 := Aside0.mk hc1_2
 clear hr1_2 hc1_2
 have HB := A_ (Below.refl w.heap.size w)
 have H : (if a0_0 = a1_0 then (if a0_1 = a1_1 then ((laws_eqWordS.f k l0_2 l1_2).bind fun t196 => (if t196 = true then (some true) else (some false))) else (some false)) else (some false)) = some r := h
 clear h
 by_cases c3 : a0_0 = a1_0
 ·rw [if_pos c3] at H
  have c3b0 : (a0_0 == a1_0) = true := beq_iff_eq.mpr c3
  have c3b1 : (a0_0 != a1_0) = false := bne_eq_false_iff_eq.mpr c3
  clear c3
  by_cases c4 : a0_1 = a1_1
  ·rw [if_pos c4] at H
   have c4b0 : (a0_1 == a1_1) = true := beq_iff_eq.mpr c4
   have c4b1 : (a0_1 != a1_1) = false := bne_eq_false_iff_eq.mpr c4
   clear c4
   replace H := Option.bind_eq_some_iff.mp H
   obtain ⟨t196, A50, H⟩ := H
   replace H : (if t196 = true then (some true) else (some false)) = some r := H
   have A5 := Aside0.mk A50
   clear A50
   by_cases c6 : t196 = true
   ·subst c6
    have H1 : (some true) = some r := by rw [if_pos rfl] at H; exact H
    clear H
    have H := H1
    clear H1
    obtain rfl := Option.some.inj H
    go_enter Try.func9, Try.ntmps9
    go_wp2_with (first | ((with_reducible refine gate_dst (N := 2) rfl ?_); refine box_event ?hg (N := 2) ?hd (cs := #[.int .i8 a0_0, .int .i8 a0_1, .slice A0_2 l0_2.length c0_2]) (t := 29) ?hr ?_; (case hd => rfl); (case hg => rfl); (case hr => first | (go_simp; done) | (go_simp; rfl)); intro gb194 hg w7 hbox hb; have n0_ := A_ (below_step (bl_ HB) hb); have n1_ := A_ (hbox); have n2_ := A_ ((by rw [hg]; exact (below_size (bl_ HB)) : w.heap.size ≤ gb194)); have n3_ := n2_; clear HB; have HB := n0_; have BK194 := n1_; have GW194 := n2_; have GE194 := n3_; clear n0_ n1_ n2_ n3_; clear hb hbox hg) | ((with_reducible refine gate_dst (N := 3) rfl ?_); refine box_event ?hg (N := 3) ?hd (cs := #[.int .i8 a1_0, .int .i8 a1_1, .slice A1_2 l1_2.length c1_2]) (t := 29) ?hr ?_; (case hd => rfl); (case hg => rfl); (case hr => first | (go_simp; done) | (go_simp; rfl)); intro gb195 hg w8 hbox hb; have n0_ := A_ (blk_below (pl_ BK194) hb); have n1_ := A_ (below_step (bl_ HB) hb); have n2_ := A_ (hbox); have n3_ := A_ ((by rw [hg]; exact (below_size (bl_ HB)) : w.heap.size ≤ gb195)); have n4_ := n3_; have n5_ := A_ ((by rw [hg]; exact Nat.ne_of_lt (blk_lt (pl_ BK194)) : gb194 ≠ gb195)); have n6_ := Aside0.mk n5_.out.symm; clear BK194; clear HB; have BK194 := n0_; have HB := n1_; have BK195 := n2_; have GW195 := n3_; have GE195 := n4_; have NB194_195 := n5_; have NB195_194 := n6_; clear n0_ n1_ n2_ n3_ n4_ n5_ n6_; clear hb hbox hg; have hnb9 := NB194_195.out; have hnc9 := NB195_194.out; obtain ⟨hcz10_0, hcz10_1, hcz10_2, hfz10_0, hfz10_1, hfz10_2⟩ := cl3_ BK194; obtain ⟨hcz11_0, hcz11_1, hcz11_2, hfz11_0, hfz11_1, hfz11_2⟩ := cl3_ BK195) | ((with_reducible refine gate_callee (f := 25) rfl ?_); refine goesL_ (some 19) rfl rfl Try.func25 (by kernel_rfl) rfl #[.slice A0_2 l0_2.length c0_2, .slice A1_2 l1_2.length c1_2] rfl arg_ ?_; (with_reducible refine (laws_eqWordS.calls k _ _ l0_2 _ _ l1_2 true _ ?side1 ?side2 ?side3 ?side4 A5.out).mono ?_); (case side1 => exact Kd.C_below HR0_2.out (bl_ HB)); (case side2 => exact HC0_2.out); (case side3 => exact Kd.C_below HR1_2.out (bl_ HB)); (case side4 => exact HC1_2.out); rintro e w12 ⟨rfl, hb⟩; refine ⟨_, rfl, ?_⟩; have n0_ := A_ (blk_below (pl_ BK194) hb); have n1_ := A_ (blk_below (pl_ BK195) hb); have n2_ := A_ (below_step (bl_ HB) hb); clear BK194; clear BK195; clear HB; have BK194 := n0_; have BK195 := n1_; have HB := n2_; clear n0_ n1_ n2_; (try clear hb); (try clear hb2); (try clear hk); (try clear hi)))
    go_ret
    exact ⟨by first | rfl | (simp [errW_none, errW_some] <;> rfl) | (simp [*, errW_none, errW_some] <;> rfl), bl_ HB⟩
   ·replace c6 := Bool.eq_false_iff.mpr c6
    subst c6
    have H1 : (some false) = some r := by rw [if_neg (show ¬ (false = true) by decide)] at H; exact H
    clear H
    have H := H1
    clear H1
    obtain rfl := Option.some.inj H
    go_enter Try.func9, Try.ntmps9
    go_wp2_with (first | ((with_reducible refine gate_dst (N := 2) rfl ?_); refine box_event ?hg (N := 2) ?hd (cs := #[.int .i8 a0_0, .int .i8 a0_1, .slice A0_2 l0_2.length c0_2]) (t := 29) ?hr ?_; (case hd => rfl); (case hg => rfl); (case hr => first | (go_simp; done) | (go_simp; rfl)); intro gb194 hg w13 hbox hb; have n0_ := A_ (below_step (bl_ HB) hb); have n1_ := A_ (hbox); have n2_ := A_ ((by rw [hg]; exact (below_size (bl_ HB)) : w.heap.size ≤ gb194)); have n3_ := n2_; clear HB; have HB := n0_; have BK194 := n1_; have GW194 := n2_; have GE194 := n3_; clear n0_ n1_ n2_ n3_; clear hb hbox hg) | ((with_reducible refine gate_dst (N := 3) rfl ?_); refine box_event ?hg (N := 3) ?hd (cs := #[.int .i8 a1_0, .int .i8 a1_1, .slice A1_2 l1_2.length c1_2]) (t := 29) ?hr ?_; (case hd => rfl); (case hg => rfl); (case hr => first | (go_simp; done) | (go_simp; rfl)); intro gb195 hg w14 hbox hb; have n0_ := A_ (blk_below (pl_ BK194) hb); have n1_ := A_ (below_step (bl_ HB) hb); have n2_ := A_ (hbox); have n3_ := A_ ((by rw [hg]; exact (below_size (bl_ HB)) : w.heap.size ≤ gb195)); have n4_ := n3_; have n5_ := A_ ((by rw [hg]; exact Nat.ne_of_lt (blk_lt (pl_ BK194)) : gb194 ≠ gb195)); have n6_ := Aside0.mk n5_.out.symm; clear BK194; clear HB; have BK194 := n0_; have HB := n1_; have BK195 := n2_; have GW195 := n3_; have GE195 := n4_; have NB194_195 := n5_; have NB195_194 := n6_; clear n0_ n1_ n2_ n3_ n4_ n5_ n6_; clear hb hbox hg; have hnb15 := NB194_195.out; have hnc15 := NB195_194.out; obtain ⟨hcz16_0, hcz16_1, hcz16_2, hfz16_0, hfz16_1, hfz16_2⟩ := cl3_ BK194; obtain ⟨hcz17_0, hcz17_1, hcz17_2, hfz17_0, hfz17_1, hfz17_2⟩ := cl3_ BK195) | ((with_reducible refine gate_callee (f := 25) rfl ?_); refine goesL_ (some 19) rfl rfl Try.func25 (by kernel_rfl) rfl #[.slice A0_2 l0_2.length c0_2, .slice A1_2 l1_2.length c1_2] rfl arg_ ?_; (with_reducible refine (laws_eqWordS.calls k _ _ l0_2 _ _ l1_2 false _ ?side1 ?side2 ?side3 ?side4 A5.out).mono ?_); (case side1 => exact Kd.C_below HR0_2.out (bl_ HB)); (case side2 => exact HC0_2.out); (case side3 => exact Kd.C_below HR1_2.out (bl_ HB)); (case side4 => exact HC1_2.out); rintro e w18 ⟨rfl, hb⟩; refine ⟨_, rfl, ?_⟩; have n0_ := A_ (blk_below (pl_ BK194) hb); have n1_ := A_ (blk_below (pl_ BK195) hb); have n2_ := A_ (below_step (bl_ HB) hb); clear BK194; clear BK195; clear HB; have BK194 := n0_; have BK195 := n1_; have HB := n2_; clear n0_ n1_ n2_; (try clear hb); (try clear hb2); (try clear hk); (try clear hi)))
    go_ret
    exact ⟨by first | rfl | (simp [errW_none, errW_some] <;> rfl) | (simp [*, errW_none, errW_some] <;> rfl), bl_ HB⟩
  ·rw [if_neg c4] at H
   have c4b0 : (a0_1 == a1_1) = false := beq_eq_false_iff_ne.mpr c4
   have c4b1 : (a0_1 != a1_1) = true := bne_iff_ne.mpr c4
   obtain rfl := Option.some.inj H
   go_enter Try.func9, Try.ntmps9
   go_wp2_with (first | ((with_reducible refine gate_dst (N := 2) rfl ?_); refine box_event ?hg (N := 2) ?hd (cs := #[.int .i8 a0_0, .int .i8 a0_1, .slice A0_2 l0_2.length c0_2]) (t := 29) ?hr ?_; (case hd => rfl); (case hg => rfl); (case hr => first | (go_simp; done) | (go_simp; rfl)); intro gb194 hg w19 hbox hb; have n0_ := A_ (below_step (bl_ HB) hb); have n1_ := A_ (hbox); have n2_ := A_ ((by rw [hg]; exact (below_size (bl_ HB)) : w.heap.size ≤ gb194)); have n3_ := n2_; clear HB; have HB := n0_; have BK194 := n1_; have GW194 := n2_; have GE194 := n3_; clear n0_ n1_ n2_ n3_; clear hb hbox hg) | ((with_reducible refine gate_dst (N := 3) rfl ?_); refine box_event ?hg (N := 3) ?hd (cs := #[.int .i8 a1_0, .int .i8 a1_1, .slice A1_2 l1_2.length c1_2]) (t := 29) ?hr ?_; (case hd => rfl); (case hg => rfl); (case hr => first | (go_simp; done) | (go_simp; rfl)); intro gb195 hg w20 hbox hb; have n0_ := A_ (blk_below (pl_ BK194) hb); have n1_ := A_ (below_step (bl_ HB) hb); have n2_ := A_ (hbox); have n3_ := A_ ((by rw [hg]; exact (below_size (bl_ HB)) : w.heap.size ≤ gb195)); have n4_ := n3_; have n5_ := A_ ((by rw [hg]; exact Nat.ne_of_lt (blk_lt (pl_ BK194)) : gb194 ≠ gb195)); have n6_ := Aside0.mk n5_.out.symm; clear BK194; clear HB; have BK194 := n0_; have HB := n1_; have BK195 := n2_; have GW195 := n3_; have GE195 := n4_; have NB194_195 := n5_; have NB195_194 := n6_; clear n0_ n1_ n2_ n3_ n4_ n5_ n6_; clear hb hbox hg; have hnb21 := NB194_195.out; have hnc21 := NB195_194.out; obtain ⟨hcz22_0, hcz22_1, hcz22_2, hfz22_0, hfz22_1, hfz22_2⟩ := cl3_ BK194; obtain ⟨hcz23_0, hcz23_1, hcz23_2, hfz23_0, hfz23_1, hfz23_2⟩ := cl3_ BK195))
   go_ret
   exact ⟨by first | rfl | (simp [errW_none, errW_some] <;> rfl) | (simp [*, errW_none, errW_some] <;> rfl), bl_ HB⟩
 ·rw [if_neg c3] at H
  have c3b0 : (a0_0 == a1_0) = false := beq_eq_false_iff_ne.mpr c3
  have c3b1 : (a0_0 != a1_0) = true := bne_iff_ne.mpr c3
  obtain rfl := Option.some.inj H
  go_enter Try.func9, Try.ntmps9
  go_wp2_with (first | ((with_reducible refine gate_dst (N := 2) rfl ?_); refine box_event ?hg (N := 2) ?hd (cs := #[.int .i8 a0_0, .int .i8 a0_1, .slice A0_2 l0_2.length c0_2]) (t := 29) ?hr ?_; (case hd => rfl); (case hg => rfl); (case hr => first | (go_simp; done) | (go_simp; rfl)); intro gb194 hg w24 hbox hb; have n0_ := A_ (below_step (bl_ HB) hb); have n1_ := A_ (hbox); have n2_ := A_ ((by rw [hg]; exact (below_size (bl_ HB)) : w.heap.size ≤ gb194)); have n3_ := n2_; clear HB; have HB := n0_; have BK194 := n1_; have GW194 := n2_; have GE194 := n3_; clear n0_ n1_ n2_ n3_; clear hb hbox hg) | ((with_reducible refine gate_dst (N := 3) rfl ?_); refine box_event ?hg (N := 3) ?hd (cs := #[.int .i8 a1_0, .int .i8 a1_1, .slice A1_2 l1_2.length c1_2]) (t := 29) ?hr ?_; (case hd => rfl); (case hg => rfl); (case hr => first | (go_simp; done) | (go_simp; rfl)); intro gb195 hg w25 hbox hb; have n0_ := A_ (blk_below (pl_ BK194) hb); have n1_ := A_ (below_step (bl_ HB) hb); have n2_ := A_ (hbox); have n3_ := A_ ((by rw [hg]; exact (below_size (bl_ HB)) : w.heap.size ≤ gb195)); have n4_ := n3_; have n5_ := A_ ((by rw [hg]; exact Nat.ne_of_lt (blk_lt (pl_ BK194)) : gb194 ≠ gb195)); have n6_ := Aside0.mk n5_.out.symm; clear BK194; clear HB; have BK194 := n0_; have HB := n1_; have BK195 := n2_; have GW195 := n3_; have GE195 := n4_; have NB194_195 := n5_; have NB195_194 := n6_; clear n0_ n1_ n2_ n3_ n4_ n5_ n6_; clear hb hbox hg; have hnb26 := NB194_195.out; have hnc26 := NB195_194.out; obtain ⟨hcz27_0, hcz27_1, hcz27_2, hfz27_0, hfz27_1, hfz27_2⟩ := cl3_ BK194; obtain ⟨hcz28_0, hcz28_1, hcz28_2, hfz28_0, hfz28_1, hfz28_2⟩ := cl3_ BK195))
  go_ret
  exact ⟨by first | rfl | (simp [errW_none, errW_some] <;> rfl) | (simp [*, errW_none, errW_some] <;> rfl), bl_ HB⟩

/-! ### laws_markWordS: function 26 -/
mutual
def laws_markWordS.l0 : Nat → List (S41) → Int → Int → Option (Int × (List (S41)))
 | 0, _, _, _ => none
 | k + 1, x0, x1, x5 => if x5 < (x0.length : Int) then (laws_markWordS.l1 k x0 x1 x5 0) else (some (x1, x0))
def laws_markWordS.l1 : Nat → List (S41) → Int → Int → Int → Option (Int × (List (S41)))
 | 0, _, _, _, _ => none
 | k + 1, x0, x1, x5, x6 => if x6 < 4 then (if 0 ≤ x5 then (if x5 < (x0.length : Int) then (if 0 ≤ x6 then (laws_markWordS.l1 k (x0.set (x5 : Int).toNat (⟨aup x6 0 (IntKind.i8.wrap (x1)) ((rd_T41 x0 x5).f0), aup x6 1 (IntKind.i8.wrap (x1)) ((rd_T41 x0 x5).f1), aup x6 2 (IntKind.i8.wrap (x1)) ((rd_T41 x0 x5).f2), aup x6 3 (IntKind.i8.wrap (x1)) ((rd_T41 x0 x5).f3)⟩ : S41)) (wrap64 (x1 + 1)) x5 (wrap64 (x6 + 1))) else (none)) else (none)) else (none)) else (laws_markWordS.l0 k x0 x1 (wrap64 (x5 + 1)))
end
def laws_markWordS.f (k : Nat) (l0 : List (S41)) (a1 : Int) : Option (Int × (List (S41))) := laws_markWordS.l0 k l0 a1 0
theorem laws_markWordS.mono_l : ∀ k, (∀ y0 y1 y2, LeO (laws_markWordS.l0 k y0 y1 y2) (laws_markWordS.l0 (k + 1) y0 y1 y2)) ∧ (∀ y0 y1 y2 y3, LeO (laws_markWordS.l1 k y0 y1 y2 y3) (laws_markWordS.l1 (k + 1) y0 y1 y2 y3))
 | 0 => ⟨fun _ _ _ r h => by simp [laws_markWordS.l0] at h, fun _ _ _ _ r h => by simp [laws_markWordS.l1] at h⟩
 | k + 1 => by
  obtain ⟨ih0, ih1⟩ := laws_markWordS.mono_l k
  refine ⟨?_, ?_⟩
  ·intro y0 y1 y2
   unfold laws_markWordS.l0
   repeat' first
   | (with_reducible exact ih0 _ _ _)
   | (with_reducible exact ih1 _ _ _ _)
   | (with_reducible exact LeO.refl _)
   | (with_reducible exact LeO.none _)
   | (with_reducible refine LeO.ite ?_ ?_)
   | (with_reducible refine LeO.bind ?_ (fun _ => ?_))
   | exact ih0 _ _ _
   | exact ih1 _ _ _ _
   | exact LeO.none _
   | refine LeO.ite ?_ ?_
   | refine LeO.bind ?_ (fun _ => ?_)
  ·intro y0 y1 y2 y3
   unfold laws_markWordS.l1
   repeat' first
   | (with_reducible exact ih0 _ _ _)
   | (with_reducible exact ih1 _ _ _ _)
   | (with_reducible exact LeO.refl _)
   | (with_reducible exact LeO.none _)
   | (with_reducible refine LeO.ite ?_ ?_)
   | (with_reducible refine LeO.bind ?_ (fun _ => ?_))
   | exact ih0 _ _ _
   | exact ih1 _ _ _ _
   | exact LeO.none _
   | refine LeO.ite ?_ ?_
   | refine LeO.bind ?_ (fun _ => ?_)
theorem laws_markWordS.mono : ∀ a0 a1 k, LeO (laws_markWordS.f k a0 a1) (laws_markWordS.f (k + 1) a0 a1) := by
 intro a0 a1 k
 obtain ⟨ih0, ih1⟩ := laws_markWordS.mono_l k
 unfold laws_markWordS.f
 repeat' first
   | (with_reducible exact ih0 _ _ _)
   | (with_reducible exact ih1 _ _ _ _)
   | (with_reducible exact LeO.refl _)
   | (with_reducible exact LeO.none _)
   | (with_reducible refine LeO.ite ?_ ?_)
   | (with_reducible refine LeO.bind ?_ (fun _ => ?_))
   | exact ih0 _ _ _
   | exact ih1 _ _ _ _
   | exact LeO.none _
   | refine LeO.ite ?_ ?_
   | refine LeO.bind ?_ (fun _ => ?_)
theorem laws_markWordS.dcell41 {w : World} {e base : Nat} {ok : Nat → Prop} {g n c : Nat} {xs : List S41} (h : Kd.R k41 e w base ok (.slice (some ⟨g, 0, none⟩) n c) xs) (i j : Int) (h0 : 0 ≤ i) (h1 : i < n) (j0 : 0 ≤ j) (j1 : j < 4) : w.cell? ⟨g, i.toNat * 4 + j.toNat, none⟩ = some (.int .i8 (rd [(rd_T41 xs i).f0, (rd_T41 xs i).f1, (rd_T41 xs i).f2, (rd_T41 xs i).f3] j)) ∧ w.frozen? ⟨g, i.toNat * 4 + j.toNat, none⟩ = false := by
 obtain ⟨ce, hcl, hM, hcc, hfr⟩ := Kd.R_elem h z41 i h0 h1
 obtain rfl := k41_openM hM
 have hj : j = 0 ∨ j = 1 ∨ j = 2 ∨ j = 3 := by omega
 rcases hj with rfl | rfl | rfl | rfl
 ·exact ⟨hcc 0 _ rfl, hfr 0⟩
 ·exact ⟨hcc 1 _ rfl, hfr 1⟩
 ·exact ⟨hcc 2 _ rfl, hfr 2⟩
 ·exact ⟨hcc 3 _ rfl, hfr 3⟩
theorem laws_markWordS.dput41 {w : World} {e base : Nat} {ok : Nat → Prop} {g n c : Nat} {xs : List S41} (h : Kd.R k41 e w base ok (.slice (some ⟨g, 0, none⟩) n c) xs) (i j : Int) (v : Int) (h0 : 0 ≤ i) (h1 : i < n) (j0 : 0 ≤ j) (j1 : j < 4) : Kd.R k41 e (w.setCell ⟨g, i.toNat * 4 + j.toNat, none⟩ (.int .i8 v)) base ok (.slice (some ⟨g, 0, none⟩) n c) (xs.set i.toNat (⟨aup j 0 v (rd_T41 xs i).f0, aup j 1 v (rd_T41 xs i).f1, aup j 2 v (rd_T41 xs i).f2, aup j 3 v (rd_T41 xs i).f3⟩ : S41)) ∧ w.grownBy (w.setCell ⟨g, i.toNat * 4 + j.toNat, none⟩ (.int .i8 v)) (some g) := by
 obtain ⟨ce, hcl, hM, hcc, hfr⟩ := Kd.R_elem h z41 i h0 h1
 obtain rfl := k41_openM hM
 have hj : j = 0 ∨ j = 1 ∨ j = 2 ∨ j = 3 := by omega
 rcases hj with rfl | rfl | rfl | rfl
 ·exact Kd.R_seg h i h0 h1 (seg := [.int .i8 v]) (j := 0) hcl hcc (show 1 ≤ 4 from by decide) (x' := (⟨v, (rd_T41 xs i).f1, (rd_T41 xs i).f2, (rd_T41 xs i).f3⟩ : S41)) (k41_mkM _ _ _ (⟨v, (rd_T41 xs i).f1, (rd_T41 xs i).f2, (rd_T41 xs i).f3⟩ : S41) ) (fun _ hk => hk)
 ·exact Kd.R_seg h i h0 h1 (seg := [.int .i8 v]) (j := 1) hcl hcc (show 2 ≤ 4 from by decide) (x' := (⟨(rd_T41 xs i).f0, v, (rd_T41 xs i).f2, (rd_T41 xs i).f3⟩ : S41)) (k41_mkM _ _ _ (⟨(rd_T41 xs i).f0, v, (rd_T41 xs i).f2, (rd_T41 xs i).f3⟩ : S41) ) (fun _ hk => hk)
 ·exact Kd.R_seg h i h0 h1 (seg := [.int .i8 v]) (j := 2) hcl hcc (show 3 ≤ 4 from by decide) (x' := (⟨(rd_T41 xs i).f0, (rd_T41 xs i).f1, v, (rd_T41 xs i).f3⟩ : S41)) (k41_mkM _ _ _ (⟨(rd_T41 xs i).f0, (rd_T41 xs i).f1, v, (rd_T41 xs i).f3⟩ : S41) ) (fun _ hk => hk)
 ·exact Kd.R_seg h i h0 h1 (seg := [.int .i8 v]) (j := 3) hcl hcc (show 4 ≤ 4 from by decide) (x' := (⟨(rd_T41 xs i).f0, (rd_T41 xs i).f1, (rd_T41 xs i).f2, v⟩ : S41)) (k41_mkM _ _ _ (⟨(rd_T41 xs i).f0, (rd_T41 xs i).f1, (rd_T41 xs i).f2, v⟩ : S41) ) (fun _ hk => hk)

set_option maxHeartbeats 8000000 in
set_option maxRecDepth 100000 in
theorem laws_markWordS.calls (k : Nat) (P0_ : Nat → Prop) (u9000_ : Value) (l0 : List (S41)) (a1 : Int) (r1 : Int) (r2 : List (S41)) (w0 w : World) (hB : Below w0.heap.size w0 w) (ho0 : Kd.R k41 41 w w0.heap.size P0_ u9000_ l0) (h : laws_markWordS.f k l0 a1 = some (r1, r2)) :
  Calls Try.prog 26 #[u9000_, .int .i64 a1] w fun e w' => e = .returned (.int .i64 r1) ∧ Kd.R k41 41 w' w0.heap.size (fun k_ => (P0_ k_ ∨ w.heap.size ≤ k_)) u9000_ r2 ∧ Below w0.heap.size w0 w' ∧ Kept w w' (fun k_ => P0_ k_) := by
 have HO0 := A_ (show Kd.R k41 41 w w0.heap.size (fun k_ => (P0_ k_ ∨ w.heap.size ≤ k_)) u9000_ l0 from Kd.R_mono ho0 (fun k_ hk => (.inl hk)))
 have HK := A_ (Kept.refl w (fun k_ => P0_ k_))
 have HW0 := Aside0.mk hB.size
 have HB := Aside0.mk hB
 clear hB
 have H : (laws_markWordS.l0 k l0 a1 0) = some (r1, r2) := h
 clear h
 have H' := Aside0.mk H
 clear H
 go_enter Try.func26, Try.ntmps26
 go_wp2
 go_loopg [1, 5] k (fun kq v1 v5 w' => ∃ (x0_1 : List (S41)) (x1_1 : Int) (x5_1 : Int), v1 = .int .i64 x1_1 ∧ v5 = .int .i64 x5_1 ∧ Aside0 (laws_markWordS.l0 kq x0_1 x1_1 x5_1 = some (r1, r2)) ∧ Aside0 (kq ≤ k) ∧ Aside0 (Kd.R k41 41 w' w0.heap.size (fun k_ => (P0_ k_ ∨ w.heap.size ≤ k_)) u9000_ x0_1) ∧ Aside0 (Kept w w' (fun k_ => P0_ k_)) ∧ Aside0 (Below w0.heap.size w0 w'))
 case atStart => exact ⟨(l0), (a1), (0), rs_, rs_, H', ⟨Nat.le_refl _⟩, ⟨pr_ HO0⟩, ⟨by repeat (first | (with_reducible first | exact HK.out | apply Kept.alloc | apply Kept.drewN | apply Kept.drew) | exact HK.out)⟩, ⟨bl_ HB⟩⟩
 case round =>
  clear H'
  try clear c2
  try clear p2
  obtain ⟨x0_1, x1_1, x5_1, rfl, rfl, HA, HK1, HO_0, HK, HB⟩ := hrel
  cases gk with
  | zero => exact absurd HA.out (by simp [laws_markWordS.l0])
  | succ k1 =>
   have H := HA.out
   clear HA
   simp only [laws_markWordS.l0] at H
   by_cases c3 : x5_1 < (x0_1.length : Int)
   ·rw [if_pos c3] at H
    have c3b0 : decide (x5_1 < (x0_1.length : Int)) = true := decide_eq_true c3
    clear c3
    have H' := Aside0.mk H
    clear H
    obtain ⟨Ao4, co4, eo4⟩ := Kd.R_slice HO_0.out
    subst eo4
    go_wp2
    go_loopg [1, 6] k1 (fun kq v1 v6 w' => ∃ (x0_2 : List (S41)) (x1_2 : Int) (x6_2 : Int), v1 = .int .i64 x1_2 ∧ v6 = .int .i64 x6_2 ∧ Aside0 (laws_markWordS.l1 kq x0_2 x1_2 x5_1 x6_2 = some (r1, r2)) ∧ Aside0 (kq ≤ k1) ∧ Aside0 (Kd.R k41 41 w' w0.heap.size (fun k_ => (P0_ k_ ∨ w.heap.size ≤ k_)) (.slice Ao4 x0_1.length co4) x0_2) ∧ Aside0 (Kept w w' (fun k_ => P0_ k_)) ∧ Aside0 (Below w0.heap.size w0 w'))
    case atStart => exact ⟨(x0_1), (x1_1), (0), rs_, rs_, H', ⟨Nat.le_refl _⟩, ⟨pr_ HO_0⟩, ⟨by repeat (first | (with_reducible first | exact HK.out | apply Kept.alloc | apply Kept.drewN | apply Kept.drew) | exact HK.out)⟩, ⟨bl_ HB⟩⟩
    case round =>
     clear H'
     try clear c2
     try clear p2
     try clear c3
     try clear c3b0
     try clear p2
     obtain ⟨x0_2, x1_2, x6_2, rfl, rfl, HA, HK2, HO_0, HK, HB⟩ := hrel
     have hl0_2 := (Kd.R_reads' HO_0.out).1
     rw [hl0_2] at HO_0
     (try simp only [hl0_2])
     cases gk with
     | zero => exact absurd HA.out (by simp [laws_markWordS.l1])
     | succ k2 =>
      have H := HA.out
      clear HA
      simp only [laws_markWordS.l1] at H
      by_cases c5 : x6_2 < 4
      ·rw [if_pos c5] at H
       have c5b0 : decide (x6_2 < 4) = true := decide_eq_true c5
       clear c5
       by_cases c6 : 0 ≤ x5_1
       ·rw [if_pos c6] at H
        have c6b0 : decide (0 ≤ x5_1) = true := decide_eq_true c6
        clear c6
        by_cases c7 : x5_1 < (x0_2.length : Int)
        ·rw [if_pos c7] at H
         have c7b0 : decide (x5_1 < (x0_2.length : Int)) = true := decide_eq_true c7
         clear c7
         by_cases c9 : 0 ≤ x6_2
         ·rw [if_pos c9] at H
          have c9b0 : decide (0 ≤ x6_2) = true := decide_eq_true c9
          clear c9
          obtain ⟨y197, hy197⟩ : ∃ y_ : List (S41), y_ = (x0_2.set (x5_1 : Int).toNat (⟨aup x6_2 0 (IntKind.i8.wrap (x1_2)) ((rd_T41 x0_2 x5_1).f0), aup x6_2 1 (IntKind.i8.wrap (x1_2)) ((rd_T41 x0_2 x5_1).f1), aup x6_2 2 (IntKind.i8.wrap (x1_2)) ((rd_T41 x0_2 x5_1).f2), aup x6_2 3 (IntKind.i8.wrap (x1_2)) ((rd_T41 x0_2 x5_1).f3)⟩ : S41)) := ⟨_, rfl⟩
          replace H : (laws_markWordS.l1 k2 y197 (wrap64 (x1_2 + 1)) x5_1 (wrap64 (x6_2 + 1))) = some (r1, r2) := by first | (rw [hy197]; with_reducible exact H) | (have H2_ := (Option.bind_some _ _).symm.trans H; rw [hy197]; with_reducible exact H2_) | (have H2_ := (Option.bind_some _ _).symm.trans H; with_reducible exact H2_) | with_reducible exact H | (rw [hy197]; exact H) | exact H
          have Ny197 := Aside0.mk hy197
          clear hy197
          have H' := Aside0.mk H
          clear H
          have p8 : 0 ≤ (x5_1 : Int) := asm_
          have q8 : (x5_1 : Int) < ((x0_2.length : Int) : Int) := asm_
          obtain ⟨go8, co8, eo8, gb8, gl8, cl8, HG8⟩ := Kd.R_form HO_0.out (by omega)
          (first | cases eo8 | (injection eo8 with ea_ en_ ec_; (first | subst ea_ | (injection ea_ with ea_; subst ea_)); subst ec_; clear en_))
          have GB8 := Aside0.mk gb8
          have GG8 := Aside0.mk HG8
          clear gb8 gl8 HG8
          have HMgo8 := A_ (show (P0_ go8 ∨ w.heap.size ≤ go8) from (HO_0.out.1 _ rfl))
          obtain ⟨ce8, hcl8, hM8, hcc8, hfr8⟩ := Kd.R_elem HO_0.out z41 (x5_1 : Int) p8 q8
          obtain rfl := k41_openM hM8
          have hx8_0 : wr.cell? ⟨go8, (x5_1 : Int).toNat * 4, none⟩ = some (.int .i8 ((rd_T41 x0_2 x5_1).f0)) := hcc8 0 _ rfl
          have hx8_1 : wr.cell? ⟨go8, (x5_1 : Int).toNat * 4 + 1, none⟩ = some (.int .i8 ((rd_T41 x0_2 x5_1).f1)) := hcc8 1 _ rfl
          have hx8_2 : wr.cell? ⟨go8, (x5_1 : Int).toNat * 4 + 2, none⟩ = some (.int .i8 ((rd_T41 x0_2 x5_1).f2)) := hcc8 2 _ rfl
          have hx8_3 : wr.cell? ⟨go8, (x5_1 : Int).toNat * 4 + 3, none⟩ = some (.int .i8 ((rd_T41 x0_2 x5_1).f3)) := hcc8 3 _ rfl
          have hf8_0 : wr.frozen? ⟨go8, (x5_1 : Int).toNat * 4, none⟩ = false := hfr8 0
          have hf8_1 : wr.frozen? ⟨go8, (x5_1 : Int).toNat * 4 + 1, none⟩ = false := hfr8 1
          have hf8_2 : wr.frozen? ⟨go8, (x5_1 : Int).toNat * 4 + 2, none⟩ = false := hfr8 2
          have hf8_3 : wr.frozen? ⟨go8, (x5_1 : Int).toNat * 4 + 3, none⟩ = false := hfr8 3
          clear hcl8 hcc8 hfr8 hM8
          replace p8 := eq_true p8
          replace q8 := eq_true q8
          have p10 : 0 ≤ (x6_2 : Int) := asm_
          have q10 : (x6_2 : Int) < 4 := asm_
          obtain ⟨hx10_0, hf10_0⟩ := laws_markWordS.dcell41 HO_0.out (x5_1 : Int) x6_2 asm_ (by have h_ : (x5_1 : Int) < ((x0_2.length : Int) : Int) := asm_; first | exact h_ | (have e_ := (Kd.R_reads' HO_0.out).1; omega) | simpa using h_) p10 q10
          replace p10 := eq_true p10
          replace q10 := eq_true q10
          have HX11 := A_ (show Kd.R k41 41 wr w0.heap.size (fun k_ => (P0_ k_ ∨ w.heap.size ≤ k_)) (.slice (some ⟨go8, 0, none⟩) x0_2.length co4) x0_2 from (pr_ HO_0))
          have HP11 := laws_markWordS.dput41 HX11.out (x5_1 : Int) (x6_2 : Int) (IntKind.i8.wrap (x1_2)) (asm_) (by have h_ : (x5_1 : Int) < ((x0_2.length : Int) : Int) := asm_; first | exact h_ | (have e_ := (Kd.R_reads' HO_0.out).1; omega) | simpa using h_) asm_ asm_
          go_wp2_with (first | ((with_reducible refine gate_store (t := 22) (p := 23) rfl ?_); refine store_event (t := 22) (p := 23) (v := ?vo_w12) (w1 := (wr.setCell ⟨go8, (x5_1 : Int).toNat * 4 + (x6_2 : Int).toNat, none⟩ (.int .i8 (IntKind.i8.wrap (x1_2))))) ?hg ?ho ?hn ?hr ?_; (case ho => rfl); (case hg => rfl); (case hn => rfl); (case hr => first | (go_simp; done) | (go_simp; rfl)); intro w12 hw; have hg : wr.grownBy w12 (some go8) := (by rw [hw]; exact HP11.2); have hp_ : Kd.R k41 41 w12 w0.heap.size (fun k_ => (P0_ k_ ∨ w.heap.size ≤ k_)) (.slice (some ⟨go8, 0, none⟩) x0_2.length co4) y197 := (by rw [hw, Ny197.out]; exact HP11.1); clear HP11; have n0_ := A_ (hp_); have n1_ := A_ ((by rw [hw]; exact below_set (HB.out) GB8.out : Below w0.heap.size w0 w12)); have n2_ := A_ (Kept.of_grown (S := (fun k_ => P0_ k_)) hg (by repeat (first | (with_reducible first | exact HK.out | apply Kept.alloc | apply Kept.drewN | apply Kept.drew) | exact HK.out)) (fun k_ e_ => (HO_0.out.1 k_ e_))); clear HO_0; clear HB; clear HK; have HO_0 := n0_; have HB := n1_; have HK := n2_; clear n0_ n1_ n2_; clear hg hw hp_))
          (try simp only [← hl0_2])
          go_roundg k2
          case measure => have := HK1.out; have := HK2.out; omega
          case rel => exact ⟨(y197), (wrap64 (x1_2 + 1)), (wrap64 (x6_2 + 1)), rs_, rs_, H', ⟨by have := HK1.out; have := HK2.out; omega⟩, ⟨by (try simp only [hl0_2]); (with_reducible repeat (first | apply Kd.R_alloc | apply Kd.R_drewN | apply Kd.R_drew)); exact HO_0.out⟩, ⟨by repeat (first | (with_reducible first | exact HK.out | apply Kept.alloc | apply Kept.drewN | apply Kept.drew) | exact HK.out)⟩, ⟨bl_ HB⟩⟩
         ·rw [if_neg c9] at H
          exact absurd H (by simp)
        ·rw [if_neg c7] at H
         exact absurd H (by simp)
       ·rw [if_neg c6] at H
        exact absurd H (by simp)
      ·rw [if_neg c5] at H
       have c5b0 : decide (x6_2 < 4) = false := decide_eq_false c5
       clear c5
       have H' := Aside0.mk H
       clear H
       go_wp2
       (try simp only [← hl0_2])
       go_roundg k2
       case measure => have := HK1.out; have := HK2.out; omega
       case rel => exact ⟨(x0_2), (x1_2), (wrap64 (x5_1 + 1)), rs_, rs_, H', ⟨by have := HK1.out; have := HK2.out; omega⟩, ⟨by (try simp only [hl0_2]); (with_reducible repeat (first | apply Kd.R_alloc | apply Kd.R_drewN | apply Kd.R_drew)); exact HO_0.out⟩, ⟨by repeat (first | (with_reducible first | exact HK.out | apply Kept.alloc | apply Kept.drewN | apply Kept.drew) | exact HK.out)⟩, ⟨bl_ HB⟩⟩
   ·rw [if_neg c3] at H
    have c3b0 : decide (x5_1 < (x0_1.length : Int)) = false := decide_eq_false c3
    clear c3
    simp only [Option.some.injEq, Prod.mk.injEq] at H
    obtain ⟨rfl, rfl⟩ := H
    obtain ⟨Ao13, co13, eo13⟩ := Kd.R_slice HO_0.out
    subst eo13
    go_wp2
    go_ret
    exact ⟨by first | rfl | (simp [errW_none, errW_some] <;> rfl) | (simp [*, errW_none, errW_some] <;> rfl), pr_ HO_0, bl_ HB, by repeat (first | (with_reducible first | exact HK.out | apply Kept.alloc | apply Kept.drewN | apply Kept.drew) | exact HK.out)⟩

/-! ### laws_markFixed: function 10 -/
def laws_markFixed.f (k : Nat) (a0_0 : Int) (a0_1 : Int) (l0_2 : List (S41)) (a1 : Int) : Option (Int × (List (S41))) := (laws_markWordS.f k l0_2 a1).bind fun bt199 => (some (bt199.1, bt199.2))
theorem laws_markFixed.mono : ∀ a0 a1 a2 a3 k, LeO (laws_markFixed.f k a0 a1 a2 a3) (laws_markFixed.f (k + 1) a0 a1 a2 a3) := by
 intro a0 a1 a2 a3 k
 unfold laws_markFixed.f
 repeat' first
   | (with_reducible exact laws_markWordS.mono _ _ _)
   | (with_reducible exact LeO.refl _)
   | (with_reducible exact LeO.none _)
   | (with_reducible refine LeO.ite ?_ ?_)
   | (with_reducible refine LeO.bind ?_ (fun _ => ?_))
   | exact laws_markWordS.mono _ _ _
   | exact LeO.none _
   | refine LeO.ite ?_ ?_
   | refine LeO.bind ?_ (fun _ => ?_)
set_option maxHeartbeats 8000000 in
set_option maxRecDepth 100000 in
theorem laws_markFixed.calls (k : Nat) (a0_0 : Int) (a0_1 : Int) (P0_2_ : Nat → Prop) (u9000_ : Value) (l0_2 : List (S41)) (a1 : Int) (r1 : Int) (r2 : List (S41)) (w0 w : World) (hB : Below w0.heap.size w0 w) (ho0_2 : Kd.R k41 41 w w0.heap.size P0_2_ u9000_ l0_2) (h : laws_markFixed.f k a0_0 a0_1 l0_2 a1 = some (r1, r2)) :
  Calls Try.prog 10 #[.agg #[.int .i8 a0_0, .int .i8 a0_1, u9000_], .int .i64 a1] w fun e w' => e = .returned (.int .i64 r1) ∧ Kd.R k41 41 w' w0.heap.size (fun k_ => (P0_2_ k_ ∨ w.heap.size ≤ k_)) u9000_ r2 ∧ Below w0.heap.size w0 w' ∧ Kept w w' (fun k_ => P0_2_ k_) := by
 have hu29 := Try.underlying29
 have HO0_2 := A_ (show Kd.R k41 41 w w0.heap.size (fun k_ => (P0_2_ k_ ∨ w.heap.size ≤ k_)) u9000_ l0_2 from Kd.R_mono ho0_2 (fun k_ hk => (.inl hk)))
 have HK := A_ (Kept.refl w (fun k_ => P0_2_ k_))
 have HW0 := Aside0.mk hB.size
 have HB := Aside0.mk hB
 clear hB
 have H : ((laws_markWordS.f k l0_2 a1).bind fun bt199 => (some (bt199.1, bt199.2))) = some (r1, r2) := h
 clear h
 replace H := Option.bind_eq_some_iff.mp H
 obtain ⟨⟨t199, t200⟩, A30, H⟩ := H
 replace H : (some (t199, t200)) = some (r1, r2) := H
 have A3 := Aside0.mk A30
 clear A30
 simp only [Option.some.injEq, Prod.mk.injEq] at H
 obtain ⟨rfl, rfl⟩ := H
 obtain ⟨Ao4, co4, eo4⟩ := Kd.R_slice HO0_2.out
 subst eo4
 go_enter Try.func10, Try.ntmps10
 go_wp2_with (first | ((with_reducible refine gate_dst (N := 2) rfl ?_); refine box_event ?hg (N := 2) ?hd (cs := #[.int .i8 a0_0, .int .i8 a0_1, .slice Ao4 l0_2.length co4]) (t := 29) ?hr ?_; (case hd => rfl); (case hg => rfl); (case hr => first | (go_simp; done) | (go_simp; rfl)); intro gb198 hg w5 hbox hb; have n0_ := A_ (Kd.R_below (pr_ HO0_2) hb); have n1_ := A_ (Kept.below (S := (fun k_ => P0_2_ k_)) (by repeat (first | (with_reducible first | exact HK.out | apply Kept.alloc | apply Kept.drewN | apply Kept.drew) | exact HK.out)) hb); have n2_ := A_ (below_step (bl_ HB) hb); have n3_ := A_ (hbox); have n4_ := A_ ((by rw [hg]; exact (by first | exact HK.out.1 | exact (show Kept w _ (fun k_ => P0_2_ k_) from by repeat (first | (with_reducible first | exact HK.out | apply Kept.alloc | apply Kept.drewN | apply Kept.drew) | exact HK.out)).1) : w.heap.size ≤ gb198)); have n5_ := A_ ((by rw [hg]; exact (below_size (bl_ HB)) : w0.heap.size ≤ gb198)); clear HO0_2; clear HK; clear HB; have HO0_2 := n0_; have HK := n1_; have HB := n2_; have BK198 := n3_; have GW198 := n4_; have GE198 := n5_; clear n0_ n1_ n2_ n3_ n4_ n5_; clear hb hbox hg; obtain ⟨hcz6_0, hcz6_1, hcz6_2, hfz6_0, hfz6_1, hfz6_2⟩ := cl3_ BK198) | ((with_reducible refine gate_callee (f := 26) rfl ?_); refine goesL_ (some 8) rfl rfl Try.func26 (by kernel_rfl) rfl #[.slice Ao4 l0_2.length co4, .int .i64 a1] rfl arg_ ?_; (with_reducible refine (laws_markWordS.calls k (fun k_ => some k_ = (.slice Ao4 l0_2.length co4 : Value).ownBlock) (.slice Ao4 l0_2.length co4) l0_2 a1 t199 t200 w0 _ ?side1 ?side2 A3.out).mono ?_); (case side1 => repeat (first | (with_reducible first | exact HB.out | apply below_alloc | apply pw_below_drewN | apply below_drew1) | exact HB.out)); (case side2 => exact Kd.R_tight rfl HO0_2.out); rintro e w7 ⟨rfl, hy0, hb, hkp⟩; refine ⟨_, rfl, ?_⟩; have n0_ := A_ (Kd.R_reok rfl hy0 (fun k_ e_ => HO0_2.out.1 k_ e_)); have n1_ := A_ (blk_kept (pl_ BK198) hkp (fun hs_ => (fun e_ => (Kd.R_ne HO0_2.out BK198.out (by decide)) e_) hs_)); have n2_ := A_ (Kept.then_ (S := (fun k_ => P0_2_ k_)) (by repeat (first | (with_reducible first | exact HK.out | apply Kept.alloc | apply Kept.drewN | apply Kept.drew | refine Kept.setCell ?_ (.inr GW198.out) _) | exact HK.out)) hkp (fun k_ hs_ => (fun e_ => (HO0_2.out.1 k_ e_.symm)) hs_)); have n3_ := A_ (hb); clear HO0_2; clear BK198; clear HK; clear HB; have HO0_2 := n0_; have BK198 := n1_; have HK := n2_; have HB := n3_; clear n0_ n1_ n2_ n3_; (try clear hb); (try clear hkp); (try clear hy0)))
 go_ret
 exact ⟨by first | rfl | (simp [errW_none, errW_some] <;> rfl) | (simp [*, errW_none, errW_some] <;> rfl), pr_ HO0_2, bl_ HB, by repeat (first | (with_reducible first | exact HK.out | apply Kept.alloc | apply Kept.drewN | apply Kept.drew | refine Kept.setCell ?_ (.inr GW198.out) _) | exact HK.out)⟩

end Go.Proofs.Ytkieplebdbdigaa.M
