-- By this seat's own program over the kit's printer (arrays, functions told by hand); nothing of it is trusted: the kernel checks it.
import Derived.Test.YtcghglembmohcaaMx0
namespace Go.Proofs.Ytcghglembmohcaa.M
open Go.RowKit Go.Proofs.YtcghglembmohcaaW.PrintWords Go.Proofs.YtcghglembmohcaaW.PrintLast Go.Proofs.YtcghglembmohcaaW.PrintMore
attribute [local go_sem] max2_int min2_int max_two min_two max_three min_three max_four min_four   -- for this text's walks alone
set_option linter.unusedVariables false
set_option linter.unusedSimpArgs false

/-! ### spec_l03Cases: function 48 -/
mutual
def spec_l03Cases.j0 : Nat → List (S43) → Int → Int → Bool → Bool → Option ((List (S43)))
 | 0, _, _, _, _, _ => none
 | k + 1, x3, x228000, x228001, x228002, x228003 => spec_l03Cases.l0 k x3 0 x228000 x228001 x228002 x228003
def spec_l03Cases.l0 : Nat → List (S43) → Int → Int → Int → Bool → Bool → Option ((List (S43)))
 | 0, _, _, _, _, _, _ => none
 | k + 1, x3, x4, x228000, x228001, x228002, x228003 => if x4 < x228000 then (if x228001 = 1 then (if x228001 = 0 then (spec_l03Cases.l0 k x3 (IntKind.i8.wrap (x4 + 1)) x228000 x228001 x228002 x228003) else (if x3.length < 70368744177664 then (spec_l03Cases.l0 k (x3 ++ [(⟨x4, false⟩ : S43)]) (IntKind.i8.wrap (x4 + 1)) x228000 x228001 x228002 x228003) else (none))) else (if x3.length < 70368744177664 then ((some (x3 ++ [(⟨x4, true⟩ : S43)] : List (S43))).bind fun y237 => (if x228001 = 0 then (spec_l03Cases.l0 k y237 (IntKind.i8.wrap (x4 + 1)) x228000 x228001 x228002 x228003) else (if y237.length < 70368744177664 then (spec_l03Cases.l0 k (y237 ++ [(⟨x4, false⟩ : S43)]) (IntKind.i8.wrap (x4 + 1)) x228000 x228001 x228002 x228003) else (none)))) else (none))) else (some x3)
end
def spec_l03Cases.f (k : Nat) (a0_0 : Int) (a0_1 : Int) (a0_2 : Bool) (a0_3 : Bool) : Option ((List (S43))) := (some (([] : List (S43)) : List (S43))).bind fun y228 => (if a0_2 = true then (if y228.length < 70368744177664 then (spec_l03Cases.j0 k (y228 ++ [(⟨(-1), false⟩ : S43)]) a0_0 a0_1 a0_2 a0_3) else (none)) else (spec_l03Cases.j0 k y228 a0_0 a0_1 a0_2 a0_3))
theorem spec_l03Cases.mono_l : ∀ k, (∀ y0 y1 y2 y3 y4, LeO (spec_l03Cases.j0 k y0 y1 y2 y3 y4) (spec_l03Cases.j0 (k + 1) y0 y1 y2 y3 y4)) ∧ (∀ y0 y1 y2 y3 y4 y5, LeO (spec_l03Cases.l0 k y0 y1 y2 y3 y4 y5) (spec_l03Cases.l0 (k + 1) y0 y1 y2 y3 y4 y5))
 | 0 => ⟨fun _ _ _ _ _ r h => by simp [spec_l03Cases.j0] at h, fun _ _ _ _ _ _ r h => by simp [spec_l03Cases.l0] at h⟩
 | k + 1 => by
  obtain ⟨ih0, ih1⟩ := spec_l03Cases.mono_l k
  refine ⟨?_, ?_⟩
  ·intro y0 y1 y2 y3 y4
   unfold spec_l03Cases.j0
   repeat' first
   | (with_reducible exact ih0 _ _ _ _ _)
   | (with_reducible exact ih1 _ _ _ _ _ _)
   | (with_reducible exact LeO.refl _)
   | (with_reducible exact LeO.none _)
   | (with_reducible refine LeO.ite ?_ ?_)
   | (with_reducible refine LeO.bind ?_ (fun _ => ?_))
   | exact ih0 _ _ _ _ _
   | exact ih1 _ _ _ _ _ _
   | exact LeO.none _
   | refine LeO.ite ?_ ?_
   | refine LeO.bind ?_ (fun _ => ?_)
  ·intro y0 y1 y2 y3 y4 y5
   unfold spec_l03Cases.l0
   repeat' first
   | (with_reducible exact ih0 _ _ _ _ _)
   | (with_reducible exact ih1 _ _ _ _ _ _)
   | (with_reducible exact LeO.refl _)
   | (with_reducible exact LeO.none _)
   | (with_reducible refine LeO.ite ?_ ?_)
   | (with_reducible refine LeO.bind ?_ (fun _ => ?_))
   | exact ih0 _ _ _ _ _
   | exact ih1 _ _ _ _ _ _
   | exact LeO.none _
   | refine LeO.ite ?_ ?_
   | refine LeO.bind ?_ (fun _ => ?_)
theorem spec_l03Cases.mono : ∀ a0 a1 a2 a3 k, LeO (spec_l03Cases.f k a0 a1 a2 a3) (spec_l03Cases.f (k + 1) a0 a1 a2 a3) := by
 intro a0 a1 a2 a3 k
 obtain ⟨ih0, ih1⟩ := spec_l03Cases.mono_l k
 unfold spec_l03Cases.f
 repeat' first
   | (with_reducible exact ih0 _ _ _ _ _)
   | (with_reducible exact ih1 _ _ _ _ _ _)
   | (with_reducible exact LeO.refl _)
   | (with_reducible exact LeO.none _)
   | (with_reducible refine LeO.ite ?_ ?_)
   | (with_reducible refine LeO.bind ?_ (fun _ => ?_))
   | exact ih0 _ _ _ _ _
   | exact ih1 _ _ _ _ _ _
   | exact LeO.none _
   | refine LeO.ite ?_ ?_
   | refine LeO.bind ?_ (fun _ => ?_)
set_option maxHeartbeats 8000000 in
set_option maxRecDepth 100000 in
theorem spec_l03Cases.calls (k : Nat) (a0_0 : Int) (a0_1 : Int) (a0_2 : Bool) (a0_3 : Bool) (r : List (S43)) (w : World) (h : spec_l03Cases.f k a0_0 a0_1 a0_2 a0_3 = some r) :
  Calls Try.prog 48 #[.agg #[.int .i8 a0_0, .int .i8 a0_1, .bool a0_2, .bool a0_3]] w fun e w' => ∃ v0_ : Value, e = .returned (v0_) ∧ Kd.R k43 43 w' w.heap.size (fun _ => True) v0_ r ∧ Below w.heap.size w w' := by
 have hu29 := Try.underlying29
 have hu43 := Try.underlying43
 have HB := A_ (Below.refl w.heap.size w)
 have H : ((some (([] : List (S43)) : List (S43))).bind fun y228 => (if a0_2 = true then (if y228.length < 70368744177664 then (spec_l03Cases.j0 k (y228 ++ [(⟨(-1), false⟩ : S43)]) a0_0 a0_1 a0_2 a0_3) else (none)) else (spec_l03Cases.j0 k y228 a0_0 a0_1 a0_2 a0_3))) = some r := h
 clear h
 obtain ⟨y228, hy228⟩ : ∃ y_ : List (S43), y_ = (([] : List (S43))) := ⟨_, rfl⟩
 replace H : (if a0_2 = true then (if y228.length < 70368744177664 then (spec_l03Cases.j0 k (y228 ++ [(⟨(-1), false⟩ : S43)]) a0_0 a0_1 a0_2 a0_3) else (none)) else (spec_l03Cases.j0 k y228 a0_0 a0_1 a0_2 a0_3)) = some r := by first | (rw [hy228]; with_reducible exact H) | (have H2_ := (Option.bind_some _ _).symm.trans H; rw [hy228]; with_reducible exact H2_) | (have H2_ := (Option.bind_some _ _).symm.trans H; with_reducible exact H2_) | with_reducible exact H | (rw [hy228]; exact H) | exact H
 have Ny228 := Aside0.mk hy228
 clear hy228
 have HC2 := Aside0.mk H
 clear H
 go_enter Try.func48, Try.ntmps48
 go_upto_if 7 with (first | ((with_reducible refine gate_dst (N := 1) rfl ?_); refine box_event ?hg (N := 1) ?hd (cs := #[.int .i8 a0_0, .int .i8 a0_1, .bool a0_2, .bool a0_3]) (t := 29) ?hr ?_; (case hd => rfl); (case hg => rfl); (case hr => first | (go_simp; done) | (go_simp; rfl)); intro gb227 hg w3 hbox hb; have n0_ := A_ (below_step (bl_ HB) hb); have n1_ := A_ (hbox); have n2_ := A_ ((by rw [hg]; exact (below_size (bl_ HB)) : w.heap.size ≤ gb227)); have n3_ := n2_; clear HB; have HB := n0_; have BK227 := n1_; have GW227 := n2_; have GE227 := n3_; clear n0_ n1_ n2_ n3_; clear hb hbox hg) | ((with_reducible refine gate_dst (N := 5) rfl ?_); refine Kd.R_lit k43 _ 43 ?hg (N := 5) ?hd (xs := ([] : List (S43))) (inner := []) (ok := fun _ => True) (okp := fun _ => True) ?hr ?hp (fun _ hk => hk) trivial (Below.refl _ _) (Nat.le_refl _) (by simp) ?_; (case hd => rfl); (case hg => rfl); (case hr => first | (go_simp; done) | (go_simp; rfl)); (case hp => exact (Reps.none _ _)); intro v229 w4 ho5 hb hg_ hnew_; clear hg_ hnew_; (first | rw [← Ny228.out] at ho5 | (simp only [Int.reduceToNat] at ho5; rw [← Ny228.out] at ho5)); have n0_ := A_ (Kd.R_lower ho5 (below_size (bl_ HB))); have n1_ := A_ (blk_below (pl_ BK227) hb); have n2_ := A_ (below_step (bl_ HB) hb); clear BK227; clear HB; have HO230 := n0_; have BK227 := n1_; have HB := n2_; clear n0_ n1_ n2_; clear hb ho5; obtain ⟨hcz6_0, hcz6_1, hcz6_2, hcz6_3, hfz6_0, hfz6_1, hfz6_2, hfz6_3⟩ := cl4_ BK227))
 (try simp only [Act.put, List.setIfInBounds_toArray, List.set_cons_zero, List.set_cons_succ])
 go_cut [3] (fun v3 wc => ∃ (kq : Nat) (x3_1 : List (S43)), Aside0 (spec_l03Cases.j0 kq x3_1 a0_0 a0_1 a0_2 a0_3 = some r) ∧ Aside0 (kq ≤ k) ∧ Aside0 (Kd.R k43 43 wc w.heap.size (fun _ => True) v3 x3_1) ∧ Aside0 (wc.heap[gb227]? = some (.cells #[.int .i8 a0_0, .int .i8 a0_1, .bool a0_2, .bool a0_3] 29 (0, 0))) ∧ Aside0 (Below w.heap.size w wc))
 case first =>
  have H := HC2.out
  clear HC2
  by_cases c7 : a0_2 = true
  ·subst c7
   have H1 : (if y228.length < 70368744177664 then (spec_l03Cases.j0 k (y228 ++ [(⟨(-1), false⟩ : S43)]) a0_0 a0_1 true a0_3) else (none)) = some r := by rw [if_pos rfl] at H; exact H
   clear H
   have H := H1
   clear H1
   by_cases c8 : y228.length < 70368744177664
   ·rw [if_pos c8] at H
    have LMc8 := Aside0.mk c8
    clear c8
    obtain ⟨y231, hy231⟩ : ∃ y_ : List (S43), y_ = (y228 ++ [(⟨(-1), false⟩ : S43)]) := ⟨_, rfl⟩
    replace H : (spec_l03Cases.j0 k y231 a0_0 a0_1 true a0_3) = some r := by first | (rw [hy231]; with_reducible exact H) | (have H2_ := (Option.bind_some _ _).symm.trans H; rw [hy231]; with_reducible exact H2_) | (have H2_ := (Option.bind_some _ _).symm.trans H; with_reducible exact H2_) | with_reducible exact H | (rw [hy231]; exact H) | exact H
    have Ny231 := Aside0.mk hy231
    clear hy231
    have H' := Aside0.mk H
    clear H
    go_wp2_with (first | ((with_reducible refine gate_builtin (b := .append) (xs := #[.tmp 8, .tmp 10]) rfl ?_); at_builtin; refine Kd.R_append k43 (w0 := w) w.heap.size rfl (.tmp 8) (.tmp 10) 65 43 (.agg #[(.int .i8 0), (.bool false)]) 2 rfl Try.underlying65 info43 rfl (by decide) (by omega) v229 y228 (⟨(-1), false⟩ : S43) [.int .i8 (-1), .bool false] (fun _ => True) (fun _ => False) rfl rfl ?aP (fun _ hk => hk.elim) ?aF ?aO ?aB ?aS ?aL ?_; (case aP => exact k43_mkM _ _ _ (⟨(-1), false⟩ : S43)); (case aB => exact (bl_ HB)); (case aF => exact (fun _ _ => trivial)); (case aO => exact (pr_ HO230)); (case aS => exact (below_size (bl_ HB))); (case aL => have := LMc8.out; omega); intro v232 w9 ho hb hg hat; rw [← Ny231.out] at ho; have n0_ := A_ (blk_grown (pl_ BK227) hg (Kd.R_ne HO230.out BK227.out (by decide))); have n1_ := A_ (hb); have n2_ := A_ (ho); clear BK227; clear HB; clear HO230; have BK227 := n0_; have HB := n1_; have HO233 := n2_; clear n0_ n1_ n2_; clear ho hb hg hat))
    go_meet
    case rel => exact ⟨_, (y231), H', ⟨by first | omega | exact Nat.le_refl _⟩, ⟨pr_ HO233⟩, ⟨pl_ BK227⟩, ⟨bl_ HB⟩⟩
   ·rw [if_neg c8] at H
    exact absurd H (by simp)
  ·replace c7 := Bool.eq_false_iff.mpr c7
   subst c7
   have H1 : (spec_l03Cases.j0 k y228 a0_0 a0_1 false a0_3) = some r := by rw [if_neg (show ¬ (false = true) by decide)] at H; exact H
   clear H
   have H := H1
   clear H1
   have H' := Aside0.mk H
   clear H
   go_wp2
   go_meet
   case rel => exact ⟨_, (y228), H', ⟨by first | omega | exact Nat.le_refl _⟩, ⟨pr_ HO230⟩, ⟨pl_ BK227⟩, ⟨bl_ HB⟩⟩
 case rest =>
  clear HC2
  try clear p2
  try clear c4
  try clear c7
  try clear c8
  try clear hcz6_0
  try clear hcz6_1
  try clear hcz6_2
  try clear hcz6_3
  try clear hfz6_0
  try clear hfz6_1
  try clear hfz6_2
  try clear hfz6_3
  obtain ⟨kq, x3_1, HA, HJ1, HO_3, BK227, HB⟩ := hcut
  cases kq with
  | zero => exact absurd HA.out (by simp [spec_l03Cases.j0])
  | succ kj1 =>
   have H := HA.out
   clear HA
   simp only [spec_l03Cases.j0] at H
   have H' := Aside0.mk H
   clear H
   go_wp2
   go_loopg [3, 4] kj1 (fun kq v3 v4 w' => ∃ (x3_2 : List (S43)) (x4_2 : Int), v4 = .int .i8 x4_2 ∧ Aside0 (spec_l03Cases.l0 kq x3_2 x4_2 a0_0 a0_1 a0_2 a0_3 = some r) ∧ Aside0 (kq ≤ kj1) ∧ Aside0 (Kd.R k43 43 w' w.heap.size (fun _ => True) v3 x3_2) ∧ Aside0 (w'.heap[gb227]? = some (.cells #[.int .i8 a0_0, .int .i8 a0_1, .bool a0_2, .bool a0_3] 29 (0, 0))) ∧ Aside0 (Below w.heap.size w w'))
   case atStart => exact ⟨(x3_1), (0), rs_, H', ⟨Nat.le_refl _⟩, ⟨pr_ HO_3⟩, ⟨pl_ BK227⟩, ⟨bl_ HB⟩⟩
   case round =>
    clear H'
    try clear p2
    try clear c4
    try clear c7
    try clear c8
    try clear hcz6_0
    try clear hcz6_1
    try clear hcz6_2
    try clear hcz6_3
    try clear hfz6_0
    try clear hfz6_1
    try clear hfz6_2
    try clear hfz6_3
    try clear p2
    obtain ⟨x3_2, x4_2, rfl, HA, HK2, HO_3, BK227, HB⟩ := hrel
    cases gk with
    | zero => exact absurd HA.out (by simp [spec_l03Cases.l0])
    | succ k2 =>
     have H := HA.out
     clear HA
     simp only [spec_l03Cases.l0] at H
     by_cases c10 : x4_2 < a0_0
     ·rw [if_pos c10] at H
      have c10b0 : decide (x4_2 < a0_0) = true := decide_eq_true c10
      clear c10
      by_cases c11 : a0_1 = 1
      ·rw [if_pos c11] at H
       have c11b0 : (a0_1 == 1) = true := beq_iff_eq.mpr c11
       have c11b1 : (a0_1 != 1) = false := bne_eq_false_iff_eq.mpr c11
       clear c11
       by_cases c12 : a0_1 = 0
       ·rw [if_pos c12] at H
        have c12b0 : (a0_1 == 0) = true := beq_iff_eq.mpr c12
        have c12b1 : (a0_1 != 0) = false := bne_eq_false_iff_eq.mpr c12
        clear c12
        have H' := Aside0.mk H
        clear H
        obtain ⟨hcz13_0, hcz13_1, hcz13_2, hcz13_3, hfz13_0, hfz13_1, hfz13_2, hfz13_3⟩ := cl4_ BK227
        go_wp2
        go_roundg k2
        case measure => have := HJ1.out; have := HK2.out; omega
        case rel => exact ⟨(x3_2), (IntKind.i8.wrap (x4_2 + 1)), rs_, H', ⟨by have := HJ1.out; have := HK2.out; omega⟩, ⟨pr_ HO_3⟩, ⟨pl_ BK227⟩, ⟨bl_ HB⟩⟩
       ·rw [if_neg c12] at H
        have c12b0 : (a0_1 == 0) = false := beq_eq_false_iff_ne.mpr c12
        have c12b1 : (a0_1 != 0) = true := bne_iff_ne.mpr c12
        by_cases c14 : x3_2.length < 70368744177664
        ·rw [if_pos c14] at H
         have LMc14 := Aside0.mk c14
         clear c14
         obtain ⟨y234, hy234⟩ : ∃ y_ : List (S43), y_ = (x3_2 ++ [(⟨x4_2, false⟩ : S43)]) := ⟨_, rfl⟩
         replace H : (spec_l03Cases.l0 k2 y234 (IntKind.i8.wrap (x4_2 + 1)) a0_0 a0_1 a0_2 a0_3) = some r := by first | (rw [hy234]; with_reducible exact H) | (have H2_ := (Option.bind_some _ _).symm.trans H; rw [hy234]; with_reducible exact H2_) | (have H2_ := (Option.bind_some _ _).symm.trans H; with_reducible exact H2_) | with_reducible exact H | (rw [hy234]; exact H) | exact H
         have Ny234 := Aside0.mk hy234
         clear hy234
         have H' := Aside0.mk H
         clear H
         obtain ⟨hcz15_0, hcz15_1, hcz15_2, hcz15_3, hfz15_0, hfz15_1, hfz15_2, hfz15_3⟩ := cl4_ BK227
         go_wp2_with (first | ((with_reducible refine gate_builtin (b := .append) (xs := #[.tmp 29, .tmp 32]) rfl ?_); at_builtin; refine Kd.R_append k43 (w0 := w) w.heap.size rfl (.tmp 29) (.tmp 32) 65 43 (.agg #[(.int .i8 0), (.bool false)]) 2 rfl Try.underlying65 info43 rfl (by decide) (by omega) u3 x3_2 (⟨x4_2, false⟩ : S43) [.int .i8 x4_2, .bool false] (fun _ => True) (fun _ => False) rfl rfl ?aP (fun _ hk => hk.elim) ?aF ?aO ?aB ?aS ?aL ?_; (case aP => exact k43_mkM _ _ _ (⟨x4_2, false⟩ : S43)); (case aB => exact (bl_ HB)); (case aF => exact (fun _ _ => trivial)); (case aO => exact (pr_ HO_3)); (case aS => exact (below_size (bl_ HB))); (case aL => have := LMc14.out; omega); intro v235 w16 ho hb hg hat; rw [← Ny234.out] at ho; have n0_ := A_ (blk_grown (pl_ BK227) hg (Kd.R_ne HO_3.out BK227.out (by decide))); have n1_ := A_ (hb); have n2_ := A_ (ho); clear BK227; clear HB; clear HO_3; have BK227 := n0_; have HB := n1_; have HO236 := n2_; clear n0_ n1_ n2_; clear ho hb hg hat))
         go_roundg k2
         case measure => have := HJ1.out; have := HK2.out; omega
         case rel => exact ⟨(y234), (IntKind.i8.wrap (x4_2 + 1)), rs_, H', ⟨by have := HJ1.out; have := HK2.out; omega⟩, ⟨pr_ HO236⟩, ⟨pl_ BK227⟩, ⟨bl_ HB⟩⟩
        ·rw [if_neg c14] at H
         exact absurd H (by simp)
      ·rw [if_neg c11] at H
       have c11b0 : (a0_1 == 1) = false := beq_eq_false_iff_ne.mpr c11
       have c11b1 : (a0_1 != 1) = true := bne_iff_ne.mpr c11
       by_cases c17 : x3_2.length < 70368744177664
       ·rw [if_pos c17] at H
        have LMc17 := Aside0.mk c17
        clear c17
        obtain ⟨y237, hy237⟩ : ∃ y_ : List (S43), y_ = (x3_2 ++ [(⟨x4_2, true⟩ : S43)]) := ⟨_, rfl⟩
        replace H : (if a0_1 = 0 then (spec_l03Cases.l0 k2 y237 (IntKind.i8.wrap (x4_2 + 1)) a0_0 a0_1 a0_2 a0_3) else (if y237.length < 70368744177664 then (spec_l03Cases.l0 k2 (y237 ++ [(⟨x4_2, false⟩ : S43)]) (IntKind.i8.wrap (x4_2 + 1)) a0_0 a0_1 a0_2 a0_3) else (none))) = some r := by first | (rw [hy237]; with_reducible exact H) | (have H2_ := (Option.bind_some _ _).symm.trans H; rw [hy237]; with_reducible exact H2_) | (have H2_ := (Option.bind_some _ _).symm.trans H; with_reducible exact H2_) | with_reducible exact H | (rw [hy237]; exact H) | exact H
        have Ny237 := Aside0.mk hy237
        clear hy237
        by_cases c18 : a0_1 = 0
        ·rw [if_pos c18] at H
         have c18b0 : (a0_1 == 0) = true := beq_iff_eq.mpr c18
         have c18b1 : (a0_1 != 0) = false := bne_eq_false_iff_eq.mpr c18
         clear c18
         have H' := Aside0.mk H
         clear H
         obtain ⟨hcz19_0, hcz19_1, hcz19_2, hcz19_3, hfz19_0, hfz19_1, hfz19_2, hfz19_3⟩ := cl4_ BK227
         go_wp2_with (first | ((with_reducible refine gate_builtin (b := .append) (xs := #[.tmp 21, .tmp 24]) rfl ?_); at_builtin; refine Kd.R_append k43 (w0 := w) w.heap.size rfl (.tmp 21) (.tmp 24) 65 43 (.agg #[(.int .i8 0), (.bool false)]) 2 rfl Try.underlying65 info43 rfl (by decide) (by omega) u3 x3_2 (⟨x4_2, true⟩ : S43) [.int .i8 x4_2, .bool true] (fun _ => True) (fun _ => False) rfl rfl ?aP (fun _ hk => hk.elim) ?aF ?aO ?aB ?aS ?aL ?_; (case aP => exact k43_mkM _ _ _ (⟨x4_2, true⟩ : S43)); (case aB => exact (bl_ HB)); (case aF => exact (fun _ _ => trivial)); (case aO => exact (pr_ HO_3)); (case aS => exact (below_size (bl_ HB))); (case aL => have := LMc17.out; omega); intro v238 w20 ho hb hg hat; rw [← Ny237.out] at ho; have n0_ := A_ (blk_grown (pl_ BK227) hg (Kd.R_ne HO_3.out BK227.out (by decide))); have n1_ := A_ (hb); have n2_ := A_ (ho); clear BK227; clear HB; clear HO_3; have BK227 := n0_; have HB := n1_; have HO239 := n2_; clear n0_ n1_ n2_; clear ho hb hg hat; obtain ⟨hcz21_0, hcz21_1, hcz21_2, hcz21_3, hfz21_0, hfz21_1, hfz21_2, hfz21_3⟩ := cl4_ BK227))
         go_roundg k2
         case measure => have := HJ1.out; have := HK2.out; omega
         case rel => exact ⟨(y237), (IntKind.i8.wrap (x4_2 + 1)), rs_, H', ⟨by have := HJ1.out; have := HK2.out; omega⟩, ⟨pr_ HO239⟩, ⟨pl_ BK227⟩, ⟨bl_ HB⟩⟩
        ·rw [if_neg c18] at H
         have c18b0 : (a0_1 == 0) = false := beq_eq_false_iff_ne.mpr c18
         have c18b1 : (a0_1 != 0) = true := bne_iff_ne.mpr c18
         by_cases c22 : y237.length < 70368744177664
         ·rw [if_pos c22] at H
          have LMc22 := Aside0.mk c22
          clear c22
          obtain ⟨y240, hy240⟩ : ∃ y_ : List (S43), y_ = (y237 ++ [(⟨x4_2, false⟩ : S43)]) := ⟨_, rfl⟩
          replace H : (spec_l03Cases.l0 k2 y240 (IntKind.i8.wrap (x4_2 + 1)) a0_0 a0_1 a0_2 a0_3) = some r := by first | (rw [hy240]; with_reducible exact H) | (have H2_ := (Option.bind_some _ _).symm.trans H; rw [hy240]; with_reducible exact H2_) | (have H2_ := (Option.bind_some _ _).symm.trans H; with_reducible exact H2_) | with_reducible exact H | (rw [hy240]; exact H) | exact H
          have Ny240 := Aside0.mk hy240
          clear hy240
          have H' := Aside0.mk H
          clear H
          obtain ⟨hcz23_0, hcz23_1, hcz23_2, hcz23_3, hfz23_0, hfz23_1, hfz23_2, hfz23_3⟩ := cl4_ BK227
          go_wp2_with (first | ((with_reducible refine gate_builtin (b := .append) (xs := #[.tmp 21, .tmp 24]) rfl ?_); at_builtin; refine Kd.R_append k43 (w0 := w) w.heap.size rfl (.tmp 21) (.tmp 24) 65 43 (.agg #[(.int .i8 0), (.bool false)]) 2 rfl Try.underlying65 info43 rfl (by decide) (by omega) u3 x3_2 (⟨x4_2, true⟩ : S43) [.int .i8 x4_2, .bool true] (fun _ => True) (fun _ => False) rfl rfl ?aP (fun _ hk => hk.elim) ?aF ?aO ?aB ?aS ?aL ?_; (case aP => exact k43_mkM _ _ _ (⟨x4_2, true⟩ : S43)); (case aB => exact (bl_ HB)); (case aF => exact (fun _ _ => trivial)); (case aO => exact (pr_ HO_3)); (case aS => exact (below_size (bl_ HB))); (case aL => have := LMc17.out; omega); intro v238 w24 ho hb hg hat; rw [← Ny237.out] at ho; have n0_ := A_ (blk_grown (pl_ BK227) hg (Kd.R_ne HO_3.out BK227.out (by decide))); have n1_ := A_ (hb); have n2_ := A_ (ho); clear BK227; clear HB; clear HO_3; have BK227 := n0_; have HB := n1_; have HO239 := n2_; clear n0_ n1_ n2_; clear ho hb hg hat; obtain ⟨hcz25_0, hcz25_1, hcz25_2, hcz25_3, hfz25_0, hfz25_1, hfz25_2, hfz25_3⟩ := cl4_ BK227) | ((with_reducible refine gate_builtin (b := .append) (xs := #[.tmp 29, .tmp 32]) rfl ?_); at_builtin; refine Kd.R_append k43 (w0 := w) w.heap.size rfl (.tmp 29) (.tmp 32) 65 43 (.agg #[(.int .i8 0), (.bool false)]) 2 rfl Try.underlying65 info43 rfl (by decide) (by omega) v238 y237 (⟨x4_2, false⟩ : S43) [.int .i8 x4_2, .bool false] (fun _ => True) (fun _ => False) rfl rfl ?aP (fun _ hk => hk.elim) ?aF ?aO ?aB ?aS ?aL ?_; (case aP => exact k43_mkM _ _ _ (⟨x4_2, false⟩ : S43)); (case aB => exact (bl_ HB)); (case aF => exact (fun _ _ => trivial)); (case aO => exact (pr_ HO239)); (case aS => exact (below_size (bl_ HB))); (case aL => have := LMc22.out; omega); intro v241 w26 ho hb hg hat; rw [← Ny240.out] at ho; have n0_ := A_ (blk_grown (pl_ BK227) hg (Kd.R_ne HO239.out BK227.out (by decide))); have n1_ := A_ (hb); have n2_ := A_ (ho); clear BK227; clear HB; clear HO239; have BK227 := n0_; have HB := n1_; have HO242 := n2_; clear n0_ n1_ n2_; clear ho hb hg hat))
          go_roundg k2
          case measure => have := HJ1.out; have := HK2.out; omega
          case rel => exact ⟨(y240), (IntKind.i8.wrap (x4_2 + 1)), rs_, H', ⟨by have := HJ1.out; have := HK2.out; omega⟩, ⟨pr_ HO242⟩, ⟨pl_ BK227⟩, ⟨bl_ HB⟩⟩
         ·rw [if_neg c22] at H
          exact absurd H (by simp)
       ·rw [if_neg c17] at H
        exact absurd H (by simp)
     ·rw [if_neg c10] at H
      have c10b0 : decide (x4_2 < a0_0) = false := decide_eq_false c10
      clear c10
      obtain rfl := Option.some.inj H
      obtain ⟨hcz27_0, hcz27_1, hcz27_2, hcz27_3, hfz27_0, hfz27_1, hfz27_2, hfz27_3⟩ := cl4_ BK227
      go_wp2
      go_ret
      exact ⟨_, by first | rfl | (simp [errW_none, errW_some] <;> rfl) | (simp [*, errW_none, errW_some] <;> rfl), pr_ HO_3, bl_ HB⟩

end Go.Proofs.Ytcghglembmohcaa.M
