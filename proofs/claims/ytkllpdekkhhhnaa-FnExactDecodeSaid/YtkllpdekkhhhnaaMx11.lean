-- By this seat's own program over the kit's printer (arrays, functions told by hand); nothing of it is trusted: the kernel checks it.
import Derived.Test.YtkllpdekkhhhnaaMx0
namespace Go.Proofs.Ytkllpdekkhhhnaa.M
open Go.RowKit Go.Proofs.YtkllpdekkhhhnaaW.PrintWords Go.Proofs.YtkllpdekkhhhnaaW.PrintLast Go.Proofs.YtkllpdekkhhhnaaW.PrintMore
attribute [local go_sem] max2_int min2_int max_two min_two max_three min_three max_four min_four   -- for this text's walks alone
set_option linter.unusedVariables false
set_option linter.unusedSimpArgs false

/-! ### spec_l03Cases: function 63 -/
mutual
def spec_l03Cases.j0 : Nat → List (S37) → Int → Int → Bool → Bool → Option ((List (S37)))
 | 0, _, _, _, _, _ => none
 | k + 1, x3, x151000, x151001, x151002, x151003 => spec_l03Cases.l0 k x3 0 x151000 x151001 x151002 x151003
def spec_l03Cases.l0 : Nat → List (S37) → Int → Int → Int → Bool → Bool → Option ((List (S37)))
 | 0, _, _, _, _, _, _ => none
 | k + 1, x3, x4, x151000, x151001, x151002, x151003 => if x4 < x151000 then (if x151001 = 1 then (if x151001 = 0 then (spec_l03Cases.l0 k x3 (IntKind.i8.wrap (x4 + 1)) x151000 x151001 x151002 x151003) else (if x3.length < 70368744177664 then (spec_l03Cases.l0 k (x3 ++ [(⟨x4, false⟩ : S37)]) (IntKind.i8.wrap (x4 + 1)) x151000 x151001 x151002 x151003) else (none))) else (if x3.length < 70368744177664 then ((some (x3 ++ [(⟨x4, true⟩ : S37)] : List (S37))).bind fun y160 => (if x151001 = 0 then (spec_l03Cases.l0 k y160 (IntKind.i8.wrap (x4 + 1)) x151000 x151001 x151002 x151003) else (if y160.length < 70368744177664 then (spec_l03Cases.l0 k (y160 ++ [(⟨x4, false⟩ : S37)]) (IntKind.i8.wrap (x4 + 1)) x151000 x151001 x151002 x151003) else (none)))) else (none))) else (some x3)
end
def spec_l03Cases.f (k : Nat) (a0_0 : Int) (a0_1 : Int) (a0_2 : Bool) (a0_3 : Bool) : Option ((List (S37))) := (some (([] : List (S37)) : List (S37))).bind fun y151 => (if a0_2 = true then (if y151.length < 70368744177664 then (spec_l03Cases.j0 k (y151 ++ [(⟨(-1), false⟩ : S37)]) a0_0 a0_1 a0_2 a0_3) else (none)) else (spec_l03Cases.j0 k y151 a0_0 a0_1 a0_2 a0_3))
theorem spec_l03Cases.mono_l : ∀ k, (∀ y0 y1 y2 y3 y4, LeO (spec_l03Cases.j0 k y0 y1 y2 y3 y4) (spec_l03Cases.j0 (k + 1) y0 y1 y2 y3 y4)) ∧ (∀ y0 y1 y2 y3 y4 y5, LeO (spec_l03Cases.l0 k y0 y1 y2 y3 y4 y5) (spec_l03Cases.l0 (k + 1) y0 y1 y2 y3 y4 y5))
 | 0 => ⟨fun _ _ _ _ _ r h => by simp [spec_l03Cases.j0] at h, fun _ _ _ _ _ _ r h => by simp [spec_l03Cases.l0] at h⟩
 | k + 1 => by
  obtain ⟨ih0, ih1⟩ := spec_l03Cases.mono_l k
  refine ⟨?_, ?_⟩
  ·intro y0 y1 y2 y3 y4
   unfold spec_l03Cases.j0
   repeat' first
   | (with_reducible exact ih0 _ _ _ _ _)
   | (with_reducible exact ih1 _ _ _ _ _ _)
   | (with_reducible exact LeO.refl _)
   | (with_reducible exact LeO.none _)
   | (with_reducible refine LeO.ite ?_ ?_)
   | (with_reducible refine LeO.bind ?_ (fun _ => ?_))
   | exact ih0 _ _ _ _ _
   | exact ih1 _ _ _ _ _ _
   | exact LeO.none _
   | refine LeO.ite ?_ ?_
   | refine LeO.bind ?_ (fun _ => ?_)
  ·intro y0 y1 y2 y3 y4 y5
   unfold spec_l03Cases.l0
   repeat' first
   | (with_reducible exact ih0 _ _ _ _ _)
   | (with_reducible exact ih1 _ _ _ _ _ _)
   | (with_reducible exact LeO.refl _)
   | (with_reducible exact LeO.none _)
   | (with_reducible refine LeO.ite ?_ ?_)
   | (with_reducible refine LeO.bind ?_ (fun _ => ?_))
   | exact ih0 _ _ _ _ _
   | exact ih1 _ _ _ _ _ _
   | exact LeO.none _
   | refine LeO.ite ?_ ?_
   | refine LeO.bind ?_ (fun _ => ?_)
theorem spec_l03Cases.mono : ∀ a0 a1 a2 a3 k, LeO (spec_l03Cases.f k a0 a1 a2 a3) (spec_l03Cases.f (k + 1) a0 a1 a2 a3) := by
 intro a0 a1 a2 a3 k
 obtain ⟨ih0, ih1⟩ := spec_l03Cases.mono_l k
 unfold spec_l03Cases.f
 repeat' first
   | (with_reducible exact ih0 _ _ _ _ _)
   | (with_reducible exact ih1 _ _ _ _ _ _)
   | (with_reducible exact LeO.refl _)
   | (with_reducible exact LeO.none _)
   | (with_reducible refine LeO.ite ?_ ?_)
   | (with_reducible refine LeO.bind ?_ (fun _ => ?_))
   | exact ih0 _ _ _ _ _
   | exact ih1 _ _ _ _ _ _
   | exact LeO.none _
   | refine LeO.ite ?_ ?_
   | refine LeO.bind ?_ (fun _ => ?_)
set_option maxHeartbeats 8000000 in
set_option maxRecDepth 100000 in
theorem spec_l03Cases.calls (k : Nat) (a0_0 : Int) (a0_1 : Int) (a0_2 : Bool) (a0_3 : Bool) (r : List (S37)) (w : World) (h : spec_l03Cases.f k a0_0 a0_1 a0_2 a0_3 = some r) :
  Calls Try.prog 63 #[.agg #[.int .i8 a0_0, .int .i8 a0_1, .bool a0_2, .bool a0_3]] w fun e w' => ∃ v0_ : Value, e = .returned (v0_) ∧ Kd.R k37 37 w' w.heap.size (fun _ => True) v0_ r ∧ Below w.heap.size w w' := by
 have hu89 := Try.underlying89
 have hu37 := Try.underlying37
 have HB := Aside0.mk (Below.refl w.heap.size w)
 have H : ((some (([] : List (S37)) : List (S37))).bind fun y151 => (if a0_2 = true then (if y151.length < 70368744177664 then (spec_l03Cases.j0 k (y151 ++ [(⟨(-1), false⟩ : S37)]) a0_0 a0_1 a0_2 a0_3) else (none)) else (spec_l03Cases.j0 k y151 a0_0 a0_1 a0_2 a0_3))) = some r := h
 clear h
 obtain ⟨y151, hy151⟩ : ∃ y_ : List (S37), y_ = (([] : List (S37))) := ⟨_, rfl⟩
 replace H : (if a0_2 = true then (if y151.length < 70368744177664 then (spec_l03Cases.j0 k (y151 ++ [(⟨(-1), false⟩ : S37)]) a0_0 a0_1 a0_2 a0_3) else (none)) else (spec_l03Cases.j0 k y151 a0_0 a0_1 a0_2 a0_3)) = some r := by first | (rw [hy151]; with_reducible exact H) | (have H2_ := (Option.bind_some _ _).symm.trans H; rw [hy151]; with_reducible exact H2_) | (have H2_ := (Option.bind_some _ _).symm.trans H; with_reducible exact H2_) | with_reducible exact H | (rw [hy151]; exact H) | exact H
 have Ny151 := Aside0.mk hy151
 clear hy151
 have HC2 := Aside0.mk H
 clear H
 go_enter Try.func63, Try.ntmps63
 go_upto_if 7 with (first | ((with_reducible refine gate_dst (N := 1) rfl ?_); refine box_event ?hg (N := 1) ?hd (cs := #[.int .i8 a0_0, .int .i8 a0_1, .bool a0_2, .bool a0_3]) (t := 89) ?hr ?_; (case hd => rfl); (case hg => rfl); (case hr => first | (go_simp; done) | (go_simp; rfl)); intro gb150 hg w3 hbox hb; have n0_ := Aside0.mk (below_step (bl_ HB) hb); have n1_ := Aside0.mk (hbox); have n2_ := Aside0.mk ((by rw [hg]; exact (below_size (bl_ HB)) : w.heap.size ≤ gb150)); have n3_ := Aside0.mk ((by rw [hg]; exact (below_size (bl_ HB)) : w.heap.size ≤ gb150)); clear HB; have HB := n0_; have BK150 := n1_; have GW150 := n2_; have GE150 := n3_; clear n0_ n1_ n2_ n3_; clear hb hbox hg) | ((with_reducible refine gate_dst (N := 5) rfl ?_); refine Kd.R_lit k37 _ 37 ?hg (N := 5) ?hd (xs := ([] : List (S37))) (inner := []) (ok := fun _ => True) (okp := fun _ => True) ?hr ?hp (fun _ hk => hk) trivial (Below.refl _ _) (Nat.le_refl _) (by simp) ?_; (case hd => rfl); (case hg => rfl); (case hr => first | (go_simp; done) | (go_simp; rfl)); (case hp => exact (Reps.none _ _)); intro v152 w4 ho5 hb hg_ hnew_; clear hg_ hnew_; (first | rw [← Ny151.out] at ho5 | (simp only [Int.reduceToNat] at ho5; rw [← Ny151.out] at ho5)); have n0_ := Aside0.mk (Kd.R_lower ho5 (below_size (by repeat (first | (with_reducible first | exact HB.out | apply below_alloc | apply pw_below_drewN | apply below_drew1 | refine below_set ?_ GE150.out) | exact HB.out)))); have n1_ := Aside0.mk (blk_below (g := gb150) (o := .cells #[.int .i8 a0_0, .int .i8 a0_1, .bool a0_2, .bool a0_3] 89 (0, 0)) (pl_ BK150) hb); have n2_ := Aside0.mk (below_step (by repeat (first | (with_reducible first | exact HB.out | apply below_alloc | apply pw_below_drewN | apply below_drew1 | refine below_set ?_ GE150.out) | exact HB.out)) hb); clear BK150; clear HB; have HO153 := n0_; have BK150 := n1_; have HB := n2_; clear n0_ n1_ n2_; clear hb ho5; have hcz6_0 : w4.cell? ⟨gb150, 0, none⟩ = some (.int .i8 a0_0) := (blk_cell BK150.out 0).trans rfl; have hcz6_1 : w4.cell? ⟨gb150, 1, none⟩ = some (.int .i8 a0_1) := (blk_cell BK150.out 1).trans rfl; have hcz6_2 : w4.cell? ⟨gb150, 2, none⟩ = some (.bool a0_2) := (blk_cell BK150.out 2).trans rfl; have hcz6_3 : w4.cell? ⟨gb150, 3, none⟩ = some (.bool a0_3) := (blk_cell BK150.out 3).trans rfl; have hfz6_0 := blk_frozen BK150.out 0; have hfz6_1 := blk_frozen BK150.out 1; have hfz6_2 := blk_frozen BK150.out 2; have hfz6_3 := blk_frozen BK150.out 3))
 (try simp only [Act.put, List.setIfInBounds_toArray, List.set_cons_zero, List.set_cons_succ])
 go_cut [3] (fun v3 wc => ∃ (kq : Nat) (x3_1 : List (S37)), Aside0 (spec_l03Cases.j0 kq x3_1 a0_0 a0_1 a0_2 a0_3 = some r) ∧ Aside0 (kq ≤ k) ∧ Aside0 (Kd.R k37 37 wc w.heap.size (fun _ => True) v3 x3_1) ∧ Aside0 (wc.heap[gb150]? = some (.cells #[.int .i8 a0_0, .int .i8 a0_1, .bool a0_2, .bool a0_3] 89 (0, 0))) ∧ Aside0 (Below w.heap.size w wc))
 case first =>
  have H := HC2.out
  clear HC2
  by_cases c7 : a0_2 = true
  ·subst c7
   have H1 : (if y151.length < 70368744177664 then (spec_l03Cases.j0 k (y151 ++ [(⟨(-1), false⟩ : S37)]) a0_0 a0_1 true a0_3) else (none)) = some r := by rw [if_pos rfl] at H; exact H
   clear H
   have H := H1
   clear H1
   by_cases c8 : y151.length < 70368744177664
   ·rw [if_pos c8] at H
    have LMc8 := Aside0.mk c8
    clear c8
    obtain ⟨y154, hy154⟩ : ∃ y_ : List (S37), y_ = (y151 ++ [(⟨(-1), false⟩ : S37)]) := ⟨_, rfl⟩
    replace H : (spec_l03Cases.j0 k y154 a0_0 a0_1 true a0_3) = some r := by first | (rw [hy154]; with_reducible exact H) | (have H2_ := (Option.bind_some _ _).symm.trans H; rw [hy154]; with_reducible exact H2_) | (have H2_ := (Option.bind_some _ _).symm.trans H; with_reducible exact H2_) | with_reducible exact H | (rw [hy154]; exact H) | exact H
    have Ny154 := Aside0.mk hy154
    clear hy154
    have H' := Aside0.mk H
    clear H
    go_wp2_with (first | ((with_reducible refine gate_builtin (b := .append) (xs := #[.tmp 8, .tmp 10]) rfl ?_); at_builtin; refine Kd.R_append k37 (w0 := w) w.heap.size rfl (.tmp 8) (.tmp 10) 64 37 (.agg #[(.int .i8 0), (.bool false)]) 2 rfl Try.underlying64 info37 rfl (by decide) (by omega) v152 y151 (⟨(-1), false⟩ : S37) [.int .i8 (-1), .bool false] (fun _ => True) (fun _ => False) rfl rfl ?aP (fun _ hk => hk.elim) ?aF ?aO ?aB ?aS ?aL ?_; (case aP => exact k37_mkM _ _ _ (⟨(-1), false⟩ : S37)); (case aB => exact (by repeat (first | (with_reducible first | exact HB.out | apply below_alloc | apply pw_below_drewN | apply below_drew1 | refine below_set ?_ GE150.out) | exact HB.out))); (case aF => exact (fun _ _ => trivial)); (case aO => exact (pr_ HO153)); (case aS => exact (below_size (by repeat (first | (with_reducible first | exact HB.out | apply below_alloc | apply pw_below_drewN | apply below_drew1 | refine below_set ?_ GE150.out) | exact HB.out)))); (case aL => have := LMc8.out; omega); intro v155 w9 ho hb hg hat; rw [← Ny154.out] at ho; have n0_ := Aside0.mk (blk_grown (g := gb150) (o := .cells #[.int .i8 a0_0, .int .i8 a0_1, .bool true, .bool a0_3] 89 (0, 0)) (pl_ BK150) hg (Kd.R_ne HO153.out BK150.out (by decide))); have n1_ := Aside0.mk (hb); have n2_ := Aside0.mk (ho); clear BK150; clear HB; clear HO153; have BK150 := n0_; have HB := n1_; have HO156 := n2_; clear n0_ n1_ n2_; clear ho hb hg hat))
    go_meet
    case rel => exact ⟨_, (y154), H', ⟨by first | omega | exact Nat.le_refl _⟩, ⟨pr_ HO156⟩, ⟨pl_ BK150⟩, ⟨by repeat (first | (with_reducible first | exact HB.out | apply below_alloc | apply pw_below_drewN | apply below_drew1 | refine below_set ?_ GE150.out) | exact HB.out)⟩⟩
   ·rw [if_neg c8] at H
    exact absurd H (by simp)
  ·replace c7 := Bool.eq_false_iff.mpr c7
   subst c7
   have H1 : (spec_l03Cases.j0 k y151 a0_0 a0_1 false a0_3) = some r := by rw [if_neg (show ¬ (false = true) by decide)] at H; exact H
   clear H
   have H := H1
   clear H1
   have H' := Aside0.mk H
   clear H
   go_wp2
   go_meet
   case rel => exact ⟨_, (y151), H', ⟨by first | omega | exact Nat.le_refl _⟩, ⟨pr_ HO153⟩, ⟨pl_ BK150⟩, ⟨by repeat (first | (with_reducible first | exact HB.out | apply below_alloc | apply pw_below_drewN | apply below_drew1 | refine below_set ?_ GE150.out) | exact HB.out)⟩⟩
 case rest =>
  clear HC2
  try clear p2
  try clear c6
  try clear c7
  try clear c8
  try clear hcz6_0
  try clear hcz6_1
  try clear hcz6_2
  try clear hcz6_3
  try clear hfz6_0
  try clear hfz6_1
  try clear hfz6_2
  try clear hfz6_3
  obtain ⟨kq, x3_1, HA, HJ1, HO_3, BK150, HB⟩ := hcut
  cases kq with
  | zero => exact absurd HA.out (by simp [spec_l03Cases.j0])
  | succ kj1 =>
   have H := HA.out
   clear HA
   simp only [spec_l03Cases.j0] at H
   have H' := Aside0.mk H
   clear H
   go_wp2
   go_loopg [3, 4] kj1 (fun kq v3 v4 w' => ∃ (x3_2 : List (S37)) (x4_2 : Int), v4 = .int .i8 x4_2 ∧ Aside0 (spec_l03Cases.l0 kq x3_2 x4_2 a0_0 a0_1 a0_2 a0_3 = some r) ∧ Aside0 (kq ≤ kj1) ∧ Aside0 (Kd.R k37 37 w' w.heap.size (fun _ => True) v3 x3_2) ∧ Aside0 (w'.heap[gb150]? = some (.cells #[.int .i8 a0_0, .int .i8 a0_1, .bool a0_2, .bool a0_3] 89 (0, 0))) ∧ Aside0 (Below w.heap.size w w'))
   case atStart => exact ⟨(x3_1), (0), (by first | rfl | (simp; done) | (simp [*]; done)), H', ⟨Nat.le_refl _⟩, ⟨pr_ HO_3⟩, ⟨pl_ BK150⟩, ⟨by repeat (first | (with_reducible first | exact HB.out | apply below_alloc | apply pw_below_drewN | apply below_drew1 | refine below_set ?_ GE150.out) | exact HB.out)⟩⟩
   case round =>
    clear H'
    try clear p2
    try clear c6
    try clear c7
    try clear c8
    try clear hcz6_0
    try clear hcz6_1
    try clear hcz6_2
    try clear hcz6_3
    try clear hfz6_0
    try clear hfz6_1
    try clear hfz6_2
    try clear hfz6_3
    try clear p2
    obtain ⟨x3_2, x4_2, rfl, HA, HK2, HO_3, BK150, HB⟩ := hrel
    cases gk with
    | zero => exact absurd HA.out (by simp [spec_l03Cases.l0])
    | succ k2 =>
     have H := HA.out
     clear HA
     simp only [spec_l03Cases.l0] at H
     by_cases c10 : x4_2 < a0_0
     ·rw [if_pos c10] at H
      have c10b0 : decide (x4_2 < a0_0) = true := decide_eq_true c10
      clear c10
      by_cases c11 : a0_1 = 1
      ·rw [if_pos c11] at H
       have c11b0 : (a0_1 == 1) = true := beq_iff_eq.mpr c11
       have c11b1 : (a0_1 != 1) = false := bne_eq_false_iff_eq.mpr c11
       clear c11
       by_cases c12 : a0_1 = 0
       ·rw [if_pos c12] at H
        have c12b0 : (a0_1 == 0) = true := beq_iff_eq.mpr c12
        have c12b1 : (a0_1 != 0) = false := bne_eq_false_iff_eq.mpr c12
        clear c12
        have H' := Aside0.mk H
        clear H
        have hcz13_0 : wr.cell? ⟨gb150, 0, none⟩ = some (.int .i8 a0_0) := (blk_cell BK150.out 0).trans rfl
        have hcz13_1 : wr.cell? ⟨gb150, 1, none⟩ = some (.int .i8 a0_1) := (blk_cell BK150.out 1).trans rfl
        have hcz13_2 : wr.cell? ⟨gb150, 2, none⟩ = some (.bool a0_2) := (blk_cell BK150.out 2).trans rfl
        have hcz13_3 : wr.cell? ⟨gb150, 3, none⟩ = some (.bool a0_3) := (blk_cell BK150.out 3).trans rfl
        have hfz13_0 := blk_frozen BK150.out 0
        have hfz13_1 := blk_frozen BK150.out 1
        have hfz13_2 := blk_frozen BK150.out 2
        have hfz13_3 := blk_frozen BK150.out 3
        go_wp2
        go_roundg k2
        case measure => have := HJ1.out; have := HK2.out; omega
        case rel => exact ⟨(x3_2), (IntKind.i8.wrap (x4_2 + 1)), (by first | rfl | (simp; done) | (simp [*]; done)), H', ⟨by have := HJ1.out; have := HK2.out; omega⟩, ⟨pr_ HO_3⟩, ⟨pl_ BK150⟩, ⟨by repeat (first | (with_reducible first | exact HB.out | apply below_alloc | apply pw_below_drewN | apply below_drew1 | refine below_set ?_ GE150.out) | exact HB.out)⟩⟩
       ·rw [if_neg c12] at H
        have c12b0 : (a0_1 == 0) = false := beq_eq_false_iff_ne.mpr c12
        have c12b1 : (a0_1 != 0) = true := bne_iff_ne.mpr c12
        by_cases c14 : x3_2.length < 70368744177664
        ·rw [if_pos c14] at H
         have LMc14 := Aside0.mk c14
         clear c14
         obtain ⟨y157, hy157⟩ : ∃ y_ : List (S37), y_ = (x3_2 ++ [(⟨x4_2, false⟩ : S37)]) := ⟨_, rfl⟩
         replace H : (spec_l03Cases.l0 k2 y157 (IntKind.i8.wrap (x4_2 + 1)) a0_0 a0_1 a0_2 a0_3) = some r := by first | (rw [hy157]; with_reducible exact H) | (have H2_ := (Option.bind_some _ _).symm.trans H; rw [hy157]; with_reducible exact H2_) | (have H2_ := (Option.bind_some _ _).symm.trans H; with_reducible exact H2_) | with_reducible exact H | (rw [hy157]; exact H) | exact H
         have Ny157 := Aside0.mk hy157
         clear hy157
         have H' := Aside0.mk H
         clear H
         have hcz15_0 : wr.cell? ⟨gb150, 0, none⟩ = some (.int .i8 a0_0) := (blk_cell BK150.out 0).trans rfl
         have hcz15_1 : wr.cell? ⟨gb150, 1, none⟩ = some (.int .i8 a0_1) := (blk_cell BK150.out 1).trans rfl
         have hcz15_2 : wr.cell? ⟨gb150, 2, none⟩ = some (.bool a0_2) := (blk_cell BK150.out 2).trans rfl
         have hcz15_3 : wr.cell? ⟨gb150, 3, none⟩ = some (.bool a0_3) := (blk_cell BK150.out 3).trans rfl
         have hfz15_0 := blk_frozen BK150.out 0
         have hfz15_1 := blk_frozen BK150.out 1
         have hfz15_2 := blk_frozen BK150.out 2
         have hfz15_3 := blk_frozen BK150.out 3
         go_wp2_with (first | ((with_reducible refine gate_builtin (b := .append) (xs := #[.tmp 29, .tmp 32]) rfl ?_); at_builtin; refine Kd.R_append k37 (w0 := w) w.heap.size rfl (.tmp 29) (.tmp 32) 64 37 (.agg #[(.int .i8 0), (.bool false)]) 2 rfl Try.underlying64 info37 rfl (by decide) (by omega) u3 x3_2 (⟨x4_2, false⟩ : S37) [.int .i8 x4_2, .bool false] (fun _ => True) (fun _ => False) rfl rfl ?aP (fun _ hk => hk.elim) ?aF ?aO ?aB ?aS ?aL ?_; (case aP => exact k37_mkM _ _ _ (⟨x4_2, false⟩ : S37)); (case aB => exact (by repeat (first | (with_reducible first | exact HB.out | apply below_alloc | apply pw_below_drewN | apply below_drew1 | refine below_set ?_ GE150.out) | exact HB.out))); (case aF => exact (fun _ _ => trivial)); (case aO => exact (pr_ HO_3)); (case aS => exact (below_size (by repeat (first | (with_reducible first | exact HB.out | apply below_alloc | apply pw_below_drewN | apply below_drew1 | refine below_set ?_ GE150.out) | exact HB.out)))); (case aL => have := LMc14.out; omega); intro v158 w16 ho hb hg hat; rw [← Ny157.out] at ho; have n0_ := Aside0.mk (blk_grown (g := gb150) (o := .cells #[.int .i8 a0_0, .int .i8 a0_1, .bool a0_2, .bool a0_3] 89 (0, 0)) (pl_ BK150) hg (Kd.R_ne HO_3.out BK150.out (by decide))); have n1_ := Aside0.mk (hb); have n2_ := Aside0.mk (ho); clear BK150; clear HB; clear HO_3; have BK150 := n0_; have HB := n1_; have HO159 := n2_; clear n0_ n1_ n2_; clear ho hb hg hat))
         go_roundg k2
         case measure => have := HJ1.out; have := HK2.out; omega
         case rel => exact ⟨(y157), (IntKind.i8.wrap (x4_2 + 1)), (by first | rfl | (simp; done) | (simp [*]; done)), H', ⟨by have := HJ1.out; have := HK2.out; omega⟩, ⟨pr_ HO159⟩, ⟨pl_ BK150⟩, ⟨by repeat (first | (with_reducible first | exact HB.out | apply below_alloc | apply pw_below_drewN | apply below_drew1 | refine below_set ?_ GE150.out) | exact HB.out)⟩⟩
        ·rw [if_neg c14] at H
         exact absurd H (by simp)
      ·rw [if_neg c11] at H
       have c11b0 : (a0_1 == 1) = false := beq_eq_false_iff_ne.mpr c11
       have c11b1 : (a0_1 != 1) = true := bne_iff_ne.mpr c11
       by_cases c17 : x3_2.length < 70368744177664
       ·rw [if_pos c17] at H
        have LMc17 := Aside0.mk c17
        clear c17
        obtain ⟨y160, hy160⟩ : ∃ y_ : List (S37), y_ = (x3_2 ++ [(⟨x4_2, true⟩ : S37)]) := ⟨_, rfl⟩
        replace H : (if a0_1 = 0 then (spec_l03Cases.l0 k2 y160 (IntKind.i8.wrap (x4_2 + 1)) a0_0 a0_1 a0_2 a0_3) else (if y160.length < 70368744177664 then (spec_l03Cases.l0 k2 (y160 ++ [(⟨x4_2, false⟩ : S37)]) (IntKind.i8.wrap (x4_2 + 1)) a0_0 a0_1 a0_2 a0_3) else (none))) = some r := by first | (rw [hy160]; with_reducible exact H) | (have H2_ := (Option.bind_some _ _).symm.trans H; rw [hy160]; with_reducible exact H2_) | (have H2_ := (Option.bind_some _ _).symm.trans H; with_reducible exact H2_) | with_reducible exact H | (rw [hy160]; exact H) | exact H
        have Ny160 := Aside0.mk hy160
        clear hy160
        by_cases c18 : a0_1 = 0
        ·rw [if_pos c18] at H
         have c18b0 : (a0_1 == 0) = true := beq_iff_eq.mpr c18
         have c18b1 : (a0_1 != 0) = false := bne_eq_false_iff_eq.mpr c18
         clear c18
         have H' := Aside0.mk H
         clear H
         have hcz19_0 : wr.cell? ⟨gb150, 0, none⟩ = some (.int .i8 a0_0) := (blk_cell BK150.out 0).trans rfl
         have hcz19_1 : wr.cell? ⟨gb150, 1, none⟩ = some (.int .i8 a0_1) := (blk_cell BK150.out 1).trans rfl
         have hcz19_2 : wr.cell? ⟨gb150, 2, none⟩ = some (.bool a0_2) := (blk_cell BK150.out 2).trans rfl
         have hcz19_3 : wr.cell? ⟨gb150, 3, none⟩ = some (.bool a0_3) := (blk_cell BK150.out 3).trans rfl
         have hfz19_0 := blk_frozen BK150.out 0
         have hfz19_1 := blk_frozen BK150.out 1
         have hfz19_2 := blk_frozen BK150.out 2
         have hfz19_3 := blk_frozen BK150.out 3
         go_wp2_with (first | ((with_reducible refine gate_builtin (b := .append) (xs := #[.tmp 21, .tmp 24]) rfl ?_); at_builtin; refine Kd.R_append k37 (w0 := w) w.heap.size rfl (.tmp 21) (.tmp 24) 64 37 (.agg #[(.int .i8 0), (.bool false)]) 2 rfl Try.underlying64 info37 rfl (by decide) (by omega) u3 x3_2 (⟨x4_2, true⟩ : S37) [.int .i8 x4_2, .bool true] (fun _ => True) (fun _ => False) rfl rfl ?aP (fun _ hk => hk.elim) ?aF ?aO ?aB ?aS ?aL ?_; (case aP => exact k37_mkM _ _ _ (⟨x4_2, true⟩ : S37)); (case aB => exact (by repeat (first | (with_reducible first | exact HB.out | apply below_alloc | apply pw_below_drewN | apply below_drew1 | refine below_set ?_ GE150.out) | exact HB.out))); (case aF => exact (fun _ _ => trivial)); (case aO => exact (pr_ HO_3)); (case aS => exact (below_size (by repeat (first | (with_reducible first | exact HB.out | apply below_alloc | apply pw_below_drewN | apply below_drew1 | refine below_set ?_ GE150.out) | exact HB.out)))); (case aL => have := LMc17.out; omega); intro v161 w20 ho hb hg hat; rw [← Ny160.out] at ho; have n0_ := Aside0.mk (blk_grown (g := gb150) (o := .cells #[.int .i8 a0_0, .int .i8 a0_1, .bool a0_2, .bool a0_3] 89 (0, 0)) (pl_ BK150) hg (Kd.R_ne HO_3.out BK150.out (by decide))); have n1_ := Aside0.mk (hb); have n2_ := Aside0.mk (ho); clear BK150; clear HB; clear HO_3; have BK150 := n0_; have HB := n1_; have HO162 := n2_; clear n0_ n1_ n2_; clear ho hb hg hat; have hcz21_0 : w20.cell? ⟨gb150, 0, none⟩ = some (.int .i8 a0_0) := (blk_cell BK150.out 0).trans rfl; have hcz21_1 : w20.cell? ⟨gb150, 1, none⟩ = some (.int .i8 a0_1) := (blk_cell BK150.out 1).trans rfl; have hcz21_2 : w20.cell? ⟨gb150, 2, none⟩ = some (.bool a0_2) := (blk_cell BK150.out 2).trans rfl; have hcz21_3 : w20.cell? ⟨gb150, 3, none⟩ = some (.bool a0_3) := (blk_cell BK150.out 3).trans rfl; have hfz21_0 := blk_frozen BK150.out 0; have hfz21_1 := blk_frozen BK150.out 1; have hfz21_2 := blk_frozen BK150.out 2; have hfz21_3 := blk_frozen BK150.out 3))
         go_roundg k2
         case measure => have := HJ1.out; have := HK2.out; omega
         case rel => exact ⟨(y160), (IntKind.i8.wrap (x4_2 + 1)), (by first | rfl | (simp; done) | (simp [*]; done)), H', ⟨by have := HJ1.out; have := HK2.out; omega⟩, ⟨pr_ HO162⟩, ⟨pl_ BK150⟩, ⟨by repeat (first | (with_reducible first | exact HB.out | apply below_alloc | apply pw_below_drewN | apply below_drew1 | refine below_set ?_ GE150.out) | exact HB.out)⟩⟩
        ·rw [if_neg c18] at H
         have c18b0 : (a0_1 == 0) = false := beq_eq_false_iff_ne.mpr c18
         have c18b1 : (a0_1 != 0) = true := bne_iff_ne.mpr c18
         by_cases c22 : y160.length < 70368744177664
         ·rw [if_pos c22] at H
          have LMc22 := Aside0.mk c22
          clear c22
          obtain ⟨y163, hy163⟩ : ∃ y_ : List (S37), y_ = (y160 ++ [(⟨x4_2, false⟩ : S37)]) := ⟨_, rfl⟩
          replace H : (spec_l03Cases.l0 k2 y163 (IntKind.i8.wrap (x4_2 + 1)) a0_0 a0_1 a0_2 a0_3) = some r := by first | (rw [hy163]; with_reducible exact H) | (have H2_ := (Option.bind_some _ _).symm.trans H; rw [hy163]; with_reducible exact H2_) | (have H2_ := (Option.bind_some _ _).symm.trans H; with_reducible exact H2_) | with_reducible exact H | (rw [hy163]; exact H) | exact H
          have Ny163 := Aside0.mk hy163
          clear hy163
          have H' := Aside0.mk H
          clear H
          have hcz23_0 : wr.cell? ⟨gb150, 0, none⟩ = some (.int .i8 a0_0) := (blk_cell BK150.out 0).trans rfl
          have hcz23_1 : wr.cell? ⟨gb150, 1, none⟩ = some (.int .i8 a0_1) := (blk_cell BK150.out 1).trans rfl
          have hcz23_2 : wr.cell? ⟨gb150, 2, none⟩ = some (.bool a0_2) := (blk_cell BK150.out 2).trans rfl
          have hcz23_3 : wr.cell? ⟨gb150, 3, none⟩ = some (.bool a0_3) := (blk_cell BK150.out 3).trans rfl
          have hfz23_0 := blk_frozen BK150.out 0
          have hfz23_1 := blk_frozen BK150.out 1
          have hfz23_2 := blk_frozen BK150.out 2
          have hfz23_3 := blk_frozen BK150.out 3
          go_wp2_with (first | ((with_reducible refine gate_builtin (b := .append) (xs := #[.tmp 21, .tmp 24]) rfl ?_); at_builtin; refine Kd.R_append k37 (w0 := w) w.heap.size rfl (.tmp 21) (.tmp 24) 64 37 (.agg #[(.int .i8 0), (.bool false)]) 2 rfl Try.underlying64 info37 rfl (by decide) (by omega) u3 x3_2 (⟨x4_2, true⟩ : S37) [.int .i8 x4_2, .bool true] (fun _ => True) (fun _ => False) rfl rfl ?aP (fun _ hk => hk.elim) ?aF ?aO ?aB ?aS ?aL ?_; (case aP => exact k37_mkM _ _ _ (⟨x4_2, true⟩ : S37)); (case aB => exact (by repeat (first | (with_reducible first | exact HB.out | apply below_alloc | apply pw_below_drewN | apply below_drew1 | refine below_set ?_ GE150.out) | exact HB.out))); (case aF => exact (fun _ _ => trivial)); (case aO => exact (pr_ HO_3)); (case aS => exact (below_size (by repeat (first | (with_reducible first | exact HB.out | apply below_alloc | apply pw_below_drewN | apply below_drew1 | refine below_set ?_ GE150.out) | exact HB.out)))); (case aL => have := LMc17.out; omega); intro v161 w24 ho hb hg hat; rw [← Ny160.out] at ho; have n0_ := Aside0.mk (blk_grown (g := gb150) (o := .cells #[.int .i8 a0_0, .int .i8 a0_1, .bool a0_2, .bool a0_3] 89 (0, 0)) (pl_ BK150) hg (Kd.R_ne HO_3.out BK150.out (by decide))); have n1_ := Aside0.mk (hb); have n2_ := Aside0.mk (ho); clear BK150; clear HB; clear HO_3; have BK150 := n0_; have HB := n1_; have HO162 := n2_; clear n0_ n1_ n2_; clear ho hb hg hat; have hcz25_0 : w24.cell? ⟨gb150, 0, none⟩ = some (.int .i8 a0_0) := (blk_cell BK150.out 0).trans rfl; have hcz25_1 : w24.cell? ⟨gb150, 1, none⟩ = some (.int .i8 a0_1) := (blk_cell BK150.out 1).trans rfl; have hcz25_2 : w24.cell? ⟨gb150, 2, none⟩ = some (.bool a0_2) := (blk_cell BK150.out 2).trans rfl; have hcz25_3 : w24.cell? ⟨gb150, 3, none⟩ = some (.bool a0_3) := (blk_cell BK150.out 3).trans rfl; have hfz25_0 := blk_frozen BK150.out 0; have hfz25_1 := blk_frozen BK150.out 1; have hfz25_2 := blk_frozen BK150.out 2; have hfz25_3 := blk_frozen BK150.out 3) | ((with_reducible refine gate_builtin (b := .append) (xs := #[.tmp 29, .tmp 32]) rfl ?_); at_builtin; refine Kd.R_append k37 (w0 := w) w.heap.size rfl (.tmp 29) (.tmp 32) 64 37 (.agg #[(.int .i8 0), (.bool false)]) 2 rfl Try.underlying64 info37 rfl (by decide) (by omega) v161 y160 (⟨x4_2, false⟩ : S37) [.int .i8 x4_2, .bool false] (fun _ => True) (fun _ => False) rfl rfl ?aP (fun _ hk => hk.elim) ?aF ?aO ?aB ?aS ?aL ?_; (case aP => exact k37_mkM _ _ _ (⟨x4_2, false⟩ : S37)); (case aB => exact (by repeat (first | (with_reducible first | exact HB.out | apply below_alloc | apply pw_below_drewN | apply below_drew1 | refine below_set ?_ GE150.out) | exact HB.out))); (case aF => exact (fun _ _ => trivial)); (case aO => exact (pr_ HO162)); (case aS => exact (below_size (by repeat (first | (with_reducible first | exact HB.out | apply below_alloc | apply pw_below_drewN | apply below_drew1 | refine below_set ?_ GE150.out) | exact HB.out)))); (case aL => have := LMc22.out; omega); intro v164 w26 ho hb hg hat; rw [← Ny163.out] at ho; have n0_ := Aside0.mk (blk_grown (g := gb150) (o := .cells #[.int .i8 a0_0, .int .i8 a0_1, .bool a0_2, .bool a0_3] 89 (0, 0)) (pl_ BK150) hg (Kd.R_ne HO162.out BK150.out (by decide))); have n1_ := Aside0.mk (hb); have n2_ := Aside0.mk (ho); clear BK150; clear HB; clear HO162; have BK150 := n0_; have HB := n1_; have HO165 := n2_; clear n0_ n1_ n2_; clear ho hb hg hat))
          go_roundg k2
          case measure => have := HJ1.out; have := HK2.out; omega
          case rel => exact ⟨(y163), (IntKind.i8.wrap (x4_2 + 1)), (by first | rfl | (simp; done) | (simp [*]; done)), H', ⟨by have := HJ1.out; have := HK2.out; omega⟩, ⟨pr_ HO165⟩, ⟨pl_ BK150⟩, ⟨by repeat (first | (with_reducible first | exact HB.out | apply below_alloc | apply pw_below_drewN | apply below_drew1 | refine below_set ?_ GE150.out) | exact HB.out)⟩⟩
         ·rw [if_neg c22] at H
          exact absurd H (by simp)
       ·rw [if_neg c17] at H
        exact absurd H (by simp)
     ·rw [if_neg c10] at H
      have c10b0 : decide (x4_2 < a0_0) = false := decide_eq_false c10
      clear c10
      obtain rfl := Option.some.inj H
      have hcz27_0 : wr.cell? ⟨gb150, 0, none⟩ = some (.int .i8 a0_0) := (blk_cell BK150.out 0).trans rfl
      have hcz27_1 : wr.cell? ⟨gb150, 1, none⟩ = some (.int .i8 a0_1) := (blk_cell BK150.out 1).trans rfl
      have hcz27_2 : wr.cell? ⟨gb150, 2, none⟩ = some (.bool a0_2) := (blk_cell BK150.out 2).trans rfl
      have hcz27_3 : wr.cell? ⟨gb150, 3, none⟩ = some (.bool a0_3) := (blk_cell BK150.out 3).trans rfl
      have hfz27_0 := blk_frozen BK150.out 0
      have hfz27_1 := blk_frozen BK150.out 1
      have hfz27_2 := blk_frozen BK150.out 2
      have hfz27_3 := blk_frozen BK150.out 3
      go_wp2
      go_ret
      exact ⟨_, by first | rfl | (simp [errW_none, errW_some] <;> rfl) | (simp [*, errW_none, errW_some] <;> rfl), pr_ HO_3, by repeat (first | (with_reducible first | exact HB.out | apply below_alloc | apply pw_below_drewN | apply below_drew1 | refine below_set ?_ GE150.out) | exact HB.out)⟩

end Go.Proofs.Ytkllpdekkhhhnaa.M
