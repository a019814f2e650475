-- By this seat's own program over the kit's printer (arrays, functions told by hand); nothing of it is trusted: the kernel checks it.
import Derived.Test.YtodmfjophjhbeaaMx0
namespace Go.Proofs.Ytodmfjophjhbeaa.M
open Go.RowKit Go.Proofs.YtodmfjophjhbeaaW.PrintWords Go.Proofs.YtodmfjophjhbeaaW.PrintLast Go.Proofs.YtodmfjophjhbeaaW.PrintMore
attribute [local go_sem] max2_int min2_int max_two min_two max_three min_three max_four min_four   -- for this text's walks alone
set_option linter.unusedVariables false
set_option linter.unusedSimpArgs false

/-! ### spec_l02All: function 88 -/
mutual
def spec_l02All.l0 : Nat → List (S60) → Int → Int → Option ((List (S60)))
 | 0, _, _, _ => none
 | k + 1, x3, x4, x5 => if x5 < x4 then (spec_l02All.l1 k x3 x4 x5 0) else (spec_l02All.l2 k x3 x4 1)
def spec_l02All.l1 : Nat → List (S60) → Int → Int → Int → Option ((List (S60)))
 | 0, _, _, _, _ => none
 | k + 1, x3, x4, x5, x6 => if x6 < x4 then (if x3.length < 46912496118442 then (spec_l02All.l1 k (x3 ++ [(⟨0, x5, x6⟩ : S60)]) x4 x5 (IntKind.i8.wrap (x6 + 1))) else (none)) else (spec_l02All.l0 k x3 x4 (IntKind.i8.wrap (x5 + 1)))
def spec_l02All.l2 : Nat → List (S60) → Int → Int → Option ((List (S60)))
 | 0, _, _, _ => none
 | k + 1, x3, x4, x7 => if x7 ≤ 2 then (spec_l02All.l3 k x3 x4 x7 0) else (some x3)
def spec_l02All.l3 : Nat → List (S60) → Int → Int → Int → Option ((List (S60)))
 | 0, _, _, _, _ => none
 | k + 1, x3, x4, x7, x8 => if x8 < x4 then (if x3.length < 46912496118442 then (spec_l02All.l3 k (x3 ++ [(⟨x7, x8, 0⟩ : S60)]) x4 x7 (IntKind.i8.wrap (x8 + 1))) else (none)) else (spec_l02All.l2 k x3 x4 (IntKind.i8.wrap (x7 + 1)))
end
def spec_l02All.f (k : Nat) (l0_0 : List Int) (a0_1 : Int) (a0_2 : Int) (a0_3 : Int) (a0_4 : Int) (a0_5 : Bool) : Option ((List (S60))) := spec_l02All.l0 k (([] : List (S60))) (IntKind.i8.wrap ((l0_0.length : Int))) 0
theorem spec_l02All.mono_l : ∀ k, (∀ y0 y1 y2, LeO (spec_l02All.l0 k y0 y1 y2) (spec_l02All.l0 (k + 1) y0 y1 y2)) ∧ (∀ y0 y1 y2 y3, LeO (spec_l02All.l1 k y0 y1 y2 y3) (spec_l02All.l1 (k + 1) y0 y1 y2 y3)) ∧ (∀ y0 y1 y2, LeO (spec_l02All.l2 k y0 y1 y2) (spec_l02All.l2 (k + 1) y0 y1 y2)) ∧ (∀ y0 y1 y2 y3, LeO (spec_l02All.l3 k y0 y1 y2 y3) (spec_l02All.l3 (k + 1) y0 y1 y2 y3))
 | 0 => ⟨fun _ _ _ r h => by simp [spec_l02All.l0] at h, fun _ _ _ _ r h => by simp [spec_l02All.l1] at h, fun _ _ _ r h => by simp [spec_l02All.l2] at h, fun _ _ _ _ r h => by simp [spec_l02All.l3] at h⟩
 | k + 1 => by
  obtain ⟨ih0, ih1, ih2, ih3⟩ := spec_l02All.mono_l k
  refine ⟨?_, ?_, ?_, ?_⟩
  ·intro y0 y1 y2
   unfold spec_l02All.l0
   repeat' first
   | (with_reducible exact ih0 _ _ _)
   | (with_reducible exact ih1 _ _ _ _)
   | (with_reducible exact ih2 _ _ _)
   | (with_reducible exact ih3 _ _ _ _)
   | (with_reducible exact LeO.refl _)
   | (with_reducible exact LeO.none _)
   | (with_reducible refine LeO.ite ?_ ?_)
   | (with_reducible refine LeO.bind ?_ (fun _ => ?_))
   | exact ih0 _ _ _
   | exact ih1 _ _ _ _
   | exact ih2 _ _ _
   | exact ih3 _ _ _ _
   | exact LeO.none _
   | refine LeO.ite ?_ ?_
   | refine LeO.bind ?_ (fun _ => ?_)
  ·intro y0 y1 y2 y3
   unfold spec_l02All.l1
   repeat' first
   | (with_reducible exact ih0 _ _ _)
   | (with_reducible exact ih1 _ _ _ _)
   | (with_reducible exact ih2 _ _ _)
   | (with_reducible exact ih3 _ _ _ _)
   | (with_reducible exact LeO.refl _)
   | (with_reducible exact LeO.none _)
   | (with_reducible refine LeO.ite ?_ ?_)
   | (with_reducible refine LeO.bind ?_ (fun _ => ?_))
   | exact ih0 _ _ _
   | exact ih1 _ _ _ _
   | exact ih2 _ _ _
   | exact ih3 _ _ _ _
   | exact LeO.none _
   | refine LeO.ite ?_ ?_
   | refine LeO.bind ?_ (fun _ => ?_)
  ·intro y0 y1 y2
   unfold spec_l02All.l2
   repeat' first
   | (with_reducible exact ih0 _ _ _)
   | (with_reducible exact ih1 _ _ _ _)
   | (with_reducible exact ih2 _ _ _)
   | (with_reducible exact ih3 _ _ _ _)
   | (with_reducible exact LeO.refl _)
   | (with_reducible exact LeO.none _)
   | (with_reducible refine LeO.ite ?_ ?_)
   | (with_reducible refine LeO.bind ?_ (fun _ => ?_))
   | exact ih0 _ _ _
   | exact ih1 _ _ _ _
   | exact ih2 _ _ _
   | exact ih3 _ _ _ _
   | exact LeO.none _
   | refine LeO.ite ?_ ?_
   | refine LeO.bind ?_ (fun _ => ?_)
  ·intro y0 y1 y2 y3
   unfold spec_l02All.l3
   repeat' first
   | (with_reducible exact ih0 _ _ _)
   | (with_reducible exact ih1 _ _ _ _)
   | (with_reducible exact ih2 _ _ _)
   | (with_reducible exact ih3 _ _ _ _)
   | (with_reducible exact LeO.refl _)
   | (with_reducible exact LeO.none _)
   | (with_reducible refine LeO.ite ?_ ?_)
   | (with_reducible refine LeO.bind ?_ (fun _ => ?_))
   | exact ih0 _ _ _
   | exact ih1 _ _ _ _
   | exact ih2 _ _ _
   | exact ih3 _ _ _ _
   | exact LeO.none _
   | refine LeO.ite ?_ ?_
   | refine LeO.bind ?_ (fun _ => ?_)
theorem spec_l02All.mono : ∀ a0 a1 a2 a3 a4 a5 k, LeO (spec_l02All.f k a0 a1 a2 a3 a4 a5) (spec_l02All.f (k + 1) a0 a1 a2 a3 a4 a5) := by
 intro a0 a1 a2 a3 a4 a5 k
 obtain ⟨ih0, ih1, ih2, ih3⟩ := spec_l02All.mono_l k
 unfold spec_l02All.f
 repeat' first
   | (with_reducible exact ih0 _ _ _)
   | (with_reducible exact ih1 _ _ _ _)
   | (with_reducible exact ih2 _ _ _)
   | (with_reducible exact ih3 _ _ _ _)
   | (with_reducible exact LeO.refl _)
   | (with_reducible exact LeO.none _)
   | (with_reducible refine LeO.ite ?_ ?_)
   | (with_reducible refine LeO.bind ?_ (fun _ => ?_))
   | exact ih0 _ _ _
   | exact ih1 _ _ _ _
   | exact ih2 _ _ _
   | exact ih3 _ _ _ _
   | exact LeO.none _
   | refine LeO.ite ?_ ?_
   | refine LeO.bind ?_ (fun _ => ?_)
set_option maxHeartbeats 8000000 in
set_option maxRecDepth 100000 in
theorem spec_l02All.calls (k : Nat) (gp0 : Nat) (A0_0 : Option Addr) (c0_0 : Nat) (l0_0 : List Int) (a0_1 : Int) (a0_2 : Int) (a0_3 : Int) (a0_4 : Int) (a0_5 : Bool) (r : List (S60)) (w : World) (hb0 : w.heap[gp0]? = some (.cells #[.slice A0_0 l0_0.length c0_0, .int .i16 a0_1, .int .i16 a0_2, .int .i16 a0_3, .int .i16 a0_4, .bool a0_5] 32 (0, 0))) (hr0_0 : Kd.C (Kd.int .i16) w A0_0 l0_0.length l0_0) (hc0_0 : l0_0.length ≤ c0_0) (h : spec_l02All.f k l0_0 a0_1 a0_2 a0_3 a0_4 a0_5 = some r) :
  Calls Try.prog 88 #[.pointer (some ⟨gp0, 0, none⟩)] w fun e w' => ∃ v0_ : Value, e = .returned (v0_) ∧ Kd.R k60 60 w' w.heap.size (fun _ => True) v0_ r ∧ Below w.heap.size w w' := by
 have hu60 := Try.underlying60
 have HR0_0 := Aside0.mk hr0_0
 have HC0_0 := Aside0.mk hc0_0
 clear hr0_0 hc0_0
 have BK136 := Aside0.mk hb0
 clear hb0
 have HB := A_ (Below.refl w.heap.size w)
 have H : (spec_l02All.l0 k (([] : List (S60))) (IntKind.i8.wrap ((l0_0.length : Int))) 0) = some r := h
 clear h
 obtain ⟨y137, hy137⟩ : ∃ y_ : List (S60), y_ = (([] : List (S60))) := ⟨_, rfl⟩
 replace H : (spec_l02All.l0 k y137 (IntKind.i8.wrap ((l0_0.length : Int))) 0) = some r := by first | (rw [hy137]; with_reducible exact H) | (have H2_ := (Option.bind_some _ _).symm.trans H; rw [hy137]; with_reducible exact H2_) | (have H2_ := (Option.bind_some _ _).symm.trans H; with_reducible exact H2_) | with_reducible exact H | (rw [hy137]; exact H) | exact H
 have Ny137 := Aside0.mk hy137
 clear hy137
 have H' := Aside0.mk H
 clear H
 go_enter Try.func88, Try.ntmps88
 go_wp2_with (first | ((with_reducible refine gate_dst (N := 9) rfl ?_); refine Kd.R_lit k60 _ 60 ?hg (N := 9) ?hd (xs := ([] : List (S60))) (inner := []) (ok := fun _ => True) (okp := fun _ => True) ?hr ?hp (fun _ hk => hk) trivial (Below.refl _ _) (Nat.le_refl _) (by simp) ?_; (case hd => rfl); (case hg => rfl); (case hr => first | (go_simp; done) | (go_simp; rfl)); (case hp => exact (Reps.none _ _)); intro v138 w2 ho3 hb hg_ hnew_; clear hg_ hnew_; (first | rw [← Ny137.out] at ho3 | (simp only [Int.reduceToNat] at ho3; rw [← Ny137.out] at ho3)); have n0_ := A_ (Kd.R_lower ho3 (below_size (bl_ HB))); have n1_ := A_ (blk_below (pl_ BK136) hb); have n2_ := A_ (below_step (bl_ HB) hb); clear BK136; clear HB; have HO139 := n0_; have BK136 := n1_; have HB := n2_; clear n0_ n1_ n2_; clear hb ho3; obtain ⟨hcz4_0, hcz4_1, hcz4_2, hcz4_3, hcz4_4, hcz4_5, hfz4_0, hfz4_1, hfz4_2, hfz4_3, hfz4_4, hfz4_5⟩ := cl6_ BK136))
 go_loopg [3, 5] k (fun kq v3 v5 w' => ∃ (x3_1 : List (S60)) (x5_1 : Int), v5 = .int .i8 x5_1 ∧ Aside0 (spec_l02All.l0 kq x3_1 (IntKind.i8.wrap ((l0_0.length : Int))) x5_1 = some r) ∧ Aside0 (kq ≤ k) ∧ Aside0 (Kd.R k60 60 w' w.heap.size (fun _ => True) v3 x3_1) ∧ Aside0 (w'.heap[gp0]? = some (.cells #[(.slice A0_0 l0_0.length c0_0), .int .i16 a0_1, .int .i16 a0_2, .int .i16 a0_3, .int .i16 a0_4, .bool a0_5] 32 (0, 0))) ∧ Aside0 (Below w.heap.size w w'))
 case atStart => exact ⟨(y137), (0), rs_, H', ⟨Nat.le_refl _⟩, ⟨pr_ HO139⟩, ⟨pl_ BK136⟩, ⟨bl_ HB⟩⟩
 case round =>
  clear H'
  try clear p2
  try clear hcz4_0
  try clear hcz4_1
  try clear hcz4_2
  try clear hcz4_3
  try clear hcz4_4
  try clear hcz4_5
  try clear hfz4_0
  try clear hfz4_1
  try clear hfz4_2
  try clear hfz4_3
  try clear hfz4_4
  try clear hfz4_5
  obtain ⟨x3_1, x5_1, rfl, HA, HK1, HO_3, BK136, HB⟩ := hrel
  cases gk with
  | zero => exact absurd HA.out (by simp [spec_l02All.l0])
  | succ k1 =>
   have H := HA.out
   clear HA
   simp only [spec_l02All.l0] at H
   by_cases c5 : x5_1 < (IntKind.i8.wrap ((l0_0.length : Int)))
   ·rw [if_pos c5] at H
    have c5b0 : decide (x5_1 < (IntKind.i8.wrap ((l0_0.length : Int)))) = true := decide_eq_true c5
    clear c5
    have H' := Aside0.mk H
    clear H
    go_wp2
    go_loopg [3, 6] k1 (fun kq v3 v6 w' => ∃ (x3_2 : List (S60)) (x6_2 : Int), v6 = .int .i8 x6_2 ∧ Aside0 (spec_l02All.l1 kq x3_2 (IntKind.i8.wrap ((l0_0.length : Int))) x5_1 x6_2 = some r) ∧ Aside0 (kq ≤ k1) ∧ Aside0 (Kd.R k60 60 w' w.heap.size (fun _ => True) v3 x3_2) ∧ Aside0 (w'.heap[gp0]? = some (.cells #[(.slice A0_0 l0_0.length c0_0), .int .i16 a0_1, .int .i16 a0_2, .int .i16 a0_3, .int .i16 a0_4, .bool a0_5] 32 (0, 0))) ∧ Aside0 (Below w.heap.size w w'))
    case atStart => exact ⟨(x3_1), (0), rs_, H', ⟨Nat.le_refl _⟩, ⟨pr_ HO_3⟩, ⟨pl_ BK136⟩, ⟨bl_ HB⟩⟩
    case round =>
     clear H'
     try clear p2
     try clear c5
     try clear c5b0
     try clear hcz4_0
     try clear hcz4_1
     try clear hcz4_2
     try clear hcz4_3
     try clear hcz4_4
     try clear hcz4_5
     try clear hfz4_0
     try clear hfz4_1
     try clear hfz4_2
     try clear hfz4_3
     try clear hfz4_4
     try clear hfz4_5
     try clear p2
     obtain ⟨x3_2, x6_2, rfl, HA, HK2, HO_3, BK136, HB⟩ := hrel
     cases gk with
     | zero => exact absurd HA.out (by simp [spec_l02All.l1])
     | succ k2 =>
      have H := HA.out
      clear HA
      simp only [spec_l02All.l1] at H
      by_cases c6 : x6_2 < (IntKind.i8.wrap ((l0_0.length : Int)))
      ·rw [if_pos c6] at H
       have c6b0 : decide (x6_2 < (IntKind.i8.wrap ((l0_0.length : Int)))) = true := decide_eq_true c6
       clear c6
       by_cases c7 : x3_2.length < 46912496118442
       ·rw [if_pos c7] at H
        have LMc7 := Aside0.mk c7
        clear c7
        obtain ⟨y140, hy140⟩ : ∃ y_ : List (S60), y_ = (x3_2 ++ [(⟨0, x5_1, x6_2⟩ : S60)]) := ⟨_, rfl⟩
        replace H : (spec_l02All.l1 k2 y140 (IntKind.i8.wrap ((l0_0.length : Int))) x5_1 (IntKind.i8.wrap (x6_2 + 1))) = some r := by first | (rw [hy140]; with_reducible exact H) | (have H2_ := (Option.bind_some _ _).symm.trans H; rw [hy140]; with_reducible exact H2_) | (have H2_ := (Option.bind_some _ _).symm.trans H; with_reducible exact H2_) | with_reducible exact H | (rw [hy140]; exact H) | exact H
        have Ny140 := Aside0.mk hy140
        clear hy140
        have H' := Aside0.mk H
        clear H
        go_wp2_with (first | ((with_reducible refine gate_builtin (b := .append) (xs := #[.tmp 26, .tmp 30]) rfl ?_); at_builtin; refine Kd.R_append k60 (w0 := w) w.heap.size rfl (.tmp 26) (.tmp 30) 52 60 (.agg #[(.int .i8 0), (.int .i8 0), (.int .i8 0)]) 3 rfl Try.underlying52 info60 rfl (by decide) (by omega) u3 x3_2 (⟨0, x5_1, x6_2⟩ : S60) [.int .i8 0, .int .i8 x5_1, .int .i8 x6_2] (fun _ => True) (fun _ => False) rfl rfl ?aP (fun _ hk => hk.elim) ?aF ?aO ?aB ?aS ?aL ?_; (case aP => exact k60_mkM _ _ _ (⟨0, x5_1, x6_2⟩ : S60)); (case aB => exact (bl_ HB)); (case aF => exact (fun _ _ => trivial)); (case aO => exact (pr_ HO_3)); (case aS => exact (below_size (bl_ HB))); (case aL => have := LMc7.out; omega); intro v141 w8 ho hb hg hat; rw [← Ny140.out] at ho; have n0_ := A_ (blk_grown (pl_ BK136) hg (Kd.R_ne HO_3.out BK136.out (by decide))); have n1_ := A_ (hb); have n2_ := A_ (ho); clear BK136; clear HB; clear HO_3; have BK136 := n0_; have HB := n1_; have HO142 := n2_; clear n0_ n1_ n2_; clear ho hb hg hat))
        go_roundg k2
        case measure => have := HK1.out; have := HK2.out; omega
        case rel => exact ⟨(y140), (IntKind.i8.wrap (x6_2 + 1)), rs_, H', ⟨by have := HK1.out; have := HK2.out; omega⟩, ⟨pr_ HO142⟩, ⟨pl_ BK136⟩, ⟨bl_ HB⟩⟩
       ·rw [if_neg c7] at H
        exact absurd H (by simp)
      ·rw [if_neg c6] at H
       have c6b0 : decide (x6_2 < (IntKind.i8.wrap ((l0_0.length : Int)))) = false := decide_eq_false c6
       clear c6
       have H' := Aside0.mk H
       clear H
       go_wp2
       go_roundg k2
       case measure => have := HK1.out; have := HK2.out; omega
       case rel => exact ⟨(x3_2), (IntKind.i8.wrap (x5_1 + 1)), rs_, H', ⟨by have := HK1.out; have := HK2.out; omega⟩, ⟨pr_ HO_3⟩, ⟨pl_ BK136⟩, ⟨bl_ HB⟩⟩
   ·rw [if_neg c5] at H
    have c5b0 : decide (x5_1 < (IntKind.i8.wrap ((l0_0.length : Int)))) = false := decide_eq_false c5
    clear c5
    have H' := Aside0.mk H
    clear H
    go_wp2
    go_loopg [3, 7] k1 (fun kq v3 v7 w' => ∃ (x3_2 : List (S60)) (x7_2 : Int), v7 = .int .i8 x7_2 ∧ Aside0 (spec_l02All.l2 kq x3_2 (IntKind.i8.wrap ((l0_0.length : Int))) x7_2 = some r) ∧ Aside0 (kq ≤ k1) ∧ Aside0 (Kd.R k60 60 w' w.heap.size (fun _ => True) v3 x3_2) ∧ Aside0 (w'.heap[gp0]? = some (.cells #[(.slice A0_0 l0_0.length c0_0), .int .i16 a0_1, .int .i16 a0_2, .int .i16 a0_3, .int .i16 a0_4, .bool a0_5] 32 (0, 0))) ∧ Aside0 (Below w.heap.size w w'))
    case atStart => exact ⟨(x3_1), (1), rs_, H', ⟨Nat.le_refl _⟩, ⟨pr_ HO_3⟩, ⟨pl_ BK136⟩, ⟨bl_ HB⟩⟩
    case round =>
     clear H'
     try clear p2
     try clear c5
     try clear c5b0
     try clear c6
     try clear c6b0
     try clear c7
     try clear c8
     try clear hcz4_0
     try clear hcz4_1
     try clear hcz4_2
     try clear hcz4_3
     try clear hcz4_4
     try clear hcz4_5
     try clear hfz4_0
     try clear hfz4_1
     try clear hfz4_2
     try clear hfz4_3
     try clear hfz4_4
     try clear hfz4_5
     try clear p2
     obtain ⟨x3_2, x7_2, rfl, HA, HK2, HO_3, BK136, HB⟩ := hrel
     cases gk with
     | zero => exact absurd HA.out (by simp [spec_l02All.l2])
     | succ k2 =>
      have H := HA.out
      clear HA
      simp only [spec_l02All.l2] at H
      by_cases c9 : x7_2 ≤ 2
      ·rw [if_pos c9] at H
       have c9b0 : decide (x7_2 ≤ 2) = true := decide_eq_true c9
       clear c9
       have H' := Aside0.mk H
       clear H
       go_wp2
       go_loopg [3, 8] k2 (fun kq v3 v8 w' => ∃ (x3_3 : List (S60)) (x8_3 : Int), v8 = .int .i8 x8_3 ∧ Aside0 (spec_l02All.l3 kq x3_3 (IntKind.i8.wrap ((l0_0.length : Int))) x7_2 x8_3 = some r) ∧ Aside0 (kq ≤ k2) ∧ Aside0 (Kd.R k60 60 w' w.heap.size (fun _ => True) v3 x3_3) ∧ Aside0 (w'.heap[gp0]? = some (.cells #[(.slice A0_0 l0_0.length c0_0), .int .i16 a0_1, .int .i16 a0_2, .int .i16 a0_3, .int .i16 a0_4, .bool a0_5] 32 (0, 0))) ∧ Aside0 (Below w.heap.size w w'))
       case atStart => exact ⟨(x3_2), (0), rs_, H', ⟨Nat.le_refl _⟩, ⟨pr_ HO_3⟩, ⟨pl_ BK136⟩, ⟨bl_ HB⟩⟩
       case round =>
        clear H'
        try clear p2
        try clear c5
        try clear c5b0
        try clear c6
        try clear c6b0
        try clear c7
        try clear c8
        try clear c9
        try clear c9b0
        try clear hcz4_0
        try clear hcz4_1
        try clear hcz4_2
        try clear hcz4_3
        try clear hcz4_4
        try clear hcz4_5
        try clear hfz4_0
        try clear hfz4_1
        try clear hfz4_2
        try clear hfz4_3
        try clear hfz4_4
        try clear hfz4_5
        try clear p2
        obtain ⟨x3_3, x8_3, rfl, HA, HK3, HO_3, BK136, HB⟩ := hrel
        cases gk with
        | zero => exact absurd HA.out (by simp [spec_l02All.l3])
        | succ k3 =>
         have H := HA.out
         clear HA
         simp only [spec_l02All.l3] at H
         by_cases c10 : x8_3 < (IntKind.i8.wrap ((l0_0.length : Int)))
         ·rw [if_pos c10] at H
          have c10b0 : decide (x8_3 < (IntKind.i8.wrap ((l0_0.length : Int)))) = true := decide_eq_true c10
          clear c10
          by_cases c11 : x3_3.length < 46912496118442
          ·rw [if_pos c11] at H
           have LMc11 := Aside0.mk c11
           clear c11
           obtain ⟨y143, hy143⟩ : ∃ y_ : List (S60), y_ = (x3_3 ++ [(⟨x7_2, x8_3, 0⟩ : S60)]) := ⟨_, rfl⟩
           replace H : (spec_l02All.l3 k3 y143 (IntKind.i8.wrap ((l0_0.length : Int))) x7_2 (IntKind.i8.wrap (x8_3 + 1))) = some r := by first | (rw [hy143]; with_reducible exact H) | (have H2_ := (Option.bind_some _ _).symm.trans H; rw [hy143]; with_reducible exact H2_) | (have H2_ := (Option.bind_some _ _).symm.trans H; with_reducible exact H2_) | with_reducible exact H | (rw [hy143]; exact H) | exact H
           have Ny143 := Aside0.mk hy143
           clear hy143
           have H' := Aside0.mk H
           clear H
           go_wp2_with (first | ((with_reducible refine gate_builtin (b := .append) (xs := #[.tmp 41, .tmp 45]) rfl ?_); at_builtin; refine Kd.R_append k60 (w0 := w) w.heap.size rfl (.tmp 41) (.tmp 45) 52 60 (.agg #[(.int .i8 0), (.int .i8 0), (.int .i8 0)]) 3 rfl Try.underlying52 info60 rfl (by decide) (by omega) u3 x3_3 (⟨x7_2, x8_3, 0⟩ : S60) [.int .i8 x7_2, .int .i8 x8_3, .int .i8 0] (fun _ => True) (fun _ => False) rfl rfl ?aP (fun _ hk => hk.elim) ?aF ?aO ?aB ?aS ?aL ?_; (case aP => exact k60_mkM _ _ _ (⟨x7_2, x8_3, 0⟩ : S60)); (case aB => exact (bl_ HB)); (case aF => exact (fun _ _ => trivial)); (case aO => exact (pr_ HO_3)); (case aS => exact (below_size (bl_ HB))); (case aL => have := LMc11.out; omega); intro v144 w12 ho hb hg hat; rw [← Ny143.out] at ho; have n0_ := A_ (blk_grown (pl_ BK136) hg (Kd.R_ne HO_3.out BK136.out (by decide))); have n1_ := A_ (hb); have n2_ := A_ (ho); clear BK136; clear HB; clear HO_3; have BK136 := n0_; have HB := n1_; have HO145 := n2_; clear n0_ n1_ n2_; clear ho hb hg hat))
           go_roundg k3
           case measure => have := HK1.out; have := HK2.out; have := HK3.out; omega
           case rel => exact ⟨(y143), (IntKind.i8.wrap (x8_3 + 1)), rs_, H', ⟨by have := HK1.out; have := HK2.out; have := HK3.out; omega⟩, ⟨pr_ HO145⟩, ⟨pl_ BK136⟩, ⟨bl_ HB⟩⟩
          ·rw [if_neg c11] at H
           exact absurd H (by simp)
         ·rw [if_neg c10] at H
          have c10b0 : decide (x8_3 < (IntKind.i8.wrap ((l0_0.length : Int)))) = false := decide_eq_false c10
          clear c10
          have H' := Aside0.mk H
          clear H
          go_wp2
          go_roundg k3
          case measure => have := HK1.out; have := HK2.out; have := HK3.out; omega
          case rel => exact ⟨(x3_3), (IntKind.i8.wrap (x7_2 + 1)), rs_, H', ⟨by have := HK1.out; have := HK2.out; have := HK3.out; omega⟩, ⟨pr_ HO_3⟩, ⟨pl_ BK136⟩, ⟨bl_ HB⟩⟩
      ·rw [if_neg c9] at H
       have c9b0 : decide (x7_2 ≤ 2) = false := decide_eq_false c9
       clear c9
       obtain rfl := Option.some.inj H
       go_wp2
       go_ret
       exact ⟨_, by first | rfl | (simp [errW_none, errW_some] <;> rfl) | (simp [*, errW_none, errW_some] <;> rfl), pr_ HO_3, bl_ HB⟩

end Go.Proofs.Ytodmfjophjhbeaa.M
