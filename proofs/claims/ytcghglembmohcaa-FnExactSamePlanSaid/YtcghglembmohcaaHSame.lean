/- spec.SamePlan and slices.Equal at nodes, told by hand. -/
import Derived.Test.YtcghglembmohcaaHNode
namespace Go.Proofs.Ytcghglembmohcaa.M
open Go.RowKit Go.Proofs.YtcghglembmohcaaW.PrintWords Go.Proofs.YtcghglembmohcaaW.PrintLast Go.Proofs.YtcghglembmohcaaW.PrintMore
attribute [local go_sem high] neq58
set_option linter.unusedVariables false
set_option linter.unusedSimpArgs false

def spec_SamePlan.l0 : Nat → List S58 → List S58 → Int → Option Bool
  | 0, _, _, _ => none
  | k + 1, x0, x1, x5 => if x5 < (x0.length : Int) then (if 0 ≤ x5 then (if x5 < (x1.length : Int) then (if eq58 (rd_T58 x0 x5) (rd_T58 x1 x5) = true then spec_SamePlan.l0 k x0 x1 (wrap64 (x5 + 1)) else some false) else none) else none) else some true
def spec_SamePlan.f (k : Nat) (l0 l1 : List S58) : Option Bool := if (l0.length : Int) = (l1.length : Int) then spec_SamePlan.l0 k l0 l1 0 else some false
theorem spec_SamePlan.mono_l : ∀ k, (∀ y0 y1 y2, LeO (spec_SamePlan.l0 k y0 y1 y2) (spec_SamePlan.l0 (k + 1) y0 y1 y2))
  | 0 => fun _ _ _ r h => by simp [spec_SamePlan.l0] at h
  | k + 1 => by
    have ih0 := spec_SamePlan.mono_l k
    intro y0 y1 y2
    unfold spec_SamePlan.l0
    repeat' first
      | (with_reducible exact ih0 _ _ _)
      | (with_reducible exact LeO.refl _)
      | (with_reducible exact LeO.none _)
      | (with_reducible refine LeO.ite ?_ ?_)
      | exact ih0 _ _ _
      | exact LeO.none _
      | refine LeO.ite ?_ ?_
theorem spec_SamePlan.mono : ∀ a0 a1 k, LeO (spec_SamePlan.f k a0 a1) (spec_SamePlan.f (k + 1) a0 a1) := by
  intro a0 a1 k
  unfold spec_SamePlan.f
  refine LeO.ite ?_ (LeO.refl _)
  exact spec_SamePlan.mono_l k a0 a1 0

set_option maxHeartbeats 4000000 in
set_option maxRecDepth 100000 in
theorem spec_SamePlan.calls0 (k : Nat) (A0 : Option Addr) (c0 : Nat) (l0 : List S58) (A1 : Option Addr) (c1 : Nat) (l1 : List S58) (r : Bool) (w : World) (hr0 : Kd.C k58 w A0 l0.length l0) (hc0 : l0.length ≤ c0) (hr1 : Kd.C k58 w A1 l1.length l1) (hc1 : l1.length ≤ c1) (h : spec_SamePlan.f k l0 l1 = some r) :
    Calls Try.prog 12 #[.slice A0 l0.length c0, .slice A1 l1.length c1] w fun e w' => e = .returned (.bool r) ∧ Drawn0 w w' := by
  have HR0 := Aside0.mk hr0
  have HR1 := Aside0.mk hr1
  clear hr0 hr1
  unfold spec_SamePlan.f at h
  by_cases c3 : (l0.length : Int) = (l1.length : Int)
  · rw [if_pos c3] at h
    have c3b1 : ((l0.length : Int) != (l1.length : Int)) = false := bne_eq_false_iff_eq.mpr c3
    have H' := Aside0.mk h
    have C3 := Aside0.mk c3
    clear h c3
    go_enter Try.func12, Try.ntmps12
    go_wp2
    go_loopg [5] k (fun kq v5 w' => ∃ (x5 : Int), v5 = .int .i64 x5 ∧ Aside0 (spec_SamePlan.l0 kq l0 l1 x5 = some r) ∧ Aside0 (kq ≤ k) ∧ Drawn0 w w')
    case atStart => exact ⟨0, rs_, H', ⟨Nat.le_refl _⟩, by repeat (first | exact Drawn0.refl _ | apply Drawn0.step)⟩
    case round =>
      clear H' c3b1
      obtain ⟨x5, rfl, HA, HK1, ⟨m1, rfl⟩⟩ := hrel
      cases gk with
      | zero => exact absurd HA.out (by simp [spec_SamePlan.l0])
      | succ k1 =>
        have H := HA.out
        clear HA
        simp only [spec_SamePlan.l0] at H
        by_cases c4 : x5 < (l0.length : Int)
        · rw [if_pos c4] at H
          have c4b0 : decide (x5 < (l0.length : Int)) = true := decide_eq_true c4
          by_cases c5 : 0 ≤ x5
          · rw [if_pos c5] at H
            by_cases c6 : x5 < (l1.length : Int)
            · rw [if_pos c6] at H
              obtain ⟨ad0, e0, hn0⟩ := node_at (Kd.C_drew (Kd.C_drewN HR0.out m1)) x5 c5 c4
              obtain ⟨ad1, e1, hn1⟩ := node_at (Kd.C_drew (Kd.C_drewN HR1.out m1)) x5 c5 c6
              cases e0
              cases e1
              have HN0 := Aside0.mk hn0
              have HN1 := Aside0.mk hn1
              clear hn0 hn1
              by_cases c7 : eq58 (rd_T58 l0 x5) (rd_T58 l1 x5) = true
              · rw [if_pos c7] at H
                have H' := Aside0.mk H
                clear H
                go_wp2_with (refine wp_region_still_lit (by kernel_rfl) (by kernel_rfl) ?_; refine still_shown ?_; still_step; still_step; still_step; refine still_val (.agg (cs58 (rd_T58 l0 x5)).toArray) rfl (exec_load 58 (.tmp 19) rfl rfl (run_load58 _ _ _ (HN0.out))) ?_; still_step; still_step; still_step; refine still_val (.agg (cs58 (rd_T58 l1 x5)).toArray) rfl (exec_load 58 (.tmp 23) rfl rfl (run_load58 _ _ _ (HN1.out))) ?_; still_step; refine wpStill_nil ?_)
                go_roundg k1
                case measure => have := HK1.out; omega
                case rel => exact ⟨(wrap64 (x5 + 1)), rs_, H', ⟨by have := HK1.out; omega⟩, by first | exact ⟨_, rfl⟩ | exact ⟨⟨_, rfl⟩⟩ | (repeat (first | exact Drawn0.refl _ | apply Drawn0.step))⟩
              · rw [if_neg c7] at H
                have c7b : eq58 (rd_T58 l0 x5) (rd_T58 l1 x5) = false := by simpa using c7
                clear c7
                obtain rfl := Option.some.inj H
                go_wp2_with (refine wp_region_still_lit (by kernel_rfl) (by kernel_rfl) ?_; refine still_shown ?_; still_step; still_step; still_step; refine still_val (.agg (cs58 (rd_T58 l0 x5)).toArray) rfl (exec_load 58 (.tmp 19) rfl rfl (run_load58 _ _ _ (HN0.out))) ?_; still_step; still_step; still_step; refine still_val (.agg (cs58 (rd_T58 l1 x5)).toArray) rfl (exec_load 58 (.tmp 23) rfl rfl (run_load58 _ _ _ (HN1.out))) ?_; still_step; refine wpStill_nil ?_)
                go_ret
                exact ⟨rfl, by first | exact ⟨_, rfl⟩ | exact ⟨⟨_, rfl⟩⟩ | (repeat (first | exact Drawn0.refl _ | apply Drawn0.step))⟩
            · rw [if_neg c6] at H
              cases H
          · rw [if_neg c5] at H
            cases H
        · rw [if_neg c4] at H
          have c4b0 : decide (x5 < (l0.length : Int)) = false := decide_eq_false c4
          obtain rfl := Option.some.inj H
          go_wp2
          go_ret
          exact ⟨rfl, by first | exact ⟨_, rfl⟩ | exact ⟨⟨_, rfl⟩⟩ | (repeat (first | exact Drawn0.refl _ | apply Drawn0.step))⟩
  · rw [if_neg c3] at h
    have c3b1 : ((l0.length : Int) != (l1.length : Int)) = true := bne_iff_ne.mpr c3
    obtain rfl := Option.some.inj h
    go_enter Try.func12, Try.ntmps12
    go_wp2
    go_ret
    exact ⟨rfl, by first | exact ⟨_, rfl⟩ | exact ⟨⟨_, rfl⟩⟩ | (repeat (first | exact Drawn0.refl _ | apply Drawn0.step))⟩
theorem spec_SamePlan.calls (k : Nat) (A0 : Option Addr) (c0 : Nat) (l0 : List S58) (A1 : Option Addr) (c1 : Nat) (l1 : List S58) (r : Bool) (w : World) (hr0 : Kd.C k58 w A0 l0.length l0) (hc0 : l0.length ≤ c0) (hr1 : Kd.C k58 w A1 l1.length l1) (hc1 : l1.length ≤ c1) (h : spec_SamePlan.f k l0 l1 = some r) :
    Calls Try.prog 12 #[.slice A0 l0.length c0, .slice A1 l1.length c1] w fun e w' => e = .returned (.bool r) ∧ Below w.heap.size w w' :=
  (spec_SamePlan.calls0 k A0 c0 l0 A1 c1 l1 r w hr0 hc0 hr1 hc1 h).mono fun e w' h => ⟨h.1, h.2.below⟩

def impl_Node_29.l0 : Nat → List S58 → List S58 → Int → Option Bool
  | 0, _, _, _ => none
  | k + 1, x0, x1, x5 => if x5 < (x0.length : Int) then (if 0 ≤ x5 then (if x5 < (x1.length : Int) then (if eq58 (rd_T58 x0 x5) (rd_T58 x1 x5) = true then impl_Node_29.l0 k x0 x1 (wrap64 (x5 + 1)) else some false) else none) else none) else some true
def impl_Node_29.f (k : Nat) (l0 l1 : List S58) : Option Bool := if (l0.length : Int) = (l1.length : Int) then impl_Node_29.l0 k l0 l1 0 else some false
theorem impl_Node_29.mono_l : ∀ k, (∀ y0 y1 y2, LeO (impl_Node_29.l0 k y0 y1 y2) (impl_Node_29.l0 (k + 1) y0 y1 y2))
  | 0 => fun _ _ _ r h => by simp [impl_Node_29.l0] at h
  | k + 1 => by
    have ih0 := impl_Node_29.mono_l k
    intro y0 y1 y2
    unfold impl_Node_29.l0
    repeat' first
      | (with_reducible exact ih0 _ _ _)
      | (with_reducible exact LeO.refl _)
      | (with_reducible exact LeO.none _)
      | (with_reducible refine LeO.ite ?_ ?_)
      | exact ih0 _ _ _
      | exact LeO.none _
      | refine LeO.ite ?_ ?_
theorem impl_Node_29.mono : ∀ a0 a1 k, LeO (impl_Node_29.f k a0 a1) (impl_Node_29.f (k + 1) a0 a1) := by
  intro a0 a1 k
  unfold impl_Node_29.f
  refine LeO.ite ?_ (LeO.refl _)
  exact impl_Node_29.mono_l k a0 a1 0

set_option maxHeartbeats 4000000 in
set_option maxRecDepth 100000 in
theorem impl_Node_29.calls0 (k : Nat) (A0 : Option Addr) (c0 : Nat) (l0 : List S58) (A1 : Option Addr) (c1 : Nat) (l1 : List S58) (r : Bool) (w : World) (hr0 : Kd.C k58 w A0 l0.length l0) (hc0 : l0.length ≤ c0) (hr1 : Kd.C k58 w A1 l1.length l1) (hc1 : l1.length ≤ c1) (h : impl_Node_29.f k l0 l1 = some r) :
    Calls Try.prog 29 #[.slice A0 l0.length c0, .slice A1 l1.length c1] w fun e w' => e = .returned (.bool r) ∧ Drawn0 w w' := by
  have HR0 := Aside0.mk hr0
  have HR1 := Aside0.mk hr1
  clear hr0 hr1
  unfold impl_Node_29.f at h
  by_cases c3 : (l0.length : Int) = (l1.length : Int)
  · rw [if_pos c3] at h
    have c3b1 : ((l0.length : Int) != (l1.length : Int)) = false := bne_eq_false_iff_eq.mpr c3
    have H' := Aside0.mk h
    have C3 := Aside0.mk c3
    clear h c3
    go_enter Try.func29, Try.ntmps29
    go_wp2
    go_loopg [13] k (fun kq v5 w' => ∃ (x5 : Int), v5 = .int .i64 x5 ∧ Aside0 (impl_Node_29.l0 kq l0 l1 x5 = some r) ∧ Aside0 (kq ≤ k) ∧ Drawn0 w w')
    case atStart => exact ⟨0, rs_, H', ⟨Nat.le_refl _⟩, by repeat (first | exact Drawn0.refl _ | apply Drawn0.step)⟩
    case round =>
      clear H' c3b1
      obtain ⟨x5, rfl, HA, HK1, ⟨m1, rfl⟩⟩ := hrel
      cases gk with
      | zero => exact absurd HA.out (by simp [impl_Node_29.l0])
      | succ k1 =>
        have H := HA.out
        clear HA
        simp only [impl_Node_29.l0] at H
        by_cases c4 : x5 < (l0.length : Int)
        · rw [if_pos c4] at H
          have c4b0 : decide (x5 < (l0.length : Int)) = true := decide_eq_true c4
          by_cases c5 : 0 ≤ x5
          · rw [if_pos c5] at H
            by_cases c6 : x5 < (l1.length : Int)
            · rw [if_pos c6] at H
              obtain ⟨ad0, e0, hn0⟩ := node_at (Kd.C_drew (Kd.C_drewN HR0.out m1)) x5 c5 c4
              obtain ⟨ad1, e1, hn1⟩ := node_at (Kd.C_drew (Kd.C_drewN HR1.out m1)) x5 c5 c6
              cases e0
              cases e1
              have HN0 := Aside0.mk hn0
              have HN1 := Aside0.mk hn1
              clear hn0 hn1
              by_cases c7 : eq58 (rd_T58 l0 x5) (rd_T58 l1 x5) = true
              · rw [if_pos c7] at H
                have H' := Aside0.mk H
                clear H
                go_wp2_with (refine wp_region_still_lit (by kernel_rfl) (by kernel_rfl) ?_; refine still_shown ?_; still_step; still_step; still_step; refine still_val (.agg (cs58 (rd_T58 l0 x5)).toArray) rfl (exec_load 58 (.tmp 18) rfl rfl (run_load58 _ _ _ (HN0.out))) ?_; still_step; still_step; still_step; refine still_val (.agg (cs58 (rd_T58 l1 x5)).toArray) rfl (exec_load 58 (.tmp 22) rfl rfl (run_load58 _ _ _ (HN1.out))) ?_; still_step; refine wpStill_nil ?_)
                go_roundg k1
                case measure => have := HK1.out; omega
                case rel => exact ⟨(wrap64 (x5 + 1)), rs_, H', ⟨by have := HK1.out; omega⟩, by first | exact ⟨_, rfl⟩ | exact ⟨⟨_, rfl⟩⟩ | (repeat (first | exact Drawn0.refl _ | apply Drawn0.step))⟩
              · rw [if_neg c7] at H
                have c7b : eq58 (rd_T58 l0 x5) (rd_T58 l1 x5) = false := by simpa using c7
                clear c7
                obtain rfl := Option.some.inj H
                go_wp2_with (refine wp_region_still_lit (by kernel_rfl) (by kernel_rfl) ?_; refine still_shown ?_; still_step; still_step; still_step; refine still_val (.agg (cs58 (rd_T58 l0 x5)).toArray) rfl (exec_load 58 (.tmp 18) rfl rfl (run_load58 _ _ _ (HN0.out))) ?_; still_step; still_step; still_step; refine still_val (.agg (cs58 (rd_T58 l1 x5)).toArray) rfl (exec_load 58 (.tmp 22) rfl rfl (run_load58 _ _ _ (HN1.out))) ?_; still_step; refine wpStill_nil ?_)
                go_ret
                exact ⟨rfl, by first | exact ⟨_, rfl⟩ | exact ⟨⟨_, rfl⟩⟩ | (repeat (first | exact Drawn0.refl _ | apply Drawn0.step))⟩
            · rw [if_neg c6] at H
              cases H
          · rw [if_neg c5] at H
            cases H
        · rw [if_neg c4] at H
          have c4b0 : decide (x5 < (l0.length : Int)) = false := decide_eq_false c4
          obtain rfl := Option.some.inj H
          go_wp2
          go_ret
          exact ⟨rfl, by first | exact ⟨_, rfl⟩ | exact ⟨⟨_, rfl⟩⟩ | (repeat (first | exact Drawn0.refl _ | apply Drawn0.step))⟩
  · rw [if_neg c3] at h
    have c3b1 : ((l0.length : Int) != (l1.length : Int)) = true := bne_iff_ne.mpr c3
    obtain rfl := Option.some.inj h
    go_enter Try.func29, Try.ntmps29
    go_wp2
    go_ret
    exact ⟨rfl, by first | exact ⟨_, rfl⟩ | exact ⟨⟨_, rfl⟩⟩ | (repeat (first | exact Drawn0.refl _ | apply Drawn0.step))⟩
theorem impl_Node_29.calls (k : Nat) (A0 : Option Addr) (c0 : Nat) (l0 : List S58) (A1 : Option Addr) (c1 : Nat) (l1 : List S58) (r : Bool) (w : World) (hr0 : Kd.C k58 w A0 l0.length l0) (hc0 : l0.length ≤ c0) (hr1 : Kd.C k58 w A1 l1.length l1) (hc1 : l1.length ≤ c1) (h : impl_Node_29.f k l0 l1 = some r) :
    Calls Try.prog 29 #[.slice A0 l0.length c0, .slice A1 l1.length c1] w fun e w' => e = .returned (.bool r) ∧ Below w.heap.size w w' :=
  (impl_Node_29.calls0 k A0 c0 l0 A1 c1 l1 r w hr0 hc0 hr1 hc1 h).mono fun e w' h => ⟨h.1, h.2.below⟩

end Go.Proofs.Ytcghglembmohcaa.M
