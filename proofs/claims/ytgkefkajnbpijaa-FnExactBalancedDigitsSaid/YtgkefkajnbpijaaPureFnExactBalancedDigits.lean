/- The program's BalancedDigits returns what the reference's returns, in memory of its own. Conditions: none (each int64). -/
import Derived.Test.YtgkefkajnbpijaaPFnExactBalancedDigitsx2
namespace Go.Proofs.Ytgkefkajnbpijaa.Pure
open Go.RowKit Go.Proofs.Ytgkefkajnbpijaa.PFnExactBalancedDigits Go.Proofs.YtgkefkajnbpijaaW.PrintWords Go.Proofs.YtgkefkajnbpijaaW.PrintLast

set_option linter.unusedVariables false
set_option linter.unusedSimpArgs false

theorem tmod3 (x : Int) : Int.tmod x 3 = if 0 ≤ x then x % 3 else -((-x) % 3) := by
  split
  · exact Int.tmod_eq_emod_of_nonneg (by assumption)
  · rw [show x = -(-x) by omega, Int.neg_tmod, Int.tmod_eq_emod_of_nonneg (by omega)]
    simp

theorem tdiv3 (x : Int) : Int.tdiv x 3 = if 0 ≤ x then x / 3 else -((-x) / 3) := by
  split
  · exact Int.tdiv_eq_ediv_of_nonneg (by assumption)
  · rw [show x = -(-x) by omega, Int.neg_tdiv, Int.tdiv_eq_ediv_of_nonneg (by omega)]
    simp

theorem digit_impl {x : Int} (h0 : -1000000000 ≤ x) (h1 : x ≤ 1000000000) : wrap64 (Int.tmod (wrap64 (Int.tmod x 3 + 4)) 3 - 1) = (x + 1) % 3 - 1 := by
  rw [tmod3 x]
  have e : wrap64 ((if 0 ≤ x then x % 3 else -((-x) % 3)) + 4) = (if 0 ≤ x then x % 3 else -((-x) % 3)) + 4 := by unfold wrap64; split <;> omega
  rw [e, tmod3]
  unfold wrap64
  split <;> split <;> omega

theorem digit_spec {x : Int} (h0 : -1000000000 ≤ x) (h1 : x ≤ 1000000000) : wrap64 (Int.tmod (wrap64 (Int.tmod (wrap64 (x + 1)) 3 + 3)) 3 - 1) = (x + 1) % 3 - 1 := by
  have e0 : wrap64 (x + 1) = x + 1 := by unfold wrap64; omega
  rw [e0, tmod3 (x + 1)]
  have e : wrap64 ((if 0 ≤ x + 1 then (x + 1) % 3 else -((-(x + 1)) % 3)) + 3) = (if 0 ≤ x + 1 then (x + 1) % 3 else -((-(x + 1)) % 3)) + 3 := by unfold wrap64; split <;> omega
  rw [e, tmod3]
  unfold wrap64
  split <;> split <;> omega

theorem next_bd {x : Int} (h0 : -1000000000 ≤ x) (h1 : x ≤ 1000000000) (hx : x ≠ 0) : ∃ y, wrap64 (Int.tdiv (wrap64 (x - ((x + 1) % 3 - 1))) 3) = y ∧ y.natAbs < x.natAbs ∧ -1000000000 ≤ y ∧ y ≤ 1000000000 := by
  have e0 : wrap64 (x - ((x + 1) % 3 - 1)) = x - ((x + 1) % 3 - 1) := by unfold wrap64; omega
  rw [e0, tdiv3]
  refine ⟨_, rfl, ?_⟩
  unfold wrap64
  split <;> omega

theorem bal_both : ∀ (d k : Nat) (x : Int) (acc : List Int), -1000000000 ≤ x → x ≤ 1000000000 → x.natAbs ≤ d → d < k → acc.length + d ≤ 1000000000 →
    ∃ r : List Int, r.length ≤ 1000000000 ∧ spec_BalancedDigits.l0 k x acc = some (r, 0) ∧ impl_BalancedDigits.l0 k x acc = some (r, 0) := by
  intro d
  induction d with
  | zero =>
    intro k x acc h0 h1 h2 h3 h4
    obtain ⟨k, rfl⟩ : ∃ m, k = m + 1 := ⟨k - 1, by omega⟩
    refine ⟨acc, by omega, ?_, ?_⟩
    · simp only [spec_BalancedDigits.l0]; rw [if_pos (by omega)]
    · simp only [impl_BalancedDigits.l0]; rw [if_pos (by omega)]
  | succ d ih =>
    intro k x acc h0 h1 h2 h3 h4
    obtain ⟨k, rfl⟩ : ∃ m, k = m + 1 := ⟨k - 1, by omega⟩
    by_cases hx : x = 0
    · refine ⟨acc, by omega, ?_, ?_⟩
      · simp only [spec_BalancedDigits.l0]; rw [if_pos hx]
      · simp only [impl_BalancedDigits.l0]; rw [if_pos hx]
    · obtain ⟨y, hy, hy1, hy2, hy3⟩ := next_bd h0 h1 hx
      obtain ⟨r, hr, hs, hi⟩ := ih k y (acc ++ [IntKind.i8.wrap ((x + 1) % 3 - 1)]) hy2 hy3 (by omega) (by omega) (by simp; omega)
      refine ⟨r, hr, ?_, ?_⟩
      · simp only [spec_BalancedDigits.l0]; rw [if_neg hx, if_pos (by omega), digit_spec h0 h1, hy]; exact hs
      · simp only [impl_BalancedDigits.l0]; rw [if_neg hx, if_pos (by omega), digit_impl h0 h1, hy]; exact hi

theorem eq_self (xs : List Int) (hl : xs.length ≤ 1000000000) : ∀ (d k : Nat) (i : Int), 0 ≤ i → (xs.length : Int) - i ≤ d → d < k → laws_eqInt8S.l0 k xs xs i = some true := by
  intro d
  induction d with
  | zero =>
    intro k i h0 h1 h2
    obtain ⟨k, rfl⟩ : ∃ m, k = m + 1 := ⟨k - 1, by omega⟩
    simp only [laws_eqInt8S.l0]; rw [if_neg (by omega)]
  | succ d ih =>
    intro k i h0 h1 h2
    obtain ⟨k, rfl⟩ : ∃ m, k = m + 1 := ⟨k - 1, by omega⟩
    simp only [laws_eqInt8S.l0]
    by_cases h : i < (xs.length : Int)
    · simp only [if_true]; rw [if_pos h, if_pos h0, if_pos h, show wrap64 (i + 1) = i + 1 by unfold wrap64; omega]
      exact ih k _ (by omega) (by omega) (by omega)
    · rw [if_neg h]

theorem rd_set_same (xs : List Int) (i : Int) (v : Int) (h0 : 0 ≤ i) (h : i < xs.length) : rd (xs.set i.toNat v) i = v := by
  unfold rd; simp [List.getD, show i.toNat < xs.length by omega]
theorem rd_set_other (xs : List Int) (i j : Int) (v : Int) (h0 : 0 ≤ i) (hj : 0 ≤ j) (h : i ≠ j) : rd (xs.set i.toNat v) j = rd xs j := by
  unfold rd; simp [List.getD, show i.toNat ≠ j.toNat by omega]

theorem mark_does : ∀ (d k : Nat) (xs : List Int) (c i : Int), 0 ≤ i → i ≤ xs.length → (xs.length : Int) - i ≤ d → d < k → xs.length ≤ 1000000000 → 0 ≤ c → c ≤ 1 + i →
    ∃ ys : List Int, laws_markInt8S.l0 k xs c i = some (c + (xs.length - i), ys) ∧ ys.length = xs.length ∧ (∀ j, 0 ≤ j → j < i → rd ys j = rd xs j) ∧ (∀ j, i ≤ j → j < xs.length → rd ys j = IntKind.i8.wrap (c + (j - i))) := by
  intro d
  induction d with
  | zero =>
    intro k xs c i h0 hi h1 h2 h3 hc0 hc1
    obtain ⟨k, rfl⟩ : ∃ m, k = m + 1 := ⟨k - 1, by omega⟩
    refine ⟨xs, ?_, rfl, fun _ _ _ => rfl, fun j _ _ => by omega⟩
    simp only [laws_markInt8S.l0]; rw [if_neg (by omega), show c + ((xs.length : Int) - i) = c by omega]
  | succ d ih =>
    intro k xs c i h0 hi h1 h2 h3 hc0 hc1
    obtain ⟨k, rfl⟩ : ∃ m, k = m + 1 := ⟨k - 1, by omega⟩
    by_cases h : i < (xs.length : Int)
    · obtain ⟨ys, hy, hl, ha, hb⟩ := ih k (xs.set i.toNat (IntKind.i8.wrap c)) (c + 1) (i + 1) (by omega) (by simp; omega) (by simp; omega) (by omega) (by simp; omega) (by omega) (by omega)
      simp only [List.length_set] at hy hl hb
      refine ⟨ys, ?_, hl, ?_, ?_⟩
      · simp only [laws_markInt8S.l0]
        rw [if_pos h, if_pos h0, show wrap64 (i + 1) = i + 1 by unfold wrap64; omega, show wrap64 (c + 1) = c + 1 by unfold wrap64; omega, hy]
        rw [show c + 1 + ((xs.length : Int) - (i + 1)) = c + (xs.length - i) by omega]
      · intro j hj0 hj
        rw [ha j hj0 (by omega), rd_set_other _ _ _ _ h0 hj0 (by omega)]
      · intro j hj hjl
        by_cases e : j = i
        · subst e
          rw [ha j h0 (by omega), rd_set_same _ _ _ h0 h]
          simp
        · rw [hb j (by omega) hjl, show c + 1 + (j - (i + 1)) = c + (j - i) by omega]
    · refine ⟨xs, ?_, rfl, fun _ _ _ => rfl, fun j _ _ => by omega⟩
      simp only [laws_markInt8S.l0]; rw [if_neg h, show c + ((xs.length : Int) - i) = c by omega]

theorem held_does (ys : List Int) (hl : ys.length ≤ 1000000000) : ∀ (d k : Nat) (c i : Int), 0 ≤ i → i ≤ ys.length → (ys.length : Int) - i ≤ d → d < k → 0 ≤ c → c ≤ 1 + i →
    (∀ j, i ≤ j → j < ys.length → rd ys j = IntKind.i8.wrap (c + (j - i))) → laws_heldInt8S.l0 k ys c i = some (c + (ys.length - i)) := by
  intro d
  induction d with
  | zero =>
    intro k c i h0 hi h1 h2 hc0 hc1 hh
    obtain ⟨k, rfl⟩ : ∃ m, k = m + 1 := ⟨k - 1, by omega⟩
    simp only [laws_heldInt8S.l0]; rw [if_neg (by omega), show c + ((ys.length : Int) - i) = c by omega]
  | succ d ih =>
    intro k c i h0 hi h1 h2 hc0 hc1 hh
    obtain ⟨k, rfl⟩ : ∃ m, k = m + 1 := ⟨k - 1, by omega⟩
    by_cases h : i < (ys.length : Int)
    · simp only [laws_heldInt8S.l0]
      have e := hh i (by omega) h
      rw [show c + (i - i) = c by omega] at e
      rw [if_pos h, if_pos h0, if_pos e, show wrap64 (i + 1) = i + 1 by unfold wrap64; omega, show wrap64 (c + 1) = c + 1 by unfold wrap64; omega]
      rw [ih k (c + 1) (i + 1) (by omega) (by omega) (by omega) (by omega) (by omega) (by omega) (fun j hj hjl => by rw [hh j (by omega) hjl, show c + 1 + (j - (i + 1)) = c + (j - i) by omega])]
      rw [show c + 1 + ((ys.length : Int) - (i + 1)) = c + (ys.length - i) by omega]
    · simp only [laws_heldInt8S.l0]; rw [if_neg h, show c + ((ys.length : Int) - i) = c by omega]

theorem bal_top (a : Int) : ∃ (r : List Int) (c : Int), r.length ≤ 1000000000 ∧ ∀ k, 1000000000 < k → spec_BalancedDigits.f k a = some (r, c) ∧ impl_BalancedDigits.f k a = some (r, c) := by
  by_cases h : -1000000000 ≤ a ∧ a ≤ 1000000000
  · obtain ⟨h0, h1⟩ := h
    obtain ⟨r, hr, hs, hi⟩ := bal_both 1000000000 1000000001 a [] h0 h1 (by omega) (by omega) (by simp)
    refine ⟨r, 0, hr, fun k hk => ?_⟩
    have hs' := at_rounds (fun k => (spec_BalancedDigits.mono_l k) a []) (show 1000000001 ≤ k by omega) hs
    have hi' := at_rounds (fun k => (impl_BalancedDigits.mono_l k) a []) (show 1000000001 ≤ k by omega) hi
    constructor
    · unfold spec_BalancedDigits.f spec_l00In.f
      rw [if_pos (show a ≥ -1000000000 from h0)]; simp [h1, hs']
    · unfold impl_BalancedDigits.f impl_within.f
      rw [if_pos h0]; simp [h1, hi']
  · refine ⟨[], 2, by simp, fun k _ => ?_⟩
    constructor
    · unfold spec_BalancedDigits.f spec_l00In.f
      by_cases h0 : -1000000000 ≤ a
      · rw [if_pos (show a ≥ -1000000000 from h0)]; simp [show ¬ a ≤ 1000000000 by omega]
      · rw [if_neg (show ¬ a ≥ -1000000000 from h0)]; simp
    · unfold impl_BalancedDigits.f impl_within.f
      by_cases h0 : -1000000000 ≤ a
      · rw [if_pos h0]; simp [show ¬ a ≤ 1000000000 by omega]
      · rw [if_neg h0]; simp

theorem FnExactBalancedDigits : laws_FnExactBalancedDigits.Pure := by
  intro a _
  obtain ⟨r, c, hr, hk⟩ := bal_top a
  obtain ⟨K, hK⟩ : ∃ K : Nat, 1000000001 ≤ K := ⟨1000000001, Nat.le_refl _⟩
  refine ⟨K + 2, ?_⟩
  have heq : ∀ k, 1000000000 < k → laws_eqInt8S.f k r r = some true := fun k h => by
    unfold laws_eqInt8S.f
    rw [if_pos rfl]; exact eq_self r hr 1000000000 k 0 (by omega) (by omega) h
  obtain ⟨ys, hm, hyl, _, hyv⟩ := mark_does 1000000000 (K + 1) r 1 0 (by omega) (by omega) (by omega) (by omega) hr (by omega) (by omega)
  have hheld : ∀ k, 1000000000 < k → laws_heldInt8S.f k ys 1 = some (1 + (r.length : Int)) := fun k h => by
    unfold laws_heldInt8S.f
    rw [held_does ys (by omega) 1000000000 k 1 0 (by omega) (by omega) (by omega) h (by omega) (by omega) (fun j hj hjl => hyv j hj (by omega)), hyl]
    simp
  unfold laws_FnExactBalancedDigits.f
  rw [(hk (K + 2) (by omega)).1, (hk (K + 2) (by omega)).2]
  simp only [Option.bind_some]
  rw [heq _ (by omega)]
  simp only [Option.bind_some, if_true, bne_self_eq_false]
  simp only [laws_FnExactBalancedDigits.j0, Bool.false_eq_true, if_false]
  rw [show laws_markInt8S.f (K + 1) r 1 = some (1 + ((r.length : Int) - 0), ys) from hm]
  simp only [Option.bind_some]
  rw [hheld _ (by omega)]
  simp only [Option.bind_some]
  rw [if_neg (by omega), if_pos (by omega), (hk (K + 1) (by omega)).2]
  simp only [Option.bind_some]
  rw [heq _ (by omega)]
  simp only [Option.bind_some, if_true, bne_self_eq_false]
  simp only [laws_FnExactBalancedDigits.j1, Bool.false_eq_true, if_false]
  rw [hheld _ (by omega)]
  simp only [Option.bind_some]
  rw [if_neg (by omega), if_pos (by omega)]

end Go.Proofs.Ytgkefkajnbpijaa.Pure
