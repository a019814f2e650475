/- The program's ArmsFrom returns what the reference's returns. Conditions: none (all pairs of int64). -/
import Derived.Test.YtgkefkajnbpijaaPFnExactArmsFromx1
namespace Go.Proofs.Ytgkefkajnbpijaa.Pure
open Go.RowKit Go.Proofs.Ytgkefkajnbpijaa.PFnExactArmsFrom Go.Proofs.YtgkefkajnbpijaaW.PrintWords Go.Proofs.YtgkefkajnbpijaaW.PrintLast

theorem mbt_same_l : ∀ k x0 x1 lo hi, impl_MassByTwo.l0 k x0 x1 lo hi = spec_MassByTwo.l0 k x0 x1 lo hi := by
  intro k
  induction k with
  | zero => intro _ _ _ _; rfl
  | succ k ih =>
    intro x0 x1 lo hi
    simp only [impl_MassByTwo.l0, spec_MassByTwo.l0, ih]
    by_cases h : lo < hi
    · rw [if_pos h, if_pos h]
      by_cases h2 : wrap64 (wrap64 (Int.tdiv (wrap64 (lo + hi)) 2) * wrap64 (Int.tdiv (wrap64 (lo + hi)) 2)) < wrap64 (x0 * x1)
      · rw [if_pos h2, if_neg (by omega)]
      · rw [if_neg h2, if_pos (by omega)]
    · rw [if_neg h, if_neg h]

theorem mbt_same (k : Nat) (a b : Int) : impl_MassByTwo.f k a b = spec_MassByTwo.f k a b := by
  have hj : ∀ c, impl_MassByTwo.j0 k a b c = spec_MassByTwo.j0 k a b c := by
    intro c
    cases k with
    | zero => rfl
    | succ k => simp only [impl_MassByTwo.j0, spec_MassByTwo.j0, mbt_same_l]
  unfold impl_MassByTwo.f spec_MassByTwo.f impl_within.f spec_l00In.f
  simp only [hj, ge_iff_le]

theorem mbt_ends_l (x0 x1 : Int) : ∀ (d : Nat) (k : Nat) (lo hi : Int), 1 ≤ lo → hi ≤ 1000000 → hi - lo ≤ d → d < k → ∃ r, spec_MassByTwo.l0 k x0 x1 lo hi = some r := by
  intro d
  induction d with
  | zero =>
    intro k lo hi h1 h2 h3 h4
    obtain ⟨k, rfl⟩ : ∃ m, k = m + 1 := ⟨k - 1, by omega⟩
    simp only [spec_MassByTwo.l0]
    rw [if_neg (by omega)]
    split <;> exact ⟨_, rfl⟩
  | succ d ih =>
    intro k lo hi h1 h2 h3 h4
    obtain ⟨k, rfl⟩ : ∃ m, k = m + 1 := ⟨k - 1, by omega⟩
    simp only [spec_MassByTwo.l0]
    by_cases h : lo < hi
    · rw [if_pos h]
      have e1 : wrap64 (lo + hi) = lo + hi := by unfold wrap64; omega
      have e2 : wrap64 (Int.tdiv (lo + hi) 2) = (lo + hi) / 2 := by
        rw [Int.tdiv_eq_ediv_of_nonneg (by omega)]; unfold wrap64; omega
      have e3 : wrap64 ((lo + hi) / 2 + 1) = (lo + hi) / 2 + 1 := by unfold wrap64; omega
      rw [e1, e2, e3]
      split
      · exact ih k _ _ (by omega) (by omega) (by omega) (by omega)
      · exact ih k _ _ (by omega) (by omega) (by omega) (by omega)
    · rw [if_neg h]
      split <;> exact ⟨_, rfl⟩

theorem mbt_ends (a b : Int) : ∃ r, spec_MassByTwo.f 1000002 a b = some r := by
  have hj : ∀ c, ∃ r, spec_MassByTwo.j0 1000002 a b c = some r := by
    intro c
    simp only [spec_MassByTwo.j0]
    split
    · exact ⟨_, rfl⟩
    · exact mbt_ends_l a b 999999 1000001 1 1000000 (by omega) (by omega) (by omega) (by omega)
  unfold spec_MassByTwo.f spec_l00In.f
  simp only [ge_iff_le]
  by_cases h1 : (1 : Int) ≤ a
  · rw [if_pos h1]
    simp only [Option.bind_some]
    split
    · by_cases h2 : (1 : Int) ≤ b
      · rw [if_pos h2]; simp only [Option.bind_some]; exact hj _
      · rw [if_neg h2]; simp only [Option.bind_some]; exact hj _
    · exact hj _
  · rw [if_neg h1]
    simp only [Option.bind_some]
    rw [if_neg (by simp)]
    exact hj _

theorem gcd_same : ∀ k a b, (spec_l01Gcd.f k a b) = impl_divisor.l0 k a b := by
  intro k
  induction k with
  | zero => intro _ _; rfl
  | succ k ih =>
    intro a b
    simp only [spec_l01Gcd.f, impl_divisor.l0, ih]
    split
    · rfl
    · cases impl_divisor.l0 k b (Int.tmod a b) <;> rfl

theorem gcd_ends : ∀ (d : Nat) (k : Nat) (a b : Int), 1 ≤ a → 0 ≤ b → b ≤ d → d < k → ∃ r, impl_divisor.l0 k a b = some r ∧ 1 ≤ r := by
  intro d
  induction d with
  | zero =>
    intro k a b ha h0 h1 h2
    obtain ⟨k, rfl⟩ : ∃ m, k = m + 1 := ⟨k - 1, by omega⟩
    simp only [impl_divisor.l0]
    rw [if_pos (by omega)]
    exact ⟨_, rfl, ha⟩
  | succ d ih =>
    intro k a b ha h0 h1 h2
    obtain ⟨k, rfl⟩ : ∃ m, k = m + 1 := ⟨k - 1, by omega⟩
    simp only [impl_divisor.l0]
    by_cases h : b = 0
    · rw [if_pos h]
      exact ⟨_, rfl, ha⟩
    · rw [if_neg h, Int.tmod_eq_emod_of_nonneg (by omega)]
      have h3 := Int.emod_nonneg a h
      have h4 := Int.emod_lt_of_pos a (show 0 < b by omega)
      exact ih k b (a % b) (by omega) h3 (by omega) (by omega)

/-- A mass that is found is at least 1, and then both numbers were at least 1. -/
theorem mbt_tells_l (x0 x1 : Int) : ∀ (k : Nat) (lo hi : Int) (r : Int × Int), 1 ≤ lo → hi ≤ 1000000 → spec_MassByTwo.l0 k x0 x1 lo hi = some r → r.2 = 0 → 1 ≤ r.1 ∧ (r.1 ≤ 1000000 ∨ r.1 = lo) := by
  intro k
  induction k with
  | zero => intro lo hi r _ _ h; simp [spec_MassByTwo.l0] at h
  | succ k ih =>
    intro lo hi r h1 h2 h hr
    simp only [spec_MassByTwo.l0] at h
    by_cases hl : lo < hi
    · rw [if_pos hl] at h
      have e1 : wrap64 (lo + hi) = lo + hi := by unfold wrap64; omega
      have e2 : wrap64 (Int.tdiv (lo + hi) 2) = (lo + hi) / 2 := by
        rw [Int.tdiv_eq_ediv_of_nonneg (by omega)]; unfold wrap64; omega
      have e3 : wrap64 ((lo + hi) / 2 + 1) = (lo + hi) / 2 + 1 := by unfold wrap64; omega
      rw [e1, e2, e3] at h
      split at h
      · have := ih _ _ r (by omega) (by omega) h hr; omega
      · have := ih _ _ r (by omega) (by omega) h hr; omega
    · rw [if_neg hl] at h
      split at h
      · injection h with h; subst h; exact ⟨h1, .inr rfl⟩
      · injection h with h; subst h; simp at hr

theorem mbt_tells (k : Nat) (a b : Int) (r : Int × Int) (h : spec_MassByTwo.f k a b = some r) (hr : r.2 = 0) : 1 ≤ a ∧ a ≤ 1000000 ∧ 1 ≤ r.1 ∧ r.1 ≤ 1000000 := by
  have hj : ∀ c, spec_MassByTwo.j0 k a b c = some r → c = false ∧ 1 ≤ r.1 ∧ r.1 ≤ 1000000 := by
    intro c hc
    cases k with
    | zero => simp [spec_MassByTwo.j0] at hc
    | succ k =>
      simp only [spec_MassByTwo.j0] at hc
      cases c with
      | true => rw [if_pos rfl] at hc; injection hc with hc; subst hc; simp at hr
      | false =>
        rw [if_neg (by simp)] at hc
        have := mbt_tells_l a b k 1 1000000 r (by omega) (by omega) hc hr
        refine ⟨rfl, ?_, ?_⟩ <;> omega
  unfold spec_MassByTwo.f spec_l00In.f at h
  simp only [ge_iff_le] at h
  by_cases h1 : (1 : Int) ≤ a
  · rw [if_pos h1] at h
    simp only [Option.bind_some] at h
    by_cases h2 : a ≤ 1000000
    · rw [if_pos (by simpa using h2)] at h
      by_cases h3 : (1 : Int) ≤ b
      · rw [if_pos h3] at h; simp only [Option.bind_some] at h; have := hj _ h; omega
      · rw [if_neg h3] at h; simp only [Option.bind_some] at h; have := (hj _ h).1; simp at this
    · rw [if_neg (by simpa using h2)] at h
      have := (hj _ h).1; simp at this
  · rw [if_neg h1] at h
    simp only [Option.bind_some] at h
    rw [if_neg (by simp)] at h
    have := (hj _ h).1; simp at this

theorem FnExactArmsFrom : laws_FnExactArmsFrom.Pure := by
  intro a b _ _
  obtain ⟨r, hr⟩ := mbt_ends a b
  refine ⟨1000002, ?_⟩
  have hsame : impl_ArmsFrom.f 1000002 a b = spec_ArmsFrom.f 1000002 a b := by
    unfold impl_ArmsFrom.f spec_ArmsFrom.f impl_divisor.f
    rw [mbt_same]
    simp only [gcd_same]
  have hends : ∃ q, spec_ArmsFrom.f 1000002 a b = some q := by
    unfold spec_ArmsFrom.f
    rw [hr]
    simp only [Option.bind_some, gcd_same]
    by_cases h2 : r.2 = 0
    · rw [if_pos h2]
      obtain ⟨ha, ha2, hm, hm2⟩ := mbt_tells _ a b r hr h2
      obtain ⟨g, hg, hg1⟩ := gcd_ends 1000001 1000002 a r.1 ha (by omega) (by omega) (by omega)
      rw [hg]
      simp only [Option.bind_some]
      rw [if_neg (by omega)]
      exact ⟨_, rfl⟩
    · rw [if_neg h2]
      exact ⟨_, rfl⟩
  obtain ⟨q, hq⟩ := hends
  unfold laws_FnExactArmsFrom.f
  rw [hsame, hq]
  simp

end Go.Proofs.Ytgkefkajnbpijaa.Pure
