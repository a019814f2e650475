/- The program's MassByTwo returns what the reference's returns. Conditions: none (all pairs of int64). -/
import Derived.Test.YtgkefkajnbpijaaPFnExactMassByTwox1
namespace Go.Proofs.Ytgkefkajnbpijaa.Pure
open Go.RowKit Go.Proofs.Ytgkefkajnbpijaa.PFnExactMassByTwo Go.Proofs.YtgkefkajnbpijaaW.PrintWords Go.Proofs.YtgkefkajnbpijaaW.PrintLast

theorem mbt_same_l : ∀ k x0 x1 lo hi, impl_MassByTwo.l0 k x0 x1 lo hi = spec_MassByTwo.l0 k x0 x1 lo hi := by
  intro k
  induction k with
  | zero => intro _ _ _ _; rfl
  | succ k ih =>
    intro x0 x1 lo hi
    simp only [impl_MassByTwo.l0, spec_MassByTwo.l0, ih]
    by_cases h : lo < hi
    · rw [if_pos h, if_pos h]
      by_cases h2 : wrap64 (wrap64 (Int.tdiv (wrap64 (lo + hi)) 2) * wrap64 (Int.tdiv (wrap64 (lo + hi)) 2)) < wrap64 (x0 * x1)
      · rw [if_pos h2, if_neg (by omega)]
      · rw [if_neg h2, if_pos (by omega)]
    · rw [if_neg h, if_neg h]

theorem mbt_same (k : Nat) (a b : Int) : impl_MassByTwo.f k a b = spec_MassByTwo.f k a b := by
  have hj : ∀ c, impl_MassByTwo.j0 k a b c = spec_MassByTwo.j0 k a b c := by
    intro c
    cases k with
    | zero => rfl
    | succ k => simp only [impl_MassByTwo.j0, spec_MassByTwo.j0, mbt_same_l]
  unfold impl_MassByTwo.f spec_MassByTwo.f impl_within.f spec_l00In.f
  simp only [hj, ge_iff_le]

theorem mbt_ends_l (x0 x1 : Int) : ∀ (d : Nat) (k : Nat) (lo hi : Int), 1 ≤ lo → hi ≤ 1000000 → hi - lo ≤ d → d < k → ∃ r, spec_MassByTwo.l0 k x0 x1 lo hi = some r := by
  intro d
  induction d with
  | zero =>
    intro k lo hi h1 h2 h3 h4
    obtain ⟨k, rfl⟩ : ∃ m, k = m + 1 := ⟨k - 1, by omega⟩
    simp only [spec_MassByTwo.l0]
    rw [if_neg (by omega)]
    split <;> exact ⟨_, rfl⟩
  | succ d ih =>
    intro k lo hi h1 h2 h3 h4
    obtain ⟨k, rfl⟩ : ∃ m, k = m + 1 := ⟨k - 1, by omega⟩
    simp only [spec_MassByTwo.l0]
    by_cases h : lo < hi
    · rw [if_pos h]
      have e1 : wrap64 (lo + hi) = lo + hi := by unfold wrap64; omega
      have e2 : wrap64 (Int.tdiv (lo + hi) 2) = (lo + hi) / 2 := by
        rw [Int.tdiv_eq_ediv_of_nonneg (by omega)]; unfold wrap64; omega
      have e3 : wrap64 ((lo + hi) / 2 + 1) = (lo + hi) / 2 + 1 := by unfold wrap64; omega
      rw [e1, e2, e3]
      split
      · exact ih k _ _ (by omega) (by omega) (by omega) (by omega)
      · exact ih k _ _ (by omega) (by omega) (by omega) (by omega)
    · rw [if_neg h]
      split <;> exact ⟨_, rfl⟩

theorem mbt_ends (a b : Int) : ∃ r, spec_MassByTwo.f 1000002 a b = some r := by
  have hj : ∀ c, ∃ r, spec_MassByTwo.j0 1000002 a b c = some r := by
    intro c
    simp only [spec_MassByTwo.j0]
    split
    · exact ⟨_, rfl⟩
    · exact mbt_ends_l a b 999999 1000001 1 1000000 (by omega) (by omega) (by omega) (by omega)
  unfold spec_MassByTwo.f spec_l00In.f
  simp only [ge_iff_le]
  by_cases h1 : (1 : Int) ≤ a
  · rw [if_pos h1]
    simp only [Option.bind_some]
    split
    · by_cases h2 : (1 : Int) ≤ b
      · rw [if_pos h2]; simp only [Option.bind_some]; exact hj _
      · rw [if_neg h2]; simp only [Option.bind_some]; exact hj _
    · exact hj _
  · rw [if_neg h1]
    simp only [Option.bind_some]
    rw [if_neg (by simp)]
    exact hj _

theorem FnExactMassByTwo : laws_FnExactMassByTwo.Pure := by
  intro a b _ _
  obtain ⟨r, hr⟩ := mbt_ends a b
  refine ⟨1000002, ?_⟩
  unfold laws_FnExactMassByTwo.f
  rw [mbt_same, hr]
  simp

end Go.Proofs.Ytgkefkajnbpijaa.Pure
