/- The program's MostCoins returns what the reference's returns. Conditions: none (all pairs of int64). -/
-- IMPORTS
import Derived.Test.YteohhkfeeeifaaaMx2
import Derived.Test.YteohhkfeeeifaaaMx3
import Derived.Test.YteohhkfeeeifaaaMx7
import Derived.Test.YteohhkfeeeifaaaMx8
namespace Go.Proofs.Yteohhkfeeeifaaa.Pure
open Go.RowKit Go.Proofs.Yteohhkfeeeifaaa.M Go.Proofs.YteohhkfeeeifaaaW.PrintWords Go.Proofs.YteohhkfeeeifaaaW.PrintLast
set_option linter.unusedVariables false

theorem within_same (a b c : Int) : impl_within.f a b c = spec_l00In.f a b c := by
  unfold impl_within.f spec_l00In.f
  simp only [ge_iff_le]

theorem in_some (a b c : Int) : spec_l00In.f a b c = some (decide (b ≤ a ∧ a ≤ c)) := by
  unfold spec_l00In.f
  by_cases h : a ≥ b
  · rw [if_pos h]; simp [show b ≤ a from h]
  · rw [if_neg h]; simp [show ¬ b ≤ a from h]

theorem most_all : ∀ (a : Fin 4) (b : Fin 3), laws_FnExactMostCoins.f 20 ((a.val : Int) + 1) (b.val : Int) = some true := by decide +kernel

theorem FnExactMostCoins : laws_FnExactMostCoins.Pure := by
  intro a b _ _
  refine ⟨20, ?_⟩
  by_cases h : (1 ≤ a ∧ a ≤ 4) ∧ (0 ≤ b ∧ b ≤ 2)
  · have := most_all ⟨(a - 1).toNat, by omega⟩ ⟨b.toNat, by omega⟩
    rwa [show (((a - 1).toNat : Nat) : Int) + 1 = a by omega, show ((b.toNat : Nat) : Int) = b by omega] at this
  · have hs : spec_MostCoins.f 20 a b = some (0, 2) := by
      unfold spec_MostCoins.f spec_l04Letters.f spec_l04Kind.f
      simp only [in_some, Option.bind_some]
      by_cases h1 : 1 ≤ a ∧ a ≤ 4
      · rw [if_pos (by simpa using h1)]
        have h2 : ¬ (0 ≤ b ∧ b ≤ 2) := fun h2 => h ⟨h1, h2⟩
        simp only [decide_eq_false h2, spec_MostCoins.j0]; rfl
      · rw [if_neg (by simpa using h1)]
        simp [spec_MostCoins.j0]
    have hi : impl_MostCoins.f 20 a b = some (0, 2) := by
      unfold impl_MostCoins.f impl_areLetters.f impl_isKind.f
      simp only [within_same, in_some, Option.bind_some]
      by_cases h1 : 1 ≤ a ∧ a ≤ 4
      · rw [if_pos (by simpa using h1)]
        have h2 : ¬ (0 ≤ b ∧ b ≤ 2) := fun h2 => h ⟨h1, h2⟩
        simp only [decide_eq_false h2, impl_MostCoins.j0]; rfl
      · rw [if_neg (by simpa using h1)]
        simp [impl_MostCoins.j0]
    unfold laws_FnExactMostCoins.f
    rw [hs, hi]
    simp

end Go.Proofs.Yteohhkfeeeifaaa.Pure
