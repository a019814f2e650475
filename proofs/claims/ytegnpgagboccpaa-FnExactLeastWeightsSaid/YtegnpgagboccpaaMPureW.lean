/- LeastWeights: the law carried out at n numbers from lo on. -/
-- IMPORTS
import Derived.Test.YtegnpgagboccpaaMx7
namespace Go.Proofs.Ytegnpgagboccpaa.Pure
open Go.RowKit Go.Proofs.Ytegnpgagboccpaa.M Go.Proofs.YtegnpgagboccpaaW.PrintWords Go.Proofs.YtegnpgagboccpaaW.PrintLast Go.Proofs.YtegnpgagboccpaaW.PrintMore
set_option linter.unusedVariables false
set_option linter.unusedSimpArgs false
set_option maxRecDepth 100000

def chk (lo : Nat) (b : Bool) : Nat → Bool
  | 0 => true
  | n + 1 => decide (laws_FnExactLeastWeights.f 60 ((lo + n : Nat) : Int) b = some true) && chk lo b n
theorem chk_all (lo : Nat) (b : Bool) : ∀ n, chk lo b n = true → ∀ a : Nat, lo ≤ a → a < lo + n → laws_FnExactLeastWeights.f 60 (a : Int) b = some true := by
  intro n
  induction n with
  | zero => intro _ a h1 h2; omega
  | succ n ih =>
    intro h a h1 h2
    simp only [chk, Bool.and_eq_true] at h
    by_cases e : a = lo + n
    · subst e; exact of_decide_eq_true h.1
    · exact ih h.2 a h1 (by omega)
end Go.Proofs.Ytegnpgagboccpaa.Pure
