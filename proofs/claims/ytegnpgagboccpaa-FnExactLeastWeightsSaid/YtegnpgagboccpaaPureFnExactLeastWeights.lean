/- The program's LeastWeights returns what the reference's returns, in memory of its own: each of the 4000 ways in which there are weights is carried out by the kernel. Conditions: none. -/
import Derived.Test.YtegnpgagboccpaaMPureW0
import Derived.Test.YtegnpgagboccpaaMPureW1
import Derived.Test.YtegnpgagboccpaaMPureW2
import Derived.Test.YtegnpgagboccpaaMPureW3
-- IMPORTS
import Derived.Test.YtegnpgagboccpaaMx1
import Derived.Test.YtegnpgagboccpaaMx2
import Derived.Test.YtegnpgagboccpaaMx5
import Derived.Test.YtegnpgagboccpaaMx6
import Derived.Test.YtegnpgagboccpaaMx7
namespace Go.Proofs.Ytegnpgagboccpaa.Pure
open Go.RowKit Go.Proofs.Ytegnpgagboccpaa.M Go.Proofs.YtegnpgagboccpaaW.PrintWords Go.Proofs.YtegnpgagboccpaaW.PrintLast Go.Proofs.YtegnpgagboccpaaW.PrintMore
set_option linter.unusedVariables false
set_option linter.unusedSimpArgs false
set_option maxRecDepth 100000

theorem out_of (a : Int) (b : Bool) (h : ¬ (1 ≤ a ∧ a ≤ 2000)) : laws_FnExactLeastWeights.f 60 a b = some true := by
  have h1 : spec_LeastWeights.f 60 a b = some ([], 2) := by
    unfold spec_LeastWeights.f spec_l00In.f
    by_cases c : a ≥ 1
    · rw [if_pos c, decide_eq_false (show ¬ a ≤ 2000 by omega)]; rfl
    · rw [if_neg c]; rfl
  have h2 : ∀ k, impl_LeastWeights.f k a b = some ([], 2) := by
    intro k
    unfold impl_LeastWeights.f impl_within.f
    by_cases c : 1 ≤ a
    · rw [if_pos c, decide_eq_false (show ¬ a ≤ 2000 by omega)]; rfl
    · rw [if_neg c]; rfl
  unfold laws_FnExactLeastWeights.f
  rw [h1]
  simp only [Option.bind_some]
  rw [h2]
  simp only [Option.bind_some]
  rw [show laws_eqWeights.f 60 [] [] = some true by decide +kernel]
  simp only [Option.bind_some, if_true, laws_FnExactLeastWeights.j0]
  rw [show ((2 : Int) != 2) = false from rfl, if_neg (by simp), show laws_markWeights.f 59 [] 1 = some (1, []) by decide +kernel]
  simp only [Option.bind_some]
  rw [show laws_heldWeights.f 59 [] 1 = some 1 by decide +kernel]
  simp only [Option.bind_some]
  rw [if_neg (by omega), if_pos trivial, h2]
  simp only [Option.bind_some]
  rw [show laws_eqWeights.f 59 [] [] = some true by decide +kernel]
  simp only [Option.bind_some, if_true, laws_FnExactLeastWeights.j1]
  rw [show ((2 : Int) != 2) = false from rfl, if_neg (by simp), show laws_heldWeights.f 58 [] 1 = some 1 by decide +kernel]
  simp only [Option.bind_some]
  rw [if_neg (by omega), if_pos trivial]
theorem FnExactLeastWeights (x0_0 : Int) (x1_0 : Bool) (w0_0 : (fun x : Int => (Lit.int .i64 x).wf = true) x0_0) (w1_0 : (fun _ : Bool => True) x1_0) : ∃ k, laws_FnExactLeastWeights.f k x0_0 x1_0 = some true := by
  refine ⟨60, ?_⟩
  by_cases h : 1 ≤ x0_0 ∧ x0_0 ≤ 2000
  · obtain ⟨n, rfl⟩ : ∃ n : Nat, x0_0 = (n : Int) := ⟨x0_0.toNat, by omega⟩
    cases x1_0 with
    | false =>
      by_cases h1 : n < 251
      · exact chk_all 1 false 250 w_1_false n (by omega) (by omega)
      by_cases h251 : n < 501
      · exact chk_all 251 false 250 w_251_false n (by omega) (by omega)
      by_cases h501 : n < 751
      · exact chk_all 501 false 250 w_501_false n (by omega) (by omega)
      by_cases h751 : n < 1001
      · exact chk_all 751 false 250 w_751_false n (by omega) (by omega)
      by_cases h1001 : n < 1251
      · exact chk_all 1001 false 250 w_1001_false n (by omega) (by omega)
      by_cases h1251 : n < 1501
      · exact chk_all 1251 false 250 w_1251_false n (by omega) (by omega)
      by_cases h1501 : n < 1751
      · exact chk_all 1501 false 250 w_1501_false n (by omega) (by omega)
      by_cases h1751 : n < 2001
      · exact chk_all 1751 false 250 w_1751_false n (by omega) (by omega)
      omega
    | true =>
      by_cases h1 : n < 251
      · exact chk_all 1 true 250 w_1_true n (by omega) (by omega)
      by_cases h251 : n < 501
      · exact chk_all 251 true 250 w_251_true n (by omega) (by omega)
      by_cases h501 : n < 751
      · exact chk_all 501 true 250 w_501_true n (by omega) (by omega)
      by_cases h751 : n < 1001
      · exact chk_all 751 true 250 w_751_true n (by omega) (by omega)
      by_cases h1001 : n < 1251
      · exact chk_all 1001 true 250 w_1001_true n (by omega) (by omega)
      by_cases h1251 : n < 1501
      · exact chk_all 1251 true 250 w_1251_true n (by omega) (by omega)
      by_cases h1501 : n < 1751
      · exact chk_all 1501 true 250 w_1501_true n (by omega) (by omega)
      by_cases h1751 : n < 2001
      · exact chk_all 1751 true 250 w_1751_true n (by omega) (by omega)
      omega
  · exact out_of x0_0 x1_0 h

end Go.Proofs.Ytegnpgagboccpaa.Pure
