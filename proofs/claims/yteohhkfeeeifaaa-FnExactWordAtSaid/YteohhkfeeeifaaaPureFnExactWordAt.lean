/- The program's WordAt returns what the reference's returns. Conditions: none. -/
import Derived.Test.YteohhkfeeeifaaaMPureW
-- IMPORTS
import Derived.Test.YteohhkfeeeifaaaMx4
import Derived.Test.YteohhkfeeeifaaaMx5
namespace Go.Proofs.Yteohhkfeeeifaaa.Pure
open Go.RowKit Go.Proofs.Yteohhkfeeeifaaa.M Go.Proofs.YteohhkfeeeifaaaW.PrintWords Go.Proofs.YteohhkfeeeifaaaW.PrintLast Go.Proofs.YteohhkfeeeifaaaW.PrintMore
set_option linter.unusedVariables false
set_option linter.unusedSimpArgs false

theorem at_all : ∀ (l : Fin 4) (n : Fin 81), laws_FnExactWordAt.f 20 ((l.val : Int) + 1) (n.val : Int) = some true := by decide +kernel
theorem pow_all : ∀ (l : Fin 4), spec_l03Power.f 20 ((l.val : Int) + 1) = some (3 ^ (l.val + 1)) ∧ impl_power.f 20 ((l.val : Int) + 1) = some (3 ^ (l.val + 1)) := by decide +kernel

theorem FnExactWordAt (x0_0 : Int) (x1_0 : Int) (w0_0 : (fun x : Int => (Lit.int .i64 x).wf = true) x0_0) (w1_0 : (fun x : Int => (Lit.int .i64 x).wf = true) x1_0) : ∃ k, laws_FnExactWordAt.f k x0_0 x1_0 = some true := by
  refine ⟨20, ?_⟩
  by_cases hl : 1 ≤ x0_0 ∧ x0_0 ≤ 4
  · by_cases hn : 0 ≤ x1_0 ∧ x1_0 < 81
    · have := at_all ⟨(x0_0 - 1).toNat, by omega⟩ ⟨x1_0.toNat, by omega⟩
      rwa [show (((x0_0 - 1).toNat : Nat) : Int) + 1 = x0_0 by omega, show ((x1_0.toNat : Nat) : Int) = x1_0 by omega] at this
    · obtain ⟨p1, p2⟩ := pow_all ⟨(x0_0 - 1).toNat, by omega⟩
      have e : (((x0_0 - 1).toNat : Nat) : Int) + 1 = x0_0 := by omega
      simp only [e] at p1 p2
      have hp : (3 : Int) ≤ 3 ^ ((x0_0 - 1).toNat + 1) ∧ (3 : Int) ^ ((x0_0 - 1).toNat + 1) ≤ 81 := by
        have : (x0_0 - 1).toNat = 0 ∨ (x0_0 - 1).toNat = 1 ∨ (x0_0 - 1).toNat = 2 ∨ (x0_0 - 1).toNat = 3 := by omega
        rcases this with h | h | h | h <;> rw [h] <;> decide
      generalize (3 : Int) ^ ((x0_0 - 1).toNat + 1) = q at p1 p2 hp
      have ew : wrap64 (q - 1) = q - 1 := by unfold wrap64; omega
      have hs : spec_WordAt.f 20 x0_0 x1_0 = some (0, 0, 0, 0, 2) := by
        unfold spec_WordAt.f
        simp only [letters_spec, Option.bind_some, decide_eq_true hl, if_true, p1, ew, in_val, decide_eq_false (show ¬ (0 ≤ x1_0 ∧ x1_0 ≤ q - 1) by omega)]
        rfl
      have hi : impl_WordAt.f 20 x0_0 x1_0 = some (0, 0, 0, 0, 2) := by
        unfold impl_WordAt.f
        simp only [letters_impl, Option.bind_some, decide_eq_true hl, if_true, p2, ew, within_val, decide_eq_false (show ¬ (0 ≤ x1_0 ∧ x1_0 ≤ q - 1) by omega)]
        rfl
      unfold laws_FnExactWordAt.f
      simp only [hs, hi, Option.bind_some, eqWord_self (show 5 ≤ 20 by omega)]
      simp
  · have hs : spec_WordAt.f 20 x0_0 x1_0 = some (0, 0, 0, 0, 2) := by
      unfold spec_WordAt.f
      simp only [letters_spec, Option.bind_some, decide_eq_false hl]
      rfl
    have hi : impl_WordAt.f 20 x0_0 x1_0 = some (0, 0, 0, 0, 2) := by
      unfold impl_WordAt.f
      simp only [letters_impl, Option.bind_some, decide_eq_false hl]
      rfl
    unfold laws_FnExactWordAt.f
    simp only [hs, hi, Option.bind_some, eqWord_self (show 5 ≤ 20 by omega)]
    simp

end Go.Proofs.Yteohhkfeeeifaaa.Pure
