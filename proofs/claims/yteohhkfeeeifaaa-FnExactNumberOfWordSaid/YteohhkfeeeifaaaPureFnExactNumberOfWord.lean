/- The program's NumberOfWord returns what the reference's returns. Conditions: none. -/
import Derived.Test.YteohhkfeeeifaaaMPureW
-- IMPORTS
import Derived.Test.YteohhkfeeeifaaaMx4
import Derived.Test.YteohhkfeeeifaaaMx5
import Derived.Test.YteohhkfeeeifaaaMx6
namespace Go.Proofs.Yteohhkfeeeifaaa.Pure
open Go.RowKit Go.Proofs.Yteohhkfeeeifaaa.M Go.Proofs.YteohhkfeeeifaaaW.PrintWords Go.Proofs.YteohhkfeeeifaaaW.PrintLast Go.Proofs.YteohhkfeeeifaaaW.PrintMore
set_option linter.unusedVariables false
set_option linter.unusedSimpArgs false

theorem next_all : ∀ (l : Fin 4) (a b c d : Fin 3), okW ((l.val : Int) + 1) ((a.val : Int) - 1) ((b.val : Int) - 1) ((c.val : Int) - 1) ((d.val : Int) - 1) = true → laws_FnExactNumberOfWord.f 20 ((l.val : Int) + 1) ((a.val : Int) - 1) ((b.val : Int) - 1) ((c.val : Int) - 1) ((d.val : Int) - 1) = some true := by decide +kernel

theorem okW_bd {l a b c d : Int} (h : okW l a b c d = true) : (-1 ≤ a ∧ a ≤ 1) ∧ (-1 ≤ b ∧ b ≤ 1) ∧ (-1 ≤ c ∧ c ≤ 1) ∧ (-1 ≤ d ∧ d ≤ 1) := by
  simp only [okW, gW, Bool.and_eq_true, decide_eq_true_eq] at h
  omega

theorem FnExactNumberOfWord (x0_0 : Int) (x1_0 : Int) (x1_1 : Int) (x1_2 : Int) (x1_3 : Int) (w0_0 : (fun x : Int => (Lit.int .i64 x).wf = true) x0_0) (w1_0 : (fun x : Int => (Lit.int .i8 x).wf = true) x1_0) (w1_1 : (fun x : Int => (Lit.int .i8 x).wf = true) x1_1) (w1_2 : (fun x : Int => (Lit.int .i8 x).wf = true) x1_2) (w1_3 : (fun x : Int => (Lit.int .i8 x).wf = true) x1_3) : ∃ k, laws_FnExactNumberOfWord.f k x0_0 x1_0 x1_1 x1_2 x1_3 = some true := by
  refine ⟨20, ?_⟩
  by_cases hl : 1 ≤ x0_0 ∧ x0_0 ≤ 4
  · by_cases hw : okW x0_0 x1_0 x1_1 x1_2 x1_3 = true
    · obtain ⟨h0, h1, h2, h3⟩ := okW_bd hw
      have := next_all ⟨(x0_0 - 1).toNat, by omega⟩ ⟨(x1_0 + 1).toNat, by omega⟩ ⟨(x1_1 + 1).toNat, by omega⟩ ⟨(x1_2 + 1).toNat, by omega⟩ ⟨(x1_3 + 1).toNat, by omega⟩
      simp only [show (((x0_0 - 1).toNat : Nat) : Int) + 1 = x0_0 by omega, show (((x1_0 + 1).toNat : Nat) : Int) - 1 = x1_0 by omega, show (((x1_1 + 1).toNat : Nat) : Int) - 1 = x1_1 by omega, show (((x1_2 + 1).toNat : Nat) : Int) - 1 = x1_2 by omega, show (((x1_3 + 1).toNat : Nat) : Int) - 1 = x1_3 by omega] at this
      exact this hw
    · have hw' : okW x0_0 x1_0 x1_1 x1_2 x1_3 = false := by simpa using hw
      have hs : spec_NumberOfWord.f 20 x0_0 x1_0 x1_1 x1_2 x1_3 = some (0, 1) := by
        unfold spec_NumberOfWord.f spec_l04Asked.f
        simp only [letters_spec, Option.bind_some, decide_eq_true hl, if_true, word_spec (show 5 ≤ 20 by omega), hw', Bool.false_and]
        rfl
      have hi : impl_NumberOfWord.f 20 x0_0 x1_0 x1_1 x1_2 x1_3 = some (0, 1) := by
        unfold impl_NumberOfWord.f impl_wordCode.f impl_unless.f
        simp only [letters_impl, Option.bind_some, decide_eq_true hl, if_true, word_impl (show 5 ≤ 20 by omega), hw', Bool.false_and]
        rfl
      unfold laws_FnExactNumberOfWord.f
      simp only [toWord_val (show 5 ≤ 20 by omega), hs, hi, Option.bind_some]
      simp
  · have hs : spec_NumberOfWord.f 20 x0_0 x1_0 x1_1 x1_2 x1_3 = some (0, 2) := by
      unfold spec_NumberOfWord.f spec_l04Asked.f
      simp only [letters_spec, Option.bind_some, decide_eq_false hl]
      rfl
    have hi : impl_NumberOfWord.f 20 x0_0 x1_0 x1_1 x1_2 x1_3 = some (0, 2) := by
      unfold impl_NumberOfWord.f impl_wordCode.f
      simp only [letters_impl, Option.bind_some, decide_eq_false hl]
      rfl
    unfold laws_FnExactNumberOfWord.f
    simp only [toWord_val (show 5 ≤ 20 by omega), hs, hi, Option.bind_some]
    simp

end Go.Proofs.Yteohhkfeeeifaaa.Pure
