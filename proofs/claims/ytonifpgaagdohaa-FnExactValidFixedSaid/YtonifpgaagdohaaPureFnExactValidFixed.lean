/- The program's ValidFixed returns what the reference's returns. Conditions: none. -/
import Derived.Test.YtonifpgaagdohaaMPureV
-- IMPORTS
import Derived.Test.YtonifpgaagdohaaMx0
import Derived.Test.YtonifpgaagdohaaMx10
import Derived.Test.YtonifpgaagdohaaMx12
namespace Go.Proofs.Ytonifpgaagdohaa.Pure
open Go.RowKit Go.Proofs.Ytonifpgaagdohaa.M Go.Proofs.YtonifpgaagdohaaW.PrintWords Go.Proofs.YtonifpgaagdohaaW.PrintLast Go.Proofs.YtonifpgaagdohaaW.PrintMore
set_option linter.unusedVariables false
set_option linter.unusedSimpArgs false

theorem FnExactValidFixed (x0_0 : Int) (x0_1 : Int) (x0_2 : (List S37)) (w0_0 : (fun x : Int => (Lit.int .i8 x).wf = true) x0_0) (w0_1 : (fun x : Int => (Lit.int .i8 x).wf = true) x0_1) (w0_2 : (fun xs : List S37 => xs.length ≤ maxLen ∧ ∀ x ∈ xs, (fun x : S37 => (fun x : Int => (Lit.int .i8 x).wf = true) x.f0 ∧ (fun x : Int => (Lit.int .i8 x).wf = true) x.f1 ∧ (fun x : Int => (Lit.int .i8 x).wf = true) x.f2 ∧ (fun x : Int => (Lit.int .i8 x).wf = true) x.f3) x) x0_2) : ∃ k, laws_FnExactValidFixed.f k x0_0 x0_1 x0_2 = some true := by
  refine ⟨x0_2.length + 10, ?_⟩
  have hk : ∃ k, k = x0_2.length + 10 := ⟨_, rfl⟩
  obtain ⟨k, hk⟩ := hk
  rw [← hk]
  unfold laws_FnExactValidFixed.f
  rw [szFixed_val x0_0 x0_1 x0_2 w0_2.1 1048576 (by omega) (by omega)]
  simp only [Option.bind_some]
  by_cases e0 : (1048576 : Int) - (x0_2.length : Int) < 0
  · rw [if_pos e0]; rfl
  · rw [if_neg e0, if_neg e0, toFixed_val x0_0 x0_1 x0_2 (by omega) (by omega)]
    simp only [Option.bind_some, spec_ValidFixed.f]
    rw [valid_spec x0_0 x0_1 (x0_2.map cv) (wn8 w0_0) (wn8 w0_1) (by simp; omega) (by simp; omega), valid_impl x0_0 x0_1 (x0_2.map cv) (wn8 w0_0) (wn8 w0_1) (by simp; omega) (by simp; omega)]
    simp only [Option.bind_some]
    rw [eqFixed_self x0_0 x0_1 (x0_2.map cv) (by simp; omega) (by simp; omega)]
    simp

end Go.Proofs.Ytonifpgaagdohaa.Pure
