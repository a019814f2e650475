/- The program's ValidPlan returns what the reference's returns, and leaves its arguments as they were. Conditions: none. -/
import Derived.Test.YtcghglembmohcaaMPureP
-- IMPORTS
import Derived.Test.YtcghglembmohcaaMx0
import Derived.Test.YtcghglembmohcaaMx7
import Derived.Test.YtcghglembmohcaaMx9
namespace Go.Proofs.Ytcghglembmohcaa.Pure
open Go.RowKit Go.Proofs.Ytcghglembmohcaa.M Go.Proofs.YtcghglembmohcaaW.PrintWords Go.Proofs.YtcghglembmohcaaW.PrintLast Go.Proofs.YtcghglembmohcaaW.PrintMore
set_option linter.unusedVariables false
set_option linter.unusedSimpArgs false

theorem FnExactValidPlan (x0_0 : Int) (x0_1 : Int) (x0_2 : Bool) (x0_3 : Bool) (x1_0 : (List S61)) (w0_0 : (fun x : Int => (Lit.int .i8 x).wf = true) x0_0) (w0_1 : (fun x : Int => (Lit.int .i8 x).wf = true) x0_1) (w1_0 : (fun xs : List S61 => xs.length ≤ maxLen ∧ ∀ x ∈ xs, (fun x : S61 => (fun x : S25 => (fun x : Int => (Lit.int .i8 x).wf = true) x.f0 ∧ (fun x : Int => (Lit.int .i8 x).wf = true) x.f1 ∧ (fun x : Int => (Lit.int .i8 x).wf = true) x.f2 ∧ (fun x : Int => (Lit.int .i8 x).wf = true) x.f3 ∧ (fun x : Int => (Lit.int .i8 x).wf = true) x.f4 ∧ (fun x : Int => (Lit.int .i8 x).wf = true) x.f5 ∧ (fun x : Int => (Lit.int .i8 x).wf = true) x.f6 ∧ (fun x : Int => (Lit.int .i8 x).wf = true) x.f7 ∧ (fun x : Int => (Lit.int .i8 x).wf = true) x.f8 ∧ (fun x : Int => (Lit.int .i8 x).wf = true) x.f9 ∧ (fun x : Int => (Lit.int .i8 x).wf = true) x.f10 ∧ (fun x : Int => (Lit.int .i8 x).wf = true) x.f11 ∧ (fun x : Int => (Lit.int .i8 x).wf = true) x.f12 ∧ (fun x : Int => (Lit.int .i8 x).wf = true) x.f13) x.f0 ∧ (fun x : S56 => (fun x : Int => (Lit.int .i16 x).wf = true) x.f0 ∧ (fun x : Int => (Lit.int .i16 x).wf = true) x.f1 ∧ (fun x : Int => (Lit.int .i16 x).wf = true) x.f2) x.f1 ∧ (fun x : S42 => (fun x : Int => (Lit.int .i8 x).wf = true) x.f0 ∧ (fun _ : Bool => True) x.f1) x.f2 ∧ (fun _ : Bool => True) x.f3) x) x1_0) : ∃ k, laws_FnExactValidPlan.f k x0_0 x0_1 x0_2 x0_3 x1_0 = some true := by
  obtain ⟨k, hk⟩ : ∃ k, k = 6 * x1_0.length + 200 := ⟨_, rfl⟩
  refine ⟨k, ?_⟩
  unfold laws_FnExactValidPlan.f laws_toTask.f
  rw [szNodeS_val x1_0 w1_0.1 1048576 (by omega) (by omega)]
  simp only [Option.bind_some]
  by_cases e0 : (1048576 : Int) - (x1_0.length : Int) < 0
  · rw [if_pos e0]; rfl
  · rw [if_neg e0, if_neg e0, toNodeS_val x1_0 (by omega) (by omega)]
    simp only [Option.bind_some]
    obtain ⟨r, hs, hi⟩ := valid_both x0_0 x0_1 x0_2 x0_3 w0_0 w0_1 (x1_0.map cv) k (by simp; omega)
    rw [hs]
    simp only [Option.bind_some]
    rw [hi]
    simp only [Option.bind_some]
    rw [if_neg (by simp), eqNodeS_self (x1_0.map cv) (by simp; omega) (by simp; omega)]
    simp

end Go.Proofs.Ytcghglembmohcaa.Pure
