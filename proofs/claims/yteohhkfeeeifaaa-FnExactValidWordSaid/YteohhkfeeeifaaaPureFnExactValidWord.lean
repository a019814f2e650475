/- The program's ValidWord returns what the reference's returns. Conditions: none. -/
import Derived.Test.YteohhkfeeeifaaaMPureW
-- IMPORTS
import Derived.Test.YteohhkfeeeifaaaMx3
import Derived.Test.YteohhkfeeeifaaaMx4
namespace Go.Proofs.Yteohhkfeeeifaaa.Pure
open Go.RowKit Go.Proofs.Yteohhkfeeeifaaa.M Go.Proofs.YteohhkfeeeifaaaW.PrintWords Go.Proofs.YteohhkfeeeifaaaW.PrintLast Go.Proofs.YteohhkfeeeifaaaW.PrintMore
set_option linter.unusedVariables false
set_option linter.unusedSimpArgs false

theorem FnExactValidWord (x0_0 : Int) (x1_0 : Int) (x1_1 : Int) (x1_2 : Int) (x1_3 : Int) (w0_0 : (fun x : Int => (Lit.int .i64 x).wf = true) x0_0) (w1_0 : (fun x : Int => (Lit.int .i8 x).wf = true) x1_0) (w1_1 : (fun x : Int => (Lit.int .i8 x).wf = true) x1_1) (w1_2 : (fun x : Int => (Lit.int .i8 x).wf = true) x1_2) (w1_3 : (fun x : Int => (Lit.int .i8 x).wf = true) x1_3) : ∃ k, laws_FnExactValidWord.f k x0_0 x1_0 x1_1 x1_2 x1_3 = some true := by
  refine ⟨10, ?_⟩
  unfold laws_FnExactValidWord.f spec_ValidWord.f
  simp only [toWord_val (show 5 ≤ 10 by omega), Option.bind_some, word_spec (show 5 ≤ 10 by omega), word_impl (show 5 ≤ 10 by omega)]
  simp

end Go.Proofs.Yteohhkfeeeifaaa.Pure
