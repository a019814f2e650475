/- The program's OppositeWord returns what the reference's returns. Conditions: none. -/
import Derived.Test.YteohhkfeeeifaaaMPureW
-- IMPORTS
import Derived.Test.YteohhkfeeeifaaaMx1
import Derived.Test.YteohhkfeeeifaaaMx2
namespace Go.Proofs.Yteohhkfeeeifaaa.Pure
open Go.RowKit Go.Proofs.Yteohhkfeeeifaaa.M Go.Proofs.YteohhkfeeeifaaaW.PrintWords Go.Proofs.YteohhkfeeeifaaaW.PrintLast Go.Proofs.YteohhkfeeeifaaaW.PrintMore
set_option linter.unusedVariables false
set_option linter.unusedSimpArgs false

theorem FnExactOppositeWord (x0_0 : Int) (x0_1 : Int) (x0_2 : Int) (x0_3 : Int) (w0_0 : (fun x : Int => (Lit.int .i8 x).wf = true) x0_0) (w0_1 : (fun x : Int => (Lit.int .i8 x).wf = true) x0_1) (w0_2 : (fun x : Int => (Lit.int .i8 x).wf = true) x0_2) (w0_3 : (fun x : Int => (Lit.int .i8 x).wf = true) x0_3) : ∃ k, laws_FnExactOppositeWord.f k x0_0 x0_1 x0_2 x0_3 = some true := by
  refine ⟨10, ?_⟩
  unfold laws_FnExactOppositeWord.f spec_OppositeWord.f
  simp only [toWord_val (show 5 ≤ 10 by omega), Option.bind_some, opp_spec (show 5 ≤ 10 by omega), opp_impl (show 5 ≤ 10 by omega), eqWord_self (show 5 ≤ 10 by omega)]
  simp

end Go.Proofs.Yteohhkfeeeifaaa.Pure
