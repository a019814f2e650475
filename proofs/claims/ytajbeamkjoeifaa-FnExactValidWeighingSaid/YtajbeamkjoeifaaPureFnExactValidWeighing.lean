/- The program's ValidWeighing returns what the reference's returns. Conditions: none. -/
import Derived.Test.YtajbeamkjoeifaaMPureC
-- IMPORTS
import Derived.Test.YtajbeamkjoeifaaMx4
import Derived.Test.YtajbeamkjoeifaaMx7
namespace Go.Proofs.Ytajbeamkjoeifaa.Pure
open Go.RowKit Go.Proofs.Ytajbeamkjoeifaa.M Go.Proofs.YtajbeamkjoeifaaW.PrintWords Go.Proofs.YtajbeamkjoeifaaW.PrintLast Go.Proofs.YtajbeamkjoeifaaW.PrintMore
set_option linter.unusedVariables false
set_option linter.unusedSimpArgs false

theorem FnExactValidWeighing (x0_0 : Int) (x0_1 : Int) (x0_2 : Bool) (x0_3 : Bool) (x1_0 : Int) (x1_1 : Int) (x1_2 : Int) (x1_3 : Int) (x1_4 : Int) (x1_5 : Int) (x1_6 : Int) (x1_7 : Int) (x1_8 : Int) (x1_9 : Int) (x1_10 : Int) (x1_11 : Int) (x1_12 : Int) (x1_13 : Int) (w0_0 : (fun x : Int => (Lit.int .i8 x).wf = true) x0_0) (w0_1 : (fun x : Int => (Lit.int .i8 x).wf = true) x0_1) (w1_0 : (fun x : Int => (Lit.int .i8 x).wf = true) x1_0) (w1_1 : (fun x : Int => (Lit.int .i8 x).wf = true) x1_1) (w1_2 : (fun x : Int => (Lit.int .i8 x).wf = true) x1_2) (w1_3 : (fun x : Int => (Lit.int .i8 x).wf = true) x1_3) (w1_4 : (fun x : Int => (Lit.int .i8 x).wf = true) x1_4) (w1_5 : (fun x : Int => (Lit.int .i8 x).wf = true) x1_5) (w1_6 : (fun x : Int => (Lit.int .i8 x).wf = true) x1_6) (w1_7 : (fun x : Int => (Lit.int .i8 x).wf = true) x1_7) (w1_8 : (fun x : Int => (Lit.int .i8 x).wf = true) x1_8) (w1_9 : (fun x : Int => (Lit.int .i8 x).wf = true) x1_9) (w1_10 : (fun x : Int => (Lit.int .i8 x).wf = true) x1_10) (w1_11 : (fun x : Int => (Lit.int .i8 x).wf = true) x1_11) (w1_12 : (fun x : Int => (Lit.int .i8 x).wf = true) x1_12) (w1_13 : (fun x : Int => (Lit.int .i8 x).wf = true) x1_13) : ∃ k, laws_FnExactValidWeighing.f k x0_0 x0_1 x0_2 x0_3 x1_0 x1_1 x1_2 x1_3 x1_4 x1_5 x1_6 x1_7 x1_8 x1_9 x1_10 x1_11 x1_12 x1_13 = some true := by
  refine ⟨20, ?_⟩
  obtain ⟨r, hs, hi, _⟩ := validW_same (k := 20) (by omega) x0_0 x0_1 x0_2 x0_3 w0_0 w0_1 x1_0 x1_1 x1_2 x1_3 x1_4 x1_5 x1_6 x1_7 x1_8 x1_9 x1_10 x1_11 x1_12 x1_13
  unfold laws_FnExactValidWeighing.f laws_toTask.f
  simp only [toW_val (show 15 ≤ 20 by omega), Option.bind_some]
  rw [hs, hi]
  simp

end Go.Proofs.Ytajbeamkjoeifaa.Pure
