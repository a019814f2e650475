/- LeastWeights: the law carried out at 1000 numbers. -/
import Derived.Test.YtegnpgagboccpaaMPureW
namespace Go.Proofs.Ytegnpgagboccpaa.Pure
open Go.RowKit Go.Proofs.Ytegnpgagboccpaa.M Go.Proofs.YtegnpgagboccpaaW.PrintWords Go.Proofs.YtegnpgagboccpaaW.PrintLast Go.Proofs.YtegnpgagboccpaaW.PrintMore
set_option linter.unusedVariables false
set_option linter.unusedSimpArgs false
set_option maxRecDepth 100000

theorem w_1_false : chk 1 false 250 = true := by decide +kernel
theorem w_251_false : chk 251 false 250 = true := by decide +kernel
theorem w_501_false : chk 501 false 250 = true := by decide +kernel
theorem w_751_false : chk 751 false 250 = true := by decide +kernel
end Go.Proofs.Ytegnpgagboccpaa.Pure
