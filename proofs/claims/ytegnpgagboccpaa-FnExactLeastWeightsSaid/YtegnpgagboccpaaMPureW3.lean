/- LeastWeights: the law carried out at 1000 numbers. -/
import Derived.Test.YtegnpgagboccpaaMPureW
namespace Go.Proofs.Ytegnpgagboccpaa.Pure
open Go.RowKit Go.Proofs.Ytegnpgagboccpaa.M Go.Proofs.YtegnpgagboccpaaW.PrintWords Go.Proofs.YtegnpgagboccpaaW.PrintLast Go.Proofs.YtegnpgagboccpaaW.PrintMore
set_option linter.unusedVariables false
set_option linter.unusedSimpArgs false
set_option maxRecDepth 100000

theorem w_1001_true : chk 1001 true 250 = true := by decide +kernel
theorem w_1251_true : chk 1251 true 250 = true := by decide +kernel
theorem w_1501_true : chk 1501 true 250 = true := by decide +kernel
theorem w_1751_true : chk 1751 true 250 = true := by decide +kernel
end Go.Proofs.Ytegnpgagboccpaa.Pure
