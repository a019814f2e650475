/- The program's constants are those that the reference's document tells. No conditions. -/
import Derived.Test.YtgkefkajnbpijaaPFnExactConstantsx1
namespace Go.Proofs.Ytgkefkajnbpijaa.Pure
open Go.RowKit Go.Proofs.Ytgkefkajnbpijaa.PFnExactConstants Go.Proofs.YtgkefkajnbpijaaW.PrintWords Go.Proofs.YtgkefkajnbpijaaW.PrintLast

theorem FnExactConstants : laws_FnExactConstants.Pure := rfl

end Go.Proofs.Ytgkefkajnbpijaa.Pure
