-- By this seat's own program over the kit's printer (arrays, functions told by hand); nothing of it is trusted: the kernel checks it.
import Derived.Test.YtajbeamkjoeifaaProg
import Derived.Below
import Derived.Deep.Draws
import Derived.Deep.AppendLies
import Derived.Maps.AppendAt
import Derived.OwnWalk
import Derived.Laws.BytesArg
import Derived.Laws.MakeOwn
import Derived.Laws.OwnMore
import Derived.Deep.OwnRows
import Derived.Tactics
import Derived.Lib.ConvBytes
import Derived.Laws.Slices
import Derived.WalkKit
import Derived.KernelRfl
import Derived.RowKit3
import Derived.Deep.LoopGhost
import Derived.Deep.QuietTactic
import Derived.BigQuiet
import Derived.WideLaws
import Derived.Deep.DeepCutAuto
import Derived.Deep.CutBlock
import Derived.Deep.RegionHeld3
import Derived.Laws.Rows
import Derived.Lib.AppendStr
import Derived.ArgAppend
import Derived.Laws.IdiomCopy
import Derived.OrdersHeld
import Derived.Laws.BitsLemmas
import Derived.RowKit
import Derived.Test.YtajbeamkjoeifaaWWords
import Derived.Test.YtajbeamkjoeifaaWLast
import Derived.Test.YtajbeamkjoeifaaWTab
import Derived.Test.YtajbeamkjoeifaaWFour
import Derived.Test.YtajbeamkjoeifaaWQPut
import Derived.Test.YtajbeamkjoeifaaWApart
import Derived.Test.YtajbeamkjoeifaaWArr
import Derived.Test.YtajbeamkjoeifaaWZeros
import Derived.Test.YtajbeamkjoeifaaWFoot
import Derived.Test.YtajbeamkjoeifaaWKept
import Derived.Test.YtajbeamkjoeifaaWShare
import Derived.Test.YtajbeamkjoeifaaWN
import Derived.Test.YtajbeamkjoeifaaWFootNe
import Derived.Test.YtajbeamkjoeifaaWAt
import Derived.Test.YtajbeamkjoeifaaWEqStruct
import Derived.Test.YtajbeamkjoeifaaWRepsOne
import Derived.Test.YtajbeamkjoeifaaWInv
import Derived.Test.YtajbeamkjoeifaaWInvWords
import Derived.Test.YtajbeamkjoeifaaWGuard
import Derived.Test.YtajbeamkjoeifaaWNEv
import Derived.Test.YtajbeamkjoeifaaWMore
import Derived.Test.YtajbeamkjoeifaaMWords
namespace Go.Proofs.Ytajbeamkjoeifaa.M
open Go.RowKit Go.Proofs.YtajbeamkjoeifaaW.PrintWords Go.Proofs.YtajbeamkjoeifaaW.PrintLast Go.Proofs.YtajbeamkjoeifaaW.PrintMore
attribute [local go_sem] max2_int min2_int max_two min_two max_three min_three max_four min_four   -- for this text's walks alone
set_option linter.unusedVariables false
set_option linter.unusedSimpArgs false



def errW : Option Int → Value
 | none => .nilIface
 | some c => .iface 0 (.int .i64 c)
theorem errW_none : errW none = .nilIface := rfl
theorem errW_some (c : Int) : errW (some c) = .iface 0 (.int .i64 c) := rfl

theorem info5 : (Try.prog.info? 5).map (fun i => (i.zero, i.size, i.bytes)) = some (some (.int .u8 0), 1, 1) := by kernel_rfl
theorem info22 : (Try.prog.info? 22).map (fun i => (i.zero, i.size, i.bytes)) = some (some (.int .i8 0), 1, 1) := by kernel_rfl
-- the values' own types

end Go.Proofs.Ytajbeamkjoeifaa.M
