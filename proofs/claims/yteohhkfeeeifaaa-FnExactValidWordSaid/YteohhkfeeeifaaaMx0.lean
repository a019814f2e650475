-- By this seat's own program over the kit's printer (arrays, functions told by hand); nothing of it is trusted: the kernel checks it.
import Derived.Test.YteohhkfeeeifaaaProg
import Derived.Below
import Derived.Deep.Draws
import Derived.Deep.AppendLies
import Derived.Maps.AppendAt
import Derived.OwnWalk
import Derived.Laws.BytesArg
import Derived.Laws.MakeOwn
import Derived.Laws.OwnMore
import Derived.Deep.OwnRows
import Derived.Tactics
import Derived.Lib.ConvBytes
import Derived.Laws.Slices
import Derived.WalkKit
import Derived.KernelRfl
import Derived.RowKit3
import Derived.Deep.LoopGhost
import Derived.Deep.QuietTactic
import Derived.BigQuiet
import Derived.WideLaws
import Derived.Deep.DeepCutAuto
import Derived.Deep.CutBlock
import Derived.Deep.RegionHeld3
import Derived.Laws.Rows
import Derived.Lib.AppendStr
import Derived.ArgAppend
import Derived.Laws.IdiomCopy
import Derived.OrdersHeld
import Derived.Laws.BitsLemmas
import Derived.RowKit
import Derived.Test.YteohhkfeeeifaaaWWords
import Derived.Test.YteohhkfeeeifaaaWLast
import Derived.Test.YteohhkfeeeifaaaWTab
import Derived.Test.YteohhkfeeeifaaaWFour
import Derived.Test.YteohhkfeeeifaaaWQPut
import Derived.Test.YteohhkfeeeifaaaWApart
import Derived.Test.YteohhkfeeeifaaaWArr
import Derived.Test.YteohhkfeeeifaaaWZeros
import Derived.Test.YteohhkfeeeifaaaWFoot
import Derived.Test.YteohhkfeeeifaaaWKept
import Derived.Test.YteohhkfeeeifaaaWShare
import Derived.Test.YteohhkfeeeifaaaWN
import Derived.Test.YteohhkfeeeifaaaWFootNe
import Derived.Test.YteohhkfeeeifaaaWAt
import Derived.Test.YteohhkfeeeifaaaWEqStruct
import Derived.Test.YteohhkfeeeifaaaWRepsOne
import Derived.Test.YteohhkfeeeifaaaWInv
import Derived.Test.YteohhkfeeeifaaaWInvWords
import Derived.Test.YteohhkfeeeifaaaWGuard
import Derived.Test.YteohhkfeeeifaaaWNEv
import Derived.Test.YteohhkfeeeifaaaWMore
import Derived.Test.YteohhkfeeeifaaaMWords
namespace Go.Proofs.Yteohhkfeeeifaaa.M
open Go.RowKit Go.Proofs.YteohhkfeeeifaaaW.PrintWords Go.Proofs.YteohhkfeeeifaaaW.PrintLast Go.Proofs.YteohhkfeeeifaaaW.PrintMore
attribute [local go_sem] max2_int min2_int max_two min_two max_three min_three max_four min_four   -- for this text's walks alone
set_option linter.unusedVariables false
set_option linter.unusedSimpArgs false



def errW : Option Int → Value
  | none => .nilIface
  | some c => .iface 0 (.int .i64 c)
theorem errW_none : errW none = .nilIface := rfl
theorem errW_some (c : Int) : errW (some c) = .iface 0 (.int .i64 c) := rfl

-- the values' own types

end Go.Proofs.Yteohhkfeeeifaaa.M
