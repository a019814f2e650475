-- PRINTED BY print.sh 35421559b90ae4d0a3588c463048766b98c2df88dd9212a6774a882060cdf62d: not written by this session
import Derived.Test.YtgkefkajnbpijaaProg
import Derived.Below
import Derived.Deep.Draws
import Derived.Deep.AppendLies
import Derived.Maps.AppendAt
import Derived.OwnWalk
import Derived.Laws.BytesArg
import Derived.Laws.MakeOwn
import Derived.Laws.OwnMore
import Derived.Deep.OwnRows
import Derived.Tactics
import Derived.Lib.ConvBytes
import Derived.Laws.Slices
import Derived.WalkKit
import Derived.KernelRfl
import Derived.RowKit3
import Derived.Deep.LoopGhost
import Derived.Deep.QuietTactic
import Derived.BigQuiet
import Derived.WideLaws
import Derived.Deep.DeepCutAuto
import Derived.Deep.CutBlock
import Derived.Deep.RegionHeld3
import Derived.Laws.Rows
import Derived.Lib.AppendStr
import Derived.ArgAppend
import Derived.Laws.IdiomCopy
import Derived.OrdersHeld
import Derived.Laws.BitsLemmas
import Derived.RowKit
import Derived.Test.YtgkefkajnbpijaaWWords
import Derived.Test.YtgkefkajnbpijaaWLast
import Derived.Test.YtgkefkajnbpijaaWTab
import Derived.Test.YtgkefkajnbpijaaWFour
import Derived.Test.YtgkefkajnbpijaaWQPut
import Derived.Test.YtgkefkajnbpijaaWApart
import Derived.Test.YtgkefkajnbpijaaWArr
import Derived.Test.YtgkefkajnbpijaaWZeros
import Derived.Test.YtgkefkajnbpijaaWFoot
import Derived.Test.YtgkefkajnbpijaaWKept
import Derived.Test.YtgkefkajnbpijaaWShare
import Derived.Test.YtgkefkajnbpijaaWN
import Derived.Test.YtgkefkajnbpijaaWFootNe
import Derived.Test.YtgkefkajnbpijaaWAt
import Derived.Test.YtgkefkajnbpijaaWEqStruct
import Derived.Test.YtgkefkajnbpijaaWRepsOne
import Derived.Test.YtgkefkajnbpijaaWInv
import Derived.Test.YtgkefkajnbpijaaWInvWords
import Derived.Test.YtgkefkajnbpijaaWGuard
import Derived.Test.YtgkefkajnbpijaaWNEv
import Derived.Test.YtgkefkajnbpijaaWMore
namespace Go.Proofs.Ytgkefkajnbpijaa.PFnExactPlacingText
open Go.RowKit Go.Proofs.YtgkefkajnbpijaaW.PrintWords Go.Proofs.YtgkefkajnbpijaaW.PrintLast Go.Proofs.YtgkefkajnbpijaaW.PrintMore
attribute [local go_sem] max2_int min2_int max_two min_two max_three min_three max_four min_four   -- for this text's walks alone
set_option linter.unusedVariables false
set_option linter.unusedSimpArgs false



def errW : Option Int → Value
  | none => .nilIface
  | some c => .iface 0 (.int .i64 c)
theorem errW_none : errW none = .nilIface := rfl
theorem errW_some (c : Int) : errW (some c) = .iface 0 (.int .i64 c) := rfl

theorem info5 : (Try.prog.info? 5).map (fun i => (i.zero, i.size, i.bytes)) = some (some (.int .u8 0), 1, 1) := by kernel_rfl
theorem info55 : (Try.prog.info? 55).map (fun i => (i.zero, i.size, i.bytes)) = some (some (.int .i8 0), 1, 1) := by kernel_rfl
-- the values' own types

end Go.Proofs.Ytgkefkajnbpijaa.PFnExactPlacingText
