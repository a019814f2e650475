-- By this seat's own program over the kit's printer (arrays, functions told by hand); nothing of it is trusted: the kernel checks it.
import Derived.Test.YtodmfjophjhbeaaMx0
namespace Go.Proofs.Ytodmfjophjhbeaa.M
open Go.RowKit Go.Proofs.YtodmfjophjhbeaaW.PrintWords Go.Proofs.YtodmfjophjhbeaaW.PrintLast Go.Proofs.YtodmfjophjhbeaaW.PrintMore
attribute [local go_sem] max2_int min2_int max_two min_two max_three min_three max_four min_four   -- for this text's walks alone
set_option linter.unusedVariables false
set_option linter.unusedSimpArgs false

theorem eqA30 (d : Nat) (w : World) (x0 y0 : Int) (x1 y1 : Int) (x2 y2 : Int) (x3 y3 : Int) :
  (Op.equalIn (d + 2) 30 (.agg #[.int .i16 x0, .int .i16 x1, .int .i16 x2, .int .i16 x3]) (.agg #[.int .i16 y0, .int .i16 y1, .int .i16 y2, .int .i16 y3])).run Try.prog w = .ok (x0 == y0 && (x1 == y1 && (x2 == y2 && (x3 == y3)))) w :=
 arr_equal (k := .i16) (xs := [x0, x1, x2, x3]) (ys := [y0, y1, y2, y3]) Try.underlying30 Try.underlying23 (by kernel_rfl) (by kernel_rfl) rfl rfl d w
end Go.Proofs.Ytodmfjophjhbeaa.M
