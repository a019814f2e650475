-- By this seat's own program over the kit's printer (arrays, functions told by hand); nothing of it is trusted: the kernel checks it.
import Derived.Test.YtcghglembmohcaaBx0
namespace Go.Proofs.Ytcghglembmohcaa.B
open Go.RowKit Go.Proofs.YtcghglembmohcaaW.PrintWords Go.Proofs.YtcghglembmohcaaW.PrintLast Go.Proofs.YtcghglembmohcaaW.PrintMore
attribute [local go_sem] max2_int min2_int max_two min_two max_three min_three max_four min_four   -- for this text's walks alone
set_option linter.unusedVariables false
set_option linter.unusedSimpArgs false

theorem eqA56 (d : Nat) (w : World) (x0 y0 : Int) (x1 y1 : Int) (x2 y2 : Int) :
  (Op.equalIn (d + 2) 56 (.agg #[.int .i16 x0, .int .i16 x1, .int .i16 x2]) (.agg #[.int .i16 y0, .int .i16 y1, .int .i16 y2])).run Try.prog w = .ok (x0 == y0 && (x1 == y1 && (x2 == y2))) w :=
 arr_equal (k := .i16) (xs := [x0, x1, x2]) (ys := [y0, y1, y2]) Try.underlying56 Try.underlying55 (by kernel_rfl) (by kernel_rfl) rfl rfl d w
end Go.Proofs.Ytcghglembmohcaa.B
