-- By this seat's own program over the kit's printer (arrays, functions told by hand); nothing of it is trusted: the kernel checks it.
import Derived.Test.YtonifpgaagdohaaMx0
namespace Go.Proofs.Ytonifpgaagdohaa.M
open Go.RowKit Go.Proofs.YtonifpgaagdohaaW.PrintWords Go.Proofs.YtonifpgaagdohaaW.PrintLast Go.Proofs.YtonifpgaagdohaaW.PrintMore
attribute [local go_sem] max2_int min2_int max_two min_two max_three min_three max_four min_four   -- for this text's walks alone
set_option linter.unusedVariables false
set_option linter.unusedSimpArgs false

theorem eqA70 (d : Nat) (w : World) (x0 y0 : Int) (x1 y1 : Int) (x2 y2 : Int) (x3 y3 : Int) :
    (Op.equalIn (d + 2) 70 (.agg #[.int .i64 x0, .int .i64 x1, .int .i64 x2, .int .i64 x3]) (.agg #[.int .i64 y0, .int .i64 y1, .int .i64 y2, .int .i64 y3])).run Try.prog w = .ok (x0 == y0 && (x1 == y1 && (x2 == y2 && (x3 == y3)))) w :=
  arr_equal (k := .i64) (xs := [x0, x1, x2, x3]) (ys := [y0, y1, y2, y3]) Try.underlying70 Try.underlying3 (by kernel_rfl) (by kernel_rfl) rfl rfl d w
end Go.Proofs.Ytonifpgaagdohaa.M
