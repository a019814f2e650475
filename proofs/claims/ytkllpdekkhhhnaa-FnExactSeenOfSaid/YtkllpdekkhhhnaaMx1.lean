-- By this seat's own program over the kit's printer (arrays, functions told by hand); nothing of it is trusted: the kernel checks it.
import Derived.Test.YtkllpdekkhhhnaaMx0
namespace Go.Proofs.Ytkllpdekkhhhnaa.M
open Go.RowKit Go.Proofs.YtkllpdekkhhhnaaW.PrintWords Go.Proofs.YtkllpdekkhhhnaaW.PrintLast Go.Proofs.YtkllpdekkhhhnaaW.PrintMore
attribute [local go_sem] max2_int min2_int max_two min_two max_three min_three max_four min_four   -- for this text's walks alone
set_option linter.unusedVariables false
set_option linter.unusedSimpArgs false

theorem eqA37 (d : Nat) (w : World) (x0 y0 : Int) (x1 y1 : Bool) :
  (Op.equalIn (d + 2) 37 (.agg #[.int .i8 x0, .bool x1]) (.agg #[.int .i8 y0, .bool y1])).run Try.prog w = .ok (x0 == y0 && (x1 == y1)) w := by
 refine eqA_of Try.underlying37 (by kernel_rfl) ?_
 refine eqf_cons (by rfl) (by go_simp; rfl) (by go_simp; rfl) (by go_simp) ?_
 exact eqf_last (by rfl) (by go_simp; rfl) (by go_simp; rfl) (by go_simp)
end Go.Proofs.Ytkllpdekkhhhnaa.M
