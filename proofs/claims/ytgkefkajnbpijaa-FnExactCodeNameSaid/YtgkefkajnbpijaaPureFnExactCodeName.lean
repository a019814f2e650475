/- The program's CodeName returns what the reference's returns. Conditions: none (each int64). -/
import Derived.Test.YtgkefkajnbpijaaPFnExactCodeNamex1
namespace Go.Proofs.Ytgkefkajnbpijaa.Pure
open Go.RowKit Go.Proofs.Ytgkefkajnbpijaa.PFnExactCodeName Go.Proofs.YtgkefkajnbpijaaW.PrintWords Go.Proofs.YtgkefkajnbpijaaW.PrintLast

theorem FnExactCodeName : laws_FnExactCodeName.Pure := by
  intro a0 _
  have hw : wrap64 8 = 8 := by unfold wrap64; omega
  unfold laws_FnExactCodeName.f spec_CodeName.f impl_CodeName.f spec_l00In.f impl_within.f
  simp only [Option.bind_some, List.length_cons, List.length_nil]
  by_cases h0 : 0 ≤ a0
  · by_cases h8 : a0 ≤ 8
    · rw [if_pos (show a0 ≥ 0 from h0)]
      simp [h0, h8, hw, show a0 < 9 by omega]
    · rw [if_pos (show a0 ≥ 0 from h0)]
      simp [h0, h8, hw]
  · rw [if_neg (show ¬ a0 ≥ 0 from h0)]
    simp [h0]

end Go.Proofs.Ytgkefkajnbpijaa.Pure
