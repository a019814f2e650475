/- The program's StatesOf returns what the reference's returns. Conditions: none. -/
import Derived.Test.YtodmfjophjhbeaaMPureB
-- IMPORTS
import Derived.Test.YtodmfjophjhbeaaMx9
import Derived.Test.YtodmfjophjhbeaaMx10
namespace Go.Proofs.Ytodmfjophjhbeaa.Pure
open Go.RowKit Go.Proofs.Ytodmfjophjhbeaa.M Go.Proofs.YtodmfjophjhbeaaW.PrintWords Go.Proofs.YtodmfjophjhbeaaW.PrintLast Go.Proofs.YtodmfjophjhbeaaW.PrintMore
set_option linter.unusedVariables false
set_option linter.unusedSimpArgs false

theorem FnExactStatesOf (x0_0 : (List Int)) (x0_1 : Int) (x0_2 : Int) (x0_3 : Int) (x0_4 : Int) (x0_5 : Bool) (w0_0 : (fun xs : List Int => xs.length ≤ maxLen ∧ ∀ x ∈ xs, (fun x : Int => (Lit.int .i16 x).wf = true) x) x0_0) (w0_1 : (fun x : Int => (Lit.int .i16 x).wf = true) x0_1) (w0_2 : (fun x : Int => (Lit.int .i16 x).wf = true) x0_2) (w0_3 : (fun x : Int => (Lit.int .i16 x).wf = true) x0_3) (w0_4 : (fun x : Int => (Lit.int .i16 x).wf = true) x0_4) : ∃ k, laws_FnExactStatesOf.f k x0_0 x0_1 x0_2 x0_3 x0_4 x0_5 = some true := by
  refine ⟨x0_0.length + 10, ?_⟩
  have hk : ∃ k, k = x0_0.length + 10 := ⟨_, rfl⟩
  obtain ⟨k, hk⟩ := hk
  rw [← hk]
  unfold laws_FnExactStatesOf.f
  rw [szPuzzle_val x0_0 x0_1 x0_2 x0_3 x0_4 x0_5 w0_0.1 1048576 (by omega) (by omega)]
  simp only [Option.bind_some]
  by_cases e0 : (1048576 : Int) - (x0_0.length : Int) < 0
  · rw [if_pos e0]; rfl
  · rw [if_neg e0, if_neg e0, toPuzzle_val x0_0 x0_1 x0_2 x0_3 x0_4 x0_5 (by omega) (by omega)]
    obtain ⟨r, hs, hi, hr⟩ := valid_val (k := k) x0_0 x0_1 x0_2 x0_3 x0_4 x0_5 (by omega) (by omega)
    have h1 : ∃ t, spec_StatesOf.f k x0_0 x0_1 x0_2 x0_3 x0_4 x0_5 = some t ∧ impl_StatesOf.f k x0_0 x0_1 x0_2 x0_3 x0_4 x0_5 = some t := by
      unfold spec_StatesOf.f impl_StatesOf.f
      rw [hs, hi]
      cases r
      · exact ⟨(0, 1), rfl, rfl⟩
      · obtain ⟨_, _, _, _, g1, g2⟩ := hr rfl
        rw [g1, g2]
        exact ⟨_, rfl, rfl⟩
    obtain ⟨t, h2, h3⟩ := h1
    obtain ⟨k, rfl⟩ : ∃ m, k = m + 1 := ⟨k - 1, by omega⟩
    simp only [Option.bind_some]
    rw [h2, h3]
    simp only [Option.bind_some, laws_FnExactStatesOf.j0]
    rw [if_pos trivial, toPuzzle_val x0_0 x0_1 x0_2 x0_3 x0_4 x0_5 (by omega) (by omega)]
    simp only [Option.bind_some]
    rw [eqPuzzle_self x0_0 x0_1 x0_2 x0_3 x0_4 x0_5 (by omega) (by omega)]
    simp

end Go.Proofs.Ytodmfjophjhbeaa.Pure
