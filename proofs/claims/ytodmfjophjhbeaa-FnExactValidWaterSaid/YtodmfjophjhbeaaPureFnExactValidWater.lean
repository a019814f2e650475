/- The program's ValidWater returns what the reference's returns. Conditions: none. -/
import Derived.Test.YtodmfjophjhbeaaMPureB
-- IMPORTS
import Derived.Test.YtodmfjophjhbeaaMx7
import Derived.Test.YtodmfjophjhbeaaMx8
namespace Go.Proofs.Ytodmfjophjhbeaa.Pure
open Go.RowKit Go.Proofs.Ytodmfjophjhbeaa.M Go.Proofs.YtodmfjophjhbeaaW.PrintWords Go.Proofs.YtodmfjophjhbeaaW.PrintLast Go.Proofs.YtodmfjophjhbeaaW.PrintMore
set_option linter.unusedVariables false
set_option linter.unusedSimpArgs false

theorem FnExactValidWater (x0_0 : (List Int)) (x0_1 : Int) (x0_2 : Int) (x0_3 : Int) (x0_4 : Int) (x0_5 : Bool) (x1_0 : Int) (x1_1 : Int) (x1_2 : Int) (x1_3 : Int) (w0_0 : (fun xs : List Int => xs.length ≤ maxLen ∧ ∀ x ∈ xs, (fun x : Int => (Lit.int .i16 x).wf = true) x) x0_0) (w0_1 : (fun x : Int => (Lit.int .i16 x).wf = true) x0_1) (w0_2 : (fun x : Int => (Lit.int .i16 x).wf = true) x0_2) (w0_3 : (fun x : Int => (Lit.int .i16 x).wf = true) x0_3) (w0_4 : (fun x : Int => (Lit.int .i16 x).wf = true) x0_4) (w1_0 : (fun x : Int => (Lit.int .i16 x).wf = true) x1_0) (w1_1 : (fun x : Int => (Lit.int .i16 x).wf = true) x1_1) (w1_2 : (fun x : Int => (Lit.int .i16 x).wf = true) x1_2) (w1_3 : (fun x : Int => (Lit.int .i16 x).wf = true) x1_3) : ∃ k, laws_FnExactValidWater.f k x0_0 x0_1 x0_2 x0_3 x0_4 x0_5 x1_0 x1_1 x1_2 x1_3 = some true := by
  refine ⟨x0_0.length + 10, ?_⟩
  have hk : ∃ k, k = x0_0.length + 10 := ⟨_, rfl⟩
  obtain ⟨k, hk⟩ := hk
  rw [← hk]
  unfold laws_FnExactValidWater.f
  rw [szPuzzle_val x0_0 x0_1 x0_2 x0_3 x0_4 x0_5 w0_0.1 1048576 (by omega) (by omega)]
  simp only [Option.bind_some]
  by_cases e0 : (1048576 : Int) - (x0_0.length : Int) < 0
  · rw [if_pos e0]; rfl
  · rw [if_neg e0, if_neg e0, toPuzzle_val x0_0 x0_1 x0_2 x0_3 x0_4 x0_5 (by omega) (by omega)]
    obtain ⟨r, hs, hi, hr⟩ := valid_val (k := k) x0_0 x0_1 x0_2 x0_3 x0_4 x0_5 (by omega) (by omega)
    obtain ⟨q, hs2, hi2⟩ := water_val (k := k) (by omega) x0_0 (by omega) x1_0 x1_1 x1_2 x1_3 x0_1 x0_2 x0_3 x0_4 x0_5
    have h1 : ∃ t, spec_ValidWater.f k x0_0 x0_1 x0_2 x0_3 x0_4 x0_5 x1_0 x1_1 x1_2 x1_3 = some t ∧ impl_ValidWater.f k x0_0 x0_1 x0_2 x0_3 x0_4 x0_5 x1_0 x1_1 x1_2 x1_3 = some t := by
      unfold spec_ValidWater.f impl_ValidWater.f
      rw [hs, hi, hs2, hi2]
      cases r
      · exact ⟨false, rfl, rfl⟩
      · exact ⟨q, rfl, rfl⟩
    obtain ⟨t, h2, h3⟩ := h1
    simp only [Option.bind_some, toWater_val (show 5 ≤ k by omega)]
    rw [h2, h3]
    simp only [Option.bind_some]
    rw [eqPuzzle_self x0_0 x0_1 x0_2 x0_3 x0_4 x0_5 (by omega) (by omega)]
    simp

end Go.Proofs.Ytodmfjophjhbeaa.Pure
