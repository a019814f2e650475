/- The program's DoMoves returns what the reference's returns. Conditions: none. -/
import Derived.Test.YtodmfjophjhbeaaMPureN
import Derived.Test.YtodmfjophjhbeaaMPureL
-- IMPORTS
import Derived.Test.YtodmfjophjhbeaaMx0
import Derived.Test.YtodmfjophjhbeaaMx22
namespace Go.Proofs.Ytodmfjophjhbeaa.Pure
open Go.RowKit Go.Proofs.Ytodmfjophjhbeaa.M Go.Proofs.YtodmfjophjhbeaaW.PrintWords Go.Proofs.YtodmfjophjhbeaaW.PrintLast Go.Proofs.YtodmfjophjhbeaaW.PrintMore
set_option linter.unusedVariables false
set_option linter.unusedSimpArgs false

theorem FnExactDoMoves (x0_0 : (List Int)) (x0_1 : Int) (x0_2 : Int) (x0_3 : Int) (x0_4 : Int) (x0_5 : Bool) (x1_0 : Int) (x1_1 : Int) (x1_2 : Int) (x1_3 : Int) (x2_0 : (List S58)) (w0_0 : (fun xs : List Int => xs.length ≤ maxLen ∧ ∀ x ∈ xs, (fun x : Int => (Lit.int .i16 x).wf = true) x) x0_0) (w0_1 : (fun x : Int => (Lit.int .i16 x).wf = true) x0_1) (w0_2 : (fun x : Int => (Lit.int .i16 x).wf = true) x0_2) (w0_3 : (fun x : Int => (Lit.int .i16 x).wf = true) x0_3) (w0_4 : (fun x : Int => (Lit.int .i16 x).wf = true) x0_4) (w1_0 : (fun x : Int => (Lit.int .i16 x).wf = true) x1_0) (w1_1 : (fun x : Int => (Lit.int .i16 x).wf = true) x1_1) (w1_2 : (fun x : Int => (Lit.int .i16 x).wf = true) x1_2) (w1_3 : (fun x : Int => (Lit.int .i16 x).wf = true) x1_3) (w2_0 : (fun xs : List S58 => xs.length ≤ maxLen ∧ ∀ x ∈ xs, (fun x : S58 => (fun x : Int => (Lit.int .i8 x).wf = true) x.f0 ∧ (fun x : Int => (Lit.int .i8 x).wf = true) x.f1 ∧ (fun x : Int => (Lit.int .i8 x).wf = true) x.f2) x) x2_0) : ∃ k, laws_FnExactDoMoves.f k x0_0 x0_1 x0_2 x0_3 x0_4 x0_5 x1_0 x1_1 x1_2 x1_3 x2_0 = some true := by
  refine ⟨x0_0.length + x2_0.length + 40, ?_⟩
  have hk : ∃ k, k = x0_0.length + x2_0.length + 40 := ⟨_, rfl⟩
  obtain ⟨k, hk⟩ := hk
  rw [← hk]
  unfold laws_FnExactDoMoves.f
  rw [szPuzzle_val x0_0 x0_1 x0_2 x0_3 x0_4 x0_5 w0_0.1 1048576 (by omega) (by omega)]
  simp only [Option.bind_some]
  by_cases e0 : (1048576 : Int) - (x0_0.length : Int) < 0
  · rw [if_pos e0]; rfl
  · rw [if_neg e0, if_neg e0, szMoveS_val x2_0 w2_0.1 _ (by omega) (by omega)]
    simp only [Option.bind_some]
    by_cases e1 : (1048576 : Int) - (x0_0.length : Int) - (x2_0.length : Int) < 0
    · rw [if_pos e1]; rfl
    · rw [if_neg e1, if_neg e1, toPuzzle_val x0_0 x0_1 x0_2 x0_3 x0_4 x0_5 (by omega) (by omega), toWater_val (by omega), toMoveS_val x2_0 (by omega) (by omega)]
      simp only [Option.bind_some]
      have hms : ∀ x ∈ x2_0.map cvm, (Lit.int .i8 x.f0).wf = true ∧ (Lit.int .i8 x.f1).wf = true ∧ (Lit.int .i8 x.f2).wf = true := by
        intro x hx
        obtain ⟨y, hy, rfl⟩ := List.mem_map.1 hx
        exact w2_0.2 y hy
      obtain ⟨⟨a, b, c, d, e⟩, h2, h3⟩ := doMoves_same (k := k) x0_0 (by omega) x0_1 x0_2 x0_3 x0_4 x0_5 x1_0 x1_1 x1_2 x1_3 (x2_0.map cvm) hms (by simp; omega)
      obtain ⟨k, rfl⟩ : ∃ m, k = m + 1 := ⟨k - 1, by omega⟩
      rw [h2, h3]
      simp only [Option.bind_some]
      rw [eqWater_self (by omega)]
      simp only [Option.bind_some, laws_FnExactDoMoves.j0]
      rw [if_pos trivial, bne_self_eq_false, if_neg (by simp), toPuzzle_val x0_0 x0_1 x0_2 x0_3 x0_4 x0_5 (by omega) (by omega)]
      simp only [Option.bind_some]
      rw [eqPuzzle_self x0_0 x0_1 x0_2 x0_3 x0_4 x0_5 (by omega) (by omega)]
      simp only [Option.bind_some]
      rw [if_pos trivial, toMoveS_val x2_0 (by omega) (by omega)]
      simp only [Option.bind_some]
      rw [eqMoveS_self _ (by simp; omega) (by simp; omega)]
      simp

end Go.Proofs.Ytodmfjophjhbeaa.Pure
