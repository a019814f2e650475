/- The program's MovesFrom returns what the reference's returns. Conditions: none. -/
import Derived.Test.YtodmfjophjhbeaaMPureP
import Derived.Test.YtodmfjophjhbeaaMPureO
-- IMPORTS
import Derived.Test.YtodmfjophjhbeaaMx3
import Derived.Test.YtodmfjophjhbeaaMx5
import Derived.Test.YtodmfjophjhbeaaMx7
import Derived.Test.YtodmfjophjhbeaaMx24
import Derived.Test.YtodmfjophjhbeaaMx26
import Derived.Test.YtodmfjophjhbeaaMx27
import Derived.Test.YtodmfjophjhbeaaMx28
import Derived.Test.YtodmfjophjhbeaaMx29
namespace Go.Proofs.Ytodmfjophjhbeaa.Pure
open Go.RowKit Go.Proofs.Ytodmfjophjhbeaa.M Go.Proofs.YtodmfjophjhbeaaW.PrintWords Go.Proofs.YtodmfjophjhbeaaW.PrintLast Go.Proofs.YtodmfjophjhbeaaW.PrintMore
set_option linter.unusedVariables false
set_option linter.unusedSimpArgs false

theorem FnExactMovesFrom (x0_0 : (List Int)) (x0_1 : Int) (x0_2 : Int) (x0_3 : Int) (x0_4 : Int) (x0_5 : Bool) (x1_0 : Int) (x1_1 : Int) (x1_2 : Int) (x1_3 : Int) (w0_0 : (fun xs : List Int => xs.length ≤ maxLen ∧ ∀ x ∈ xs, (fun x : Int => (Lit.int .i16 x).wf = true) x) x0_0) (w0_1 : (fun x : Int => (Lit.int .i16 x).wf = true) x0_1) (w0_2 : (fun x : Int => (Lit.int .i16 x).wf = true) x0_2) (w0_3 : (fun x : Int => (Lit.int .i16 x).wf = true) x0_3) (w0_4 : (fun x : Int => (Lit.int .i16 x).wf = true) x0_4) (w1_0 : (fun x : Int => (Lit.int .i16 x).wf = true) x1_0) (w1_1 : (fun x : Int => (Lit.int .i16 x).wf = true) x1_1) (w1_2 : (fun x : Int => (Lit.int .i16 x).wf = true) x1_2) (w1_3 : (fun x : Int => (Lit.int .i16 x).wf = true) x1_3) : ∃ k, laws_FnExactMovesFrom.f k x0_0 x0_1 x0_2 x0_3 x0_4 x0_5 x1_0 x1_1 x1_2 x1_3 = some true := by
  refine ⟨x0_0.length + 310, ?_⟩
  have hk : ∃ k, k = x0_0.length + 300 := ⟨_, rfl⟩
  obtain ⟨k, hk⟩ := hk
  rw [show x0_0.length + 310 = k + 10 by omega]
  unfold laws_FnExactMovesFrom.f
  rw [szPuzzle_val x0_0 x0_1 x0_2 x0_3 x0_4 x0_5 w0_0.1 1048576 (by omega) (by omega)]
  simp only [Option.bind_some]
  by_cases e0 : (1048576 : Int) - (x0_0.length : Int) < 0
  · rw [if_pos e0]; rfl
  · rw [if_neg e0, if_neg e0]
    have tp : ∀ j, laws_toPuzzle.f (k + j) x0_0 x0_1 x0_2 x0_3 x0_4 x0_5 = some (x0_0, x0_1, x0_2, x0_3, x0_4, x0_5) := fun j => toPuzzle_val x0_0 x0_1 x0_2 x0_3 x0_4 x0_5 (by omega) (by omega)
    have tw : ∀ j, laws_toWater.f (k + j) x1_0 x1_1 x1_2 x1_3 = some (x1_0, x1_1, x1_2, x1_3) := fun j => toWater_val (by omega) _ _ _ _
    obtain ⟨ms, e, hm, h2, h3⟩ := movesFrom_same (k := k) x0_0 (by omega) (by omega) x0_1 x0_2 x0_3 x0_4 x0_5 x1_0 x1_1 x1_2 x1_3
    have hs : ∀ j, spec_MovesFrom.f (k + j) x0_0 x0_1 x0_2 x0_3 x0_4 x0_5 x1_0 x1_1 x1_2 x1_3 = some (ms, e) := fun j => at_rounds (g := fun k => spec_MovesFrom.f k x0_0 x0_1 x0_2 x0_3 x0_4 x0_5 x1_0 x1_1 x1_2 x1_3) (fun k => spec_MovesFrom.mono _ _ _ _ _ _ _ _ _ _ k) (Nat.le_add_right k j) h2
    have hi : ∀ j, impl_MovesFrom.f (k + j) x0_0 x0_1 x0_2 x0_3 x0_4 x0_5 x1_0 x1_1 x1_2 x1_3 = some (ms, e) := fun j => at_rounds (g := fun k => impl_MovesFrom.f k x0_0 x0_1 x0_2 x0_3 x0_4 x0_5 x1_0 x1_1 x1_2 x1_3) (fun k => impl_MovesFrom.mono _ _ _ _ _ _ _ _ _ _ k) (Nat.le_add_right k j) h3
    have he : ∀ j, laws_eqMoveS.f (k + j) ms ms = some true := fun j => eqMoveS_self ms (by omega) (by omega)
    have hp : ∀ j, laws_eqPuzzle.f (k + j) x0_0 x0_1 x0_2 x0_3 x0_4 x0_5 x0_0 x0_1 x0_2 x0_3 x0_4 x0_5 = some true := fun j => eqPuzzle_self x0_0 x0_1 x0_2 x0_3 x0_4 x0_5 (by omega) (by omega)
    have hmm : ∀ j, laws_markMoveS.f (k + j) ms 1 = some (1 + 3 * (ms.length : Int), markedM 1 ms) := fun j => markM_val ms (by omega) (by omega)
    have hh : ∀ j, laws_heldMoveS.f (k + j) (markedM 1 ms) 1 = some (1 + 3 * (ms.length : Int)) := fun j => heldM_val ms (by omega) (by omega)
    obtain ⟨mk, hmk⟩ := markPuzzle_val (f := k + 9) x0_0 x0_1 x0_2 x0_3 x0_4 x0_5 (by omega) (by omega)
    rw [tp, tw]
    simp only [Option.bind_some]
    rw [hs, hi]
    simp only [Option.bind_some]
    rw [he]
    simp only [Option.bind_some]
    rw [if_pos trivial, bne_self_eq_false, show k + 10 = (k + 9) + 1 from rfl]
    simp only [laws_FnExactMovesFrom.j0]
    rw [if_neg (by simp), tp]
    simp only [Option.bind_some]
    rw [hp]
    simp only [Option.bind_some]
    rw [if_pos trivial, hmk]
    simp only [Option.bind_some]
    rw [if_neg (by omega), he]
    simp only [Option.bind_some]
    rw [if_pos trivial, bne_self_eq_false, show k + 9 = (k + 8) + 1 from rfl]
    simp only [laws_FnExactMovesFrom.j1]
    rw [if_neg (by simp), hmm]
    simp only [Option.bind_some]
    rw [hh]
    simp only [Option.bind_some]
    rw [if_neg (by omega), if_pos trivial, tp, tw]
    simp only [Option.bind_some]
    rw [hi]
    simp only [Option.bind_some]
    rw [he]
    simp only [Option.bind_some]
    rw [if_pos trivial, bne_self_eq_false, show k + 8 = (k + 7) + 1 from rfl]
    simp only [laws_FnExactMovesFrom.j2]
    rw [if_neg (by simp), hh]
    simp only [Option.bind_some]
    rw [if_neg (by omega), if_pos trivial]

end Go.Proofs.Ytodmfjophjhbeaa.Pure
