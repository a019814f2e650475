/- The program's StateIndex returns what the reference's returns. Conditions: none. -/
import Derived.Test.YtodmfjophjhbeaaMPureU
-- IMPORTS
import Derived.Test.YtodmfjophjhbeaaMx5
import Derived.Test.YtodmfjophjhbeaaMx22
import Derived.Test.YtodmfjophjhbeaaMx30
import Derived.Test.YtodmfjophjhbeaaMx31
namespace Go.Proofs.Ytodmfjophjhbeaa.Pure
open Go.RowKit Go.Proofs.Ytodmfjophjhbeaa.M Go.Proofs.YtodmfjophjhbeaaW.PrintWords Go.Proofs.YtodmfjophjhbeaaW.PrintLast Go.Proofs.YtodmfjophjhbeaaW.PrintMore
set_option linter.unusedVariables false
set_option linter.unusedSimpArgs false

theorem stateIndex_same {k : Nat} (l : List Int) (hl : l.length ≤ 1048576) (hk : l.length + 20 ≤ k) (p q s t : Int) (z : Bool) (a b c d : Int) :
    ∃ r, spec_StateIndex.f k l p q s t z a b c d = some r ∧ impl_StateIndex.f k l p q s t z a b c d = some r := by
  obtain ⟨v, hs, hi, hv⟩ := valid_val (k := k) l p q s t z hl (by omega)
  obtain ⟨u, us, ui⟩ := water_val (k := k) (by omega) l hl a b c d p q s t z
  unfold spec_StateIndex.f impl_StateIndex.f impl_ValidWater.f
  rw [hs, hi]
  simp only [Option.bind_some]
  cases v with
  | false => exact ⟨(0, 1), by simp, by simp⟩
  | true =>
    obtain ⟨hc, hj, _⟩ := hv rfl
    rw [if_pos rfl, if_pos rfl, us, ui]
    simp only [Option.bind_some]
    cases u with
    | false => exact ⟨(0, 1), by simp, by simp⟩
    | true =>
      have hw : WF l a b c d := of_water l a b c d 4 k 0 (by omega) (by omega) (by omega) (by simpa [spec_l02Water.f] using us)
      obtain ⟨h1, h2⟩ := index_val (k := k) (by omega) l hc.1 hc.2 hj p q s t z a b c d hw
      rw [if_pos rfl, if_pos rfl, h1, h2]
      exact ⟨_, rfl, rfl⟩
theorem FnExactStateIndex (x0_0 : (List Int)) (x0_1 : Int) (x0_2 : Int) (x0_3 : Int) (x0_4 : Int) (x0_5 : Bool) (x1_0 : Int) (x1_1 : Int) (x1_2 : Int) (x1_3 : Int) (w0_0 : (fun xs : List Int => xs.length ≤ maxLen ∧ ∀ x ∈ xs, (fun x : Int => (Lit.int .i16 x).wf = true) x) x0_0) (w0_1 : (fun x : Int => (Lit.int .i16 x).wf = true) x0_1) (w0_2 : (fun x : Int => (Lit.int .i16 x).wf = true) x0_2) (w0_3 : (fun x : Int => (Lit.int .i16 x).wf = true) x0_3) (w0_4 : (fun x : Int => (Lit.int .i16 x).wf = true) x0_4) (w1_0 : (fun x : Int => (Lit.int .i16 x).wf = true) x1_0) (w1_1 : (fun x : Int => (Lit.int .i16 x).wf = true) x1_1) (w1_2 : (fun x : Int => (Lit.int .i16 x).wf = true) x1_2) (w1_3 : (fun x : Int => (Lit.int .i16 x).wf = true) x1_3) : ∃ k, laws_FnExactStateIndex.f k x0_0 x0_1 x0_2 x0_3 x0_4 x0_5 x1_0 x1_1 x1_2 x1_3 = some true := by
  refine ⟨x0_0.length + 40, ?_⟩
  have hk : ∃ k, k = x0_0.length + 40 := ⟨_, rfl⟩
  obtain ⟨k, hk⟩ := hk
  rw [← hk]
  unfold laws_FnExactStateIndex.f
  rw [szPuzzle_val x0_0 x0_1 x0_2 x0_3 x0_4 x0_5 w0_0.1 1048576 (by omega) (by omega)]
  simp only [Option.bind_some]
  by_cases e0 : (1048576 : Int) - (x0_0.length : Int) < 0
  · rw [if_pos e0]; rfl
  · rw [if_neg e0, if_neg e0, toPuzzle_val x0_0 x0_1 x0_2 x0_3 x0_4 x0_5 (by omega) (by omega), toWater_val (by omega)]
    obtain ⟨⟨a, e⟩, h2, h3⟩ := stateIndex_same (k := k) x0_0 (by omega) (by omega) x0_1 x0_2 x0_3 x0_4 x0_5 x1_0 x1_1 x1_2 x1_3
    obtain ⟨k, rfl⟩ : ∃ m, k = m + 1 := ⟨k - 1, by omega⟩
    simp only [Option.bind_some]
    rw [h2, h3]
    simp only [Option.bind_some]
    rw [if_pos trivial]
    simp only [laws_FnExactStateIndex.j0]
    rw [bne_self_eq_false, if_neg (by simp), toPuzzle_val x0_0 x0_1 x0_2 x0_3 x0_4 x0_5 (by omega) (by omega)]
    simp only [Option.bind_some]
    rw [eqPuzzle_self x0_0 x0_1 x0_2 x0_3 x0_4 x0_5 (by omega) (by omega)]
    simp

end Go.Proofs.Ytodmfjophjhbeaa.Pure
