/- The program's FirstBroken returns what the reference's returns. Conditions: none. -/
import Derived.Test.YtodmfjophjhbeaaMPureY
-- IMPORTS
import Derived.Test.YtodmfjophjhbeaaMx43
import Derived.Test.YtodmfjophjhbeaaMx44
namespace Go.Proofs.Ytodmfjophjhbeaa.Pure
open Go.RowKit Go.Proofs.Ytodmfjophjhbeaa.M Go.Proofs.YtodmfjophjhbeaaW.PrintWords Go.Proofs.YtodmfjophjhbeaaW.PrintLast Go.Proofs.YtodmfjophjhbeaaW.PrintMore
set_option linter.unusedVariables false
set_option linter.unusedSimpArgs false

theorem firstBroken_same {k : Nat} (l : List Int) (hl : l.length ≤ 1048576) (p q s t : Int) (z : Bool) (tb : List Int) (hb : ∀ x ∈ tb, (Lit.int .i16 x).wf = true) (hk : l.length + 300 * tb.length + 700 ≤ k) :
    ∃ r, spec_FirstBroken.f k l p q s t z tb = some r ∧ impl_FirstBroken.f k l p q s t z tb = some r := by
  obtain ⟨e, e1, e2, _, h0⟩ := tabled_same (k := k) l hl (by omega) p q s t z tb hb
  unfold spec_FirstBroken.f impl_FirstBroken.f
  rw [e1, e2]
  simp only [Option.bind_some]
  by_cases c : e = 0
  · rw [if_pos c, if_pos c]
    obtain ⟨T, hw, _⟩ := h0 c
    obtain ⟨r, r1, r2⟩ := broken_same T p q s t z hw (k := k) (by omega)
    rw [r1, r2]
    simp only [Option.bind_some]
    exact both _ _ _
  · rw [if_neg c, if_neg c]
    exact ⟨_, rfl, rfl⟩
theorem FnExactFirstBroken (x0_0 : (List Int)) (x0_1 : Int) (x0_2 : Int) (x0_3 : Int) (x0_4 : Int) (x0_5 : Bool) (x1_0 : (List Int)) (w0_0 : (fun xs : List Int => xs.length ≤ maxLen ∧ ∀ x ∈ xs, (fun x : Int => (Lit.int .i16 x).wf = true) x) x0_0) (w0_1 : (fun x : Int => (Lit.int .i16 x).wf = true) x0_1) (w0_2 : (fun x : Int => (Lit.int .i16 x).wf = true) x0_2) (w0_3 : (fun x : Int => (Lit.int .i16 x).wf = true) x0_3) (w0_4 : (fun x : Int => (Lit.int .i16 x).wf = true) x0_4) (w1_0 : (fun xs : List Int => xs.length ≤ maxLen ∧ ∀ x ∈ xs, (fun x : Int => (Lit.int .i16 x).wf = true) x) x1_0) : ∃ k, laws_FnExactFirstBroken.f k x0_0 x0_1 x0_2 x0_3 x0_4 x0_5 x1_0 = some true := by
  refine ⟨x0_0.length + 300 * x1_0.length + 1000, ?_⟩
  have hk : ∃ k, k = x0_0.length + 300 * x1_0.length + 1000 := ⟨_, rfl⟩
  obtain ⟨k, hk⟩ := hk
  rw [← hk]
  unfold laws_FnExactFirstBroken.f
  by_cases e1 : (x1_0.length : Int) > 1048576
  · rw [if_pos e1]
  · rw [if_neg e1, szPuzzle_val x0_0 x0_1 x0_2 x0_3 x0_4 x0_5 w0_0.1 1048576 (by omega) (by omega)]
    simp only [Option.bind_some]
    by_cases e0 : (1048576 : Int) - (x0_0.length : Int) < 0
    · rw [if_pos e0]; rfl
    · rw [if_neg e0, if_neg e0, toPuzzle_val x0_0 x0_1 x0_2 x0_3 x0_4 x0_5 (by omega) (by omega), toS_val x1_0 (by omega) (by omega)]
      obtain ⟨⟨a, e⟩, h2, h3⟩ := firstBroken_same (k := k) x0_0 (by omega) x0_1 x0_2 x0_3 x0_4 x0_5 x1_0 w1_0.2 (by omega)
      obtain ⟨k, rfl⟩ : ∃ m, k = m + 1 := ⟨k - 1, by omega⟩
      simp only [Option.bind_some]
      rw [h2, h3]
      simp only [Option.bind_some]
      rw [if_pos trivial]
      simp only [laws_FnExactFirstBroken.j0]
      rw [bne_self_eq_false, if_neg (by simp), toPuzzle_val x0_0 x0_1 x0_2 x0_3 x0_4 x0_5 (by omega) (by omega)]
      simp only [Option.bind_some]
      rw [eqPuzzle_self x0_0 x0_1 x0_2 x0_3 x0_4 x0_5 (by omega) (by omega)]
      simp only [Option.bind_some]
      rw [if_pos trivial, toS_val x1_0 (by omega) (by omega)]
      simp only [Option.bind_some]
      rw [eqS_self x1_0 (by omega) (by omega)]
      simp

end Go.Proofs.Ytodmfjophjhbeaa.Pure
