/- The program's WaterAt returns what the reference's returns. Conditions: none. -/
import Derived.Test.YtodmfjophjhbeaaMPureB
-- IMPORTS
import Derived.Test.YtodmfjophjhbeaaMx11
import Derived.Test.YtodmfjophjhbeaaMx12
import Derived.Test.YtodmfjophjhbeaaMx13
namespace Go.Proofs.Ytodmfjophjhbeaa.Pure
open Go.RowKit Go.Proofs.Ytodmfjophjhbeaa.M Go.Proofs.YtodmfjophjhbeaaW.PrintWords Go.Proofs.YtodmfjophjhbeaaW.PrintLast Go.Proofs.YtodmfjophjhbeaaW.PrintMore
set_option linter.unusedVariables false
set_option linter.unusedSimpArgs false

theorem at_same (l : List Int) (hl : l.length ≤ 4) (hj : okJ l = true) (p q s t : Int) (z : Bool) : ∀ (n k : Nat) (y i : Int) (a b c d : Int), 0 ≤ i → (l.length : Int) - i ≤ n → n < k →
    ∃ r, spec_l02At.l0 k y i l p q s t z a b c d = some r ∧ impl_Puzzle_at.l0 k y l (l.length : Int) i a b c d = some r := by
  intro n
  induction n with
  | zero =>
    intro k y i a b c d h0 h1 h2
    obtain ⟨k, rfl⟩ := fuel (show 1 ≤ k by omega)
    refine ⟨(a, b, c, d), ?_, ?_⟩
    · simp only [spec_l02At.l0]; rw [if_neg (by omega)]
    · simp only [impl_Puzzle_at.l0]; rw [if_neg (by omega)]
  | succ n ih =>
    intro k y i a b c d h0 h1 h2
    obtain ⟨k, rfl⟩ := fuel (show 1 ≤ k by omega)
    simp only [spec_l02At.l0, impl_Puzzle_at.l0]
    by_cases h : i < (l.length : Int)
    · have hm : rd l i ∈ l := by
        have hi : i.toNat < l.length := by omega
        unfold rd; simp [List.getD, hi]
      have hb : 1 ≤ rd l i ∧ rd l i ≤ 60 := by simpa using List.all_eq_true.1 hj _ hm
      generalize rd l i = x at hb
      have hne : ¬ wrap64 (wrap64 x + 1) = 0 := by unfold wrap64; omega
      rw [if_pos h, if_pos h0, if_neg hne, if_pos (show i < 4 by omega), if_pos h, if_pos h0, if_pos h, if_neg hne, if_pos (show i < 4 by omega), wi (i := i) h0 (by omega)]
      exact ih k _ (i + 1) _ _ _ _ (by omega) (by omega) (by omega)
    · rw [if_neg h, if_neg h]; exact ⟨_, rfl, rfl⟩

theorem FnExactWaterAt (x0_0 : (List Int)) (x0_1 : Int) (x0_2 : Int) (x0_3 : Int) (x0_4 : Int) (x0_5 : Bool) (x1_0 : Int) (w0_0 : (fun xs : List Int => xs.length ≤ maxLen ∧ ∀ x ∈ xs, (fun x : Int => (Lit.int .i16 x).wf = true) x) x0_0) (w0_1 : (fun x : Int => (Lit.int .i16 x).wf = true) x0_1) (w0_2 : (fun x : Int => (Lit.int .i16 x).wf = true) x0_2) (w0_3 : (fun x : Int => (Lit.int .i16 x).wf = true) x0_3) (w0_4 : (fun x : Int => (Lit.int .i16 x).wf = true) x0_4) (w1_0 : (fun x : Int => (Lit.int .i64 x).wf = true) x1_0) : ∃ k, laws_FnExactWaterAt.f k x0_0 x0_1 x0_2 x0_3 x0_4 x0_5 x1_0 = some true := by
  refine ⟨x0_0.length + 10, ?_⟩
  have hk : ∃ k, k = x0_0.length + 10 := ⟨_, rfl⟩
  obtain ⟨k, hk⟩ := hk
  rw [← hk]
  unfold laws_FnExactWaterAt.f
  rw [szPuzzle_val x0_0 x0_1 x0_2 x0_3 x0_4 x0_5 w0_0.1 1048576 (by omega) (by omega)]
  simp only [Option.bind_some]
  by_cases e0 : (1048576 : Int) - (x0_0.length : Int) < 0
  · rw [if_pos e0]; rfl
  · rw [if_neg e0, if_neg e0, toPuzzle_val x0_0 x0_1 x0_2 x0_3 x0_4 x0_5 (by omega) (by omega)]
    obtain ⟨r, hs, hi, hr⟩ := valid_val (k := k) x0_0 x0_1 x0_2 x0_3 x0_4 x0_5 (by omega) (by omega)
    have h1 : ∃ t, spec_WaterAt.f k x0_0 x0_1 x0_2 x0_3 x0_4 x0_5 x1_0 = some t ∧ impl_WaterAt.f k x0_0 x0_1 x0_2 x0_3 x0_4 x0_5 x1_0 = some t := by
      unfold spec_WaterAt.f impl_WaterAt.f
      rw [hs, hi]
      cases r
      · exact ⟨(0, 0, 0, 0, 1), rfl, rfl⟩
      · obtain ⟨hc, hj, _, _, g1, g2⟩ := hr rfl
        rw [g1, g2]
        simp only [Option.bind_some]
        rw [in_val, within_val]
        simp only [Option.bind_some]
        obtain ⟨u, u1, u2⟩ := at_same x0_0 (by omega) hj x0_1 x0_2 x0_3 x0_4 x0_5 4 k x1_0 0 0 0 0 0 (by omega) (by omega) (by omega)
        unfold spec_l02At.f impl_Puzzle_at.f
        rw [u1, u2]
        rw [if_pos trivial]
        simp only [Option.bind_some]
        exact both _ _ _
    obtain ⟨t, h2, h3⟩ := h1
    obtain ⟨k, rfl⟩ : ∃ m, k = m + 1 := ⟨k - 1, by omega⟩
    simp only [Option.bind_some]
    rw [h2, h3]
    simp only [Option.bind_some]
    rw [eqWater_self (by omega)]
    simp only [Option.bind_some, laws_FnExactWaterAt.j0]
    rw [if_pos trivial, toPuzzle_val x0_0 x0_1 x0_2 x0_3 x0_4 x0_5 (by omega) (by omega)]
    simp only [Option.bind_some]
    rw [eqPuzzle_self x0_0 x0_1 x0_2 x0_3 x0_4 x0_5 (by omega) (by omega)]
    simp

end Go.Proofs.Ytodmfjophjhbeaa.Pure
