/- Plain laws: the water that a move leaves is water again. -/
import Derived.Test.YtodmfjophjhbeaaMPureG
-- IMPORTS
import Derived.Test.YtodmfjophjhbeaaMx8
namespace Go.Proofs.Ytodmfjophjhbeaa.Pure
open Go.RowKit Go.Proofs.Ytodmfjophjhbeaa.M Go.Proofs.YtodmfjophjhbeaaW.PrintWords Go.Proofs.YtodmfjophjhbeaaW.PrintLast Go.Proofs.YtodmfjophjhbeaaW.PrintMore
set_option linter.unusedVariables false
set_option linter.unusedSimpArgs false

/-- What jug j holds at most. -/
def capL (l : List Int) (j : Int) : Int := if j < (l.length : Int) then rd l j else 0
def WF (l : List Int) (a b c d : Int) : Prop := ∀ j : Int, 0 ≤ j → j < 4 → 0 ≤ rd [a, b, c, d] j ∧ rd [a, b, c, d] j ≤ capL l j
theorem water_of (l : List Int) (a b c d : Int) (h : WF l a b c d) : ∀ (n k : Nat) (i : Int), 0 ≤ i → 4 - i ≤ n → n < k → spec_l02Water.l0 k l i a b c d = some true := by
  intro n
  induction n with
  | zero =>
    intro k i h0 h1 hk
    obtain ⟨k, rfl⟩ := fuel (show 1 ≤ k by omega)
    simp only [spec_l02Water.l0]; rw [if_neg (by omega)]
  | succ n ih =>
    intro k i h0 h1 hk
    obtain ⟨k, rfl⟩ := fuel (show 1 ≤ k by omega)
    by_cases h4 : i < 4
    · have hj := h i h0 h4
      simp only [spec_l02Water.l0]
      rw [if_pos h4, wi h0 (by omega), ih k (i + 1) (by omega) (by omega) (by omega)]
      unfold capL at hj
      by_cases hl : i < (l.length : Int)
      · rw [if_pos hl] at hj
        rw [if_pos hl]
        simp only [h0, if_true]
        rw [if_neg (by omega), if_neg (by omega)]
      · rw [if_neg hl] at hj
        rw [if_neg hl]
        simp only [h0, if_true]
        rw [if_neg (by omega), if_neg (by omega)]
    · simp only [spec_l02Water.l0]; rw [if_neg h4]
theorem wf_pour (a b c d i j t : Int) (C : Int → Int) (hw : ∀ n : Int, 0 ≤ n → n < 4 → 0 ≤ rd [a, b, c, d] n ∧ rd [a, b, c, d] n ≤ C n) (hC : ∀ n : Int, 0 ≤ n → n < 4 → C n ≤ 32767)
    (hi : i = 0 ∨ i = 1 ∨ i = 2 ∨ i = 3) (hj : j = 0 ∨ j = 1 ∨ j = 2 ∨ j = 3) (hij : i ≠ j) (ht : 0 ≤ t) (htx : t ≤ rd [a, b, c, d] i) (hty : t ≤ C j - rd [a, b, c, d] j) :
    ∀ n : Int, 0 ≤ n → n < 4 → 0 ≤ rd [aup j 0 (IntKind.i16.wrap ((rd [aup i 0 (IntKind.i16.wrap ((rd [a, b, c, d] i) - t)) a, aup i 1 (IntKind.i16.wrap ((rd [a, b, c, d] i) - t)) b, aup i 2 (IntKind.i16.wrap ((rd [a, b, c, d] i) - t)) c, aup i 3 (IntKind.i16.wrap ((rd [a, b, c, d] i) - t)) d] j) + t)) (aup i 0 (IntKind.i16.wrap ((rd [a, b, c, d] i) - t)) a),
      aup j 1 (IntKind.i16.wrap ((rd [aup i 0 (IntKind.i16.wrap ((rd [a, b, c, d] i) - t)) a, aup i 1 (IntKind.i16.wrap ((rd [a, b, c, d] i) - t)) b, aup i 2 (IntKind.i16.wrap ((rd [a, b, c, d] i) - t)) c, aup i 3 (IntKind.i16.wrap ((rd [a, b, c, d] i) - t)) d] j) + t)) (aup i 1 (IntKind.i16.wrap ((rd [a, b, c, d] i) - t)) b),
      aup j 2 (IntKind.i16.wrap ((rd [aup i 0 (IntKind.i16.wrap ((rd [a, b, c, d] i) - t)) a, aup i 1 (IntKind.i16.wrap ((rd [a, b, c, d] i) - t)) b, aup i 2 (IntKind.i16.wrap ((rd [a, b, c, d] i) - t)) c, aup i 3 (IntKind.i16.wrap ((rd [a, b, c, d] i) - t)) d] j) + t)) (aup i 2 (IntKind.i16.wrap ((rd [a, b, c, d] i) - t)) c),
      aup j 3 (IntKind.i16.wrap ((rd [aup i 0 (IntKind.i16.wrap ((rd [a, b, c, d] i) - t)) a, aup i 1 (IntKind.i16.wrap ((rd [a, b, c, d] i) - t)) b, aup i 2 (IntKind.i16.wrap ((rd [a, b, c, d] i) - t)) c, aup i 3 (IntKind.i16.wrap ((rd [a, b, c, d] i) - t)) d] j) + t)) (aup i 3 (IntKind.i16.wrap ((rd [a, b, c, d] i) - t)) d)] n ∧
    rd [aup j 0 (IntKind.i16.wrap ((rd [aup i 0 (IntKind.i16.wrap ((rd [a, b, c, d] i) - t)) a, aup i 1 (IntKind.i16.wrap ((rd [a, b, c, d] i) - t)) b, aup i 2 (IntKind.i16.wrap ((rd [a, b, c, d] i) - t)) c, aup i 3 (IntKind.i16.wrap ((rd [a, b, c, d] i) - t)) d] j) + t)) (aup i 0 (IntKind.i16.wrap ((rd [a, b, c, d] i) - t)) a),
      aup j 1 (IntKind.i16.wrap ((rd [aup i 0 (IntKind.i16.wrap ((rd [a, b, c, d] i) - t)) a, aup i 1 (IntKind.i16.wrap ((rd [a, b, c, d] i) - t)) b, aup i 2 (IntKind.i16.wrap ((rd [a, b, c, d] i) - t)) c, aup i 3 (IntKind.i16.wrap ((rd [a, b, c, d] i) - t)) d] j) + t)) (aup i 1 (IntKind.i16.wrap ((rd [a, b, c, d] i) - t)) b),
      aup j 2 (IntKind.i16.wrap ((rd [aup i 0 (IntKind.i16.wrap ((rd [a, b, c, d] i) - t)) a, aup i 1 (IntKind.i16.wrap ((rd [a, b, c, d] i) - t)) b, aup i 2 (IntKind.i16.wrap ((rd [a, b, c, d] i) - t)) c, aup i 3 (IntKind.i16.wrap ((rd [a, b, c, d] i) - t)) d] j) + t)) (aup i 2 (IntKind.i16.wrap ((rd [a, b, c, d] i) - t)) c),
      aup j 3 (IntKind.i16.wrap ((rd [aup i 0 (IntKind.i16.wrap ((rd [a, b, c, d] i) - t)) a, aup i 1 (IntKind.i16.wrap ((rd [a, b, c, d] i) - t)) b, aup i 2 (IntKind.i16.wrap ((rd [a, b, c, d] i) - t)) c, aup i 3 (IntKind.i16.wrap ((rd [a, b, c, d] i) - t)) d] j) + t)) (aup i 3 (IntKind.i16.wrap ((rd [a, b, c, d] i) - t)) d)] n ≤ C n := by
  have h0 := hw 0 (by omega) (by omega)
  have h1 := hw 1 (by omega) (by omega)
  have h2 := hw 2 (by omega) (by omega)
  have h3 := hw 3 (by omega) (by omega)
  have c0 := hC 0 (by omega) (by omega)
  have c1 := hC 1 (by omega) (by omega)
  have c2 := hC 2 (by omega) (by omega)
  have c3 := hC 3 (by omega) (by omega)
  simp only [show rd [a, b, c, d] 0 = a from rfl, show rd [a, b, c, d] 1 = b from rfl, show rd [a, b, c, d] 2 = c from rfl, show rd [a, b, c, d] 3 = d from rfl] at h0 h1 h2 h3
  intro n n0 n4
  have hn : n = 0 ∨ n = 1 ∨ n = 2 ∨ n = 3 := by omega
  have hA : IntKind.i16.wrap (rd [a, b, c, d] i - t) = rd [a, b, c, d] i - t := by
    rcases hi with rfl | rfl | rfl | rfl <;> simp only [show rd [a, b, c, d] 0 = a from rfl, show rd [a, b, c, d] 1 = b from rfl, show rd [a, b, c, d] 2 = c from rfl, show rd [a, b, c, d] 3 = d from rfl] at htx ⊢ <;> exact wrap16_in (by omega) (by omega)
  have hB : IntKind.i16.wrap (rd [a, b, c, d] j + t) = rd [a, b, c, d] j + t := by
    rcases hj with rfl | rfl | rfl | rfl <;> simp only [show rd [a, b, c, d] 0 = a from rfl, show rd [a, b, c, d] 1 = b from rfl, show rd [a, b, c, d] 2 = c from rfl, show rd [a, b, c, d] 3 = d from rfl] at hty ⊢ <;> exact wrap16_in (by omega) (by omega)
  rw [hA]
  rcases hi with rfl | rfl | rfl | rfl <;> rcases hj with rfl | rfl | rfl | rfl <;> first | (exact absurd rfl hij) | (simp [rd] at htx hty hB; rcases hn with rfl | rfl | rfl | rfl <;> simp [rd, aup, hB] <;> omega)

end Go.Proofs.Ytodmfjophjhbeaa.Pure
