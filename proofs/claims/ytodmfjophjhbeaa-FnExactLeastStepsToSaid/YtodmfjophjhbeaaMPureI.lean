/- Plain laws: what the program's moved leaves is water again. -/
import Derived.Test.YtodmfjophjhbeaaMPureK
-- IMPORTS
import Derived.Test.YtodmfjophjhbeaaMx18
namespace Go.Proofs.Ytodmfjophjhbeaa.Pure
open Go.RowKit Go.Proofs.Ytodmfjophjhbeaa.M Go.Proofs.YtodmfjophjhbeaaW.PrintWords Go.Proofs.YtodmfjophjhbeaaW.PrintLast Go.Proofs.YtodmfjophjhbeaaW.PrintMore
set_option linter.unusedVariables false
set_option linter.unusedSimpArgs false

theorem mvj0 (k : Nat) (l : List Int) (p q s t : Int) (z : Bool) (a b c d x y u v : Int) : impl_Puzzle_moved.j0 (k + 1) l p q s t z a b c d x y u v = some (x, y, u, v, if z = true then (!(x == a) || (!(y == b) || (!(u == c) || (!(v == d))))) else false) := by
  rw [impl_Puzzle_moved.j0]
  cases z <;> rfl
theorem wf_put (l : List Int) (a b c d i v : Int) (hw : WF l a b c d) (hi : i = 0 ∨ i = 1 ∨ i = 2 ∨ i = 3) (h0 : 0 ≤ v) (h1 : v ≤ capL l i) : WF l (aup i 0 v a) (aup i 1 v b) (aup i 2 v c) (aup i 3 v d) := by
  intro n n0 n4
  have h := hw n n0 n4
  have hn : n = 0 ∨ n = 1 ∨ n = 2 ∨ n = 3 := by omega
  rcases hi with rfl | rfl | rfl | rfl <;> rcases hn with rfl | rfl | rfl | rfl <;> simp [rd, aup] at h ⊢ <;> omega
theorem moved_wf {k : Nat} (l : List Int) (h1 : 1 ≤ (l.length : Int)) (h4 : (l.length : Int) ≤ 4) (p q s t : Int) (z : Bool) (a b c d m0 m1 m2 : Int)
    (hw : WF l a b c d) (hl : ∀ j : Int, 0 ≤ j → j < (l.length : Int) → 0 ≤ rd l j ∧ rd l j ≤ 32767) (hm : okM (l.length : Int) m0 m1 m2 = true) {x y z' u : Int}
    (he : impl_Puzzle_moved.f (k + 3) l p q s t z a b c d m0 m1 m2 = some (x, y, z', u, true)) : WF l x y z' u := by
  have hm1 : 0 ≤ m1 ∧ m1 ≤ (l.length : Int) - 1 := by simp [okM] at hm; exact hm.1
  have hC : ∀ n : Int, 0 ≤ n → n < 4 → capL l n ≤ 32767 := by
    intro n n0 n4
    unfold capL
    by_cases h : n < (l.length : Int)
    · rw [if_pos h]; exact (hl n n0 h).2
    · rw [if_neg h]; omega
  have hc : ∀ n : Int, n < (l.length : Int) → capL l n = rd l n := fun n h => by unfold capL; rw [if_pos h]
  unfold impl_Puzzle_moved.f at he
  by_cases e0 : m0 = 0
  · have hm2 : 0 ≤ m2 ∧ m2 ≤ (l.length : Int) - 1 := by simp [okM, e0] at hm; omega
    have hx := hw m1 (by omega) (by omega)
    have hy := hw m2 (by omega) (by omega)
    rw [hc m2 (by omega)] at hy
    have hl2 := hl m2 (by omega) (by omega)
    have hwy : IntKind.i16.wrap ((rd l m2) - (rd [a, b, c, d] m2)) = (rd l m2) - (rd [a, b, c, d] m2) := wrap16_in (by omega) (by omega)
    rw [if_pos e0, if_pos hm1.1, if_pos (show m1 < 4 by omega), if_pos hm2.1, if_pos (show m2 < (l.length : Int) by omega), if_pos (show m2 < 4 by omega)] at he
    by_cases e : m1 = m2
    · rw [if_pos e] at he
      simp only [Option.some.injEq, Prod.mk.injEq] at he
      exact absurd he.2.2.2.2 (by simp)
    · rw [if_neg e] at he
      simp only [Option.some.injEq, Prod.mk.injEq] at he
      obtain ⟨rfl, rfl, rfl, rfl, _⟩ := he
      refine wf_pour a b c d m1 m2 _ (capL l) hw hC (by omega) (by omega) e ?_ ?_ ?_
      · rw [hwy]; unfold mn; split <;> omega
      · unfold mn; split <;> omega
      · rw [hwy, hc m2 (by omega)]; unfold mn; split <;> omega
  · rw [if_neg e0] at he
    by_cases e1 : m0 = 1
    · rw [if_pos e1, if_pos hm1.1, if_pos (show m1 < (l.length : Int) by omega), if_pos (show m1 < 4 by omega), show k + 3 = (k + 2) + 1 from rfl, mvj0] at he
      simp only [Option.some.injEq, Prod.mk.injEq] at he
      obtain ⟨rfl, rfl, rfl, rfl, _⟩ := he
      exact wf_put l a b c d m1 _ hw (by omega) (hl m1 hm1.1 (by omega)).1 (by rw [hc m1 (by omega)]; exact Int.le_refl _)
    · have e2 : m0 = 2 := by
        simp [okM, e0, e1] at hm; exact hm.2.1
      rw [if_neg e1, if_pos e2, if_pos hm1.1, if_pos (show m1 < 4 by omega), show k + 3 = (k + 2) + 1 from rfl, mvj0] at he
      simp only [Option.some.injEq, Prod.mk.injEq] at he
      obtain ⟨rfl, rfl, rfl, rfl, _⟩ := he
      refine wf_put l a b c d m1 0 hw (by omega) (Int.le_refl _) ?_
      rw [hc m1 (by omega)]
      exact (hl m1 hm1.1 (by omega)).1

end Go.Proofs.Ytodmfjophjhbeaa.Pure
