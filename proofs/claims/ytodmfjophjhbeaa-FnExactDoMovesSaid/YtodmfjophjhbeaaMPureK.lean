/- Plain laws: a move told rightly, by the reference and by the program; for texts that do without DoMove's law. -/
import Derived.Test.YtodmfjophjhbeaaMPureG
-- IMPORTS
import Derived.Test.YtodmfjophjhbeaaMx12
import Derived.Test.YtodmfjophjhbeaaMx17
namespace Go.Proofs.Ytodmfjophjhbeaa.Pure
open Go.RowKit Go.Proofs.Ytodmfjophjhbeaa.M Go.Proofs.YtodmfjophjhbeaaW.PrintWords Go.Proofs.YtodmfjophjhbeaaW.PrintLast Go.Proofs.YtodmfjophjhbeaaW.PrintMore
set_option linter.unusedVariables false
set_option linter.unusedSimpArgs false

theorem kj2_val (k : Nat) (a b c d x y z u : Int) : spec_l02Move.j2 (k + 1) a b c d x y z u = some (if (x == a && (y == b && (z == c && (u == d)))) = true then (0, 0, 0, 0, 4) else (x, y, z, u, 0)) := by
  rw [spec_l02Move.j2]
  by_cases h : (x == a && (y == b && (z == c && (u == d)))) = true
  · rw [if_pos h, if_pos h]
  · rw [if_neg h, if_neg h]
theorem knot4 (x a y b z c u d : Int) : (!(x == a) || (!(y == b) || (!(z == c) || (!(u == d))))) = !(x == a && (y == b && (z == c && (u == d)))) := by
  cases (x == a) <;> cases (y == b) <;> cases (z == c) <;> cases (u == d) <;> rfl
theorem kmj0 (k : Nat) (l : List Int) (p q s t : Int) (z : Bool) (a b c d x y u v : Int) : impl_Puzzle_moved.j0 (k + 1) l p q s t z a b c d x y u v = some (x, y, u, v, if z = true then (!(x == a) || (!(y == b) || (!(u == c) || (!(v == d))))) else false) := by
  rw [impl_Puzzle_moved.j0]
  cases z <;> rfl
/-- What a rightly told move makes: the reference and the program. -/
theorem kmoved_same {k : Nat} (l : List Int) (h1 : 1 ≤ (l.length : Int)) (h4 : (l.length : Int) ≤ 4) (p q s t : Int) (z : Bool) (a b c d m0 m1 m2 : Int)
    (wa : (Lit.int .i16 a).wf = true) (wb : (Lit.int .i16 b).wf = true) (wc : (Lit.int .i16 c).wf = true) (wd : (Lit.int .i16 d).wf = true)
    (hw : ∀ j : Int, 0 ≤ j → j < 4 → 0 ≤ rd [a, b, c, d] j ∧ (j < (l.length : Int) → rd [a, b, c, d] j ≤ rd l j)) (hl : ∀ j : Int, 0 ≤ j → j < (l.length : Int) → rd l j ≤ 32767)
    (hm : okM (l.length : Int) m0 m1 m2 = true) :
    ∃ x y z' u f, impl_Puzzle_moved.f (k + 3) l p q s t z a b c d m0 m1 m2 = some (x, y, z', u, f) ∧ spec_l02Move.j0 (k + 3) false l p q s t z a b c d m0 m1 m2 = some (if f = true then (x, y, z', u, 0) else (0, 0, 0, 0, 4)) := by
  have ra := wf16 wa
  have rb := wf16 wb
  have rc := wf16 wc
  have rd' := wf16 wd
  have hm1 : 0 ≤ m1 ∧ m1 ≤ (l.length : Int) - 1 := by simp [okM] at hm; exact hm.1
  have hin : rd [a, b, c, d] m1 ≤ 32767 := by
    have : m1 = 0 ∨ m1 = 1 ∨ m1 = 2 ∨ m1 = 3 := by omega
    rcases this with rfl | rfl | rfl | rfl <;> simp [rd] <;> omega
  have hx := hw m1 (by omega) (by omega)
  rw [show spec_l02Move.j0 (k + 3) = spec_l02Move.j0 ((k + 2) + 1) from rfl, spec_l02Move.j0, if_neg (by simp)]
  unfold impl_Puzzle_moved.f
  by_cases e0 : m0 = 0
  · have hm2 : 0 ≤ m2 ∧ m2 ≤ (l.length : Int) - 1 := by simp [okM, e0] at hm; omega
    have hy := hw m2 (by omega) (by omega)
    have hy2 := hy.2 (by omega)
    have hl2 := hl m2 (by omega) (by omega)
    have hwy : IntKind.i16.wrap ((rd l m2) - (rd [a, b, c, d] m2)) = (rd l m2) - (rd [a, b, c, d] m2) := wrap16_in (by omega) (by omega)
    rw [if_pos e0, if_pos e0, if_pos hm1.1, if_pos (show m1 < 4 by omega), if_pos hm2.1, if_pos (show m2 < (l.length : Int) by omega), if_pos (show m2 < 4 by omega)]
    have hmin0 : 0 ≤ mn (rd [a, b, c, d] m1) (IntKind.i16.wrap ((rd l m2) - (rd [a, b, c, d] m2))) := by rw [hwy]; unfold mn; split <;> omega
    have hmin1 : mn (rd [a, b, c, d] m1) (IntKind.i16.wrap ((rd l m2) - (rd [a, b, c, d] m2))) ≤ rd [a, b, c, d] m1 := by unfold mn; split <;> omega
    by_cases e : m1 = m2
    · rw [if_pos e, if_pos e]
      refine ⟨_, _, _, _, false, rfl, ?_⟩
      rw [show k + 2 = (k + 1) + 1 from rfl, spec_l02Move.j1, if_pos rfl]
      rfl
    · rw [if_neg e, if_neg e]
      refine ⟨_, _, _, _, _, rfl, ?_⟩
      rw [show k + 2 = (k + 1) + 1 from rfl, spec_l02Move.j1, if_neg (by simp), if_pos e0, if_pos hm1.1, if_pos (show m1 < 4 by omega), if_pos hm2.1, if_pos (show m2 < (l.length : Int) by omega), if_pos (show m2 < 4 by omega)]
      have hr := wrap16_rng ((rd l m2) - (rd [a, b, c, d] m2))
      rw [min_same (by omega) (by omega) hr.1 hr.2]
      simp only [Option.bind_some]
      generalize hg : mn (rd [a, b, c, d] m1) (IntKind.i16.wrap ((rd l m2) - (rd [a, b, c, d] m2))) = g at hmin0 hmin1
      rw [wrap16_in (show -32768 ≤ g by omega) (show g ≤ 32767 by omega), kj2_val, chg a b c d m1 m2 g ra rb rc rd' (by omega) (by omega) e hmin0 hmin1]
      cases decide (g > 0) <;> rfl
  · rw [if_neg e0, if_neg e0]
    by_cases e1 : m0 = 1
    · rw [if_pos e1, if_pos hm1.1, if_pos (show m1 < (l.length : Int) by omega), if_pos (show m1 < 4 by omega), show k + 3 = (k + 2) + 1 from rfl, kmj0]
      cases z with
      | false =>
        refine ⟨_, _, _, _, _, rfl, ?_⟩
        rw [show k + 2 = (k + 1) + 1 from rfl, Bool.not_false, spec_l02Move.j1, if_pos rfl]
        rfl
      | true =>
        refine ⟨_, _, _, _, _, rfl, ?_⟩
        rw [show k + 2 = (k + 1) + 1 from rfl, Bool.not_true, spec_l02Move.j1, if_neg (by simp), if_neg e0, if_pos e1, if_pos hm1.1, if_pos (show m1 < (l.length : Int) by omega), if_pos (show m1 < 4 by omega), kj2_val, if_pos (show true = true from rfl), knot4]
        generalize (aup m1 0 (rd l m1) a == a && (aup m1 1 (rd l m1) b == b && (aup m1 2 (rd l m1) c == c && (aup m1 3 (rd l m1) d == d)))) = w
        cases w <;> rfl
    · have e2 : m0 = 2 := by
        simp [okM, e0, e1] at hm; exact hm.2.1
      rw [if_neg e1, if_pos e2, if_pos hm1.1, if_pos (show m1 < 4 by omega), show k + 3 = (k + 2) + 1 from rfl, kmj0]
      cases z with
      | false =>
        refine ⟨_, _, _, _, _, rfl, ?_⟩
        rw [show k + 2 = (k + 1) + 1 from rfl, Bool.not_false, spec_l02Move.j1, if_pos rfl]
        rfl
      | true =>
        refine ⟨_, _, _, _, _, rfl, ?_⟩
        rw [show k + 2 = (k + 1) + 1 from rfl, Bool.not_true, spec_l02Move.j1, if_neg (by simp), if_neg e0, if_neg e1, if_pos e2, if_pos hm1.1, if_pos (show m1 < 4 by omega), kj2_val, if_pos (show true = true from rfl), knot4]
        generalize (aup m1 0 0 a == a && (aup m1 1 0 b == b && (aup m1 2 0 c == c && (aup m1 3 0 d == d)))) = w
        cases w <;> rfl
end Go.Proofs.Ytodmfjophjhbeaa.Pure
