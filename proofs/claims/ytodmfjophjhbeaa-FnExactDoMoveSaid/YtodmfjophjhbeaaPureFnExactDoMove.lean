/- The program's DoMove returns what the reference's returns. Conditions: none. -/
import Derived.Test.YtodmfjophjhbeaaMPureG
-- IMPORTS
import Derived.Test.YtodmfjophjhbeaaMx6
import Derived.Test.YtodmfjophjhbeaaMx13
import Derived.Test.YtodmfjophjhbeaaMx14
import Derived.Test.YtodmfjophjhbeaaMx15
import Derived.Test.YtodmfjophjhbeaaMx16
import Derived.Test.YtodmfjophjhbeaaMx22
import Derived.Test.YtodmfjophjhbeaaMx23
namespace Go.Proofs.Ytodmfjophjhbeaa.Pure
open Go.RowKit Go.Proofs.Ytodmfjophjhbeaa.M Go.Proofs.YtodmfjophjhbeaaW.PrintWords Go.Proofs.YtodmfjophjhbeaaW.PrintLast Go.Proofs.YtodmfjophjhbeaaW.PrintMore
set_option linter.unusedVariables false
set_option linter.unusedSimpArgs false

theorem j2_val (k : Nat) (a b c d x y z u : Int) : spec_l02Move.j2 (k + 1) a b c d x y z u = some (if (x == a && (y == b && (z == c && (u == d)))) = true then (0, 0, 0, 0, 4) else (x, y, z, u, 0)) := by
  rw [spec_l02Move.j2]
  by_cases h : (x == a && (y == b && (z == c && (u == d)))) = true
  · rw [if_pos h, if_pos h]
  · rw [if_neg h, if_neg h]
theorem not4 (x a y b z c u d : Int) : (!(x == a) || (!(y == b) || (!(z == c) || (!(u == d))))) = !(x == a && (y == b && (z == c && (u == d)))) := by
  cases (x == a) <;> cases (y == b) <;> cases (z == c) <;> cases (u == d) <;> rfl
theorem mj0 (k : Nat) (l : List Int) (p q s t : Int) (z : Bool) (a b c d x y u v : Int) : impl_Puzzle_moved.j0 (k + 1) l p q s t z a b c d x y u v = some (x, y, u, v, if z = true then (!(x == a) || (!(y == b) || (!(u == c) || (!(v == d))))) else false) := by
  rw [impl_Puzzle_moved.j0]
  cases z <;> rfl
/-- What a rightly told move makes: the reference and the program. -/
theorem moved_same {k : Nat} (l : List Int) (h1 : 1 ≤ (l.length : Int)) (h4 : (l.length : Int) ≤ 4) (p q s t : Int) (z : Bool) (a b c d m0 m1 m2 : Int)
    (wa : (Lit.int .i16 a).wf = true) (wb : (Lit.int .i16 b).wf = true) (wc : (Lit.int .i16 c).wf = true) (wd : (Lit.int .i16 d).wf = true)
    (hw : ∀ j : Int, 0 ≤ j → j < 4 → 0 ≤ rd [a, b, c, d] j ∧ (j < (l.length : Int) → rd [a, b, c, d] j ≤ rd l j)) (hl : ∀ j : Int, 0 ≤ j → j < (l.length : Int) → rd l j ≤ 32767)
    (hm : okM (l.length : Int) m0 m1 m2 = true) :
    ∃ x y z' u f, impl_Puzzle_moved.f (k + 3) l p q s t z a b c d m0 m1 m2 = some (x, y, z', u, f) ∧ spec_l02Move.j0 (k + 3) false l p q s t z a b c d m0 m1 m2 = some (if f = true then (x, y, z', u, 0) else (0, 0, 0, 0, 4)) := by
  have ra := wf16 wa
  have rb := wf16 wb
  have rc := wf16 wc
  have rd' := wf16 wd
  have hm1 : 0 ≤ m1 ∧ m1 ≤ (l.length : Int) - 1 := by simp [okM] at hm; exact hm.1
  have hin : rd [a, b, c, d] m1 ≤ 32767 := by
    have : m1 = 0 ∨ m1 = 1 ∨ m1 = 2 ∨ m1 = 3 := by omega
    rcases this with rfl | rfl | rfl | rfl <;> simp [rd] <;> omega
  have hx := hw m1 (by omega) (by omega)
  rw [show spec_l02Move.j0 (k + 3) = spec_l02Move.j0 ((k + 2) + 1) from rfl, spec_l02Move.j0, if_neg (by simp)]
  unfold impl_Puzzle_moved.f
  by_cases e0 : m0 = 0
  · have hm2 : 0 ≤ m2 ∧ m2 ≤ (l.length : Int) - 1 := by simp [okM, e0] at hm; omega
    have hy := hw m2 (by omega) (by omega)
    have hy2 := hy.2 (by omega)
    have hl2 := hl m2 (by omega) (by omega)
    have hwy : IntKind.i16.wrap ((rd l m2) - (rd [a, b, c, d] m2)) = (rd l m2) - (rd [a, b, c, d] m2) := wrap16_in (by omega) (by omega)
    rw [if_pos e0, if_pos e0, if_pos hm1.1, if_pos (show m1 < 4 by omega), if_pos hm2.1, if_pos (show m2 < (l.length : Int) by omega), if_pos (show m2 < 4 by omega)]
    have hmin0 : 0 ≤ mn (rd [a, b, c, d] m1) (IntKind.i16.wrap ((rd l m2) - (rd [a, b, c, d] m2))) := by rw [hwy]; unfold mn; split <;> omega
    have hmin1 : mn (rd [a, b, c, d] m1) (IntKind.i16.wrap ((rd l m2) - (rd [a, b, c, d] m2))) ≤ rd [a, b, c, d] m1 := by unfold mn; split <;> omega
    by_cases e : m1 = m2
    · rw [if_pos e, if_pos e]
      refine ⟨_, _, _, _, false, rfl, ?_⟩
      rw [show k + 2 = (k + 1) + 1 from rfl, spec_l02Move.j1, if_pos rfl]
      rfl
    · rw [if_neg e, if_neg e]
      refine ⟨_, _, _, _, _, rfl, ?_⟩
      rw [show k + 2 = (k + 1) + 1 from rfl, spec_l02Move.j1, if_neg (by simp), if_pos e0, if_pos hm1.1, if_pos (show m1 < 4 by omega), if_pos hm2.1, if_pos (show m2 < (l.length : Int) by omega), if_pos (show m2 < 4 by omega)]
      have hr := wrap16_rng ((rd l m2) - (rd [a, b, c, d] m2))
      rw [min_same (by omega) (by omega) hr.1 hr.2]
      simp only [Option.bind_some]
      generalize hg : mn (rd [a, b, c, d] m1) (IntKind.i16.wrap ((rd l m2) - (rd [a, b, c, d] m2))) = g at hmin0 hmin1
      rw [wrap16_in (show -32768 ≤ g by omega) (show g ≤ 32767 by omega), j2_val, chg a b c d m1 m2 g ra rb rc rd' (by omega) (by omega) e hmin0 hmin1]
      cases decide (g > 0) <;> rfl
  · rw [if_neg e0, if_neg e0]
    by_cases e1 : m0 = 1
    · rw [if_pos e1, if_pos hm1.1, if_pos (show m1 < (l.length : Int) by omega), if_pos (show m1 < 4 by omega), show k + 3 = (k + 2) + 1 from rfl, mj0]
      cases z with
      | false =>
        refine ⟨_, _, _, _, _, rfl, ?_⟩
        rw [show k + 2 = (k + 1) + 1 from rfl, Bool.not_false, spec_l02Move.j1, if_pos rfl]
        rfl
      | true =>
        refine ⟨_, _, _, _, _, rfl, ?_⟩
        rw [show k + 2 = (k + 1) + 1 from rfl, Bool.not_true, spec_l02Move.j1, if_neg (by simp), if_neg e0, if_pos e1, if_pos hm1.1, if_pos (show m1 < (l.length : Int) by omega), if_pos (show m1 < 4 by omega), j2_val, if_pos (show true = true from rfl), not4]
        generalize (aup m1 0 (rd l m1) a == a && (aup m1 1 (rd l m1) b == b && (aup m1 2 (rd l m1) c == c && (aup m1 3 (rd l m1) d == d)))) = w
        cases w <;> rfl
    · have e2 : m0 = 2 := by
        simp [okM, e0, e1] at hm; exact hm.2.1
      rw [if_neg e1, if_pos e2, if_pos hm1.1, if_pos (show m1 < 4 by omega), show k + 3 = (k + 2) + 1 from rfl, mj0]
      cases z with
      | false =>
        refine ⟨_, _, _, _, _, rfl, ?_⟩
        rw [show k + 2 = (k + 1) + 1 from rfl, Bool.not_false, spec_l02Move.j1, if_pos rfl]
        rfl
      | true =>
        refine ⟨_, _, _, _, _, rfl, ?_⟩
        rw [show k + 2 = (k + 1) + 1 from rfl, Bool.not_true, spec_l02Move.j1, if_neg (by simp), if_neg e0, if_neg e1, if_pos e2, if_pos hm1.1, if_pos (show m1 < 4 by omega), j2_val, if_pos (show true = true from rfl), not4]
        generalize (aup m1 0 0 a == a && (aup m1 1 0 b == b && (aup m1 2 0 c == c && (aup m1 3 0 d == d)))) = w
        cases w <;> rfl
theorem do_same {k : Nat} (hk : 3 ≤ k) (l : List Int) (hlw : ∀ x ∈ l, (Lit.int .i16 x).wf = true) (hl : l.length ≤ 1048576) (hk2 : l.length + 10 ≤ k) (p q s t : Int) (z : Bool) (a b c d m0 m1 m2 : Int)
    (wa : (Lit.int .i16 a).wf = true) (wb : (Lit.int .i16 b).wf = true) (wc : (Lit.int .i16 c).wf = true) (wd : (Lit.int .i16 d).wf = true)
    (w0 : (Lit.int .i8 m0).wf = true) (w1 : (Lit.int .i8 m1).wf = true) (w2 : (Lit.int .i8 m2).wf = true) :
    ∃ r, spec_DoMove.f k l p q s t z a b c d m0 m1 m2 = some r ∧ impl_DoMove.f k l p q s t z a b c d m0 m1 m2 = some r := by
  obtain ⟨v, hs, hi, hv⟩ := valid_val (k := k) l p q s t z hl (by omega)
  obtain ⟨u, us, ui⟩ := water_val (k := k) (by omega) l hl a b c d p q s t z
  unfold spec_DoMove.f impl_DoMove.f impl_ValidWater.f
  rw [hs, hi]
  simp only [Option.bind_some]
  cases v with
  | false => exact ⟨(0, 0, 0, 0, 1), by simp, by simp⟩
  | true =>
    obtain ⟨hc, hj, _⟩ := hv rfl
    rw [if_pos rfl, if_pos rfl, us, ui]
    simp only [Option.bind_some]
    cases u with
    | false => exact ⟨(0, 0, 0, 0, 1), by simp, by simp⟩
    | true =>
      rw [if_pos rfl, if_pos rfl, isMove_val l hc.1 hc.2 p q s t z m0 m1 m2 w1 w2, spec_head k l hc.1 hc.2 p q s t z a b c d m0 m1 m2 w0 w1 w2]
      simp only [Option.bind_some]
      obtain ⟨k, rfl⟩ := fuel (show 3 ≤ k by omega)
      have hwf : ∀ j : Int, 0 ≤ j → j < 4 → _ := water_facts l a b c d 4 (k + 3) 0 (by omega) (by omega) (by omega) (by simpa [spec_l02Water.f] using us)
      have hlr : ∀ j : Int, 0 ≤ j → j < (l.length : Int) → rd l j ≤ 32767 := by
        intro j h0 h1
        refine (wf16 (hlw _ ?_)).2
        unfold rd
        have : j.toNat < l.length := by omega
        rw [List.getD_eq_getElem?_getD, List.getElem?_eq_getElem this]
        exact List.getElem_mem this
      cases hm : okM (l.length : Int) m0 m1 m2 with
      | false =>
        rw [Bool.not_false, if_neg (by simp), show k + 3 = (k + 2) + 1 from rfl, spec_l02Move.j0, if_pos rfl]
        exact ⟨(0, 0, 0, 0, 2), rfl, rfl⟩
      | true =>
        obtain ⟨x, y, z', u, f, e1, e2⟩ := moved_same (k := k) l hc.1 hc.2 p q s t z a b c d m0 m1 m2 wa wb wc wd hwf hlr hm
        rw [Bool.not_true, if_pos rfl, e1, e2]
        simp only [Option.bind_some]
        cases f
        · exact ⟨(0, 0, 0, 0, 4), rfl, rfl⟩
        · exact ⟨(x, y, z', u, 0), rfl, rfl⟩
theorem FnExactDoMove (x0_0 : (List Int)) (x0_1 : Int) (x0_2 : Int) (x0_3 : Int) (x0_4 : Int) (x0_5 : Bool) (x1_0 : Int) (x1_1 : Int) (x1_2 : Int) (x1_3 : Int) (x2_0 : Int) (x2_1 : Int) (x2_2 : Int) (w0_0 : (fun xs : List Int => xs.length ≤ maxLen ∧ ∀ x ∈ xs, (fun x : Int => (Lit.int .i16 x).wf = true) x) x0_0) (w0_1 : (fun x : Int => (Lit.int .i16 x).wf = true) x0_1) (w0_2 : (fun x : Int => (Lit.int .i16 x).wf = true) x0_2) (w0_3 : (fun x : Int => (Lit.int .i16 x).wf = true) x0_3) (w0_4 : (fun x : Int => (Lit.int .i16 x).wf = true) x0_4) (w1_0 : (fun x : Int => (Lit.int .i16 x).wf = true) x1_0) (w1_1 : (fun x : Int => (Lit.int .i16 x).wf = true) x1_1) (w1_2 : (fun x : Int => (Lit.int .i16 x).wf = true) x1_2) (w1_3 : (fun x : Int => (Lit.int .i16 x).wf = true) x1_3) (w2_0 : (fun x : Int => (Lit.int .i8 x).wf = true) x2_0) (w2_1 : (fun x : Int => (Lit.int .i8 x).wf = true) x2_1) (w2_2 : (fun x : Int => (Lit.int .i8 x).wf = true) x2_2) : ∃ k, laws_FnExactDoMove.f k x0_0 x0_1 x0_2 x0_3 x0_4 x0_5 x1_0 x1_1 x1_2 x1_3 x2_0 x2_1 x2_2 = some true := by
  refine ⟨x0_0.length + 20, ?_⟩
  have hk : ∃ k, k = x0_0.length + 20 := ⟨_, rfl⟩
  obtain ⟨k, hk⟩ := hk
  rw [← hk]
  unfold laws_FnExactDoMove.f laws_toMove.f
  rw [szPuzzle_val x0_0 x0_1 x0_2 x0_3 x0_4 x0_5 w0_0.1 1048576 (by omega) (by omega)]
  simp only [Option.bind_some]
  by_cases e0 : (1048576 : Int) - (x0_0.length : Int) < 0
  · rw [if_pos e0]; rfl
  · rw [if_neg e0, if_neg e0, toPuzzle_val x0_0 x0_1 x0_2 x0_3 x0_4 x0_5 (by omega) (by omega), toWater_val (by omega)]
    obtain ⟨⟨a, b, c, d, e⟩, h2, h3⟩ := do_same (k := k) (by omega) x0_0 w0_0.2 (by omega) (by omega) x0_1 x0_2 x0_3 x0_4 x0_5 x1_0 x1_1 x1_2 x1_3 x2_0 x2_1 x2_2 w1_0 w1_1 w1_2 w1_3 w2_0 w2_1 w2_2
    obtain ⟨k, rfl⟩ : ∃ m, k = m + 1 := ⟨k - 1, by omega⟩
    simp only [Option.bind_some]
    rw [h2, h3]
    simp only [Option.bind_some]
    rw [eqWater_self (by omega)]
    simp only [Option.bind_some, laws_FnExactDoMove.j0]
    rw [if_pos trivial, bne_self_eq_false, if_neg (by simp), toPuzzle_val x0_0 x0_1 x0_2 x0_3 x0_4 x0_5 (by omega) (by omega)]
    simp only [Option.bind_some]
    rw [eqPuzzle_self x0_0 x0_1 x0_2 x0_3 x0_4 x0_5 (by omega) (by omega)]
    simp

end Go.Proofs.Ytodmfjophjhbeaa.Pure
