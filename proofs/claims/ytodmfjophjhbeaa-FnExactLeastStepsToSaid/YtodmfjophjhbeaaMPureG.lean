/- Plain laws of one move: what the reference makes of it, and the program. -/
import Derived.Test.YtodmfjophjhbeaaMPureB
-- IMPORTS
import Derived.Test.YtodmfjophjhbeaaMx3
import Derived.Test.YtodmfjophjhbeaaMx7
import Derived.Test.YtodmfjophjhbeaaMx8
import Derived.Test.YtodmfjophjhbeaaMx14
import Derived.Test.YtodmfjophjhbeaaMx19
namespace Go.Proofs.Ytodmfjophjhbeaa.Pure
open Go.RowKit Go.Proofs.Ytodmfjophjhbeaa.M Go.Proofs.YtodmfjophjhbeaaW.PrintWords Go.Proofs.YtodmfjophjhbeaaW.PrintLast Go.Proofs.YtodmfjophjhbeaaW.PrintMore
set_option linter.unusedVariables false
set_option linter.unusedSimpArgs false

theorem wrap16_in {x : Int} (h0 : -32768 ≤ x) (h1 : x ≤ 32767) : IntKind.i16.wrap x = x := by
  simp only [IntKind.wrap, IntKind.bits, IntKind.signed]; simp; split <;> omega
theorem wrap16_rng (x : Int) : -32768 ≤ IntKind.i16.wrap x ∧ IntKind.i16.wrap x ≤ 32767 := by
  simp only [IntKind.wrap, IntKind.bits, IntKind.signed]; simp; split <;> omega
theorem w64s {x : Int} (h0 : -32768 ≤ x) (h1 : x ≤ 32767) : wrap64 x = x := by unfold wrap64; omega
theorem wf8b {a : Int} (h : (Lit.int .i8 a).wf = true) : -128 ≤ a ∧ a ≤ 127 := by
  have h' : IntKind.i8.min ≤ a ∧ a ≤ IntKind.i8.max := by simpa [Lit.wf] using h
  exact h'
theorem water_facts (l : List Int) (a b c d : Int) : ∀ (n k : Nat) (i : Int), 0 ≤ i → 4 - i ≤ n → n < k → spec_l02Water.l0 k l i a b c d = some true →
    ∀ j : Int, i ≤ j → j < 4 → 0 ≤ rd [a, b, c, d] j ∧ (j < (l.length : Int) → rd [a, b, c, d] j ≤ rd l j) := by
  intro n
  induction n with
  | zero => intro k i h0 h1 hk _ j hj hj2; omega
  | succ n ih =>
    intro k i h0 h1 hk h j hj hj2
    obtain ⟨k, rfl⟩ := fuel (show 1 ≤ k by omega)
    simp only [spec_l02Water.l0] at h
    rw [if_pos (by omega), wi h0 (by omega)] at h
    have hn := ih k (i + 1) (by omega) (by omega) (by omega)
    by_cases hl : i < (l.length : Int)
    · rw [if_pos hl] at h
      simp only [h0, if_true] at h
      by_cases e1 : rd [a, b, c, d] i < 0
      · rw [if_pos e1] at h; simp at h
      · rw [if_neg e1] at h
        by_cases e2 : rd [a, b, c, d] i > rd l i
        · rw [if_pos e2] at h; simp at h
        · rw [if_neg e2] at h
          by_cases hji : j = i
          · subst hji; exact ⟨by omega, fun _ => by omega⟩
          · exact hn h j (by omega) hj2
    · rw [if_neg hl] at h
      simp only [h0, if_true] at h
      by_cases e1 : rd [a, b, c, d] i < 0
      · rw [if_pos e1] at h; simp at h
      · rw [if_neg e1] at h
        by_cases e2 : rd [a, b, c, d] i > 0
        · rw [if_pos e2] at h; simp at h
        · rw [if_neg e2] at h
          by_cases hji : j = i
          · subst hji; exact ⟨by omega, fun hx => absurd hx hl⟩
          · exact hn h j (by omega) hj2
/-- A move that is told rightly, for n jugs. -/
def okM (n m0 m1 m2 : Int) : Bool := decide (0 ≤ m1 ∧ m1 ≤ n - 1) && (if m0 = 0 then decide (0 ≤ m2 ∧ m2 ≤ n - 1) else if m0 = 1 then m2 == 0 else if m0 = 2 then m2 == 0 else false)
theorem isMove_val (l : List Int) (h1 : 1 ≤ (l.length : Int)) (h4 : (l.length : Int) ≤ 4) (p q s t : Int) (z : Bool) (m0 m1 m2 : Int) (w1 : (Lit.int .i8 m1).wf = true) (w2 : (Lit.int .i8 m2).wf = true) :
    impl_Puzzle_isMove.f l p q s t z m0 m1 m2 = some (okM (l.length : Int) m0 m1 m2) := by
  have r1 := wf8b w1
  have r2 := wf8b w2
  unfold impl_Puzzle_isMove.f impl_size_int16.f
  simp only [Option.bind_some]
  rw [show wrap64 ((l.length : Int) - 1) = (l.length : Int) - 1 by unfold wrap64; omega, w64s (x := m1) (by omega) (by omega), w64s (x := m2) (by omega) (by omega), within_val, within_val]
  simp only [Option.bind_some]
  unfold okM
  by_cases c : 0 ≤ m1 ∧ m1 ≤ (l.length : Int) - 1
  · rw [if_pos (by simpa using c)]
    simp only [c, and_self, decide_true, Bool.true_and]
    by_cases e0 : m0 = 0
    · rw [if_pos e0, if_pos e0]
    · rw [if_neg e0, if_neg e0]
      by_cases e1 : m0 = 1
      · rw [if_pos e1, if_pos e1]
      · rw [if_neg e1, if_neg e1]
        by_cases e2 : m0 = 2
        · rw [if_pos e2, if_pos e2]
        · rw [if_neg e2, if_neg e2]
  · rw [if_neg (by simpa using c)]
    simp [c]
theorem spec_head (k : Nat) (l : List Int) (h1 : 1 ≤ (l.length : Int)) (h4 : (l.length : Int) ≤ 4) (p q s t : Int) (z : Bool) (a b c d m0 m1 m2 : Int) (w0 : (Lit.int .i8 m0).wf = true) (w1 : (Lit.int .i8 m1).wf = true) (w2 : (Lit.int .i8 m2).wf = true) :
    spec_l02Move.f k l p q s t z a b c d m0 m1 m2 = spec_l02Move.j0 k (!okM (l.length : Int) m0 m1 m2) l p q s t z a b c d m0 m1 m2 := by
  have r0 := wf8b w0
  have r1 := wf8b w1
  have r2 := wf8b w2
  unfold spec_l02Move.f
  rw [show wrap64 ((l.length : Int) - 1) = (l.length : Int) - 1 by unfold wrap64; omega, w64s (x := m0) (by omega) (by omega), w64s (x := m1) (by omega) (by omega), w64s (x := m2) (by omega) (by omega), in_val, in_val, in_val]
  simp only [Option.bind_some]
  unfold okM
  by_cases c0 : 0 ≤ m0 ∧ m0 ≤ 2
  · rw [if_pos (by simpa using c0)]
    by_cases c1 : 0 ≤ m1 ∧ m1 ≤ (l.length : Int) - 1
    · rw [if_pos (by simpa using c1)]
      by_cases c2 : 0 ≤ m2 ∧ m2 ≤ (l.length : Int) - 1
      · rw [if_pos (by simpa using c2)]
        by_cases e0 : m0 = 0
        · rw [if_pos e0]; simp [e0, c1, c2]
        · rw [if_neg e0]
          have : m0 = 1 ∨ m0 = 2 := by omega
          rcases this with rfl | rfl <;> simp [c1, bne]
      · rw [if_neg (by simpa using c2)]
        by_cases e0 : m0 = 0
        · simp [e0, c2]
        · have hz : (m2 == 0) = false := by rw [beq_eq_false_iff_ne]; omega
          simp [e0, hz]
    · rw [if_neg (by simpa using c1)]
      simp [c1]
  · rw [if_neg (by simpa using c0)]
    have e0 : ¬ m0 = 0 := by omega
    have e1 : ¬ m0 = 1 := by omega
    have e2 : ¬ m0 = 2 := by omega
    simp [e0, e1, e2]
theorem min_same {x y : Int} (hx0 : -32768 ≤ x) (hx1 : x ≤ 32767) (hy0 : -32768 ≤ y) (hy1 : y ≤ 32767) : spec_l00Min.f (wrap64 x) (wrap64 y) = some (mn x y) := by
  unfold spec_l00Min.f mn
  rw [w64s hx0 hx1, w64s hy0 hy1]
  by_cases h : x < y
  · rw [if_pos h, if_neg (by omega)]
  · rw [if_neg h]
    by_cases h2 : y < x
    · rw [if_pos h2]
    · rw [if_neg h2]; congr 1; omega
theorem chg (a b c d i j t : Int) (ra : -32768 ≤ a ∧ a ≤ 32767) (rb : -32768 ≤ b ∧ b ≤ 32767) (rc : -32768 ≤ c ∧ c ≤ 32767) (rd' : -32768 ≤ d ∧ d ≤ 32767) (hi : i = 0 ∨ i = 1 ∨ i = 2 ∨ i = 3) (hj : j = 0 ∨ j = 1 ∨ j = 2 ∨ j = 3) (hij : i ≠ j) (ht : 0 ≤ t) (htx : t ≤ rd [a, b, c, d] i) :
    ((aup j 0 (IntKind.i16.wrap ((rd [aup i 0 (IntKind.i16.wrap ((rd [a, b, c, d] i) - t)) a, aup i 1 (IntKind.i16.wrap ((rd [a, b, c, d] i) - t)) b, aup i 2 (IntKind.i16.wrap ((rd [a, b, c, d] i) - t)) c, aup i 3 (IntKind.i16.wrap ((rd [a, b, c, d] i) - t)) d] j) + t)) (aup i 0 (IntKind.i16.wrap ((rd [a, b, c, d] i) - t)) a)) == a &&
    ((aup j 1 (IntKind.i16.wrap ((rd [aup i 0 (IntKind.i16.wrap ((rd [a, b, c, d] i) - t)) a, aup i 1 (IntKind.i16.wrap ((rd [a, b, c, d] i) - t)) b, aup i 2 (IntKind.i16.wrap ((rd [a, b, c, d] i) - t)) c, aup i 3 (IntKind.i16.wrap ((rd [a, b, c, d] i) - t)) d] j) + t)) (aup i 1 (IntKind.i16.wrap ((rd [a, b, c, d] i) - t)) b)) == b &&
    ((aup j 2 (IntKind.i16.wrap ((rd [aup i 0 (IntKind.i16.wrap ((rd [a, b, c, d] i) - t)) a, aup i 1 (IntKind.i16.wrap ((rd [a, b, c, d] i) - t)) b, aup i 2 (IntKind.i16.wrap ((rd [a, b, c, d] i) - t)) c, aup i 3 (IntKind.i16.wrap ((rd [a, b, c, d] i) - t)) d] j) + t)) (aup i 2 (IntKind.i16.wrap ((rd [a, b, c, d] i) - t)) c)) == c &&
    ((aup j 3 (IntKind.i16.wrap ((rd [aup i 0 (IntKind.i16.wrap ((rd [a, b, c, d] i) - t)) a, aup i 1 (IntKind.i16.wrap ((rd [a, b, c, d] i) - t)) b, aup i 2 (IntKind.i16.wrap ((rd [a, b, c, d] i) - t)) c, aup i 3 (IntKind.i16.wrap ((rd [a, b, c, d] i) - t)) d] j) + t)) (aup i 3 (IntKind.i16.wrap ((rd [a, b, c, d] i) - t)) d)) == d)))) = !decide (t > 0) := by
  by_cases h0 : t = 0
  · subst h0
    rcases hi with rfl | rfl | rfl | rfl <;> rcases hj with rfl | rfl | rfl | rfl <;> first | (exact absurd rfl hij) | (simp only [Int.sub_zero, Int.add_zero]; simp [rd, aup, wrap16_in ra.1 ra.2, wrap16_in rb.1 rb.2, wrap16_in rc.1 rc.2, wrap16_in rd'.1 rd'.2])
  · have hd : decide (t > 0) = true := by simp; omega
    rw [hd]
    have hA : IntKind.i16.wrap (rd [a, b, c, d] i - t) = rd [a, b, c, d] i - t := by
      have : rd [a, b, c, d] i ≤ 32767 := by rcases hi with rfl | rfl | rfl | rfl <;> simp [rd] <;> omega
      exact wrap16_in (by omega) (by omega)
    rw [hA]
    rcases hi with rfl | rfl | rfl | rfl <;> rcases hj with rfl | rfl | rfl | rfl <;> first | (exact absurd rfl hij) | (simp [rd, aup] <;> intros <;> omega)

end Go.Proofs.Ytodmfjophjhbeaa.Pure
