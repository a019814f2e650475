/- Plain laws: what the reference's and the program's number of a water, and water with a number, come to. -/
import Derived.Test.YtodmfjophjhbeaaMPureS
-- IMPORTS
import Derived.Test.YtodmfjophjhbeaaMx7
import Derived.Test.YtodmfjophjhbeaaHIndex
namespace Go.Proofs.Ytodmfjophjhbeaa.Pure
open Go.RowKit Go.Proofs.Ytodmfjophjhbeaa.M Go.Proofs.YtodmfjophjhbeaaW.PrintWords Go.Proofs.YtodmfjophjhbeaaW.PrintLast Go.Proofs.YtodmfjophjhbeaaW.PrintMore
set_option linter.unusedVariables false
set_option linter.unusedSimpArgs false

/-- One step of a number, without wraps. -/
theorem idx_step {s x w B : Int} (s0 : 0 ≤ s) (s1 : s ≤ B) (hB : B ≤ 1000000000) (hx : 1 ≤ x ∧ x ≤ 60) (hw : 0 ≤ w ∧ w ≤ 60) :
    wrap64 (wrap64 (s * wrap64 (wrap64 x + 1)) + wrap64 w) = s * (x + 1) + w ∧ 0 ≤ s * (x + 1) + w ∧ s * (x + 1) + w ≤ B * 61 + 60 := by
  have e1 : wrap64 x = x := by unfold wrap64; omega
  have e2 : wrap64 (x + 1) = x + 1 := by unfold wrap64; omega
  have e3 : wrap64 w = w := by unfold wrap64; omega
  have p1 : 0 * 0 ≤ s * (x + 1) := Int.mul_le_mul s0 (by omega) (by omega) (by omega)
  have p2 : s * (x + 1) ≤ B * 61 := Int.mul_le_mul s1 (by omega) (by omega) (by omega)
  have e4 : wrap64 (s * (x + 1)) = s * (x + 1) := by unfold wrap64; omega
  rw [e1, e2, e3, e4]
  refine ⟨?_, by omega, by omega⟩
  unfold wrap64; omega
theorem sidx_step (k : Nat) (l : List Int) (p q s t : Int) (z : Bool) (a b c d x i : Int) (h0 : 0 ≤ i) (h1 : i < (l.length : Int)) (h4 : i < 4) :
    spec_l02Index.l0 (k + 1) x i l p q s t z a b c d = spec_l02Index.l0 k (wrap64 (wrap64 (x * wrap64 (wrap64 (rd l i) + 1)) + wrap64 (rd [a, b, c, d] i))) (wrap64 (i - 1)) l p q s t z a b c d := by
  simp only [spec_l02Index.l0]
  rw [if_pos (show i ≥ 0 from h0), if_pos h0, if_pos h1, if_pos h4]
theorem sidx_end (k : Nat) (l : List Int) (p q s t : Int) (z : Bool) (a b c d x : Int) : spec_l02Index.l0 (k + 1) x (-1) l p q s t z a b c d = some x := by
  simp only [spec_l02Index.l0]
  rw [if_neg (by omega)]
/-- Both numbers of a right water. -/
theorem index_val {k : Nat} (hk : 10 ≤ k) (l : List Int) (h1 : 1 ≤ (l.length : Int)) (h4 : (l.length : Int) ≤ 4) (hj : okJ l = true) (p q s t : Int) (z : Bool) (a b c d : Int) (hw : WF l a b c d) :
    spec_l02Index.f k l p q s t z a b c d = some (idxR l [a, b, c, d]) ∧ impl_Puzzle_index.f l p q s t z a b c d = some (idxR l [a, b, c, d]) := by
  obtain ⟨ra, rb, rc, rd'⟩ := wf_cells l hj hw
  obtain ⟨k, rfl⟩ := fuel hk
  unfold spec_l02Index.f impl_Puzzle_index.f
  have w3 : wrap64 ((4 : Int) - 1) = 3 := by unfold wrap64; omega
  have w2 : wrap64 ((3 : Int) - 1) = 2 := by unfold wrap64; omega
  have w1 : wrap64 ((2 : Int) - 1) = 1 := by unfold wrap64; omega
  have w0 : wrap64 ((1 : Int) - 1) = 0 := by unfold wrap64; omega
  have wn : wrap64 ((0 : Int) - 1) = -1 := by unfold wrap64; omega
  have S := @idx_step
  revert hj
  refine four (P := fun l => okJ l = true → spec_l02Index.l0 (k + 10) 0 (wrap64 ((l.length : Int) - 1)) l p q s t z a b c d = some (idxR l [a, b, c, d]) ∧ (if l.length ≤ 4 then some ((upto (bk l) l.length).foldl (idxS a b c d) 0) else none) = some (idxR l [a, b, c, d])) l h1 h4 ?_ ?_ ?_ ?_
  · intro x0 hj
    have hb := okJ_mem hj
    obtain ⟨e0, p0, q0⟩ := S (s := 0) (x := x0) (w := a) (B := 0) (by omega) (by omega) (by omega) (hb x0 (by simp)) ra
    have el : wrap64 ((([x0] : List Int).length : Int) - 1) = 0 := w0
    rw [el, sidx_step _ _ _ _ _ _ _ _ _ _ _ _ 0 (by omega) (by simp) (by omega), wn, sidx_end]
    simp only [show rd [x0] 0 = x0 from rfl, show rd [a, b, c, d] 0 = a from rfl, e0]
    refine ⟨by simp [idxR], ?_⟩
    simp [upto, bk, idxS, idxR, rd, List.range, List.range.loop] at e0 ⊢
    exact e0
  · intro x0 x1 hj
    have hb := okJ_mem hj
    obtain ⟨e1, p1, q1⟩ := S (s := 0) (x := x1) (w := b) (B := 0) (by omega) (by omega) (by omega) (hb x1 (by simp)) rb
    obtain ⟨e0, p0, q0⟩ := S (x := x0) (w := a) p1 q1 (by omega) (hb x0 (by simp)) ra
    have el : wrap64 ((([x0, x1] : List Int).length : Int) - 1) = 1 := w1
    rw [el, sidx_step _ _ _ _ _ _ _ _ _ _ _ _ 1 (by omega) (by simp) (by omega), w0, sidx_step _ _ _ _ _ _ _ _ _ _ _ _ 0 (by omega) (by simp) (by omega), wn, sidx_end]
    simp only [show rd [x0, x1] 0 = x0 from rfl, show rd [x0, x1] 1 = x1 from rfl, show rd [a, b, c, d] 0 = a from rfl, show rd [a, b, c, d] 1 = b from rfl, e1, e0]
    refine ⟨by simp [idxR], ?_⟩
    have hl : upto (bk [x0, x1]) [x0, x1].length = [(⟨(1, x1), (by show (0 : Int) ≤ 1 ∧ (1 : Int) < 4; decide)⟩ : I4), (⟨(0, x0), (by show (0 : Int) ≤ 0 ∧ (0 : Int) < 4; decide)⟩ : I4)] := rfl
    rw [if_pos (by simp), hl]
    simp only [List.foldl_cons, List.foldl_nil]
    simp [idxS, idxR, rd] at e1 e0 ⊢
    rw [e1, e0]
  · intro x0 x1 x2 hj
    have hb := okJ_mem hj
    obtain ⟨e2, p2, q2⟩ := S (s := 0) (x := x2) (w := c) (B := 0) (by omega) (by omega) (by omega) (hb x2 (by simp)) rc
    obtain ⟨e1, p1, q1⟩ := S (x := x1) (w := b) p2 q2 (by omega) (hb x1 (by simp)) rb
    obtain ⟨e0, p0, q0⟩ := S (x := x0) (w := a) p1 q1 (by omega) (hb x0 (by simp)) ra
    have el : wrap64 ((([x0, x1, x2] : List Int).length : Int) - 1) = 2 := w2
    rw [el, sidx_step _ _ _ _ _ _ _ _ _ _ _ _ 2 (by omega) (by simp) (by omega), w1, sidx_step _ _ _ _ _ _ _ _ _ _ _ _ 1 (by omega) (by simp) (by omega), w0, sidx_step _ _ _ _ _ _ _ _ _ _ _ _ 0 (by omega) (by simp) (by omega), wn, sidx_end]
    simp only [show rd [x0, x1, x2] 0 = x0 from rfl, show rd [x0, x1, x2] 1 = x1 from rfl, show rd [x0, x1, x2] 2 = x2 from rfl, show rd [a, b, c, d] 0 = a from rfl, show rd [a, b, c, d] 1 = b from rfl, show rd [a, b, c, d] 2 = c from rfl, e2, e1, e0]
    refine ⟨by simp [idxR], ?_⟩
    have hl : upto (bk [x0, x1, x2]) [x0, x1, x2].length = [(⟨(2, x2), (by show (0 : Int) ≤ 2 ∧ (2 : Int) < 4; decide)⟩ : I4), (⟨(1, x1), (by show (0 : Int) ≤ 1 ∧ (1 : Int) < 4; decide)⟩ : I4), (⟨(0, x0), (by show (0 : Int) ≤ 0 ∧ (0 : Int) < 4; decide)⟩ : I4)] := rfl
    rw [if_pos (by simp), hl]
    simp only [List.foldl_cons, List.foldl_nil]
    simp [idxS, idxR, rd] at e2 e1 e0 ⊢
    rw [e2, e1, e0]
  · intro x0 x1 x2 x3 hj
    have hb := okJ_mem hj
    obtain ⟨e3, p3, q3⟩ := S (s := 0) (x := x3) (w := d) (B := 0) (by omega) (by omega) (by omega) (hb x3 (by simp)) rd'
    obtain ⟨e2, p2, q2⟩ := S (x := x2) (w := c) p3 q3 (by omega) (hb x2 (by simp)) rc
    obtain ⟨e1, p1, q1⟩ := S (x := x1) (w := b) p2 q2 (by omega) (hb x1 (by simp)) rb
    obtain ⟨e0, p0, q0⟩ := S (x := x0) (w := a) p1 q1 (by omega) (hb x0 (by simp)) ra
    have el : wrap64 ((([x0, x1, x2, x3] : List Int).length : Int) - 1) = 3 := w3
    rw [el, sidx_step _ _ _ _ _ _ _ _ _ _ _ _ 3 (by omega) (by simp) (by omega), w2, sidx_step _ _ _ _ _ _ _ _ _ _ _ _ 2 (by omega) (by simp) (by omega), w1, sidx_step _ _ _ _ _ _ _ _ _ _ _ _ 1 (by omega) (by simp) (by omega), w0, sidx_step _ _ _ _ _ _ _ _ _ _ _ _ 0 (by omega) (by simp) (by omega), wn, sidx_end]
    simp only [show rd [x0, x1, x2, x3] 0 = x0 from rfl, show rd [x0, x1, x2, x3] 1 = x1 from rfl, show rd [x0, x1, x2, x3] 2 = x2 from rfl, show rd [x0, x1, x2, x3] 3 = x3 from rfl, show rd [a, b, c, d] 0 = a from rfl, show rd [a, b, c, d] 1 = b from rfl, show rd [a, b, c, d] 2 = c from rfl, show rd [a, b, c, d] 3 = d from rfl, e3, e2, e1, e0]
    refine ⟨by simp [idxR], ?_⟩
    have hl : upto (bk [x0, x1, x2, x3]) [x0, x1, x2, x3].length = [(⟨(3, x3), (by show (0 : Int) ≤ 3 ∧ (3 : Int) < 4; decide)⟩ : I4), (⟨(2, x2), (by show (0 : Int) ≤ 2 ∧ (2 : Int) < 4; decide)⟩ : I4), (⟨(1, x1), (by show (0 : Int) ≤ 1 ∧ (1 : Int) < 4; decide)⟩ : I4), (⟨(0, x0), (by show (0 : Int) ≤ 0 ∧ (0 : Int) < 4; decide)⟩ : I4)] := rfl
    rw [if_pos (by simp), hl]
    simp only [List.foldl_cons, List.foldl_nil]
    simp [idxS, idxR, rd] at e3 e2 e1 e0 ⊢
    rw [e3, e2, e1, e0]

end Go.Proofs.Ytodmfjophjhbeaa.Pure
