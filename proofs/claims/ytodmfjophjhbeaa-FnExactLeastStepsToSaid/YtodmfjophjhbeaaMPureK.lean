/- Plain laws: right water, and a move told rightly, by the reference and by the program. -/
import Derived.Test.YtodmfjophjhbeaaMPureG
-- IMPORTS
import Derived.Test.YtodmfjophjhbeaaMx3
import Derived.Test.YtodmfjophjhbeaaMx8
import Derived.Test.YtodmfjophjhbeaaMx16
import Derived.Test.YtodmfjophjhbeaaMx18
namespace Go.Proofs.Ytodmfjophjhbeaa.Pure
open Go.RowKit Go.Proofs.Ytodmfjophjhbeaa.M Go.Proofs.YtodmfjophjhbeaaW.PrintWords Go.Proofs.YtodmfjophjhbeaaW.PrintLast Go.Proofs.YtodmfjophjhbeaaW.PrintMore
set_option linter.unusedVariables false
set_option linter.unusedSimpArgs false

/-- What jug j holds at most. -/
def capL (l : List Int) (j : Int) : Int := if j < (l.length : Int) then rd l j else 0
def WF (l : List Int) (a b c d : Int) : Prop := ∀ j : Int, 0 ≤ j → j < 4 → 0 ≤ rd [a, b, c, d] j ∧ rd [a, b, c, d] j ≤ capL l j
theorem water_of (l : List Int) (a b c d : Int) (h : WF l a b c d) : ∀ (n k : Nat) (i : Int), 0 ≤ i → 4 - i ≤ n → n < k → spec_l02Water.l0 k l i a b c d = some true := by
  intro n
  induction n with
  | zero =>
    intro k i h0 h1 hk
    obtain ⟨k, rfl⟩ := fuel (show 1 ≤ k by omega)
    simp only [spec_l02Water.l0]; rw [if_neg (by omega)]
  | succ n ih =>
    intro k i h0 h1 hk
    obtain ⟨k, rfl⟩ := fuel (show 1 ≤ k by omega)
    by_cases h4 : i < 4
    · have hj := h i h0 h4
      simp only [spec_l02Water.l0]
      rw [if_pos h4, wi h0 (by omega), ih k (i + 1) (by omega) (by omega) (by omega)]
      unfold capL at hj
      by_cases hl : i < (l.length : Int)
      · rw [if_pos hl] at hj
        rw [if_pos hl]
        simp only [h0, if_true]
        rw [if_neg (by omega), if_neg (by omega)]
      · rw [if_neg hl] at hj
        rw [if_neg hl]
        simp only [h0, if_true]
        rw [if_neg (by omega), if_neg (by omega)]
    · simp only [spec_l02Water.l0]; rw [if_neg h4]
theorem wf_pour (a b c d i j t : Int) (C : Int → Int) (hw : ∀ n : Int, 0 ≤ n → n < 4 → 0 ≤ rd [a, b, c, d] n ∧ rd [a, b, c, d] n ≤ C n) (hC : ∀ n : Int, 0 ≤ n → n < 4 → C n ≤ 32767)
    (hi : i = 0 ∨ i = 1 ∨ i = 2 ∨ i = 3) (hj : j = 0 ∨ j = 1 ∨ j = 2 ∨ j = 3) (hij : i ≠ j) (ht : 0 ≤ t) (htx : t ≤ rd [a, b, c, d] i) (hty : t ≤ C j - rd [a, b, c, d] j) :
    ∀ n : Int, 0 ≤ n → n < 4 → 0 ≤ rd [aup j 0 (IntKind.i16.wrap ((rd [aup i 0 (IntKind.i16.wrap ((rd [a, b, c, d] i) - t)) a, aup i 1 (IntKind.i16.wrap ((rd [a, b, c, d] i) - t)) b, aup i 2 (IntKind.i16.wrap ((rd [a, b, c, d] i) - t)) c, aup i 3 (IntKind.i16.wrap ((rd [a, b, c, d] i) - t)) d] j) + t)) (aup i 0 (IntKind.i16.wrap ((rd [a, b, c, d] i) - t)) a),
      aup j 1 (IntKind.i16.wrap ((rd [aup i 0 (IntKind.i16.wrap ((rd [a, b, c, d] i) - t)) a, aup i 1 (IntKind.i16.wrap ((rd [a, b, c, d] i) - t)) b, aup i 2 (IntKind.i16.wrap ((rd [a, b, c, d] i) - t)) c, aup i 3 (IntKind.i16.wrap ((rd [a, b, c, d] i) - t)) d] j) + t)) (aup i 1 (IntKind.i16.wrap ((rd [a, b, c, d] i) - t)) b),
      aup j 2 (IntKind.i16.wrap ((rd [aup i 0 (IntKind.i16.wrap ((rd [a, b, c, d] i) - t)) a, aup i 1 (IntKind.i16.wrap ((rd [a, b, c, d] i) - t)) b, aup i 2 (IntKind.i16.wrap ((rd [a, b, c, d] i) - t)) c, aup i 3 (IntKind.i16.wrap ((rd [a, b, c, d] i) - t)) d] j) + t)) (aup i 2 (IntKind.i16.wrap ((rd [a, b, c, d] i) - t)) c),
      aup j 3 (IntKind.i16.wrap ((rd [aup i 0 (IntKind.i16.wrap ((rd [a, b, c, d] i) - t)) a, aup i 1 (IntKind.i16.wrap ((rd [a, b, c, d] i) - t)) b, aup i 2 (IntKind.i16.wrap ((rd [a, b, c, d] i) - t)) c, aup i 3 (IntKind.i16.wrap ((rd [a, b, c, d] i) - t)) d] j) + t)) (aup i 3 (IntKind.i16.wrap ((rd [a, b, c, d] i) - t)) d)] n ∧
    rd [aup j 0 (IntKind.i16.wrap ((rd [aup i 0 (IntKind.i16.wrap ((rd [a, b, c, d] i) - t)) a, aup i 1 (IntKind.i16.wrap ((rd [a, b, c, d] i) - t)) b, aup i 2 (IntKind.i16.wrap ((rd [a, b, c, d] i) - t)) c, aup i 3 (IntKind.i16.wrap ((rd [a, b, c, d] i) - t)) d] j) + t)) (aup i 0 (IntKind.i16.wrap ((rd [a, b, c, d] i) - t)) a),
      aup j 1 (IntKind.i16.wrap ((rd [aup i 0 (IntKind.i16.wrap ((rd [a, b, c, d] i) - t)) a, aup i 1 (IntKind.i16.wrap ((rd [a, b, c, d] i) - t)) b, aup i 2 (IntKind.i16.wrap ((rd [a, b, c, d] i) - t)) c, aup i 3 (IntKind.i16.wrap ((rd [a, b, c, d] i) - t)) d] j) + t)) (aup i 1 (IntKind.i16.wrap ((rd [a, b, c, d] i) - t)) b),
      aup j 2 (IntKind.i16.wrap ((rd [aup i 0 (IntKind.i16.wrap ((rd [a, b, c, d] i) - t)) a, aup i 1 (IntKind.i16.wrap ((rd [a, b, c, d] i) - t)) b, aup i 2 (IntKind.i16.wrap ((rd [a, b, c, d] i) - t)) c, aup i 3 (IntKind.i16.wrap ((rd [a, b, c, d] i) - t)) d] j) + t)) (aup i 2 (IntKind.i16.wrap ((rd [a, b, c, d] i) - t)) c),
      aup j 3 (IntKind.i16.wrap ((rd [aup i 0 (IntKind.i16.wrap ((rd [a, b, c, d] i) - t)) a, aup i 1 (IntKind.i16.wrap ((rd [a, b, c, d] i) - t)) b, aup i 2 (IntKind.i16.wrap ((rd [a, b, c, d] i) - t)) c, aup i 3 (IntKind.i16.wrap ((rd [a, b, c, d] i) - t)) d] j) + t)) (aup i 3 (IntKind.i16.wrap ((rd [a, b, c, d] i) - t)) d)] n ≤ C n := by
  have h0 := hw 0 (by omega) (by omega)
  have h1 := hw 1 (by omega) (by omega)
  have h2 := hw 2 (by omega) (by omega)
  have h3 := hw 3 (by omega) (by omega)
  have c0 := hC 0 (by omega) (by omega)
  have c1 := hC 1 (by omega) (by omega)
  have c2 := hC 2 (by omega) (by omega)
  have c3 := hC 3 (by omega) (by omega)
  simp only [show rd [a, b, c, d] 0 = a from rfl, show rd [a, b, c, d] 1 = b from rfl, show rd [a, b, c, d] 2 = c from rfl, show rd [a, b, c, d] 3 = d from rfl] at h0 h1 h2 h3
  intro n n0 n4
  have hn : n = 0 ∨ n = 1 ∨ n = 2 ∨ n = 3 := by omega
  have hA : IntKind.i16.wrap (rd [a, b, c, d] i - t) = rd [a, b, c, d] i - t := by
    rcases hi with rfl | rfl | rfl | rfl <;> simp only [show rd [a, b, c, d] 0 = a from rfl, show rd [a, b, c, d] 1 = b from rfl, show rd [a, b, c, d] 2 = c from rfl, show rd [a, b, c, d] 3 = d from rfl] at htx ⊢ <;> exact wrap16_in (by omega) (by omega)
  have hB : IntKind.i16.wrap (rd [a, b, c, d] j + t) = rd [a, b, c, d] j + t := by
    rcases hj with rfl | rfl | rfl | rfl <;> simp only [show rd [a, b, c, d] 0 = a from rfl, show rd [a, b, c, d] 1 = b from rfl, show rd [a, b, c, d] 2 = c from rfl, show rd [a, b, c, d] 3 = d from rfl] at hty ⊢ <;> exact wrap16_in (by omega) (by omega)
  rw [hA]
  rcases hi with rfl | rfl | rfl | rfl <;> rcases hj with rfl | rfl | rfl | rfl <;> first | (exact absurd rfl hij) | (simp [rd] at htx hty hB; rcases hn with rfl | rfl | rfl | rfl <;> simp [rd, aup, hB] <;> omega)
theorem kj2_val (k : Nat) (a b c d x y z u : Int) : spec_l02Move.j2 (k + 1) a b c d x y z u = some (if (x == a && (y == b && (z == c && (u == d)))) = true then (0, 0, 0, 0, 4) else (x, y, z, u, 0)) := by
  rw [spec_l02Move.j2]
  by_cases h : (x == a && (y == b && (z == c && (u == d)))) = true
  · rw [if_pos h, if_pos h]
  · rw [if_neg h, if_neg h]
theorem knot4 (x a y b z c u d : Int) : (!(x == a) || (!(y == b) || (!(z == c) || (!(u == d))))) = !(x == a && (y == b && (z == c && (u == d)))) := by
  cases (x == a) <;> cases (y == b) <;> cases (z == c) <;> cases (u == d) <;> rfl
theorem kmj0 (k : Nat) (l : List Int) (p q s t : Int) (z : Bool) (a b c d x y u v : Int) : impl_Puzzle_moved.j0 (k + 1) l p q s t z a b c d x y u v = some (x, y, u, v, if z = true then (!(x == a) || (!(y == b) || (!(u == c) || (!(v == d))))) else false) := by
  rw [impl_Puzzle_moved.j0]
  cases z <;> rfl
/-- What a rightly told move makes: the reference and the program. -/
theorem kmoved_same {k : Nat} (l : List Int) (h1 : 1 ≤ (l.length : Int)) (h4 : (l.length : Int) ≤ 4) (p q s t : Int) (z : Bool) (a b c d m0 m1 m2 : Int)
    (wa : (Lit.int .i16 a).wf = true) (wb : (Lit.int .i16 b).wf = true) (wc : (Lit.int .i16 c).wf = true) (wd : (Lit.int .i16 d).wf = true)
    (hw : ∀ j : Int, 0 ≤ j → j < 4 → 0 ≤ rd [a, b, c, d] j ∧ (j < (l.length : Int) → rd [a, b, c, d] j ≤ rd l j)) (hl : ∀ j : Int, 0 ≤ j → j < (l.length : Int) → rd l j ≤ 32767)
    (hm : okM (l.length : Int) m0 m1 m2 = true) :
    ∃ x y z' u f, impl_Puzzle_moved.f (k + 3) l p q s t z a b c d m0 m1 m2 = some (x, y, z', u, f) ∧ spec_l02Move.j0 (k + 3) false l p q s t z a b c d m0 m1 m2 = some (if f = true then (x, y, z', u, 0) else (0, 0, 0, 0, 4)) := by
  have ra := wf16 wa
  have rb := wf16 wb
  have rc := wf16 wc
  have rd' := wf16 wd
  have hm1 : 0 ≤ m1 ∧ m1 ≤ (l.length : Int) - 1 := by simp [okM] at hm; exact hm.1
  have hin : rd [a, b, c, d] m1 ≤ 32767 := by
    have : m1 = 0 ∨ m1 = 1 ∨ m1 = 2 ∨ m1 = 3 := by omega
    rcases this with rfl | rfl | rfl | rfl <;> simp [rd] <;> omega
  have hx := hw m1 (by omega) (by omega)
  rw [show spec_l02Move.j0 (k + 3) = spec_l02Move.j0 ((k + 2) + 1) from rfl, spec_l02Move.j0, if_neg (by simp)]
  unfold impl_Puzzle_moved.f
  by_cases e0 : m0 = 0
  · have hm2 : 0 ≤ m2 ∧ m2 ≤ (l.length : Int) - 1 := by simp [okM, e0] at hm; omega
    have hy := hw m2 (by omega) (by omega)
    have hy2 := hy.2 (by omega)
    have hl2 := hl m2 (by omega) (by omega)
    have hwy : IntKind.i16.wrap ((rd l m2) - (rd [a, b, c, d] m2)) = (rd l m2) - (rd [a, b, c, d] m2) := wrap16_in (by omega) (by omega)
    rw [if_pos e0, if_pos e0, if_pos hm1.1, if_pos (show m1 < 4 by omega), if_pos hm2.1, if_pos (show m2 < (l.length : Int) by omega), if_pos (show m2 < 4 by omega)]
    have hmin0 : 0 ≤ mn (rd [a, b, c, d] m1) (IntKind.i16.wrap ((rd l m2) - (rd [a, b, c, d] m2))) := by rw [hwy]; unfold mn; split <;> omega
    have hmin1 : mn (rd [a, b, c, d] m1) (IntKind.i16.wrap ((rd l m2) - (rd [a, b, c, d] m2))) ≤ rd [a, b, c, d] m1 := by unfold mn; split <;> omega
    by_cases e : m1 = m2
    · rw [if_pos e, if_pos e]
      refine ⟨_, _, _, _, false, rfl, ?_⟩
      rw [show k + 2 = (k + 1) + 1 from rfl, spec_l02Move.j1, if_pos rfl]
      rfl
    · rw [if_neg e, if_neg e]
      refine ⟨_, _, _, _, _, rfl, ?_⟩
      rw [show k + 2 = (k + 1) + 1 from rfl, spec_l02Move.j1, if_neg (by simp), if_pos e0, if_pos hm1.1, if_pos (show m1 < 4 by omega), if_pos hm2.1, if_pos (show m2 < (l.length : Int) by omega), if_pos (show m2 < 4 by omega)]
      have hr := wrap16_rng ((rd l m2) - (rd [a, b, c, d] m2))
      rw [min_same (by omega) (by omega) hr.1 hr.2]
      simp only [Option.bind_some]
      generalize hg : mn (rd [a, b, c, d] m1) (IntKind.i16.wrap ((rd l m2) - (rd [a, b, c, d] m2))) = g at hmin0 hmin1
      rw [wrap16_in (show -32768 ≤ g by omega) (show g ≤ 32767 by omega), kj2_val, chg a b c d m1 m2 g ra rb rc rd' (by omega) (by omega) e hmin0 hmin1]
      cases decide (g > 0) <;> rfl
  · rw [if_neg e0, if_neg e0]
    by_cases e1 : m0 = 1
    · rw [if_pos e1, if_pos hm1.1, if_pos (show m1 < (l.length : Int) by omega), if_pos (show m1 < 4 by omega), show k + 3 = (k + 2) + 1 from rfl, kmj0]
      cases z with
      | false =>
        refine ⟨_, _, _, _, _, rfl, ?_⟩
        rw [show k + 2 = (k + 1) + 1 from rfl, Bool.not_false, spec_l02Move.j1, if_pos rfl]
        rfl
      | true =>
        refine ⟨_, _, _, _, _, rfl, ?_⟩
        rw [show k + 2 = (k + 1) + 1 from rfl, Bool.not_true, spec_l02Move.j1, if_neg (by simp), if_neg e0, if_pos e1, if_pos hm1.1, if_pos (show m1 < (l.length : Int) by omega), if_pos (show m1 < 4 by omega), kj2_val, if_pos (show true = true from rfl), knot4]
        generalize (aup m1 0 (rd l m1) a == a && (aup m1 1 (rd l m1) b == b && (aup m1 2 (rd l m1) c == c && (aup m1 3 (rd l m1) d == d)))) = w
        cases w <;> rfl
    · have e2 : m0 = 2 := by
        simp [okM, e0, e1] at hm; exact hm.2.1
      rw [if_neg e1, if_pos e2, if_pos hm1.1, if_pos (show m1 < 4 by omega), show k + 3 = (k + 2) + 1 from rfl, kmj0]
      cases z with
      | false =>
        refine ⟨_, _, _, _, _, rfl, ?_⟩
        rw [show k + 2 = (k + 1) + 1 from rfl, Bool.not_false, spec_l02Move.j1, if_pos rfl]
        rfl
      | true =>
        refine ⟨_, _, _, _, _, rfl, ?_⟩
        rw [show k + 2 = (k + 1) + 1 from rfl, Bool.not_true, spec_l02Move.j1, if_neg (by simp), if_neg e0, if_neg e1, if_pos e2, if_pos hm1.1, if_pos (show m1 < 4 by omega), kj2_val, if_pos (show true = true from rfl), knot4]
        generalize (aup m1 0 0 a == a && (aup m1 1 0 b == b && (aup m1 2 0 c == c && (aup m1 3 0 d == d)))) = w
        cases w <;> rfl
theorem wf16_of {a : Int} (h0 : -32768 ≤ a) (h1 : a ≤ 32767) : (Lit.int .i16 a).wf = true := by
  have h' : IntKind.i16.min ≤ a ∧ a ≤ IntKind.i16.max := ⟨h0, h1⟩
  simpa [Lit.wf] using h'
theorem okJ_rd (l : List Int) (h : okJ l = true) : ∀ j : Int, 0 ≤ j → j < (l.length : Int) → 1 ≤ rd l j ∧ rd l j ≤ 60 := by
  intro j h0 h1
  have hm : rd l j ∈ l := by
    unfold rd
    have : j.toNat < l.length := by omega
    rw [List.getD_eq_getElem?_getD, List.getElem?_eq_getElem this]
    exact List.getElem_mem this
  simpa using List.all_eq_true.1 h _ hm
theorem wf_cells (l : List Int) (h : okJ l = true) {a b c d : Int} (hw : WF l a b c d) : (0 ≤ a ∧ a ≤ 60) ∧ (0 ≤ b ∧ b ≤ 60) ∧ (0 ≤ c ∧ c ≤ 60) ∧ (0 ≤ d ∧ d ≤ 60) := by
  have hc : ∀ j : Int, 0 ≤ j → j < 4 → capL l j ≤ 60 := by
    intro j h0 h4
    unfold capL
    by_cases e : j < (l.length : Int)
    · rw [if_pos e]; exact (okJ_rd l h j h0 e).2
    · rw [if_neg e]; omega
  have w0 := hw 0 (by omega) (by omega)
  have w1 := hw 1 (by omega) (by omega)
  have w2 := hw 2 (by omega) (by omega)
  have w3 := hw 3 (by omega) (by omega)
  have c0 := hc 0 (by omega) (by omega)
  have c1 := hc 1 (by omega) (by omega)
  have c2 := hc 2 (by omega) (by omega)
  have c3 := hc 3 (by omega) (by omega)
  simp only [show rd [a, b, c, d] 0 = a from rfl, show rd [a, b, c, d] 1 = b from rfl, show rd [a, b, c, d] 2 = c from rfl, show rd [a, b, c, d] 3 = d from rfl] at w0 w1 w2 w3
  omega
theorem of_water (l : List Int) (a b c d : Int) : ∀ (n k : Nat) (i : Int), 0 ≤ i → 4 - i ≤ n → n < k → spec_l02Water.l0 k l i a b c d = some true →
    ∀ j : Int, i ≤ j → j < 4 → 0 ≤ rd [a, b, c, d] j ∧ rd [a, b, c, d] j ≤ capL l j := by
  intro n
  induction n with
  | zero => intro k i h0 h1 hk _ j hj hj2; omega
  | succ n ih =>
    intro k i h0 h1 hk h j hj hj2
    obtain ⟨k, rfl⟩ := fuel (show 1 ≤ k by omega)
    simp only [spec_l02Water.l0] at h
    rw [if_pos (by omega), wi h0 (by omega)] at h
    have hn := ih k (i + 1) (by omega) (by omega) (by omega)
    by_cases hl : i < (l.length : Int)
    · rw [if_pos hl] at h
      simp only [h0, if_true] at h
      by_cases e1 : rd [a, b, c, d] i < 0
      · rw [if_pos e1] at h; simp at h
      · rw [if_neg e1] at h
        by_cases e2 : rd [a, b, c, d] i > rd l i
        · rw [if_pos e2] at h; simp at h
        · rw [if_neg e2] at h
          by_cases hji : j = i
          · subst hji; unfold capL; rw [if_pos hl]; exact ⟨by omega, by omega⟩
          · exact hn h j (by omega) hj2
    · rw [if_neg hl] at h
      simp only [h0, if_true] at h
      by_cases e1 : rd [a, b, c, d] i < 0
      · rw [if_pos e1] at h; simp at h
      · rw [if_neg e1] at h
        by_cases e2 : rd [a, b, c, d] i > 0
        · rw [if_pos e2] at h; simp at h
        · rw [if_neg e2] at h
          by_cases hji : j = i
          · subst hji; unfold capL; rw [if_neg hl]; exact ⟨by omega, by omega⟩
          · exact hn h j (by omega) hj2
/-- A puzzle that is right at some rounds is right at 20 and more. -/
theorem valid_all {k : Nat} (l : List Int) (p q s t : Int) (z : Bool) (h4 : (l.length : Int) ≤ 4) (hk : 20 ≤ k) (h : impl_ValidPuzzle.f k l p q s t z = some true) : ∀ k', 20 ≤ k' → impl_ValidPuzzle.f k' l p q s t z = some true := by
  obtain ⟨r, _, hi, _⟩ := valid_val (k := 20) l p q s t z (by omega) (by omega)
  have h2 := at_rounds (g := fun k => impl_ValidPuzzle.f k l p q s t z) (fun k => impl_ValidPuzzle.mono _ _ _ _ _ _ k) hk hi
  obtain rfl : r = true := by
    have h3 : impl_ValidPuzzle.f k l p q s t z = some r := h2
    rw [h] at h3; exact (Option.some.inj h3).symm
  intro k' hk'
  exact at_rounds (g := fun k => impl_ValidPuzzle.f k l p q s t z) (fun k => impl_ValidPuzzle.mono _ _ _ _ _ _ k) hk' hi

end Go.Proofs.Ytodmfjophjhbeaa.Pure
