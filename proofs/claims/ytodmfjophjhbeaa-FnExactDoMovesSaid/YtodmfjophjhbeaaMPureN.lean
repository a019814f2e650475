/- Plain laws: many moves, one after the other, by the reference and by the program. -/
import Derived.Test.YtodmfjophjhbeaaMPureK
import Derived.Test.YtodmfjophjhbeaaMPureI
-- IMPORTS
import Derived.Test.YtodmfjophjhbeaaMx0
import Derived.Test.YtodmfjophjhbeaaMx8
import Derived.Test.YtodmfjophjhbeaaMx12
import Derived.Test.YtodmfjophjhbeaaMx15
import Derived.Test.YtodmfjophjhbeaaMx16
import Derived.Test.YtodmfjophjhbeaaMx19
import Derived.Test.YtodmfjophjhbeaaMx20
import Derived.Test.YtodmfjophjhbeaaMx21
namespace Go.Proofs.Ytodmfjophjhbeaa.Pure
open Go.RowKit Go.Proofs.Ytodmfjophjhbeaa.M Go.Proofs.YtodmfjophjhbeaaW.PrintWords Go.Proofs.YtodmfjophjhbeaaW.PrintLast Go.Proofs.YtodmfjophjhbeaaW.PrintMore
set_option linter.unusedVariables false
set_option linter.unusedSimpArgs false

theorem wf16_of {a : Int} (h0 : -32768 ≤ a) (h1 : a ≤ 32767) : (Lit.int .i16 a).wf = true := by
  have h' : IntKind.i16.min ≤ a ∧ a ≤ IntKind.i16.max := ⟨h0, h1⟩
  simpa [Lit.wf] using h'
theorem okJ_rd (l : List Int) (h : okJ l = true) : ∀ j : Int, 0 ≤ j → j < (l.length : Int) → 1 ≤ rd l j ∧ rd l j ≤ 60 := by
  intro j h0 h1
  have hm : rd l j ∈ l := by
    unfold rd
    have : j.toNat < l.length := by omega
    rw [List.getD_eq_getElem?_getD, List.getElem?_eq_getElem this]
    exact List.getElem_mem this
  simpa using List.all_eq_true.1 h _ hm
theorem wf_cells (l : List Int) (h : okJ l = true) {a b c d : Int} (hw : WF l a b c d) : (0 ≤ a ∧ a ≤ 60) ∧ (0 ≤ b ∧ b ≤ 60) ∧ (0 ≤ c ∧ c ≤ 60) ∧ (0 ≤ d ∧ d ≤ 60) := by
  have hc : ∀ j : Int, 0 ≤ j → j < 4 → capL l j ≤ 60 := by
    intro j h0 h4
    unfold capL
    by_cases e : j < (l.length : Int)
    · rw [if_pos e]; exact (okJ_rd l h j h0 e).2
    · rw [if_neg e]; omega
  have w0 := hw 0 (by omega) (by omega)
  have w1 := hw 1 (by omega) (by omega)
  have w2 := hw 2 (by omega) (by omega)
  have w3 := hw 3 (by omega) (by omega)
  have c0 := hc 0 (by omega) (by omega)
  have c1 := hc 1 (by omega) (by omega)
  have c2 := hc 2 (by omega) (by omega)
  have c3 := hc 3 (by omega) (by omega)
  simp only [show rd [a, b, c, d] 0 = a from rfl, show rd [a, b, c, d] 1 = b from rfl, show rd [a, b, c, d] 2 = c from rfl, show rd [a, b, c, d] 3 = d from rfl] at w0 w1 w2 w3
  omega
theorem of_water (l : List Int) (a b c d : Int) : ∀ (n k : Nat) (i : Int), 0 ≤ i → 4 - i ≤ n → n < k → spec_l02Water.l0 k l i a b c d = some true →
    ∀ j : Int, i ≤ j → j < 4 → 0 ≤ rd [a, b, c, d] j ∧ rd [a, b, c, d] j ≤ capL l j := by
  intro n
  induction n with
  | zero => intro k i h0 h1 hk _ j hj hj2; omega
  | succ n ih =>
    intro k i h0 h1 hk h j hj hj2
    obtain ⟨k, rfl⟩ := fuel (show 1 ≤ k by omega)
    simp only [spec_l02Water.l0] at h
    rw [if_pos (by omega), wi h0 (by omega)] at h
    have hn := ih k (i + 1) (by omega) (by omega) (by omega)
    by_cases hl : i < (l.length : Int)
    · rw [if_pos hl] at h
      simp only [h0, if_true] at h
      by_cases e1 : rd [a, b, c, d] i < 0
      · rw [if_pos e1] at h; simp at h
      · rw [if_neg e1] at h
        by_cases e2 : rd [a, b, c, d] i > rd l i
        · rw [if_pos e2] at h; simp at h
        · rw [if_neg e2] at h
          by_cases hji : j = i
          · subst hji; unfold capL; rw [if_pos hl]; exact ⟨by omega, by omega⟩
          · exact hn h j (by omega) hj2
    · rw [if_neg hl] at h
      simp only [h0, if_true] at h
      by_cases e1 : rd [a, b, c, d] i < 0
      · rw [if_pos e1] at h; simp at h
      · rw [if_neg e1] at h
        by_cases e2 : rd [a, b, c, d] i > 0
        · rw [if_pos e2] at h; simp at h
        · rw [if_neg e2] at h
          by_cases hji : j = i
          · subst hji; unfold capL; rw [if_neg hl]; exact ⟨by omega, by omega⟩
          · exact hn h j (by omega) hj2
/-- A puzzle that is right at some rounds is right at 20 and more. -/
theorem valid_all {k : Nat} (l : List Int) (p q s t : Int) (z : Bool) (h4 : (l.length : Int) ≤ 4) (hk : 20 ≤ k) (h : impl_ValidPuzzle.f k l p q s t z = some true) : ∀ k', 20 ≤ k' → impl_ValidPuzzle.f k' l p q s t z = some true := by
  obtain ⟨r, _, hi, _⟩ := valid_val (k := 20) l p q s t z (by omega) (by omega)
  have h2 := at_rounds (g := fun k => impl_ValidPuzzle.f k l p q s t z) (fun k => impl_ValidPuzzle.mono _ _ _ _ _ _ k) hk hi
  obtain rfl : r = true := by
    have h3 : impl_ValidPuzzle.f k l p q s t z = some r := h2
    rw [h] at h3; exact (Option.some.inj h3).symm
  intro k' hk'
  exact at_rounds (g := fun k => impl_ValidPuzzle.f k l p q s t z) (fun k => impl_ValidPuzzle.mono _ _ _ _ _ _ k) hk' hi
/-- One move at right water: both come to the same, and what it leaves is right. -/
theorem round_same {k : Nat} (hk : 20 ≤ k) (l : List Int) (h1 : 1 ≤ (l.length : Int)) (h4 : (l.length : Int) ≤ 4) (p q s t : Int) (z : Bool) (hvp : impl_ValidPuzzle.f k l p q s t z = some true) (hj : okJ l = true)
    (a b c d m0 m1 m2 : Int) (hw : WF l a b c d) (w0 : (Lit.int .i8 m0).wf = true) (w1 : (Lit.int .i8 m1).wf = true) (w2 : (Lit.int .i8 m2).wf = true) :
    ∃ x y z' u e, spec_l02Move.f k l p q s t z a b c d m0 m1 m2 = some (x, y, z', u, e) ∧ impl_DoMove.f k l p q s t z a b c d m0 m1 m2 = some (x, y, z', u, e) ∧ (e = 0 → WF l x y z' u) := by
  obtain ⟨ra, rb, rc, rd'⟩ := wf_cells l hj hw
  have us : spec_l02Water.f k l a b c d = some true := water_of l a b c d hw 4 k 0 (by omega) (by omega) (by omega)
  obtain ⟨u, us', ui⟩ := water_val (k := k) (by omega) l (by omega) a b c d p q s t z
  obtain rfl : u = true := by rw [us] at us'; exact (Option.some.inj us').symm
  have hwf : ∀ j : Int, 0 ≤ j → j < 4 → 0 ≤ rd [a, b, c, d] j ∧ (j < (l.length : Int) → rd [a, b, c, d] j ≤ rd l j) := by
    intro j j0 j4
    have := hw j j0 j4
    refine ⟨this.1, fun e => ?_⟩
    have h2 := this.2
    unfold capL at h2
    rwa [if_pos e] at h2
  have hlr : ∀ j : Int, 0 ≤ j → j < (l.length : Int) → 0 ≤ rd l j ∧ rd l j ≤ 32767 := by
    intro j j0 j1
    have := okJ_rd l hj j j0 j1
    omega
  unfold impl_DoMove.f impl_ValidWater.f
  rw [hvp]
  simp only [Option.bind_some]
  rw [if_pos trivial, ui]
  simp only [Option.bind_some]
  rw [if_pos trivial, isMove_val l h1 h4 p q s t z m0 m1 m2 w1 w2, spec_head k l h1 h4 p q s t z a b c d m0 m1 m2 w0 w1 w2]
  simp only [Option.bind_some]
  obtain ⟨k, rfl⟩ := fuel (show 3 ≤ k by omega)
  cases hm : okM (l.length : Int) m0 m1 m2 with
  | false =>
    rw [Bool.not_false, if_neg (by simp), show k + 3 = (k + 2) + 1 from rfl, spec_l02Move.j0, if_pos rfl]
    exact ⟨0, 0, 0, 0, 2, rfl, rfl, by omega⟩
  | true =>
    obtain ⟨x, y, z', u, f, e1, e2⟩ := kmoved_same (k := k) l h1 h4 p q s t z a b c d m0 m1 m2 (wf16_of (by omega) (by omega)) (wf16_of (by omega) (by omega)) (wf16_of (by omega) (by omega)) (wf16_of (by omega) (by omega)) hwf (fun j j0 j1 => (hlr j j0 j1).2) hm
    rw [Bool.not_true, if_pos rfl, e1, e2]
    simp only [Option.bind_some]
    cases f with
    | false => exact ⟨0, 0, 0, 0, 4, rfl, rfl, by omega⟩
    | true => exact ⟨x, y, z', u, 0, rfl, rfl, fun _ => moved_wf (k := k) l h1 h4 p q s t z a b c d m0 m1 m2 hw hlr hm e1⟩
theorem moves_same (l : List Int) (h1 : 1 ≤ (l.length : Int)) (h4 : (l.length : Int) ≤ 4) (p q s t : Int) (z : Bool) (hvp : ∀ k, 20 ≤ k → impl_ValidPuzzle.f k l p q s t z = some true) (hj : okJ l = true)
    (ms : List S60) (hms : ∀ x ∈ ms, (Lit.int .i8 x.f0).wf = true ∧ (Lit.int .i8 x.f1).wf = true ∧ (Lit.int .i8 x.f2).wf = true) (hl : ms.length ≤ 200) :
    ∀ (suf pre : List S60) (k : Nat) (a b c d : Int), ms = pre ++ suf → suf.length + 22 ≤ k → WF l a b c d →
    ∃ r, spec_DoMoves.l0 k ms (pre.length : Int) l p q s t z a b c d = some r ∧ impl_DoMoves.l0 k ms (ms.length : Int) (pre.length : Int) l p q s t z a b c d = some r := by
  intro suf
  induction suf with
  | nil =>
    intro pre k a b c d h hk hw
    obtain ⟨k, rfl⟩ := fuel (show 1 ≤ k by omega)
    simp only [List.append_nil] at h
    subst h
    refine ⟨(a, b, c, d, 0), ?_, ?_⟩
    · simp only [spec_DoMoves.l0]; rw [if_neg (by omega)]
    · simp only [impl_DoMoves.l0]; rw [if_neg (by omega)]
  | cons x suf ih =>
    intro pre k a b c d h hk hw
    simp only [List.length_cons] at hk
    obtain ⟨k, rfl⟩ := fuel (show 1 ≤ k by omega)
    have hn : ms.length = pre.length + (suf.length + 1) := by rw [h]; simp
    have e : rd_T60 ms (pre.length : Int) = x := by rw [h]; unfold rd_T60; simp [List.getD]
    have hx := hms x (by rw [h]; simp)
    obtain ⟨a', b', c', d', e', hs, hi, hw'⟩ := round_same (k := k) (by omega) l h1 h4 p q s t z (hvp k (by omega)) hj a b c d x.f0 x.f1 x.f2 hw hx.1 hx.2.1 hx.2.2
    simp only [spec_DoMoves.l0, impl_DoMoves.l0, e]
    rw [if_pos (by omega), if_pos (by omega), if_pos (by omega), if_pos (by omega), if_pos (by omega), hs, hi]
    simp only [Option.bind_some]
    by_cases e0 : e' = 0
    · rw [if_pos e0, if_pos e0, wi (by omega) (by omega)]
      have := ih (pre ++ [x]) k a' b' c' d' (by simp [h]) (by omega) (hw' e0)
      rw [show (((pre ++ [x]).length : Nat) : Int) = (pre.length : Int) + 1 by simp] at this
      exact this
    · rw [if_neg e0, if_neg e0]
      exact ⟨_, rfl, rfl⟩
theorem doMoves_same {k : Nat} (l : List Int) (hl : l.length ≤ 1048576) (p q s t : Int) (z : Bool) (a b c d : Int)
    (ms : List S60) (hms : ∀ x ∈ ms, (Lit.int .i8 x.f0).wf = true ∧ (Lit.int .i8 x.f1).wf = true ∧ (Lit.int .i8 x.f2).wf = true) (hk : l.length + ms.length + 30 ≤ k) :
    ∃ r, spec_DoMoves.f k l p q s t z a b c d ms = some r ∧ impl_DoMoves.f k l p q s t z a b c d ms = some r := by
  obtain ⟨v, hs, hi, hv⟩ := valid_val (k := k) l p q s t z hl (by omega)
  obtain ⟨u, us, ui⟩ := water_val (k := k) (by omega) l hl a b c d p q s t z
  unfold spec_DoMoves.f impl_DoMoves.f impl_ValidWater.f
  rw [hs, hi]
  simp only [Option.bind_some]
  obtain ⟨k, rfl⟩ := fuel (show 1 ≤ k by omega)
  cases v with
  | false => exact ⟨(0, 0, 0, 0, 1), by simp [spec_DoMoves.j0], by simp⟩
  | true =>
    obtain ⟨hc, hj, _⟩ := hv rfl
    rw [if_pos rfl, if_pos rfl, us, ui]
    simp only [Option.bind_some]
    cases u with
    | false => exact ⟨(0, 0, 0, 0, 1), by simp [spec_DoMoves.j0], by simp⟩
    | true =>
      rw [if_pos rfl]
      simp only [spec_DoMoves.j0]
      rw [if_neg (by simp)]
      by_cases hm : (ms.length : Int) > 200
      · rw [if_pos hm, if_pos hm]; exact ⟨_, rfl, rfl⟩
      · rw [if_neg hm, if_neg hm]
        have hw : WF l a b c d := of_water l a b c d 4 (k + 1) 0 (by omega) (by omega) (by omega) (by simpa [spec_l02Water.f] using us)
        have hva := valid_all l p q s t z hc.2 (by omega) hi
        obtain ⟨r, r1, r2⟩ := moves_same l hc.1 hc.2 p q s t z hva hj ms hms (by omega) ms [] k a b c d rfl (by omega) hw
        have r3 := at_rounds (g := fun k => impl_DoMoves.l0 k ms (ms.length : Int) 0 l p q s t z a b c d) (fun k => impl_DoMoves.mono_l k _ _ _ _ _ _ _ _ _ _ _ _ _) (Nat.le_succ k) r2
        exact ⟨r, r1, r3⟩

end Go.Proofs.Ytodmfjophjhbeaa.Pure
