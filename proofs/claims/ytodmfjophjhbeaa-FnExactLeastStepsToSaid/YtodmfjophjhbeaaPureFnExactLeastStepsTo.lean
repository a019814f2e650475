/- The program's LeastStepsTo returns what the reference's returns. Conditions: none. -/
import Derived.Test.YtodmfjophjhbeaaMPureY
-- IMPORTS
import Derived.Test.YtodmfjophjhbeaaMx6
import Derived.Test.YtodmfjophjhbeaaMx11
import Derived.Test.YtodmfjophjhbeaaMx12
import Derived.Test.YtodmfjophjhbeaaMx22
import Derived.Test.YtodmfjophjhbeaaMx23
import Derived.Test.YtodmfjophjhbeaaMx26
namespace Go.Proofs.Ytodmfjophjhbeaa.Pure
open Go.RowKit Go.Proofs.Ytodmfjophjhbeaa.M Go.Proofs.YtodmfjophjhbeaaW.PrintWords Go.Proofs.YtodmfjophjhbeaaW.PrintLast Go.Proofs.YtodmfjophjhbeaaW.PrintMore
set_option linter.unusedVariables false
set_option linter.unusedSimpArgs false

def hasL (ws : List Int) (x : Int) : Bool := ws.any (· == x)
theorem spec_has (l : List Int) (h4 : (l.length : Int) ≤ 4) (p q s t : Int) (z : Bool) (a b c d x : Int) (hr : (0 ≤ a ∧ a ≤ 60) ∧ (0 ≤ b ∧ b ≤ 60) ∧ (0 ≤ c ∧ c ≤ 60) ∧ (0 ≤ d ∧ d ≤ 60)) : ∀ (n k : Nat) (i : Int), 0 ≤ i → i + n = (l.length : Int) → n + 1 ≤ k →
    spec_l02Has.l0 k x i l p q s t z a b c d = some (hasL ((([a, b, c, d] : List Int).take l.length).drop i.toNat) x) := by
  intro n
  induction n with
  | zero =>
    intro k i h0 h1 hk
    obtain ⟨k, rfl⟩ := fuel (show 1 ≤ k by omega)
    simp only [spec_l02Has.l0]
    rw [if_neg (by omega), List.drop_of_length_le (by simp; omega)]
    rfl
  | succ n ih =>
    intro k i h0 h1 hk
    obtain ⟨k, rfl⟩ := fuel (show 1 ≤ k by omega)
    simp only [spec_l02Has.l0]
    have hrd : wrap64 (rd [a, b, c, d] i) = rd [a, b, c, d] i := by
      have : i = 0 ∨ i = 1 ∨ i = 2 ∨ i = 3 := by omega
      rcases this with rfl | rfl | rfl | rfl <;> simp [rd] <;> unfold wrap64 <;> omega
    have hlt : i.toNat < (([a, b, c, d] : List Int).take l.length).length := by simp; omega
    have hget : (([a, b, c, d] : List Int).take l.length)[i.toNat] = rd [a, b, c, d] i := by
      have : i = 0 ∨ i = 1 ∨ i = 2 ∨ i = 3 := by omega
      rw [List.getElem_take]
      rcases this with rfl | rfl | rfl | rfl <;> rfl
    rw [if_pos (by omega), if_pos h0, if_pos (by omega), hrd, wi h0 (by omega), ih k (i + 1) (by omega) (by omega) (by omega), List.drop_eq_getElem_cons hlt, hget, show (i + 1).toNat = i.toNat + 1 by omega]
    unfold hasL
    by_cases e : rd [a, b, c, d] i = x
    · rw [if_pos e]; simp [e]
    · rw [if_neg e, List.any_cons, show (rd [a, b, c, d] i == x) = false by simpa using e, Bool.false_or]
theorem impl_has_l0 (x : Int) (l : List Int) (hl : l.length ≤ 1000) (hr : ∀ y ∈ l, 0 ≤ y ∧ y ≤ 60) : ∀ (suf pre : List Int) (k : Nat), l = pre ++ suf → suf.length + 1 ≤ k →
    ∃ r, slices_IndexFunc_int16_int16_93_at_92.l0 k l (l.length : Int) (pre.length : Int) x = some r ∧ decide (r ≥ 0) = hasL suf x := by
  intro suf
  induction suf with
  | nil =>
    intro pre k h hk
    obtain ⟨k, rfl⟩ := fuel (show 1 ≤ k by omega)
    simp only [List.append_nil] at h
    refine ⟨-1, ?_, rfl⟩
    simp only [slices_IndexFunc_int16_int16_93_at_92.l0]
    rw [if_neg (by rw [h]; omega)]
  | cons y suf ih =>
    intro pre k h hk
    simp only [List.length_cons] at hk
    obtain ⟨k, rfl⟩ := fuel (show 1 ≤ k by omega)
    have hn : l.length = pre.length + (suf.length + 1) := by rw [h]; simp
    have e : rd l (pre.length : Int) = y := by rw [h]; exact rd_pre pre y suf
    have hy := hr y (by rw [h]; simp)
    obtain ⟨r, r1, r2⟩ := ih (pre ++ [y]) k (by simp [h]) (by omega)
    rw [show (((pre ++ [y]).length : Nat) : Int) = (pre.length : Int) + 1 by simp] at r1
    simp only [slices_IndexFunc_int16_int16_93_at_92.l0, e, impl_Puzzle_hasAmount_1_92.f]
    rw [if_pos (by omega), if_pos (by omega), if_pos (by omega), show wrap64 y = y by unfold wrap64; omega, wi (by omega) (by omega)]
    simp only [Option.bind_some]
    unfold hasL
    by_cases c : y = x
    · refine ⟨(pre.length : Int), by rw [if_pos (by simpa using c)], ?_⟩
      have : decide ((pre.length : Int) ≥ 0) = true := by simp
      rw [this]
      simp [c]
    · refine ⟨r, by rw [if_neg (by simpa using c)]; exact r1, ?_⟩
      rw [r2, List.any_cons, show (y == x) = false by simpa using c, Bool.false_or]
      rfl
theorem has_same {k : Nat} (hk : 10 ≤ k) (l : List Int) (h1 : 1 ≤ (l.length : Int)) (h4 : (l.length : Int) ≤ 4) (hj : okJ l = true) (p q s t : Int) (z : Bool) (a b c d : Int) (hw : WF l a b c d) (x : Int) :
    ∃ r, spec_l02Has.f k l p q s t z a b c d x = some r ∧ impl_Puzzle_hasAmount.f k l p q s t z a b c d x = some r := by
  have hr := wf_cells l hj hw
  refine ⟨hasL (([a, b, c, d] : List Int).take l.length) x, ?_, ?_⟩
  · unfold spec_l02Has.f
    rw [spec_has l h4 p q s t z a b c d x hr l.length k 0 (by omega) (by omega) (by omega)]
    rfl
  · unfold impl_Puzzle_hasAmount.f slices_ContainsFunc_int16_int16_70_at_92.f slices_IndexFunc_int16_int16_93_at_92.f
    rw [if_pos (by omega), if_pos h4, Int.toNat_natCast]
    have hlen : (([a, b, c, d] : List Int).take l.length).length ≤ 4 := by simp; omega
    obtain ⟨r, r1, r2⟩ := impl_has_l0 x (([a, b, c, d] : List Int).take l.length) (by omega) (fun y hy => by
      have := List.mem_of_mem_take hy
      simp at this
      rcases this with rfl | rfl | rfl | rfl
      · exact hr.1
      · exact hr.2.1
      · exact hr.2.2.1
      · exact hr.2.2.2) (([a, b, c, d] : List Int).take l.length) [] k rfl (by omega)
    have r3 : slices_IndexFunc_int16_int16_93_at_92.l0 k (([a, b, c, d] : List Int).take l.length) ((([a, b, c, d] : List Int).take l.length).length : Int) 0 x = some r := r1
    rw [r3]
    simp only [Option.bind_some]
    rw [r2]
theorem least_loop {tb l : List Int} (T : Tab tb l) (p q s t : Int) (z : Bool) (x : Int) : ∀ (d : Nat) (i least : Int), 0 ≤ i → i + d = (tb.length : Int) → ∀ k, d + 20 ≤ k →
    ∃ r, spec_LeastStepsTo.l0 k tb x least i l p q s t z = some r ∧ impl_LeastStepsTo.l0 k tb x least (tb.length : Int) i l p q s t z = some r := by
  have hle : (tb.length : Int) ≤ 5000 := by rw [T.len]; exact T.most
  intro d
  induction d with
  | zero =>
    intro i least i0 id k hk
    obtain ⟨k, rfl⟩ := fuel (show 1 ≤ k by omega)
    simp only [spec_LeastStepsTo.l0, impl_LeastStepsTo.l0]
    have hn : ¬ i < (tb.length : Int) := by omega
    simp only [hn, if_false]
    exact both _ _ _
  | succ d ih =>
    intro i least i0 id k hk
    obtain ⟨k, rfl⟩ := fuel (show 1 ≤ k by omega)
    have i1 : i < (tb.length : Int) := by omega
    have hw : WF l (rd (atR l i) 0) (rd (atR l i) 1) (rd (atR l i) 2) (rd (atR l i) 3) := in_wf l (atR l i) T.h1 T.h4 (at_len l i) (at_in l i T.one)
    obtain ⟨a1, a2⟩ := at_val (k := k) (by omega) l T.h1 T.h4 T.hj p q s t z i i0 (by omega)
    obtain ⟨h, hs, hi⟩ := has_same (k := k) (by omega) l T.h1 T.h4 T.hj p q s t z _ _ _ _ hw x
    have hn := fun least => ih (i + 1) least (by omega) (by omega) k (by omega)
    simp only [spec_LeastStepsTo.l0, impl_LeastStepsTo.l0]
    rw [T.w64 i0 i1, if_pos i1, if_pos i0, if_pos i1, if_pos i0, if_pos i1, a1, a2, wi i0 (by omega)]
    simp only [Option.bind_some]
    rw [hs, hi]
    simp only [Option.bind_some]
    by_cases c : rd tb i ≥ 0
    · rw [if_pos c, if_pos c]
      by_cases c1 : least < 0
      · rw [if_pos c1, if_pos c1]
        cases h with
        | true => rw [if_pos rfl, if_pos rfl]; exact hn _
        | false => rw [if_neg (by simp), if_neg (by simp)]; exact hn _
      · rw [if_neg c1, if_neg c1]
        by_cases c2 : rd tb i < least
        · rw [if_pos c2, if_pos c2]
          cases h with
          | true => rw [if_pos rfl, if_pos rfl]; exact hn _
          | false => rw [if_neg (by simp), if_neg (by simp)]; exact hn _
        · rw [if_neg c2, if_neg c2]
          cases h with
          | true => rw [if_pos rfl]; exact hn _
          | false => rw [if_neg (by simp)]; exact hn _
    · rw [if_neg c, if_neg c]
      exact hn _
theorem leastSteps_same {k : Nat} (l : List Int) (hl : l.length ≤ 1048576) (p q s t : Int) (z : Bool) (tb : List Int) (hb : ∀ x ∈ tb, (Lit.int .i16 x).wf = true) (hk : l.length + 300 * tb.length + 700 ≤ k) (x : Int) :
    ∃ r, spec_LeastStepsTo.f k l p q s t z tb x = some r ∧ impl_LeastStepsTo.f k l p q s t z tb x = some r := by
  obtain ⟨k, rfl⟩ := fuel (show 1 ≤ k by omega)
  obtain ⟨e, e1, e2, he, h0⟩ := tabled_same (k := k + 1) l hl (by omega) p q s t z tb hb
  unfold spec_LeastStepsTo.f impl_LeastStepsTo.f
  rw [e1, e2]
  simp only [Option.bind_some]
  rcases he with rfl | rfl | rfl
  · obtain ⟨T, hw, hok⟩ := h0 rfl
    obtain ⟨r, r1, r2⟩ := broken_same T p q s t z hw (k := k) (by omega)
    obtain ⟨r', q1, q2⟩ := least_loop T p q s t z x tb.length 0 (-1) (by omega) (by omega) k (by omega)
    have h4 := T.h4
    unfold spec_l02Amount.f
    rw [if_pos rfl, if_neg (by omega), if_pos rfl, hok, in_val, within_val]
    simp only [Option.bind_some]
    rw [if_pos trivial]
    by_cases c : 0 ≤ x ∧ x ≤ 60
    · rw [decide_eq_true c, if_pos rfl]
      simp only [Option.bind_some, spec_LeastStepsTo.j0, impl_LeastStepsTo.j0]
      rw [if_pos trivial, if_neg (by simp), r1, r2, statesi_val l (by omega) (by omega), prod_same l T.h1 T.h4 T.hj, ← T.len]
      simp only [Option.bind_some]
      by_cases c2 : r ≥ 0
      · rw [if_pos c2, if_pos c2]; exact ⟨_, rfl, rfl⟩
      · rw [if_neg c2, if_neg c2]; exact ⟨r', q1, q2⟩
    · rw [decide_eq_false c, if_neg (by simp)]
      simp only [Option.bind_some, spec_LeastStepsTo.j0, impl_LeastStepsTo.j0]
      rw [if_neg (by omega), if_pos (by simp)]
      exact ⟨_, rfl, rfl⟩
  · rw [if_neg (by omega), if_pos rfl]
    simp only [spec_LeastStepsTo.j0]
    rw [if_neg (by omega)]
    exact ⟨_, rfl, rfl⟩
  · rw [if_neg (by omega), if_neg (by omega), if_neg (by omega)]
    simp only [spec_LeastStepsTo.j0, impl_LeastStepsTo.j0]
    rw [if_neg (by omega), if_pos trivial]
    exact ⟨_, rfl, rfl⟩
theorem FnExactLeastStepsTo (x0_0 : (List Int)) (x0_1 : Int) (x0_2 : Int) (x0_3 : Int) (x0_4 : Int) (x0_5 : Bool) (x1_0 : (List Int)) (x2_0 : Int) (w0_0 : (fun xs : List Int => xs.length ≤ maxLen ∧ ∀ x ∈ xs, (fun x : Int => (Lit.int .i16 x).wf = true) x) x0_0) (w0_1 : (fun x : Int => (Lit.int .i16 x).wf = true) x0_1) (w0_2 : (fun x : Int => (Lit.int .i16 x).wf = true) x0_2) (w0_3 : (fun x : Int => (Lit.int .i16 x).wf = true) x0_3) (w0_4 : (fun x : Int => (Lit.int .i16 x).wf = true) x0_4) (w1_0 : (fun xs : List Int => xs.length ≤ maxLen ∧ ∀ x ∈ xs, (fun x : Int => (Lit.int .i16 x).wf = true) x) x1_0) (w2_0 : (fun x : Int => (Lit.int .i64 x).wf = true) x2_0) : ∃ k, laws_FnExactLeastStepsTo.f k x0_0 x0_1 x0_2 x0_3 x0_4 x0_5 x1_0 x2_0 = some true := by
  refine ⟨x0_0.length + 300 * x1_0.length + 1000, ?_⟩
  have hk : ∃ k, k = x0_0.length + 300 * x1_0.length + 1000 := ⟨_, rfl⟩
  obtain ⟨k, hk⟩ := hk
  rw [← hk]
  unfold laws_FnExactLeastStepsTo.f
  by_cases e1 : (x1_0.length : Int) > 1048576
  · rw [if_pos e1]
  · rw [if_neg e1, szPuzzle_val x0_0 x0_1 x0_2 x0_3 x0_4 x0_5 w0_0.1 1048576 (by omega) (by omega)]
    simp only [Option.bind_some]
    by_cases e0 : (1048576 : Int) - (x0_0.length : Int) < 0
    · rw [if_pos e0]; rfl
    · rw [if_neg e0, if_neg e0, toPuzzle_val x0_0 x0_1 x0_2 x0_3 x0_4 x0_5 (by omega) (by omega), toS_val x1_0 (by omega) (by omega)]
      obtain ⟨⟨a, e⟩, h2, h3⟩ := leastSteps_same (k := k) x0_0 (by omega) x0_1 x0_2 x0_3 x0_4 x0_5 x1_0 w1_0.2 (by omega) x2_0
      obtain ⟨k, rfl⟩ : ∃ m, k = m + 1 := ⟨k - 1, by omega⟩
      simp only [Option.bind_some]
      rw [h2, h3]
      simp only [Option.bind_some]
      rw [if_pos trivial]
      simp only [laws_FnExactLeastStepsTo.j0]
      rw [bne_self_eq_false, if_neg (by simp), toPuzzle_val x0_0 x0_1 x0_2 x0_3 x0_4 x0_5 (by omega) (by omega)]
      simp only [Option.bind_some]
      rw [eqPuzzle_self x0_0 x0_1 x0_2 x0_3 x0_4 x0_5 (by omega) (by omega)]
      simp only [Option.bind_some]
      rw [if_pos trivial, toS_val x1_0 (by omega) (by omega)]
      simp only [Option.bind_some]
      rw [eqS_self x1_0 (by omega) (by omega)]
      simp

end Go.Proofs.Ytodmfjophjhbeaa.Pure
