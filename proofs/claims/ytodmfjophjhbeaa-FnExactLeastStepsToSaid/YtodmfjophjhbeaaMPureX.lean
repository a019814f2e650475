/- Plain laws: where a table is no proof, as the reference and as the program find it. -/
import Derived.Test.YtodmfjophjhbeaaMPureU
import Derived.Test.YtodmfjophjhbeaaMPureV
import Derived.Test.YtodmfjophjhbeaaMPureP
import Derived.Test.YtodmfjophjhbeaaMPureI
-- IMPORTS
import Derived.Test.YtodmfjophjhbeaaMx0
import Derived.Test.YtodmfjophjhbeaaMx8
import Derived.Test.YtodmfjophjhbeaaMx10
import Derived.Test.YtodmfjophjhbeaaMx18
import Derived.Test.YtodmfjophjhbeaaMx21
namespace Go.Proofs.Ytodmfjophjhbeaa.Pure
open Go.RowKit Go.Proofs.Ytodmfjophjhbeaa.M Go.Proofs.YtodmfjophjhbeaaW.PrintWords Go.Proofs.YtodmfjophjhbeaaW.PrintLast Go.Proofs.YtodmfjophjhbeaaW.PrintMore
set_option linter.unusedVariables false
set_option linter.unusedSimpArgs false

/-- The number of the water behind a move; is a table no proof there? -/
def nextI (l : List Int) (p q s t : Int) (z : Bool) (a b c d : Int) (m : S60) : Int :=
  match impl_Puzzle_moved.f 3 l p q s t z a b c d m.f0 m.f1 m.f2 with
  | some (x, y, z', u, _) => idxR l [x, y, z', u]
  | none => 0
def bad (tb : List Int) (kk : Int) (l : List Int) (p q s t : Int) (z : Bool) (a b c d : Int) (m : S60) : Bool :=
  (rd tb (nextI l p q s t z a b c d m) == -1) || decide (rd tb (nextI l p q s t z a b c d m) > kk + 1)
theorem moved_all (l : List Int) (h1 : 1 ≤ (l.length : Int)) (h4 : (l.length : Int) ≤ 4) (p q s t : Int) (z : Bool) (hj : okJ l = true) (a b c d : Int) (hw : WF l a b c d) (m : S60) (hm : okS (l.length : Int) m = true) :
    ∃ x y z' u, (∀ k, 3 ≤ k → impl_Puzzle_moved.f k l p q s t z a b c d m.f0 m.f1 m.f2 = some (x, y, z', u, flag l p q s t z a b c d m)) ∧
      (∀ k, 3 ≤ k → spec_l02Move.j0 k false l p q s t z a b c d m.f0 m.f1 m.f2 = some (if flag l p q s t z a b c d m = true then (x, y, z', u, 0) else (0, 0, 0, 0, 4))) ∧
      nextI l p q s t z a b c d m = idxR l [x, y, z', u] ∧ (flag l p q s t z a b c d m = true → WF l x y z' u) := by
  obtain ⟨⟨a0, a1⟩, ⟨b0, b1⟩, c0, c1⟩ := okM_in h1 hm
  obtain ⟨x, y, z', u, e1, e2⟩ := moved_any (k := 3) (by omega) l h1 h4 p q s t z hj a b c d hw m a0 a1 b0 b1 c0 c1
  refine ⟨x, y, z', u, fun k hk => ?_, fun k hk => ?_, ?_, fun hf => ?_⟩
  · exact at_rounds (g := fun k => impl_Puzzle_moved.f k l p q s t z a b c d m.f0 m.f1 m.f2) (fun k => impl_Puzzle_moved.mono _ _ _ _ _ _ _ _ _ _ _ _ _ k) hk e1
  · exact at_rounds (g := fun k => spec_l02Move.j0 k false l p q s t z a b c d m.f0 m.f1 m.f2) (fun k => (spec_l02Move.mono_l k).1 _ _ _ _ _ _ _ _ _ _ _ _ _ _) hk (e2 hm)
  · unfold nextI
    rw [e1]
  · rw [hf] at e1
    refine moved_wf (k := 0) l h1 h4 p q s t z a b c d m.f0 m.f1 m.f2 hw (fun j j0 j1 => ?_) hm e1
    have := okJ_rd l hj j j0 j1
    omega
theorem foldl_stepM (l : List Int) (p q s t : Int) (z : Bool) (a b c d : Int) : ∀ (ms out : List S60), ms.foldl (stepM l p q s t z a b c d) out = out ++ ms.filter (fun m => okS (l.length : Int) m && flag l p q s t z a b c d m) := by
  intro ms
  induction ms with
  | nil => intro out; simp
  | cons m ms ih =>
    intro out
    rw [List.foldl_cons, ih]
    unfold stepM
    by_cases h : (okS (l.length : Int) m && flag l p q s t z a b c d m) = true
    · rw [if_pos h, List.filter_cons, if_pos h]; simp
    · rw [if_neg h, List.filter_cons, if_neg h]
theorem any_if (f : S60 → Bool) (x : S60) (L : List S60) (i r : Int) : (if (x :: L).any f = true then i else r) = if f x = true then i else if L.any f = true then i else r := by
  by_cases h : f x = true
  · rw [if_pos h, if_pos (by simp [h])]
  · rw [if_neg h]
    by_cases h2 : L.any f = true
    · rw [if_pos h2, if_pos (by rw [List.any_cons, h2, Bool.or_true])]
    · rw [if_neg h2, if_neg (by rw [List.any_cons, Bool.eq_false_iff.2 h, Bool.eq_false_iff.2 h2]; simp)]
/-- What is known of a table. -/
structure Tab (tb l : List Int) : Prop where
  h1 : 1 ≤ (l.length : Int)
  h4 : (l.length : Int) ≤ 4
  hj : okJ l = true
  len : (tb.length : Int) = prodL l
  most : prodL l ≤ 5000
  rng : ∀ j : Int, 0 ≤ j → j < (tb.length : Int) → -32768 ≤ rd tb j ∧ rd tb j ≤ 32767
theorem Tab.one {tb l : List Int} (T : Tab tb l) : ∀ x ∈ l, 1 ≤ x := fun x hx => (okJ_mem T.hj x hx).1
theorem Tab.idx {tb l : List Int} (T : Tab tb l) {a b c d : Int} (hw : WF l a b c d) : 0 ≤ idxR l [a, b, c, d] ∧ idxR l [a, b, c, d] < (tb.length : Int) := by
  rw [T.len]
  exact idx_lt l _ T.one (wf_in l T.h1 T.h4 a b c d hw)
theorem Tab.w64 {tb l : List Int} (T : Tab tb l) {j : Int} (h0 : 0 ≤ j) (h1 : j < (tb.length : Int)) : wrap64 (rd tb j) = rd tb j := by
  have := T.rng j h0 h1
  unfold wrap64; omega
theorem spec_row {tb l : List Int} (T : Tab tb l) (p q s t : Int) (z : Bool) (a b c d : Int) (hw : WF l a b c d) (st i kk : Int) (k0 : 0 ≤ kk) (k1 : kk ≤ 32767) (i0 : 0 ≤ i) (i1 : i ≤ 5000) (r : Int) (K : Nat)
    (H : ∀ k, K ≤ k → spec_l02Broken.l0 k tb st ((pairsL l.length).filter (okS (l.length : Int))) (i + 1) l p q s t z = some r) (all : List S60) (hall : all = (pairsL l.length).filter (okS (l.length : Int))) (hlen : all.length ≤ 100) :
    ∀ (suf pre : List S60), all = pre ++ suf → ∀ k, K + 2 * suf.length + 20 ≤ k →
    spec_l02Broken.l1 k tb st all i kk (pre.length : Int) l p q s t z a b c d = some (if (suf.filter (flag l p q s t z a b c d)).any (bad tb kk l p q s t z a b c d) = true then i else r) := by
  intro suf
  induction suf with
  | nil =>
    intro pre h k hk
    simp only [List.append_nil] at h
    obtain ⟨k, rfl⟩ := fuel (show 2 ≤ k by omega)
    rw [show k + 2 = (k + 1) + 1 from rfl]
    simp only [spec_l02Broken.l1]
    rw [if_neg (by rw [h]; omega)]
    simp only [spec_l02Broken.j3]
    rw [if_neg (by simp), wi i0 (by omega), hall]
    simpa using H k (by omega)
  | cons x suf ih =>
    intro pre h k hk
    simp only [List.length_cons] at hk
    obtain ⟨k, rfl⟩ := fuel (show 2 ≤ k by omega)
    have hn : all.length = pre.length + (suf.length + 1) := by rw [h]; simp
    have e : rd_T60 all (pre.length : Int) = x := by rw [h]; unfold rd_T60; simp [List.getD]
    have hx : okS (l.length : Int) x = true := by
      have hm : x ∈ all := by rw [h]; simp
      rw [hall] at hm
      exact (List.mem_filter.1 hm).2
    obtain ⟨⟨a0, a1⟩, ⟨b0, b1⟩, c0, c1⟩ := okM_in T.h1 hx
    have h4 := T.h4
    obtain ⟨x1, y1, z1, u1, _, e2, e3, e4⟩ := moved_all l T.h1 T.h4 p q s t z T.hj a b c d hw x hx
    have hnx := ih (pre ++ [x]) (by simp [h]) k (by omega)
    rw [show (((pre ++ [x]).length : Nat) : Int) = (pre.length : Int) + 1 by simp] at hnx
    rw [show k + 2 = (k + 1) + 1 from rfl]
    simp only [spec_l02Broken.l1]
    rw [if_pos (by omega), show decide (kk ≥ 0) = true by simpa using k0]
    simp only [spec_l02Broken.j3, e]
    rw [if_pos trivial, if_pos (by omega), if_pos (by omega), spec_head k l T.h1 T.h4 p q s t z a b c d x.f0 x.f1 x.f2 (wf8_of (by omega) (by omega)) (wf8_of (by omega) (by omega)) (wf8_of (by omega) (by omega)), show okM (l.length : Int) x.f0 x.f1 x.f2 = true from hx, Bool.not_true, e2 k (by omega), wi (i := (pre.length : Int)) (by omega) (by omega)]
    simp only [Option.bind_some]
    cases hf : flag l p q s t z a b c d x with
    | false =>
      rw [List.filter_cons, hf]
      simp only [Bool.false_eq_true, if_false]
      rw [if_neg (show ¬ (4 : Int) = 0 by omega)]
      exact hnx
    | true =>
      have hwx := e4 hf
      obtain ⟨g0, g1⟩ := T.idx hwx
      rw [List.filter_cons, hf, if_pos rfl, if_pos rfl, if_pos rfl, any_if, (index_val (k := k) (by omega) l T.h1 T.h4 T.hj p q s t z x1 y1 z1 u1 hwx).1]
      simp only [Option.bind_some]
      rw [if_pos g0, if_pos g1, T.w64 g0 g1, show wrap64 (kk + 1) = kk + 1 by unfold wrap64; omega]
      have hb : bad tb kk l p q s t z a b c d x = ((rd tb (idxR l [x1, y1, z1, u1]) == -1) || decide (rd tb (idxR l [x1, y1, z1, u1]) > kk + 1)) := by unfold bad; rw [e3]
      generalize rd tb (idxR l [x1, y1, z1, u1]) = n at hb ⊢
      by_cases n1 : n = -1
      · rw [if_pos n1, if_pos (by rw [hb]; simp [n1])]
      · rw [if_neg n1]
        by_cases n2 : n > kk + 1
        · rw [if_pos n2, if_pos (by rw [hb]; simp [n2])]
        · rw [if_neg n2, if_neg (by rw [hb]; simp [n1]; omega), hnx]
theorem impl_row {tb l : List Int} (T : Tab tb l) (p q s t : Int) (z : Bool) (a b c d : Int) (hw : WF l a b c d) (i kk : Int) (k0 : 0 ≤ kk) (k1 : kk ≤ 32767) (i0 : 0 ≤ i) (i1 : i ≤ 5000) (r : Int) (K : Nat)
    (H : ∀ k, K ≤ k → impl_Puzzle_broken.l0 k tb (tb.length : Int) (i + 1) l p q s t z = some r) (mv : List S60) (hmv : ∀ m ∈ mv, okS (l.length : Int) m = true ∧ flag l p q s t z a b c d m = true) (hlen : mv.length ≤ 100) :
    ∀ (suf pre : List S60), mv = pre ++ suf → ∀ k, K + suf.length + 20 ≤ k →
    impl_Puzzle_broken.l1 k tb i kk (tb.length : Int) i mv (mv.length : Int) (pre.length : Int) l p q s t z a b c d = some (if suf.any (bad tb kk l p q s t z a b c d) = true then i else r) := by
  intro suf
  induction suf with
  | nil =>
    intro pre h k hk
    simp only [List.append_nil] at h
    obtain ⟨k, rfl⟩ := fuel (show 1 ≤ k by omega)
    simp only [impl_Puzzle_broken.l1]
    rw [if_neg (by rw [h]; omega), wi i0 (by omega)]
    simpa using H k (by omega)
  | cons x suf ih =>
    intro pre h k hk
    simp only [List.length_cons] at hk
    obtain ⟨k, rfl⟩ := fuel (show 1 ≤ k by omega)
    have hn : mv.length = pre.length + (suf.length + 1) := by rw [h]; simp
    have e : rd_T60 mv (pre.length : Int) = x := by rw [h]; unfold rd_T60; simp [List.getD]
    obtain ⟨hx, hf⟩ := hmv x (by rw [h]; simp)
    obtain ⟨x1, y1, z1, u1, e2, _, e3, e4⟩ := moved_all l T.h1 T.h4 p q s t z T.hj a b c d hw x hx
    have hwx := e4 hf
    obtain ⟨g0, g1⟩ := T.idx hwx
    have hnx := ih (pre ++ [x]) (by simp [h]) k (by omega)
    rw [show (((pre ++ [x]).length : Nat) : Int) = (pre.length : Int) + 1 by simp] at hnx
    simp only [impl_Puzzle_broken.l1, e]
    rw [if_pos (by omega), if_pos (by omega), if_pos (by omega), e2 k (by omega)]
    simp only [Option.bind_some]
    rw [(index_val (k := 10) (by omega) l T.h1 T.h4 T.hj p q s t z x1 y1 z1 u1 hwx).2]
    simp only [Option.bind_some]
    rw [any_if, if_pos g0, if_pos g1, T.w64 g0 g1, show wrap64 kk = kk by unfold wrap64; omega, show wrap64 (kk + 1) = kk + 1 by unfold wrap64; omega, wi (i := (pre.length : Int)) (by omega) (by omega)]
    have hb : bad tb kk l p q s t z a b c d x = ((rd tb (idxR l [x1, y1, z1, u1]) == -1) || decide (rd tb (idxR l [x1, y1, z1, u1]) > kk + 1)) := by unfold bad; rw [e3]
    generalize rd tb (idxR l [x1, y1, z1, u1]) = n at hb ⊢
    by_cases n1 : n = -1
    · rw [if_pos n1, if_pos (by rw [hb]; simp [n1])]
    · rw [if_neg n1]
      by_cases n2 : n > kk + 1
      · rw [if_pos n2, if_pos (by rw [hb]; simp [n2])]
      · rw [if_neg n2, if_neg (by rw [hb]; simp [n1]; omega), hnx]

theorem idx_rd (l ws : List Int) (h1 : 1 ≤ (l.length : Int)) (h4 : (l.length : Int) ≤ 4) (hn : ws.length = l.length) : idxR l [rd ws 0, rd ws 1, rd ws 2, rd ws 3] = idxR l ws := by
  revert ws
  refine four (P := fun l => ∀ ws, ws.length = l.length → idxR l [rd ws 0, rd ws 1, rd ws 2, rd ws 3] = idxR l ws) l h1 h4 ?_ ?_ ?_ ?_
  · intro x ws hn
    match ws, hn with
    | [a], _ => simp [idxR, rd]
  · intro x y ws hn
    match ws, hn with
    | [a, b], _ => simp [idxR, rd]
  · intro x y z ws hn
    match ws, hn with
    | [a, b, c], _ => simp [idxR, rd]
  · intro x y z u ws hn
    match ws, hn with
    | [a, b, c, d], _ => simp [idxR, rd]
theorem take_rd (l : List Int) (h1 : 1 ≤ (l.length : Int)) (h4 : (l.length : Int) ≤ 4) (p q s t : Int) (hw : WF l p q s t) :
    rd ([p, q, s, t].take l.length) 0 = p ∧ rd ([p, q, s, t].take l.length) 1 = q ∧ rd ([p, q, s, t].take l.length) 2 = s ∧ rd ([p, q, s, t].take l.length) 3 = t := by
  revert hw
  refine four (P := fun l => WF l p q s t → rd ([p, q, s, t].take l.length) 0 = p ∧ rd ([p, q, s, t].take l.length) 1 = q ∧ rd ([p, q, s, t].take l.length) 2 = s ∧ rd ([p, q, s, t].take l.length) 3 = t) l h1 h4 ?_ ?_ ?_ ?_
  all_goals
    intros
    rename_i hw
    have h0 := hw 0 (by omega) (by omega)
    have h1 := hw 1 (by omega) (by omega)
    have h2 := hw 2 (by omega) (by omega)
    have h3 := hw 3 (by omega) (by omega)
    simp [rd, capL] at h0 h1 h2 h3 ⊢
    try omega
theorem start_eq {tb l : List Int} (T : Tab tb l) (p q s t : Int) (hst : WF l p q s t) (i : Int) (i0 : 0 ≤ i) (i1 : i < (tb.length : Int)) :
    (rd (atR l i) 0 == p && (rd (atR l i) 1 == q && (rd (atR l i) 2 == s && (rd (atR l i) 3 == t)))) = decide (i = idxR l [p, q, s, t]) := by
  rw [T.len] at i1
  by_cases h : i = idxR l [p, q, s, t]
  · have e := at_idx l [p, q, s, t] T.one (wf_in l T.h1 T.h4 p q s t hst)
    obtain ⟨e0, e1, e2, e3⟩ := take_rd l T.h1 T.h4 p q s t hst
    rw [← h] at e
    rw [e, e0, e1, e2, e3]
    simp [h]
  · rw [show decide (i = idxR l [p, q, s, t]) = false by simpa using h, Bool.eq_false_iff]
    intro hh
    simp only [Bool.and_eq_true, beq_iff_eq] at hh
    obtain ⟨r0, r1, r2, r3⟩ := hh
    have e := idx_rd l (atR l i) T.h1 T.h4 (at_len l i)
    rw [idx_at l i T.one i0 i1, r0, r1, r2, r3] at e
    exact h e.symm
theorem broken_loop {tb l : List Int} (T : Tab tb l) (p q s t : Int) (z : Bool) (hst : WF l p q s t) : ∀ (d : Nat) (i : Int), 0 ≤ i → i + d = (tb.length : Int) →
    ∃ r, ∀ k, 300 * d + 300 ≤ k → spec_l02Broken.l0 k tb (idxR l [p, q, s, t]) ((pairsL l.length).filter (okS (l.length : Int))) i l p q s t z = some r ∧ impl_Puzzle_broken.l0 k tb (tb.length : Int) i l p q s t z = some r := by
  have hle : (tb.length : Int) ≤ 5000 := by rw [T.len]; exact T.most
  have hsq : l.length * l.length ≤ 16 := by
    have := T.h4
    exact Nat.mul_le_mul (show l.length ≤ 4 by omega) (show l.length ≤ 4 by omega)
  have hpl : (pairsL l.length).length ≤ 48 := by
    unfold pairsL
    simp only [List.length_append, rowsL_len]
    omega
  have hfl : ((pairsL l.length).filter (okS (l.length : Int))).length ≤ 48 := Nat.le_trans (List.length_filter_le _ _) hpl
  intro d
  induction d with
  | zero =>
    intro i i0 id
    refine ⟨-1, fun k hk => ?_⟩
    obtain ⟨k, rfl⟩ := fuel (show 1 ≤ k by omega)
    constructor
    · simp only [spec_l02Broken.l0]; rw [if_neg (by omega)]
    · simp only [impl_Puzzle_broken.l0]; rw [if_neg (by omega)]
  | succ d ih =>
    intro i i0 id
    have i1 : i < (tb.length : Int) := by omega
    obtain ⟨r, ihr⟩ := ih (i + 1) (by omega) (by omega)
    have hw : WF l (rd (atR l i) 0) (rd (atR l i) 1) (rd (atR l i) 2) (rd (atR l i) 3) := in_wf l (atR l i) T.h1 T.h4 (at_len l i) (at_in l i T.one)
    have hat := fun k (hk : 10 ≤ k) => at_val (k := k) hk l T.h1 T.h4 T.hj p q s t z i i0 (by omega)
    have hkk := T.rng i i0 i1
    have h64 := T.w64 i0 i1
    have hse := start_eq T p q s t hst i i0 i1
    -- the row where the table's number is 0 or more
    have row : 0 ≤ rd tb i → ∃ r', (∀ k, 300 * d + 500 ≤ k → spec_l02Broken.l1 k tb (idxR l [p, q, s, t]) ((pairsL l.length).filter (okS (l.length : Int))) i (rd tb i) 0 l p q s t z (rd (atR l i) 0) (rd (atR l i) 1) (rd (atR l i) 2) (rd (atR l i) 3) = some r') ∧
        (∀ k, 300 * d + 400 ≤ k → impl_Puzzle_broken.l1 k tb i (rd tb i) (tb.length : Int) i ((pairsL l.length).foldl (stepM l p q s t z (rd (atR l i) 0) (rd (atR l i) 1) (rd (atR l i) 2) (rd (atR l i) 3)) []) (((pairsL l.length).foldl (stepM l p q s t z (rd (atR l i) 0) (rd (atR l i) 1) (rd (atR l i) 2) (rd (atR l i) 3)) []).length : Int) 0 l p q s t z (rd (atR l i) 0) (rd (atR l i) 1) (rd (atR l i) 2) (rd (atR l i) 3) = some r') := by
      intro hk0
      have hS := spec_row T p q s t z _ _ _ _ hw (idxR l [p, q, s, t]) i (rd tb i) hk0 hkk.2 i0 (by omega) r (300 * d + 300) (fun k hk => (ihr k hk).1) _ rfl (by omega) ((pairsL l.length).filter (okS (l.length : Int))) [] rfl
      have hmv := foldl_stepM l p q s t z (rd (atR l i) 0) (rd (atR l i) 1) (rd (atR l i) 2) (rd (atR l i) 3) (pairsL l.length) []
      rw [List.nil_append] at hmv
      have hml : ((pairsL l.length).filter (fun m => okS (l.length : Int) m && flag l p q s t z (rd (atR l i) 0) (rd (atR l i) 1) (rd (atR l i) 2) (rd (atR l i) 3) m)).length ≤ 48 := Nat.le_trans (List.length_filter_le _ _) hpl
      have hI := impl_row T p q s t z _ _ _ _ hw i (rd tb i) hk0 hkk.2 i0 (by omega) r (300 * d + 300) (fun k hk => (ihr k hk).2) ((pairsL l.length).filter (fun m => okS (l.length : Int) m && flag l p q s t z (rd (atR l i) 0) (rd (atR l i) 1) (rd (atR l i) 2) (rd (atR l i) 3) m))
        (fun m hm => by simpa using (List.mem_filter.1 hm).2) (by omega) _ [] rfl
      refine ⟨_, fun k hk => hS k (by omega), fun k hk => ?_⟩
      rw [hmv]
      have hI := hI k (by omega)
      rw [List.filter_filter]
      have he : (fun m => okS (l.length : Int) m && flag l p q s t z (rd (atR l i) 0) (rd (atR l i) 1) (rd (atR l i) 2) (rd (atR l i) 3) m) = (fun a => flag l p q s t z (rd (atR l i) 0) (rd (atR l i) 1) (rd (atR l i) 2) (rd (atR l i) 3) a && okS (l.length : Int) a) := by
        funext m
        exact Bool.and_comm _ _
      rw [he] at hI ⊢
      exact hI
    by_cases c1 : rd tb i < -1
    · refine ⟨i, fun k hk => ?_⟩
      obtain ⟨k, rfl⟩ := fuel (show 2 ≤ k by omega)
      rw [show k + 2 = (k + 1) + 1 from rfl]
      constructor
      · simp only [spec_l02Broken.l0, h64]
        rw [if_pos i1, if_pos i0, if_pos c1]
        simp only [spec_l02Broken.j1]
        rw [if_pos trivial]
      · simp only [impl_Puzzle_broken.l0]
        rw [if_pos i1, if_pos i0, if_pos i1, (hat (k + 1) (by omega)).2]
        simp only [Option.bind_some]
        rw [if_pos c1]
        simp only [impl_Puzzle_broken.j1]
        rw [if_pos trivial]
    · -- whether it is the start, and its number is not 0
      have step : ∀ f : Bool, f = (decide (i = idxR l [p, q, s, t]) && (rd tb i != 0)) →
          (∀ k, 2 ≤ k → spec_l02Broken.l0 (k + 1) tb (idxR l [p, q, s, t]) ((pairsL l.length).filter (okS (l.length : Int))) i l p q s t z = spec_l02Broken.j1 k tb (idxR l [p, q, s, t]) ((pairsL l.length).filter (okS (l.length : Int))) i (rd tb i) f l p q s t z) ∧
          (∀ k, 10 ≤ k → impl_Puzzle_broken.l0 (k + 1) tb (tb.length : Int) i l p q s t z = impl_Puzzle_broken.j1 k tb i (rd tb i) (tb.length : Int) i f l p q s t z (rd (atR l i) 0) (rd (atR l i) 1) (rd (atR l i) 2) (rd (atR l i) 3)) := by
        intro f hf
        constructor
        · intro k hk
          simp only [spec_l02Broken.l0, h64]
          rw [if_pos i1, if_pos i0, if_neg c1, hf]
          by_cases h : i = idxR l [p, q, s, t]
          · rw [if_pos h, decide_eq_true h, Bool.true_and]
          · rw [if_neg h, decide_eq_false h, Bool.false_and]
        · intro k hk
          simp only [impl_Puzzle_broken.l0]
          rw [if_pos i1, if_pos i0, if_pos i1, (hat k hk).2]
          simp only [Option.bind_some]
          rw [if_neg c1, hse, hf]
          by_cases h : i = idxR l [p, q, s, t]
          · rw [decide_eq_true h, if_pos rfl, Bool.true_and]
          · rw [decide_eq_false h, if_neg (by simp), Bool.false_and]
      obtain ⟨f, hf⟩ : ∃ f : Bool, f = (decide (i = idxR l [p, q, s, t]) && (rd tb i != 0)) := ⟨_, rfl⟩
      obtain ⟨sS, sI⟩ := step f hf
      cases f with
      | true =>
        refine ⟨i, fun k hk => ?_⟩
        obtain ⟨k, rfl⟩ := fuel (show 2 ≤ k by omega)
        rw [show k + 2 = (k + 1) + 1 from rfl, sS (k + 1) (by omega), sI (k + 1) (by omega)]
        simp only [spec_l02Broken.j1, impl_Puzzle_broken.j1]
        rw [if_pos trivial, if_pos trivial]
        exact ⟨rfl, rfl⟩
      | false =>
        by_cases c2 : rd tb i = -1
        · refine ⟨r, fun k hk => ?_⟩
          obtain ⟨k, rfl⟩ := fuel (show 4 ≤ k by omega)
          rw [show k + 4 = (k + 3) + 1 from rfl, sS (k + 3) (by omega), sI (k + 3) (by omega), show k + 3 = (k + 2) + 1 from rfl]
          simp only [spec_l02Broken.j1, impl_Puzzle_broken.j1]
          rw [if_neg (by simp), if_neg (by simp), if_pos c2, wi i0 (by omega), (hat (k + 2) (by omega)).1]
          simp only [Option.bind_some]
          refine ⟨?_, (ihr (k + 2) (by omega)).2⟩
          rw [show k + 2 = (k + 1) + 1 from rfl]
          have hd : decide (rd tb i ≥ 0) = false := by rw [c2]; rfl
          simp only [spec_l02Broken.l1, hd]
          have hn : spec_l02Broken.j3 (k + 1) tb (idxR l [p, q, s, t]) ((pairsL l.length).filter (okS (l.length : Int))) i (rd tb i) 0 false l p q s t z (rd (atR l i) 0) (rd (atR l i) 1) (rd (atR l i) 2) (rd (atR l i) 3) = some r := by
            simp only [spec_l02Broken.j3]
            rw [if_neg (by simp), wi i0 (by omega)]
            exact (ihr k (by omega)).1
          rw [hn]
          split <;> rfl
        · obtain ⟨r', rS, rI⟩ := row (by omega)
          refine ⟨r', fun k hk => ?_⟩
          obtain ⟨k, rfl⟩ := fuel (show 2 ≤ k by omega)
          rw [show k + 2 = (k + 1) + 1 from rfl, sS (k + 1) (by omega), sI (k + 1) (by omega)]
          simp only [spec_l02Broken.j1, impl_Puzzle_broken.j1]
          rw [if_neg (by simp), if_neg (by simp), if_neg c2, (hat k (by omega)).1, impl_moves_val l T.h1 T.h4 p q s t z T.hj _ _ _ _ hw k (by omega)]
          simp only [Option.bind_some]
          exact ⟨rS k (by omega), rI k (by omega)⟩
theorem broken_same {tb l : List Int} (T : Tab tb l) (p q s t : Int) (z : Bool) (hst : WF l p q s t) {k : Nat} (hk : 300 * tb.length + 600 ≤ k) :
    ∃ r, spec_l02Broken.f k l p q s t z tb = some r ∧ impl_Puzzle_broken.f k l p q s t z tb = some r := by
  obtain ⟨r, hr⟩ := broken_loop T p q s t z hst tb.length 0 (by omega) (by omega)
  obtain ⟨r1, r2⟩ := hr k (by omega)
  have hl := T.h4
  unfold spec_l02Broken.f impl_Puzzle_broken.f
  rw [(index_val (k := k) (by omega) l T.h1 T.h4 T.hj p q s t z p q s t hst).1, all_val l T.h1 T.h4 p q s t z k (by omega), statesi_val l (by omega) (by omega), prod_same l T.h1 T.h4 T.hj, ← T.len]
  exact ⟨r, r1, r2⟩

end Go.Proofs.Ytodmfjophjhbeaa.Pure
