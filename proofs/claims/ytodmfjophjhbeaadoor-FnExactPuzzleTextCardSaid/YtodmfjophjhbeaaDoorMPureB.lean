/- Plain laws: puzzles and waters, copied, compared, checked. -/
-- IMPORTS
import Derived.Test.YtodmfjophjhbeaaDoorMx1
import Derived.Test.YtodmfjophjhbeaaDoorMx2
import Derived.Test.YtodmfjophjhbeaaDoorMx3
import Derived.Test.YtodmfjophjhbeaaDoorMx6
import Derived.Test.YtodmfjophjhbeaaDoorMx7
import Derived.Test.YtodmfjophjhbeaaDoorMx8
import Derived.Test.YtodmfjophjhbeaaDoorMx9
import Derived.Test.YtodmfjophjhbeaaDoorMx11
import Derived.Test.YtodmfjophjhbeaaDoorMx12
namespace Go.Proofs.YtodmfjophjhbeaaDoor.Pure
open Go.RowKit Go.Proofs.YtodmfjophjhbeaaDoor.M Go.Proofs.YtodmfjophjhbeaaDoorW.PrintWords Go.Proofs.YtodmfjophjhbeaaDoorW.PrintLast Go.Proofs.YtodmfjophjhbeaaDoorW.PrintMore
set_option linter.unusedVariables false
set_option linter.unusedSimpArgs false

theorem wi {i : Int} (h0 : 0 ≤ i) (h1 : i ≤ 2000000000) : wrap64 (i + 1) = i + 1 := by unfold wrap64; omega
theorem fuel {k n : Nat} (h : n ≤ k) : ∃ m, k = m + n := ⟨k - n, by omega⟩
theorem wf16 {a : Int} (h : (Lit.int .i16 a).wf = true) : -32768 ≤ a ∧ a ≤ 32767 := by
  have h' : IntKind.i16.min ≤ a ∧ a ≤ IntKind.i16.max := by simpa [Lit.wf] using h
  exact h'
theorem within_val (a b c : Int) : impl_within.f a b c = some (decide (b ≤ a ∧ a ≤ c)) := by
  unfold impl_within.f
  by_cases h : b ≤ a
  · rw [if_pos h]; simp [h]
  · rw [if_neg h]; simp [h]
theorem in_val (a b c : Int) : spec_l00In.f a b c = some (decide (b ≤ a ∧ a ≤ c)) := by
  unfold spec_l00In.f
  by_cases h : a ≥ b
  · rw [if_pos h]; simp [show b ≤ a from h]
  · rw [if_neg h]; simp [show ¬ b ≤ a from h]
theorem rd_pre (pre : List Int) (x : Int) (suf : List Int) : rd (pre ++ x :: suf) (pre.length : Int) = x := by
  unfold rd; simp [List.getD]
theorem toWater_val {k : Nat} (h : 5 ≤ k) (a b c d : Int) : laws_toWater.f k a b c d = some (a, b, c, d) := by
  obtain ⟨m, rfl⟩ := fuel h
  simp [laws_toWater.f, laws_toWater.l0, aup, rd, wrap64]
theorem eqWater_self {k : Nat} (h : 5 ≤ k) (a b c d : Int) : laws_eqWater.f k a b c d a b c d = some true := by
  obtain ⟨m, rfl⟩ := fuel h
  simp [laws_eqWater.f, laws_eqWater.l0, rd, wrap64]

theorem toS_l0 (l : List Int) (hl : l.length ≤ 1048576) : ∀ (suf pre r : List Int) (k : Nat), l = pre ++ suf → r.length = suf.length → suf.length + 1 ≤ k → laws_toInt16S.l0 k l (pre ++ r) (pre.length : Int) = some l := by
  intro suf
  induction suf with
  | nil =>
    intro pre r k h hr hk
    obtain ⟨k, rfl⟩ := fuel (show 1 ≤ k by omega)
    obtain rfl : r = [] := List.length_eq_zero_iff.1 hr
    simp only [List.append_nil] at h
    subst h
    simp [laws_toInt16S.l0]
  | cons x suf ih =>
    intro pre r k h hr hk
    cases r with
    | nil => simp at hr
    | cons y r =>
      simp only [List.length_cons] at hr hk
      obtain ⟨k, rfl⟩ := fuel (show 1 ≤ k by omega)
      have hn : l.length = pre.length + (suf.length + 1) := by rw [h]; simp
      have e : rd l (pre.length : Int) = x := by rw [h]; exact rd_pre pre x suf
      simp only [laws_toInt16S.l0]
      rw [if_pos (by omega), if_pos (by omega), e, if_pos (by simp; omega), wi (by omega) (by omega)]
      have es : (pre ++ y :: r).set ((pre.length : Int)).toNat x = (pre ++ [x]) ++ r := by
        rw [List.set_append_right _ _ (by simp)]
        simp
      rw [es, show (pre.length : Int) + 1 = ((pre ++ [x]).length : Int) by simp]
      exact ih (pre ++ [x]) r k (by simp [h]) (by omega) (by omega)
theorem toS_val {k : Nat} (l : List Int) (hl : l.length ≤ 1048576) (h : l.length + 1 ≤ k) : laws_toInt16S.f k l = some l := by
  unfold laws_toInt16S.f
  rw [if_pos (by omega), if_pos (by simp; omega)]
  exact toS_l0 l hl l [] _ k rfl (by simp) h
theorem eqS_l0 (l : List Int) (hl : l.length ≤ 1048576) : ∀ (d k : Nat) (i : Int), 0 ≤ i → (l.length : Int) - i ≤ d → d + 1 ≤ k → laws_eqInt16S.l0 k l l i = some true := by
  intro d
  induction d with
  | zero =>
    intro k i h0 h1 h2
    obtain ⟨k, rfl⟩ := fuel (show 1 ≤ k by omega)
    simp only [laws_eqInt16S.l0]; rw [if_neg (by omega)]
  | succ d ih =>
    intro k i h0 h1 h2
    obtain ⟨k, rfl⟩ := fuel (show 1 ≤ k by omega)
    simp only [laws_eqInt16S.l0]
    by_cases h : i < (l.length : Int)
    · rw [if_pos h, if_pos h0, if_pos h, wi h0 (by omega), if_pos trivial]
      exact ih k (i + 1) (by omega) (by omega) (by omega)
    · rw [if_neg h]
theorem eqS_self {k : Nat} (l : List Int) (hl : l.length ≤ 1048576) (h : l.length + 1 ≤ k) : laws_eqInt16S.f k l l = some true := by
  unfold laws_eqInt16S.f
  rw [if_pos rfl]
  exact eqS_l0 l hl l.length k 0 (by omega) (by omega) h

theorem toPuzzle_val {k : Nat} (l : List Int) (a b c d : Int) (z : Bool) (hl : l.length ≤ 1048576) (h : l.length + 5 ≤ k) : laws_toPuzzle.f k l a b c d z = some (l, a, b, c, d, z) := by
  unfold laws_toPuzzle.f
  rw [toS_val l hl (by omega), toWater_val (by omega)]
  rfl
theorem eqPuzzle_self {k : Nat} (l : List Int) (a b c d : Int) (z : Bool) (hl : l.length ≤ 1048576) (h : l.length + 5 ≤ k) : laws_eqPuzzle.f k l a b c d z l a b c d z = some true := by
  unfold laws_eqPuzzle.f
  rw [eqS_self l hl (by omega), eqWater_self (by omega)]
  simp
theorem szPuzzle_val (l : List Int) (a b c d : Int) (z : Bool) (hl : l.length ≤ maxLen) (s : Int) (h0 : 0 ≤ s) (h1 : s ≤ 1048576) : laws_szPuzzle.f l a b c d z s = some (if s - l.length < 0 then -1 else s - l.length) := by
  unfold laws_szPuzzle.f laws_szInt16S.f
  have hm : (l.length : Int) ≤ maxLen := by exact_mod_cast hl
  have e : wrap64 (s - (l.length : Int)) = s - l.length := by
    have hm2 : (maxLen : Int) = 9223372036854775807 := by decide
    unfold wrap64; omega
  rw [e]
  by_cases h : s - (l.length : Int) < 0
  · rw [if_pos h, if_pos h]; rfl
  · rw [if_neg h, if_neg h]
    simp only [Option.bind_some]
    rw [if_neg h]

/-- The number of waters, as both compute it. -/
def stepP (a x : Int) : Int := wrap64 (a * wrap64 (wrap64 x + 1))
def prodP (a : Int) (l : List Int) : Int := l.foldl stepP a
def okJ (l : List Int) : Bool := l.all fun x => decide (1 ≤ x ∧ x ≤ 60)
theorem states_l0 (l : List Int) (hl : l.length ≤ 1048576) : ∀ (suf pre : List Int) (k : Nat) (a : Int), l = pre ++ suf → suf.length + 1 ≤ k → spec_l02States.l0 k l a (pre.length : Int) = some (if okJ suf = true then (if prodP a suf > 5000 then 0 else prodP a suf) else 0) := by
  intro suf
  induction suf with
  | nil =>
    intro pre k a h hk
    obtain ⟨k, rfl⟩ := fuel (show 1 ≤ k by omega)
    simp only [List.append_nil] at h
    simp only [spec_l02States.l0]; rw [h, if_neg (by omega)]
    rw [show okJ [] = true from rfl, show prodP a [] = a from rfl, if_pos rfl]
    by_cases h5 : a > 5000
    · rw [if_pos h5, if_pos h5]
    · rw [if_neg h5, if_neg h5]
  | cons x suf ih =>
    intro pre k a h hk
    simp only [List.length_cons] at hk
    obtain ⟨k, rfl⟩ := fuel (show 1 ≤ k by omega)
    have hn : l.length = pre.length + (suf.length + 1) := by rw [h]; simp
    have e : rd l (pre.length : Int) = x := by rw [h]; exact rd_pre pre x suf
    simp only [spec_l02States.l0]
    rw [if_pos (by omega), if_pos (by omega), e]
    by_cases h1 : x < 1
    · rw [if_pos h1]; simp [okJ, show ¬ 1 ≤ x by omega]
    · by_cases h2 : x > 60
      · rw [if_neg h1, if_pos h2]; simp [okJ, show ¬ x ≤ 60 by omega]
      · rw [if_neg h1, if_neg h2, wi (i := (pre.length : Int)) (by omega) (by omega), show (pre.length : Int) + 1 = ((pre ++ [x]).length : Int) by simp]
        have := ih (pre ++ [x]) k (stepP a x) (by simp [h]) (by omega)
        unfold stepP at this
        rw [this]
        have e1 : okJ (x :: suf) = okJ suf := by simp [okJ, show 1 ≤ x by omega, show x ≤ 60 by omega]
        have e2 : prodP a (x :: suf) = prodP (wrap64 (a * wrap64 (wrap64 x + 1))) suf := by simp [prodP, stepP]
        rw [e1, e2]
theorem statesi_l0 (l : List Int) (hl : l.length ≤ 1048576) : ∀ (suf pre : List Int) (k : Nat) (a : Int), l = pre ++ suf → suf.length + 1 ≤ k → impl_Puzzle_states.l0 k a l (l.length : Int) (pre.length : Int) = some (prodP a suf) := by
  intro suf
  induction suf with
  | nil =>
    intro pre k a h hk
    obtain ⟨k, rfl⟩ := fuel (show 1 ≤ k by omega)
    simp only [List.append_nil] at h
    simp only [impl_Puzzle_states.l0]; rw [h, if_neg (by omega)]; rfl
  | cons x suf ih =>
    intro pre k a h hk
    simp only [List.length_cons] at hk
    obtain ⟨k, rfl⟩ := fuel (show 1 ≤ k by omega)
    have hn : l.length = pre.length + (suf.length + 1) := by rw [h]; simp
    have e : rd l (pre.length : Int) = x := by rw [h]; exact rd_pre pre x suf
    simp only [impl_Puzzle_states.l0]
    rw [if_pos (by omega), if_pos (by omega), if_pos (by omega), e, wi (i := (pre.length : Int)) (by omega) (by omega), show (pre.length : Int) + 1 = ((pre ++ [x]).length : Int) by simp]
    have := ih (pre ++ [x]) k (stepP a x) (by simp [h]) (by omega)
    unfold stepP at this
    rw [this]
    simp [prodP, stepP]
theorem jx_l0 (l : List Int) (hl : l.length ≤ 1048576) : ∀ (suf pre : List Int) (k : Nat), l = pre ++ suf → suf.length + 1 ≤ k → ∃ r, slices_IndexFunc_int16_int16_48_at_37.l0 k l (l.length : Int) (pre.length : Int) = some r ∧ decide (r ≥ 0) = !okJ suf := by
  intro suf
  induction suf with
  | nil =>
    intro pre k h hk
    obtain ⟨k, rfl⟩ := fuel (show 1 ≤ k by omega)
    simp only [List.append_nil] at h
    refine ⟨-1, ?_, rfl⟩
    simp only [slices_IndexFunc_int16_int16_48_at_37.l0]; rw [h, if_neg (by omega)]
  | cons x suf ih =>
    intro pre k h hk
    simp only [List.length_cons] at hk
    obtain ⟨k, rfl⟩ := fuel (show 1 ≤ k by omega)
    have hn : l.length = pre.length + (suf.length + 1) := by rw [h]; simp
    have e : rd l (pre.length : Int) = x := by rw [h]; exact rd_pre pre x suf
    obtain ⟨r, hr, hr2⟩ := ih (pre ++ [x]) k (by simp [h]) (by omega)
    simp only [slices_IndexFunc_int16_int16_48_at_37.l0, impl_ValidPuzzle_1_37.f]
    rw [if_pos (by omega), if_pos (by omega), if_pos (by omega), e, wi (i := (pre.length : Int)) (by omega) (by omega), show (pre.length : Int) + 1 = ((pre ++ [x]).length : Int) by simp]
    by_cases h1 : x < 1
    · refine ⟨(pre.length : Int), ?_, ?_⟩
      · rw [if_pos h1]; simp
      · simp [okJ, show ¬ 1 ≤ x by omega]
    · by_cases h2 : x > 60
      · refine ⟨(pre.length : Int), ?_, ?_⟩
        · rw [if_neg h1]; simp [h2]
        · simp [okJ, show ¬ x ≤ 60 by omega]
      · refine ⟨r, ?_, ?_⟩
        · rw [if_neg h1]; simp only [Option.bind_some]; rw [if_neg (by simpa using h2)]; exact hr
        · rw [hr2]; simp [okJ, show 1 ≤ x by omega, show x ≤ 60 by omega]

theorem step_pos {a x B : Int} (h0 : 1 ≤ a) (h1 : a ≤ B) (hx : 1 ≤ x ∧ x ≤ 60) (hB : B * 61 ≤ 1000000000000) : stepP a x = a * (x + 1) ∧ 1 ≤ a * (x + 1) ∧ a * (x + 1) ≤ B * 61 := by
  have e1 : wrap64 x = x := by unfold wrap64; omega
  have e2 : wrap64 (x + 1) = x + 1 := by unfold wrap64; omega
  have p1 : 1 * 1 ≤ a * (x + 1) := Int.mul_le_mul h0 (by omega) (by omega) (by omega)
  have p2 : a * (x + 1) ≤ B * 61 := Int.mul_le_mul h1 (by omega) (by omega) (by omega)
  refine ⟨?_, by omega, p2⟩
  unfold stepP
  rw [e1, e2]
  generalize a * (x + 1) = y at p1 p2
  unfold wrap64; omega
theorem prod_pos (l : List Int) (hl : l.length ≤ 4) (h : okJ l = true) : 1 ≤ prodP 1 l := by
  have hb : ∀ x ∈ l, 1 ≤ x ∧ x ≤ 60 := fun x hx => by simpa using List.all_eq_true.1 h x hx
  have s := @step_pos
  match l, hl, hb with
  | [], _, _ => simp [prodP]
  | [a], _, hb =>
    obtain ⟨e1, p1, q1⟩ := s (a := 1) (B := 1) (by omega) (by omega) (hb a (by simp)) (by omega)
    simp only [prodP, List.foldl_cons, List.foldl_nil, e1]; exact p1
  | [a, b], _, hb =>
    obtain ⟨e1, p1, q1⟩ := s (a := 1) (B := 1) (by omega) (by omega) (hb a (by simp)) (by omega)
    obtain ⟨e2, p2, q2⟩ := s (B := 61) p1 (by omega) (hb b (by simp)) (by omega)
    simp only [prodP, List.foldl_cons, List.foldl_nil, e1, e2]; exact p2
  | [a, b, c], _, hb =>
    obtain ⟨e1, p1, q1⟩ := s (a := 1) (B := 1) (by omega) (by omega) (hb a (by simp)) (by omega)
    obtain ⟨e2, p2, q2⟩ := s (B := 61) p1 (by omega) (hb b (by simp)) (by omega)
    obtain ⟨e3, p3, q3⟩ := s (B := 3721) p2 (by omega) (hb c (by simp)) (by omega)
    simp only [prodP, List.foldl_cons, List.foldl_nil, e1, e2, e3]; exact p3
  | [a, b, c, d], _, hb =>
    obtain ⟨e1, p1, q1⟩ := s (a := 1) (B := 1) (by omega) (by omega) (hb a (by simp)) (by omega)
    obtain ⟨e2, p2, q2⟩ := s (B := 61) p1 (by omega) (hb b (by simp)) (by omega)
    obtain ⟨e3, p3, q3⟩ := s (B := 3721) p2 (by omega) (hb c (by simp)) (by omega)
    obtain ⟨e4, p4, q4⟩ := s (B := 226981) p3 (by omega) (hb d (by simp)) (by omega)
    simp only [prodP, List.foldl_cons, List.foldl_nil, e1, e2, e3, e4]; exact p4
  | _ :: _ :: _ :: _ :: _ :: _, hl, _ => simp at hl

theorem both (c : Prop) [Decidable c] {α : Type} (x y : α) : ∃ r, (if c then some x else some y) = some r ∧ (if c then some x else some y) = some r := ⟨if c then x else y, by split <;> rfl, by split <;> rfl⟩
theorem water_same (l : List Int) (hl : l.length ≤ 1048576) (a b c d p q s t : Int) (z : Bool) : ∀ (n k : Nat) (i : Int), 0 ≤ i → 4 - i ≤ n → n < k →
    ∃ r, spec_l02Water.l0 k l i a b c d = some r ∧ impl_Puzzle_holds.l0 k i a b c d l p q s t z = some r := by
  intro n
  induction n with
  | zero =>
    intro k i h0 h1 h2
    obtain ⟨k, rfl⟩ := fuel (show 1 ≤ k by omega)
    refine ⟨true, ?_, ?_⟩
    · simp only [spec_l02Water.l0]; rw [if_neg (by omega)]
    · simp only [impl_Puzzle_holds.l0]; rw [if_neg (by omega)]
  | succ n ih =>
    intro k i h0 h1 h2
    obtain ⟨k, rfl⟩ := fuel (show 1 ≤ k by omega)
    simp only [spec_l02Water.l0, impl_Puzzle_holds.l0]
    by_cases h : i < 4
    · obtain ⟨r, hs, hi⟩ := ih k (i + 1) (by omega) (by omega) (by omega)
      rw [if_pos h, if_pos h, if_pos h0, wi h0 (by omega), hs, hi]
      generalize rd [a, b, c, d] i = x
      by_cases hl : i < (l.length : Int)
      · rw [if_pos hl, if_pos hl, if_pos h0]
        by_cases e1 : x < 0
        · rw [if_pos e1]; exact ⟨_, rfl, rfl⟩
        · rw [if_neg e1]; exact both _ _ _
      · rw [if_neg hl, if_neg hl, if_pos h0]
        by_cases e1 : x < 0
        · rw [if_pos e1]; exact ⟨_, rfl, rfl⟩
        · rw [if_neg e1]; exact both _ _ _
    · rw [if_neg h, if_neg h]; exact ⟨_, rfl, rfl⟩
theorem water_val {k : Nat} (h : 5 ≤ k) (l : List Int) (hl : l.length ≤ 1048576) (a b c d p q s t : Int) (z : Bool) : ∃ r, spec_l02Water.f k l a b c d = some r ∧ impl_Puzzle_holds.f k l p q s t z a b c d = some r :=
  water_same l hl a b c d p q s t z 4 k 0 (by omega) (by omega) (by omega)
theorem states_val {k : Nat} (l : List Int) (hl : l.length ≤ 1048576) (h : l.length + 5 ≤ k) : spec_l02States.f k l = some (if 1 ≤ (l.length : Int) ∧ (l.length : Int) ≤ 4 then (if okJ l = true then (if prodP 1 l > 5000 then 0 else prodP 1 l) else 0) else 0) := by
  unfold spec_l02States.f
  rw [in_val]
  simp only [Option.bind_some]
  by_cases hc : 1 ≤ (l.length : Int) ∧ (l.length : Int) ≤ 4
  · have := states_l0 l hl l [] k 1 rfl (by omega)
    rw [show (([] : List Int).length : Int) = 0 from rfl] at this
    rw [if_pos (by simpa using hc), if_pos hc, this]
  · rw [if_neg (by simpa using hc), if_neg hc]
theorem statesi_val {k : Nat} (l : List Int) (hl : l.length ≤ 1048576) (h : l.length + 5 ≤ k) (a b c d : Int) (z : Bool) : impl_Puzzle_states.f k l a b c d z = some (prodP 1 l) :=
  statesi_l0 l hl l [] k 1 rfl (by omega)

theorem valid_val {k : Nat} (l : List Int) (a b c d : Int) (z : Bool) (hl : l.length ≤ 1048576) (h : l.length + 6 ≤ k) :
    ∃ r, spec_l02Ok.f k l a b c d z = some r ∧ impl_ValidPuzzle.f k l a b c d z = some r ∧ (r = true → ((1 ≤ (l.length : Int) ∧ (l.length : Int) ≤ 4) ∧ okJ l = true ∧ 1 ≤ prodP 1 l ∧ prodP 1 l ≤ 5000 ∧ spec_l02States.f k l = some (prodP 1 l) ∧ impl_Puzzle_states.f k l a b c d z = some (prodP 1 l))) := by
  obtain ⟨r, hs, hi⟩ := water_val (k := k) (by omega) l hl a b c d a b c d z
  have hst := states_val (k := k) l hl (by omega)
  have hsi := statesi_val (k := k) l hl (by omega) a b c d z
  have hw : slices_ContainsFunc_int16_int16_36_at_37.f k l = some (!okJ l) := by
    obtain ⟨x, hx, hx2⟩ := jx_l0 l hl l [] k rfl (by omega)
    rw [show (([] : List Int).length : Int) = 0 from rfl] at hx
    unfold slices_ContainsFunc_int16_int16_36_at_37.f slices_IndexFunc_int16_int16_48_at_37.f
    rw [hx]
    simp only [Option.bind_some, hx2]
  by_cases hc : 1 ≤ (l.length : Int) ∧ (l.length : Int) ≤ 4
  · rw [if_pos hc] at hst
    cases hj : okJ l
    · rw [hj, if_neg (by simp)] at hst
      refine ⟨false, ?_, ?_, by simp⟩
      · unfold spec_l02Ok.f; rw [hst]; rfl
      · unfold impl_ValidPuzzle.f impl_size_int16.f
        simp only [Option.bind_some]
        rw [within_val, hw, hj]
        simp [hc]
    · have hp := prod_pos l (by omega) hj
      rw [hj, if_pos rfl] at hst
      by_cases h5 : prodP 1 l > 5000
      · rw [if_pos h5] at hst
        refine ⟨false, ?_, ?_, by simp⟩
        · unfold spec_l02Ok.f; rw [hst]; rfl
        · unfold impl_ValidPuzzle.f impl_size_int16.f
          simp only [Option.bind_some]
          rw [within_val, hw, hj, hsi]
          simp only [Option.bind_some]
          rw [if_neg (show ¬ (prodP 1 l ≤ 5000) by omega)]
          simp [hc]
      · rw [if_neg h5] at hst
        refine ⟨r, ?_, ?_, fun _ => ⟨hc, rfl, hp, by omega, hst, hsi⟩⟩
        · unfold spec_l02Ok.f; rw [hst]
          simp only [Option.bind_some]
          rw [if_pos (show prodP 1 l > 0 by omega), hs]
          rfl
        · unfold impl_ValidPuzzle.f impl_size_int16.f
          simp only [Option.bind_some]
          rw [within_val, hw, hj, hsi, hi]
          simp only [Option.bind_some]
          rw [if_pos (show prodP 1 l ≤ 5000 by omega)]
          simp [hc]
  · rw [if_neg hc] at hst
    refine ⟨false, ?_, ?_, by simp⟩
    · unfold spec_l02Ok.f; rw [hst]; rfl
    · unfold impl_ValidPuzzle.f impl_size_int16.f
      simp only [Option.bind_some]
      rw [within_val]
      simp [hc]

end Go.Proofs.YtodmfjophjhbeaaDoor.Pure
