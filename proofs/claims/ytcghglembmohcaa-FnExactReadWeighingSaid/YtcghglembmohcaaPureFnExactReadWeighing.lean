/- The program's ReadWeighing returns what the reference's returns. Conditions: none. -/
-- IMPORTS
import Derived.Test.YtcghglembmohcaaMx1
import Derived.Test.YtcghglembmohcaaMx2
import Derived.Test.YtcghglembmohcaaMx3
import Derived.Test.YtcghglembmohcaaMx4
import Derived.Test.YtcghglembmohcaaHRead
import Derived.Test.YtcghglembmohcaaBx2
import Derived.Test.YtcghglembmohcaaBx3
import Derived.Test.YtcghglembmohcaaBx5
import Derived.Test.YtcghglembmohcaaBx6
import Derived.Test.YtcghglembmohcaaBx7
namespace Go.Proofs.Ytcghglembmohcaa.Pure
open Go.RowKit Go.Proofs.Ytcghglembmohcaa.M Go.Proofs.YtcghglembmohcaaW.PrintWords Go.Proofs.YtcghglembmohcaaW.PrintLast Go.Proofs.YtcghglembmohcaaW.PrintMore
set_option linter.unusedVariables false
set_option linter.unusedSimpArgs false

theorem wi {i : Int} (h0 : 0 ≤ i) (h1 : i ≤ 2000000000) : wrap64 (i + 1) = i + 1 := by unfold wrap64; omega
theorem fuel {k n : Nat} (h : n ≤ k) : ∃ m, k = m + n := ⟨k - n, by omega⟩
theorem wf8 {a : Int} (h : (Lit.int .i8 a).wf = true) : -128 ≤ a ∧ a ≤ 127 := by
  have h' : IntKind.i8.min ≤ a ∧ a ≤ IntKind.i8.max := by simpa [Lit.wf] using h
  exact h'
theorem wn8 {a : Int} (h : (Lit.int .i8 a).wf = true) : wrap64 a = a := by
  have := wf8 h
  unfold wrap64; omega
theorem within_val (a b c : Int) : B.impl_within.f a b c = some (decide (b ≤ a ∧ a ≤ c)) := by
  unfold B.impl_within.f
  by_cases h : b ≤ a
  · rw [if_pos h]; simp [h]
  · rw [if_neg h]; simp [h]
theorem in_val (a b c : Int) : spec_l00In.f a b c = some (decide (b ≤ a ∧ a ≤ c)) := by
  unfold spec_l00In.f
  by_cases h : a ≥ b
  · rw [if_pos h]; simp [show b ≤ a from h]
  · rw [if_neg h]; simp [show ¬ b ≤ a from h]
theorem task_spec (a b : Int) (c d : Bool) (ha : wrap64 a = a) (hb : wrap64 b = b) : spec_l03Ok.f a b c d = some (decide ((1 ≤ a ∧ a ≤ 13) ∧ (0 ≤ b ∧ b ≤ 2))) := by
  unfold spec_l03Ok.f
  simp only [in_val, ha, hb, Option.bind_some]
  by_cases h : 1 ≤ a ∧ a ≤ 13 <;> simp [h]
theorem task_impl (a b : Int) (c d : Bool) (ha : wrap64 a = a) (hb : wrap64 b = b) : B.impl_ValidTask.f a b c d = some (decide ((1 ≤ a ∧ a ≤ 13) ∧ (0 ≤ b ∧ b ≤ 2))) := by
  unfold B.impl_ValidTask.f B.impl_isKind.f
  simp only [within_val, ha, hb, Option.bind_some]
  by_cases h : 1 ≤ a ∧ a ≤ 13 <;> simp [h]

theorem there_val (a b i : Int) (c d : Bool) (ha : wrap64 a = a) : spec_l03There.f a b c d i = some (decide (i < a ∨ (i = a ∧ d = true))) := by
  unfold spec_l03There.f
  rw [ha]
  by_cases h : i < a
  · rw [if_pos h]; simp [h]
  · rw [if_neg h]
    by_cases h2 : i = a
    · rw [if_pos h2]; simp [h2]
    · rw [if_neg h2]; simp [h, h2]
theorem places_val (a b : Int) (c d : Bool) (ha : wrap64 a = a) (h1 : 0 ≤ a) (h2 : a ≤ 1000) : B.impl_Task_places.f a b c d = some (if d = true then a + 1 else a) := by
  unfold B.impl_Task_places.f
  rw [ha, wi h1 (by omega)]
  cases d <;> simp

theorem weigh_same (a b : Int) (c d : Bool) (ha : wrap64 a = a) (h1 : 0 ≤ a) (h2 : a ≤ 1000) (w0 w1 w2 w3 w4 w5 w6 w7 w8 w9 w10 w11 w12 w13 : Int) : ∀ (n k : Nat) (s i : Int), 0 ≤ i → 14 - i ≤ n → n < k →
    ∃ r, spec_l03Weighing.l0 k s i a b c d w0 w1 w2 w3 w4 w5 w6 w7 w8 w9 w10 w11 w12 w13 = some r ∧ B.impl_ValidWeighing.l0 k s i w0 w1 w2 w3 w4 w5 w6 w7 w8 w9 w10 w11 w12 w13 a b c d = some r := by
  intro n
  induction n with
  | zero =>
    intro k s i h0 hn hk
    obtain ⟨k, rfl⟩ : ∃ m, k = m + 1 := ⟨k - 1, by omega⟩
    refine ⟨(s == 0), ?_, ?_⟩
    · simp only [spec_l03Weighing.l0]; rw [if_neg (by omega)]
    · simp only [B.impl_ValidWeighing.l0]; rw [if_neg (by omega)]
  | succ n ih =>
    intro k s i h0 hn hk
    obtain ⟨k, rfl⟩ : ∃ m, k = m + 1 := ⟨k - 1, by omega⟩
    by_cases hi : i < 14
    · simp only [spec_l03Weighing.l0, B.impl_ValidWeighing.l0]
      generalize rd [w0, w1, w2, w3, w4, w5, w6, w7, w8, w9, w10, w11, w12, w13] i = x
      rw [if_pos hi, if_pos h0, if_pos hi, if_pos h0, wi h0 (by omega), there_val a b i c d ha, places_val a b c d ha h1 h2]
      simp only [Option.bind_some]
      obtain ⟨r, hs, hm⟩ := ih k (wrap64 (s + wrap64 x)) (i + 1) (by omega) (by omega) (by omega)
      rw [hs, hm]
      by_cases e1 : x < -1
      · rw [if_pos e1, if_pos e1]; exact ⟨_, rfl, rfl⟩
      · rw [if_neg e1, if_neg e1]
        by_cases e2 : x > 1
        · rw [if_pos e2, if_pos e2]; exact ⟨_, rfl, rfl⟩
        · rw [if_neg e2, if_neg e2]
          by_cases e3 : x = 0
          · rw [if_pos e3, if_pos e3]; exact ⟨_, rfl, rfl⟩
          · rw [if_neg e3, if_neg e3]
            cases d with
            | true =>
              by_cases e4 : i ≥ a + 1
              · rw [if_neg (by simp; omega), if_pos (by simpa using e4)]; exact ⟨_, rfl, rfl⟩
              · rw [if_pos (by simp; omega), if_neg (by simpa using e4)]; exact ⟨_, rfl, rfl⟩
            | false =>
              by_cases e4 : i ≥ a
              · rw [if_neg (by simp; omega), if_pos (by simpa using e4)]; exact ⟨_, rfl, rfl⟩
              · rw [if_pos (by simp; omega), if_neg (by simpa using e4)]; exact ⟨_, rfl, rfl⟩
    · refine ⟨(s == 0), ?_, ?_⟩
      · simp only [spec_l03Weighing.l0]; rw [if_neg hi]
      · simp only [B.impl_ValidWeighing.l0]; rw [if_neg hi]

theorem bt_lt (s : ByteArray) (i : Int) : ∃ n : Nat, n < 256 ∧ bt s i = (n : Int) := by
  unfold bt
  split
  · exact ⟨_, UInt8.toNat_lt _, rfl⟩
  · exact ⟨0, by omega, rfl⟩
/-- The number of a sign; -2: none. -/
def sgn (v : Int) : Int := if v = 45 then -1 else if v = 48 then 0 else if v = 43 then 1 else -2
theorem index_all : ∀ n : Nat, n < 256 → Lib.indexByte [45, 48, 43] ((n : Int)).toNat.toUInt8 = sgn (n : Int) + 1 := by decide +kernel
theorem index_val (s : ByteArray) (i : Int) : B.strings_IndexByte.f (⟨#[45, 48, 43]⟩ : ByteArray) (bt s i) = some (sgn (bt s i) + 1) := by
  obtain ⟨n, hn, e⟩ := bt_lt s i
  rw [e]
  unfold B.strings_IndexByte.f
  exact congrArg some (index_all n hn)
theorem sgn_in (v : Int) : -2 ≤ sgn v ∧ sgn v ≤ 1 := by unfold sgn; split <;> (try split) <;> (try split) <;> omega
theorem wrap8_in {x : Int} (h0 : -128 ≤ x) (h1 : x ≤ 127) : IntKind.i8.wrap x = x := by
  simp only [IntKind.wrap, IntKind.bits, IntKind.signed]; simp; split <;> omega
/-- The numbers of the signs from i on; none if one is no sign. -/
def rest (x : ByteArray) : Nat → Int → Option (List Int)
  | 0, _ => some []
  | d + 1, i => if sgn (bt x i) = -2 then none else (rest x d (i + 1)).map (sgn (bt x i) :: ·)
theorem impl_l0 (x : ByteArray) (hx : x.size ≤ 1048576) : ∀ (d k : Nat) (i : Int) (acc : List Int), 0 ≤ i → (x.size : Int) - i = d → d + 1 ≤ k → (acc.length : Int) ≤ i →
    B.impl_fromSigns.l0 k x acc (x.size : Int) i = some (match rest x d i with | none => (([] : List Int), false) | some l => (acc ++ l, true)) := by
  intro d
  induction d with
  | zero =>
    intro k i acc h0 h1 hk ha
    obtain ⟨k, rfl⟩ := fuel (show 1 ≤ k by omega)
    simp only [B.impl_fromSigns.l0]
    rw [if_neg (by omega)]
    simp [rest]
  | succ d ih =>
    intro k i acc h0 h1 hk ha
    obtain ⟨k, rfl⟩ := fuel (show 1 ≤ k by omega)
    have h2 : i < (x.size : Int) := by omega
    simp only [B.impl_fromSigns.l0, index_val]
    simp only [Option.bind_some]
    rw [if_pos h2, if_pos h0, if_pos h2]
    unfold rest
    have hs := sgn_in (bt x i)
    by_cases c : sgn (bt x i) = -2
    · rw [if_pos (by omega), if_pos c]
    · rw [if_neg (by omega), if_neg c, if_pos (by omega), show wrap64 (sgn (bt x i) + 1 - 1) = sgn (bt x i) by unfold wrap64; omega, wrap8_in (by omega) (by omega), wi h0 (by omega), ih k (i + 1) _ (by omega) (by omega) (by omega) (by simp; omega)]
      cases rest x d (i + 1) <;> simp
theorem rest_len (x : ByteArray) : ∀ (d : Nat) (i : Int) (l : List Int), rest x d i = some l → l.length = d ∧ ∀ y ∈ l, -1 ≤ y ∧ y ≤ 1 := by
  intro d
  induction d with
  | zero => intro i l h; simp [rest] at h; subst h; simp
  | succ d ih =>
    intro i l h
    unfold rest at h
    by_cases c : sgn (bt x i) = -2
    · rw [if_pos c] at h; cases h
    · rw [if_neg c] at h
      cases hr : rest x d (i + 1) with
      | none => rw [hr] at h; simp at h
      | some l' =>
        rw [hr] at h
        simp at h
        subst h
        obtain ⟨e1, e2⟩ := ih (i + 1) l' hr
        have hs := sgn_in (bt x i)
        refine ⟨by simp [e1], fun y hy => ?_⟩
        rcases List.mem_cons.1 hy with rfl | hy
        · omega
        · exact e2 y hy

/-- Place j when i signs are read. -/
def gv (x : ByteArray) (i j : Int) : Int := if j < i then sgn (bt x j) else 0
theorem gv_put (x : ByteArray) (i j v : Int) (hv : sgn (bt x i) = v) : aup i j v (gv x i j) = gv x (i + 1) j := by
  unfold aup gv
  by_cases e : i = j
  · subst e; rw [if_pos rfl, if_pos (by omega), hv]
  · rw [if_neg e]
    by_cases h : j < i
    · rw [if_pos h, if_pos (by omega)]
    · rw [if_neg h, if_neg (by omega)]
theorem gv_same (x : ByteArray) (i j : Int) (hv : sgn (bt x i) = 0) : gv x i j = gv x (i + 1) j := by
  unfold gv
  by_cases h : j < i
  · rw [if_pos h, if_pos (by omega)]
  · rw [if_neg h]
    by_cases e : j < i + 1
    · rw [if_pos e, show j = i by omega, hv]
    · rw [if_neg e]
theorem bad_l0 (x : ByteArray) (n i a b : Int) (c d : Bool) (v0 v1 v2 v3 v4 v5 v6 v7 v8 v9 v10 v11 v12 v13 : Int) (k : Nat) : spec_ReadWeighing.l0 (k + 2) x n false i a b c d v0 v1 v2 v3 v4 v5 v6 v7 v8 v9 v10 v11 v12 v13 = some ((0 : Int), (0 : Int), (0 : Int), (0 : Int), (0 : Int), (0 : Int), (0 : Int), (0 : Int), (0 : Int), (0 : Int), (0 : Int), (0 : Int), (0 : Int), (0 : Int), 5) := by
  rw [show k + 2 = (k + 1) + 1 from rfl]
  generalize hq : k + 1 = q
  simp only [spec_ReadWeighing.l0]
  subst hq
  simp only [spec_ReadWeighing.j2]
  simp
/-- What is read is a weighing, whatever the fuel. -/
theorem weigh_fix (a b : Int) (c d : Bool) (ha : wrap64 a = a) (h1 : 0 ≤ a) (h2 : a ≤ 1000) (w0 w1 w2 w3 w4 w5 w6 w7 w8 w9 w10 w11 w12 w13 : Int) : ∃ r, ∀ k, 15 ≤ k → spec_l03Weighing.f k a b c d w0 w1 w2 w3 w4 w5 w6 w7 w8 w9 w10 w11 w12 w13 = some r ∧ B.impl_ValidWeighing.l0 k 0 0 w0 w1 w2 w3 w4 w5 w6 w7 w8 w9 w10 w11 w12 w13 a b c d = some r := by
  obtain ⟨r, hs, hi⟩ := weigh_same a b c d ha h1 h2 w0 w1 w2 w3 w4 w5 w6 w7 w8 w9 w10 w11 w12 w13 14 15 0 0 (by omega) (by omega) (by omega)
  refine ⟨r, fun k hk => ?_⟩
  obtain ⟨r', hs', hi'⟩ := weigh_same a b c d ha h1 h2 w0 w1 w2 w3 w4 w5 w6 w7 w8 w9 w10 w11 w12 w13 14 k 0 0 (by omega) (by omega) (by omega)
  have up : ∀ m, spec_l03Weighing.f (15 + m) a b c d w0 w1 w2 w3 w4 w5 w6 w7 w8 w9 w10 w11 w12 w13 = some r := by
    intro m
    induction m with
    | zero => exact hs
    | succ m ih => exact spec_l03Weighing.mono a b c d w0 w1 w2 w3 w4 w5 w6 w7 w8 w9 w10 w11 w12 w13 (15 + m) r ih
  have h15 := up (k - 15)
  rw [show 15 + (k - 15) = k by omega] at h15
  have : some r' = some r := hs'.symm.trans h15
  obtain rfl := Option.some.inj this
  exact ⟨hs', hi'⟩
theorem read_l0 (x : ByteArray) (n a b : Int) (c d : Bool) (hn : n = (x.size : Int)) (h14 : n ≤ 14) (r : Bool) (hr : ∀ k, 15 ≤ k → spec_l03Weighing.f k a b c d (gv x n 0) (gv x n 1) (gv x n 2) (gv x n 3) (gv x n 4) (gv x n 5) (gv x n 6) (gv x n 7) (gv x n 8) (gv x n 9) (gv x n 10) (gv x n 11) (gv x n 12) (gv x n 13) = some r) : ∀ (q k : Nat) (i : Int), 0 ≤ i → n - i = q → 2 * q + 20 ≤ k →
    spec_ReadWeighing.l0 k x n true i a b c d (gv x i 0) (gv x i 1) (gv x i 2) (gv x i 3) (gv x i 4) (gv x i 5) (gv x i 6) (gv x i 7) (gv x i 8) (gv x i 9) (gv x i 10) (gv x i 11) (gv x i 12) (gv x i 13) = some (match rest x q i with | none => ((0 : Int), (0 : Int), (0 : Int), (0 : Int), (0 : Int), (0 : Int), (0 : Int), (0 : Int), (0 : Int), (0 : Int), (0 : Int), (0 : Int), (0 : Int), (0 : Int), 5) | some _ => if r = true then (gv x n 0, gv x n 1, gv x n 2, gv x n 3, gv x n 4, gv x n 5, gv x n 6, gv x n 7, gv x n 8, gv x n 9, gv x n 10, gv x n 11, gv x n 12, gv x n 13, 0) else ((0 : Int), (0 : Int), (0 : Int), (0 : Int), (0 : Int), (0 : Int), (0 : Int), (0 : Int), (0 : Int), (0 : Int), (0 : Int), (0 : Int), (0 : Int), (0 : Int), 5)) := by
  intro q
  induction q with
  | zero =>
    intro k i h0 hq hk
    obtain rfl : i = n := by omega
    obtain ⟨k, rfl⟩ := fuel (show 20 ≤ k by omega)
    rw [show k + 20 = (k + 19) + 1 from rfl]
    generalize hm : k + 19 = m
    simp only [spec_ReadWeighing.l0]
    rw [if_neg (by omega)]
    subst hm
    rw [show k + 19 = (k + 18) + 1 from rfl]
    generalize hm : k + 18 = m
    simp only [spec_ReadWeighing.j2]
    rw [if_neg (by simp), if_pos trivial, hr m (by omega)]
    simp only [Option.bind_some, rest]
    cases r <;> simp
  | succ q ih =>
    intro k i h0 hq hk
    obtain ⟨k, rfl⟩ := fuel (show 22 ≤ k by omega)
    have hlt : i < (x.size : Int) := by omega
    rw [show k + 22 = (k + 21) + 1 from rfl]
    generalize hm : k + 21 = m
    simp only [spec_ReadWeighing.l0]
    rw [if_pos (by omega)]
    subst hm
    rw [show k + 21 = (k + 20) + 1 from rfl]
    have hnx := ih (k + 20) (i + 1) (by omega) (by omega) (by omega)
    have hbad := fun u0 u1 u2 u3 u4 u5 u6 u7 u8 u9 u10 u11 u12 u13 => bad_l0 x n (i + 1) a b c d u0 u1 u2 u3 u4 u5 u6 u7 u8 u9 u10 u11 u12 u13 (k + 18)
    rw [show k + 18 + 2 = k + 20 by omega] at hbad
    generalize hm : k + 20 = m at hnx hbad ⊢
    simp only [spec_ReadWeighing.j2]
    rw [if_pos trivial, if_pos h0, if_pos hlt, wi h0 (by omega)]
    unfold rest
    by_cases c0 : bt x i = 45
    · have hs : sgn (bt x i) = -1 := by unfold sgn; rw [if_pos c0]
      rw [if_pos c0, if_pos (by omega), if_neg (by omega)]
      simp only [gv_put x i _ (-1) hs]
      rw [hnx]
      cases rest x q (i + 1) <;> simp
    · rw [if_neg c0]
      by_cases c1 : bt x i = 43
      · have hs : sgn (bt x i) = 1 := by unfold sgn; rw [if_neg c0, if_neg (by omega), if_pos c1]
        rw [if_pos c1, if_pos (by omega), if_neg (by omega)]
        simp only [gv_put x i _ 1 hs]
        rw [hnx]
        cases rest x q (i + 1) <;> simp
      · rw [if_neg c1]
        by_cases c2 : bt x i = 48
        · have hs : sgn (bt x i) = 0 := by unfold sgn; rw [if_neg c0, if_pos c2]
          rw [if_pos c2, if_neg (by omega)]
          simp only [gv_same x i _ hs]
          rw [hnx]
          cases rest x q (i + 1) <;> simp
        · have hs : sgn (bt x i) = -2 := by unfold sgn; rw [if_neg c0, if_neg c2, if_neg c1]
          rw [if_neg c2, if_pos hs, hbad]
theorem rest_get (x : ByteArray) : ∀ (q : Nat) (i : Int) (l : List Int), 0 ≤ i → rest x q i = some l → ∀ j : Nat, l.getD j 0 = if j < q then sgn (bt x (i + j)) else 0 := by
  intro q
  induction q with
  | zero => intro i l h0 h j; simp [rest] at h; subst h; simp
  | succ q ih =>
    intro i l h0 h j
    unfold rest at h
    by_cases c : sgn (bt x i) = -2
    · rw [if_pos c] at h; cases h
    · rw [if_neg c] at h
      cases hr : rest x q (i + 1) with
      | none => rw [hr] at h; simp at h
      | some l' =>
        rw [hr] at h
        simp only [Option.map_some, Option.some.injEq] at h
        subst h
        cases j with
        | zero => simp
        | succ j =>
          have := ih (i + 1) l' (by omega) hr j
          rw [List.getD_cons_succ, this, show i + 1 + (j : Int) = i + ((j + 1 : Nat) : Int) by omega]
          by_cases e : j < q
          · rw [if_pos e, if_pos (by omega)]
          · rw [if_neg e, if_neg (by omega)]
theorem wl_gv (x : ByteArray) (l : List Int) (h : rest x x.size 0 = some l) (j : Nat) : wl l j = gv x (x.size : Int) (j : Int) := by
  have := rest_get x x.size 0 l (by omega) h j
  unfold wl gv
  rw [this, Int.zero_add]
  by_cases e : j < x.size
  · rw [if_pos e, if_pos (by omega)]
  · rw [if_neg e, if_neg (by omega)]
theorem readW_same {k : Nat} (a b : Int) (c d : Bool) (x : ByteArray) (ha : (Lit.int .i8 a).wf = true) (hb : (Lit.int .i8 b).wf = true) (hx : x.size ≤ 1048576) (hk : x.size + 100 ≤ k) :
    ∃ r, spec_ReadWeighing.f k a b c d x = some r ∧ impl_ReadWeighing.f k a b c d x = some r := by
  have wa := wn8 ha
  have wb := wn8 hb
  unfold spec_ReadWeighing.f impl_ReadWeighing.f
  rw [task_spec a b c d wa wb, task_impl a b c d wa wb]
  simp only [Option.bind_some]
  by_cases ht : (1 ≤ a ∧ a ≤ 13) ∧ (0 ≤ b ∧ b ≤ 2)
  · rw [decide_eq_true ht]
    simp only [if_true]
    rw [wa, wi (by omega) (by omega)]
    obtain ⟨n, hn⟩ : ∃ n, n = if d = true then a + 1 else a := ⟨_, rfl⟩
    have hn14 : n ≤ 14 := by rw [hn]; split <;> omega
    have hj : (if d = true then spec_ReadWeighing.j0 k x (a + 1) a b c d else spec_ReadWeighing.j0 k x a a b c d) = spec_ReadWeighing.j0 k x n a b c d := by
      rw [hn]; split <;> rfl
    rw [hj, places_val a b c d wa (by omega) (by omega), ← hn]
    have hi := impl_l0 x hx x.size k 0 [] (by omega) (by omega) (by omega) (by simp)
    have hi' : B.impl_fromSigns.f k x = some (match rest x x.size 0 with | none => (([] : List Int), false) | some l => ([] ++ l, true)) := hi
    rw [hi']
    simp only [Option.bind_some]
    obtain ⟨k, rfl⟩ := fuel (show 3 ≤ k by omega)
    by_cases hsz : (x.size : Int) = n
    · obtain ⟨r, hr⟩ := weigh_fix a b c d wa (by omega) (by omega) (gv x n 0) (gv x n 1) (gv x n 2) (gv x n 3) (gv x n 4) (gv x n 5) (gv x n 6) (gv x n 7) (gv x n 8) (gv x n 9) (gv x n 10) (gv x n 11) (gv x n 12) (gv x n 13)
      have hL := read_l0 x n a b c d hsz.symm hn14 r (fun k hk => (hr k hk).1) x.size (k + 2) 0 (by omega) (by omega) (by omega)
      have g0 : ∀ j : Nat, gv x 0 (j : Int) = 0 := by intro j; unfold gv; rw [if_neg (by omega)]
      have hz : spec_ReadWeighing.j0 (k + 3) x n a b c d = some (match rest x x.size 0 with | none => ((0 : Int), (0 : Int), (0 : Int), (0 : Int), (0 : Int), (0 : Int), (0 : Int), (0 : Int), (0 : Int), (0 : Int), (0 : Int), (0 : Int), (0 : Int), (0 : Int), 5) | some _ => if r = true then (gv x n 0, gv x n 1, gv x n 2, gv x n 3, gv x n 4, gv x n 5, gv x n 6, gv x n 7, gv x n 8, gv x n 9, gv x n 10, gv x n 11, gv x n 12, gv x n 13, 0) else ((0 : Int), (0 : Int), (0 : Int), (0 : Int), (0 : Int), (0 : Int), (0 : Int), (0 : Int), (0 : Int), (0 : Int), (0 : Int), (0 : Int), (0 : Int), (0 : Int), 5)) := by
        rw [← hL]
        rw [show k + 3 = (k + 2) + 1 from rfl]
        generalize k + 2 = q
        simp only [spec_ReadWeighing.j0]
        rw [show ((x.size : Int) == n) = true by simp [hsz]]
        rw [show gv x 0 0 = 0 from g0 0]; rw [show gv x 0 1 = 0 from g0 1]; rw [show gv x 0 2 = 0 from g0 2]; rw [show gv x 0 3 = 0 from g0 3]; rw [show gv x 0 4 = 0 from g0 4]; rw [show gv x 0 5 = 0 from g0 5]; rw [show gv x 0 6 = 0 from g0 6]; rw [show gv x 0 7 = 0 from g0 7]; rw [show gv x 0 8 = 0 from g0 8]; rw [show gv x 0 9 = 0 from g0 9]; rw [show gv x 0 10 = 0 from g0 10]; rw [show gv x 0 11 = 0 from g0 11]; rw [show gv x 0 12 = 0 from g0 12]; rw [show gv x 0 13 = 0 from g0 13]
      rw [hz]
      cases hrest : rest x x.size 0 with
      | none => exact ⟨_, rfl, by simp⟩
      | some l =>
        have hlen := (rest_len x x.size 0 l hrest).1
        have hw : ∀ j : Nat, wl l j = gv x n (j : Int) := fun j => by rw [← hsz]; exact wl_gv x l hrest j
        simp only [List.nil_append, if_true, Option.bind_some]
        rw [if_pos (show (l.length : Int) = n by omega)]
        rw [show wl l 0 = gv x n 0 from hw 0]; rw [show wl l 1 = gv x n 1 from hw 1]; rw [show wl l 2 = gv x n 2 from hw 2]; rw [show wl l 3 = gv x n 3 from hw 3]; rw [show wl l 4 = gv x n 4 from hw 4]; rw [show wl l 5 = gv x n 5 from hw 5]; rw [show wl l 6 = gv x n 6 from hw 6]; rw [show wl l 7 = gv x n 7 from hw 7]; rw [show wl l 8 = gv x n 8 from hw 8]; rw [show wl l 9 = gv x n 9 from hw 9]; rw [show wl l 10 = gv x n 10 from hw 10]; rw [show wl l 11 = gv x n 11 from hw 11]; rw [show wl l 12 = gv x n 12 from hw 12]; rw [show wl l 13 = gv x n 13 from hw 13]
        have hv : B.impl_ValidWeighing.f (k + 3) a b c d (gv x n 0) (gv x n 1) (gv x n 2) (gv x n 3) (gv x n 4) (gv x n 5) (gv x n 6) (gv x n 7) (gv x n 8) (gv x n 9) (gv x n 10) (gv x n 11) (gv x n 12) (gv x n 13) = some r := by
          unfold B.impl_ValidWeighing.f
          rw [task_impl a b c d wa wb]
          simp only [Option.bind_some]
          rw [if_pos (by simpa using ht)]
          exact (hr (k + 3) (by omega)).2
        rw [hv]
        refine ⟨_, rfl, ?_⟩
        cases r <;> simp
    · have hz : spec_ReadWeighing.j0 (k + 3) x n a b c d = some ((0 : Int), (0 : Int), (0 : Int), (0 : Int), (0 : Int), (0 : Int), (0 : Int), (0 : Int), (0 : Int), (0 : Int), (0 : Int), (0 : Int), (0 : Int), (0 : Int), 5) := by
        have := bad_l0 x n 0 a b c d 0 0 0 0 0 0 0 0 0 0 0 0 0 0 k
        rw [← this, show k + 3 = (k + 2) + 1 from rfl]
        generalize k + 2 = q
        simp only [spec_ReadWeighing.j0]
        rw [show ((x.size : Int) == n) = false by simp [hsz]]
      rw [hz]
      refine ⟨_, rfl, ?_⟩
      cases hrest : rest x x.size 0 with
      | none => simp
      | some l =>
        have hlen := (rest_len x x.size 0 l hrest).1
        simp only [List.nil_append, if_true, Option.bind_some]
        rw [if_neg (show ¬ (l.length : Int) = n by omega)]
        simp
  · rw [decide_eq_false ht]
    exact ⟨_, rfl, rfl⟩
theorem eqW_self (k : Nat) : ∀ (m : Nat) (i : Int) (w0 w1 w2 w3 w4 w5 w6 w7 w8 w9 w10 w11 w12 w13 : Int), 0 ≤ i → 14 - i ≤ m → m < k → laws_eqWeighing.l0 k i w0 w1 w2 w3 w4 w5 w6 w7 w8 w9 w10 w11 w12 w13 w0 w1 w2 w3 w4 w5 w6 w7 w8 w9 w10 w11 w12 w13 = some true := by
  induction k with
  | zero => intro m i w0 w1 w2 w3 w4 w5 w6 w7 w8 w9 w10 w11 w12 w13 h0 h1 h2; omega
  | succ k ih =>
    intro m i w0 w1 w2 w3 w4 w5 w6 w7 w8 w9 w10 w11 w12 w13 h0 h1 h2
    simp only [laws_eqWeighing.l0]
    by_cases h : i < 14
    · rw [if_pos h, if_pos h0, if_pos trivial, wi h0 (by omega)]
      exact ih (m - 1) (i + 1) w0 w1 w2 w3 w4 w5 w6 w7 w8 w9 w10 w11 w12 w13 (by omega) (by omega) (by omega)
    · rw [if_neg h]
theorem FnExactReadWeighing (x0_0 : Int) (x0_1 : Int) (x0_2 : Bool) (x0_3 : Bool) (x1_0 : ByteArray) (w0_0 : (fun x : Int => (Lit.int .i8 x).wf = true) x0_0) (w0_1 : (fun x : Int => (Lit.int .i8 x).wf = true) x0_1) (w1_0 : (fun s : ByteArray => s.size ≤ maxLen) x1_0) : ∃ k, laws_FnExactReadWeighing.f k x0_0 x0_1 x0_2 x0_3 x1_0 = some true := by
  obtain ⟨k, hk⟩ : ∃ k, k = x1_0.size + 200 := ⟨_, rfl⟩
  refine ⟨k, ?_⟩
  unfold laws_FnExactReadWeighing.f laws_toTask.f
  by_cases e0 : (x1_0.size : Int) > 1048576
  · rw [if_pos e0]
  · rw [if_neg e0]
    simp only [Option.bind_some]
    obtain ⟨⟨r0, r1, r2, r3, r4, r5, r6, r7, r8, r9, r10, r11, r12, r13, r14⟩, h1, h2⟩ := readW_same (k := k) x0_0 x0_1 x0_2 x0_3 x1_0 w0_0 w0_1 (by omega) (by omega)
    rw [h1, h2]
    simp only [Option.bind_some]
    unfold laws_eqWeighing.f
    rw [eqW_self k 14 0 _ _ _ _ _ _ _ _ _ _ _ _ _ _ (by omega) (by omega) (by omega)]
    simp

end Go.Proofs.Ytcghglembmohcaa.Pure
