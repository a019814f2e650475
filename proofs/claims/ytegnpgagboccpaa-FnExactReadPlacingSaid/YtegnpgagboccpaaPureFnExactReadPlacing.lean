/- The program's ReadPlacing returns what the reference's returns, in memory of its own. Conditions: none. -/
-- IMPORTS
import Derived.Test.YtegnpgagboccpaaMx1
import Derived.Test.YtegnpgagboccpaaMx8
import Derived.Test.YtegnpgagboccpaaMx9
import Derived.Test.YtegnpgagboccpaaMx10
import Derived.Test.YtegnpgagboccpaaMx11
import Derived.Test.YtegnpgagboccpaaHIndexByte
namespace Go.Proofs.Ytegnpgagboccpaa.Pure
open Go.RowKit Go.Proofs.Ytegnpgagboccpaa.M Go.Proofs.YtegnpgagboccpaaW.PrintWords Go.Proofs.YtegnpgagboccpaaW.PrintLast Go.Proofs.YtegnpgagboccpaaW.PrintMore
set_option linter.unusedVariables false
set_option linter.unusedSimpArgs false

theorem wi {i : Int} (h0 : 0 ≤ i) (h1 : i ≤ 2000000000) : wrap64 (i + 1) = i + 1 := by unfold wrap64; omega
theorem fuel {k n : Nat} (h : n ≤ k) : ∃ m, k = m + n := ⟨k - n, by omega⟩
theorem bt_lt (s : ByteArray) (i : Int) : ∃ n : Nat, n < 256 ∧ bt s i = (n : Int) := by
  unfold bt
  split
  · exact ⟨_, UInt8.toNat_lt _, rfl⟩
  · exact ⟨0, by omega, rfl⟩
/-- The number of a sign; -2: none. -/
def sgn (v : Int) : Int := if v = 45 then -1 else if v = 48 then 0 else if v = 43 then 1 else -2
theorem index_all : ∀ n : Nat, n < 256 → Lib.indexByte [45, 48, 43] ((n : Int)).toNat.toUInt8 = sgn (n : Int) + 1 := by decide +kernel
theorem index_val (s : ByteArray) (i : Int) : strings_IndexByte.f (⟨#[45, 48, 43]⟩ : ByteArray) (bt s i) = some (sgn (bt s i) + 1) := by
  obtain ⟨n, hn, e⟩ := bt_lt s i
  rw [e]
  unfold strings_IndexByte.f
  exact congrArg some (index_all n hn)
theorem sgn_in (v : Int) : -2 ≤ sgn v ∧ sgn v ≤ 1 := by unfold sgn; split <;> (try split) <;> (try split) <;> omega
theorem wrap8_in {x : Int} (h0 : -128 ≤ x) (h1 : x ≤ 127) : IntKind.i8.wrap x = x := by
  simp only [IntKind.wrap, IntKind.bits, IntKind.signed]; simp; split <;> omega
/-- The numbers of the signs from i on; none if one is no sign. -/
def rest (x : ByteArray) : Nat → Int → Option (List Int)
  | 0, _ => some []
  | d + 1, i => if sgn (bt x i) = -2 then none else (rest x d (i + 1)).map (sgn (bt x i) :: ·)
theorem spec_l1 (x : ByteArray) (acc : List Int) (i : Int) (h0 : 0 ≤ i) (h1 : i < (x.size : Int)) (hx : x.size ≤ 1048576) (ha : (acc.length : Int) ≤ i) (k : Nat) :
    spec_ReadPlacing.l1 (k + 4) x acc i (-2) 0 = if sgn (bt x i) = -2 then some (([] : List Int), 5) else spec_ReadPlacing.l0 k x (acc ++ [sgn (bt x i)]) (i + 1) := by
  have b0 : bt (⟨#[45, 48, 43]⟩ : ByteArray) 0 = 45 := by decide
  have b1 : bt (⟨#[45, 48, 43]⟩ : ByteArray) 1 = 48 := by decide
  have b2 : bt (⟨#[45, 48, 43]⟩ : ByteArray) 2 = 43 := by decide
  have e0 : IntKind.i8.wrap (wrap64 (0 - 1)) = -1 := by decide +kernel
  have e1 : IntKind.i8.wrap (wrap64 (1 - 1)) = 0 := by decide +kernel
  have e2 : IntKind.i8.wrap (wrap64 (2 - 1)) = 1 := by decide +kernel
  have f0 : wrap64 (0 + 1) = 1 := by decide +kernel
  have f1 : wrap64 (1 + 1) = 2 := by decide +kernel
  have f2 : wrap64 (2 + 1) = 3 := by decide +kernel
  have hl : acc.length < 140737488355328 := by omega
  have ew := wi h0 (show i ≤ 2000000000 by omega)
  generalize hv : bt x i = v
  have step : ∀ (y : Int), spec_ReadPlacing.l1 (k + 1) x acc i y 3 = if y = -2 then some (([] : List Int), 5) else spec_ReadPlacing.l0 k x (acc ++ [y]) (i + 1) := by
    intro y
    simp only [spec_ReadPlacing.l1]
    rw [if_neg (by omega), if_pos hl, ew]
  have s2 : ∀ (y : Int), spec_ReadPlacing.l1 (k + 2) x acc i y 2 = if 43 = v then spec_ReadPlacing.l1 (k + 1) x acc i 1 3 else spec_ReadPlacing.l1 (k + 1) x acc i y 3 := by
    intro y
    rw [show k + 2 = (k + 1) + 1 from rfl]
    generalize k + 1 = q
    simp only [spec_ReadPlacing.l1]
    rw [if_pos (by omega), if_pos (by omega), if_pos h0, if_pos h1, b2, e2, f2, hv]
  have s1 : ∀ (y : Int), spec_ReadPlacing.l1 (k + 3) x acc i y 1 = if 48 = v then spec_ReadPlacing.l1 (k + 2) x acc i 0 2 else spec_ReadPlacing.l1 (k + 2) x acc i y 2 := by
    intro y
    rw [show k + 3 = (k + 2) + 1 from rfl]
    generalize k + 2 = q
    simp only [spec_ReadPlacing.l1]
    rw [if_pos (by omega), if_pos (by omega), if_pos h0, if_pos h1, b1, e1, f1, hv]
  have s0 : spec_ReadPlacing.l1 (k + 4) x acc i (-2) 0 = if 45 = v then spec_ReadPlacing.l1 (k + 3) x acc i (-1) 1 else spec_ReadPlacing.l1 (k + 3) x acc i (-2) 1 := by
    rw [show k + 4 = (k + 3) + 1 from rfl]
    generalize k + 3 = q
    simp only [spec_ReadPlacing.l1]
    rw [if_pos (by omega), if_pos (by omega), if_pos h0, if_pos h1, b0, e0, f0, hv]
  rw [s0, s1, s1, s2, s2, s2, step, step, step, step]
  unfold sgn
  by_cases c0 : v = 45
  · subst c0; simp
  · by_cases c1 : v = 48
    · subst c1; simp
    · by_cases c2 : v = 43
      · subst c2; simp
      · rw [if_neg (fun h => c0 h.symm), if_neg (fun h => c1 h.symm), if_neg (fun h => c2 h.symm), if_neg c0, if_neg c1, if_neg c2]
theorem spec_l0 (x : ByteArray) (hx : x.size ≤ 1048576) : ∀ (d k : Nat) (i : Int) (acc : List Int), 0 ≤ i → (x.size : Int) - i = d → 5 * d + 1 ≤ k → (acc.length : Int) ≤ i →
    spec_ReadPlacing.l0 k x acc i = some (match rest x d i with | none => (([] : List Int), 5) | some l => (acc ++ l, 0)) := by
  intro d
  induction d with
  | zero =>
    intro k i acc h0 h1 hk ha
    obtain ⟨k, rfl⟩ := fuel (show 1 ≤ k by omega)
    simp only [spec_ReadPlacing.l0]
    rw [if_neg (by omega)]
    simp [rest]
  | succ d ih =>
    intro k i acc h0 h1 hk ha
    obtain ⟨k, rfl⟩ := fuel (show 5 ≤ k by omega)
    rw [show k + 5 = (k + 4) + 1 from rfl]
    have h2 : i < (x.size : Int) := by omega
    have := spec_l1 x acc i h0 h2 hx ha k
    generalize hq : k + 4 = q at this ⊢
    simp only [spec_ReadPlacing.l0]
    rw [if_pos h2, this]
    unfold rest
    by_cases c : sgn (bt x i) = -2
    · rw [if_pos c, if_pos c]
    · rw [if_neg c, if_neg c, ih k (i + 1) _ (by omega) (by omega) (by omega) (by simp; omega)]
      cases rest x d (i + 1) <;> simp
theorem impl_l0 (x : ByteArray) (hx : x.size ≤ 1048576) : ∀ (d k : Nat) (i : Int) (acc : List Int), 0 ≤ i → (x.size : Int) - i = d → d + 1 ≤ k → (acc.length : Int) ≤ i →
    impl_fromSigns.l0 k x acc (x.size : Int) i = some (match rest x d i with | none => (([] : List Int), false) | some l => (acc ++ l, true)) := by
  intro d
  induction d with
  | zero =>
    intro k i acc h0 h1 hk ha
    obtain ⟨k, rfl⟩ := fuel (show 1 ≤ k by omega)
    simp only [impl_fromSigns.l0]
    rw [if_neg (by omega)]
    simp [rest]
  | succ d ih =>
    intro k i acc h0 h1 hk ha
    obtain ⟨k, rfl⟩ := fuel (show 1 ≤ k by omega)
    have h2 : i < (x.size : Int) := by omega
    simp only [impl_fromSigns.l0, index_val]
    simp only [Option.bind_some]
    rw [if_pos h2, if_pos h0, if_pos h2]
    unfold rest
    have hs := sgn_in (bt x i)
    by_cases c : sgn (bt x i) = -2
    · rw [if_pos (by omega), if_pos c]
    · rw [if_neg (by omega), if_neg c, if_pos (by omega), show wrap64 (sgn (bt x i) + 1 - 1) = sgn (bt x i) by unfold wrap64; omega, wrap8_in (by omega) (by omega), wi h0 (by omega), ih k (i + 1) _ (by omega) (by omega) (by omega) (by simp; omega)]
      cases rest x d (i + 1) <;> simp
theorem rest_len (x : ByteArray) : ∀ (d : Nat) (i : Int) (l : List Int), rest x d i = some l → l.length = d ∧ ∀ y ∈ l, -1 ≤ y ∧ y ≤ 1 := by
  intro d
  induction d with
  | zero => intro i l h; simp [rest] at h; subst h; simp
  | succ d ih =>
    intro i l h
    unfold rest at h
    by_cases c : sgn (bt x i) = -2
    · rw [if_pos c] at h; cases h
    · rw [if_neg c] at h
      cases hr : rest x d (i + 1) with
      | none => rw [hr] at h; simp at h
      | some l' =>
        rw [hr] at h
        simp at h
        subst h
        obtain ⟨e1, e2⟩ := ih (i + 1) l' hr
        have hs := sgn_in (bt x i)
        refine ⟨by simp [e1], fun y hy => ?_⟩
        rcases List.mem_cons.1 hy with rfl | hy
        · omega
        · exact e2 y hy
theorem read_same {k : Nat} (x : ByteArray) (hx : x.size ≤ 1048576) (hk : 5 * x.size + 5 ≤ k) :
    ∃ l c, spec_ReadPlacing.f k x = some (l, c) ∧ impl_ReadPlacing.f k x = some (l, c) ∧ l.length ≤ 16 := by
  have hi := impl_l0 x hx x.size k 0 [] (by omega) (by omega) (by omega) (by simp)
  unfold spec_ReadPlacing.f impl_ReadPlacing.f spec_l00In.f impl_fromSigns.f
  rw [hi]
  simp only [Option.bind_some]
  have hwi : ∀ a b c : Int, impl_within.f a b c = some (decide (b ≤ a ∧ a ≤ c)) := by
    intro a b c
    unfold impl_within.f
    by_cases h : b ≤ a
    · rw [if_pos h]; simp [h]
    · rw [if_neg h]; simp [h]
  by_cases h1 : 1 ≤ x.size ∧ x.size ≤ 16
  · have hs := spec_l0 x hx x.size k 0 [] (by omega) (by omega) (by omega) (by simp)
    rw [if_pos (by omega)]
    simp only [Option.bind_some]
    rw [if_pos (by simp; omega), hs]
    cases hr : rest x x.size 0 with
    | none => exact ⟨_, _, rfl, by simp, by simp⟩
    | some l =>
      obtain ⟨e1, e2⟩ := rest_len x x.size 0 l hr
      refine ⟨l, 0, by simp, ?_, by omega⟩
      simp only [impl_size_int8.f, Option.bind_some, hwi, List.nil_append, if_true]
      rw [if_pos (by simp; omega)]
  · refine ⟨[], 5, ?_, ?_, by simp⟩
    · by_cases h2 : (x.size : Int) ≥ 1
      · rw [if_pos h2]
        simp only [Option.bind_some]
        rw [if_neg (by simp; omega)]
      · rw [if_neg h2]
        simp
    · cases hr : rest x x.size 0 with
      | none => simp
      | some l =>
        obtain ⟨e1, e2⟩ := rest_len x x.size 0 l hr
        simp only [impl_size_int8.f, Option.bind_some, hwi, List.nil_append, if_true]
        rw [if_neg (by simp; omega)]
theorem rd_set (xs : List Int) (i j v : Int) (h0 : 0 ≤ i) (h1 : i < (xs.length : Int)) (hj : 0 ≤ j) : rd (xs.set i.toNat v) j = if j = i then v else rd xs j := by
  unfold rd
  by_cases e : j = i
  · subst e; simp [List.getD, show j.toNat < xs.length by omega]
  · rw [if_neg e]; simp [List.getD, show i.toNat ≠ j.toNat by omega]
theorem eqp_self (xs : List Int) : ∀ (d k : Nat) (i : Int), xs.length ≤ 1048576 → 0 ≤ i → (xs.length : Int) - i ≤ d → d < k → laws_eqPlacing.l0 k xs xs i = some true := by
  intro d
  induction d with
  | zero =>
    intro k i hl h0 h1 h2
    obtain ⟨k, rfl⟩ : ∃ m, k = m + 1 := ⟨k - 1, by omega⟩
    simp only [laws_eqPlacing.l0]; rw [if_neg (by omega)]
  | succ d ih =>
    intro k i hl h0 h1 h2
    obtain ⟨k, rfl⟩ : ∃ m, k = m + 1 := ⟨k - 1, by omega⟩
    simp only [laws_eqPlacing.l0]
    by_cases h : i < (xs.length : Int)
    · simp only [if_true]; rw [if_pos h, if_pos h0, if_pos h, show wrap64 (i + 1) = i + 1 by unfold wrap64; omega]
      exact ih k _ hl (by omega) (by omega) (by omega)
    · rw [if_neg h]
theorem mark_l0 : ∀ (d k : Nat) (xs : List Int) (i m : Int), xs.length ≤ 16 → 0 ≤ i → i ≤ (xs.length : Int) → (xs.length : Int) - i ≤ d → d < k → m = i + 1 → (∀ j, 0 ≤ j → j < i → rd xs j = j + 1) →
    ∃ ys, laws_markPlacing.l0 k xs m i = some ((xs.length : Int) + 1, ys) ∧ ys.length = xs.length ∧ ∀ j, 0 ≤ j → j < (xs.length : Int) → rd ys j = j + 1 := by
  intro d
  induction d with
  | zero =>
    intro k xs i m hl h0 hi h1 h2 hm hh
    obtain ⟨k, rfl⟩ : ∃ q, k = q + 1 := ⟨k - 1, by omega⟩
    simp only [laws_markPlacing.l0]
    rw [if_neg (by omega)]
    exact ⟨xs, by rw [show m = (xs.length : Int) + 1 by omega], rfl, fun j a b => hh j a (by omega)⟩
  | succ d ih =>
    intro k xs i m hl h0 hi h1 h2 hm hh
    obtain ⟨k, rfl⟩ : ∃ q, k = q + 1 := ⟨k - 1, by omega⟩
    simp only [laws_markPlacing.l0]
    by_cases h : i < (xs.length : Int)
    · rw [if_pos h, if_pos h0, wi h0 (by omega), wi (show 0 ≤ m by omega) (by omega), wrap8_in (by omega) (by omega)]
      obtain ⟨ys, e1, e2, e3⟩ := ih k (xs.set i.toNat m) (i + 1) (m + 1) (by simp; omega) (by omega) (by simp; omega) (by simp; omega) (by omega) (by omega) (fun j a b => by
        rw [rd_set xs i j m h0 h a]
        by_cases e : j = i
        · rw [if_pos e]; omega
        · rw [if_neg e]; exact hh j a (by omega))
      simp only [List.length_set] at e1 e2 e3
      exact ⟨ys, e1, e2, e3⟩
    · rw [if_neg h]
      exact ⟨xs, by rw [show m = (xs.length : Int) + 1 by omega], rfl, fun j a b => hh j a (by omega)⟩
theorem held_l0 (xs : List Int) (hl : xs.length ≤ 16) (hh : ∀ j, 0 ≤ j → j < (xs.length : Int) → rd xs j = j + 1) : ∀ (d k : Nat) (i m : Int), 0 ≤ i → i ≤ (xs.length : Int) → (xs.length : Int) - i ≤ d → d < k → m = i + 1 →
    laws_heldPlacing.l0 k xs m i = some ((xs.length : Int) + 1) := by
  intro d
  induction d with
  | zero =>
    intro k i m h0 hi h1 h2 hm
    obtain ⟨k, rfl⟩ : ∃ q, k = q + 1 := ⟨k - 1, by omega⟩
    simp only [laws_heldPlacing.l0]
    rw [if_neg (by omega), show m = (xs.length : Int) + 1 by omega]
  | succ d ih =>
    intro k i m h0 hi h1 h2 hm
    obtain ⟨k, rfl⟩ : ∃ q, k = q + 1 := ⟨k - 1, by omega⟩
    simp only [laws_heldPlacing.l0]
    by_cases h : i < (xs.length : Int)
    · rw [if_pos h, if_pos h0, hh i h0 h, wrap8_in (by omega) (by omega), if_pos hm.symm, wi h0 (by omega), wi (show 0 ≤ m by omega) (by omega)]
      exact ih k (i + 1) (m + 1) (by omega) (by omega) (by omega) (by omega) (by omega)
    · rw [if_neg h, show m = (xs.length : Int) + 1 by omega]
theorem FnExactReadPlacing (x0_0 : ByteArray) (w0_0 : (fun s : ByteArray => s.size ≤ maxLen) x0_0) : ∃ k, laws_FnExactReadPlacing.f k x0_0 = some true := by
  obtain ⟨k, hk⟩ : ∃ k, k = 5 * x0_0.size + 50 := ⟨_, rfl⟩
  refine ⟨k + 1 + 1, ?_⟩
  unfold laws_FnExactReadPlacing.f
  by_cases e0 : (x0_0.size : Int) > 1048576
  · rw [if_pos e0]
  · rw [if_neg e0]
    obtain ⟨l, c, h1, h2, h3⟩ := read_same (k := k + 1 + 1) x0_0 (by omega) (by omega)
    obtain ⟨l', c', h1', h2', h3'⟩ := read_same (k := k + 1) x0_0 (by omega) (by omega)
    have hm : some (l, c) = some (l', c') := by
      have hmono := impl_ReadPlacing.mono x0_0 (k + 1)
      rw [h2', h2] at hmono
      exact hmono _ rfl
    obtain ⟨rfl, rfl⟩ : l = l' ∧ c = c' := by simpa using hm
    have heq : ∀ q : Nat, 20 ≤ q → laws_eqPlacing.f q l l = some true := by
      intro q hq
      unfold laws_eqPlacing.f
      rw [if_pos rfl]
      exact eqp_self l 17 q 0 (by omega) (by omega) (by omega) (by omega)
    obtain ⟨ys, e1, e2, e3⟩ := mark_l0 17 (k + 1) l 0 1 h3 (by omega) (by omega) (by omega) (by omega) (by omega) (fun j a b => by omega)
    have hd : ∀ q : Nat, 20 ≤ q → laws_heldPlacing.f q ys 1 = some ((l.length : Int) + 1) := by
      intro q hq
      unfold laws_heldPlacing.f
      rw [← e2]
      exact held_l0 ys (by omega) (fun j a b => e3 j a (by omega)) 17 q 0 1 (by omega) (by omega) (by omega) (by omega) (by omega)
    rw [h1]
    simp only [Option.bind_some]
    rw [h2]
    simp only [Option.bind_some]
    rw [heq _ (by omega)]
    simp only [Option.bind_some, if_true]
    simp only [laws_FnExactReadPlacing.j0]
    rw [show laws_markPlacing.f (k + 1) l 1 = some ((l.length : Int) + 1, ys) from e1, if_neg (by simp)]
    simp only [Option.bind_some]
    rw [hd _ (by omega)]
    simp only [Option.bind_some]
    rw [if_neg (by omega), if_pos trivial, h2']
    simp only [Option.bind_some]
    rw [heq _ (by omega)]
    simp only [Option.bind_some, if_true]
    simp only [laws_FnExactReadPlacing.j1]
    rw [if_neg (by simp), hd _ (by omega)]
    simp only [Option.bind_some]
    rw [if_neg (by omega), if_pos trivial]

end Go.Proofs.Ytegnpgagboccpaa.Pure
