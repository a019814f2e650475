/- Plain laws of lists of words: copies and comparisons. -/
-- IMPORTS
import Derived.Test.YtkieplebdbdigaaMx0
import Derived.Test.YtkieplebdbdigaaMx1
import Derived.Test.YtkieplebdbdigaaMx2
import Derived.Test.YtkieplebdbdigaaMx3
import Derived.Test.YtkieplebdbdigaaMx4
namespace Go.Proofs.Ytkieplebdbdigaa.Pure
open Go.RowKit Go.Proofs.Ytkieplebdbdigaa.M Go.Proofs.YtkieplebdbdigaaW.PrintWords Go.Proofs.YtkieplebdbdigaaW.PrintLast Go.Proofs.YtkieplebdbdigaaW.PrintMore
set_option linter.unusedVariables false
set_option linter.unusedSimpArgs false

theorem wi {i : Int} (h0 : 0 ≤ i) (h1 : i ≤ 2000000000) : wrap64 (i + 1) = i + 1 := by unfold wrap64; omega
theorem fuel {k n : Nat} (h : n ≤ k) : ∃ m, k = m + n := ⟨k - n, by omega⟩
theorem wf8 {a : Int} (h : (Lit.int .i8 a).wf = true) : -128 ≤ a ∧ a ≤ 127 := by
  have h' : IntKind.i8.min ≤ a ∧ a ≤ IntKind.i8.max := by simpa [Lit.wf] using h
  exact h'
theorem wn8 {a : Int} (h : (Lit.int .i8 a).wf = true) : wrap64 a = a := by
  have := wf8 h
  unfold wrap64; omega
theorem toWord_val {k : Nat} (h : 5 ≤ k) (a b c d : Int) : laws_toWord.f k a b c d = some (a, b, c, d) := by
  obtain ⟨m, rfl⟩ := fuel h
  simp [laws_toWord.f, laws_toWord.l0, aup, rd, wrap64]
theorem eqWord_self {k : Nat} (h : 5 ≤ k) (a b c d : Int) : laws_eqWord.f k a b c d a b c d = some true := by
  obtain ⟨m, rfl⟩ := fuel h
  simp [laws_eqWord.f, laws_eqWord.l0, rd, wrap64]

/-- The law's word as the program's. -/
def cv (x : S36) : S41 := ⟨x.f0, x.f1, x.f2, x.f3⟩
theorem rd_pre (pre : List S36) (x : S36) (suf : List S36) : rd_T36 (pre ++ x :: suf) (pre.length : Int) = x := by
  unfold rd_T36; simp [List.getD]
theorem toWordS_l0 (l : List S36) (hl : l.length ≤ 1048576) : ∀ (suf pre : List S36) (r : List S41) (k : Nat), l = pre ++ suf → r.length = suf.length → suf.length + 6 ≤ k → laws_toWordS.l0 k l (pre.map cv ++ r) (pre.length : Int) = some (l.map cv) := by
  intro suf
  induction suf with
  | nil =>
    intro pre r k h hr hk
    obtain ⟨k, rfl⟩ := fuel (show 1 ≤ k by omega)
    obtain rfl : r = [] := List.length_eq_zero_iff.1 hr
    simp only [List.append_nil] at h
    subst h
    simp [laws_toWordS.l0]
  | cons x suf ih =>
    intro pre r k h hr hk
    cases r with
    | nil => simp at hr
    | cons y r =>
      simp only [List.length_cons] at hr hk
      obtain ⟨k, rfl⟩ := fuel (show 1 ≤ k by omega)
      have hn : l.length = pre.length + (suf.length + 1) := by rw [h]; simp
      simp only [laws_toWordS.l0]
      rw [if_pos (by omega), if_pos (by omega)]
      have e : rd_T36 l (pre.length : Int) = x := by rw [h]; exact rd_pre pre x suf
      rw [e, toWord_val (by omega)]
      simp only [Option.bind_some]
      rw [if_pos (by simp; omega), wi (by omega) (by omega)]
      have es : (pre.map cv ++ y :: r).set ((pre.length : Int)).toNat (⟨x.f0, x.f1, x.f2, x.f3⟩ : S41) = (pre ++ [x]).map cv ++ r := by
        rw [List.set_append_right _ _ (by simp)]
        simp [cv]
      rw [es, show (pre.length : Int) + 1 = ((pre ++ [x]).length : Int) by simp]
      exact ih (pre ++ [x]) r k (by simp [h]) (by omega) (by omega)
theorem toWordS_val {k : Nat} (l : List S36) (hl : l.length ≤ 1048576) (h : l.length + 6 ≤ k) : laws_toWordS.f k l = some (l.map cv) := by
  unfold laws_toWordS.f
  rw [if_pos (by omega), if_pos (by simp; omega)]
  exact toWordS_l0 l hl l [] _ k rfl (by simp) h

theorem eqWordS_l0 (l : List S41) (hl : l.length ≤ 1048576) : ∀ (d k : Nat) (i : Int), 0 ≤ i → (l.length : Int) - i ≤ d → d + 6 ≤ k → laws_eqWordS.l0 k l l i = some true := by
  intro d
  induction d with
  | zero =>
    intro k i h0 h1 h2
    obtain ⟨k, rfl⟩ := fuel (show 1 ≤ k by omega)
    simp only [laws_eqWordS.l0]; rw [if_neg (by omega)]
  | succ d ih =>
    intro k i h0 h1 h2
    obtain ⟨k, rfl⟩ := fuel (show 1 ≤ k by omega)
    simp only [laws_eqWordS.l0]
    by_cases h : i < (l.length : Int)
    · rw [if_pos h, if_pos h0, if_pos h, eqWord_self (by omega)]
      simp only [Option.bind_some]
      rw [if_pos trivial, wi h0 (by omega)]
      exact ih k (i + 1) (by omega) (by omega) (by omega)
    · rw [if_neg h]
theorem eqWordS_self {k : Nat} (l : List S41) (hl : l.length ≤ 1048576) (h : l.length + 6 ≤ k) : laws_eqWordS.f k l l = some true := by
  unfold laws_eqWordS.f
  rw [if_pos rfl]
  exact eqWordS_l0 l hl l.length k 0 (by omega) (by omega) h

theorem toFixed_val {k : Nat} (p q : Int) (l : List S36) (hl : l.length ≤ 1048576) (h : l.length + 6 ≤ k) : laws_toFixed.f k p q l = some (p, q, l.map cv) := by
  unfold laws_toFixed.f
  rw [toWordS_val l hl h]
  rfl
theorem eqFixed_self {k : Nat} (p q : Int) (l : List S41) (hl : l.length ≤ 1048576) (h : l.length + 6 ≤ k) : laws_eqFixed.f k p q l p q l = some true := by
  unfold laws_eqFixed.f
  rw [if_pos rfl, if_pos rfl, eqWordS_self l hl h]
  rfl
theorem szFixed_val (p q : Int) (l : List S36) (hl : l.length ≤ maxLen) (s : Int) (h0 : 0 ≤ s) (h1 : s ≤ 1048576) : laws_szFixed.f p q l s = some (if s - l.length < 0 then -1 else s - l.length) := by
  unfold laws_szFixed.f laws_szWordS.f
  have hm : (l.length : Int) ≤ maxLen := by exact_mod_cast hl
  have e : wrap64 (s - (l.length : Int)) = s - l.length := by
    have hm2 : (maxLen : Int) = 9223372036854775807 := by decide
    unfold wrap64; omega
  rw [e]
  by_cases h : s - (l.length : Int) < 0
  · rw [if_pos h, if_pos h]; rfl
  · rw [if_neg h, if_neg h]
    simp only [Option.bind_some]
    rw [if_neg h]

end Go.Proofs.Ytkieplebdbdigaa.Pure
