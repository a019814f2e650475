/- Plain laws: lists of moves, copied and compared. -/
import Derived.Test.YtodmfjophjhbeaaMPureB
-- IMPORTS
import Derived.Test.YtodmfjophjhbeaaMx0
import Derived.Test.YtodmfjophjhbeaaMx27
import Derived.Test.YtodmfjophjhbeaaMx29
import Derived.Test.YtodmfjophjhbeaaMx31
import Derived.Test.YtodmfjophjhbeaaMx32
namespace Go.Proofs.Ytodmfjophjhbeaa.Pure
open Go.RowKit Go.Proofs.Ytodmfjophjhbeaa.M Go.Proofs.YtodmfjophjhbeaaW.PrintWords Go.Proofs.YtodmfjophjhbeaaW.PrintLast Go.Proofs.YtodmfjophjhbeaaW.PrintMore
set_option linter.unusedVariables false
set_option linter.unusedSimpArgs false

theorem eqMove_self (a b c : Int) : laws_eqMove.f a b c a b c = some true := by
  unfold laws_eqMove.f; simp
def cvm (x : S58) : S60 := ⟨x.f0, x.f1, x.f2⟩
theorem rdm58_pre (pre : List S58) (x : S58) (suf : List S58) : rd_T58 (pre ++ x :: suf) (pre.length : Int) = x := by
  unfold rd_T58; simp [List.getD]
theorem toMoveS_l0 (l : List S58) (hl : l.length ≤ 1048576) : ∀ (suf pre : List S58) (r : List S60) (k : Nat), l = pre ++ suf → r.length = suf.length → suf.length + 6 ≤ k → laws_toMoveS.l0 k l (pre.map cvm ++ r) (pre.length : Int) = some (l.map cvm) := by
  intro suf
  induction suf with
  | nil =>
    intro pre r k h hr hk
    obtain ⟨k, rfl⟩ := fuel (show 1 ≤ k by omega)
    obtain rfl : r = [] := List.length_eq_zero_iff.1 hr
    simp only [List.append_nil] at h
    subst h
    simp [laws_toMoveS.l0]
  | cons x suf ih =>
    intro pre r k h hr hk
    cases r with
    | nil => simp at hr
    | cons y r =>
      simp only [List.length_cons] at hr hk
      obtain ⟨k, rfl⟩ := fuel (show 1 ≤ k by omega)
      have hn : l.length = pre.length + (suf.length + 1) := by rw [h]; simp
      simp only [laws_toMoveS.l0]
      rw [if_pos (by omega), if_pos (by omega)]
      have e : rd_T58 l (pre.length : Int) = x := by rw [h]; exact rdm58_pre pre x suf
      rw [e]
      simp only [laws_toMove.f, Option.bind_some]
      rw [if_pos (by simp; omega), wi (by omega) (by omega)]
      have es : (pre.map cvm ++ y :: r).set ((pre.length : Int)).toNat (⟨x.f0, x.f1, x.f2⟩ : S60) = (pre ++ [x]).map cvm ++ r := by
        rw [List.set_append_right _ _ (by simp)]
        simp [cvm]
      rw [es, show (pre.length : Int) + 1 = ((pre ++ [x]).length : Int) by simp]
      exact ih (pre ++ [x]) r k (by simp [h]) (by omega) (by omega)
theorem toMoveS_val {k : Nat} (l : List S58) (hl : l.length ≤ 1048576) (h : l.length + 6 ≤ k) : laws_toMoveS.f k l = some (l.map cvm) := by
  unfold laws_toMoveS.f
  rw [if_pos (by omega), if_pos (by simp; omega)]
  exact toMoveS_l0 l hl l [] _ k rfl (by simp) h

theorem eqMoveS_l0 (l : List S60) (hl : l.length ≤ 1048576) : ∀ (d k : Nat) (i : Int), 0 ≤ i → (l.length : Int) - i ≤ d → d + 6 ≤ k → laws_eqMoveS.l0 k l l i = some true := by
  intro d
  induction d with
  | zero =>
    intro k i h0 h1 h2
    obtain ⟨k, rfl⟩ := fuel (show 1 ≤ k by omega)
    simp only [laws_eqMoveS.l0]; rw [if_neg (by omega)]
  | succ d ih =>
    intro k i h0 h1 h2
    obtain ⟨k, rfl⟩ := fuel (show 1 ≤ k by omega)
    simp only [laws_eqMoveS.l0]
    by_cases h : i < (l.length : Int)
    · rw [if_pos h, if_pos h0, if_pos h, eqMove_self]
      simp only [Option.bind_some]
      rw [if_pos trivial, wi h0 (by omega)]
      exact ih k (i + 1) (by omega) (by omega) (by omega)
    · rw [if_neg h]
theorem eqMoveS_self {k : Nat} (l : List S60) (hl : l.length ≤ 1048576) (h : l.length + 6 ≤ k) : laws_eqMoveS.f k l l = some true := by
  unfold laws_eqMoveS.f
  rw [if_pos rfl]
  exact eqMoveS_l0 l hl l.length k 0 (by omega) (by omega) h

theorem szMoveS_val (l : List S58) (hl : l.length ≤ maxLen) (s : Int) (h0 : 0 ≤ s) (h1 : s ≤ 1048576) : laws_szMoveS.f l s = some (if s - l.length < 0 then -1 else s - l.length) := by
  unfold laws_szMoveS.f
  have hm : (l.length : Int) ≤ maxLen := by exact_mod_cast hl
  have e : wrap64 (s - (l.length : Int)) = s - l.length := by
    have hm2 : (maxLen : Int) = 9223372036854775807 := by decide
    unfold wrap64; omega
  rw [e]
  by_cases h : s - (l.length : Int) < 0
  · rw [if_pos h, if_pos h]
  · rw [if_neg h, if_neg h]
end Go.Proofs.Ytodmfjophjhbeaa.Pure
