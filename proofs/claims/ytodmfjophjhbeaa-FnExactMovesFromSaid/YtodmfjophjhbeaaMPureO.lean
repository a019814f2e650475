/- Plain laws: lists of moves copied and compared; marks laid into jugs and moves, and found again. -/
import Derived.Test.YtodmfjophjhbeaaMPureB
-- IMPORTS
import Derived.Test.YtodmfjophjhbeaaMx0
import Derived.Test.YtodmfjophjhbeaaMx6
import Derived.Test.YtodmfjophjhbeaaMx7
import Derived.Test.YtodmfjophjhbeaaMx18
import Derived.Test.YtodmfjophjhbeaaMx26
import Derived.Test.YtodmfjophjhbeaaMx27
import Derived.Test.YtodmfjophjhbeaaMx28
namespace Go.Proofs.Ytodmfjophjhbeaa.Pure
open Go.RowKit Go.Proofs.Ytodmfjophjhbeaa.M Go.Proofs.YtodmfjophjhbeaaW.PrintWords Go.Proofs.YtodmfjophjhbeaaW.PrintLast Go.Proofs.YtodmfjophjhbeaaW.PrintMore
set_option linter.unusedVariables false
set_option linter.unusedSimpArgs false

theorem eqMove_self (a b c : Int) : laws_eqMove.f a b c a b c = some true := by
  unfold laws_eqMove.f; simp
def cvm (x : S58) : S60 := ⟨x.f0, x.f1, x.f2⟩
theorem rdm58_pre (pre : List S58) (x : S58) (suf : List S58) : rd_T58 (pre ++ x :: suf) (pre.length : Int) = x := by
  unfold rd_T58; simp [List.getD]
theorem toMoveS_l0 (l : List S58) (hl : l.length ≤ 1048576) : ∀ (suf pre : List S58) (r : List S60) (k : Nat), l = pre ++ suf → r.length = suf.length → suf.length + 6 ≤ k → laws_toMoveS.l0 k l (pre.map cvm ++ r) (pre.length : Int) = some (l.map cvm) := by
  intro suf
  induction suf with
  | nil =>
    intro pre r k h hr hk
    obtain ⟨k, rfl⟩ := fuel (show 1 ≤ k by omega)
    obtain rfl : r = [] := List.length_eq_zero_iff.1 hr
    simp only [List.append_nil] at h
    subst h
    simp [laws_toMoveS.l0]
  | cons x suf ih =>
    intro pre r k h hr hk
    cases r with
    | nil => simp at hr
    | cons y r =>
      simp only [List.length_cons] at hr hk
      obtain ⟨k, rfl⟩ := fuel (show 1 ≤ k by omega)
      have hn : l.length = pre.length + (suf.length + 1) := by rw [h]; simp
      simp only [laws_toMoveS.l0]
      rw [if_pos (by omega), if_pos (by omega)]
      have e : rd_T58 l (pre.length : Int) = x := by rw [h]; exact rdm58_pre pre x suf
      rw [e]
      simp only [laws_toMove.f, Option.bind_some]
      rw [if_pos (by simp; omega), wi (by omega) (by omega)]
      have es : (pre.map cvm ++ y :: r).set ((pre.length : Int)).toNat (⟨x.f0, x.f1, x.f2⟩ : S60) = (pre ++ [x]).map cvm ++ r := by
        rw [List.set_append_right _ _ (by simp)]
        simp [cvm]
      rw [es, show (pre.length : Int) + 1 = ((pre ++ [x]).length : Int) by simp]
      exact ih (pre ++ [x]) r k (by simp [h]) (by omega) (by omega)
theorem toMoveS_val {k : Nat} (l : List S58) (hl : l.length ≤ 1048576) (h : l.length + 6 ≤ k) : laws_toMoveS.f k l = some (l.map cvm) := by
  unfold laws_toMoveS.f
  rw [if_pos (by omega), if_pos (by simp; omega)]
  exact toMoveS_l0 l hl l [] _ k rfl (by simp) h

theorem eqMoveS_l0 (l : List S60) (hl : l.length ≤ 1048576) : ∀ (d k : Nat) (i : Int), 0 ≤ i → (l.length : Int) - i ≤ d → d + 6 ≤ k → laws_eqMoveS.l0 k l l i = some true := by
  intro d
  induction d with
  | zero =>
    intro k i h0 h1 h2
    obtain ⟨k, rfl⟩ := fuel (show 1 ≤ k by omega)
    simp only [laws_eqMoveS.l0]; rw [if_neg (by omega)]
  | succ d ih =>
    intro k i h0 h1 h2
    obtain ⟨k, rfl⟩ := fuel (show 1 ≤ k by omega)
    simp only [laws_eqMoveS.l0]
    by_cases h : i < (l.length : Int)
    · rw [if_pos h, if_pos h0, if_pos h, eqMove_self]
      simp only [Option.bind_some]
      rw [if_pos trivial, wi h0 (by omega)]
      exact ih k (i + 1) (by omega) (by omega) (by omega)
    · rw [if_neg h]
theorem eqMoveS_self {k : Nat} (l : List S60) (hl : l.length ≤ 1048576) (h : l.length + 6 ≤ k) : laws_eqMoveS.f k l l = some true := by
  unfold laws_eqMoveS.f
  rw [if_pos rfl]
  exact eqMoveS_l0 l hl l.length k 0 (by omega) (by omega) h

theorem szMoveS_val (l : List S58) (hl : l.length ≤ maxLen) (s : Int) (h0 : 0 ≤ s) (h1 : s ≤ 1048576) : laws_szMoveS.f l s = some (if s - l.length < 0 then -1 else s - l.length) := by
  unfold laws_szMoveS.f
  have hm : (l.length : Int) ≤ maxLen := by exact_mod_cast hl
  have e : wrap64 (s - (l.length : Int)) = s - l.length := by
    have hm2 : (maxLen : Int) = 9223372036854775807 := by decide
    unfold wrap64; omega
  rw [e]
  by_cases h : s - (l.length : Int) < 0
  · rw [if_pos h, if_pos h]
  · rw [if_neg h, if_neg h]
theorem mark16_l0 : ∀ (suf pre : List Int) (k : Int) (f : Nat), pre.length + suf.length ≤ 1048576 → 0 ≤ k → k + suf.length ≤ 9000000 → suf.length + 1 ≤ f →
    ∃ m, laws_markInt16S.l0 f (pre ++ suf) k (pre.length : Int) = some (k + suf.length, m) := by
  intro suf
  induction suf with
  | nil =>
    intro pre k f hl h0 h1 hf
    obtain ⟨f, rfl⟩ := fuel (show 1 ≤ f by omega)
    refine ⟨pre, ?_⟩
    simp only [laws_markInt16S.l0]
    rw [if_neg (by simp)]
    simp
  | cons x suf ih =>
    intro pre k f hl h0 h1 hf
    simp only [List.length_cons] at hl h1 hf
    obtain ⟨f, rfl⟩ := fuel (show 1 ≤ f by omega)
    simp only [laws_markInt16S.l0]
    rw [if_pos (by simp; omega), if_pos (by omega), wi h0 (by omega), wi (by omega) (by omega)]
    have es : (pre ++ x :: suf).set ((pre.length : Int)).toNat (IntKind.i16.wrap k) = (pre ++ [IntKind.i16.wrap k]) ++ suf := by
      rw [List.set_append_right _ _ (by simp)]
      simp
    obtain ⟨m, hm⟩ := ih (pre ++ [IntKind.i16.wrap k]) (k + 1) f (by simp; omega) (by omega) (by omega) (by omega)
    rw [es, show (pre.length : Int) + 1 = ((pre ++ [IntKind.i16.wrap k]).length : Int) by simp, hm]
    refine ⟨m, ?_⟩
    congr 2
    simp only [List.length_cons]; push_cast; omega
theorem markPuzzle_val {f : Nat} (l : List Int) (p q s t : Int) (z : Bool) (hl : l.length ≤ 1048576) (hf : l.length + 1 ≤ f) : ∃ m, laws_markPuzzle.f f l p q s t z 1 = some (1 + (l.length : Int), m) := by
  obtain ⟨m, hm⟩ := mark16_l0 l [] 1 f (by simpa using hl) (by omega) (by omega) hf
  refine ⟨m, ?_⟩
  unfold laws_markPuzzle.f laws_markInt16S.f
  have hm' : laws_markInt16S.l0 f l 1 0 = some (1 + (l.length : Int), m) := by simpa using hm
  rw [hm']
  rfl

def m8 (k : Int) : Int := IntKind.i8.wrap k
/-- Moves with marks from k on. -/
def markedM : Int → List S60 → List S60
  | _, [] => []
  | k, _ :: r => ⟨m8 k, m8 (k + 1), m8 (k + 2)⟩ :: markedM (k + 3) r
theorem markedM_len : ∀ (l : List S60) (k : Int), (markedM k l).length = l.length := by
  intro l
  induction l with
  | nil => intro k; rfl
  | cons x r ih => intro k; simp [markedM, ih]
theorem rdm60_pre (pre : List S60) (x : S60) (suf : List S60) : rd_T60 (pre ++ x :: suf) (pre.length : Int) = x := by
  unfold rd_T60; simp [List.getD]
theorem set60_pre (pre : List S60) (x y : S60) (suf : List S60) : (pre ++ x :: suf).set ((pre.length : Int)).toNat y = pre ++ y :: suf := by
  rw [List.set_append_right _ _ (by simp)]; simp
theorem markM_l0 : ∀ (suf pre : List S60) (k : Int) (f : Nat), pre.length + suf.length ≤ 1048576 → 0 ≤ k → k + 3 * suf.length ≤ 9000000 → suf.length + 1 ≤ f →
    laws_markMoveS.l0 f (pre ++ suf) k (pre.length : Int) = some (k + 3 * suf.length, pre ++ markedM k suf) := by
  intro suf
  induction suf with
  | nil =>
    intro pre k f hl h0 h1 hf
    obtain ⟨f, rfl⟩ := fuel (show 1 ≤ f by omega)
    simp only [laws_markMoveS.l0]
    rw [if_neg (by simp)]
    simp [markedM]
  | cons x suf ih =>
    intro pre k f hl h0 h1 hf
    simp only [List.length_cons] at hl h1 hf
    obtain ⟨f, rfl⟩ := fuel (show 1 ≤ f by omega)
    have w1 : wrap64 (k + 1) = k + 1 := wi h0 (by omega)
    have w2 : wrap64 (k + 1 + 1) = k + 2 := by rw [wi (by omega) (by omega)]; omega
    have w3 : wrap64 (k + 2 + 1) = k + 3 := by rw [wi (by omega) (by omega)]; omega
    simp only [laws_markMoveS.l0, Option.bind_some, set60_pre, rdm60_pre, w1, w2, w3]
    rw [if_pos (by simp; omega), if_pos (by omega), wi (by omega) (by omega)]
    have h := ih (pre ++ [(⟨m8 k, m8 (k + 1), m8 (k + 2)⟩ : S60)]) (k + 3) f (by simp; omega) (by omega) (by omega) (by omega)
    simp only [List.append_assoc, List.cons_append, List.nil_append, List.length_append, List.length_cons, List.length_nil] at h
    rw [show ((pre.length + (0 + 1) : Nat) : Int) = (pre.length : Int) + 1 by omega] at h
    simp only [m8] at h
    rw [h]
    simp only [markedM, List.length_cons, m8]
    congr 2
    push_cast; omega
theorem heldM_l0 : ∀ (suf pre : List S60) (k : Int) (f : Nat), pre.length + suf.length ≤ 1048576 → 0 ≤ k → k + 3 * suf.length ≤ 9000000 → suf.length + 1 ≤ f →
    laws_heldMoveS.l0 f (pre ++ markedM k suf) k (pre.length : Int) = some (k + 3 * suf.length) := by
  intro suf
  induction suf with
  | nil =>
    intro pre k f hl h0 h1 hf
    obtain ⟨f, rfl⟩ := fuel (show 1 ≤ f by omega)
    simp only [laws_heldMoveS.l0]
    rw [if_neg (by simp [markedM])]
    simp
  | cons x suf ih =>
    intro pre k f hl h0 h1 hf
    simp only [List.length_cons] at hl h1 hf
    obtain ⟨f, rfl⟩ := fuel (show 1 ≤ f by omega)
    have w1 : wrap64 (k + 1) = k + 1 := wi h0 (by omega)
    have w2 : wrap64 (k + 1 + 1) = k + 2 := by rw [wi (by omega) (by omega)]; omega
    have w3 : wrap64 (k + 2 + 1) = k + 3 := by rw [wi (by omega) (by omega)]; omega
    have h := ih (pre ++ [(⟨m8 k, m8 (k + 1), m8 (k + 2)⟩ : S60)]) (k + 3) f (by simp; omega) (by omega) (by omega) (by omega)
    simp only [List.append_assoc, List.cons_append, List.nil_append, List.length_append, List.length_cons, List.length_nil] at h
    rw [show ((pre.length + (0 + 1) : Nat) : Int) = (pre.length : Int) + 1 by omega] at h
    simp only [laws_heldMoveS.l0, markedM, rdm60_pre, w1, w2, w3]
    rw [if_pos (by simp; omega), if_pos (by omega), if_pos (show m8 k = IntKind.i8.wrap k from rfl), if_pos (show m8 (k + 1) = IntKind.i8.wrap (k + 1) from rfl), if_pos (show m8 (k + 2) = IntKind.i8.wrap (k + 2) from rfl), wi (by omega) (by omega), h]
    simp only [List.length_cons]
    congr 1
    push_cast; omega
theorem markM_val {f : Nat} (l : List S60) (hl : l.length ≤ 1048576) (hf : l.length + 1 ≤ f) : laws_markMoveS.f f l 1 = some (1 + 3 * (l.length : Int), markedM 1 l) := by
  unfold laws_markMoveS.f
  exact markM_l0 l [] 1 f (by simpa using hl) (by omega) (by omega) hf
theorem heldM_val {f : Nat} (l : List S60) (hl : l.length ≤ 1048576) (hf : l.length + 1 ≤ f) : laws_heldMoveS.f f (markedM 1 l) 1 = some (1 + 3 * (l.length : Int)) := by
  unfold laws_heldMoveS.f
  exact heldM_l0 l [] 1 f (by simpa using hl) (by omega) (by omega) hf

end Go.Proofs.Ytodmfjophjhbeaa.Pure
