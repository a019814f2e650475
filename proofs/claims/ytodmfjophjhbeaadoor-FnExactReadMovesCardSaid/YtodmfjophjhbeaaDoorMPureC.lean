/- Plain law: the reference's split at a space is the library's. -/
import Derived.Lib.SplitLaws
-- IMPORTS
import Derived.Test.YtodmfjophjhbeaaDoorMx1
import Derived.Test.YtodmfjophjhbeaaDoorHSplit
namespace Go.Proofs.YtodmfjophjhbeaaDoor.Pure
open Go.RowKit Go.Proofs.YtodmfjophjhbeaaDoor.M Go.Proofs.YtodmfjophjhbeaaDoorW.PrintWords Go.Proofs.YtodmfjophjhbeaaDoorW.PrintLast Go.Proofs.YtodmfjophjhbeaaDoorW.PrintMore
set_option linter.unusedVariables false
set_option linter.unusedSimpArgs false

theorem wi {i : Int} (h0 : 0 ≤ i) (h1 : i ≤ 2000000000) : wrap64 (i + 1) = i + 1 := by unfold wrap64; omega
theorem fuel {k n : Nat} (h : n ≤ k) : ∃ m, k = m + n := ⟨k - n, by omega⟩
theorem idx_none (c : UInt8) : ∀ l : List UInt8, c ∉ l → Lib.index l [c] = -1 := by
  intro l h
  rw [Lib.index_one]
  induction l with
  | nil => rfl
  | cons b l ih =>
    simp only [List.mem_cons, not_or] at h
    unfold Lib.indexByte
    rw [if_neg (by simpa using Ne.symm h.1), ih h.2]
    rfl
theorem idx_at (c : UInt8) : ∀ pre suf : List UInt8, c ∉ pre → Lib.index (pre ++ c :: suf) [c] = (pre.length : Int) := by
  intro pre suf h
  rw [Lib.index_one]
  induction pre with
  | nil => simp [Lib.indexByte]
  | cons b l ih =>
    simp only [List.mem_cons, not_or] at h
    rw [List.cons_append]
    unfold Lib.indexByte
    rw [if_neg (by simpa using Ne.symm h.1), ih h.2, if_neg (by simp)]
    simp
theorem ba_ext {a b : ByteArray} (h : a.data.toList = b.data.toList) : a = b := ByteArray.ext (Array.ext' h)
theorem bt_list (x : ByteArray) (P Q : List UInt8) (c : UInt8) (h : x.data.toList = P ++ c :: Q) : bt x (P.length : Int) = (c.toNat : Int) := by
  have hs : x.size = P.length + (Q.length + 1) := by rw [Lib.size_eq, h]; simp
  unfold bt
  rw [dif_pos (by rw [Int.toNat_natCast]; omega)]
  have h1 : x.data.toList[P.length]? = some c := by rw [h]; simp
  have h2 : x.data.toList[P.length]? = some (x[((P.length : Int)).toNat]'(by rw [Int.toNat_natCast]; omega)) := by
    rw [List.getElem?_eq_getElem (by rw [h]; simp)]
    simp
    rfl
  rw [h1] at h2
  rw [← Option.some.inj h2]
def sp : ByteArray := ⟨#[32]⟩
/-- All the pieces. -/
def pieces (x : ByteArray) : List ByteArray := Lib.splitB sp 0 (Lib.countB x sp) x
theorem pieces_none (x : ByteArray) (h : (32 : UInt8) ∉ x.data.toList) : pieces x = [x] := Lib.splitB_miss sp 0 _ x (idx_none 32 _ h)
theorem pieces_at (x : ByteArray) (B C : List UInt8) (h : x.data.toList = B ++ 32 :: C) (hB : (32 : UInt8) ∉ B) : pieces x = ⟨B.toArray⟩ :: pieces ⟨C.toArray⟩ := by
  have hi : Lib.indexB x sp = (B.length : Int) := by
    show Lib.index x.data.toList [32] = _
    rw [h]; exact idx_at 32 B C hB
  have e1 : x.extract 0 (B.length + 0) = ⟨B.toArray⟩ := ba_ext (by rw [Lib.extract_data, h]; simp)
  have e2 : x.extract (B.length + sp.size) x.size = ⟨C.toArray⟩ := ba_ext (by
    rw [Lib.extract_to_end, h]
    show List.drop (B.length + 1) (B ++ 32 :: C) = C
    simp [List.drop_append])
  unfold pieces
  rw [Lib.countB_hit x sp B.length (by decide) hi, Nat.add_comm 1, Lib.splitB_hit sp 0 _ x B.length hi, e1, e2]
theorem split_l0 (x : ByteArray) (hx : x.size ≤ 1048576) : ∀ (C A B : List UInt8) (acc : List ByteArray) (k : Nat), x.data.toList = A ++ (B ++ C) → (32 : UInt8) ∉ B → acc.length ≤ A.length → C.length + 1 ≤ k →
    spec_l01Split.l0 k x 32 acc (A.length : Int) ((A.length + B.length : Nat) : Int) = some (acc ++ pieces ⟨(B ++ C).toArray⟩) := by
  intro C
  induction C with
  | nil =>
    intro A B acc k h hB ha hk
    obtain ⟨k, rfl⟩ := fuel (show 1 ≤ k by omega)
    have hs : x.size = A.length + B.length := by rw [Lib.size_eq, h]; simp
    simp only [spec_l01Split.l0]
    rw [if_neg (by omega), if_pos (by omega), if_pos (by omega), if_pos (by omega), pieces_none _ (by simpa using hB)]
    rw [Int.toNat_natCast, show x.extract A.length x.size = ⟨(B ++ []).toArray⟩ from ba_ext (by rw [Lib.extract_to_end, h]; simp)]
  | cons c C ih =>
    intro A B acc k h hB ha hk
    simp only [List.length_cons] at hk
    obtain ⟨k, rfl⟩ := fuel (show 1 ≤ k by omega)
    have hs : x.size = A.length + B.length + (C.length + 1) := by rw [Lib.size_eq, h]; simp; omega
    have hb : bt x ((A.length + B.length : Nat) : Int) = (c.toNat : Int) := by
      have := bt_list x (A ++ B) C c (by rw [h]; simp)
      rwa [List.length_append] at this
    simp only [spec_l01Split.l0]
    rw [if_pos (by omega), if_pos (by omega), hb, wi (by omega) (by omega)]
    by_cases hc : c = 32
    · subst hc
      rw [if_pos (by decide), if_pos (by omega), if_pos (by omega), if_pos (by omega), if_pos (by omega)]
      have := ih (A ++ (B ++ [32])) [] (acc ++ [x.extract ((A.length : Int)).toNat (((A.length + B.length : Nat) : Int)).toNat]) k (by rw [h]; simp) (by simp) (by simp; omega) (by omega)
      have e1 : (A ++ (B ++ [(32 : UInt8)])).length = A.length + B.length + 1 := by simp; omega
      have e2 : (A ++ (B ++ [(32 : UInt8)])).length + ([] : List UInt8).length = A.length + B.length + 1 := by simp; omega
      have e3 : ((A.length + B.length + 1 : Nat) : Int) = ((A.length + B.length : Nat) : Int) + 1 := by omega
      rw [e2, e1, e3] at this
      rw [this, pieces_at ⟨(B ++ 32 :: C).toArray⟩ B C (by simp) hB, Int.toNat_natCast, Int.toNat_natCast]
      rw [show x.extract A.length (A.length + B.length) = ⟨B.toArray⟩ from ba_ext (by rw [Lib.extract_data, h]; simp)]
      simp
    · rw [if_neg (by intro e; apply hc; apply UInt8.toNat_inj.mp; have : c.toNat = 32 := by omega
                     rw [this]; rfl)]
      have := ih A (B ++ [c]) acc k (by rw [h]; simp) (by simp only [List.mem_append, List.mem_singleton, not_or]; exact ⟨hB, fun e => hc e.symm⟩) ha (by omega)
      rw [show ((A.length + (B ++ [c]).length : Nat) : Int) = ((A.length + B.length : Nat) : Int) + 1 by simp; omega] at this
      rw [this]
      simp
theorem split_val (x : ByteArray) (hx : x.size ≤ 1048576) {k : Nat} (h : x.size + 1 ≤ k) : spec_l01Split.f k x 32 = some (pieces x) := by
  have := split_l0 x hx x.data.toList [] [] [] k (by simp) (by simp) (by simp) (by rw [← Lib.size_eq]; exact h)
  unfold spec_l01Split.f
  simpa using this
theorem split_lib (x : ByteArray) (hx : x.size ≤ 1048576) : strings_Split.f x (⟨#[32]⟩ : ByteArray) = some (pieces x) := by
  unfold strings_Split.f
  rw [if_pos ⟨by omega, by decide⟩]
  rfl
theorem pieces_len (x : ByteArray) : (pieces x).length ≤ x.size + 1 := by
  have h1 : 1 ≤ sp.size := by decide
  have hl : (pieces x).length = Lib.countB x sp + 1 := Lib.splitB_all sp h1 0 _ x rfl
  have := Lib.countB_le sp h1 _ x (Nat.le_refl _)
  omega
end Go.Proofs.YtodmfjophjhbeaaDoor.Pure
