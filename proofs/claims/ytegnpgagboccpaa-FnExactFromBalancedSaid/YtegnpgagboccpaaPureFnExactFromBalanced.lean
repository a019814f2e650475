/- The program's FromBalanced returns what the reference's returns, and leaves its argument as it was. Conditions: none. -/
-- IMPORTS
import Derived.Test.YtegnpgagboccpaaMx1
import Derived.Test.YtegnpgagboccpaaMx2
import Derived.Test.YtegnpgagboccpaaMx3
import Derived.Test.YtegnpgagboccpaaHBack
import Derived.Test.YtegnpgagboccpaaBx2
import Derived.Test.YtegnpgagboccpaaBx3
namespace Go.Proofs.Ytegnpgagboccpaa.Pure
open Go.RowKit Go.Proofs.Ytegnpgagboccpaa.M Go.Proofs.YtegnpgagboccpaaW.PrintWords Go.Proofs.YtegnpgagboccpaaW.PrintLast Go.Proofs.YtegnpgagboccpaaW.PrintMore
set_option linter.unusedVariables false
set_option linter.unusedSimpArgs false

theorem wi {i : Int} (h0 : 0 ≤ i) (h1 : i ≤ 2000000000) : wrap64 (i + 1) = i + 1 := by unfold wrap64; omega
theorem fuel {k n : Nat} (h : n ≤ k) : ∃ m, k = m + n := ⟨k - n, by omega⟩
theorem rd_one (xs : List Int) (n : Nat) (h : n < xs.length) : rd xs (n : Int) = xs[n] := by
  unfold rd; simp [List.getD, h]
theorem copy_does (xs : List Int) (hl : xs.length ≤ 1048576) : ∀ (d k : Nat) (i : Int) (ys : List Int), 0 ≤ i → i ≤ xs.length → (xs.length : Int) - i ≤ d → d < k → ys.length = xs.length → (∀ j, 0 ≤ j → j < i → rd ys j = rd xs j) →
    laws_toInt8S.l0 k xs ys i = some xs := by
  have fin : ∀ ys : List Int, ys.length = xs.length → (∀ j, 0 ≤ j → j < (xs.length : Int) → rd ys j = rd xs j) → ys = xs := by
    intro ys hy hh
    apply List.ext_getElem hy
    intro n h1 h2
    have := hh n (by omega) (by omega)
    rwa [rd_one _ _ h1, rd_one _ _ h2] at this
  intro d
  induction d with
  | zero =>
    intro k i ys h0 hi h1 h2 hy hh
    obtain ⟨k, rfl⟩ : ∃ m, k = m + 1 := ⟨k - 1, by omega⟩
    simp only [laws_toInt8S.l0]; rw [if_neg (by omega), fin ys hy (fun j hj hjl => hh j hj (by omega))]
  | succ d ih =>
    intro k i ys h0 hi h1 h2 hy hh
    obtain ⟨k, rfl⟩ : ∃ m, k = m + 1 := ⟨k - 1, by omega⟩
    by_cases h : i < (xs.length : Int)
    · simp only [laws_toInt8S.l0]
      rw [if_pos h, if_pos h0, if_pos (by omega), show wrap64 (i + 1) = i + 1 by unfold wrap64; omega]
      refine ih k (i + 1) _ (by omega) (by omega) (by omega) (by omega) (by simp [hy]) (fun j hj hj2 => ?_)
      unfold rd
      by_cases e : j = i
      · subst e; simp [List.getD, show j.toNat < ys.length by omega]
      · have := hh j hj (by omega)
        unfold rd at this
        rw [← this]
        simp [List.getD, show i.toNat ≠ j.toNat by omega]
    · simp only [laws_toInt8S.l0]; rw [if_neg (by omega), fin ys hy (fun j hj hjl => hh j hj (by omega))]

theorem eqp_self (xs : List Int) (hl : xs.length ≤ 1048576) : ∀ (d k : Nat) (i : Int), 0 ≤ i → (xs.length : Int) - i ≤ d → d < k → laws_eqInt8S.l0 k xs xs i = some true := by
  intro d
  induction d with
  | zero =>
    intro k i h0 h1 h2
    obtain ⟨k, rfl⟩ : ∃ m, k = m + 1 := ⟨k - 1, by omega⟩
    simp only [laws_eqInt8S.l0]; rw [if_neg (by omega)]
  | succ d ih =>
    intro k i h0 h1 h2
    obtain ⟨k, rfl⟩ : ∃ m, k = m + 1 := ⟨k - 1, by omega⟩
    simp only [laws_eqInt8S.l0]
    by_cases h : i < (xs.length : Int)
    · simp only [if_true]; rw [if_pos h, if_pos h0, if_pos h, show wrap64 (i + 1) = i + 1 by unfold wrap64; omega]
      exact ih k _ (by omega) (by omega) (by omega)
    · rw [if_neg h]


theorem signs_same (xs : List Int) (hl : xs.length ≤ 1048576) : ∀ (d k : Nat) (i : Int), 0 ≤ i → (xs.length : Int) - i ≤ d → d < k →
    ∃ b r, spec_l01Placed.l0 k xs i = some b ∧ B.slices_IndexFunc_int8_int8_31_at_25.l0 k xs xs.length i = some r ∧ decide (r ≥ 0) = !b := by
  intro d
  induction d with
  | zero =>
    intro k i h0 h1 h2
    obtain ⟨k, rfl⟩ := fuel (show 1 ≤ k by omega)
    refine ⟨true, -1, ?_, ?_, by simp⟩
    · simp only [spec_l01Placed.l0]; rw [if_neg (by omega)]
    · simp only [B.slices_IndexFunc_int8_int8_31_at_25.l0]; rw [if_neg (by omega)]
  | succ d ih =>
    intro k i h0 h1 h2
    obtain ⟨k, rfl⟩ := fuel (show 1 ≤ k by omega)
    by_cases h : i < (xs.length : Int)
    · simp only [spec_l01Placed.l0, B.slices_IndexFunc_int8_int8_31_at_25.l0, B.impl_FromBalanced_1_25.f]
      rw [if_pos h, if_pos h0, if_pos h, if_pos h0, if_pos h, wi h0 (by omega)]
      by_cases h3 : rd xs i < -1
      · rw [if_pos h3, if_pos h3]
        exact ⟨false, i, rfl, by simp, by simp; omega⟩
      · rw [if_neg h3, if_neg h3]
        by_cases h4 : rd xs i > 1
        · rw [if_pos h4, decide_eq_true h4]
          exact ⟨false, i, rfl, by simp, by simp; omega⟩
        · rw [if_neg h4, decide_eq_false h4]
          obtain ⟨b, r, e1, e2, e3⟩ := ih k (i + 1) (by omega) (by omega) (by omega)
          exact ⟨b, r, e1, by simpa using e2, e3⟩
    · refine ⟨true, -1, ?_, ?_, by simp⟩
      · simp only [spec_l01Placed.l0]; rw [if_neg h]
      · simp only [B.slices_IndexFunc_int8_int8_31_at_25.l0]; rw [if_neg h]
theorem sum_same (xs : List Int) (hl : xs.length ≤ 30) : ∀ (d k j : Nat), j + d = xs.length → d + 1 ≤ k →
    spec_FromBalanced.l0 k xs ((upto (bk8 xs) j).foldl stepB 0) ((xs.length : Int) - 1 - j) = some ((upto (bk8 xs) xs.length).foldl stepB 0, 0) := by
  intro d
  induction d with
  | zero =>
    intro k j hj hk
    obtain ⟨k, rfl⟩ := fuel (show 1 ≤ k by omega)
    simp only [spec_FromBalanced.l0]
    rw [if_neg (by omega), show j = xs.length by omega]
  | succ d ih =>
    intro k j hj hk
    obtain ⟨k, rfl⟩ := fuel (show 1 ≤ k by omega)
    have := ih k (j + 1) (by omega) (by omega)
    rw [upto_succ, List.foldl_append] at this
    simp only [spec_FromBalanced.l0]
    rw [if_pos (by omega), if_pos (by omega), if_pos (by omega), show wrap64 ((xs.length : Int) - 1 - j - 1) = (xs.length : Int) - 1 - ((j + 1 : Nat) : Int) by unfold wrap64; omega]
    rw [← this]
    have e : (bk8 xs j).2 = rd xs ((xs.length : Int) - 1 - j) := by
      unfold bk8 rd
      rw [List.getD_eq_getElem?_getD, show ((xs.length : Int) - 1 - j).toNat = xs.length - 1 - j by omega]
    simp only [List.foldl_cons, List.foldl_nil, stepB, e]
theorem from_same {k : Nat} (xs : List Int) (hl : xs.length ≤ 1048576) (hk : xs.length + 5 ≤ k) : ∃ r, spec_FromBalanced.f k xs = some r ∧ impl_FromBalanced.f k xs = some r := by
  obtain ⟨b, r, e1, e2, e3⟩ := signs_same xs hl xs.length k 0 (by omega) (by omega) (by omega)
  unfold spec_FromBalanced.f impl_FromBalanced.f spec_l01Placed.f B.slices_ContainsFunc_int8_int8_24_at_25.f B.slices_IndexFunc_int8_int8_31_at_25.f
  rw [e1, e2]
  simp only [Option.bind_some]
  rw [e3]
  cases b with
  | false => exact ⟨(0, 2), by simp, by simp⟩
  | true =>
    by_cases h30 : (xs.length : Int) > 30
    · exact ⟨_, by rw [if_pos rfl, if_pos h30], by rw [if_neg (by simp), if_pos h30]⟩
    · have := sum_same xs (by omega) xs.length k 0 (by omega) (by omega)
      rw [show (xs.length : Int) - 1 - ((0 : Nat) : Int) = (xs.length : Int) - 1 by omega] at this
      refine ⟨_, ?_, by rw [if_neg (by simp), if_neg h30]⟩
      rw [if_pos rfl, if_neg h30, show wrap64 ((xs.length : Int) - 1) = (xs.length : Int) - 1 by unfold wrap64; omega]
      exact this
theorem FnExactFromBalanced (x0_0 : (List Int)) (w0_0 : (fun xs : List Int => xs.length ≤ maxLen ∧ ∀ x ∈ xs, (fun x : Int => (Lit.int .i8 x).wf = true) x) x0_0) : ∃ k, laws_FnExactFromBalanced.f k x0_0 = some true := by
  obtain ⟨K, hK⟩ : ∃ K : Nat, 1048590 < K := ⟨1048591, Nat.lt_succ_self _⟩
  refine ⟨K + 1, ?_⟩
  unfold laws_FnExactFromBalanced.f
  by_cases hl : (x0_0.length : Int) > 1048576
  · rw [if_pos hl]
  · rw [if_neg hl]
    have hl' : x0_0.length ≤ 1048576 := by omega
    have hcopy : ∀ q, 1048590 < q → laws_toInt8S.f q x0_0 = some x0_0 := by
      intro q hq
      unfold laws_toInt8S.f
      rw [if_pos (by omega), if_pos (by omega)]
      exact copy_does x0_0 hl' 1048576 q 0 _ (by omega) (by omega) (by omega) (by omega) (by simp) (fun j hj hj2 => by omega)
    have heq : ∀ q, 1048590 < q → laws_eqInt8S.f q x0_0 x0_0 = some true := by
      intro q hq
      unfold laws_eqInt8S.f
      rw [if_pos rfl]; exact eqp_self x0_0 hl' 1048576 q 0 (by omega) (by omega) (by omega)
    obtain ⟨r, r1, r2⟩ := from_same (k := K + 1) x0_0 hl' (by omega)
    rw [hcopy _ (by omega)]
    simp only [Option.bind_some]
    rw [r1, r2]
    simp only [Option.bind_some, if_true, laws_FnExactFromBalanced.j0]
    rw [if_neg (by simp), hcopy _ hK]
    simp only [Option.bind_some]
    rw [heq _ hK]
    simp

end Go.Proofs.Ytegnpgagboccpaa.Pure
