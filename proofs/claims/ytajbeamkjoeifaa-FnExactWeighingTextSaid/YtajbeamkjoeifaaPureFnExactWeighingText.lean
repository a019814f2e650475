/- The program's WeighingText returns what the reference's returns. Conditions: none. -/
import Derived.Test.YtajbeamkjoeifaaMPureC
-- IMPORTS
import Derived.Test.YtajbeamkjoeifaaMx1
import Derived.Test.YtajbeamkjoeifaaMx3
import Derived.Test.YtajbeamkjoeifaaMx4
import Derived.Test.YtajbeamkjoeifaaMx7
import Derived.Test.YtajbeamkjoeifaaMx8
namespace Go.Proofs.Ytajbeamkjoeifaa.Pure
open Go.RowKit Go.Proofs.Ytajbeamkjoeifaa.M Go.Proofs.YtajbeamkjoeifaaW.PrintWords Go.Proofs.YtajbeamkjoeifaaW.PrintLast Go.Proofs.YtajbeamkjoeifaaW.PrintMore
set_option linter.unusedVariables false
set_option linter.unusedSimpArgs false

theorem wt_wrap8 {x : Int} (h0 : -128 ≤ x) (h1 : x ≤ 127) : IntKind.i8.wrap x = x := by
  simp only [IntKind.wrap, IntKind.bits, IntKind.signed]; simp; split <;> omega
theorem weigh_rng (a b : Int) (c d : Bool) (ha : wrap64 a = a) (w0 w1 w2 w3 w4 w5 w6 w7 w8 w9 w10 w11 w12 w13 : Int) : ∀ (n k : Nat) (s i : Int), 0 ≤ i → 14 - i ≤ n → n < k →
    spec_l03Weighing.l0 k s i a b c d w0 w1 w2 w3 w4 w5 w6 w7 w8 w9 w10 w11 w12 w13 = some true → ∀ j : Int, i ≤ j → j < 14 → -1 ≤ rd [w0, w1, w2, w3, w4, w5, w6, w7, w8, w9, w10, w11, w12, w13] j ∧ rd [w0, w1, w2, w3, w4, w5, w6, w7, w8, w9, w10, w11, w12, w13] j ≤ 1 := by
  intro n
  induction n with
  | zero => intro k s i h0 hn hk _ j hj hj2; omega
  | succ n ih =>
    intro k s i h0 hn hk h j hj hj2
    obtain ⟨k, rfl⟩ : ∃ m, k = m + 1 := ⟨k - 1, by omega⟩
    simp only [spec_l03Weighing.l0] at h
    rw [if_pos (by omega), if_pos h0, wi h0 (by omega), there_val a b i c d ha] at h
    simp only [Option.bind_some] at h
    have hn' := ih k (wrap64 (s + wrap64 (rd [w0, w1, w2, w3, w4, w5, w6, w7, w8, w9, w10, w11, w12, w13] i))) (i + 1) (by omega) (by omega) (by omega)
    revert h
    by_cases e1 : rd [w0, w1, w2, w3, w4, w5, w6, w7, w8, w9, w10, w11, w12, w13] i < -1
    · rw [if_pos e1]; simp
    · rw [if_neg e1]
      by_cases e2 : rd [w0, w1, w2, w3, w4, w5, w6, w7, w8, w9, w10, w11, w12, w13] i > 1
      · rw [if_pos e2]; simp
      · rw [if_neg e2]
        have here : j = i → -1 ≤ rd [w0, w1, w2, w3, w4, w5, w6, w7, w8, w9, w10, w11, w12, w13] j ∧ rd [w0, w1, w2, w3, w4, w5, w6, w7, w8, w9, w10, w11, w12, w13] j ≤ 1 := by rintro rfl; omega
        intro h
        by_cases hji : j = i
        · exact here hji
        · refine hn' ?_ j (by omega) hj2
          by_cases e3 : rd [w0, w1, w2, w3, w4, w5, w6, w7, w8, w9, w10, w11, w12, w13] i = 0
          · rw [if_pos e3] at h; exact h
          · rw [if_neg e3] at h
            by_cases e4 : decide (i < a ∨ (i = a ∧ d = true)) = true
            · rw [if_pos e4] at h; exact h
            · rw [if_neg e4] at h; simp at h
theorem rd_take (l : List Int) (n : Nat) {i : Int} (h0 : 0 ≤ i) (h1 : i < n) : rd (l.take n) i = rd l i := by
  unfold rd
  simp only [List.getD_eq_getElem?_getD]
  rw [List.getElem?_take, if_pos (by omega)]
theorem text_same (a b : Int) (c d : Bool) (ha : wrap64 a = a) (p : Int) (hp : p = if d = true then a + 1 else a) (hp0 : 0 ≤ p) (hp1 : p ≤ 14) (w0 w1 w2 w3 w4 w5 w6 w7 w8 w9 w10 w11 w12 w13 : Int)
    (hr : ∀ j : Int, 0 ≤ j → j < 14 → -1 ≤ rd [w0, w1, w2, w3, w4, w5, w6, w7, w8, w9, w10, w11, w12, w13] j ∧ rd [w0, w1, w2, w3, w4, w5, w6, w7, w8, w9, w10, w11, w12, w13] j ≤ 1) : ∀ (n k : Nat) (x : List Int) (i : Int), 0 ≤ i → i ≤ p → p - i ≤ n → n < k → x.length + n ≤ 1000 →
    ∃ r, spec_l03Text.l0 k x i a b c d w0 w1 w2 w3 w4 w5 w6 w7 w8 w9 w10 w11 w12 w13 = some r ∧ impl_signs.l0 k x ([w0, w1, w2, w3, w4, w5, w6, w7, w8, w9, w10, w11, w12, w13].take p.toNat) p i = some (r, true) := by
  have hend : ∀ (k : Nat) (x : List Int) (i : Int), 0 ≤ i → i = p → ∃ r, spec_l03Text.l0 (k + 1) x i a b c d w0 w1 w2 w3 w4 w5 w6 w7 w8 w9 w10 w11 w12 w13 = some r ∧ impl_signs.l0 (k + 1) x ([w0, w1, w2, w3, w4, w5, w6, w7, w8, w9, w10, w11, w12, w13].take p.toNat) p i = some (r, true) := by
    intro k x i h0 hi
    refine ⟨strOfNums x, ?_, ?_⟩
    · simp only [spec_l03Text.l0]
      rw [there_val a b i c d ha]
      simp only [Option.bind_some]
      have : ¬ decide (i < a ∨ (i = a ∧ d = true)) = true := by
        rw [decide_eq_true_eq]; subst hi; cases d <;> simp at hp <;> simp <;> omega
      rw [if_neg this]
      by_cases h14 : i < 14
      · rw [if_pos h14]
      · rw [if_neg h14]
    · simp only [impl_signs.l0]; rw [if_neg (by omega)]
  intro n
  induction n with
  | zero =>
    intro k x i h0 hi hn hk hx
    obtain ⟨k, rfl⟩ : ∃ m, k = m + 1 := ⟨k - 1, by omega⟩
    exact hend k x i h0 (by omega)
  | succ n ih =>
    intro k x i h0 hi hn hk hx
    obtain ⟨k, rfl⟩ : ∃ m, k = m + 1 := ⟨k - 1, by omega⟩
    by_cases hip : i = p
    · exact hend k x i h0 hip
    · have hx8 := hr i h0 (by omega)
      have hth : decide (i < a ∨ (i = a ∧ d = true)) = true := by
        rw [decide_eq_true_eq]; cases d <;> simp at hp <;> simp <;> omega
      have hlen : ([w0, w1, w2, w3, w4, w5, w6, w7, w8, w9, w10, w11, w12, w13].take p.toNat).length = p.toNat := by rw [List.length_take]; simp; omega
      obtain ⟨r, hs, hm⟩ := ih k (x ++ [bt (⟨#[45, 48, 43]⟩ : ByteArray) (IntKind.i8.wrap (rd [w0, w1, w2, w3, w4, w5, w6, w7, w8, w9, w10, w11, w12, w13] i + 1))]) (i + 1) (by omega) (by omega) (by omega) (by omega) (by simp; omega)
      refine ⟨r, ?_, ?_⟩
      · simp only [spec_l03Text.l0]
        rw [if_pos (by omega), there_val a b i c d ha]
        simp only [Option.bind_some]
        rw [if_pos hth, if_pos h0, wt_wrap8 (by omega) (by omega), if_pos (by omega), if_pos (by omega), if_pos (by omega), wi h0 (by omega)]
        rw [wt_wrap8 (by omega) (by omega)] at hs
        exact hs
      · simp only [impl_signs.l0]
        rw [if_pos (by omega), if_pos h0, if_pos (by rw [hlen]; omega), rd_take _ _ h0 (by omega), if_neg (by omega), if_neg (by omega), wt_wrap8 (by omega) (by omega), if_pos (by omega), if_pos (by omega), if_pos (by omega), wi h0 (by omega)]
        rw [wt_wrap8 (by omega) (by omega)] at hm
        exact hm
theorem FnExactWeighingText (x0_0 : Int) (x0_1 : Int) (x0_2 : Bool) (x0_3 : Bool) (x1_0 : Int) (x1_1 : Int) (x1_2 : Int) (x1_3 : Int) (x1_4 : Int) (x1_5 : Int) (x1_6 : Int) (x1_7 : Int) (x1_8 : Int) (x1_9 : Int) (x1_10 : Int) (x1_11 : Int) (x1_12 : Int) (x1_13 : Int) (w0_0 : (fun x : Int => (Lit.int .i8 x).wf = true) x0_0) (w0_1 : (fun x : Int => (Lit.int .i8 x).wf = true) x0_1) (w1_0 : (fun x : Int => (Lit.int .i8 x).wf = true) x1_0) (w1_1 : (fun x : Int => (Lit.int .i8 x).wf = true) x1_1) (w1_2 : (fun x : Int => (Lit.int .i8 x).wf = true) x1_2) (w1_3 : (fun x : Int => (Lit.int .i8 x).wf = true) x1_3) (w1_4 : (fun x : Int => (Lit.int .i8 x).wf = true) x1_4) (w1_5 : (fun x : Int => (Lit.int .i8 x).wf = true) x1_5) (w1_6 : (fun x : Int => (Lit.int .i8 x).wf = true) x1_6) (w1_7 : (fun x : Int => (Lit.int .i8 x).wf = true) x1_7) (w1_8 : (fun x : Int => (Lit.int .i8 x).wf = true) x1_8) (w1_9 : (fun x : Int => (Lit.int .i8 x).wf = true) x1_9) (w1_10 : (fun x : Int => (Lit.int .i8 x).wf = true) x1_10) (w1_11 : (fun x : Int => (Lit.int .i8 x).wf = true) x1_11) (w1_12 : (fun x : Int => (Lit.int .i8 x).wf = true) x1_12) (w1_13 : (fun x : Int => (Lit.int .i8 x).wf = true) x1_13) : ∃ k, laws_FnExactWeighingText.f k x0_0 x0_1 x0_2 x0_3 x1_0 x1_1 x1_2 x1_3 x1_4 x1_5 x1_6 x1_7 x1_8 x1_9 x1_10 x1_11 x1_12 x1_13 = some true := by
  refine ⟨20, ?_⟩
  obtain ⟨r, hs, hi, hv⟩ := validW_same (k := 20) (by omega) x0_0 x0_1 x0_2 x0_3 w0_0 w0_1 x1_0 x1_1 x1_2 x1_3 x1_4 x1_5 x1_6 x1_7 x1_8 x1_9 x1_10 x1_11 x1_12 x1_13
  unfold laws_FnExactWeighingText.f laws_toTask.f
  simp only [toW_val (show 15 ≤ 20 by omega), Option.bind_some]
  unfold spec_WeighingText.f impl_WeighingText.f
  rw [hs, hi]
  simp only [Option.bind_some]
  cases r with
  | false => simp
  | true =>
    have hv := hv rfl
    have ha := wn8 w0_0
    have hrng : ∀ j : Int, 0 ≤ j → j < 14 → _ := weigh_rng x0_0 x0_1 x0_2 x0_3 ha x1_0 x1_1 x1_2 x1_3 x1_4 x1_5 x1_6 x1_7 x1_8 x1_9 x1_10 x1_11 x1_12 x1_13 14 20 0 0 (by omega) (by omega) (by omega) (by
      unfold spec_ValidWeighing.f at hs
      rw [task_spec x0_0 x0_1 x0_2 x0_3 (wn8 w0_0) (wn8 w0_1)] at hs
      simp only [Option.bind_some] at hs
      rw [if_pos (by simpa using hv)] at hs
      simpa [spec_l03Weighing.f, Option.bind_some] using hs)
    rw [if_pos rfl, if_pos rfl, places_val x0_0 x0_1 x0_2 x0_3 ha (by omega) (by omega)]
    simp only [Option.bind_some]
    have hp0 : 0 ≤ (if x0_3 = true then x0_0 + 1 else x0_0) := by split <;> omega
    have hp1 : (if x0_3 = true then x0_0 + 1 else x0_0) ≤ 14 := by split <;> omega
    generalize hpe : (if x0_3 = true then x0_0 + 1 else x0_0) = p at hp0 hp1
    obtain ⟨t, ht, hm⟩ := text_same x0_0 x0_1 x0_2 x0_3 ha p hpe.symm hp0 hp1 x1_0 x1_1 x1_2 x1_3 x1_4 x1_5 x1_6 x1_7 x1_8 x1_9 x1_10 x1_11 x1_12 x1_13 hrng 14 20 [] 0 (by omega) (by omega) (by omega) (by omega) (by simp)
    rw [if_pos hp0, if_pos hp1]
    unfold spec_l03Text.f impl_signs.f
    have hlen : ((([x1_0, x1_1, x1_2, x1_3, x1_4, x1_5, x1_6, x1_7, x1_8, x1_9, x1_10, x1_11, x1_12, x1_13].take p.toNat).length : Nat) : Int) = p := by rw [List.length_take]; simp; omega
    rw [ht, hlen, hm]
    simp

end Go.Proofs.Ytajbeamkjoeifaa.Pure
