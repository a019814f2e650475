/- The program's StepOfJugs returns what the reference's returns. Conditions: none. -/
import Derived.Test.YtodmfjophjhbeaaMPureB
-- IMPORTS
import Derived.Test.YtodmfjophjhbeaaMx19
import Derived.Test.YtodmfjophjhbeaaMx20
import Derived.Test.YtodmfjophjhbeaaMx21
namespace Go.Proofs.Ytodmfjophjhbeaa.Pure
open Go.RowKit Go.Proofs.Ytodmfjophjhbeaa.M Go.Proofs.YtodmfjophjhbeaaW.PrintWords Go.Proofs.YtodmfjophjhbeaaW.PrintLast Go.Proofs.YtodmfjophjhbeaaW.PrintMore
set_option linter.unusedVariables false
set_option linter.unusedSimpArgs false

theorem gcd_same : ∀ (n k : Nat) (a b : Int), b.natAbs ≤ n → n < k → ∃ r, spec_l01Gcd.f k a b = some r ∧ impl_divisor.l0 k a b = some r := by
  intro n
  induction n with
  | zero =>
    intro k a b hb hk
    obtain ⟨k, rfl⟩ := fuel (show 1 ≤ k by omega)
    refine ⟨a, ?_, ?_⟩
    · rw [spec_l01Gcd.f, if_pos (by omega)]
    · rw [impl_divisor.l0, if_pos (by omega)]
  | succ n ih =>
    intro k a b hb hk
    obtain ⟨k, rfl⟩ := fuel (show 1 ≤ k by omega)
    by_cases h : b = 0
    · refine ⟨a, ?_, ?_⟩
      · rw [spec_l01Gcd.f, if_pos h]
      · rw [impl_divisor.l0, if_pos h]
    · have hm : (Int.tmod a b).natAbs ≤ n := by
        have h1 := Int.natAbs_tmod a b
        have h2 := Nat.mod_lt a.natAbs (show 0 < b.natAbs by omega)
        omega
      obtain ⟨r, hs, hi⟩ := ih k b (Int.tmod a b) hm (by omega)
      refine ⟨r, ?_, ?_⟩
      · rw [spec_l01Gcd.f, if_neg h, hs]; rfl
      · rw [impl_divisor.l0, if_neg h, hi]
theorem ws16 {a : Int} (h : (Lit.int .i16 a).wf = true) : (wrap64 a).natAbs ≤ 40000 := by
  have := wf16 h
  unfold wrap64; omega
theorem steps_same (l : List Int) (hw : ∀ x ∈ l, (Lit.int .i16 x).wf = true) (hl : l.length ≤ 4) (a b c d : Int) (z : Bool) (ha : (Lit.int .i16 a).wf = true) (hb : (Lit.int .i16 b).wf = true) (hc : (Lit.int .i16 c).wf = true) (hd : (Lit.int .i16 d).wf = true) :
    ∀ (n k : Nat) (g i : Int), 0 ≤ i → (l.length : Int) - i ≤ n → n + 50000 < k → ∃ r, spec_StepOfJugs.l0 k g i l a b c d z = some r ∧ impl_StepOfJugs.l0 k g l (l.length : Int) i l a b c d z = some r := by
  intro n
  induction n with
  | zero =>
    intro k g i h0 hn hk
    obtain ⟨k, rfl⟩ := fuel (show 1 ≤ k by omega)
    refine ⟨(g, 0), ?_, ?_⟩
    · simp only [spec_StepOfJugs.l0]; rw [if_neg (by omega)]
    · simp only [impl_StepOfJugs.l0]; rw [if_neg (by omega)]
  | succ n ih =>
    intro k g i h0 hn hk
    obtain ⟨k, rfl⟩ := fuel (show 1 ≤ k by omega)
    by_cases hi : i < (l.length : Int)
    · have hx : (wrap64 (rd l i)).natAbs ≤ 40000 := by
        refine ws16 (hw _ ?_)
        unfold rd
        have : i.toNat < l.length := by omega
        rw [List.getD_eq_getElem?_getD, List.getElem?_eq_getElem this]
        exact List.getElem_mem this
      have hy : (wrap64 (rd [a, b, c, d] i)).natAbs ≤ 40000 := by
        have : i = 0 ∨ i = 1 ∨ i = 2 ∨ i = 3 := by omega
        rcases this with rfl | rfl | rfl | rfl
        · exact ws16 ha
        · exact ws16 hb
        · exact ws16 hc
        · exact ws16 hd
      obtain ⟨g1, hs1, hi1⟩ := gcd_same 40000 k g _ hx (by omega)
      obtain ⟨g2, hs2, hi2⟩ := gcd_same 40000 k g1 _ hy (by omega)
      obtain ⟨r, hs, hm⟩ := ih k g2 (i + 1) (by omega) (by omega) (by omega)
      refine ⟨r, ?_, ?_⟩
      · simp only [spec_StepOfJugs.l0]
        rw [if_pos hi, if_pos h0, hs1]
        simp only [Option.bind_some]
        rw [if_pos (by omega), hs2]
        simp only [Option.bind_some]
        rw [wi h0 (by omega)]
        exact hs
      · simp only [impl_StepOfJugs.l0, impl_divisor.f]
        rw [if_pos hi, if_pos h0, if_pos hi, hi1]
        simp only [Option.bind_some]
        rw [if_pos (by omega), hi2]
        simp only [Option.bind_some]
        rw [wi h0 (by omega)]
        exact hm
    · refine ⟨(g, 0), ?_, ?_⟩
      · simp only [spec_StepOfJugs.l0]; rw [if_neg (by omega)]
      · simp only [impl_StepOfJugs.l0]; rw [if_neg (by omega)]
theorem FnExactStepOfJugs (x0_0 : (List Int)) (x0_1 : Int) (x0_2 : Int) (x0_3 : Int) (x0_4 : Int) (x0_5 : Bool) (w0_0 : (fun xs : List Int => xs.length ≤ maxLen ∧ ∀ x ∈ xs, (fun x : Int => (Lit.int .i16 x).wf = true) x) x0_0) (w0_1 : (fun x : Int => (Lit.int .i16 x).wf = true) x0_1) (w0_2 : (fun x : Int => (Lit.int .i16 x).wf = true) x0_2) (w0_3 : (fun x : Int => (Lit.int .i16 x).wf = true) x0_3) (w0_4 : (fun x : Int => (Lit.int .i16 x).wf = true) x0_4) : ∃ k, laws_FnExactStepOfJugs.f k x0_0 x0_1 x0_2 x0_3 x0_4 x0_5 = some true := by
  refine ⟨x0_0.length + 60000, ?_⟩
  have hk : ∃ k, k = x0_0.length + 60000 := ⟨_, rfl⟩
  obtain ⟨k, hk⟩ := hk
  rw [← hk]
  unfold laws_FnExactStepOfJugs.f
  rw [szPuzzle_val x0_0 x0_1 x0_2 x0_3 x0_4 x0_5 w0_0.1 1048576 (by omega) (by omega)]
  simp only [Option.bind_some]
  by_cases e0 : (1048576 : Int) - (x0_0.length : Int) < 0
  · rw [if_pos e0]; rfl
  · rw [if_neg e0, if_neg e0, toPuzzle_val x0_0 x0_1 x0_2 x0_3 x0_4 x0_5 (by omega) (by omega)]
    obtain ⟨r, hs, hi, hr⟩ := valid_val (k := k) x0_0 x0_1 x0_2 x0_3 x0_4 x0_5 (by omega) (by omega)
    have h1 : ∃ t, spec_StepOfJugs.f k x0_0 x0_1 x0_2 x0_3 x0_4 x0_5 = some t ∧ impl_StepOfJugs.f k x0_0 x0_1 x0_2 x0_3 x0_4 x0_5 = some t := by
      unfold spec_StepOfJugs.f impl_StepOfJugs.f
      rw [hs, hi]
      simp only [Option.bind_some]
      cases r
      · exact ⟨(0, 1), rfl, rfl⟩
      · obtain ⟨h4, _⟩ := hr rfl
        exact steps_same x0_0 w0_0.2 (by omega) x0_1 x0_2 x0_3 x0_4 x0_5 w0_1 w0_2 w0_3 w0_4 4 k 0 0 (by omega) (by omega) (by omega)
    obtain ⟨t, h2, h3⟩ := h1
    obtain ⟨k, rfl⟩ : ∃ m, k = m + 1 := ⟨k - 1, by omega⟩
    simp only [Option.bind_some]
    rw [h2, h3]
    simp only [Option.bind_some, laws_FnExactStepOfJugs.j0]
    rw [if_pos trivial, toPuzzle_val x0_0 x0_1 x0_2 x0_3 x0_4 x0_5 (by omega) (by omega)]
    simp only [Option.bind_some]
    rw [eqPuzzle_self x0_0 x0_1 x0_2 x0_3 x0_4 x0_5 (by omega) (by omega)]
    simp

end Go.Proofs.Ytodmfjophjhbeaa.Pure
