/- The program's Decode returns what the reference's returns. Conditions: none. -/
import Derived.Test.YtkllpdekkhhhnaaMPureS
-- IMPORTS
import Derived.Test.YtkllpdekkhhhnaaMx0
import Derived.Test.YtkllpdekkhhhnaaMx20
import Derived.Test.YtkllpdekkhhhnaaMx25
import Derived.Test.YtkllpdekkhhhnaaMx26
import Derived.Test.YtkllpdekkhhhnaaMx27
import Derived.Test.YtkllpdekkhhhnaaMx28
import Derived.Test.YtkllpdekkhhhnaaMx29
import Derived.Test.YtkllpdekkhhhnaaMx30
namespace Go.Proofs.Ytkllpdekkhhhnaa.Pure
open Go.RowKit Go.Proofs.Ytkllpdekkhhhnaa.M Go.Proofs.YtkllpdekkhhhnaaW.PrintWords Go.Proofs.YtkllpdekkhhhnaaW.PrintLast Go.Proofs.YtkllpdekkhhhnaaW.PrintMore
set_option linter.unusedVariables false
set_option linter.unusedSimpArgs false

theorem cases_lt (q : Int) (n : Nat) (hn : 0 < n) : ∀ x ∈ casesL q n, x.f0 < n := by
  intro x hx
  rw [mem_cases] at hx
  rcases hx with rfl | ⟨i, hi, h⟩
  · show (-1 : Int) < n; omega
  · unfold one at h
    by_cases h1 : q = 1 <;> by_cases h2 : q = 0 <;> simp [h1, h2] at h
    · omega
    · rw [h]; show (i : Int) < n; omega
    · rw [h]; show (i : Int) < n; omega
    · rcases h with h | h <;> rw [h] <;> show (i : Int) < n <;> omega
theorem rd_at (l : List S37) {i : Nat} (h : i < l.length) : rd_T37 l (i : Int) = l[i] := by
  unfold rd_T37; simp [List.getD, h]
theorem dec_l0 (p q : Int) (l : List S30) (s0 s1 s2 s3 : Int) (cs : List S37) (hcs : ∀ x ∈ cs, x.f0 < l.length) (hn : cs.length ≤ 1000) :
    ∀ (d i k : Nat), i + d = cs.length → d + 8 ≤ k → ∃ r : Int, impl_Case_61_at_62.l0 k cs (cs.length : Int) (i : Int) p q l s0 s1 s2 s3 = some r ∧ (r = -1 ∨ (0 ≤ r ∧ r < cs.length)) ∧
      spec_l04Decode.l0 k cs (i : Int) p q l s0 s1 s2 s3 = some (if r < 0 then (0, false, false) else ((rd_T37 cs r).f0, (rd_T37 cs r).f1, true)) := by
  intro d
  induction d with
  | zero =>
    intro i k h hk
    obtain ⟨k, rfl⟩ := fuel (show 1 ≤ k by omega)
    refine ⟨-1, ?_, Or.inl rfl, ?_⟩
    · simp only [impl_Case_61_at_62.l0]; rw [if_neg (by omega)]
    · simp only [spec_l04Decode.l0]; rw [if_neg (by omega)]; rfl
  | succ d ih =>
    intro i k h hk
    obtain ⟨k, rfl⟩ := fuel (show 1 ≤ k by omega)
    have hi : i < cs.length := by omega
    have hb := hcs _ (List.getElem_mem hi)
    obtain ⟨r, h1, h2, h3⟩ := ih (i + 1) k (by omega) (by omega)
    simp only [impl_Case_61_at_62.l0, spec_l04Decode.l0, impl_Fixed_decode_1_62.f]
    rw [if_pos (show (i : Int) < (cs.length : Int) by omega), if_pos (show (i : Int) < (cs.length : Int) by omega), if_pos (show (0 : Int) ≤ (i : Int) by omega), if_pos (show (0 : Int) ≤ (i : Int) by omega), if_pos (show (i : Int) < (cs.length : Int) by omega), rd_at cs hi, seen_spec (by omega) p q l _ _ hb, seen_impl (by omega) p q l _ _ hb]
    simp only [Option.bind_some]
    rw [wi (i := (i : Int)) (by omega) (by omega), show (i : Int) + 1 = ((i + 1 : Nat) : Int) by omega]
    by_cases hs : ((seenL l cs[i].f0 cs[i].f1).1 == s0 && ((seenL l cs[i].f0 cs[i].f1).2.1 == s1 && ((seenL l cs[i].f0 cs[i].f1).2.2.1 == s2 && ((seenL l cs[i].f0 cs[i].f1).2.2.2 == s3)))) = true
    · rw [if_pos hs, if_pos hs]
      refine ⟨(i : Int), rfl, Or.inr ⟨by omega, by omega⟩, ?_⟩
      rw [if_neg (by omega), rd_at cs hi]
    · rw [if_neg hs, if_neg hs]
      exact ⟨r, h1, h2, h3⟩
theorem dec_same {k : Nat} (p q : Int) (l : List S30) (s0 s1 s2 s3 : Int) (hl : 1 ≤ l.length ∧ l.length ≤ 80) (hk : 1000 ≤ k) : ∃ t, spec_l04Decode.f k p q l s0 s1 s2 s3 = some t ∧ impl_Fixed_decode.f k p q l s0 s1 s2 s3 = some t := by
  have hc := casesL_len q l.length
  obtain ⟨r, h1, h2, h3⟩ := dec_l0 p q l s0 s1 s2 s3 (casesL q l.length) (cases_lt q l.length (by omega)) (by omega) (casesL q l.length).length 0 k (by omega) (by omega)
  unfold spec_l04Decode.f impl_Fixed_decode.f impl_Case_61_at_62.f
  rw [cases_spec p q l hl.2 (by omega), cases_impl p q l hl.2 (by omega)]
  simp only [Option.bind_some]
  rw [show ((0 : Nat) : Int) = 0 from rfl] at h1 h3
  rw [h1, h3]
  simp only [Option.bind_some]
  refine ⟨_, rfl, ?_⟩
  by_cases hr : r < 0
  · rw [if_pos hr, if_pos hr]
  · have h4 : 0 ≤ r ∧ r < (casesL q l.length).length := by omega
    rw [if_neg hr, if_neg hr, if_pos h4.1, if_pos h4.2]

theorem eqCase_self (a : Int) (b : Bool) : laws_eqCase.f a b a b = some true := by
  unfold laws_eqCase.f; simp

theorem FnExactDecode (x0_0 : Int) (x0_1 : Int) (x0_2 : (List S29)) (x1_0 : Int) (x1_1 : Int) (x1_2 : Int) (x1_3 : Int) (w0_0 : (fun x : Int => (Lit.int .i8 x).wf = true) x0_0) (w0_1 : (fun x : Int => (Lit.int .i8 x).wf = true) x0_1) (w0_2 : (fun xs : List S29 => xs.length ≤ maxLen ∧ ∀ x ∈ xs, (fun x : S29 => (fun x : Int => (Lit.int .i8 x).wf = true) x.f0 ∧ (fun x : Int => (Lit.int .i8 x).wf = true) x.f1 ∧ (fun x : Int => (Lit.int .i8 x).wf = true) x.f2 ∧ (fun x : Int => (Lit.int .i8 x).wf = true) x.f3) x) x0_2) (w1_0 : (fun x : Int => (Lit.int .i8 x).wf = true) x1_0) (w1_1 : (fun x : Int => (Lit.int .i8 x).wf = true) x1_1) (w1_2 : (fun x : Int => (Lit.int .i8 x).wf = true) x1_2) (w1_3 : (fun x : Int => (Lit.int .i8 x).wf = true) x1_3) : ∃ k, laws_FnExactDecode.f k x0_0 x0_1 x0_2 x1_0 x1_1 x1_2 x1_3 = some true := by
  refine ⟨x0_2.length + 100010, ?_⟩
  have hk : ∃ k, k = x0_2.length + 100010 := ⟨_, rfl⟩
  obtain ⟨k, hk⟩ := hk
  rw [← hk]
  unfold laws_FnExactDecode.f
  rw [szFixed_val x0_0 x0_1 x0_2 w0_2.1 1048576 (by omega) (by omega)]
  simp only [Option.bind_some]
  by_cases e0 : (1048576 : Int) - (x0_2.length : Int) < 0
  · rw [if_pos e0]; rfl
  · rw [if_neg e0, if_neg e0, toFixed_val x0_0 x0_1 x0_2 (by omega) (by omega)]
    simp only [Option.bind_some]
    rw [toWord_val (by omega)]
    simp only [Option.bind_some]
    have hvs := valid_spec (k := k) x0_0 x0_1 (x0_2.map cv) (wn8 w0_0) (wn8 w0_1) (by simp; omega) (by simp; omega)
    have hvi := valid_impl (k := k) x0_0 x0_1 (x0_2.map cv) (wn8 w0_0) (wn8 w0_1) (by simp; omega) (by simp; omega)
    have hws := word_spec (k := k) (by omega) x0_0 x1_0 x1_1 x1_2 x1_3
    have hwi := word_impl (k := k) (by omega) x0_0 x1_0 x1_1 x1_2 x1_3
    have h1 : ∃ t, spec_Decode.f k x0_0 x0_1 (x0_2.map cv) x1_0 x1_1 x1_2 x1_3 = some t ∧ impl_Decode.f k x0_0 x0_1 (x0_2.map cv) x1_0 x1_1 x1_2 x1_3 = some t := by
      unfold spec_Decode.f impl_Decode.f
      rw [hvs, hvi, wn8 w0_0, hws, hwi]
      obtain ⟨k, rfl⟩ : ∃ m, k = m + 1 := ⟨k - 1, by omega⟩
      simp only [Option.bind_some, spec_Decode.j0, impl_Decode.j0]
      cases hf : okF x0_0 x0_1 (x0_2.map cv)
      · exact ⟨(0, false, 1), rfl, rfl⟩
      · simp only [okF, Bool.and_eq_true, decide_eq_true_eq] at hf
        obtain ⟨_, _, h3, _⟩ := hf
        obtain ⟨t, g1, g2⟩ := dec_same (k := k) x0_0 x0_1 (x0_2.map cv) x1_0 x1_1 x1_2 x1_3 (by omega) (by omega)
        rw [g1, g2]
        simp only [Option.bind_some, if_true]
        refine ⟨if (!(okW x0_0 x1_0 x1_1 x1_2 x1_3 && decide (1 ≤ x0_0 ∧ x0_0 ≤ 4))) = true then (0, false, 1) else if t.2.2 = true then (t.1, t.2.1, 0) else (0, false, 6), ?_, ?_⟩
        · split
          · rfl
          · split <;> rfl
        · split
          · rfl
          · split <;> rfl
    obtain ⟨t, h2, h3⟩ := h1
    rw [h2, h3]
    obtain ⟨k, rfl⟩ : ∃ m, k = m + 1 := ⟨k - 1, by omega⟩
    simp only [Option.bind_some, laws_FnExactDecode.j0, eqCase_self]
    rw [toFixed_val x0_0 x0_1 x0_2 (by omega) (by omega)]
    simp only [Option.bind_some]
    rw [eqFixed_self x0_0 x0_1 (x0_2.map cv) (by simp; omega) (by simp; omega)]
    simp

end Go.Proofs.Ytkllpdekkhhhnaa.Pure
