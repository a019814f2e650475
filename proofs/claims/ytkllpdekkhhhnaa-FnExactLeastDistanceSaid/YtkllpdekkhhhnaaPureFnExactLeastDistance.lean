/- The program's LeastDistance returns what the reference's returns. Conditions: none. -/
import Derived.Test.YtkllpdekkhhhnaaMPureE
-- IMPORTS
import Derived.Test.YtkllpdekkhhhnaaMx0
import Derived.Test.YtkllpdekkhhhnaaMx32
import Derived.Test.YtkllpdekkhhhnaaMx34
import Derived.Test.YtkllpdekkhhhnaaMx35
namespace Go.Proofs.Ytkllpdekkhhhnaa.Pure
open Go.RowKit Go.Proofs.Ytkllpdekkhhhnaa.M Go.Proofs.YtkllpdekkhhhnaaW.PrintWords Go.Proofs.YtkllpdekkhhhnaaW.PrintLast Go.Proofs.YtkllpdekkhhhnaaW.PrintMore
set_option linter.unusedVariables false
set_option linter.unusedSimpArgs false

theorem FnExactLeastDistance (x0_0 : Int) (x0_1 : Int) (x0_2 : (List S29)) (w0_0 : (fun x : Int => (Lit.int .i8 x).wf = true) x0_0) (w0_1 : (fun x : Int => (Lit.int .i8 x).wf = true) x0_1) (w0_2 : (fun xs : List S29 => xs.length ≤ maxLen ∧ ∀ x ∈ xs, (fun x : S29 => (fun x : Int => (Lit.int .i8 x).wf = true) x.f0 ∧ (fun x : Int => (Lit.int .i8 x).wf = true) x.f1 ∧ (fun x : Int => (Lit.int .i8 x).wf = true) x.f2 ∧ (fun x : Int => (Lit.int .i8 x).wf = true) x.f3) x) x0_2) : ∃ k, laws_FnExactLeastDistance.f k x0_0 x0_1 x0_2 = some true := by
  refine ⟨x0_2.length + 100010, ?_⟩
  have hk : ∃ k, k = x0_2.length + 100010 := ⟨_, rfl⟩
  obtain ⟨k, hk⟩ := hk
  rw [← hk]
  unfold laws_FnExactLeastDistance.f
  rw [szFixed_val x0_0 x0_1 x0_2 w0_2.1 1048576 (by omega) (by omega)]
  simp only [Option.bind_some]
  by_cases e0 : (1048576 : Int) - (x0_2.length : Int) < 0
  · rw [if_pos e0]; rfl
  · rw [if_neg e0, if_neg e0, toFixed_val x0_0 x0_1 x0_2 (by omega) (by omega)]
    simp only [Option.bind_some]
    have hvs := valid_spec (k := k) x0_0 x0_1 (x0_2.map cv) (wn8 w0_0) (wn8 w0_1) (by simp; omega) (by simp; omega)
    have hvi := valid_impl (k := k) x0_0 x0_1 (x0_2.map cv) (wn8 w0_0) (wn8 w0_1) (by simp; omega) (by simp; omega)
    have h1 : ∃ t, spec_LeastDistance.f k x0_0 x0_1 (x0_2.map cv) = some t ∧ impl_LeastDistance.f k x0_0 x0_1 (x0_2.map cv) = some t := by
      unfold spec_LeastDistance.f impl_LeastDistance.f
      rw [hvs, hvi]
      simp only [Option.bind_some]
      cases hf : okF x0_0 x0_1 (x0_2.map cv)
      · exact ⟨(0, 1), rfl, rfl⟩
      · simp only [okF, Bool.and_eq_true, decide_eq_true_eq] at hf
        obtain ⟨_, _, h3, _⟩ := hf
        obtain ⟨k2, hk2⟩ : ∃ m, k = m + 2 := ⟨k - 2, by omega⟩
        obtain ⟨v, g1, g2⟩ := ld_val (k := k2) x0_0 x0_1 (x0_2.map cv) (by omega) (by omega)
        rw [cases_impl x0_0 x0_1 (x0_2.map cv) (by omega) (by omega), cases_spec x0_0 x0_1 (x0_2.map cv) (by omega) (by omega)]
        simp only [Option.bind_some, if_true]
        have g3 := spec_ld_up x0_0 x0_1 (x0_2.map cv) g1
        rw [hk2]
        exact ⟨(v, 0), g3, g2⟩
    obtain ⟨t, h2, h3⟩ := h1
    rw [h2, h3]
    obtain ⟨k, rfl⟩ : ∃ m, k = m + 1 := ⟨k - 1, by omega⟩
    simp only [Option.bind_some, laws_FnExactLeastDistance.j0, if_true]
    rw [toFixed_val x0_0 x0_1 x0_2 (by omega) (by omega)]
    simp only [Option.bind_some]
    rw [eqFixed_self x0_0 x0_1 (x0_2.map cv) (by simp; omega) (by simp; omega)]
    simp

end Go.Proofs.Ytkllpdekkhhhnaa.Pure
