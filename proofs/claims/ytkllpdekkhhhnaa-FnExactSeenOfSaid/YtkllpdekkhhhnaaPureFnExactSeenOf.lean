/- The program's SeenOf returns what the reference's returns. Conditions: none. -/
import Derived.Test.YtkllpdekkhhhnaaMPureS
-- IMPORTS
import Derived.Test.YtkllpdekkhhhnaaMx0
import Derived.Test.YtkllpdekkhhhnaaMx8
import Derived.Test.YtkllpdekkhhhnaaMx10
import Derived.Test.YtkllpdekkhhhnaaMx20
import Derived.Test.YtkllpdekkhhhnaaMx24
namespace Go.Proofs.Ytkllpdekkhhhnaa.Pure
open Go.RowKit Go.Proofs.Ytkllpdekkhhhnaa.M Go.Proofs.YtkllpdekkhhhnaaW.PrintWords Go.Proofs.YtkllpdekkhhhnaaW.PrintLast Go.Proofs.YtkllpdekkhhhnaaW.PrintMore
set_option linter.unusedVariables false
set_option linter.unusedSimpArgs false

theorem mem_val (q : Int) (n : Nat) (e : Int) (f : Bool) : (⟨e, f⟩ : S37) ∈ casesL q n ↔ (e = -1 ∧ f = false) ∨ (0 ≤ e ∧ e < n ∧ (f = true → ¬ q = 1) ∧ (f = false → ¬ q = 0)) := by
  rw [mem_cases]
  simp only [S37.mk.injEq]
  refine or_congr Iff.rfl ?_
  constructor
  · rintro ⟨i, hi, h⟩
    unfold one at h
    by_cases h1 : q = 1 <;> by_cases h2 : q = 0 <;> simp [h1, h2] at h
    · omega
    · obtain ⟨rfl, rfl⟩ := h
      exact ⟨by omega, by omega, by simp, by intro _; omega⟩
    · obtain ⟨rfl, rfl⟩ := h
      exact ⟨by omega, by omega, by intro _; omega, by simp⟩
    · rcases h with ⟨rfl, rfl⟩ | ⟨rfl, rfl⟩
      · exact ⟨by omega, by omega, fun _ => h1, by simp⟩
      · exact ⟨by omega, by omega, by simp, fun _ => h2⟩
  · rintro ⟨h0, h1, h2, h3⟩
    refine ⟨e.toNat, by omega, ?_⟩
    unfold one
    cases f
    · rw [if_neg (h3 rfl)]; simp; omega
    · rw [if_neg (h2 rfl)]; simp; omega

theorem seenOf_same {k : Nat} (p q : Int) (l : List S30) (e : Int) (f : Bool) (hp : (Lit.int .i8 p).wf = true) (hq : (Lit.int .i8 q).wf = true) (he : (Lit.int .i8 e).wf = true) (hl : l.length ≤ 1048576) (hk : 3 * l.length + 20 ≤ k) :
    ∃ r, spec_SeenOf.f k p q l e f = some r ∧ impl_SeenOf.f k p q l e f = some r := by
  unfold spec_SeenOf.f impl_SeenOf.f
  rw [valid_spec p q l (wn8 hp) (wn8 hq) hl (by omega), valid_impl p q l (wn8 hp) (wn8 hq) hl (by omega)]
  simp only [Option.bind_some]
  cases hf : okF p q l
  · exact ⟨(0, 0, 0, 0, 1), rfl, rfl⟩
  · simp only [okF, Bool.and_eq_true, decide_eq_true_eq] at hf
    obtain ⟨_, _, h3, _⟩ := hf
    have hcl := casesL_len q l.length
    rw [cases_impl p q l (by omega) (by omega), in_val, wn8 he, show wrap64 ((l.length : Int) - 1) = (l.length : Int) - 1 by unfold wrap64; omega]
    simp only [Option.bind_some]
    obtain ⟨u, hu, hu2⟩ := has_case (k := k) (casesL q l.length) (by omega) e f (by omega)
    rw [hu]
    simp only [Option.bind_some, if_true]
    have hm := hu2.trans (mem_val q l.length e f)
    have hno : (u = true → False) → u = false := fun h => by cases u; rfl; exact (h rfl).elim
    by_cases h0 : e < 0
    · rw [if_pos h0]
      by_cases h1 : e = -1
      · cases f
        · have : u = true := hm.2 (Or.inl ⟨h1, rfl⟩)
          rw [seen_spec (by omega) p q l e false (by omega), seen_impl (by omega) p q l e false (by omega)]
          simp [this, show -1 ≤ e ∧ e ≤ (l.length : Int) - 1 by omega]
        · have : u = false := hno fun h => by
            rcases hm.1 h with h | h
            · simp at h
            · omega
          simp [this]
      · have : u = false := hno fun h => by rcases hm.1 h with h | h <;> omega
        simp [this, show ¬ (-1 ≤ e ∧ e ≤ (l.length : Int) - 1) by omega]
    · rw [if_neg h0]
      by_cases h1 : e < l.length
      · rw [seen_spec (by omega) p q l e f h1, seen_impl (by omega) p q l e f h1]
        have hr : -1 ≤ e ∧ e ≤ (l.length : Int) - 1 := by omega
        cases f
        · by_cases h2 : q = 0
          · have : u = false := hno fun h => by
              rcases hm.1 h with h | h
              · omega
              · exact h.2.2.2 rfl h2
            simp [this, hr, h2]
          · have : u = true := hm.2 (Or.inr ⟨by omega, h1, by simp, fun _ => h2⟩)
            simp [this, hr, h2]
        · by_cases h2 : q = 1
          · have : u = false := hno fun h => by
              rcases hm.1 h with h | h
              · omega
              · exact h.2.2.1 rfl h2
            simp [this, hr, h2]
          · have : u = true := hm.2 (Or.inr ⟨by omega, h1, fun _ => h2, by simp⟩)
            simp [this, hr, h2]
      · have : u = false := hno fun h => by rcases hm.1 h with h | h <;> omega
        simp [this, show ¬ (-1 ≤ e ∧ e ≤ (l.length : Int) - 1) by omega]

theorem FnExactSeenOf (x0_0 : Int) (x0_1 : Int) (x0_2 : (List S29)) (x1_0 : Int) (x1_1 : Bool) (w0_0 : (fun x : Int => (Lit.int .i8 x).wf = true) x0_0) (w0_1 : (fun x : Int => (Lit.int .i8 x).wf = true) x0_1) (w0_2 : (fun xs : List S29 => xs.length ≤ maxLen ∧ ∀ x ∈ xs, (fun x : S29 => (fun x : Int => (Lit.int .i8 x).wf = true) x.f0 ∧ (fun x : Int => (Lit.int .i8 x).wf = true) x.f1 ∧ (fun x : Int => (Lit.int .i8 x).wf = true) x.f2 ∧ (fun x : Int => (Lit.int .i8 x).wf = true) x.f3) x) x0_2) (w1_0 : (fun x : Int => (Lit.int .i8 x).wf = true) x1_0) : ∃ k, laws_FnExactSeenOf.f k x0_0 x0_1 x0_2 x1_0 x1_1 = some true := by
  refine ⟨3 * x0_2.length + 40, ?_⟩
  have hk : ∃ k, k = 3 * x0_2.length + 40 := ⟨_, rfl⟩
  obtain ⟨k, hk⟩ := hk
  rw [← hk]
  unfold laws_FnExactSeenOf.f laws_toCase.f
  rw [szFixed_val x0_0 x0_1 x0_2 w0_2.1 1048576 (by omega) (by omega)]
  simp only [Option.bind_some]
  by_cases e0 : (1048576 : Int) - (x0_2.length : Int) < 0
  · rw [if_pos e0]; rfl
  · rw [if_neg e0, if_neg e0, toFixed_val x0_0 x0_1 x0_2 (by omega) (by omega)]
    simp only [Option.bind_some]
    obtain ⟨r, h2, h3⟩ := seenOf_same (k := k) x0_0 x0_1 (x0_2.map cv) x1_0 x1_1 w0_0 w0_1 w1_0 (by simp; omega) (by simp; omega)
    rw [h2, h3]
    obtain ⟨k, rfl⟩ : ∃ m, k = m + 1 := ⟨k - 1, by omega⟩
    simp only [Option.bind_some, eqWord_self (show 5 ≤ k + 1 by omega), laws_FnExactSeenOf.j0]
    rw [toFixed_val x0_0 x0_1 x0_2 (by omega) (by omega)]
    simp only [Option.bind_some]
    rw [eqFixed_self x0_0 x0_1 (x0_2.map cv) (by simp; omega) (by simp; omega)]
    simp

end Go.Proofs.Ytkllpdekkhhhnaa.Pure
