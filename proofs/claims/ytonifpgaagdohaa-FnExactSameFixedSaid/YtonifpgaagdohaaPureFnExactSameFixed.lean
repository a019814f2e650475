/- The program's SameFixed returns what the reference's returns. Conditions: none. -/
import Derived.Test.YtonifpgaagdohaaMPureF
-- IMPORTS
import Derived.Test.YtonifpgaagdohaaMx0
import Derived.Test.YtonifpgaagdohaaMx3
import Derived.Test.YtonifpgaagdohaaMx4
import Derived.Test.YtonifpgaagdohaaMx5
import Derived.Test.YtonifpgaagdohaaMx7
namespace Go.Proofs.Ytonifpgaagdohaa.Pure
open Go.RowKit Go.Proofs.Ytonifpgaagdohaa.M Go.Proofs.YtonifpgaagdohaaW.PrintWords Go.Proofs.YtonifpgaagdohaaW.PrintLast Go.Proofs.YtonifpgaagdohaaW.PrintMore
set_option linter.unusedVariables false
set_option linter.unusedSimpArgs false

theorem both (c : Prop) [Decidable c] (x y : Bool) : ∃ r, (if c then some x else some y) = some r ∧ (if c then some x else some y) = some r := ⟨if c then x else y, by split <;> rfl, by split <;> rfl⟩
theorem same_l0 (l m : List S40) (hl : l.length ≤ 1048576) (hm : l.length = m.length) (p q p' q' : Int) : ∀ (d k : Nat) (i : Int), 0 ≤ i → (l.length : Int) - i ≤ d → d < k →
    ∃ r, spec_SameFixed.l0 k i p q l p' q' m = some r ∧ impl_Word_32.l0 k l m l.length i = some r := by
  intro d
  induction d with
  | zero =>
    intro k i h0 h1 h2
    obtain ⟨k, rfl⟩ := fuel (show 1 ≤ k by omega)
    refine ⟨true, ?_, ?_⟩
    · simp only [spec_SameFixed.l0]; rw [if_neg (by omega)]
    · simp only [impl_Word_32.l0]; rw [if_neg (by omega)]
  | succ d ih =>
    intro k i h0 h1 h2
    obtain ⟨k, rfl⟩ := fuel (show 1 ≤ k by omega)
    simp only [spec_SameFixed.l0, impl_Word_32.l0]
    by_cases h : i < (l.length : Int)
    · have hm' : i < (m.length : Int) := by omega
      rw [if_pos h, if_pos h0, if_pos hm', if_pos h, if_pos h0, if_pos h, if_pos hm', wi h0 (by omega)]
      obtain ⟨r, hs, hi⟩ := ih k (i + 1) (by omega) (by omega) (by omega)
      rw [hs, hi]
      exact both _ _ _
    · rw [if_neg h, if_neg h]; exact ⟨_, rfl, rfl⟩

theorem same_val {k : Nat} (p q p' q' : Int) (l m : List S40) (hl : l.length ≤ 1048576) (h : l.length + 6 ≤ k) : ∃ r, spec_SameFixed.f k p q l p' q' m = some r ∧ impl_SameFixed.f k p q l p' q' m = some r := by
  obtain ⟨k, rfl⟩ := fuel (show 1 ≤ k by omega)
  unfold spec_SameFixed.f impl_SameFixed.f impl_Word_32.f
  simp only [spec_SameFixed.j0]
  by_cases h1 : p = p'
  · by_cases h2 : q = q'
    · rw [if_pos h1, if_pos h2, if_pos h1, if_pos h2]
      by_cases h3 : (l.length : Int) = (m.length : Int)
      · obtain ⟨r, hs, hi⟩ := same_l0 l m hl (by omega) p q p' q' l.length k 0 (by omega) (by omega) (by omega)
        obtain ⟨r', hs', hi'⟩ := same_l0 l m hl (by omega) p q p' q' l.length (k + 1) 0 (by omega) (by omega) (by omega)
        have e : r' = r := by
          have := (spec_SameFixed.mono_l k).2 0 p q l p' q' m r hs
          rw [hs'] at this
          exact Option.some.inj this
        subst e
        rw [if_neg (by simp [h3]), if_pos h3, hs, hi']
        exact ⟨_, rfl, rfl⟩
      · rw [if_pos (by simpa using h3), if_neg h3]; exact ⟨_, rfl, rfl⟩
    · rw [if_pos h1, if_neg h2, if_pos h1, if_neg h2, if_pos trivial]; exact ⟨_, rfl, rfl⟩
  · rw [if_neg h1, if_neg h1, if_pos trivial]; exact ⟨_, rfl, rfl⟩

theorem FnExactSameFixed (x0_0 : Int) (x0_1 : Int) (x0_2 : (List S37)) (x1_0 : Int) (x1_1 : Int) (x1_2 : (List S37)) (w0_0 : (fun x : Int => (Lit.int .i8 x).wf = true) x0_0) (w0_1 : (fun x : Int => (Lit.int .i8 x).wf = true) x0_1) (w0_2 : (fun xs : List S37 => xs.length ≤ maxLen ∧ ∀ x ∈ xs, (fun x : S37 => (fun x : Int => (Lit.int .i8 x).wf = true) x.f0 ∧ (fun x : Int => (Lit.int .i8 x).wf = true) x.f1 ∧ (fun x : Int => (Lit.int .i8 x).wf = true) x.f2 ∧ (fun x : Int => (Lit.int .i8 x).wf = true) x.f3) x) x0_2) (w1_0 : (fun x : Int => (Lit.int .i8 x).wf = true) x1_0) (w1_1 : (fun x : Int => (Lit.int .i8 x).wf = true) x1_1) (w1_2 : (fun xs : List S37 => xs.length ≤ maxLen ∧ ∀ x ∈ xs, (fun x : S37 => (fun x : Int => (Lit.int .i8 x).wf = true) x.f0 ∧ (fun x : Int => (Lit.int .i8 x).wf = true) x.f1 ∧ (fun x : Int => (Lit.int .i8 x).wf = true) x.f2 ∧ (fun x : Int => (Lit.int .i8 x).wf = true) x.f3) x) x1_2) : ∃ k, laws_FnExactSameFixed.f k x0_0 x0_1 x0_2 x1_0 x1_1 x1_2 = some true := by
  refine ⟨x0_2.length + x1_2.length + 10, ?_⟩
  have hk : ∃ k, k = x0_2.length + x1_2.length + 10 := ⟨_, rfl⟩
  obtain ⟨k, hk⟩ := hk
  rw [← hk]
  unfold laws_FnExactSameFixed.f
  rw [szFixed_val x0_0 x0_1 x0_2 w0_2.1 1048576 (by omega) (by omega)]
  simp only [Option.bind_some]
  by_cases e0 : (1048576 : Int) - (x0_2.length : Int) < 0
  · rw [if_pos e0]; rfl
  · rw [if_neg e0, if_neg e0, szFixed_val x1_0 x1_1 x1_2 w1_2.1 _ (by omega) (by omega)]
    simp only [Option.bind_some]
    by_cases e1 : (1048576 : Int) - (x0_2.length : Int) - (x1_2.length : Int) < 0
    · rw [if_pos e1]; rfl
    · rw [if_neg e1, if_neg e1, toFixed_val x0_0 x0_1 x0_2 (by omega) (by omega), toFixed_val x1_0 x1_1 x1_2 (by omega) (by omega)]
      obtain ⟨r, hs, hi⟩ := same_val (k := k) x0_0 x0_1 x1_0 x1_1 (x0_2.map cv) (x1_2.map cv) (by simp; omega) (by simp; omega)
      simp only [Option.bind_some]
      rw [hs, hi]
      simp only [Option.bind_some]
      rw [eqFixed_self x0_0 x0_1 (x0_2.map cv) (by simp; omega) (by simp; omega), eqFixed_self x1_0 x1_1 (x1_2.map cv) (by simp; omega) (by simp; omega)]
      simp

end Go.Proofs.Ytonifpgaagdohaa.Pure
