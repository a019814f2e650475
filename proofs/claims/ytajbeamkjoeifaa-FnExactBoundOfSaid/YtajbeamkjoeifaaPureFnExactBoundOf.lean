/- The program's BoundOf answers as the reference's. Conditions: none. -/
import Derived.Test.YtajbeamkjoeifaaPFnExactBoundOfx2
namespace Go.Proofs.Ytajbeamkjoeifaa.Pure
open Go.RowKit Go.Proofs.Ytajbeamkjoeifaa.PFnExactBoundOf Go.Proofs.YtajbeamkjoeifaaW.PrintWords Go.Proofs.YtajbeamkjoeifaaW.PrintLast
set_option linter.unusedVariables false

theorem within_same (a b c : Int) : impl_within.f a b c = spec_l00In.f a b c := by
  unfold impl_within.f spec_l00In.f
  simp only [ge_iff_le]

theorem in_some (a b c : Int) : spec_l00In.f a b c = some (decide (b ≤ a ∧ a ≤ c)) := by
  unfold spec_l00In.f
  by_cases h : a ≥ b
  · rw [if_pos h]; simp [show b ≤ a from h]
  · rw [if_neg h]; simp [show ¬ b ≤ a from h]

theorem w8 {a : Int} (h : (Lit.int .i8 a).wf = true) : wrap64 a = a := by
  have h' : IntKind.i8.min ≤ a ∧ a ≤ IntKind.i8.max := by simpa [Lit.wf] using h
  have : -128 ≤ a ∧ a ≤ 127 := h'
  unfold wrap64; omega

theorem task_val (a b : Int) (c d : Bool) (ha : wrap64 a = a) (hb : wrap64 b = b) : spec_l03Ok.f a b c d = some (decide ((1 ≤ a ∧ a ≤ 13) ∧ (0 ≤ b ∧ b ≤ 2))) ∧ impl_ValidTask.f a b c d = some (decide ((1 ≤ a ∧ a ≤ 13) ∧ (0 ≤ b ∧ b ≤ 2))) := by
  unfold spec_l03Ok.f impl_ValidTask.f impl_isKind.f
  simp only [within_same, in_some, ha, hb, Option.bind_some]
  by_cases h : 1 ≤ a ∧ a ≤ 13 <;> simp [h]

theorem bound_all : ∀ (c : Fin 13) (k : Fin 3) (n g : Bool), laws_FnExactBoundOf.f 64 ((c.val : Int) + 1) (k.val : Int) n g = some true := by decide +kernel

theorem FnExactBoundOf (x0_0 : Int) (x0_1 : Int) (x0_2 : Bool) (x0_3 : Bool) (w0_0 : (fun x : Int => (Lit.int .i8 x).wf = true) x0_0) (w0_1 : (fun x : Int => (Lit.int .i8 x).wf = true) x0_1) : ∃ k, laws_FnExactBoundOf.f k x0_0 x0_1 x0_2 x0_3 = some true := by
  refine ⟨64, ?_⟩
  by_cases h : (1 ≤ x0_0 ∧ x0_0 ≤ 13) ∧ (0 ≤ x0_1 ∧ x0_1 ≤ 2)
  · have := bound_all ⟨(x0_0 - 1).toNat, by omega⟩ ⟨x0_1.toNat, by omega⟩ x0_2 x0_3
    rwa [show (((x0_0 - 1).toNat : Nat) : Int) + 1 = x0_0 by omega, show ((x0_1.toNat : Nat) : Int) = x0_1 by omega] at this
  · obtain ⟨h1, h2⟩ := task_val x0_0 x0_1 x0_2 x0_3 (w8 w0_0) (w8 w0_1)
    unfold laws_FnExactBoundOf.f laws_toTask.f spec_BoundOf.f impl_BoundOf.f
    simp only [Option.bind_some, h1, h2, h]
    simp

end Go.Proofs.Ytajbeamkjoeifaa.Pure
