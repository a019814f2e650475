/- The program's ValidTask answers as the reference's. Conditions: none. -/
import Derived.Test.YtajbeamkjoeifaaPFnExactValidTaskx1
namespace Go.Proofs.Ytajbeamkjoeifaa.Pure
open Go.RowKit Go.Proofs.Ytajbeamkjoeifaa.PFnExactValidTask Go.Proofs.YtajbeamkjoeifaaW.PrintWords Go.Proofs.YtajbeamkjoeifaaW.PrintLast
set_option linter.unusedVariables false

theorem within_same (a b c : Int) : impl_within.f a b c = spec_l00In.f a b c := by
  unfold impl_within.f spec_l00In.f
  simp only [ge_iff_le]

theorem in_some (a b c : Int) : ∃ r, spec_l00In.f a b c = some r := by
  unfold spec_l00In.f
  split <;> exact ⟨_, rfl⟩

theorem task_same (a b : Int) (c d : Bool) : impl_ValidTask.f a b c d = spec_l03Ok.f a b c d := by
  unfold impl_ValidTask.f spec_l03Ok.f impl_isKind.f
  simp only [within_same]
  obtain ⟨r, hr⟩ := in_some (wrap64 b) 0 2
  rw [hr]
  rfl

theorem task_some (a b : Int) (c d : Bool) : ∃ r, spec_l03Ok.f a b c d = some r := by
  unfold spec_l03Ok.f
  obtain ⟨r, hr⟩ := in_some (wrap64 b) 0 2
  obtain ⟨q, hq⟩ := in_some (wrap64 a) 1 13
  rw [hr, hq]
  simp only [Option.bind_some]
  split <;> exact ⟨_, rfl⟩

theorem FnExactValidTask (x0_0 : Int) (x0_1 : Int) (x0_2 : Bool) (x0_3 : Bool) (w0_0 : (fun x : Int => (Lit.int .i8 x).wf = true) x0_0) (w0_1 : (fun x : Int => (Lit.int .i8 x).wf = true) x0_1) : laws_FnExactValidTask.f x0_0 x0_1 x0_2 x0_3 = some true := by
  obtain ⟨r, hr⟩ := task_some x0_0 x0_1 x0_2 x0_3
  unfold laws_FnExactValidTask.f laws_toTask.f spec_ValidTask.f
  simp only [Option.bind_some, task_same]
  rw [hr]
  simp

end Go.Proofs.Ytajbeamkjoeifaa.Pure
