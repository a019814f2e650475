/- FnExactFromBalanced: the program's function returns what the reference's returns, for all arguments. Conditions: none beyond what the statement itself says. -/
import Derived.Test.YtegnpgagboccpaaRows
import Derived.Test.YtegnpgagboccpaaMx3
import Derived.Test.YtegnpgagboccpaaPureFnExactFromBalanced
import Derived.Test.YtegnpgagboccpaaMRd
import Derived.WalkKit
import Derived.ProofKit
import Derived.OpenShut
import Derived.ShutString
import Derived.ChangeOld
import Derived.Below
import Derived.SizedLaws
namespace Go.Proofs.Ytegnpgagboccpaa.fnExactFromBalanced
open Go.ChangeShapes Go.WideShapes Go.ChangeAt Go.RowKit Go.Proofs.Ytegnpgagboccpaa.Rd Go.Proofs.YtegnpgagboccpaaW.PrintWords Go.Proofs.Ytegnpgagboccpaa.M
open Go.ChangeMaps (open_string shut_string)
set_option linter.unusedVariables false
theorem own : ownKnob Try.prog.godebug = none := by kernel_rfl
theorem laidOut : laidOutB Try.prog = true := by kernel_rfl
set_option maxRecDepth 100000 in
set_option maxHeartbeats 1600000 in
theorem lifted (os : Os) (started : os.Started) (H : Type) (enc : TypeId × Value → H) :
    ReturnsInHanded {} Try.checked os 4 .any (Rows.fnExactFromBalancedSpec.pre6 enc Try.prog Try.f4 Rows.fnExactFromBalancedRow.domain false) (Rows.fnExactFromBalancedSpec.post enc Try.prog Try.f4 false true false false) := by
  refine returnsInHanded_of_change (C := Try.checked) own started (by kernel_rfl) Try.func4
    (ChangeSpec.witness6 (enc := enc) (C := Try.checked) false ⟨#[], #[.slice none 0 0], []⟩ 8 (by kernel_rfl) (by kernel_rfl) (by kernel_rfl) (by kernel_rfl)) ?_
  intro W base args ds gs before hval0 hW hcnd _
  have hval : ∀ (j : Nat) t v, Try.f4.params[j]? = some t → args[j]? = some v → Value.okWide Try.prog W .any base t v := hval0
  have hW' := hW
  obtain ⟨p, q, hA0, hV, rfl, hfz, hnd⟩ := hW
  have hA : DataW.TrodAll enc Try.prog W 0 (fun _ => true) true Try.f4.params.toList args.toList ds p := hA0
  rw [Try.params4] at hA hval
  obtain ⟨v0, vs0, d0, ds0, p0, q0, hargs, rfl, rfl, h0, r0⟩ := trodAll_cons hA
  obtain ⟨rfl, rfl, rfl⟩ := trodAll_nil r0
  obtain rfl : args = #[v0] := by cases args; simp_all
  obtain ⟨rfl, rfl⟩ := trodVars_none hV
  have k0 := h0
  have lt0 : ∀ x ∈ p0, x.block < W.heap.size := by obtain ⟨m, hm⟩ := k0; exact DataW.trod_lt m _ _ _ hm
  obtain ⟨fuel0, hf0⟩ := h0
  obtain ⟨A0_, n0_, c0_, rfl⟩ := okWide_slice Try.underlying29 (hval 0 29 v0 rfl rfl)
  have hg0 : DataW.trod enc Try.prog W 0 (fun _ => true) true fuel0 29 [.slice A0_ n0_ c0_] = some (d0, p0) := hf0
  obtain ⟨a1, ⟨A2, c3, e4, hl5, hC6⟩, w7⟩ := (rd_slice Try.underlying29 (rd_int Try.underlying45) (by kernel_rfl)) hg0
  have f0_ : A0_ = A2 ∧ n0_ = a1.length ∧ c0_ = c3 := by simpa using e4
  obtain ⟨rfl, rfl, rfl⟩ : A2 = A0_ ∧ a1.length = n0_ ∧ c3 = c0_ := ⟨f0_.1.symm, f0_.2.1.symm, f0_.2.2.symm⟩
  clear hA0 hval0
  obtain ⟨k_, hk_⟩ := Pure.FnExactFromBalanced a1 w7
  refine (laws_FnExactFromBalanced.calls k_ A2 c3 a1 true W hC6 hl5 hk_).mono fun e W' ⟨he, bel⟩ => ?_
  subst he
  exact ⟨_, rfl, _, _, _, [], _, [], hW', trodAll_mk1 (shut_bool Try.underlying4 _), (trodAll_cons_mk (Below.trod laidOut (by kernel_rfl) (of_decide_eq_true (by kernel_rfl)) k0 bel lt0) trodAll_mk0), rfl, bel.frame _, fun h => by cases h⟩
theorem over : Rows.fnExactFromBalancedRow.holds Try.pinned (OpenSpec.ofChange Rows.fnExactFromBalancedSpec) :=
  OpenClaim.holds_of_wide 4 Try.f4 rfl rfl rfl rfl rfl rfl rfl ⟨rfl, rfl, rfl, rfl, rfl⟩ rfl rfl rfl rfl rfl (by kernel_rfl) Try.func4 (by kernel_rfl)
    (of_decide_eq_true (by kernel_rfl)) (by unfold Func.isWrapper; first | (rw [if_pos (by decide +kernel)]; kernel_rfl) | (rw [if_neg (by decide +kernel)]; exact ⟨rfl, rfl⟩))
    (fun os started H enc _ => lifted os started H enc)
theorem proved : Rows.FnExactFromBalancedSaid := over
#print axioms proved
end Go.Proofs.Ytegnpgagboccpaa.fnExactFromBalanced
namespace Go.Proofs.Ytegnpgagboccpaa
theorem fnExactFromBalanced_holds : Rows.FnExactFromBalancedSaid := fnExactFromBalanced.proved
end Go.Proofs.Ytegnpgagboccpaa
