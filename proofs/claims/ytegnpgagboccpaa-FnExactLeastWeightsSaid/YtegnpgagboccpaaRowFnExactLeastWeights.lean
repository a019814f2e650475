/- FnExactLeastWeights: the program's function returns what the reference's returns, for all arguments. Conditions: none beyond what the statement itself says. -/
import Derived.Test.YtegnpgagboccpaaRows
import Derived.Test.YtegnpgagboccpaaMx7
import Derived.Test.YtegnpgagboccpaaPureFnExactLeastWeights
import Derived.Test.YtegnpgagboccpaaMRd
import Derived.WalkKit
import Derived.ProofKit
import Derived.OpenShut
import Derived.ShutString
import Derived.ChangeOld
import Derived.Below
import Derived.SizedLaws
namespace Go.Proofs.Ytegnpgagboccpaa.fnExactLeastWeights
open Go.ChangeShapes Go.WideShapes Go.ChangeAt Go.RowKit Go.Proofs.Ytegnpgagboccpaa.Rd Go.Proofs.YtegnpgagboccpaaW.PrintWords Go.Proofs.Ytegnpgagboccpaa.M
open Go.ChangeMaps (open_string shut_string)
set_option linter.unusedVariables false
theorem own : ownKnob Try.prog.godebug = none := by kernel_rfl
theorem laidOut : laidOutB Try.prog = true := by kernel_rfl
set_option maxRecDepth 100000 in
set_option maxHeartbeats 1600000 in
theorem lifted (os : Os) (started : os.Started) (H : Type) (enc : TypeId × Value → H) :
    ReturnsInHanded {} Try.checked os 3 .any (Rows.fnExactLeastWeightsSpec.pre6 enc Try.prog Try.f3 Rows.fnExactLeastWeightsRow.domain false) (Rows.fnExactLeastWeightsSpec.post enc Try.prog Try.f3 false true false false) := by
  refine returnsInHanded_of_change (C := Try.checked) own started (by kernel_rfl) Try.func3
    (ChangeSpec.witness6 (enc := enc) (C := Try.checked) false ⟨#[], #[.int .i64 0, .bool false], []⟩ 8 (by kernel_rfl) (by kernel_rfl) (by kernel_rfl) (by kernel_rfl)) ?_
  intro W base args ds gs before hval0 hW hcnd _
  have hval : ∀ (j : Nat) t v, Try.f3.params[j]? = some t → args[j]? = some v → Value.okWide Try.prog W .any base t v := hval0
  have hW' := hW
  obtain ⟨p, q, hA0, hV, rfl, hfz, hnd⟩ := hW
  have hA : DataW.TrodAll enc Try.prog W 0 (fun _ => true) true Try.f3.params.toList args.toList ds p := hA0
  rw [Try.params3] at hA hval
  obtain ⟨v0, vs0, d0, ds0, p0, q0, hargs, rfl, rfl, h0, r0⟩ := trodAll_cons hA
  obtain ⟨v1, vs1, d1, ds1, p1, q1, rfl, rfl, rfl, h1, r1⟩ := trodAll_cons r0
  obtain ⟨rfl, rfl, rfl⟩ := trodAll_nil r1
  obtain rfl : args = #[v0, v1] := by cases args; simp_all
  obtain ⟨rfl, rfl⟩ := trodVars_none hV
  have k0 := h0
  have lt0 : ∀ x ∈ p0, x.block < W.heap.size := by obtain ⟨m, hm⟩ := k0; exact DataW.trod_lt m _ _ _ hm
  obtain ⟨fuel0, hf0⟩ := h0
  obtain ⟨a0_, rfl⟩ : ∃ z, v0 = .int .i64 z := by have h_ := hval 0 2 v0 rfl rfl; simp only [Value.okWide, Try.underlying2, Cell.okWide] at h_; cases v0 <;> simp_all [Cell.ok]
  have hg0 : DataW.trod enc Try.prog W 0 (fun _ => true) true fuel0 2 [.int .i64 a0_] = some (d0, p0) := hf0
  obtain ⟨a1, e2, w3⟩ := (rd_int Try.underlying2) hg0
  obtain rfl : a1 = a0_ := by have e_ : ([.int .i64 a1] : List Value) = [.int .i64 a0_] := Eq.symm e2; simpa using e_
  have k1 := h1
  have lt1 : ∀ x ∈ p1, x.block < W.heap.size := by obtain ⟨m, hm⟩ := k1; exact DataW.trod_lt m _ _ _ hm
  obtain ⟨fuel1, hf1⟩ := h1
  obtain ⟨a1_, rfl⟩ : ∃ z, v1 = .bool z := by have h_ := hval 1 4 v1 rfl rfl; simp only [Value.okWide, Try.underlying4, Cell.okWide] at h_; cases v1 <;> simp_all [Cell.ok]
  have hg1 : DataW.trod enc Try.prog W 0 (fun _ => true) true fuel1 4 [.bool a1_] = some (d1, p1) := hf1
  obtain ⟨a4, e5, w6⟩ := (rd_bool Try.underlying4) hg1
  obtain rfl : a4 = a1_ := by have e_ : ([.bool a4] : List Value) = [.bool a1_] := Eq.symm e5; simpa using e_
  clear hA0 hval0
  obtain ⟨k_, hk_⟩ := Pure.FnExactLeastWeights a1 a4 w3 w6
  refine (laws_FnExactLeastWeights.calls k_ a1 a4 true W  hk_).mono fun e W' ⟨he, bel⟩ => ?_
  subst he
  exact ⟨_, rfl, _, _, _, [], _, [], hW', trodAll_mk1 (shut_bool Try.underlying4 _), (trodAll_cons_mk (Below.trod laidOut (by kernel_rfl) (of_decide_eq_true (by kernel_rfl)) k0 bel lt0) (trodAll_cons_mk (Below.trod laidOut (by kernel_rfl) (of_decide_eq_true (by kernel_rfl)) k1 bel lt1) trodAll_mk0)), rfl, bel.frame _, fun h => by cases h⟩
theorem over : Rows.fnExactLeastWeightsRow.holds Try.pinned (OpenSpec.ofChange Rows.fnExactLeastWeightsSpec) :=
  OpenClaim.holds_of_wide 3 Try.f3 rfl rfl rfl rfl rfl rfl rfl ⟨rfl, rfl, rfl, rfl, rfl⟩ rfl rfl rfl rfl rfl (by kernel_rfl) Try.func3 (by kernel_rfl)
    (of_decide_eq_true (by kernel_rfl)) (by unfold Func.isWrapper; first | (rw [if_pos (by decide +kernel)]; kernel_rfl) | (rw [if_neg (by decide +kernel)]; exact ⟨rfl, rfl⟩))
    (fun os started H enc _ => lifted os started H enc)
theorem proved : Rows.FnExactLeastWeightsSaid := over
#print axioms proved
end Go.Proofs.Ytegnpgagboccpaa.fnExactLeastWeights
namespace Go.Proofs.Ytegnpgagboccpaa
theorem fnExactLeastWeights_holds : Rows.FnExactLeastWeightsSaid := fnExactLeastWeights.proved
end Go.Proofs.Ytegnpgagboccpaa
