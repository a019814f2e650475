/- FnExactOppositeWord: the program's function returns what the reference's returns, for all arguments. Conditions: none beyond what the statement itself says. -/
import Derived.Test.YteohhkfeeeifaaaRows
import Derived.Test.YteohhkfeeeifaaaMx2
import Derived.Test.YteohhkfeeeifaaaPureFnExactOppositeWord
import Derived.Test.YteohhkfeeeifaaaMRd
import Derived.WalkKit
import Derived.ProofKit
import Derived.OpenShut
import Derived.ShutString
import Derived.ChangeOld
import Derived.Below
import Derived.SizedLaws
namespace Go.Proofs.Yteohhkfeeeifaaa.fnExactOppositeWord
open Go.ChangeShapes Go.WideShapes Go.ChangeAt Go.RowKit Go.Proofs.Yteohhkfeeeifaaa.Rd Go.Proofs.YteohhkfeeeifaaaW.PrintWords Go.Proofs.Yteohhkfeeeifaaa.M
open Go.ChangeMaps (open_string shut_string)
set_option linter.unusedVariables false
theorem own : ownKnob Try.prog.godebug = none := by kernel_rfl
theorem laidOut : laidOutB Try.prog = true := by kernel_rfl
theorem open0 (W : World) {H : Type} {enc : TypeId × Value → H} {fuel : Nat} {cs : List Value} {x : DataW H × List MemPlace} (hx : DataW.trod enc Try.prog W 0 (fun _ => true) true fuel 23 cs = some x) (hlen : cs.length = 4) :
    ∃ (a14 : Int) (a17 : Int) (a20 : Int) (a23 : Int), cs = [.int .i8 a14, .int .i8 a17, .int .i8 a20, .int .i8 a23] ∧ (fun x : Int => (Lit.int .i8 x).wf = true) a14 ∧ (fun x : Int => (Lit.int .i8 x).wf = true) a17 ∧ (fun x : Int => (Lit.int .i8 x).wf = true) a20 ∧ (fun x : Int => (Lit.int .i8 x).wf = true) a23 := by
  match cs, hlen with
  | [u0_0, u0_1, u0_2, u0_3], _ =>
  obtain ⟨ys1, m2, _, _, _, hl3, hg4⟩ := DataW.trod_array Try.underlying23 hx
  match ys1, hl3 with
  | [y5, y6, y7, y8], _ =>
  have c9 : Try.prog.cellsOf 22 = 1 := by kernel_rfl
  rw [c9] at hg4
  have g10 : DataW.trod enc Try.prog W 0 (fun _ => true) true m2 22 [u0_0] = some y5 := hg4 0 (by decide)
  have g11 : DataW.trod enc Try.prog W 0 (fun _ => true) true m2 22 [u0_1] = some y6 := hg4 1 (by decide)
  have g12 : DataW.trod enc Try.prog W 0 (fun _ => true) true m2 22 [u0_2] = some y7 := hg4 2 (by decide)
  have g13 : DataW.trod enc Try.prog W 0 (fun _ => true) true m2 22 [u0_3] = some y8 := hg4 3 (by decide)
  obtain ⟨a14, e15, _, w16⟩ := DataW.trod_int Try.underlying22 g10
  obtain rfl : u0_0 = .int .i8 a14 := by simpa using e15
  obtain ⟨a17, e18, _, w19⟩ := DataW.trod_int Try.underlying22 g11
  obtain rfl : u0_1 = .int .i8 a17 := by simpa using e18
  obtain ⟨a20, e21, _, w22⟩ := DataW.trod_int Try.underlying22 g12
  obtain rfl : u0_2 = .int .i8 a20 := by simpa using e21
  obtain ⟨a23, e24, _, w25⟩ := DataW.trod_int Try.underlying22 g13
  obtain rfl : u0_3 = .int .i8 a23 := by simpa using e24
  exact ⟨a14, a17, a20, a23, rfl, w16, w19, w22, w25⟩
set_option maxRecDepth 100000 in
set_option maxHeartbeats 400000 in
theorem lifted (os : Os) (started : os.Started) (H : Type) (enc : TypeId × Value → H) :
    ReturnsInHanded {} Try.checked os 3 .any (Rows.fnExactOppositeWordSpec.pre6 enc Try.prog Try.f3 Rows.fnExactOppositeWordRow.domain false) (Rows.fnExactOppositeWordSpec.post enc Try.prog Try.f3 false true false false) := by
  refine returnsInHanded_of_change (C := Try.checked) own started (by kernel_rfl) Try.func3
    (ChangeSpec.witness6 (enc := enc) (C := Try.checked) false ⟨#[], #[.agg #[.int .i8 0, .int .i8 0, .int .i8 0, .int .i8 0]], []⟩ 8 (by kernel_rfl) (by kernel_rfl) (by kernel_rfl) (by kernel_rfl)) ?_
  intro W base args ds gs before hval0 hW hcnd _
  have hval : ∀ (j : Nat) t v, Try.f3.params[j]? = some t → args[j]? = some v → Value.okWide Try.prog W .any base t v := hval0
  have hW' := hW
  obtain ⟨p, q, hA0, hV, rfl, hfz, hnd⟩ := hW
  have hA : DataW.TrodAll enc Try.prog W 0 (fun _ => true) true Try.f3.params.toList args.toList ds p := hA0
  rw [Try.params3] at hA hval
  obtain ⟨v0, vs0, d0, ds0, p0, q0, hargs, rfl, rfl, h0, r0⟩ := trodAll_cons hA
  obtain ⟨rfl, rfl, rfl⟩ := trodAll_nil r0
  obtain rfl : args = #[v0] := by cases args; simp_all
  obtain ⟨rfl, rfl⟩ := trodVars_none hV
  have k0 := h0
  have lt0 : ∀ x ∈ p0, x.block < W.heap.size := by obtain ⟨m, hm⟩ := k0; exact DataW.trod_lt m _ _ _ hm
  obtain ⟨cs0, rfl, hsz0⟩ := okWide_array Try.underlying23 (hval 0 23 v0 rfl rfl)
  obtain ⟨fuel0, hf0⟩ := h0
  obtain ⟨a14_0, a17_0, a20_0, a23_0, e0_, w16_0, w19_0, w22_0, w25_0⟩ := open0 W (cs := cs0.toList) hf0 (by rw [Array.length_toList, hsz0]; kernel_rfl)
  obtain rfl : cs0 = #[.int .i8 a14_0, .int .i8 a17_0, .int .i8 a20_0, .int .i8 a23_0] := by rw [← Array.toArray_toList (xs := cs0), e0_]
  clear hA0 hval0
  obtain ⟨k_, hk_⟩ := Pure.FnExactOppositeWord a14_0 a17_0 a20_0 a23_0 w16_0 w19_0 w22_0 w25_0
  refine (laws_FnExactOppositeWord.calls k_ a14_0 a17_0 a20_0 a23_0 true W  hk_).mono fun e W' ⟨he, bel⟩ => ?_
  subst he
  exact ⟨_, rfl, _, _, _, [], _, [], hW', trodAll_mk1 (shut_bool Try.underlying4 _), (trodAll_cons_mk (Below.trod laidOut (by kernel_rfl) (of_decide_eq_true (by kernel_rfl)) k0 bel lt0) trodAll_mk0), rfl, bel.frame _, fun h => by cases h⟩
theorem over : Rows.fnExactOppositeWordRow.holds Try.pinned (OpenSpec.ofChange Rows.fnExactOppositeWordSpec) :=
  OpenClaim.holds_of_wide 3 Try.f3 rfl rfl rfl rfl rfl rfl rfl ⟨rfl, rfl, rfl, rfl, rfl⟩ rfl rfl rfl rfl rfl (by kernel_rfl) Try.func3 (by kernel_rfl)
    (of_decide_eq_true (by kernel_rfl)) (by unfold Func.isWrapper; first | (rw [if_pos (by decide +kernel)]; kernel_rfl) | (rw [if_neg (by decide +kernel)]; exact ⟨rfl, rfl⟩))
    (fun os started H enc _ => lifted os started H enc)
theorem proved : Rows.FnExactOppositeWordSaid := over
#print axioms proved
end Go.Proofs.Yteohhkfeeeifaaa.fnExactOppositeWord
namespace Go.Proofs.Yteohhkfeeeifaaa
theorem fnExactOppositeWord_holds : Rows.FnExactOppositeWordSaid := fnExactOppositeWord.proved
end Go.Proofs.Yteohhkfeeeifaaa
