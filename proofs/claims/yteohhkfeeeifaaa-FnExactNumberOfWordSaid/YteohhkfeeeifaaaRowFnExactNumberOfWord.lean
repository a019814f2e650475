/- FnExactNumberOfWord: the program's function returns what the reference's returns, for all arguments. Conditions: none beyond what the statement itself says. -/
import Derived.Test.YteohhkfeeeifaaaRows
import Derived.Test.YteohhkfeeeifaaaMx6
import Derived.Test.YteohhkfeeeifaaaPureFnExactNumberOfWord
import Derived.Test.YteohhkfeeeifaaaMRd
import Derived.WalkKit
import Derived.ProofKit
import Derived.OpenShut
import Derived.ShutString
import Derived.ChangeOld
import Derived.Below
import Derived.SizedLaws
namespace Go.Proofs.Yteohhkfeeeifaaa.fnExactNumberOfWord
open Go.ChangeShapes Go.WideShapes Go.ChangeAt Go.RowKit Go.Proofs.Yteohhkfeeeifaaa.Rd Go.Proofs.YteohhkfeeeifaaaW.PrintWords Go.Proofs.Yteohhkfeeeifaaa.M
open Go.ChangeMaps (open_string shut_string)
set_option linter.unusedVariables false
theorem own : ownKnob Try.prog.godebug = none := by kernel_rfl
theorem laidOut : laidOutB Try.prog = true := by kernel_rfl
theorem open1 (W : World) {H : Type} {enc : TypeId × Value → H} {fuel : Nat} {cs : List Value} {x : DataW H × List MemPlace} (hx : DataW.trod enc Try.prog W 0 (fun _ => true) true fuel 23 cs = some x) (hlen : cs.length = 4) :
    ∃ (a14 : Int) (a17 : Int) (a20 : Int) (a23 : Int), cs = [.int .i8 a14, .int .i8 a17, .int .i8 a20, .int .i8 a23] ∧ (fun x : Int => (Lit.int .i8 x).wf = true) a14 ∧ (fun x : Int => (Lit.int .i8 x).wf = true) a17 ∧ (fun x : Int => (Lit.int .i8 x).wf = true) a20 ∧ (fun x : Int => (Lit.int .i8 x).wf = true) a23 := by
  match cs, hlen with
  | [u1_0, u1_1, u1_2, u1_3], _ =>
  obtain ⟨ys1, m2, _, _, _, hl3, hg4⟩ := DataW.trod_array Try.underlying23 hx
  match ys1, hl3 with
  | [y5, y6, y7, y8], _ =>
  have c9 : Try.prog.cellsOf 22 = 1 := by kernel_rfl
  rw [c9] at hg4
  have g10 : DataW.trod enc Try.prog W 0 (fun _ => true) true m2 22 [u1_0] = some y5 := hg4 0 (by decide)
  have g11 : DataW.trod enc Try.prog W 0 (fun _ => true) true m2 22 [u1_1] = some y6 := hg4 1 (by decide)
  have g12 : DataW.trod enc Try.prog W 0 (fun _ => true) true m2 22 [u1_2] = some y7 := hg4 2 (by decide)
  have g13 : DataW.trod enc Try.prog W 0 (fun _ => true) true m2 22 [u1_3] = some y8 := hg4 3 (by decide)
  obtain ⟨a14, e15, _, w16⟩ := DataW.trod_int Try.underlying22 g10
  obtain rfl : u1_0 = .int .i8 a14 := by simpa using e15
  obtain ⟨a17, e18, _, w19⟩ := DataW.trod_int Try.underlying22 g11
  obtain rfl : u1_1 = .int .i8 a17 := by simpa using e18
  obtain ⟨a20, e21, _, w22⟩ := DataW.trod_int Try.underlying22 g12
  obtain rfl : u1_2 = .int .i8 a20 := by simpa using e21
  obtain ⟨a23, e24, _, w25⟩ := DataW.trod_int Try.underlying22 g13
  obtain rfl : u1_3 = .int .i8 a23 := by simpa using e24
  exact ⟨a14, a17, a20, a23, rfl, w16, w19, w22, w25⟩
set_option maxRecDepth 100000 in
set_option maxHeartbeats 400000 in
theorem lifted (os : Os) (started : os.Started) (H : Type) (enc : TypeId × Value → H) :
    ReturnsInHanded {} Try.checked os 7 .any (Rows.fnExactNumberOfWordSpec.pre6 enc Try.prog Try.f7 Rows.fnExactNumberOfWordRow.domain false) (Rows.fnExactNumberOfWordSpec.post enc Try.prog Try.f7 false true false false) := by
  refine returnsInHanded_of_change (C := Try.checked) own started (by kernel_rfl) Try.func7
    (ChangeSpec.witness6 (enc := enc) (C := Try.checked) false ⟨#[], #[.int .i64 0, .agg #[.int .i8 0, .int .i8 0, .int .i8 0, .int .i8 0]], []⟩ 8 (by kernel_rfl) (by kernel_rfl) (by kernel_rfl) (by kernel_rfl)) ?_
  intro W base args ds gs before hval0 hW hcnd _
  have hval : ∀ (j : Nat) t v, Try.f7.params[j]? = some t → args[j]? = some v → Value.okWide Try.prog W .any base t v := hval0
  have hW' := hW
  obtain ⟨p, q, hA0, hV, rfl, hfz, hnd⟩ := hW
  have hA : DataW.TrodAll enc Try.prog W 0 (fun _ => true) true Try.f7.params.toList args.toList ds p := hA0
  rw [Try.params7] at hA hval
  obtain ⟨v0, vs0, d0, ds0, p0, q0, hargs, rfl, rfl, h0, r0⟩ := trodAll_cons hA
  obtain ⟨v1, vs1, d1, ds1, p1, q1, rfl, rfl, rfl, h1, r1⟩ := trodAll_cons r0
  obtain ⟨rfl, rfl, rfl⟩ := trodAll_nil r1
  obtain rfl : args = #[v0, v1] := by cases args; simp_all
  obtain ⟨rfl, rfl⟩ := trodVars_none hV
  have k0 := h0
  have lt0 : ∀ x ∈ p0, x.block < W.heap.size := by obtain ⟨m, hm⟩ := k0; exact DataW.trod_lt m _ _ _ hm
  obtain ⟨fuel0, hf0⟩ := h0
  obtain ⟨a0_, rfl⟩ : ∃ z, v0 = .int .i64 z := by have h_ := hval 0 2 v0 rfl rfl; simp only [Value.okWide, Try.underlying2, Cell.okWide] at h_; cases v0 <;> simp_all [Cell.ok]
  have hg0 : DataW.trod enc Try.prog W 0 (fun _ => true) true fuel0 2 [.int .i64 a0_] = some (d0, p0) := hf0
  obtain ⟨a1, e2, w3⟩ := (rd_int Try.underlying2) hg0
  obtain rfl : a1 = a0_ := by have e_ : ([.int .i64 a1] : List Value) = [.int .i64 a0_] := Eq.symm e2; simpa using e_
  have k1 := h1
  have lt1 : ∀ x ∈ p1, x.block < W.heap.size := by obtain ⟨m, hm⟩ := k1; exact DataW.trod_lt m _ _ _ hm
  obtain ⟨cs1, rfl, hsz1⟩ := okWide_array Try.underlying23 (hval 1 23 v1 rfl rfl)
  obtain ⟨fuel1, hf1⟩ := h1
  obtain ⟨a14_1, a17_1, a20_1, a23_1, e1_, w16_1, w19_1, w22_1, w25_1⟩ := open1 W (cs := cs1.toList) hf1 (by rw [Array.length_toList, hsz1]; kernel_rfl)
  obtain rfl : cs1 = #[.int .i8 a14_1, .int .i8 a17_1, .int .i8 a20_1, .int .i8 a23_1] := by rw [← Array.toArray_toList (xs := cs1), e1_]
  clear hA0 hval0
  obtain ⟨k_, hk_⟩ := Pure.FnExactNumberOfWord a1 a14_1 a17_1 a20_1 a23_1 w3 w16_1 w19_1 w22_1 w25_1
  refine (laws_FnExactNumberOfWord.calls k_ a1 a14_1 a17_1 a20_1 a23_1 true W  hk_).mono fun e W' ⟨he, bel⟩ => ?_
  subst he
  exact ⟨_, rfl, _, _, _, [], _, [], hW', trodAll_mk1 (shut_bool Try.underlying4 _), (trodAll_cons_mk (Below.trod laidOut (by kernel_rfl) (of_decide_eq_true (by kernel_rfl)) k0 bel lt0) (trodAll_cons_mk (Below.trod laidOut (by kernel_rfl) (of_decide_eq_true (by kernel_rfl)) k1 bel lt1) trodAll_mk0)), rfl, bel.frame _, fun h => by cases h⟩
theorem over : Rows.fnExactNumberOfWordRow.holds Try.pinned (OpenSpec.ofChange Rows.fnExactNumberOfWordSpec) :=
  OpenClaim.holds_of_wide 7 Try.f7 rfl rfl rfl rfl rfl rfl rfl ⟨rfl, rfl, rfl, rfl, rfl⟩ rfl rfl rfl rfl rfl (by kernel_rfl) Try.func7 (by kernel_rfl)
    (of_decide_eq_true (by kernel_rfl)) (by unfold Func.isWrapper; first | (rw [if_pos (by decide +kernel)]; kernel_rfl) | (rw [if_neg (by decide +kernel)]; exact ⟨rfl, rfl⟩))
    (fun os started H enc _ => lifted os started H enc)
theorem proved : Rows.FnExactNumberOfWordSaid := over
#print axioms proved
end Go.Proofs.Yteohhkfeeeifaaa.fnExactNumberOfWord
namespace Go.Proofs.Yteohhkfeeeifaaa
theorem fnExactNumberOfWord_holds : Rows.FnExactNumberOfWordSaid := fnExactNumberOfWord.proved
end Go.Proofs.Yteohhkfeeeifaaa
