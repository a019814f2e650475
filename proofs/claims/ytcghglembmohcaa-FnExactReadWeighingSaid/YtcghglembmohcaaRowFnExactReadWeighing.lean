/- FnExactReadWeighing: the program's function returns what the reference's returns, for all arguments. Conditions: none beyond what the statement itself says. -/
import Derived.Test.YtcghglembmohcaaRows
import Derived.Test.YtcghglembmohcaaMx4
import Derived.Test.YtcghglembmohcaaPureFnExactReadWeighing
import Derived.Test.YtcghglembmohcaaMRd
import Derived.WalkKit
import Derived.ProofKit
import Derived.OpenShut
import Derived.ShutString
import Derived.ChangeOld
import Derived.Below
import Derived.SizedLaws
namespace Go.Proofs.Ytcghglembmohcaa.fnExactReadWeighing
open Go.ChangeShapes Go.WideShapes Go.ChangeAt Go.RowKit Go.Proofs.Ytcghglembmohcaa.Rd Go.Proofs.YtcghglembmohcaaW.PrintWords Go.Proofs.Ytcghglembmohcaa.M
open Go.ChangeMaps (open_string shut_string)
set_option linter.unusedVariables false
theorem own : ownKnob Try.prog.godebug = none := by kernel_rfl
theorem laidOut : laidOutB Try.prog = true := by kernel_rfl
theorem open0 (W : World) {H : Type} {enc : TypeId × Value → H} {fuel : Nat} {cs : List Value} {x : DataW H × List MemPlace} (hx : DataW.trod enc Try.prog W 0 (fun _ => true) true fuel 24 cs = some x) (hlen : cs.length = 4) :
    ∃ (a13 : Int) (a16 : Int) (a19 : Bool) (a22 : Bool), cs = [.int .i8 a13, .int .i8 a16, .bool a19, .bool a22] ∧ (fun x : Int => (Lit.int .i8 x).wf = true) a13 ∧ (fun x : Int => (Lit.int .i8 x).wf = true) a16 := by
  match cs, hlen with
  | [u0_0, u0_1, u0_2, u0_3], _ =>
  obtain ⟨ys1, m2, _, _, _, hl3, hg4⟩ := DataW.trod_struct Try.underlying24 hx
  match ys1, hl3 with
  | [y5, y6, y7, y8], _ =>
  have g9 : DataW.trod enc Try.prog W 0 (fun _ => true) true m2 22 [u0_0] = some y5 := by have h_ : DataW.trod enc Try.prog W 0 (fun _ => true) true m2 22 (([u0_0, u0_1, u0_2, u0_3].drop 0).take (Try.prog.cellsOf 22)) = [y5, y6, y7, y8][0]? := hg4 0 _ rfl; rw [show Try.prog.cellsOf 22 = 1 by kernel_rfl] at h_; exact h_
  have g10 : DataW.trod enc Try.prog W 0 (fun _ => true) true m2 22 [u0_1] = some y6 := by have h_ : DataW.trod enc Try.prog W 0 (fun _ => true) true m2 22 (([u0_0, u0_1, u0_2, u0_3].drop 1).take (Try.prog.cellsOf 22)) = [y5, y6, y7, y8][1]? := hg4 1 _ rfl; rw [show Try.prog.cellsOf 22 = 1 by kernel_rfl] at h_; exact h_
  have g11 : DataW.trod enc Try.prog W 0 (fun _ => true) true m2 4 [u0_2] = some y7 := by have h_ : DataW.trod enc Try.prog W 0 (fun _ => true) true m2 4 (([u0_0, u0_1, u0_2, u0_3].drop 2).take (Try.prog.cellsOf 4)) = [y5, y6, y7, y8][2]? := hg4 2 _ rfl; rw [show Try.prog.cellsOf 4 = 1 by kernel_rfl] at h_; exact h_
  have g12 : DataW.trod enc Try.prog W 0 (fun _ => true) true m2 4 [u0_3] = some y8 := by have h_ : DataW.trod enc Try.prog W 0 (fun _ => true) true m2 4 (([u0_0, u0_1, u0_2, u0_3].drop 3).take (Try.prog.cellsOf 4)) = [y5, y6, y7, y8][3]? := hg4 3 _ rfl; rw [show Try.prog.cellsOf 4 = 1 by kernel_rfl] at h_; exact h_
  obtain ⟨a13, e14, _, w15⟩ := DataW.trod_int Try.underlying22 g9
  obtain rfl : u0_0 = .int .i8 a13 := by simpa using e14
  obtain ⟨a16, e17, _, w18⟩ := DataW.trod_int Try.underlying22 g10
  obtain rfl : u0_1 = .int .i8 a16 := by simpa using e17
  obtain ⟨a19, e20, _⟩ := DataW.trod_bool Try.underlying4 g11
  obtain rfl : u0_2 = .bool a19 := by simpa using e20
  obtain ⟨a22, e23, _⟩ := DataW.trod_bool Try.underlying4 g12
  obtain rfl : u0_3 = .bool a22 := by simpa using e23
  exact ⟨a13, a16, a19, a22, rfl, w15, w18⟩
set_option maxRecDepth 100000 in
set_option maxHeartbeats 1600000 in
theorem lifted (os : Os) (started : os.Started) (H : Type) (enc : TypeId × Value → H) :
    ReturnsInHanded {} Try.checked os 3 .any (Rows.fnExactReadWeighingSpec.pre6 enc Try.prog Try.f3 Rows.fnExactReadWeighingRow.domain false) (Rows.fnExactReadWeighingSpec.post enc Try.prog Try.f3 false true false false) := by
  refine returnsInHanded_of_change (C := Try.checked) own started (by kernel_rfl) Try.func3
    (ChangeSpec.witness6 (enc := enc) (C := Try.checked) false ⟨#[], #[.agg #[.int .i8 0, .int .i8 0, .bool false, .bool false], .string ⟨#[]⟩], []⟩ 8 (by kernel_rfl) (by kernel_rfl) (by kernel_rfl) (by kernel_rfl)) ?_
  intro W base args ds gs before hval0 hW hcnd _
  have hval : ∀ (j : Nat) t v, Try.f3.params[j]? = some t → args[j]? = some v → Value.okWide Try.prog W .any base t v := hval0
  have hW' := hW
  obtain ⟨p, q, hA0, hV, rfl, hfz, hnd⟩ := hW
  have hA : DataW.TrodAll enc Try.prog W 0 (fun _ => true) true Try.f3.params.toList args.toList ds p := hA0
  rw [Try.params3] at hA hval
  obtain ⟨v0, vs0, d0, ds0, p0, q0, hargs, rfl, rfl, h0, r0⟩ := trodAll_cons hA
  obtain ⟨v1, vs1, d1, ds1, p1, q1, rfl, rfl, rfl, h1, r1⟩ := trodAll_cons r0
  obtain ⟨rfl, rfl, rfl⟩ := trodAll_nil r1
  obtain rfl : args = #[v0, v1] := by cases args; simp_all
  obtain ⟨rfl, rfl⟩ := trodVars_none hV
  have k0 := h0
  have lt0 : ∀ x ∈ p0, x.block < W.heap.size := by obtain ⟨m, hm⟩ := k0; exact DataW.trod_lt m _ _ _ hm
  obtain ⟨cs0, rfl, hsz0⟩ := okWide_struct Try.underlying24 (hval 0 24 v0 rfl rfl)
  obtain ⟨fuel0, hf0⟩ := h0
  obtain ⟨a13_0, a16_0, a19_0, a22_0, e0_, w15_0, w18_0⟩ := open0 W (cs := cs0.toList) hf0 (by rw [Array.length_toList, hsz0]; kernel_rfl)
  obtain rfl : cs0 = #[.int .i8 a13_0, .int .i8 a16_0, .bool a19_0, .bool a22_0] := by rw [← Array.toArray_toList (xs := cs0), e0_]
  have k1 := h1
  have lt1 : ∀ x ∈ p1, x.block < W.heap.size := by obtain ⟨m, hm⟩ := k1; exact DataW.trod_lt m _ _ _ hm
  obtain ⟨fuel1, hf1⟩ := h1
  obtain ⟨a1_, rfl⟩ : ∃ z, v1 = .string z := by have h_ := hval 1 9 v1 rfl rfl; simp only [Value.okWide, Try.underlying9, Cell.okWide] at h_; cases v1 <;> simp_all [Cell.ok]
  have hg1 : DataW.trod enc Try.prog W 0 (fun _ => true) true fuel1 9 [.string a1_] = some (d1, p1) := hf1
  obtain ⟨a1, e2, w3⟩ := (rd_string Try.underlying9) hg1
  obtain rfl : a1 = a1_ := by have e_ : ([.string a1] : List Value) = [.string a1_] := Eq.symm e2; simpa using e_
  clear hA0 hval0
  obtain ⟨k_, hk_⟩ := Pure.FnExactReadWeighing a13_0 a16_0 a19_0 a22_0 a1 w15_0 w18_0 w3
  refine (laws_FnExactReadWeighing.calls k_ a13_0 a16_0 a19_0 a22_0 a1 true W  hk_).mono fun e W' ⟨he, bel⟩ => ?_
  subst he
  exact ⟨_, rfl, _, _, _, [], _, [], hW', trodAll_mk1 (shut_bool Try.underlying4 _), (trodAll_cons_mk (Below.trod laidOut (by kernel_rfl) (of_decide_eq_true (by kernel_rfl)) k0 bel lt0) (trodAll_cons_mk (Below.trod laidOut (by kernel_rfl) (of_decide_eq_true (by kernel_rfl)) k1 bel lt1) trodAll_mk0)), rfl, bel.frame _, fun h => by cases h⟩
theorem over : Rows.fnExactReadWeighingRow.holds Try.pinned (OpenSpec.ofChange Rows.fnExactReadWeighingSpec) :=
  OpenClaim.holds_of_wide 3 Try.f3 rfl rfl rfl rfl rfl rfl rfl ⟨rfl, rfl, rfl, rfl, rfl⟩ rfl rfl rfl rfl rfl (by kernel_rfl) Try.func3 (by kernel_rfl)
    (of_decide_eq_true (by kernel_rfl)) (by unfold Func.isWrapper; first | (rw [if_pos (by decide +kernel)]; kernel_rfl) | (rw [if_neg (by decide +kernel)]; exact ⟨rfl, rfl⟩))
    (fun os started H enc _ => lifted os started H enc)
theorem proved : Rows.FnExactReadWeighingSaid := over
#print axioms proved
end Go.Proofs.Ytcghglembmohcaa.fnExactReadWeighing
namespace Go.Proofs.Ytcghglembmohcaa
theorem fnExactReadWeighing_holds : Rows.FnExactReadWeighingSaid := fnExactReadWeighing.proved
end Go.Proofs.Ytcghglembmohcaa
