/- FnExactDecodeNear: the program's function returns what the reference's returns, for all arguments. Conditions: none beyond what the statement itself says. -/
import Derived.Test.YtkieplebdbdigaaRows
import Derived.Test.YtkieplebdbdigaaMx19
import Derived.Test.YtkieplebdbdigaaPureFnExactDecodeNear
import Derived.Test.YtkieplebdbdigaaMRd
import Derived.WalkKit
import Derived.ProofKit
import Derived.OpenShut
import Derived.ShutString
import Derived.ChangeOld
import Derived.Below
import Derived.SizedLaws
namespace Go.Proofs.Ytkieplebdbdigaa.fnExactDecodeNear
open Go.ChangeShapes Go.WideShapes Go.ChangeAt Go.RowKit Go.Proofs.Ytkieplebdbdigaa.Rd Go.Proofs.YtkieplebdbdigaaW.PrintWords Go.Proofs.Ytkieplebdbdigaa.M
open Go.ChangeMaps (open_string shut_string)
set_option linter.unusedVariables false
theorem own : ownKnob Try.prog.godebug = none := by kernel_rfl
theorem laidOut : laidOutB Try.prog = true := by kernel_rfl
theorem rd_36 (W : World) : Rd Try.prog W 36 k36 (fun x : S36 => (fun x : Int => (Lit.int .i8 x).wf = true) x.f0 ∧ (fun x : Int => (Lit.int .i8 x).wf = true) x.f1 ∧ (fun x : Int => (Lit.int .i8 x).wf = true) x.f2 ∧ (fun x : Int => (Lit.int .i8 x).wf = true) x.f3) := by
  intro H enc fuel cs x hx
  have hlen : cs.length = 4 := by
    obtain ⟨_, _, _, _, hl_, _, _⟩ := DataW.trod_array Try.underlying36 hx
    rw [hl_]; kernel_rfl
  match cs, hlen with
  | [v0, v1, v2, v3], _ =>
  obtain ⟨ys1, m2, _, _, _, hl3, hg4⟩ := DataW.trod_array Try.underlying36 hx
  match ys1, hl3 with
  | [y5, y6, y7, y8], _ =>
  have c9 : Try.prog.cellsOf 22 = 1 := by kernel_rfl
  rw [c9] at hg4
  have g10 : DataW.trod enc Try.prog W 0 (fun _ => true) true m2 22 [v0] = some y5 := hg4 0 (by decide)
  have g11 : DataW.trod enc Try.prog W 0 (fun _ => true) true m2 22 [v1] = some y6 := hg4 1 (by decide)
  have g12 : DataW.trod enc Try.prog W 0 (fun _ => true) true m2 22 [v2] = some y7 := hg4 2 (by decide)
  have g13 : DataW.trod enc Try.prog W 0 (fun _ => true) true m2 22 [v3] = some y8 := hg4 3 (by decide)
  obtain ⟨a14, e15, _, w16⟩ := DataW.trod_int Try.underlying22 g10
  obtain rfl : v0 = .int .i8 a14 := by simpa using e15
  obtain ⟨a17, e18, _, w19⟩ := DataW.trod_int Try.underlying22 g11
  obtain rfl : v1 = .int .i8 a17 := by simpa using e18
  obtain ⟨a20, e21, _, w22⟩ := DataW.trod_int Try.underlying22 g12
  obtain rfl : v2 = .int .i8 a20 := by simpa using e21
  obtain ⟨a23, e24, _, w25⟩ := DataW.trod_int Try.underlying22 g13
  obtain rfl : v3 = .int .i8 a23 := by simpa using e24
  exact ⟨(⟨a14, a17, a20, a23⟩ : S36), ⟨[.int .i8 a14], [.int .i8 a17, .int .i8 a20, .int .i8 a23], rfl, rfl, ⟨[.int .i8 a17], [.int .i8 a20, .int .i8 a23], rfl, rfl, ⟨[.int .i8 a20], [.int .i8 a23], rfl, rfl, rfl⟩⟩⟩, ⟨w16, w19, w22, w25⟩⟩
theorem open0 (W : World) {H : Type} {enc : TypeId × Value → H} {fuel : Nat} {cs : List Value} {x : DataW H × List MemPlace} (hx : DataW.trod enc Try.prog W 0 (fun _ => true) true fuel 25 cs = some x) (hlen : cs.length = 3) :
    ∃ (a11 : Int) (a14 : Int) (a17 : List S36) (A20 : Option Addr) (c21 : Nat), cs = [.int .i8 a11, .int .i8 a14, .slice A20 a17.length c21] ∧ (fun x : Int => (Lit.int .i8 x).wf = true) a11 ∧ (fun x : Int => (Lit.int .i8 x).wf = true) a14 ∧ (fun xs : List S36 => xs.length ≤ maxLen ∧ ∀ x ∈ xs, (fun x : S36 => (fun x : Int => (Lit.int .i8 x).wf = true) x.f0 ∧ (fun x : Int => (Lit.int .i8 x).wf = true) x.f1 ∧ (fun x : Int => (Lit.int .i8 x).wf = true) x.f2 ∧ (fun x : Int => (Lit.int .i8 x).wf = true) x.f3) x) a17 ∧ a17.length ≤ c21 ∧ Kd.C k36 W A20 a17.length a17 := by
  match cs, hlen with
  | [u0_0, u0_1, u0_2], _ =>
  obtain ⟨ys1, m2, _, _, _, hl3, hg4⟩ := DataW.trod_struct Try.underlying25 hx
  match ys1, hl3 with
  | [y5, y6, y7], _ =>
  have g8 : DataW.trod enc Try.prog W 0 (fun _ => true) true m2 22 [u0_0] = some y5 := by have h_ : DataW.trod enc Try.prog W 0 (fun _ => true) true m2 22 (([u0_0, u0_1, u0_2].drop 0).take (Try.prog.cellsOf 22)) = [y5, y6, y7][0]? := hg4 0 _ rfl; rw [show Try.prog.cellsOf 22 = 1 by kernel_rfl] at h_; exact h_
  have g9 : DataW.trod enc Try.prog W 0 (fun _ => true) true m2 22 [u0_1] = some y6 := by have h_ : DataW.trod enc Try.prog W 0 (fun _ => true) true m2 22 (([u0_0, u0_1, u0_2].drop 1).take (Try.prog.cellsOf 22)) = [y5, y6, y7][1]? := hg4 1 _ rfl; rw [show Try.prog.cellsOf 22 = 1 by kernel_rfl] at h_; exact h_
  have g10 : DataW.trod enc Try.prog W 0 (fun _ => true) true m2 23 [u0_2] = some y7 := by have h_ : DataW.trod enc Try.prog W 0 (fun _ => true) true m2 23 (([u0_0, u0_1, u0_2].drop 2).take (Try.prog.cellsOf 23)) = [y5, y6, y7][2]? := hg4 2 _ rfl; rw [show Try.prog.cellsOf 23 = 1 by kernel_rfl] at h_; exact h_
  obtain ⟨a11, e12, _, w13⟩ := DataW.trod_int Try.underlying22 g8
  obtain rfl : u0_0 = .int .i8 a11 := by simpa using e12
  obtain ⟨a14, e15, _, w16⟩ := DataW.trod_int Try.underlying22 g9
  obtain rfl : u0_1 = .int .i8 a14 := by simpa using e15
  obtain ⟨a17, ⟨A20, c21, e18, hl22, hC23⟩, w19⟩ := (rd_slice Try.underlying23 (rd_36 W) (by kernel_rfl)) g10
  obtain rfl : u0_2 = .slice A20 a17.length c21 := by simpa using e18
  exact ⟨a11, a14, a17, A20, c21, rfl, w13, w16, w19, hl22, hC23⟩
theorem open1 (W : World) {H : Type} {enc : TypeId × Value → H} {fuel : Nat} {cs : List Value} {x : DataW H × List MemPlace} (hx : DataW.trod enc Try.prog W 0 (fun _ => true) true fuel 36 cs = some x) (hlen : cs.length = 4) :
    ∃ (a14 : Int) (a17 : Int) (a20 : Int) (a23 : Int), cs = [.int .i8 a14, .int .i8 a17, .int .i8 a20, .int .i8 a23] ∧ (fun x : Int => (Lit.int .i8 x).wf = true) a14 ∧ (fun x : Int => (Lit.int .i8 x).wf = true) a17 ∧ (fun x : Int => (Lit.int .i8 x).wf = true) a20 ∧ (fun x : Int => (Lit.int .i8 x).wf = true) a23 := by
  match cs, hlen with
  | [u1_0, u1_1, u1_2, u1_3], _ =>
  obtain ⟨ys1, m2, _, _, _, hl3, hg4⟩ := DataW.trod_array Try.underlying36 hx
  match ys1, hl3 with
  | [y5, y6, y7, y8], _ =>
  have c9 : Try.prog.cellsOf 22 = 1 := by kernel_rfl
  rw [c9] at hg4
  have g10 : DataW.trod enc Try.prog W 0 (fun _ => true) true m2 22 [u1_0] = some y5 := hg4 0 (by decide)
  have g11 : DataW.trod enc Try.prog W 0 (fun _ => true) true m2 22 [u1_1] = some y6 := hg4 1 (by decide)
  have g12 : DataW.trod enc Try.prog W 0 (fun _ => true) true m2 22 [u1_2] = some y7 := hg4 2 (by decide)
  have g13 : DataW.trod enc Try.prog W 0 (fun _ => true) true m2 22 [u1_3] = some y8 := hg4 3 (by decide)
  obtain ⟨a14, e15, _, w16⟩ := DataW.trod_int Try.underlying22 g10
  obtain rfl : u1_0 = .int .i8 a14 := by simpa using e15
  obtain ⟨a17, e18, _, w19⟩ := DataW.trod_int Try.underlying22 g11
  obtain rfl : u1_1 = .int .i8 a17 := by simpa using e18
  obtain ⟨a20, e21, _, w22⟩ := DataW.trod_int Try.underlying22 g12
  obtain rfl : u1_2 = .int .i8 a20 := by simpa using e21
  obtain ⟨a23, e24, _, w25⟩ := DataW.trod_int Try.underlying22 g13
  obtain rfl : u1_3 = .int .i8 a23 := by simpa using e24
  exact ⟨a14, a17, a20, a23, rfl, w16, w19, w22, w25⟩
set_option maxRecDepth 100000 in
set_option maxHeartbeats 1600000 in
theorem lifted (os : Os) (started : os.Started) (H : Type) (enc : TypeId × Value → H) :
    ReturnsInHanded {} Try.checked os 4 .any (Rows.fnExactDecodeNearSpec.pre6 enc Try.prog Try.f4 Rows.fnExactDecodeNearRow.domain false) (Rows.fnExactDecodeNearSpec.post enc Try.prog Try.f4 false true false false) := by
  refine returnsInHanded_of_change (C := Try.checked) own started (by kernel_rfl) Try.func4
    (ChangeSpec.witness6 (enc := enc) (C := Try.checked) false ⟨#[], #[.agg #[.int .i8 0, .int .i8 0, .slice none 0 0], .agg #[.int .i8 0, .int .i8 0, .int .i8 0, .int .i8 0], .int .i64 0], []⟩ 8 (by kernel_rfl) (by kernel_rfl) (by kernel_rfl) (by kernel_rfl)) ?_
  intro W base args ds gs before hval0 hW hcnd _
  have hval : ∀ (j : Nat) t v, Try.f4.params[j]? = some t → args[j]? = some v → Value.okWide Try.prog W .any base t v := hval0
  have hW' := hW
  obtain ⟨p, q, hA0, hV, rfl, hfz, hnd⟩ := hW
  have hA : DataW.TrodAll enc Try.prog W 0 (fun _ => true) true Try.f4.params.toList args.toList ds p := hA0
  rw [Try.params4] at hA hval
  obtain ⟨v0, vs0, d0, ds0, p0, q0, hargs, rfl, rfl, h0, r0⟩ := trodAll_cons hA
  obtain ⟨v1, vs1, d1, ds1, p1, q1, rfl, rfl, rfl, h1, r1⟩ := trodAll_cons r0
  obtain ⟨v2, vs2, d2, ds2, p2, q2, rfl, rfl, rfl, h2, r2⟩ := trodAll_cons r1
  obtain ⟨rfl, rfl, rfl⟩ := trodAll_nil r2
  obtain rfl : args = #[v0, v1, v2] := by cases args; simp_all
  obtain ⟨rfl, rfl⟩ := trodVars_none hV
  have k0 := h0
  have lt0 : ∀ x ∈ p0, x.block < W.heap.size := by obtain ⟨m, hm⟩ := k0; exact DataW.trod_lt m _ _ _ hm
  obtain ⟨cs0, rfl, hsz0⟩ := okWide_struct Try.underlying25 (hval 0 25 v0 rfl rfl)
  obtain ⟨fuel0, hf0⟩ := h0
  obtain ⟨a11_0, a14_0, a17_0, A20_0, c21_0, e0_, w13_0, w16_0, w19_0, hl22_0, hC23_0⟩ := open0 W (cs := cs0.toList) hf0 (by rw [Array.length_toList, hsz0]; kernel_rfl)
  obtain rfl : cs0 = #[.int .i8 a11_0, .int .i8 a14_0, .slice A20_0 a17_0.length c21_0] := by rw [← Array.toArray_toList (xs := cs0), e0_]
  have k1 := h1
  have lt1 : ∀ x ∈ p1, x.block < W.heap.size := by obtain ⟨m, hm⟩ := k1; exact DataW.trod_lt m _ _ _ hm
  obtain ⟨cs1, rfl, hsz1⟩ := okWide_array Try.underlying36 (hval 1 36 v1 rfl rfl)
  obtain ⟨fuel1, hf1⟩ := h1
  obtain ⟨a14_1, a17_1, a20_1, a23_1, e1_, w16_1, w19_1, w22_1, w25_1⟩ := open1 W (cs := cs1.toList) hf1 (by rw [Array.length_toList, hsz1]; kernel_rfl)
  obtain rfl : cs1 = #[.int .i8 a14_1, .int .i8 a17_1, .int .i8 a20_1, .int .i8 a23_1] := by rw [← Array.toArray_toList (xs := cs1), e1_]
  have k2 := h2
  have lt2 : ∀ x ∈ p2, x.block < W.heap.size := by obtain ⟨m, hm⟩ := k2; exact DataW.trod_lt m _ _ _ hm
  obtain ⟨fuel2, hf2⟩ := h2
  obtain ⟨a2_, rfl⟩ : ∃ z, v2 = .int .i64 z := by have h_ := hval 2 2 v2 rfl rfl; simp only [Value.okWide, Try.underlying2, Cell.okWide] at h_; cases v2 <;> simp_all [Cell.ok]
  have hg2 : DataW.trod enc Try.prog W 0 (fun _ => true) true fuel2 2 [.int .i64 a2_] = some (d2, p2) := hf2
  obtain ⟨a1, e2, w3⟩ := (rd_int Try.underlying2) hg2
  obtain rfl : a1 = a2_ := by have e_ : ([.int .i64 a1] : List Value) = [.int .i64 a2_] := Eq.symm e2; simpa using e_
  clear hA0 hval0
  obtain ⟨k_, hk_⟩ := Pure.FnExactDecodeNear a11_0 a14_0 a17_0 a14_1 a17_1 a20_1 a23_1 a1 w13_0 w16_0 w19_0 w16_1 w19_1 w22_1 w25_1 w3
  refine (laws_FnExactDecodeNear.calls k_ a11_0 a14_0 A20_0 c21_0 a17_0 a14_1 a17_1 a20_1 a23_1 a1 true W hC23_0 hl22_0 hk_).mono fun e W' ⟨he, bel⟩ => ?_
  subst he
  exact ⟨_, rfl, _, _, _, [], _, [], hW', trodAll_mk1 (shut_bool Try.underlying4 _), (trodAll_cons_mk (Below.trod laidOut (by kernel_rfl) (of_decide_eq_true (by kernel_rfl)) k0 bel lt0) (trodAll_cons_mk (Below.trod laidOut (by kernel_rfl) (of_decide_eq_true (by kernel_rfl)) k1 bel lt1) (trodAll_cons_mk (Below.trod laidOut (by kernel_rfl) (of_decide_eq_true (by kernel_rfl)) k2 bel lt2) trodAll_mk0))), rfl, bel.frame _, fun h => by cases h⟩
theorem over : Rows.fnExactDecodeNearRow.holds Try.pinned (OpenSpec.ofChange Rows.fnExactDecodeNearSpec) :=
  OpenClaim.holds_of_wide 4 Try.f4 rfl rfl rfl rfl rfl rfl rfl ⟨rfl, rfl, rfl, rfl, rfl⟩ rfl rfl rfl rfl rfl (by kernel_rfl) Try.func4 (by kernel_rfl)
    (of_decide_eq_true (by kernel_rfl)) (by unfold Func.isWrapper; first | (rw [if_pos (by decide +kernel)]; kernel_rfl) | (rw [if_neg (by decide +kernel)]; exact ⟨rfl, rfl⟩))
    (fun os started H enc _ => lifted os started H enc)
theorem proved : Rows.FnExactDecodeNearSaid := over
#print axioms proved
end Go.Proofs.Ytkieplebdbdigaa.fnExactDecodeNear
namespace Go.Proofs.Ytkieplebdbdigaa
theorem fnExactDecodeNear_holds : Rows.FnExactDecodeNearSaid := fnExactDecodeNear.proved
end Go.Proofs.Ytkieplebdbdigaa
