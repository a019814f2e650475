/- FnExactLeastStepsTo: the program's function returns what the reference's returns, for all arguments. Conditions: none beyond what the statement itself says. -/
import Derived.Test.YtodmfjophjhbeaaRows
import Derived.Test.YtodmfjophjhbeaaMx29
import Derived.Test.YtodmfjophjhbeaaPureFnExactLeastStepsTo
import Derived.Test.YtodmfjophjhbeaaMRd
import Derived.WalkKit
import Derived.ProofKit
import Derived.OpenShut
import Derived.ShutString
import Derived.ChangeOld
import Derived.Below
import Derived.SizedLaws
namespace Go.Proofs.Ytodmfjophjhbeaa.fnExactLeastStepsTo
open Go.ChangeShapes Go.WideShapes Go.ChangeAt Go.RowKit Go.Proofs.Ytodmfjophjhbeaa.Rd Go.Proofs.YtodmfjophjhbeaaW.PrintWords Go.Proofs.Ytodmfjophjhbeaa.M
open Go.ChangeMaps (open_string shut_string)
set_option linter.unusedVariables false
theorem own : ownKnob Try.prog.godebug = none := by kernel_rfl
theorem laidOut : laidOutB Try.prog = true := by kernel_rfl
theorem open0 (W : World) {H : Type} {enc : TypeId × Value → H} {fuel : Nat} {cs : List Value} {x : DataW H × List MemPlace} (hx : DataW.trod enc Try.prog W 0 (fun _ => true) true fuel 26 cs = some x) (hlen : cs.length = 6) :
    ∃ (a11 : List Int) (A14 : Option Addr) (c15 : Nat) (a31 : Int) (a34 : Int) (a37 : Int) (a40 : Int) (a43 : Bool), cs = [.slice A14 a11.length c15, .int .i16 a31, .int .i16 a34, .int .i16 a37, .int .i16 a40, .bool a43] ∧ (fun xs : List Int => xs.length ≤ maxLen ∧ ∀ x ∈ xs, (fun x : Int => (Lit.int .i16 x).wf = true) x) a11 ∧ a11.length ≤ c15 ∧ Kd.C (Kd.int .i16) W A14 a11.length a11 ∧ (fun x : Int => (Lit.int .i16 x).wf = true) a31 ∧ (fun x : Int => (Lit.int .i16 x).wf = true) a34 ∧ (fun x : Int => (Lit.int .i16 x).wf = true) a37 ∧ (fun x : Int => (Lit.int .i16 x).wf = true) a40 := by
  match cs, hlen with
  | [u0_0, u0_1, u0_2, u0_3, u0_4, u0_5], _ =>
  obtain ⟨ys1, m2, _, _, _, hl3, hg4⟩ := DataW.trod_struct Try.underlying26 hx
  match ys1, hl3 with
  | [y5, y6, y7], _ =>
  have g8 : DataW.trod enc Try.prog W 0 (fun _ => true) true m2 22 [u0_0] = some y5 := by have h_ : DataW.trod enc Try.prog W 0 (fun _ => true) true m2 22 (([u0_0, u0_1, u0_2, u0_3, u0_4, u0_5].drop 0).take (Try.prog.cellsOf 22)) = [y5, y6, y7][0]? := hg4 0 _ rfl; rw [show Try.prog.cellsOf 22 = 1 by kernel_rfl] at h_; exact h_
  have g9 : DataW.trod enc Try.prog W 0 (fun _ => true) true m2 24 [u0_1, u0_2, u0_3, u0_4] = some y6 := by have h_ : DataW.trod enc Try.prog W 0 (fun _ => true) true m2 24 (([u0_0, u0_1, u0_2, u0_3, u0_4, u0_5].drop 1).take (Try.prog.cellsOf 24)) = [y5, y6, y7][1]? := hg4 1 _ rfl; rw [show Try.prog.cellsOf 24 = 4 by kernel_rfl] at h_; exact h_
  have g10 : DataW.trod enc Try.prog W 0 (fun _ => true) true m2 4 [u0_5] = some y7 := by have h_ : DataW.trod enc Try.prog W 0 (fun _ => true) true m2 4 (([u0_0, u0_1, u0_2, u0_3, u0_4, u0_5].drop 5).take (Try.prog.cellsOf 4)) = [y5, y6, y7][2]? := hg4 2 _ rfl; rw [show Try.prog.cellsOf 4 = 1 by kernel_rfl] at h_; exact h_
  obtain ⟨a11, ⟨A14, c15, e12, hl16, hC17⟩, w13⟩ := (rd_slice Try.underlying22 (rd_int Try.underlying23) (by kernel_rfl)) g8
  obtain rfl : u0_0 = .slice A14 a11.length c15 := by simpa using e12
  obtain ⟨ys18, m19, _, _, _, hl20, hg21⟩ := DataW.trod_array Try.underlying24 g9
  match ys18, hl20 with
  | [y22, y23, y24, y25], _ =>
  have c26 : Try.prog.cellsOf 23 = 1 := by kernel_rfl
  rw [c26] at hg21
  have g27 : DataW.trod enc Try.prog W 0 (fun _ => true) true m19 23 [u0_1] = some y22 := hg21 0 (by decide)
  have g28 : DataW.trod enc Try.prog W 0 (fun _ => true) true m19 23 [u0_2] = some y23 := hg21 1 (by decide)
  have g29 : DataW.trod enc Try.prog W 0 (fun _ => true) true m19 23 [u0_3] = some y24 := hg21 2 (by decide)
  have g30 : DataW.trod enc Try.prog W 0 (fun _ => true) true m19 23 [u0_4] = some y25 := hg21 3 (by decide)
  obtain ⟨a31, e32, _, w33⟩ := DataW.trod_int Try.underlying23 g27
  obtain rfl : u0_1 = .int .i16 a31 := by simpa using e32
  obtain ⟨a34, e35, _, w36⟩ := DataW.trod_int Try.underlying23 g28
  obtain rfl : u0_2 = .int .i16 a34 := by simpa using e35
  obtain ⟨a37, e38, _, w39⟩ := DataW.trod_int Try.underlying23 g29
  obtain rfl : u0_3 = .int .i16 a37 := by simpa using e38
  obtain ⟨a40, e41, _, w42⟩ := DataW.trod_int Try.underlying23 g30
  obtain rfl : u0_4 = .int .i16 a40 := by simpa using e41
  obtain ⟨a43, e44, _⟩ := DataW.trod_bool Try.underlying4 g10
  obtain rfl : u0_5 = .bool a43 := by simpa using e44
  exact ⟨a11, A14, c15, a31, a34, a37, a40, a43, rfl, w13, hl16, hC17, w33, w36, w39, w42⟩
set_option maxRecDepth 100000 in
set_option maxHeartbeats 1600000 in
theorem lifted (os : Os) (started : os.Started) (H : Type) (enc : TypeId × Value → H) :
    ReturnsInHanded {} Try.checked os 3 .any (Rows.fnExactLeastStepsToSpec.pre6 enc Try.prog Try.f3 Rows.fnExactLeastStepsToRow.domain false) (Rows.fnExactLeastStepsToSpec.post enc Try.prog Try.f3 false true false false) := by
  refine returnsInHanded_of_change (C := Try.checked) own started (by kernel_rfl) Try.func3
    (ChangeSpec.witness6 (enc := enc) (C := Try.checked) false ⟨#[], #[.agg #[.slice none 0 0, .int .i16 0, .int .i16 0, .int .i16 0, .int .i16 0, .bool false], .slice none 0 0, .int .i64 0], []⟩ 8 (by kernel_rfl) (by kernel_rfl) (by kernel_rfl) (by kernel_rfl)) ?_
  intro W base args ds gs before hval0 hW hcnd _
  have hval : ∀ (j : Nat) t v, Try.f3.params[j]? = some t → args[j]? = some v → Value.okWide Try.prog W .any base t v := hval0
  have hW' := hW
  obtain ⟨p, q, hA0, hV, rfl, hfz, hnd⟩ := hW
  have hA : DataW.TrodAll enc Try.prog W 0 (fun _ => true) true Try.f3.params.toList args.toList ds p := hA0
  rw [Try.params3] at hA hval
  obtain ⟨v0, vs0, d0, ds0, p0, q0, hargs, rfl, rfl, h0, r0⟩ := trodAll_cons hA
  obtain ⟨v1, vs1, d1, ds1, p1, q1, rfl, rfl, rfl, h1, r1⟩ := trodAll_cons r0
  obtain ⟨v2, vs2, d2, ds2, p2, q2, rfl, rfl, rfl, h2, r2⟩ := trodAll_cons r1
  obtain ⟨rfl, rfl, rfl⟩ := trodAll_nil r2
  obtain rfl : args = #[v0, v1, v2] := by cases args; simp_all
  obtain ⟨rfl, rfl⟩ := trodVars_none hV
  have k0 := h0
  have lt0 : ∀ x ∈ p0, x.block < W.heap.size := by obtain ⟨m, hm⟩ := k0; exact DataW.trod_lt m _ _ _ hm
  obtain ⟨cs0, rfl, hsz0⟩ := okWide_struct Try.underlying26 (hval 0 26 v0 rfl rfl)
  obtain ⟨fuel0, hf0⟩ := h0
  obtain ⟨a11_0, A14_0, c15_0, a31_0, a34_0, a37_0, a40_0, a43_0, e0_, w13_0, hl16_0, hC17_0, w33_0, w36_0, w39_0, w42_0⟩ := open0 W (cs := cs0.toList) hf0 (by rw [Array.length_toList, hsz0]; kernel_rfl)
  obtain rfl : cs0 = #[.slice A14_0 a11_0.length c15_0, .int .i16 a31_0, .int .i16 a34_0, .int .i16 a37_0, .int .i16 a40_0, .bool a43_0] := by rw [← Array.toArray_toList (xs := cs0), e0_]
  have k1 := h1
  have lt1 : ∀ x ∈ p1, x.block < W.heap.size := by obtain ⟨m, hm⟩ := k1; exact DataW.trod_lt m _ _ _ hm
  obtain ⟨fuel1, hf1⟩ := h1
  obtain ⟨A1_, n1_, c1_, rfl⟩ := okWide_slice Try.underlying22 (hval 1 22 v1 rfl rfl)
  have hg1 : DataW.trod enc Try.prog W 0 (fun _ => true) true fuel1 22 [.slice A1_ n1_ c1_] = some (d1, p1) := hf1
  obtain ⟨a1, ⟨A2, c3, e4, hl5, hC6⟩, w7⟩ := (rd_slice Try.underlying22 (rd_int Try.underlying23) (by kernel_rfl)) hg1
  have f1_ : A1_ = A2 ∧ n1_ = a1.length ∧ c1_ = c3 := by simpa using e4
  obtain ⟨rfl, rfl, rfl⟩ : A2 = A1_ ∧ a1.length = n1_ ∧ c3 = c1_ := ⟨f1_.1.symm, f1_.2.1.symm, f1_.2.2.symm⟩
  have k2 := h2
  have lt2 : ∀ x ∈ p2, x.block < W.heap.size := by obtain ⟨m, hm⟩ := k2; exact DataW.trod_lt m _ _ _ hm
  obtain ⟨fuel2, hf2⟩ := h2
  obtain ⟨a2_, rfl⟩ : ∃ z, v2 = .int .i64 z := by have h_ := hval 2 2 v2 rfl rfl; simp only [Value.okWide, Try.underlying2, Cell.okWide] at h_; cases v2 <;> simp_all [Cell.ok]
  have hg2 : DataW.trod enc Try.prog W 0 (fun _ => true) true fuel2 2 [.int .i64 a2_] = some (d2, p2) := hf2
  obtain ⟨a8, e9, w10⟩ := (rd_int Try.underlying2) hg2
  obtain rfl : a8 = a2_ := by have e_ : ([.int .i64 a8] : List Value) = [.int .i64 a2_] := Eq.symm e9; simpa using e_
  clear hA0 hval0
  obtain ⟨k_, hk_⟩ := Pure.FnExactLeastStepsTo a11_0 a31_0 a34_0 a37_0 a40_0 a43_0 a1 a8 w13_0 w33_0 w36_0 w39_0 w42_0 w7 w10
  refine (laws_FnExactLeastStepsTo.calls k_ A14_0 c15_0 a11_0 a31_0 a34_0 a37_0 a40_0 a43_0 A2 c3 a1 a8 true W hC17_0 hl16_0 hC6 hl5 hk_).mono fun e W' ⟨he, bel⟩ => ?_
  subst he
  exact ⟨_, rfl, _, _, _, [], _, [], hW', trodAll_mk1 (shut_bool Try.underlying4 _), (trodAll_cons_mk (Below.trod laidOut (by kernel_rfl) (of_decide_eq_true (by kernel_rfl)) k0 bel lt0) (trodAll_cons_mk (Below.trod laidOut (by kernel_rfl) (of_decide_eq_true (by kernel_rfl)) k1 bel lt1) (trodAll_cons_mk (Below.trod laidOut (by kernel_rfl) (of_decide_eq_true (by kernel_rfl)) k2 bel lt2) trodAll_mk0))), rfl, bel.frame _, fun h => by cases h⟩
theorem over : Rows.fnExactLeastStepsToRow.holds Try.pinned (OpenSpec.ofChange Rows.fnExactLeastStepsToSpec) :=
  OpenClaim.holds_of_wide 3 Try.f3 rfl rfl rfl rfl rfl rfl rfl ⟨rfl, rfl, rfl, rfl, rfl⟩ rfl rfl rfl rfl rfl (by kernel_rfl) Try.func3 (by kernel_rfl)
    (of_decide_eq_true (by kernel_rfl)) (by unfold Func.isWrapper; first | (rw [if_pos (by decide +kernel)]; kernel_rfl) | (rw [if_neg (by decide +kernel)]; exact ⟨rfl, rfl⟩))
    (fun os started H enc _ => lifted os started H enc)
theorem proved : Rows.FnExactLeastStepsToSaid := over
#print axioms proved
end Go.Proofs.Ytodmfjophjhbeaa.fnExactLeastStepsTo
namespace Go.Proofs.Ytodmfjophjhbeaa
theorem fnExactLeastStepsTo_holds : Rows.FnExactLeastStepsToSaid := fnExactLeastStepsTo.proved
end Go.Proofs.Ytodmfjophjhbeaa
