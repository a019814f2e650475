/- FnExactWeighingText: the program's function returns what the reference's returns, for all arguments. Conditions: none beyond what the statement itself says. -/
import Derived.Test.YtajbeamkjoeifaaRows
import Derived.Test.YtajbeamkjoeifaaMx8
import Derived.Test.YtajbeamkjoeifaaPureFnExactWeighingText
import Derived.Test.YtajbeamkjoeifaaMRd
import Derived.WalkKit
import Derived.ProofKit
import Derived.OpenShut
import Derived.ShutString
import Derived.ChangeOld
import Derived.Below
import Derived.SizedLaws
namespace Go.Proofs.Ytajbeamkjoeifaa.fnExactWeighingText
open Go.ChangeShapes Go.WideShapes Go.ChangeAt Go.RowKit Go.Proofs.Ytajbeamkjoeifaa.Rd Go.Proofs.YtajbeamkjoeifaaW.PrintWords Go.Proofs.Ytajbeamkjoeifaa.M
open Go.ChangeMaps (open_string shut_string)
set_option linter.unusedVariables false
theorem own : ownKnob Try.prog.godebug = none := by kernel_rfl
theorem laidOut : laidOutB Try.prog = true := by kernel_rfl
theorem open0 (W : World) {H : Type} {enc : TypeId × Value → H} {fuel : Nat} {cs : List Value} {x : DataW H × List MemPlace} (hx : DataW.trod enc Try.prog W 0 (fun _ => true) true fuel 24 cs = some x) (hlen : cs.length = 4) :
    ∃ (a13 : Int) (a16 : Int) (a19 : Bool) (a22 : Bool), cs = [.int .i8 a13, .int .i8 a16, .bool a19, .bool a22] ∧ (fun x : Int => (Lit.int .i8 x).wf = true) a13 ∧ (fun x : Int => (Lit.int .i8 x).wf = true) a16 := by
  match cs, hlen with
  | [u0_0, u0_1, u0_2, u0_3], _ =>
  obtain ⟨ys1, m2, _, _, _, hl3, hg4⟩ := DataW.trod_struct Try.underlying24 hx
  match ys1, hl3 with
  | [y5, y6, y7, y8], _ =>
  have g9 : DataW.trod enc Try.prog W 0 (fun _ => true) true m2 22 [u0_0] = some y5 := by have h_ : DataW.trod enc Try.prog W 0 (fun _ => true) true m2 22 (([u0_0, u0_1, u0_2, u0_3].drop 0).take (Try.prog.cellsOf 22)) = [y5, y6, y7, y8][0]? := hg4 0 _ rfl; rw [show Try.prog.cellsOf 22 = 1 by kernel_rfl] at h_; exact h_
  have g10 : DataW.trod enc Try.prog W 0 (fun _ => true) true m2 22 [u0_1] = some y6 := by have h_ : DataW.trod enc Try.prog W 0 (fun _ => true) true m2 22 (([u0_0, u0_1, u0_2, u0_3].drop 1).take (Try.prog.cellsOf 22)) = [y5, y6, y7, y8][1]? := hg4 1 _ rfl; rw [show Try.prog.cellsOf 22 = 1 by kernel_rfl] at h_; exact h_
  have g11 : DataW.trod enc Try.prog W 0 (fun _ => true) true m2 4 [u0_2] = some y7 := by have h_ : DataW.trod enc Try.prog W 0 (fun _ => true) true m2 4 (([u0_0, u0_1, u0_2, u0_3].drop 2).take (Try.prog.cellsOf 4)) = [y5, y6, y7, y8][2]? := hg4 2 _ rfl; rw [show Try.prog.cellsOf 4 = 1 by kernel_rfl] at h_; exact h_
  have g12 : DataW.trod enc Try.prog W 0 (fun _ => true) true m2 4 [u0_3] = some y8 := by have h_ : DataW.trod enc Try.prog W 0 (fun _ => true) true m2 4 (([u0_0, u0_1, u0_2, u0_3].drop 3).take (Try.prog.cellsOf 4)) = [y5, y6, y7, y8][3]? := hg4 3 _ rfl; rw [show Try.prog.cellsOf 4 = 1 by kernel_rfl] at h_; exact h_
  obtain ⟨a13, e14, _, w15⟩ := DataW.trod_int Try.underlying22 g9
  obtain rfl : u0_0 = .int .i8 a13 := by simpa using e14
  obtain ⟨a16, e17, _, w18⟩ := DataW.trod_int Try.underlying22 g10
  obtain rfl : u0_1 = .int .i8 a16 := by simpa using e17
  obtain ⟨a19, e20, _⟩ := DataW.trod_bool Try.underlying4 g11
  obtain rfl : u0_2 = .bool a19 := by simpa using e20
  obtain ⟨a22, e23, _⟩ := DataW.trod_bool Try.underlying4 g12
  obtain rfl : u0_3 = .bool a22 := by simpa using e23
  exact ⟨a13, a16, a19, a22, rfl, w15, w18⟩
theorem open1 (W : World) {H : Type} {enc : TypeId × Value → H} {fuel : Nat} {cs : List Value} {x : DataW H × List MemPlace} (hx : DataW.trod enc Try.prog W 0 (fun _ => true) true fuel 29 cs = some x) (hlen : cs.length = 14) :
    ∃ (a34 : Int) (a37 : Int) (a40 : Int) (a43 : Int) (a46 : Int) (a49 : Int) (a52 : Int) (a55 : Int) (a58 : Int) (a61 : Int) (a64 : Int) (a67 : Int) (a70 : Int) (a73 : Int), cs = [.int .i8 a34, .int .i8 a37, .int .i8 a40, .int .i8 a43, .int .i8 a46, .int .i8 a49, .int .i8 a52, .int .i8 a55, .int .i8 a58, .int .i8 a61, .int .i8 a64, .int .i8 a67, .int .i8 a70, .int .i8 a73] ∧ (fun x : Int => (Lit.int .i8 x).wf = true) a34 ∧ (fun x : Int => (Lit.int .i8 x).wf = true) a37 ∧ (fun x : Int => (Lit.int .i8 x).wf = true) a40 ∧ (fun x : Int => (Lit.int .i8 x).wf = true) a43 ∧ (fun x : Int => (Lit.int .i8 x).wf = true) a46 ∧ (fun x : Int => (Lit.int .i8 x).wf = true) a49 ∧ (fun x : Int => (Lit.int .i8 x).wf = true) a52 ∧ (fun x : Int => (Lit.int .i8 x).wf = true) a55 ∧ (fun x : Int => (Lit.int .i8 x).wf = true) a58 ∧ (fun x : Int => (Lit.int .i8 x).wf = true) a61 ∧ (fun x : Int => (Lit.int .i8 x).wf = true) a64 ∧ (fun x : Int => (Lit.int .i8 x).wf = true) a67 ∧ (fun x : Int => (Lit.int .i8 x).wf = true) a70 ∧ (fun x : Int => (Lit.int .i8 x).wf = true) a73 := by
  match cs, hlen with
  | [u1_0, u1_1, u1_2, u1_3, u1_4, u1_5, u1_6, u1_7, u1_8, u1_9, u1_10, u1_11, u1_12, u1_13], _ =>
  obtain ⟨ys1, m2, _, _, _, hl3, hg4⟩ := DataW.trod_array Try.underlying29 hx
  match ys1, hl3 with
  | [y5, y6, y7, y8, y9, y10, y11, y12, y13, y14, y15, y16, y17, y18], _ =>
  have c19 : Try.prog.cellsOf 22 = 1 := by kernel_rfl
  rw [c19] at hg4
  have g20 : DataW.trod enc Try.prog W 0 (fun _ => true) true m2 22 [u1_0] = some y5 := hg4 0 (by decide)
  have g21 : DataW.trod enc Try.prog W 0 (fun _ => true) true m2 22 [u1_1] = some y6 := hg4 1 (by decide)
  have g22 : DataW.trod enc Try.prog W 0 (fun _ => true) true m2 22 [u1_2] = some y7 := hg4 2 (by decide)
  have g23 : DataW.trod enc Try.prog W 0 (fun _ => true) true m2 22 [u1_3] = some y8 := hg4 3 (by decide)
  have g24 : DataW.trod enc Try.prog W 0 (fun _ => true) true m2 22 [u1_4] = some y9 := hg4 4 (by decide)
  have g25 : DataW.trod enc Try.prog W 0 (fun _ => true) true m2 22 [u1_5] = some y10 := hg4 5 (by decide)
  have g26 : DataW.trod enc Try.prog W 0 (fun _ => true) true m2 22 [u1_6] = some y11 := hg4 6 (by decide)
  have g27 : DataW.trod enc Try.prog W 0 (fun _ => true) true m2 22 [u1_7] = some y12 := hg4 7 (by decide)
  have g28 : DataW.trod enc Try.prog W 0 (fun _ => true) true m2 22 [u1_8] = some y13 := hg4 8 (by decide)
  have g29 : DataW.trod enc Try.prog W 0 (fun _ => true) true m2 22 [u1_9] = some y14 := hg4 9 (by decide)
  have g30 : DataW.trod enc Try.prog W 0 (fun _ => true) true m2 22 [u1_10] = some y15 := hg4 10 (by decide)
  have g31 : DataW.trod enc Try.prog W 0 (fun _ => true) true m2 22 [u1_11] = some y16 := hg4 11 (by decide)
  have g32 : DataW.trod enc Try.prog W 0 (fun _ => true) true m2 22 [u1_12] = some y17 := hg4 12 (by decide)
  have g33 : DataW.trod enc Try.prog W 0 (fun _ => true) true m2 22 [u1_13] = some y18 := hg4 13 (by decide)
  obtain ⟨a34, e35, _, w36⟩ := DataW.trod_int Try.underlying22 g20
  obtain rfl : u1_0 = .int .i8 a34 := by simpa using e35
  obtain ⟨a37, e38, _, w39⟩ := DataW.trod_int Try.underlying22 g21
  obtain rfl : u1_1 = .int .i8 a37 := by simpa using e38
  obtain ⟨a40, e41, _, w42⟩ := DataW.trod_int Try.underlying22 g22
  obtain rfl : u1_2 = .int .i8 a40 := by simpa using e41
  obtain ⟨a43, e44, _, w45⟩ := DataW.trod_int Try.underlying22 g23
  obtain rfl : u1_3 = .int .i8 a43 := by simpa using e44
  obtain ⟨a46, e47, _, w48⟩ := DataW.trod_int Try.underlying22 g24
  obtain rfl : u1_4 = .int .i8 a46 := by simpa using e47
  obtain ⟨a49, e50, _, w51⟩ := DataW.trod_int Try.underlying22 g25
  obtain rfl : u1_5 = .int .i8 a49 := by simpa using e50
  obtain ⟨a52, e53, _, w54⟩ := DataW.trod_int Try.underlying22 g26
  obtain rfl : u1_6 = .int .i8 a52 := by simpa using e53
  obtain ⟨a55, e56, _, w57⟩ := DataW.trod_int Try.underlying22 g27
  obtain rfl : u1_7 = .int .i8 a55 := by simpa using e56
  obtain ⟨a58, e59, _, w60⟩ := DataW.trod_int Try.underlying22 g28
  obtain rfl : u1_8 = .int .i8 a58 := by simpa using e59
  obtain ⟨a61, e62, _, w63⟩ := DataW.trod_int Try.underlying22 g29
  obtain rfl : u1_9 = .int .i8 a61 := by simpa using e62
  obtain ⟨a64, e65, _, w66⟩ := DataW.trod_int Try.underlying22 g30
  obtain rfl : u1_10 = .int .i8 a64 := by simpa using e65
  obtain ⟨a67, e68, _, w69⟩ := DataW.trod_int Try.underlying22 g31
  obtain rfl : u1_11 = .int .i8 a67 := by simpa using e68
  obtain ⟨a70, e71, _, w72⟩ := DataW.trod_int Try.underlying22 g32
  obtain rfl : u1_12 = .int .i8 a70 := by simpa using e71
  obtain ⟨a73, e74, _, w75⟩ := DataW.trod_int Try.underlying22 g33
  obtain rfl : u1_13 = .int .i8 a73 := by simpa using e74
  exact ⟨a34, a37, a40, a43, a46, a49, a52, a55, a58, a61, a64, a67, a70, a73, rfl, w36, w39, w42, w45, w48, w51, w54, w57, w60, w63, w66, w69, w72, w75⟩
set_option maxRecDepth 100000 in
set_option maxHeartbeats 400000 in
theorem lifted (os : Os) (started : os.Started) (H : Type) (enc : TypeId × Value → H) :
    ReturnsInHanded {} Try.checked os 6 .any (Rows.fnExactWeighingTextSpec.pre6 enc Try.prog Try.f6 Rows.fnExactWeighingTextRow.domain false) (Rows.fnExactWeighingTextSpec.post enc Try.prog Try.f6 false true false false) := by
  refine returnsInHanded_of_change (C := Try.checked) own started (by kernel_rfl) Try.func6
    (ChangeSpec.witness6 (enc := enc) (C := Try.checked) false ⟨#[], #[.agg #[.int .i8 0, .int .i8 0, .bool false, .bool false], .agg #[.int .i8 0, .int .i8 0, .int .i8 0, .int .i8 0, .int .i8 0, .int .i8 0, .int .i8 0, .int .i8 0, .int .i8 0, .int .i8 0, .int .i8 0, .int .i8 0, .int .i8 0, .int .i8 0]], []⟩ 8 (by kernel_rfl) (by kernel_rfl) (by kernel_rfl) (by kernel_rfl)) ?_
  intro W base args ds gs before hval0 hW hcnd _
  have hval : ∀ (j : Nat) t v, Try.f6.params[j]? = some t → args[j]? = some v → Value.okWide Try.prog W .any base t v := hval0
  have hW' := hW
  obtain ⟨p, q, hA0, hV, rfl, hfz, hnd⟩ := hW
  have hA : DataW.TrodAll enc Try.prog W 0 (fun _ => true) true Try.f6.params.toList args.toList ds p := hA0
  rw [Try.params6] at hA hval
  obtain ⟨v0, vs0, d0, ds0, p0, q0, hargs, rfl, rfl, h0, r0⟩ := trodAll_cons hA
  obtain ⟨v1, vs1, d1, ds1, p1, q1, rfl, rfl, rfl, h1, r1⟩ := trodAll_cons r0
  obtain ⟨rfl, rfl, rfl⟩ := trodAll_nil r1
  obtain rfl : args = #[v0, v1] := by cases args; simp_all
  obtain ⟨rfl, rfl⟩ := trodVars_none hV
  have k0 := h0
  have lt0 : ∀ x ∈ p0, x.block < W.heap.size := by obtain ⟨m, hm⟩ := k0; exact DataW.trod_lt m _ _ _ hm
  obtain ⟨cs0, rfl, hsz0⟩ := okWide_struct Try.underlying24 (hval 0 24 v0 rfl rfl)
  obtain ⟨fuel0, hf0⟩ := h0
  obtain ⟨a13_0, a16_0, a19_0, a22_0, e0_, w15_0, w18_0⟩ := open0 W (cs := cs0.toList) hf0 (by rw [Array.length_toList, hsz0]; kernel_rfl)
  obtain rfl : cs0 = #[.int .i8 a13_0, .int .i8 a16_0, .bool a19_0, .bool a22_0] := by rw [← Array.toArray_toList (xs := cs0), e0_]
  have k1 := h1
  have lt1 : ∀ x ∈ p1, x.block < W.heap.size := by obtain ⟨m, hm⟩ := k1; exact DataW.trod_lt m _ _ _ hm
  obtain ⟨cs1, rfl, hsz1⟩ := okWide_array Try.underlying29 (hval 1 29 v1 rfl rfl)
  obtain ⟨fuel1, hf1⟩ := h1
  obtain ⟨a34_1, a37_1, a40_1, a43_1, a46_1, a49_1, a52_1, a55_1, a58_1, a61_1, a64_1, a67_1, a70_1, a73_1, e1_, w36_1, w39_1, w42_1, w45_1, w48_1, w51_1, w54_1, w57_1, w60_1, w63_1, w66_1, w69_1, w72_1, w75_1⟩ := open1 W (cs := cs1.toList) hf1 (by rw [Array.length_toList, hsz1]; kernel_rfl)
  obtain rfl : cs1 = #[.int .i8 a34_1, .int .i8 a37_1, .int .i8 a40_1, .int .i8 a43_1, .int .i8 a46_1, .int .i8 a49_1, .int .i8 a52_1, .int .i8 a55_1, .int .i8 a58_1, .int .i8 a61_1, .int .i8 a64_1, .int .i8 a67_1, .int .i8 a70_1, .int .i8 a73_1] := by rw [← Array.toArray_toList (xs := cs1), e1_]
  clear hA0 hval0
  obtain ⟨k_, hk_⟩ := Pure.FnExactWeighingText a13_0 a16_0 a19_0 a22_0 a34_1 a37_1 a40_1 a43_1 a46_1 a49_1 a52_1 a55_1 a58_1 a61_1 a64_1 a67_1 a70_1 a73_1 w15_0 w18_0 w36_1 w39_1 w42_1 w45_1 w48_1 w51_1 w54_1 w57_1 w60_1 w63_1 w66_1 w69_1 w72_1 w75_1
  refine (laws_FnExactWeighingText.calls k_ a13_0 a16_0 a19_0 a22_0 a34_1 a37_1 a40_1 a43_1 a46_1 a49_1 a52_1 a55_1 a58_1 a61_1 a64_1 a67_1 a70_1 a73_1 true W  hk_).mono fun e W' ⟨he, bel⟩ => ?_
  subst he
  exact ⟨_, rfl, _, _, _, [], _, [], hW', trodAll_mk1 (shut_bool Try.underlying4 _), (trodAll_cons_mk (Below.trod laidOut (by kernel_rfl) (of_decide_eq_true (by kernel_rfl)) k0 bel lt0) (trodAll_cons_mk (Below.trod laidOut (by kernel_rfl) (of_decide_eq_true (by kernel_rfl)) k1 bel lt1) trodAll_mk0)), rfl, bel.frame _, fun h => by cases h⟩
theorem over : Rows.fnExactWeighingTextRow.holds Try.pinned (OpenSpec.ofChange Rows.fnExactWeighingTextSpec) :=
  OpenClaim.holds_of_wide 6 Try.f6 rfl rfl rfl rfl rfl rfl rfl ⟨rfl, rfl, rfl, rfl, rfl⟩ rfl rfl rfl rfl rfl (by kernel_rfl) Try.func6 (by kernel_rfl)
    (of_decide_eq_true (by kernel_rfl)) (by unfold Func.isWrapper; first | (rw [if_pos (by decide +kernel)]; kernel_rfl) | (rw [if_neg (by decide +kernel)]; exact ⟨rfl, rfl⟩))
    (fun os started H enc _ => lifted os started H enc)
theorem proved : Rows.FnExactWeighingTextSaid := over
#print axioms proved
end Go.Proofs.Ytajbeamkjoeifaa.fnExactWeighingText
namespace Go.Proofs.Ytajbeamkjoeifaa
theorem fnExactWeighingText_holds : Rows.FnExactWeighingTextSaid := fnExactWeighingText.proved
end Go.Proofs.Ytajbeamkjoeifaa
