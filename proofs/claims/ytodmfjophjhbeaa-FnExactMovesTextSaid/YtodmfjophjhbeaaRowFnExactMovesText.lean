/- FnExactMovesText: the program's function returns what the reference's returns, for all arguments. Conditions: none beyond what the statement itself says. -/
import Derived.Test.YtodmfjophjhbeaaRows
import Derived.Test.YtodmfjophjhbeaaMx33
import Derived.Test.YtodmfjophjhbeaaPureFnExactMovesText
import Derived.Test.YtodmfjophjhbeaaMRd
import Derived.WalkKit
import Derived.ProofKit
import Derived.OpenShut
import Derived.ShutString
import Derived.ChangeOld
import Derived.Below
import Derived.SizedLaws
namespace Go.Proofs.Ytodmfjophjhbeaa.fnExactMovesText
open Go.ChangeShapes Go.WideShapes Go.ChangeAt Go.RowKit Go.Proofs.Ytodmfjophjhbeaa.Rd Go.Proofs.YtodmfjophjhbeaaW.PrintWords Go.Proofs.Ytodmfjophjhbeaa.M
open Go.ChangeMaps (open_string shut_string)
set_option linter.unusedVariables false
theorem own : ownKnob Try.prog.godebug = none := by kernel_rfl
theorem laidOut : laidOutB Try.prog = true := by kernel_rfl
theorem rd_58 (W : World) : Rd Try.prog W 58 k58 (fun x : S58 => (fun x : Int => (Lit.int .i8 x).wf = true) x.f0 ∧ (fun x : Int => (Lit.int .i8 x).wf = true) x.f1 ∧ (fun x : Int => (Lit.int .i8 x).wf = true) x.f2) := by
  intro H enc fuel cs x hx
  have hlen : cs.length = 3 := by
    obtain ⟨_, _, _, _, hl_, _, _⟩ := DataW.trod_struct Try.underlying58 hx
    rw [hl_]; kernel_rfl
  match cs, hlen with
  | [v0, v1, v2], _ =>
  obtain ⟨ys1, m2, _, _, _, hl3, hg4⟩ := DataW.trod_struct Try.underlying58 hx
  match ys1, hl3 with
  | [y5, y6, y7], _ =>
  have g8 : DataW.trod enc Try.prog W 0 (fun _ => true) true m2 56 [v0] = some y5 := by have h_ : DataW.trod enc Try.prog W 0 (fun _ => true) true m2 56 (([v0, v1, v2].drop 0).take (Try.prog.cellsOf 56)) = [y5, y6, y7][0]? := hg4 0 _ rfl; rw [show Try.prog.cellsOf 56 = 1 by kernel_rfl] at h_; exact h_
  have g9 : DataW.trod enc Try.prog W 0 (fun _ => true) true m2 56 [v1] = some y6 := by have h_ : DataW.trod enc Try.prog W 0 (fun _ => true) true m2 56 (([v0, v1, v2].drop 1).take (Try.prog.cellsOf 56)) = [y5, y6, y7][1]? := hg4 1 _ rfl; rw [show Try.prog.cellsOf 56 = 1 by kernel_rfl] at h_; exact h_
  have g10 : DataW.trod enc Try.prog W 0 (fun _ => true) true m2 56 [v2] = some y7 := by have h_ : DataW.trod enc Try.prog W 0 (fun _ => true) true m2 56 (([v0, v1, v2].drop 2).take (Try.prog.cellsOf 56)) = [y5, y6, y7][2]? := hg4 2 _ rfl; rw [show Try.prog.cellsOf 56 = 1 by kernel_rfl] at h_; exact h_
  obtain ⟨a11, e12, _, w13⟩ := DataW.trod_int Try.underlying56 g8
  obtain rfl : v0 = .int .i8 a11 := by simpa using e12
  obtain ⟨a14, e15, _, w16⟩ := DataW.trod_int Try.underlying56 g9
  obtain rfl : v1 = .int .i8 a14 := by simpa using e15
  obtain ⟨a17, e18, _, w19⟩ := DataW.trod_int Try.underlying56 g10
  obtain rfl : v2 = .int .i8 a17 := by simpa using e18
  exact ⟨(⟨a11, a14, a17⟩ : S58), ⟨[.int .i8 a11], [.int .i8 a14, .int .i8 a17], rfl, rfl, ⟨[.int .i8 a14], [.int .i8 a17], rfl, rfl, rfl⟩⟩, ⟨w13, w16, w19⟩⟩
set_option maxRecDepth 100000 in
set_option maxHeartbeats 1600000 in
theorem lifted (os : Os) (started : os.Started) (H : Type) (enc : TypeId × Value → H) :
    ReturnsInHanded {} Try.checked os 10 .any (Rows.fnExactMovesTextSpec.pre6 enc Try.prog Try.f10 Rows.fnExactMovesTextRow.domain false) (Rows.fnExactMovesTextSpec.post enc Try.prog Try.f10 false true false false) := by
  refine returnsInHanded_of_change (C := Try.checked) own started (by kernel_rfl) Try.func10
    (ChangeSpec.witness6 (enc := enc) (C := Try.checked) false ⟨#[], #[.slice none 0 0], []⟩ 8 (by kernel_rfl) (by kernel_rfl) (by kernel_rfl) (by kernel_rfl)) ?_
  intro W base args ds gs before hval0 hW hcnd _
  have hval : ∀ (j : Nat) t v, Try.f10.params[j]? = some t → args[j]? = some v → Value.okWide Try.prog W .any base t v := hval0
  have hW' := hW
  obtain ⟨p, q, hA0, hV, rfl, hfz, hnd⟩ := hW
  have hA : DataW.TrodAll enc Try.prog W 0 (fun _ => true) true Try.f10.params.toList args.toList ds p := hA0
  rw [Try.params10] at hA hval
  obtain ⟨v0, vs0, d0, ds0, p0, q0, hargs, rfl, rfl, h0, r0⟩ := trodAll_cons hA
  obtain ⟨rfl, rfl, rfl⟩ := trodAll_nil r0
  obtain rfl : args = #[v0] := by cases args; simp_all
  obtain ⟨rfl, rfl⟩ := trodVars_none hV
  have k0 := h0
  have lt0 : ∀ x ∈ p0, x.block < W.heap.size := by obtain ⟨m, hm⟩ := k0; exact DataW.trod_lt m _ _ _ hm
  obtain ⟨fuel0, hf0⟩ := h0
  obtain ⟨A0_, n0_, c0_, rfl⟩ := okWide_slice Try.underlying49 (hval 0 49 v0 rfl rfl)
  have hg0 : DataW.trod enc Try.prog W 0 (fun _ => true) true fuel0 49 [.slice A0_ n0_ c0_] = some (d0, p0) := hf0
  obtain ⟨a1, ⟨A2, c3, e4, hl5, hC6⟩, w7⟩ := (rd_slice Try.underlying49 (rd_58 W) (by kernel_rfl)) hg0
  have f0_ : A0_ = A2 ∧ n0_ = a1.length ∧ c0_ = c3 := by simpa using e4
  obtain ⟨rfl, rfl, rfl⟩ : A2 = A0_ ∧ a1.length = n0_ ∧ c3 = c0_ := ⟨f0_.1.symm, f0_.2.1.symm, f0_.2.2.symm⟩
  clear hA0 hval0
  obtain ⟨k_, hk_⟩ := Pure.FnExactMovesText a1 w7
  refine (laws_FnExactMovesText.calls k_ A2 c3 a1 true W hC6 hl5 hk_).mono fun e W' ⟨he, bel⟩ => ?_
  subst he
  exact ⟨_, rfl, _, _, _, [], _, [], hW', trodAll_mk1 (shut_bool Try.underlying4 _), (trodAll_cons_mk (Below.trod laidOut (by kernel_rfl) (of_decide_eq_true (by kernel_rfl)) k0 bel lt0) trodAll_mk0), rfl, bel.frame _, fun h => by cases h⟩
theorem over : Rows.fnExactMovesTextRow.holds Try.pinned (OpenSpec.ofChange Rows.fnExactMovesTextSpec) :=
  OpenClaim.holds_of_wide 10 Try.f10 rfl rfl rfl rfl rfl rfl rfl ⟨rfl, rfl, rfl, rfl, rfl⟩ rfl rfl rfl rfl rfl (by kernel_rfl) Try.func10 (by kernel_rfl)
    (of_decide_eq_true (by kernel_rfl)) (by unfold Func.isWrapper; first | (rw [if_pos (by decide +kernel)]; kernel_rfl) | (rw [if_neg (by decide +kernel)]; exact ⟨rfl, rfl⟩))
    (fun os started H enc _ => lifted os started H enc)
theorem proved : Rows.FnExactMovesTextSaid := over
#print axioms proved
end Go.Proofs.Ytodmfjophjhbeaa.fnExactMovesText
namespace Go.Proofs.Ytodmfjophjhbeaa
theorem fnExactMovesText_holds : Rows.FnExactMovesTextSaid := fnExactMovesText.proved
end Go.Proofs.Ytodmfjophjhbeaa
