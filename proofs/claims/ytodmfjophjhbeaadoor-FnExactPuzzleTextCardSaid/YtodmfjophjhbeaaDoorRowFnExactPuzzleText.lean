/- FnExactPuzzleText: the program's function returns what the reference's returns, for all arguments. Conditions: none beyond what the statement itself says. -/
import Derived.Test.YtodmfjophjhbeaaDoorRows
import Derived.Test.YtodmfjophjhbeaaDoorCards
import Derived.Test.YtodmfjophjhbeaaDoorTie
import Derived.LaidMore
import Derived.SevenTiedAt
import Derived.Test.YtodmfjophjhbeaaDoorMx13
import Derived.Test.YtodmfjophjhbeaaDoorPureFnExactPuzzleText
import Derived.Test.YtodmfjophjhbeaaDoorMRd
import Derived.WalkKit
import Derived.ProofKit
import Derived.OpenShut
import Derived.ShutString
import Derived.ChangeOld
import Derived.Below
import Derived.SizedLaws
namespace Go.Proofs.YtodmfjophjhbeaaDoor.fnExactPuzzleText
open Go.ChangeShapes Go.WideShapes Go.ChangeAt Go.RowKit Go.Proofs.YtodmfjophjhbeaaDoor.Rd Go.Proofs.YtodmfjophjhbeaaDoorW.PrintWords Go.Proofs.YtodmfjophjhbeaaDoor.M
open Go.ChangeMaps (open_string shut_string)
set_option linter.unusedVariables false
theorem own : ownKnob Tryd.prog.godebug = none := by kernel_rfl
theorem laidOut : laidOutB Tryd.prog = true := by kernel_rfl
theorem open0 (W : World) {H : Type} {enc : TypeId × Value → H} {fuel : Nat} {cs : List Value} {x : DataW H × List MemPlace} (hx : DataW.trod enc Tryd.prog W 0 (fun _ => true) true fuel 26 cs = some x) (hlen : cs.length = 6) :
    ∃ (a11 : List Int) (A14 : Option Addr) (c15 : Nat) (a31 : Int) (a34 : Int) (a37 : Int) (a40 : Int) (a43 : Bool), cs = [.slice A14 a11.length c15, .int .i16 a31, .int .i16 a34, .int .i16 a37, .int .i16 a40, .bool a43] ∧ (fun xs : List Int => xs.length ≤ maxLen ∧ ∀ x ∈ xs, (fun x : Int => (Lit.int .i16 x).wf = true) x) a11 ∧ a11.length ≤ c15 ∧ Kd.C (Kd.int .i16) W A14 a11.length a11 ∧ (fun x : Int => (Lit.int .i16 x).wf = true) a31 ∧ (fun x : Int => (Lit.int .i16 x).wf = true) a34 ∧ (fun x : Int => (Lit.int .i16 x).wf = true) a37 ∧ (fun x : Int => (Lit.int .i16 x).wf = true) a40 := by
  match cs, hlen with
  | [u0_0, u0_1, u0_2, u0_3, u0_4, u0_5], _ =>
  obtain ⟨ys1, m2, _, _, _, hl3, hg4⟩ := DataW.trod_struct Tryd.underlying26 hx
  match ys1, hl3 with
  | [y5, y6, y7], _ =>
  have g8 : DataW.trod enc Tryd.prog W 0 (fun _ => true) true m2 22 [u0_0] = some y5 := by have h_ : DataW.trod enc Tryd.prog W 0 (fun _ => true) true m2 22 (([u0_0, u0_1, u0_2, u0_3, u0_4, u0_5].drop 0).take (Tryd.prog.cellsOf 22)) = [y5, y6, y7][0]? := hg4 0 _ rfl; rw [show Tryd.prog.cellsOf 22 = 1 by kernel_rfl] at h_; exact h_
  have g9 : DataW.trod enc Tryd.prog W 0 (fun _ => true) true m2 24 [u0_1, u0_2, u0_3, u0_4] = some y6 := by have h_ : DataW.trod enc Tryd.prog W 0 (fun _ => true) true m2 24 (([u0_0, u0_1, u0_2, u0_3, u0_4, u0_5].drop 1).take (Tryd.prog.cellsOf 24)) = [y5, y6, y7][1]? := hg4 1 _ rfl; rw [show Tryd.prog.cellsOf 24 = 4 by kernel_rfl] at h_; exact h_
  have g10 : DataW.trod enc Tryd.prog W 0 (fun _ => true) true m2 4 [u0_5] = some y7 := by have h_ : DataW.trod enc Tryd.prog W 0 (fun _ => true) true m2 4 (([u0_0, u0_1, u0_2, u0_3, u0_4, u0_5].drop 5).take (Tryd.prog.cellsOf 4)) = [y5, y6, y7][2]? := hg4 2 _ rfl; rw [show Tryd.prog.cellsOf 4 = 1 by kernel_rfl] at h_; exact h_
  obtain ⟨a11, ⟨A14, c15, e12, hl16, hC17⟩, w13⟩ := (rd_slice Tryd.underlying22 (rd_int Tryd.underlying23) (by kernel_rfl)) g8
  obtain rfl : u0_0 = .slice A14 a11.length c15 := by simpa using e12
  obtain ⟨ys18, m19, _, _, _, hl20, hg21⟩ := DataW.trod_array Tryd.underlying24 g9
  match ys18, hl20 with
  | [y22, y23, y24, y25], _ =>
  have c26 : Tryd.prog.cellsOf 23 = 1 := by kernel_rfl
  rw [c26] at hg21
  have g27 : DataW.trod enc Tryd.prog W 0 (fun _ => true) true m19 23 [u0_1] = some y22 := hg21 0 (by decide)
  have g28 : DataW.trod enc Tryd.prog W 0 (fun _ => true) true m19 23 [u0_2] = some y23 := hg21 1 (by decide)
  have g29 : DataW.trod enc Tryd.prog W 0 (fun _ => true) true m19 23 [u0_3] = some y24 := hg21 2 (by decide)
  have g30 : DataW.trod enc Tryd.prog W 0 (fun _ => true) true m19 23 [u0_4] = some y25 := hg21 3 (by decide)
  obtain ⟨a31, e32, _, w33⟩ := DataW.trod_int Tryd.underlying23 g27
  obtain rfl : u0_1 = .int .i16 a31 := by simpa using e32
  obtain ⟨a34, e35, _, w36⟩ := DataW.trod_int Tryd.underlying23 g28
  obtain rfl : u0_2 = .int .i16 a34 := by simpa using e35
  obtain ⟨a37, e38, _, w39⟩ := DataW.trod_int Tryd.underlying23 g29
  obtain rfl : u0_3 = .int .i16 a37 := by simpa using e38
  obtain ⟨a40, e41, _, w42⟩ := DataW.trod_int Tryd.underlying23 g30
  obtain rfl : u0_4 = .int .i16 a40 := by simpa using e41
  obtain ⟨a43, e44, _⟩ := DataW.trod_bool Tryd.underlying4 g10
  obtain rfl : u0_5 = .bool a43 := by simpa using e44
  exact ⟨a11, A14, c15, a31, a34, a37, a40, a43, rfl, w13, hl16, hC17, w33, w36, w39, w42⟩
/-- What the row lists. -/
abbrev laidL : List (String × DataW Unit) := [("math/bits.deBruijn32tab", Rows.laid_math_bits_deBruijn32tab), ("math/bits.deBruijn64tab", Rows.laid_math_bits_deBruijn64tab), ("internal/strconv.uint64pow10", Rows.laid_internal_strconv_uint64pow10)]
theorem door_met (os : Os) (args : Array Value) : laidMetH Tryd.prog laidL ((World.doorLaid Tryd.prog 34 os).forCall (fun _ _ => 0) ⟨#[], args, []⟩).memory :=
  laidMetH_of_parts3 (fuel := 8) (laidMet_of_run' 8 (by kernel_rfl) (by kernel_rfl)) (by kernel_rfl) (by kernel_rfl)
set_option maxRecDepth 100000 in
set_option maxHeartbeats 1600000 in
theorem lifted (os : Os) (started : os.Started) (H : Type) (enc : TypeId × Value → H) :
    ReturnsInHanded {} Tryd.checked os 3 .any (fun w args => (Rows.fnExactPuzzleTextSpec.pre enc Tryd.prog Tryd.f3 [] false w args ∧ laidMetH Tryd.prog laidL w) ∧ sizedMet enc Tryd.prog Tryd.f3 (OpenSpec.ofChange Rows.fnExactPuzzleTextSpec) false w args) (Rows.fnExactPuzzleTextSpec.post enc Tryd.prog Tryd.f3 false true false false) := by
  refine returnsInHanded_of_change_and (C := Tryd.checked) (X := fun w _ => laidMetH Tryd.prog laidL w) (fun _ _ _ hh h => h.of_heap hh) own started (by kernel_rfl) Tryd.func3
    (ChangeSpec.witness_shaped (enc := enc) (C := Tryd.checked) (os := os) (X := fun w _ => laidMetH Tryd.prog laidL w) false (World.doorLaid Tryd.prog 34 os) #[.agg #[.slice none 0 0, .int .i16 0, .int .i16 0, .int .i16 0, .int .i16 0, .bool false]] 8 rfl (World.shaped_of_RefB (by kernel_rfl) (by kernel_rfl)) (by kernel_rfl) (by kernel_rfl) (by kernel_rfl) (door_met os _)) ?_
  intro W base args ds gs before hval0 hW hcnd _ hL _
  have hval : ∀ (j : Nat) t v, Tryd.f3.params[j]? = some t → args[j]? = some v → Value.okWide Tryd.prog W .any base t v := hval0
  have hW' := hW
  obtain ⟨p, q, hA0, hV, rfl, hfz, hnd⟩ := hW
  have hA : DataW.TrodAll enc Tryd.prog W 0 (fun _ => true) true Tryd.f3.params.toList args.toList ds p := hA0
  rw [Tryd.params3] at hA hval
  obtain ⟨v0, vs0, d0, ds0, p0, q0, hargs, rfl, rfl, h0, r0⟩ := trodAll_cons hA
  obtain ⟨rfl, rfl, rfl⟩ := trodAll_nil r0
  obtain rfl : args = #[v0] := by cases args; simp_all
  obtain ⟨rfl, rfl⟩ := trodVars_none hV
  have k0 := h0
  have lt0 : ∀ x ∈ p0, x.block < W.heap.size := by obtain ⟨m, hm⟩ := k0; exact DataW.trod_lt m _ _ _ hm
  obtain ⟨cs0, rfl, hsz0⟩ := okWide_struct Tryd.underlying26 (hval 0 26 v0 rfl rfl)
  obtain ⟨fuel0, hf0⟩ := h0
  obtain ⟨a11_0, A14_0, c15_0, a31_0, a34_0, a37_0, a40_0, a43_0, e0_, w13_0, hl16_0, hC17_0, w33_0, w36_0, w39_0, w42_0⟩ := open0 W (cs := cs0.toList) hf0 (by rw [Array.length_toList, hsz0]; kernel_rfl)
  obtain rfl : cs0 = #[.slice A14_0 a11_0.length c15_0, .int .i16 a31_0, .int .i16 a34_0, .int .i16 a37_0, .int .i16 a40_0, .bool a43_0] := by rw [← Array.toArray_toList (xs := cs0), e0_]
  clear hA0 hval0
  try simp only [List.append_nil] at hW'
  obtain ⟨k_, hk_⟩ := Pure.FnExactPuzzleText a11_0 a31_0 a34_0 a37_0 a40_0 a43_0 w13_0 w33_0 w36_0 w39_0 w42_0
  refine (laws_FnExactPuzzleText.calls k_ A14_0 c15_0 a11_0 a31_0 a34_0 a37_0 a40_0 a43_0 true W hC17_0 hl16_0 hk_).mono fun e W' ⟨he, bel⟩ => ?_
  subst he
  exact ⟨_, rfl, _, _, _, [], _, [], hW', trodAll_mk1 (shut_bool Tryd.underlying4 _), (trodAll_cons_mk (Below.trod laidOut (by kernel_rfl) (of_decide_eq_true (by kernel_rfl)) k0 bel lt0) trodAll_mk0), rfl, bel.frame _, fun h => by cases h⟩
theorem over : Rows.fnExactPuzzleTextRow.holds Tryd.pinned (OpenSpec.ofChange Rows.fnExactPuzzleTextSpec) :=
  OpenClaim.holds_of_wide 3 Tryd.f3 rfl rfl rfl rfl rfl rfl rfl ⟨rfl, rfl, rfl, rfl, rfl⟩ rfl rfl rfl rfl rfl (by kernel_rfl) Tryd.func3 (by kernel_rfl)
    (of_decide_eq_true (by kernel_rfl)) (by unfold Func.isWrapper; first | (rw [if_pos (by decide +kernel)]; kernel_rfl) | (rw [if_neg (by decide +kernel)]; exact ⟨rfl, rfl⟩))
    (fun os started H enc _ => lifted os started H enc)
theorem proved : Rows.FnExactPuzzleTextSaid := over
#print axioms proved
end Go.Proofs.YtodmfjophjhbeaaDoor.fnExactPuzzleText
namespace Go.Proofs.YtodmfjophjhbeaaDoor
theorem fnExactPuzzleText_holds : Rows.FnExactPuzzleTextSaid := fnExactPuzzleText.proved
theorem fnExactPuzzleText_card : Rows.FnExactPuzzleTextCardSaid :=
  Claim7.holds_tied_plain_at .later [] [.data, .data, .data] true (true, "d02ec5b771c39e06bc88fbf014c59a40c66ce376b5f029d64b6bfc1b4fc07072") false
    fnExactPuzzleText_holds (fun _ h => by cases h) (by kernel_rfl) (fun _ h => by cases h) fnExactPuzzleText_row_tie rfl ⟨rfl, rfl⟩ (by kernel_rfl) rfl
    (fun f fn hf hfn => by
      obtain rfl : f = 3 := Option.some.inj ((show Tryd.prog.funcNamed "loop.example/g01281/laws.FnExactPuzzleText" = some 3 by kernel_rfl).symm.trans hf) |>.symm
      obtain rfl : fn = Tryd.f3 := (Option.some.inj (Tryd.func3.symm.trans hfn)).symm
      exact ⟨by kernel_rfl, fun j t ht => by
        have hall : (Tryd.f3.params.toList.all fun u => !Tryd.prog.wantsStandIn u) = true := by kernel_rfl
        have hm : t ∈ Tryd.f3.params.toList := by simpa using Array.mem_of_getElem? ht
        exact (show Tryd.prog.wantsStandIn t = false by simpa using List.all_eq_true.1 hall t hm)⟩)
    (by kernel_rfl)
end Go.Proofs.YtodmfjophjhbeaaDoor
