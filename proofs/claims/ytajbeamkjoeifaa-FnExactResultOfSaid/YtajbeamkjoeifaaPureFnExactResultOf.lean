/- The program's ResultOf returns what the reference's returns. Conditions: none. -/
import Derived.Test.YtajbeamkjoeifaaMPureC2
-- IMPORTS
import Derived.Test.YtajbeamkjoeifaaMx4
import Derived.Test.YtajbeamkjoeifaaMx12
import Derived.Test.YtajbeamkjoeifaaMx20
import Derived.Test.YtajbeamkjoeifaaMx21
import Derived.Test.YtajbeamkjoeifaaMx22
namespace Go.Proofs.Ytajbeamkjoeifaa.Pure
open Go.RowKit Go.Proofs.Ytajbeamkjoeifaa.M Go.Proofs.YtajbeamkjoeifaaW.PrintWords Go.Proofs.YtajbeamkjoeifaaW.PrintLast Go.Proofs.YtajbeamkjoeifaaW.PrintMore
set_option linter.unusedVariables false
set_option linter.unusedSimpArgs false

theorem result_same (w0 w1 w2 w3 w4 w5 w6 w7 w8 w9 w10 w11 w12 w13 c : Int) (b : Bool) (h1 : -1 ≤ c) (h2 : c ≤ 12) : ∃ r, spec_l03Result.f w0 w1 w2 w3 w4 w5 w6 w7 w8 w9 w10 w11 w12 w13 c b = some r ∧ impl_resultOf.f w0 w1 w2 w3 w4 w5 w6 w7 w8 w9 w10 w11 w12 w13 c b = some r := by
  unfold spec_l03Result.f impl_resultOf.f
  by_cases e : c < 0
  · rw [if_pos e]; exact ⟨_, rfl, rfl⟩
  · rw [if_neg e, if_pos (show 0 ≤ c by omega), if_pos (show c < 14 by omega)]
    cases b
    · rw [if_neg (by simp), if_pos (show 0 ≤ c by omega), if_pos (show c < 14 by omega)]; exact ⟨_, rfl, rfl⟩
    · rw [if_pos rfl]; exact ⟨_, rfl, rfl⟩

theorem FnExactResultOf (x0_0 : Int) (x0_1 : Int) (x0_2 : Bool) (x0_3 : Bool) (x1_0 : Int) (x1_1 : Int) (x1_2 : Int) (x1_3 : Int) (x1_4 : Int) (x1_5 : Int) (x1_6 : Int) (x1_7 : Int) (x1_8 : Int) (x1_9 : Int) (x1_10 : Int) (x1_11 : Int) (x1_12 : Int) (x1_13 : Int) (x2_0 : Int) (x2_1 : Bool) (w0_0 : (fun x : Int => (Lit.int .i8 x).wf = true) x0_0) (w0_1 : (fun x : Int => (Lit.int .i8 x).wf = true) x0_1) (w1_0 : (fun x : Int => (Lit.int .i8 x).wf = true) x1_0) (w1_1 : (fun x : Int => (Lit.int .i8 x).wf = true) x1_1) (w1_2 : (fun x : Int => (Lit.int .i8 x).wf = true) x1_2) (w1_3 : (fun x : Int => (Lit.int .i8 x).wf = true) x1_3) (w1_4 : (fun x : Int => (Lit.int .i8 x).wf = true) x1_4) (w1_5 : (fun x : Int => (Lit.int .i8 x).wf = true) x1_5) (w1_6 : (fun x : Int => (Lit.int .i8 x).wf = true) x1_6) (w1_7 : (fun x : Int => (Lit.int .i8 x).wf = true) x1_7) (w1_8 : (fun x : Int => (Lit.int .i8 x).wf = true) x1_8) (w1_9 : (fun x : Int => (Lit.int .i8 x).wf = true) x1_9) (w1_10 : (fun x : Int => (Lit.int .i8 x).wf = true) x1_10) (w1_11 : (fun x : Int => (Lit.int .i8 x).wf = true) x1_11) (w1_12 : (fun x : Int => (Lit.int .i8 x).wf = true) x1_12) (w1_13 : (fun x : Int => (Lit.int .i8 x).wf = true) x1_13) (w2_0 : (fun x : Int => (Lit.int .i8 x).wf = true) x2_0) : ∃ k, laws_FnExactResultOf.f k x0_0 x0_1 x0_2 x0_3 x1_0 x1_1 x1_2 x1_3 x1_4 x1_5 x1_6 x1_7 x1_8 x1_9 x1_10 x1_11 x1_12 x1_13 x2_0 x2_1 = some true := by
  refine ⟨64, ?_⟩
  have hsame : ∃ r, spec_ResultOf.f 64 x0_0 x0_1 x0_2 x0_3 x1_0 x1_1 x1_2 x1_3 x1_4 x1_5 x1_6 x1_7 x1_8 x1_9 x1_10 x1_11 x1_12 x1_13 x2_0 x2_1 = some r ∧ impl_ResultOf.f 64 x0_0 x0_1 x0_2 x0_3 x1_0 x1_1 x1_2 x1_3 x1_4 x1_5 x1_6 x1_7 x1_8 x1_9 x1_10 x1_11 x1_12 x1_13 x2_0 x2_1 = some r := by
    obtain ⟨r, hs, hi, hr⟩ := validW_same (k := 64) (by omega) x0_0 x0_1 x0_2 x0_3 w0_0 w0_1 x1_0 x1_1 x1_2 x1_3 x1_4 x1_5 x1_6 x1_7 x1_8 x1_9 x1_10 x1_11 x1_12 x1_13
    unfold spec_ResultOf.f impl_ResultOf.f impl_Case_65.f
    rw [hs, hi]
    simp only [Option.bind_some]
    cases r with
    | false => exact ⟨(0, 1), rfl, rfl⟩
    | true =>
      rw [if_pos rfl, if_pos rfl]
      obtain ⟨l, r, f1, f2, f3, f4⟩ := find_val x0_0 x0_1 x0_2 x0_3 (hr rfl) x2_0 x2_1
      rw [f1, f2]
      simp only [Option.bind_some]
      rw [f3]
      simp only [Option.bind_some]
      by_cases e : r < 0
      · rw [if_pos e, if_neg (by simp; omega)]; exact ⟨_, rfl, rfl⟩
      · obtain ⟨q, g1, g2⟩ := result_same x1_0 x1_1 x1_2 x1_3 x1_4 x1_5 x1_6 x1_7 x1_8 x1_9 x1_10 x1_11 x1_12 x1_13 x2_0 x2_1 (by omega) (by omega)
        rw [if_neg e, if_pos (by simp; omega), g1, g2]
        exact ⟨_, rfl, rfl⟩
  obtain ⟨r, hs, hi⟩ := hsame
  unfold laws_FnExactResultOf.f laws_toTask.f laws_toCase.f
  simp only [toW_val (show 15 ≤ 64 by omega), Option.bind_some]
  rw [hs, hi]
  simp

end Go.Proofs.Ytajbeamkjoeifaa.Pure
