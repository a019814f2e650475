/- FnExactFollowPlan: the program's function returns what the reference's returns, for all arguments. Conditions: none beyond what the statement itself says. -/
import Derived.Test.YtcghglembmohcaaRows
import Derived.Test.YtcghglembmohcaaMx15
import Derived.Test.YtcghglembmohcaaPureFnExactFollowPlan
import Derived.Test.YtcghglembmohcaaMRd
import Derived.WalkKit
import Derived.ProofKit
import Derived.OpenShut
import Derived.ShutString
import Derived.ChangeOld
import Derived.Below
import Derived.SizedLaws
namespace Go.Proofs.Ytcghglembmohcaa.fnExactFollowPlan
open Go.ChangeShapes Go.WideShapes Go.ChangeAt Go.RowKit Go.Proofs.Ytcghglembmohcaa.Rd Go.Proofs.YtcghglembmohcaaW.PrintWords Go.Proofs.Ytcghglembmohcaa.M
open Go.ChangeMaps (open_string shut_string)
set_option linter.unusedVariables false
theorem own : ownKnob Try.prog.godebug = none := by kernel_rfl
theorem laidOut : laidOutB Try.prog = true := by kernel_rfl
theorem rd_56 (W : World) : Rd Try.prog W 56 k56 (fun x : S56 => (fun x : Int => (Lit.int .i16 x).wf = true) x.f0 ∧ (fun x : Int => (Lit.int .i16 x).wf = true) x.f1 ∧ (fun x : Int => (Lit.int .i16 x).wf = true) x.f2) := by
  intro H enc fuel cs x hx
  have hlen : cs.length = 3 := by
    obtain ⟨_, _, _, _, hl_, _, _⟩ := DataW.trod_array Try.underlying56 hx
    rw [hl_]; kernel_rfl
  match cs, hlen with
  | [v0, v1, v2], _ =>
  obtain ⟨ys1, m2, _, _, _, hl3, hg4⟩ := DataW.trod_array Try.underlying56 hx
  match ys1, hl3 with
  | [y5, y6, y7], _ =>
  have c8 : Try.prog.cellsOf 55 = 1 := by kernel_rfl
  rw [c8] at hg4
  have g9 : DataW.trod enc Try.prog W 0 (fun _ => true) true m2 55 [v0] = some y5 := hg4 0 (by decide)
  have g10 : DataW.trod enc Try.prog W 0 (fun _ => true) true m2 55 [v1] = some y6 := hg4 1 (by decide)
  have g11 : DataW.trod enc Try.prog W 0 (fun _ => true) true m2 55 [v2] = some y7 := hg4 2 (by decide)
  obtain ⟨a12, e13, _, w14⟩ := DataW.trod_int Try.underlying55 g9
  obtain rfl : v0 = .int .i16 a12 := by simpa using e13
  obtain ⟨a15, e16, _, w17⟩ := DataW.trod_int Try.underlying55 g10
  obtain rfl : v1 = .int .i16 a15 := by simpa using e16
  obtain ⟨a18, e19, _, w20⟩ := DataW.trod_int Try.underlying55 g11
  obtain rfl : v2 = .int .i16 a18 := by simpa using e19
  exact ⟨(⟨a12, a15, a18⟩ : S56), ⟨[.int .i16 a12], [.int .i16 a15, .int .i16 a18], rfl, rfl, ⟨[.int .i16 a15], [.int .i16 a18], rfl, rfl, rfl⟩⟩, ⟨w14, w17, w20⟩⟩
theorem rd_25 (W : World) : Rd Try.prog W 25 k25 (fun x : S25 => (fun x : Int => (Lit.int .i8 x).wf = true) x.f0 ∧ (fun x : Int => (Lit.int .i8 x).wf = true) x.f1 ∧ (fun x : Int => (Lit.int .i8 x).wf = true) x.f2 ∧ (fun x : Int => (Lit.int .i8 x).wf = true) x.f3 ∧ (fun x : Int => (Lit.int .i8 x).wf = true) x.f4 ∧ (fun x : Int => (Lit.int .i8 x).wf = true) x.f5 ∧ (fun x : Int => (Lit.int .i8 x).wf = true) x.f6 ∧ (fun x : Int => (Lit.int .i8 x).wf = true) x.f7 ∧ (fun x : Int => (Lit.int .i8 x).wf = true) x.f8 ∧ (fun x : Int => (Lit.int .i8 x).wf = true) x.f9 ∧ (fun x : Int => (Lit.int .i8 x).wf = true) x.f10 ∧ (fun x : Int => (Lit.int .i8 x).wf = true) x.f11 ∧ (fun x : Int => (Lit.int .i8 x).wf = true) x.f12 ∧ (fun x : Int => (Lit.int .i8 x).wf = true) x.f13) := by
  intro H enc fuel cs x hx
  have hlen : cs.length = 14 := by
    obtain ⟨_, _, _, _, hl_, _, _⟩ := DataW.trod_array Try.underlying25 hx
    rw [hl_]; kernel_rfl
  match cs, hlen with
  | [v0, v1, v2, v3, v4, v5, v6, v7, v8, v9, v10, v11, v12, v13], _ =>
  obtain ⟨ys1, m2, _, _, _, hl3, hg4⟩ := DataW.trod_array Try.underlying25 hx
  match ys1, hl3 with
  | [y5, y6, y7, y8, y9, y10, y11, y12, y13, y14, y15, y16, y17, y18], _ =>
  have c19 : Try.prog.cellsOf 22 = 1 := by kernel_rfl
  rw [c19] at hg4
  have g20 : DataW.trod enc Try.prog W 0 (fun _ => true) true m2 22 [v0] = some y5 := hg4 0 (by decide)
  have g21 : DataW.trod enc Try.prog W 0 (fun _ => true) true m2 22 [v1] = some y6 := hg4 1 (by decide)
  have g22 : DataW.trod enc Try.prog W 0 (fun _ => true) true m2 22 [v2] = some y7 := hg4 2 (by decide)
  have g23 : DataW.trod enc Try.prog W 0 (fun _ => true) true m2 22 [v3] = some y8 := hg4 3 (by decide)
  have g24 : DataW.trod enc Try.prog W 0 (fun _ => true) true m2 22 [v4] = some y9 := hg4 4 (by decide)
  have g25 : DataW.trod enc Try.prog W 0 (fun _ => true) true m2 22 [v5] = some y10 := hg4 5 (by decide)
  have g26 : DataW.trod enc Try.prog W 0 (fun _ => true) true m2 22 [v6] = some y11 := hg4 6 (by decide)
  have g27 : DataW.trod enc Try.prog W 0 (fun _ => true) true m2 22 [v7] = some y12 := hg4 7 (by decide)
  have g28 : DataW.trod enc Try.prog W 0 (fun _ => true) true m2 22 [v8] = some y13 := hg4 8 (by decide)
  have g29 : DataW.trod enc Try.prog W 0 (fun _ => true) true m2 22 [v9] = some y14 := hg4 9 (by decide)
  have g30 : DataW.trod enc Try.prog W 0 (fun _ => true) true m2 22 [v10] = some y15 := hg4 10 (by decide)
  have g31 : DataW.trod enc Try.prog W 0 (fun _ => true) true m2 22 [v11] = some y16 := hg4 11 (by decide)
  have g32 : DataW.trod enc Try.prog W 0 (fun _ => true) true m2 22 [v12] = some y17 := hg4 12 (by decide)
  have g33 : DataW.trod enc Try.prog W 0 (fun _ => true) true m2 22 [v13] = some y18 := hg4 13 (by decide)
  obtain ⟨a34, e35, _, w36⟩ := DataW.trod_int Try.underlying22 g20
  obtain rfl : v0 = .int .i8 a34 := by simpa using e35
  obtain ⟨a37, e38, _, w39⟩ := DataW.trod_int Try.underlying22 g21
  obtain rfl : v1 = .int .i8 a37 := by simpa using e38
  obtain ⟨a40, e41, _, w42⟩ := DataW.trod_int Try.underlying22 g22
  obtain rfl : v2 = .int .i8 a40 := by simpa using e41
  obtain ⟨a43, e44, _, w45⟩ := DataW.trod_int Try.underlying22 g23
  obtain rfl : v3 = .int .i8 a43 := by simpa using e44
  obtain ⟨a46, e47, _, w48⟩ := DataW.trod_int Try.underlying22 g24
  obtain rfl : v4 = .int .i8 a46 := by simpa using e47
  obtain ⟨a49, e50, _, w51⟩ := DataW.trod_int Try.underlying22 g25
  obtain rfl : v5 = .int .i8 a49 := by simpa using e50
  obtain ⟨a52, e53, _, w54⟩ := DataW.trod_int Try.underlying22 g26
  obtain rfl : v6 = .int .i8 a52 := by simpa using e53
  obtain ⟨a55, e56, _, w57⟩ := DataW.trod_int Try.underlying22 g27
  obtain rfl : v7 = .int .i8 a55 := by simpa using e56
  obtain ⟨a58, e59, _, w60⟩ := DataW.trod_int Try.underlying22 g28
  obtain rfl : v8 = .int .i8 a58 := by simpa using e59
  obtain ⟨a61, e62, _, w63⟩ := DataW.trod_int Try.underlying22 g29
  obtain rfl : v9 = .int .i8 a61 := by simpa using e62
  obtain ⟨a64, e65, _, w66⟩ := DataW.trod_int Try.underlying22 g30
  obtain rfl : v10 = .int .i8 a64 := by simpa using e65
  obtain ⟨a67, e68, _, w69⟩ := DataW.trod_int Try.underlying22 g31
  obtain rfl : v11 = .int .i8 a67 := by simpa using e68
  obtain ⟨a70, e71, _, w72⟩ := DataW.trod_int Try.underlying22 g32
  obtain rfl : v12 = .int .i8 a70 := by simpa using e71
  obtain ⟨a73, e74, _, w75⟩ := DataW.trod_int Try.underlying22 g33
  obtain rfl : v13 = .int .i8 a73 := by simpa using e74
  exact ⟨(⟨a34, a37, a40, a43, a46, a49, a52, a55, a58, a61, a64, a67, a70, a73⟩ : S25), ⟨[.int .i8 a34], [.int .i8 a37, .int .i8 a40, .int .i8 a43, .int .i8 a46, .int .i8 a49, .int .i8 a52, .int .i8 a55, .int .i8 a58, .int .i8 a61, .int .i8 a64, .int .i8 a67, .int .i8 a70, .int .i8 a73], rfl, rfl, ⟨[.int .i8 a37], [.int .i8 a40, .int .i8 a43, .int .i8 a46, .int .i8 a49, .int .i8 a52, .int .i8 a55, .int .i8 a58, .int .i8 a61, .int .i8 a64, .int .i8 a67, .int .i8 a70, .int .i8 a73], rfl, rfl, ⟨[.int .i8 a40], [.int .i8 a43, .int .i8 a46, .int .i8 a49, .int .i8 a52, .int .i8 a55, .int .i8 a58, .int .i8 a61, .int .i8 a64, .int .i8 a67, .int .i8 a70, .int .i8 a73], rfl, rfl, ⟨[.int .i8 a43], [.int .i8 a46, .int .i8 a49, .int .i8 a52, .int .i8 a55, .int .i8 a58, .int .i8 a61, .int .i8 a64, .int .i8 a67, .int .i8 a70, .int .i8 a73], rfl, rfl, ⟨[.int .i8 a46], [.int .i8 a49, .int .i8 a52, .int .i8 a55, .int .i8 a58, .int .i8 a61, .int .i8 a64, .int .i8 a67, .int .i8 a70, .int .i8 a73], rfl, rfl, ⟨[.int .i8 a49], [.int .i8 a52, .int .i8 a55, .int .i8 a58, .int .i8 a61, .int .i8 a64, .int .i8 a67, .int .i8 a70, .int .i8 a73], rfl, rfl, ⟨[.int .i8 a52], [.int .i8 a55, .int .i8 a58, .int .i8 a61, .int .i8 a64, .int .i8 a67, .int .i8 a70, .int .i8 a73], rfl, rfl, ⟨[.int .i8 a55], [.int .i8 a58, .int .i8 a61, .int .i8 a64, .int .i8 a67, .int .i8 a70, .int .i8 a73], rfl, rfl, ⟨[.int .i8 a58], [.int .i8 a61, .int .i8 a64, .int .i8 a67, .int .i8 a70, .int .i8 a73], rfl, rfl, ⟨[.int .i8 a61], [.int .i8 a64, .int .i8 a67, .int .i8 a70, .int .i8 a73], rfl, rfl, ⟨[.int .i8 a64], [.int .i8 a67, .int .i8 a70, .int .i8 a73], rfl, rfl, ⟨[.int .i8 a67], [.int .i8 a70, .int .i8 a73], rfl, rfl, ⟨[.int .i8 a70], [.int .i8 a73], rfl, rfl, rfl⟩⟩⟩⟩⟩⟩⟩⟩⟩⟩⟩⟩⟩, ⟨w36, w39, w42, w45, w48, w51, w54, w57, w60, w63, w66, w69, w72, w75⟩⟩
theorem rd_42 (W : World) : Rd Try.prog W 42 k42 (fun x : S42 => (fun x : Int => (Lit.int .i8 x).wf = true) x.f0 ∧ (fun _ : Bool => True) x.f1) := by
  intro H enc fuel cs x hx
  have hlen : cs.length = 2 := by
    obtain ⟨_, _, _, _, hl_, _, _⟩ := DataW.trod_struct Try.underlying42 hx
    rw [hl_]; kernel_rfl
  match cs, hlen with
  | [v0, v1], _ =>
  obtain ⟨ys1, m2, _, _, _, hl3, hg4⟩ := DataW.trod_struct Try.underlying42 hx
  match ys1, hl3 with
  | [y5, y6], _ =>
  have g7 : DataW.trod enc Try.prog W 0 (fun _ => true) true m2 22 [v0] = some y5 := by have h_ : DataW.trod enc Try.prog W 0 (fun _ => true) true m2 22 (([v0, v1].drop 0).take (Try.prog.cellsOf 22)) = [y5, y6][0]? := hg4 0 _ rfl; rw [show Try.prog.cellsOf 22 = 1 by kernel_rfl] at h_; exact h_
  have g8 : DataW.trod enc Try.prog W 0 (fun _ => true) true m2 4 [v1] = some y6 := by have h_ : DataW.trod enc Try.prog W 0 (fun _ => true) true m2 4 (([v0, v1].drop 1).take (Try.prog.cellsOf 4)) = [y5, y6][1]? := hg4 1 _ rfl; rw [show Try.prog.cellsOf 4 = 1 by kernel_rfl] at h_; exact h_
  obtain ⟨a9, e10, _, w11⟩ := DataW.trod_int Try.underlying22 g7
  obtain rfl : v0 = .int .i8 a9 := by simpa using e10
  obtain ⟨a12, e13, _⟩ := DataW.trod_bool Try.underlying4 g8
  obtain rfl : v1 = .bool a12 := by simpa using e13
  exact ⟨(⟨a9, a12⟩ : S42), ⟨[.int .i8 a9], [.bool a12], rfl, rfl, rfl⟩, ⟨w11, trivial⟩⟩
theorem rd_61 (W : World) : Rd Try.prog W 61 k61 (fun x : S61 => (fun x : S25 => (fun x : Int => (Lit.int .i8 x).wf = true) x.f0 ∧ (fun x : Int => (Lit.int .i8 x).wf = true) x.f1 ∧ (fun x : Int => (Lit.int .i8 x).wf = true) x.f2 ∧ (fun x : Int => (Lit.int .i8 x).wf = true) x.f3 ∧ (fun x : Int => (Lit.int .i8 x).wf = true) x.f4 ∧ (fun x : Int => (Lit.int .i8 x).wf = true) x.f5 ∧ (fun x : Int => (Lit.int .i8 x).wf = true) x.f6 ∧ (fun x : Int => (Lit.int .i8 x).wf = true) x.f7 ∧ (fun x : Int => (Lit.int .i8 x).wf = true) x.f8 ∧ (fun x : Int => (Lit.int .i8 x).wf = true) x.f9 ∧ (fun x : Int => (Lit.int .i8 x).wf = true) x.f10 ∧ (fun x : Int => (Lit.int .i8 x).wf = true) x.f11 ∧ (fun x : Int => (Lit.int .i8 x).wf = true) x.f12 ∧ (fun x : Int => (Lit.int .i8 x).wf = true) x.f13) x.f0 ∧ (fun x : S56 => (fun x : Int => (Lit.int .i16 x).wf = true) x.f0 ∧ (fun x : Int => (Lit.int .i16 x).wf = true) x.f1 ∧ (fun x : Int => (Lit.int .i16 x).wf = true) x.f2) x.f1 ∧ (fun x : S42 => (fun x : Int => (Lit.int .i8 x).wf = true) x.f0 ∧ (fun _ : Bool => True) x.f1) x.f2 ∧ (fun _ : Bool => True) x.f3) := by
  intro H enc fuel cs x hx
  have hlen : cs.length = 20 := by
    obtain ⟨_, _, _, _, hl_, _, _⟩ := DataW.trod_struct Try.underlying61 hx
    rw [hl_]; kernel_rfl
  match cs, hlen with
  | [v0, v1, v2, v3, v4, v5, v6, v7, v8, v9, v10, v11, v12, v13, v14, v15, v16, v17, v18, v19], _ =>
  obtain ⟨ys1, m2, _, _, _, hl3, hg4⟩ := DataW.trod_struct Try.underlying61 hx
  match ys1, hl3 with
  | [y5, y6, y7, y8], _ =>
  have g9 : DataW.trod enc Try.prog W 0 (fun _ => true) true m2 25 [v0, v1, v2, v3, v4, v5, v6, v7, v8, v9, v10, v11, v12, v13] = some y5 := by have h_ : DataW.trod enc Try.prog W 0 (fun _ => true) true m2 25 (([v0, v1, v2, v3, v4, v5, v6, v7, v8, v9, v10, v11, v12, v13, v14, v15, v16, v17, v18, v19].drop 0).take (Try.prog.cellsOf 25)) = [y5, y6, y7, y8][0]? := hg4 0 _ rfl; rw [show Try.prog.cellsOf 25 = 14 by kernel_rfl] at h_; exact h_
  have g10 : DataW.trod enc Try.prog W 0 (fun _ => true) true m2 56 [v14, v15, v16] = some y6 := by have h_ : DataW.trod enc Try.prog W 0 (fun _ => true) true m2 56 (([v0, v1, v2, v3, v4, v5, v6, v7, v8, v9, v10, v11, v12, v13, v14, v15, v16, v17, v18, v19].drop 14).take (Try.prog.cellsOf 56)) = [y5, y6, y7, y8][1]? := hg4 1 _ rfl; rw [show Try.prog.cellsOf 56 = 3 by kernel_rfl] at h_; exact h_
  have g11 : DataW.trod enc Try.prog W 0 (fun _ => true) true m2 42 [v17, v18] = some y7 := by have h_ : DataW.trod enc Try.prog W 0 (fun _ => true) true m2 42 (([v0, v1, v2, v3, v4, v5, v6, v7, v8, v9, v10, v11, v12, v13, v14, v15, v16, v17, v18, v19].drop 17).take (Try.prog.cellsOf 42)) = [y5, y6, y7, y8][2]? := hg4 2 _ rfl; rw [show Try.prog.cellsOf 42 = 2 by kernel_rfl] at h_; exact h_
  have g12 : DataW.trod enc Try.prog W 0 (fun _ => true) true m2 4 [v19] = some y8 := by have h_ : DataW.trod enc Try.prog W 0 (fun _ => true) true m2 4 (([v0, v1, v2, v3, v4, v5, v6, v7, v8, v9, v10, v11, v12, v13, v14, v15, v16, v17, v18, v19].drop 19).take (Try.prog.cellsOf 4)) = [y5, y6, y7, y8][3]? := hg4 3 _ rfl; rw [show Try.prog.cellsOf 4 = 1 by kernel_rfl] at h_; exact h_
  obtain ⟨ys13, m14, _, _, _, hl15, hg16⟩ := DataW.trod_array Try.underlying25 g9
  match ys13, hl15 with
  | [y17, y18, y19, y20, y21, y22, y23, y24, y25, y26, y27, y28, y29, y30], _ =>
  have c31 : Try.prog.cellsOf 22 = 1 := by kernel_rfl
  rw [c31] at hg16
  have g32 : DataW.trod enc Try.prog W 0 (fun _ => true) true m14 22 [v0] = some y17 := hg16 0 (by decide)
  have g33 : DataW.trod enc Try.prog W 0 (fun _ => true) true m14 22 [v1] = some y18 := hg16 1 (by decide)
  have g34 : DataW.trod enc Try.prog W 0 (fun _ => true) true m14 22 [v2] = some y19 := hg16 2 (by decide)
  have g35 : DataW.trod enc Try.prog W 0 (fun _ => true) true m14 22 [v3] = some y20 := hg16 3 (by decide)
  have g36 : DataW.trod enc Try.prog W 0 (fun _ => true) true m14 22 [v4] = some y21 := hg16 4 (by decide)
  have g37 : DataW.trod enc Try.prog W 0 (fun _ => true) true m14 22 [v5] = some y22 := hg16 5 (by decide)
  have g38 : DataW.trod enc Try.prog W 0 (fun _ => true) true m14 22 [v6] = some y23 := hg16 6 (by decide)
  have g39 : DataW.trod enc Try.prog W 0 (fun _ => true) true m14 22 [v7] = some y24 := hg16 7 (by decide)
  have g40 : DataW.trod enc Try.prog W 0 (fun _ => true) true m14 22 [v8] = some y25 := hg16 8 (by decide)
  have g41 : DataW.trod enc Try.prog W 0 (fun _ => true) true m14 22 [v9] = some y26 := hg16 9 (by decide)
  have g42 : DataW.trod enc Try.prog W 0 (fun _ => true) true m14 22 [v10] = some y27 := hg16 10 (by decide)
  have g43 : DataW.trod enc Try.prog W 0 (fun _ => true) true m14 22 [v11] = some y28 := hg16 11 (by decide)
  have g44 : DataW.trod enc Try.prog W 0 (fun _ => true) true m14 22 [v12] = some y29 := hg16 12 (by decide)
  have g45 : DataW.trod enc Try.prog W 0 (fun _ => true) true m14 22 [v13] = some y30 := hg16 13 (by decide)
  obtain ⟨a46, e47, _, w48⟩ := DataW.trod_int Try.underlying22 g32
  obtain rfl : v0 = .int .i8 a46 := by simpa using e47
  obtain ⟨a49, e50, _, w51⟩ := DataW.trod_int Try.underlying22 g33
  obtain rfl : v1 = .int .i8 a49 := by simpa using e50
  obtain ⟨a52, e53, _, w54⟩ := DataW.trod_int Try.underlying22 g34
  obtain rfl : v2 = .int .i8 a52 := by simpa using e53
  obtain ⟨a55, e56, _, w57⟩ := DataW.trod_int Try.underlying22 g35
  obtain rfl : v3 = .int .i8 a55 := by simpa using e56
  obtain ⟨a58, e59, _, w60⟩ := DataW.trod_int Try.underlying22 g36
  obtain rfl : v4 = .int .i8 a58 := by simpa using e59
  obtain ⟨a61, e62, _, w63⟩ := DataW.trod_int Try.underlying22 g37
  obtain rfl : v5 = .int .i8 a61 := by simpa using e62
  obtain ⟨a64, e65, _, w66⟩ := DataW.trod_int Try.underlying22 g38
  obtain rfl : v6 = .int .i8 a64 := by simpa using e65
  obtain ⟨a67, e68, _, w69⟩ := DataW.trod_int Try.underlying22 g39
  obtain rfl : v7 = .int .i8 a67 := by simpa using e68
  obtain ⟨a70, e71, _, w72⟩ := DataW.trod_int Try.underlying22 g40
  obtain rfl : v8 = .int .i8 a70 := by simpa using e71
  obtain ⟨a73, e74, _, w75⟩ := DataW.trod_int Try.underlying22 g41
  obtain rfl : v9 = .int .i8 a73 := by simpa using e74
  obtain ⟨a76, e77, _, w78⟩ := DataW.trod_int Try.underlying22 g42
  obtain rfl : v10 = .int .i8 a76 := by simpa using e77
  obtain ⟨a79, e80, _, w81⟩ := DataW.trod_int Try.underlying22 g43
  obtain rfl : v11 = .int .i8 a79 := by simpa using e80
  obtain ⟨a82, e83, _, w84⟩ := DataW.trod_int Try.underlying22 g44
  obtain rfl : v12 = .int .i8 a82 := by simpa using e83
  obtain ⟨a85, e86, _, w87⟩ := DataW.trod_int Try.underlying22 g45
  obtain rfl : v13 = .int .i8 a85 := by simpa using e86
  obtain ⟨ys88, m89, _, _, _, hl90, hg91⟩ := DataW.trod_array Try.underlying56 g10
  match ys88, hl90 with
  | [y92, y93, y94], _ =>
  have c95 : Try.prog.cellsOf 55 = 1 := by kernel_rfl
  rw [c95] at hg91
  have g96 : DataW.trod enc Try.prog W 0 (fun _ => true) true m89 55 [v14] = some y92 := hg91 0 (by decide)
  have g97 : DataW.trod enc Try.prog W 0 (fun _ => true) true m89 55 [v15] = some y93 := hg91 1 (by decide)
  have g98 : DataW.trod enc Try.prog W 0 (fun _ => true) true m89 55 [v16] = some y94 := hg91 2 (by decide)
  obtain ⟨a99, e100, _, w101⟩ := DataW.trod_int Try.underlying55 g96
  obtain rfl : v14 = .int .i16 a99 := by simpa using e100
  obtain ⟨a102, e103, _, w104⟩ := DataW.trod_int Try.underlying55 g97
  obtain rfl : v15 = .int .i16 a102 := by simpa using e103
  obtain ⟨a105, e106, _, w107⟩ := DataW.trod_int Try.underlying55 g98
  obtain rfl : v16 = .int .i16 a105 := by simpa using e106
  obtain ⟨ys108, m109, _, _, _, hl110, hg111⟩ := DataW.trod_struct Try.underlying42 g11
  match ys108, hl110 with
  | [y112, y113], _ =>
  have g114 : DataW.trod enc Try.prog W 0 (fun _ => true) true m109 22 [v17] = some y112 := by have h_ : DataW.trod enc Try.prog W 0 (fun _ => true) true m109 22 (([v17, v18].drop 0).take (Try.prog.cellsOf 22)) = [y112, y113][0]? := hg111 0 _ rfl; rw [show Try.prog.cellsOf 22 = 1 by kernel_rfl] at h_; exact h_
  have g115 : DataW.trod enc Try.prog W 0 (fun _ => true) true m109 4 [v18] = some y113 := by have h_ : DataW.trod enc Try.prog W 0 (fun _ => true) true m109 4 (([v17, v18].drop 1).take (Try.prog.cellsOf 4)) = [y112, y113][1]? := hg111 1 _ rfl; rw [show Try.prog.cellsOf 4 = 1 by kernel_rfl] at h_; exact h_
  obtain ⟨a116, e117, _, w118⟩ := DataW.trod_int Try.underlying22 g114
  obtain rfl : v17 = .int .i8 a116 := by simpa using e117
  obtain ⟨a119, e120, _⟩ := DataW.trod_bool Try.underlying4 g115
  obtain rfl : v18 = .bool a119 := by simpa using e120
  obtain ⟨a122, e123, _⟩ := DataW.trod_bool Try.underlying4 g12
  obtain rfl : v19 = .bool a122 := by simpa using e123
  exact ⟨(⟨(⟨a46, a49, a52, a55, a58, a61, a64, a67, a70, a73, a76, a79, a82, a85⟩ : S25), (⟨a99, a102, a105⟩ : S56), (⟨a116, a119⟩ : S42), a122⟩ : S61), ⟨[.int .i8 a46, .int .i8 a49, .int .i8 a52, .int .i8 a55, .int .i8 a58, .int .i8 a61, .int .i8 a64, .int .i8 a67, .int .i8 a70, .int .i8 a73, .int .i8 a76, .int .i8 a79, .int .i8 a82, .int .i8 a85], [.int .i16 a99, .int .i16 a102, .int .i16 a105, .int .i8 a116, .bool a119, .bool a122], rfl, ⟨[.int .i8 a46], [.int .i8 a49, .int .i8 a52, .int .i8 a55, .int .i8 a58, .int .i8 a61, .int .i8 a64, .int .i8 a67, .int .i8 a70, .int .i8 a73, .int .i8 a76, .int .i8 a79, .int .i8 a82, .int .i8 a85], rfl, rfl, ⟨[.int .i8 a49], [.int .i8 a52, .int .i8 a55, .int .i8 a58, .int .i8 a61, .int .i8 a64, .int .i8 a67, .int .i8 a70, .int .i8 a73, .int .i8 a76, .int .i8 a79, .int .i8 a82, .int .i8 a85], rfl, rfl, ⟨[.int .i8 a52], [.int .i8 a55, .int .i8 a58, .int .i8 a61, .int .i8 a64, .int .i8 a67, .int .i8 a70, .int .i8 a73, .int .i8 a76, .int .i8 a79, .int .i8 a82, .int .i8 a85], rfl, rfl, ⟨[.int .i8 a55], [.int .i8 a58, .int .i8 a61, .int .i8 a64, .int .i8 a67, .int .i8 a70, .int .i8 a73, .int .i8 a76, .int .i8 a79, .int .i8 a82, .int .i8 a85], rfl, rfl, ⟨[.int .i8 a58], [.int .i8 a61, .int .i8 a64, .int .i8 a67, .int .i8 a70, .int .i8 a73, .int .i8 a76, .int .i8 a79, .int .i8 a82, .int .i8 a85], rfl, rfl, ⟨[.int .i8 a61], [.int .i8 a64, .int .i8 a67, .int .i8 a70, .int .i8 a73, .int .i8 a76, .int .i8 a79, .int .i8 a82, .int .i8 a85], rfl, rfl, ⟨[.int .i8 a64], [.int .i8 a67, .int .i8 a70, .int .i8 a73, .int .i8 a76, .int .i8 a79, .int .i8 a82, .int .i8 a85], rfl, rfl, ⟨[.int .i8 a67], [.int .i8 a70, .int .i8 a73, .int .i8 a76, .int .i8 a79, .int .i8 a82, .int .i8 a85], rfl, rfl, ⟨[.int .i8 a70], [.int .i8 a73, .int .i8 a76, .int .i8 a79, .int .i8 a82, .int .i8 a85], rfl, rfl, ⟨[.int .i8 a73], [.int .i8 a76, .int .i8 a79, .int .i8 a82, .int .i8 a85], rfl, rfl, ⟨[.int .i8 a76], [.int .i8 a79, .int .i8 a82, .int .i8 a85], rfl, rfl, ⟨[.int .i8 a79], [.int .i8 a82, .int .i8 a85], rfl, rfl, ⟨[.int .i8 a82], [.int .i8 a85], rfl, rfl, rfl⟩⟩⟩⟩⟩⟩⟩⟩⟩⟩⟩⟩⟩, ⟨[.int .i16 a99, .int .i16 a102, .int .i16 a105], [.int .i8 a116, .bool a119, .bool a122], rfl, ⟨[.int .i16 a99], [.int .i16 a102, .int .i16 a105], rfl, rfl, ⟨[.int .i16 a102], [.int .i16 a105], rfl, rfl, rfl⟩⟩, ⟨[.int .i8 a116, .bool a119], [.bool a122], rfl, ⟨[.int .i8 a116], [.bool a119], rfl, rfl, rfl⟩, rfl⟩⟩⟩, ⟨⟨w48, w51, w54, w57, w60, w63, w66, w69, w72, w75, w78, w81, w84, w87⟩, ⟨w101, w104, w107⟩, ⟨w118, trivial⟩, trivial⟩⟩
theorem open0 (W : World) {H : Type} {enc : TypeId × Value → H} {fuel : Nat} {cs : List Value} {x : DataW H × List MemPlace} (hx : DataW.trod enc Try.prog W 0 (fun _ => true) true fuel 24 cs = some x) (hlen : cs.length = 4) :
    ∃ (a13 : Int) (a16 : Int) (a19 : Bool) (a22 : Bool), cs = [.int .i8 a13, .int .i8 a16, .bool a19, .bool a22] ∧ (fun x : Int => (Lit.int .i8 x).wf = true) a13 ∧ (fun x : Int => (Lit.int .i8 x).wf = true) a16 := by
  match cs, hlen with
  | [u0_0, u0_1, u0_2, u0_3], _ =>
  obtain ⟨ys1, m2, _, _, _, hl3, hg4⟩ := DataW.trod_struct Try.underlying24 hx
  match ys1, hl3 with
  | [y5, y6, y7, y8], _ =>
  have g9 : DataW.trod enc Try.prog W 0 (fun _ => true) true m2 22 [u0_0] = some y5 := by have h_ : DataW.trod enc Try.prog W 0 (fun _ => true) true m2 22 (([u0_0, u0_1, u0_2, u0_3].drop 0).take (Try.prog.cellsOf 22)) = [y5, y6, y7, y8][0]? := hg4 0 _ rfl; rw [show Try.prog.cellsOf 22 = 1 by kernel_rfl] at h_; exact h_
  have g10 : DataW.trod enc Try.prog W 0 (fun _ => true) true m2 22 [u0_1] = some y6 := by have h_ : DataW.trod enc Try.prog W 0 (fun _ => true) true m2 22 (([u0_0, u0_1, u0_2, u0_3].drop 1).take (Try.prog.cellsOf 22)) = [y5, y6, y7, y8][1]? := hg4 1 _ rfl; rw [show Try.prog.cellsOf 22 = 1 by kernel_rfl] at h_; exact h_
  have g11 : DataW.trod enc Try.prog W 0 (fun _ => true) true m2 4 [u0_2] = some y7 := by have h_ : DataW.trod enc Try.prog W 0 (fun _ => true) true m2 4 (([u0_0, u0_1, u0_2, u0_3].drop 2).take (Try.prog.cellsOf 4)) = [y5, y6, y7, y8][2]? := hg4 2 _ rfl; rw [show Try.prog.cellsOf 4 = 1 by kernel_rfl] at h_; exact h_
  have g12 : DataW.trod enc Try.prog W 0 (fun _ => true) true m2 4 [u0_3] = some y8 := by have h_ : DataW.trod enc Try.prog W 0 (fun _ => true) true m2 4 (([u0_0, u0_1, u0_2, u0_3].drop 3).take (Try.prog.cellsOf 4)) = [y5, y6, y7, y8][3]? := hg4 3 _ rfl; rw [show Try.prog.cellsOf 4 = 1 by kernel_rfl] at h_; exact h_
  obtain ⟨a13, e14, _, w15⟩ := DataW.trod_int Try.underlying22 g9
  obtain rfl : u0_0 = .int .i8 a13 := by simpa using e14
  obtain ⟨a16, e17, _, w18⟩ := DataW.trod_int Try.underlying22 g10
  obtain rfl : u0_1 = .int .i8 a16 := by simpa using e17
  obtain ⟨a19, e20, _⟩ := DataW.trod_bool Try.underlying4 g11
  obtain rfl : u0_2 = .bool a19 := by simpa using e20
  obtain ⟨a22, e23, _⟩ := DataW.trod_bool Try.underlying4 g12
  obtain rfl : u0_3 = .bool a22 := by simpa using e23
  exact ⟨a13, a16, a19, a22, rfl, w15, w18⟩
theorem open2 (W : World) {H : Type} {enc : TypeId × Value → H} {fuel : Nat} {cs : List Value} {x : DataW H × List MemPlace} (hx : DataW.trod enc Try.prog W 0 (fun _ => true) true fuel 42 cs = some x) (hlen : cs.length = 2) :
    ∃ (a9 : Int) (a12 : Bool), cs = [.int .i8 a9, .bool a12] ∧ (fun x : Int => (Lit.int .i8 x).wf = true) a9 := by
  match cs, hlen with
  | [u2_0, u2_1], _ =>
  obtain ⟨ys1, m2, _, _, _, hl3, hg4⟩ := DataW.trod_struct Try.underlying42 hx
  match ys1, hl3 with
  | [y5, y6], _ =>
  have g7 : DataW.trod enc Try.prog W 0 (fun _ => true) true m2 22 [u2_0] = some y5 := by have h_ : DataW.trod enc Try.prog W 0 (fun _ => true) true m2 22 (([u2_0, u2_1].drop 0).take (Try.prog.cellsOf 22)) = [y5, y6][0]? := hg4 0 _ rfl; rw [show Try.prog.cellsOf 22 = 1 by kernel_rfl] at h_; exact h_
  have g8 : DataW.trod enc Try.prog W 0 (fun _ => true) true m2 4 [u2_1] = some y6 := by have h_ : DataW.trod enc Try.prog W 0 (fun _ => true) true m2 4 (([u2_0, u2_1].drop 1).take (Try.prog.cellsOf 4)) = [y5, y6][1]? := hg4 1 _ rfl; rw [show Try.prog.cellsOf 4 = 1 by kernel_rfl] at h_; exact h_
  obtain ⟨a9, e10, _, w11⟩ := DataW.trod_int Try.underlying22 g7
  obtain rfl : u2_0 = .int .i8 a9 := by simpa using e10
  obtain ⟨a12, e13, _⟩ := DataW.trod_bool Try.underlying4 g8
  obtain rfl : u2_1 = .bool a12 := by simpa using e13
  exact ⟨a9, a12, rfl, w11⟩
set_option maxRecDepth 100000 in
set_option maxHeartbeats 1600000 in
theorem lifted (os : Os) (started : os.Started) (H : Type) (enc : TypeId × Value → H) :
    ReturnsInHanded {} Try.checked os 6 .any (Rows.fnExactFollowPlanSpec.pre6 enc Try.prog Try.f6 Rows.fnExactFollowPlanRow.domain false) (Rows.fnExactFollowPlanSpec.post enc Try.prog Try.f6 false true false false) := by
  refine returnsInHanded_of_change (C := Try.checked) own started (by kernel_rfl) Try.func6
    (ChangeSpec.witness6 (enc := enc) (C := Try.checked) false ⟨#[], #[.agg #[.int .i8 0, .int .i8 0, .bool false, .bool false], .slice none 0 0, .agg #[.int .i8 0, .bool false]], []⟩ 8 (by kernel_rfl) (by kernel_rfl) (by kernel_rfl) (by kernel_rfl)) ?_
  intro W base args ds gs before hval0 hW hcnd _
  have hval : ∀ (j : Nat) t v, Try.f6.params[j]? = some t → args[j]? = some v → Value.okWide Try.prog W .any base t v := hval0
  have hW' := hW
  obtain ⟨p, q, hA0, hV, rfl, hfz, hnd⟩ := hW
  have hA : DataW.TrodAll enc Try.prog W 0 (fun _ => true) true Try.f6.params.toList args.toList ds p := hA0
  rw [Try.params6] at hA hval
  obtain ⟨v0, vs0, d0, ds0, p0, q0, hargs, rfl, rfl, h0, r0⟩ := trodAll_cons hA
  obtain ⟨v1, vs1, d1, ds1, p1, q1, rfl, rfl, rfl, h1, r1⟩ := trodAll_cons r0
  obtain ⟨v2, vs2, d2, ds2, p2, q2, rfl, rfl, rfl, h2, r2⟩ := trodAll_cons r1
  obtain ⟨rfl, rfl, rfl⟩ := trodAll_nil r2
  obtain rfl : args = #[v0, v1, v2] := by cases args; simp_all
  obtain ⟨rfl, rfl⟩ := trodVars_none hV
  have k0 := h0
  have lt0 : ∀ x ∈ p0, x.block < W.heap.size := by obtain ⟨m, hm⟩ := k0; exact DataW.trod_lt m _ _ _ hm
  obtain ⟨cs0, rfl, hsz0⟩ := okWide_struct Try.underlying24 (hval 0 24 v0 rfl rfl)
  obtain ⟨fuel0, hf0⟩ := h0
  obtain ⟨a13_0, a16_0, a19_0, a22_0, e0_, w15_0, w18_0⟩ := open0 W (cs := cs0.toList) hf0 (by rw [Array.length_toList, hsz0]; kernel_rfl)
  obtain rfl : cs0 = #[.int .i8 a13_0, .int .i8 a16_0, .bool a19_0, .bool a22_0] := by rw [← Array.toArray_toList (xs := cs0), e0_]
  have k1 := h1
  have lt1 : ∀ x ∈ p1, x.block < W.heap.size := by obtain ⟨m, hm⟩ := k1; exact DataW.trod_lt m _ _ _ hm
  obtain ⟨fuel1, hf1⟩ := h1
  obtain ⟨A1_, n1_, c1_, rfl⟩ := okWide_slice Try.underlying33 (hval 1 33 v1 rfl rfl)
  have hg1 : DataW.trod enc Try.prog W 0 (fun _ => true) true fuel1 33 [.slice A1_ n1_ c1_] = some (d1, p1) := hf1
  obtain ⟨a1, ⟨A2, c3, e4, hl5, hC6⟩, w7⟩ := (rd_slice Try.underlying33 (rd_61 W) (by kernel_rfl)) hg1
  have f1_ : A1_ = A2 ∧ n1_ = a1.length ∧ c1_ = c3 := by simpa using e4
  obtain ⟨rfl, rfl, rfl⟩ : A2 = A1_ ∧ a1.length = n1_ ∧ c3 = c1_ := ⟨f1_.1.symm, f1_.2.1.symm, f1_.2.2.symm⟩
  have k2 := h2
  have lt2 : ∀ x ∈ p2, x.block < W.heap.size := by obtain ⟨m, hm⟩ := k2; exact DataW.trod_lt m _ _ _ hm
  obtain ⟨cs2, rfl, hsz2⟩ := okWide_struct Try.underlying42 (hval 2 42 v2 rfl rfl)
  obtain ⟨fuel2, hf2⟩ := h2
  obtain ⟨a9_2, a12_2, e2_, w11_2⟩ := open2 W (cs := cs2.toList) hf2 (by rw [Array.length_toList, hsz2]; kernel_rfl)
  obtain rfl : cs2 = #[.int .i8 a9_2, .bool a12_2] := by rw [← Array.toArray_toList (xs := cs2), e2_]
  clear hA0 hval0
  obtain ⟨k_, hk_⟩ := Pure.FnExactFollowPlan a13_0 a16_0 a19_0 a22_0 a1 a9_2 a12_2 w15_0 w18_0 w7 w11_2
  refine (laws_FnExactFollowPlan.calls k_ a13_0 a16_0 a19_0 a22_0 A2 c3 a1 a9_2 a12_2 true W hC6 hl5 hk_).mono fun e W' ⟨he, bel⟩ => ?_
  subst he
  exact ⟨_, rfl, _, _, _, [], _, [], hW', trodAll_mk1 (shut_bool Try.underlying4 _), (trodAll_cons_mk (Below.trod laidOut (by kernel_rfl) (of_decide_eq_true (by kernel_rfl)) k0 bel lt0) (trodAll_cons_mk (Below.trod laidOut (by kernel_rfl) (of_decide_eq_true (by kernel_rfl)) k1 bel lt1) (trodAll_cons_mk (Below.trod laidOut (by kernel_rfl) (of_decide_eq_true (by kernel_rfl)) k2 bel lt2) trodAll_mk0))), rfl, bel.frame _, fun h => by cases h⟩
theorem over : Rows.fnExactFollowPlanRow.holds Try.pinned (OpenSpec.ofChange Rows.fnExactFollowPlanSpec) :=
  OpenClaim.holds_of_wide 6 Try.f6 rfl rfl rfl rfl rfl rfl rfl ⟨rfl, rfl, rfl, rfl, rfl⟩ rfl rfl rfl rfl rfl (by kernel_rfl) Try.func6 (by kernel_rfl)
    (of_decide_eq_true (by kernel_rfl)) (by unfold Func.isWrapper; first | (rw [if_pos (by decide +kernel)]; kernel_rfl) | (rw [if_neg (by decide +kernel)]; exact ⟨rfl, rfl⟩))
    (fun os started H enc _ => lifted os started H enc)
theorem proved : Rows.FnExactFollowPlanSaid := over
#print axioms proved
end Go.Proofs.Ytcghglembmohcaa.fnExactFollowPlan
namespace Go.Proofs.Ytcghglembmohcaa
theorem fnExactFollowPlan_holds : Rows.FnExactFollowPlanSaid := fnExactFollowPlan.proved
end Go.Proofs.Ytcghglembmohcaa
