-- By this seat's own program over the kit's printer (arrays, functions told by hand); nothing of it is trusted: the kernel checks it.
import Derived.Test.YtodmfjophjhbeaaMx0
import Derived.Test.YtodmfjophjhbeaaMx2
import Derived.Test.YtodmfjophjhbeaaMx3
import Derived.Test.YtodmfjophjhbeaaMx5
import Derived.Test.YtodmfjophjhbeaaMx7
import Derived.Test.YtodmfjophjhbeaaMx24
import Derived.Test.YtodmfjophjhbeaaMx26
import Derived.Test.YtodmfjophjhbeaaMx27
import Derived.Test.YtodmfjophjhbeaaMx28
namespace Go.Proofs.Ytodmfjophjhbeaa.M
open Go.RowKit Go.Proofs.YtodmfjophjhbeaaW.PrintWords Go.Proofs.YtodmfjophjhbeaaW.PrintLast Go.Proofs.YtodmfjophjhbeaaW.PrintMore
attribute [local go_sem] max2_int min2_int max_two min_two max_three min_three max_four min_four   -- for this text's walks alone
set_option linter.unusedVariables false
set_option linter.unusedSimpArgs false

/-! ### laws_FnExactMovesFrom: function 13 -/
mutual
def laws_FnExactMovesFrom.j0 : Nat → List (S60) → Int → List (S60) → Int → Bool → List Int → Int → Int → Int → Int → Bool → Int → Int → Int → Int → List Int → Int → Int → Int → Int → Bool → Option (Bool)
 | 0, _, _, _, _, _, _, _, _, _, _, _, _, _, _, _, _, _, _, _, _, _ => none
 | k + 1, x6, x7, x9, x10, x46, x359000, x359001, x359002, x359003, x359004, x359005, x360000, x360001, x360002, x360003, x386000, x386001, x386002, x386003, x386004, x386005 => if x46 = true then (some false) else ((laws_toPuzzle.f k x359000 x359001 x359002 x359003 x359004 x359005).bind fun bt395 => ((laws_eqPuzzle.f k x386000 x386001 x386002 x386003 x386004 x386005 bt395.1 bt395.2.1 bt395.2.2.1 bt395.2.2.2.1 bt395.2.2.2.2.1 bt395.2.2.2.2.2).bind fun t403 => (if t403 = true then ((laws_markPuzzle.f k x386000 x386001 x386002 x386003 x386004 x386005 1).bind fun bt404 => (if bt404.1 < 0 then (laws_FnExactMovesFrom.j1 k x6 x7 x9 true x359000 x359001 x359002 x359003 x359004 x359005 x360000 x360001 x360002 x360003) else ((laws_eqMoveS.f k x9 x6).bind fun t406 => (if t406 = true then (laws_FnExactMovesFrom.j1 k x6 x7 x9 (x10 != x7) x359000 x359001 x359002 x359003 x359004 x359005 x360000 x360001 x360002 x360003) else (laws_FnExactMovesFrom.j1 k x6 x7 x9 true x359000 x359001 x359002 x359003 x359004 x359005 x360000 x360001 x360002 x360003))))) else (some false))))
def laws_FnExactMovesFrom.j1 : Nat → List (S60) → Int → List (S60) → Bool → List Int → Int → Int → Int → Int → Bool → Int → Int → Int → Int → Option (Bool)
 | 0, _, _, _, _, _, _, _, _, _, _, _, _, _, _ => none
 | k + 1, x6, x7, x9, x67, x359000, x359001, x359002, x359003, x359004, x359005, x360000, x360001, x360002, x360003 => if x67 = true then (some false) else ((laws_markMoveS.f k x9 1).bind fun bt407 => ((laws_heldMoveS.f k bt407.2 1).bind fun t409 => (if t409 < 0 then (some false) else (if t409 = bt407.1 then ((laws_toPuzzle.f k x359000 x359001 x359002 x359003 x359004 x359005).bind fun bt410 => ((laws_toWater.f k x360000 x360001 x360002 x360003).bind fun bt418 => ((impl_MovesFrom.f k bt410.1 bt410.2.1 bt410.2.2.1 bt410.2.2.2.1 bt410.2.2.2.2.1 bt410.2.2.2.2.2 bt418.1 bt418.2.1 bt418.2.2.1 bt418.2.2.2).bind fun bt422 => ((laws_eqMoveS.f k bt422.1 x6).bind fun t426 => (if t426 = true then (laws_FnExactMovesFrom.j2 k bt407.2 bt407.1 (bt422.2 != x7)) else (laws_FnExactMovesFrom.j2 k bt407.2 bt407.1 true)))))) else (some false)))))
def laws_FnExactMovesFrom.j2 : Nat → List (S60) → Int → Bool → Option (Bool)
 | 0, _, _, _ => none
 | k + 1, x9, x12, x95 => if x95 = true then (some false) else ((laws_heldMoveS.f k x9 1).bind fun t427 => (if t427 < 0 then (some false) else (if t427 = x12 then (some true) else (some false))))
end
def laws_FnExactMovesFrom.f (k : Nat) (l0_0 : List Int) (a0_1 : Int) (a0_2 : Int) (a0_3 : Int) (a0_4 : Int) (a0_5 : Bool) (a1_0 : Int) (a1_1 : Int) (a1_2 : Int) (a1_3 : Int) : Option (Bool) := (laws_szPuzzle.f l0_0 a0_1 a0_2 a0_3 a0_4 a0_5 1048576).bind fun t360 => (if t360 < 0 then (some true) else ((laws_toPuzzle.f k l0_0 a0_1 a0_2 a0_3 a0_4 a0_5).bind fun bt361 => ((laws_toWater.f k a1_0 a1_1 a1_2 a1_3).bind fun bt369 => ((spec_MovesFrom.f k bt361.1 bt361.2.1 bt361.2.2.1 bt361.2.2.2.1 bt361.2.2.2.2.1 bt361.2.2.2.2.2 bt369.1 bt369.2.1 bt369.2.2.1 bt369.2.2.2).bind fun bt373 => ((laws_toPuzzle.f k l0_0 a0_1 a0_2 a0_3 a0_4 a0_5).bind fun bt377 => ((laws_toWater.f k a1_0 a1_1 a1_2 a1_3).bind fun bt386 => ((impl_MovesFrom.f k bt377.1 bt377.2.1 bt377.2.2.1 bt377.2.2.2.1 bt377.2.2.2.2.1 bt377.2.2.2.2.2 bt386.1 bt386.2.1 bt386.2.2.1 bt386.2.2.2).bind fun bt390 => ((laws_eqMoveS.f k bt390.1 bt373.1).bind fun t394 => (if t394 = true then (laws_FnExactMovesFrom.j0 k bt373.1 bt373.2 bt390.1 bt390.2 (bt390.2 != bt373.2) l0_0 a0_1 a0_2 a0_3 a0_4 a0_5 a1_0 a1_1 a1_2 a1_3 bt377.1 bt377.2.1 bt377.2.2.1 bt377.2.2.2.1 bt377.2.2.2.2.1 bt377.2.2.2.2.2) else (laws_FnExactMovesFrom.j0 k bt373.1 bt373.2 bt390.1 bt390.2 true l0_0 a0_1 a0_2 a0_3 a0_4 a0_5 a1_0 a1_1 a1_2 a1_3 bt377.1 bt377.2.1 bt377.2.2.1 bt377.2.2.2.1 bt377.2.2.2.2.1 bt377.2.2.2.2.2))))))))))
theorem laws_FnExactMovesFrom.mono_l : ∀ k, (∀ y0 y1 y2 y3 y4 y5 y6 y7 y8 y9 y10 y11 y12 y13 y14 y15 y16 y17 y18 y19 y20, LeO (laws_FnExactMovesFrom.j0 k y0 y1 y2 y3 y4 y5 y6 y7 y8 y9 y10 y11 y12 y13 y14 y15 y16 y17 y18 y19 y20) (laws_FnExactMovesFrom.j0 (k + 1) y0 y1 y2 y3 y4 y5 y6 y7 y8 y9 y10 y11 y12 y13 y14 y15 y16 y17 y18 y19 y20)) ∧ (∀ y0 y1 y2 y3 y4 y5 y6 y7 y8 y9 y10 y11 y12 y13, LeO (laws_FnExactMovesFrom.j1 k y0 y1 y2 y3 y4 y5 y6 y7 y8 y9 y10 y11 y12 y13) (laws_FnExactMovesFrom.j1 (k + 1) y0 y1 y2 y3 y4 y5 y6 y7 y8 y9 y10 y11 y12 y13)) ∧ (∀ y0 y1 y2, LeO (laws_FnExactMovesFrom.j2 k y0 y1 y2) (laws_FnExactMovesFrom.j2 (k + 1) y0 y1 y2))
 | 0 => ⟨fun _ _ _ _ _ _ _ _ _ _ _ _ _ _ _ _ _ _ _ _ _ r h => by simp [laws_FnExactMovesFrom.j0] at h, fun _ _ _ _ _ _ _ _ _ _ _ _ _ _ r h => by simp [laws_FnExactMovesFrom.j1] at h, fun _ _ _ r h => by simp [laws_FnExactMovesFrom.j2] at h⟩
 | k + 1 => by
  obtain ⟨ih0, ih1, ih2⟩ := laws_FnExactMovesFrom.mono_l k
  refine ⟨?_, ?_, ?_⟩
  ·intro y0 y1 y2 y3 y4 y5 y6 y7 y8 y9 y10 y11 y12 y13 y14 y15 y16 y17 y18 y19 y20
   unfold laws_FnExactMovesFrom.j0
   repeat' first
   | (with_reducible exact ih0 _ _ _ _ _ _ _ _ _ _ _ _ _ _ _ _ _ _ _ _ _)
   | (with_reducible exact ih1 _ _ _ _ _ _ _ _ _ _ _ _ _ _)
   | (with_reducible exact ih2 _ _ _)
   | (with_reducible exact impl_MovesFrom.mono _ _ _ _ _ _ _ _ _ _ _)
   | (with_reducible exact laws_eqMoveS.mono _ _ _)
   | (with_reducible exact laws_eqPuzzle.mono _ _ _ _ _ _ _ _ _ _ _ _ _)
   | (with_reducible exact laws_heldMoveS.mono _ _ _)
   | (with_reducible exact laws_markMoveS.mono _ _ _)
   | (with_reducible exact laws_markPuzzle.mono _ _ _ _ _ _ _ _)
   | (with_reducible exact laws_toPuzzle.mono _ _ _ _ _ _ _)
   | (with_reducible exact laws_toWater.mono _ _ _ _ _)
   | (with_reducible exact spec_MovesFrom.mono _ _ _ _ _ _ _ _ _ _ _)
   | (with_reducible exact LeO.refl _)
   | (with_reducible exact LeO.none _)
   | (with_reducible refine LeO.ite ?_ ?_)
   | (with_reducible refine LeO.bind ?_ (fun _ => ?_))
   | exact ih0 _ _ _ _ _ _ _ _ _ _ _ _ _ _ _ _ _ _ _ _ _
   | exact ih1 _ _ _ _ _ _ _ _ _ _ _ _ _ _
   | exact ih2 _ _ _
   | exact impl_MovesFrom.mono _ _ _ _ _ _ _ _ _ _ _
   | exact laws_eqMoveS.mono _ _ _
   | exact laws_eqPuzzle.mono _ _ _ _ _ _ _ _ _ _ _ _ _
   | exact laws_heldMoveS.mono _ _ _
   | exact laws_markMoveS.mono _ _ _
   | exact laws_markPuzzle.mono _ _ _ _ _ _ _ _
   | exact laws_toPuzzle.mono _ _ _ _ _ _ _
   | exact laws_toWater.mono _ _ _ _ _
   | exact spec_MovesFrom.mono _ _ _ _ _ _ _ _ _ _ _
   | exact LeO.none _
   | refine LeO.ite ?_ ?_
   | refine LeO.bind ?_ (fun _ => ?_)
  ·intro y0 y1 y2 y3 y4 y5 y6 y7 y8 y9 y10 y11 y12 y13
   unfold laws_FnExactMovesFrom.j1
   repeat' first
   | (with_reducible exact ih0 _ _ _ _ _ _ _ _ _ _ _ _ _ _ _ _ _ _ _ _ _)
   | (with_reducible exact ih1 _ _ _ _ _ _ _ _ _ _ _ _ _ _)
   | (with_reducible exact ih2 _ _ _)
   | (with_reducible exact impl_MovesFrom.mono _ _ _ _ _ _ _ _ _ _ _)
   | (with_reducible exact laws_eqMoveS.mono _ _ _)
   | (with_reducible exact laws_eqPuzzle.mono _ _ _ _ _ _ _ _ _ _ _ _ _)
   | (with_reducible exact laws_heldMoveS.mono _ _ _)
   | (with_reducible exact laws_markMoveS.mono _ _ _)
   | (with_reducible exact laws_markPuzzle.mono _ _ _ _ _ _ _ _)
   | (with_reducible exact laws_toPuzzle.mono _ _ _ _ _ _ _)
   | (with_reducible exact laws_toWater.mono _ _ _ _ _)
   | (with_reducible exact spec_MovesFrom.mono _ _ _ _ _ _ _ _ _ _ _)
   | (with_reducible exact LeO.refl _)
   | (with_reducible exact LeO.none _)
   | (with_reducible refine LeO.ite ?_ ?_)
   | (with_reducible refine LeO.bind ?_ (fun _ => ?_))
   | exact ih0 _ _ _ _ _ _ _ _ _ _ _ _ _ _ _ _ _ _ _ _ _
   | exact ih1 _ _ _ _ _ _ _ _ _ _ _ _ _ _
   | exact ih2 _ _ _
   | exact impl_MovesFrom.mono _ _ _ _ _ _ _ _ _ _ _
   | exact laws_eqMoveS.mono _ _ _
   | exact laws_eqPuzzle.mono _ _ _ _ _ _ _ _ _ _ _ _ _
   | exact laws_heldMoveS.mono _ _ _
   | exact laws_markMoveS.mono _ _ _
   | exact laws_markPuzzle.mono _ _ _ _ _ _ _ _
   | exact laws_toPuzzle.mono _ _ _ _ _ _ _
   | exact laws_toWater.mono _ _ _ _ _
   | exact spec_MovesFrom.mono _ _ _ _ _ _ _ _ _ _ _
   | exact LeO.none _
   | refine LeO.ite ?_ ?_
   | refine LeO.bind ?_ (fun _ => ?_)
  ·intro y0 y1 y2
   unfold laws_FnExactMovesFrom.j2
   repeat' first
   | (with_reducible exact ih0 _ _ _ _ _ _ _ _ _ _ _ _ _ _ _ _ _ _ _ _ _)
   | (with_reducible exact ih1 _ _ _ _ _ _ _ _ _ _ _ _ _ _)
   | (with_reducible exact ih2 _ _ _)
   | (with_reducible exact impl_MovesFrom.mono _ _ _ _ _ _ _ _ _ _ _)
   | (with_reducible exact laws_eqMoveS.mono _ _ _)
   | (with_reducible exact laws_eqPuzzle.mono _ _ _ _ _ _ _ _ _ _ _ _ _)
   | (with_reducible exact laws_heldMoveS.mono _ _ _)
   | (with_reducible exact laws_markMoveS.mono _ _ _)
   | (with_reducible exact laws_markPuzzle.mono _ _ _ _ _ _ _ _)
   | (with_reducible exact laws_toPuzzle.mono _ _ _ _ _ _ _)
   | (with_reducible exact laws_toWater.mono _ _ _ _ _)
   | (with_reducible exact spec_MovesFrom.mono _ _ _ _ _ _ _ _ _ _ _)
   | (with_reducible exact LeO.refl _)
   | (with_reducible exact LeO.none _)
   | (with_reducible refine LeO.ite ?_ ?_)
   | (with_reducible refine LeO.bind ?_ (fun _ => ?_))
   | exact ih0 _ _ _ _ _ _ _ _ _ _ _ _ _ _ _ _ _ _ _ _ _
   | exact ih1 _ _ _ _ _ _ _ _ _ _ _ _ _ _
   | exact ih2 _ _ _
   | exact impl_MovesFrom.mono _ _ _ _ _ _ _ _ _ _ _
   | exact laws_eqMoveS.mono _ _ _
   | exact laws_eqPuzzle.mono _ _ _ _ _ _ _ _ _ _ _ _ _
   | exact laws_heldMoveS.mono _ _ _
   | exact laws_markMoveS.mono _ _ _
   | exact laws_markPuzzle.mono _ _ _ _ _ _ _ _
   | exact laws_toPuzzle.mono _ _ _ _ _ _ _
   | exact laws_toWater.mono _ _ _ _ _
   | exact spec_MovesFrom.mono _ _ _ _ _ _ _ _ _ _ _
   | exact LeO.none _
   | refine LeO.ite ?_ ?_
   | refine LeO.bind ?_ (fun _ => ?_)
theorem laws_FnExactMovesFrom.mono : ∀ a0 a1 a2 a3 a4 a5 a6 a7 a8 a9 k, LeO (laws_FnExactMovesFrom.f k a0 a1 a2 a3 a4 a5 a6 a7 a8 a9) (laws_FnExactMovesFrom.f (k + 1) a0 a1 a2 a3 a4 a5 a6 a7 a8 a9) := by
 intro a0 a1 a2 a3 a4 a5 a6 a7 a8 a9 k
 obtain ⟨ih0, ih1, ih2⟩ := laws_FnExactMovesFrom.mono_l k
 unfold laws_FnExactMovesFrom.f
 repeat' first
   | (with_reducible exact ih0 _ _ _ _ _ _ _ _ _ _ _ _ _ _ _ _ _ _ _ _ _)
   | (with_reducible exact ih1 _ _ _ _ _ _ _ _ _ _ _ _ _ _)
   | (with_reducible exact ih2 _ _ _)
   | (with_reducible exact impl_MovesFrom.mono _ _ _ _ _ _ _ _ _ _ _)
   | (with_reducible exact laws_eqMoveS.mono _ _ _)
   | (with_reducible exact laws_eqPuzzle.mono _ _ _ _ _ _ _ _ _ _ _ _ _)
   | (with_reducible exact laws_heldMoveS.mono _ _ _)
   | (with_reducible exact laws_markMoveS.mono _ _ _)
   | (with_reducible exact laws_markPuzzle.mono _ _ _ _ _ _ _ _)
   | (with_reducible exact laws_toPuzzle.mono _ _ _ _ _ _ _)
   | (with_reducible exact laws_toWater.mono _ _ _ _ _)
   | (with_reducible exact spec_MovesFrom.mono _ _ _ _ _ _ _ _ _ _ _)
   | (with_reducible exact LeO.refl _)
   | (with_reducible exact LeO.none _)
   | (with_reducible refine LeO.ite ?_ ?_)
   | (with_reducible refine LeO.bind ?_ (fun _ => ?_))
   | exact ih0 _ _ _ _ _ _ _ _ _ _ _ _ _ _ _ _ _ _ _ _ _
   | exact ih1 _ _ _ _ _ _ _ _ _ _ _ _ _ _
   | exact ih2 _ _ _
   | exact impl_MovesFrom.mono _ _ _ _ _ _ _ _ _ _ _
   | exact laws_eqMoveS.mono _ _ _
   | exact laws_eqPuzzle.mono _ _ _ _ _ _ _ _ _ _ _ _ _
   | exact laws_heldMoveS.mono _ _ _
   | exact laws_markMoveS.mono _ _ _
   | exact laws_markPuzzle.mono _ _ _ _ _ _ _ _
   | exact laws_toPuzzle.mono _ _ _ _ _ _ _
   | exact laws_toWater.mono _ _ _ _ _
   | exact spec_MovesFrom.mono _ _ _ _ _ _ _ _ _ _ _
   | exact LeO.none _
   | refine LeO.ite ?_ ?_
   | refine LeO.bind ?_ (fun _ => ?_)
def laws_FnExactMovesFrom.T5 : Bool × List (List Nat × List Nat) := (true, [([], []), ([0], [0]), ([], []), ([2, 1], [2]), ([1, 3, 3], [1, 3]), ([4], [4]), ([5], [5]), ([5], [5]), ([6, 4, 0, 1, 2, 3, 4, 5, 6], [6]), ([7, 8, 0, 1, 2, 3, 4, 5, 6, 7, 8], [7])])
def laws_FnExactMovesFrom.B5 : List Nat := [0, 1, 0, 7, 15, 31, 63, 63, 127, 511]
theorem laws_FnExactMovesFrom.tab5 : rtab .any (opsOf Try.f13 5) = laws_FnExactMovesFrom.T5 := by kernel_rfl
theorem laws_FnExactMovesFrom.bits5 : waitsOk laws_FnExactMovesFrom.T5.2 laws_FnExactMovesFrom.B5 = true := by kernel_rfl
def laws_FnExactMovesFrom.T7 : Bool × List (List Nat × List Nat) := (true, [([], []), ([], []), ([1], [1]), ([0, 2, 2], [0, 2]), ([3], [3]), ([4], [4]), ([4], [4]), ([5, 3, 0, 1, 2, 3, 4, 5], [5]), ([6, 7, 0, 1, 2, 3, 4, 5, 6, 7], [6])])
def laws_FnExactMovesFrom.B7 : List Nat := [0, 0, 2, 7, 15, 31, 31, 63, 255]
theorem laws_FnExactMovesFrom.tab7 : rtab .any (opsOf Try.f13 7) = laws_FnExactMovesFrom.T7 := by kernel_rfl
theorem laws_FnExactMovesFrom.bits7 : waitsOk laws_FnExactMovesFrom.T7.2 laws_FnExactMovesFrom.B7 = true := by kernel_rfl
def laws_FnExactMovesFrom.T24 : Bool × List (List Nat × List Nat) := (true, [([], []), ([0], [0]), ([], []), ([2, 1], [2]), ([1, 3, 3], [1, 3]), ([4], [4]), ([5], [5]), ([5], [5]), ([6, 4, 0, 1, 2, 3, 4, 5, 6], [6]), ([7, 8, 0, 1, 2, 3, 4, 5, 6, 7, 8], [7])])
def laws_FnExactMovesFrom.B24 : List Nat := [0, 1, 0, 7, 15, 31, 63, 63, 127, 511]
theorem laws_FnExactMovesFrom.tab24 : rtab .any (opsOf Try.f13 24) = laws_FnExactMovesFrom.T24 := by kernel_rfl
theorem laws_FnExactMovesFrom.bits24 : waitsOk laws_FnExactMovesFrom.T24.2 laws_FnExactMovesFrom.B24 = true := by kernel_rfl
set_option maxHeartbeats 8000000 in
set_option maxRecDepth 100000 in
theorem laws_FnExactMovesFrom.calls (k : Nat) (A0_0 : Option Addr) (c0_0 : Nat) (l0_0 : List Int) (a0_1 : Int) (a0_2 : Int) (a0_3 : Int) (a0_4 : Int) (a0_5 : Bool) (a1_0 : Int) (a1_1 : Int) (a1_2 : Int) (a1_3 : Int) (r : Bool) (w : World) (hr0_0 : Kd.C (Kd.int .i16) w A0_0 l0_0.length l0_0) (hc0_0 : l0_0.length ≤ c0_0) (h : laws_FnExactMovesFrom.f k l0_0 a0_1 a0_2 a0_3 a0_4 a0_5 a1_0 a1_1 a1_2 a1_3 = some r) :
  Calls Try.prog 13 #[.agg #[.slice A0_0 l0_0.length c0_0, .int .i16 a0_1, .int .i16 a0_2, .int .i16 a0_3, .int .i16 a0_4, .bool a0_5], .agg #[.int .i16 a1_0, .int .i16 a1_1, .int .i16 a1_2, .int .i16 a1_3]] w fun e w' => e = .returned (.bool r) ∧ Below w.heap.size w w' := by
 have hu26 := Try.underlying26
 have hu24 := Try.underlying24
 have hu32 := Try.underlying32
 have HR0_0 := Aside0.mk hr0_0
 have HC0_0 := Aside0.mk hc0_0
 clear hr0_0 hc0_0
 have HB := A_ (Below.refl w.heap.size w)
 have H : ((laws_szPuzzle.f l0_0 a0_1 a0_2 a0_3 a0_4 a0_5 1048576).bind fun t360 => (if t360 < 0 then (some true) else ((laws_toPuzzle.f k l0_0 a0_1 a0_2 a0_3 a0_4 a0_5).bind fun bt361 => ((laws_toWater.f k a1_0 a1_1 a1_2 a1_3).bind fun bt369 => ((spec_MovesFrom.f k bt361.1 bt361.2.1 bt361.2.2.1 bt361.2.2.2.1 bt361.2.2.2.2.1 bt361.2.2.2.2.2 bt369.1 bt369.2.1 bt369.2.2.1 bt369.2.2.2).bind fun bt373 => ((laws_toPuzzle.f k l0_0 a0_1 a0_2 a0_3 a0_4 a0_5).bind fun bt377 => ((laws_toWater.f k a1_0 a1_1 a1_2 a1_3).bind fun bt386 => ((impl_MovesFrom.f k bt377.1 bt377.2.1 bt377.2.2.1 bt377.2.2.2.1 bt377.2.2.2.2.1 bt377.2.2.2.2.2 bt386.1 bt386.2.1 bt386.2.2.1 bt386.2.2.2).bind fun bt390 => ((laws_eqMoveS.f k bt390.1 bt373.1).bind fun t394 => (if t394 = true then (laws_FnExactMovesFrom.j0 k bt373.1 bt373.2 bt390.1 bt390.2 (bt390.2 != bt373.2) l0_0 a0_1 a0_2 a0_3 a0_4 a0_5 a1_0 a1_1 a1_2 a1_3 bt377.1 bt377.2.1 bt377.2.2.1 bt377.2.2.2.1 bt377.2.2.2.2.1 bt377.2.2.2.2.2) else (laws_FnExactMovesFrom.j0 k bt373.1 bt373.2 bt390.1 bt390.2 true l0_0 a0_1 a0_2 a0_3 a0_4 a0_5 a1_0 a1_1 a1_2 a1_3 bt377.1 bt377.2.1 bt377.2.2.1 bt377.2.2.2.1 bt377.2.2.2.2.1 bt377.2.2.2.2.2))))))))))) = some r := h
 clear h
 replace H := Option.bind_eq_some_iff.mp H
 obtain ⟨t360, A30, H⟩ := H
 replace H : (if t360 < 0 then (some true) else ((laws_toPuzzle.f k l0_0 a0_1 a0_2 a0_3 a0_4 a0_5).bind fun bt361 => ((laws_toWater.f k a1_0 a1_1 a1_2 a1_3).bind fun bt369 => ((spec_MovesFrom.f k bt361.1 bt361.2.1 bt361.2.2.1 bt361.2.2.2.1 bt361.2.2.2.2.1 bt361.2.2.2.2.2 bt369.1 bt369.2.1 bt369.2.2.1 bt369.2.2.2).bind fun bt373 => ((laws_toPuzzle.f k l0_0 a0_1 a0_2 a0_3 a0_4 a0_5).bind fun bt377 => ((laws_toWater.f k a1_0 a1_1 a1_2 a1_3).bind fun bt386 => ((impl_MovesFrom.f k bt377.1 bt377.2.1 bt377.2.2.1 bt377.2.2.2.1 bt377.2.2.2.2.1 bt377.2.2.2.2.2 bt386.1 bt386.2.1 bt386.2.2.1 bt386.2.2.2).bind fun bt390 => ((laws_eqMoveS.f k bt390.1 bt373.1).bind fun t394 => (if t394 = true then (laws_FnExactMovesFrom.j0 k bt373.1 bt373.2 bt390.1 bt390.2 (bt390.2 != bt373.2) l0_0 a0_1 a0_2 a0_3 a0_4 a0_5 a1_0 a1_1 a1_2 a1_3 bt377.1 bt377.2.1 bt377.2.2.1 bt377.2.2.2.1 bt377.2.2.2.2.1 bt377.2.2.2.2.2) else (laws_FnExactMovesFrom.j0 k bt373.1 bt373.2 bt390.1 bt390.2 true l0_0 a0_1 a0_2 a0_3 a0_4 a0_5 a1_0 a1_1 a1_2 a1_3 bt377.1 bt377.2.1 bt377.2.2.1 bt377.2.2.2.1 bt377.2.2.2.2.1 bt377.2.2.2.2.2)))))))))) = some r := H
 have A3 := Aside0.mk A30
 clear A30
 by_cases c4 : t360 < 0
 ·rw [if_pos c4] at H
  have c4b0 : decide (t360 < 0) = true := decide_eq_true c4
  clear c4
  obtain rfl := Option.some.inj H
  go_enter Try.func13, Try.ntmps13
  go_wp2_with (first | ((with_reducible refine gate_dst (N := 2) rfl ?_); refine box_event ?hg (N := 2) ?hd (cs := #[.slice A0_0 l0_0.length c0_0, .int .i16 a0_1, .int .i16 a0_2, .int .i16 a0_3, .int .i16 a0_4, .bool a0_5]) (t := 26) ?hr ?_; (case hd => rfl); (case hg => rfl); (case hr => first | (go_simp; done) | (go_simp; rfl)); intro gb358 hg w5 hbox hb; have n0_ := A_ (below_step (bl_ HB) hb); have n1_ := A_ (hbox); have n2_ := A_ ((by rw [hg]; exact (below_size (bl_ HB)) : w.heap.size ≤ gb358)); have n3_ := n2_; clear HB; have HB := n0_; have BK358 := n1_; have GW358 := n2_; have GE358 := n3_; clear n0_ n1_ n2_ n3_; clear hb hbox hg) | ((with_reducible refine gate_dst (N := 3) rfl ?_); refine box_event ?hg (N := 3) ?hd (cs := #[.int .i16 a1_0, .int .i16 a1_1, .int .i16 a1_2, .int .i16 a1_3]) (t := 24) ?hr ?_; (case hd => rfl); (case hg => rfl); (case hr => first | (go_simp; done) | (go_simp; rfl)); intro gb359 hg w6 hbox hb; have n0_ := A_ (blk_below (pl_ BK358) hb); have n1_ := A_ (below_step (bl_ HB) hb); have n2_ := A_ (hbox); have n3_ := A_ ((by rw [hg]; exact (below_size (bl_ HB)) : w.heap.size ≤ gb359)); have n4_ := n3_; have n5_ := A_ ((by rw [hg]; exact Nat.ne_of_lt (blk_lt (pl_ BK358)) : gb358 ≠ gb359)); have n6_ := Aside0.mk n5_.out.symm; clear BK358; clear HB; have BK358 := n0_; have HB := n1_; have BK359 := n2_; have GW359 := n3_; have GE359 := n4_; have NB358_359 := n5_; have NB359_358 := n6_; clear n0_ n1_ n2_ n3_ n4_ n5_ n6_; clear hb hbox hg; have hnb7 := NB358_359.out; have hnc7 := NB359_358.out; have hcz8_0 : w6.cell? ⟨gb358, 0, none⟩ = some (.slice A0_0 l0_0.length c0_0) := (blk_cell BK358.out 0).trans rfl; have hcz8_1 : w6.cell? ⟨gb358, 1, none⟩ = some (.int .i16 a0_1) := (blk_cell BK358.out 1).trans rfl; have hcz8_2 : w6.cell? ⟨gb358, 2, none⟩ = some (.int .i16 a0_2) := (blk_cell BK358.out 2).trans rfl; have hcz8_3 : w6.cell? ⟨gb358, 3, none⟩ = some (.int .i16 a0_3) := (blk_cell BK358.out 3).trans rfl; have hcz8_4 : w6.cell? ⟨gb358, 4, none⟩ = some (.int .i16 a0_4) := (blk_cell BK358.out 4).trans rfl; have hcz8_5 : w6.cell? ⟨gb358, 5, none⟩ = some (.bool a0_5) := (blk_cell BK358.out 5).trans rfl; have hfz8_0 := blk_frozen BK358.out 0; have hfz8_1 := blk_frozen BK358.out 1; have hfz8_2 := blk_frozen BK358.out 2; have hfz8_3 := blk_frozen BK358.out 3; have hfz8_4 := blk_frozen BK358.out 4; have hfz8_5 := blk_frozen BK358.out 5) | ((with_reducible refine gate_callee (f := 16) rfl ?_); refine goesL_ (some 18) rfl rfl Try.func16 (by kernel_rfl) rfl #[.agg #[.slice A0_0 l0_0.length c0_0, .int .i16 a0_1, .int .i16 a0_2, .int .i16 a0_3, .int .i16 a0_4, .bool a0_5], .int .i64 1048576] rfl arg_ ?_; (with_reducible refine (laws_szPuzzle.calls _ _ l0_0 a0_1 a0_2 a0_3 a0_4 a0_5 1048576 t360 _ ?side1 ?side2 A3.out).mono ?_); (case side1 => repeat (first | exact (Kd.C_below HR0_0.out HB.out) | (with_reducible refine Kd.C_alloc ?_ _) | (with_reducible refine Kd.C_drewN ?_ _) | (with_reducible refine Kd.C_drew ?_))); (case side2 => exact HC0_0.out); rintro e w9 ⟨rfl, hb⟩; refine ⟨_, rfl, ?_⟩; have n0_ := A_ (blk_below (pl_ BK358) hb); have n1_ := A_ (blk_below (pl_ BK359) hb); have n2_ := A_ (below_step (bl_ HB) hb); clear BK358; clear BK359; clear HB; have BK358 := n0_; have BK359 := n1_; have HB := n2_; clear n0_ n1_ n2_; (try clear hb); (try clear hb2); (try clear hk); (try clear hi)))
  go_ret
  exact ⟨by first | rfl | (simp [errW_none, errW_some] <;> rfl) | (simp [*, errW_none, errW_some] <;> rfl), bl_ HB⟩
 ·rw [if_neg c4] at H
  have c4b0 : decide (t360 < 0) = false := decide_eq_false c4
  clear c4
  replace H := Option.bind_eq_some_iff.mp H
  obtain ⟨⟨t361, t364, t365, t366, t367, t368⟩, A100, H⟩ := H
  replace H : ((laws_toWater.f k a1_0 a1_1 a1_2 a1_3).bind fun bt369 => ((spec_MovesFrom.f k t361 t364 t365 t366 t367 t368 bt369.1 bt369.2.1 bt369.2.2.1 bt369.2.2.2).bind fun bt373 => ((laws_toPuzzle.f k l0_0 a0_1 a0_2 a0_3 a0_4 a0_5).bind fun bt377 => ((laws_toWater.f k a1_0 a1_1 a1_2 a1_3).bind fun bt386 => ((impl_MovesFrom.f k bt377.1 bt377.2.1 bt377.2.2.1 bt377.2.2.2.1 bt377.2.2.2.2.1 bt377.2.2.2.2.2 bt386.1 bt386.2.1 bt386.2.2.1 bt386.2.2.2).bind fun bt390 => ((laws_eqMoveS.f k bt390.1 bt373.1).bind fun t394 => (if t394 = true then (laws_FnExactMovesFrom.j0 k bt373.1 bt373.2 bt390.1 bt390.2 (bt390.2 != bt373.2) l0_0 a0_1 a0_2 a0_3 a0_4 a0_5 a1_0 a1_1 a1_2 a1_3 bt377.1 bt377.2.1 bt377.2.2.1 bt377.2.2.2.1 bt377.2.2.2.2.1 bt377.2.2.2.2.2) else (laws_FnExactMovesFrom.j0 k bt373.1 bt373.2 bt390.1 bt390.2 true l0_0 a0_1 a0_2 a0_3 a0_4 a0_5 a1_0 a1_1 a1_2 a1_3 bt377.1 bt377.2.1 bt377.2.2.1 bt377.2.2.2.1 bt377.2.2.2.2.1 bt377.2.2.2.2.2)))))))) = some r := H
  have A10 := Aside0.mk A100
  clear A100
  replace H := Option.bind_eq_some_iff.mp H
  obtain ⟨⟨t369, t370, t371, t372⟩, A110, H⟩ := H
  replace H : ((spec_MovesFrom.f k t361 t364 t365 t366 t367 t368 t369 t370 t371 t372).bind fun bt373 => ((laws_toPuzzle.f k l0_0 a0_1 a0_2 a0_3 a0_4 a0_5).bind fun bt377 => ((laws_toWater.f k a1_0 a1_1 a1_2 a1_3).bind fun bt386 => ((impl_MovesFrom.f k bt377.1 bt377.2.1 bt377.2.2.1 bt377.2.2.2.1 bt377.2.2.2.2.1 bt377.2.2.2.2.2 bt386.1 bt386.2.1 bt386.2.2.1 bt386.2.2.2).bind fun bt390 => ((laws_eqMoveS.f k bt390.1 bt373.1).bind fun t394 => (if t394 = true then (laws_FnExactMovesFrom.j0 k bt373.1 bt373.2 bt390.1 bt390.2 (bt390.2 != bt373.2) l0_0 a0_1 a0_2 a0_3 a0_4 a0_5 a1_0 a1_1 a1_2 a1_3 bt377.1 bt377.2.1 bt377.2.2.1 bt377.2.2.2.1 bt377.2.2.2.2.1 bt377.2.2.2.2.2) else (laws_FnExactMovesFrom.j0 k bt373.1 bt373.2 bt390.1 bt390.2 true l0_0 a0_1 a0_2 a0_3 a0_4 a0_5 a1_0 a1_1 a1_2 a1_3 bt377.1 bt377.2.1 bt377.2.2.1 bt377.2.2.2.1 bt377.2.2.2.2.1 bt377.2.2.2.2.2))))))) = some r := H
  have A11 := Aside0.mk A110
  clear A110
  replace H := Option.bind_eq_some_iff.mp H
  obtain ⟨⟨t373, t376⟩, A120, H⟩ := H
  replace H : ((laws_toPuzzle.f k l0_0 a0_1 a0_2 a0_3 a0_4 a0_5).bind fun bt377 => ((laws_toWater.f k a1_0 a1_1 a1_2 a1_3).bind fun bt386 => ((impl_MovesFrom.f k bt377.1 bt377.2.1 bt377.2.2.1 bt377.2.2.2.1 bt377.2.2.2.2.1 bt377.2.2.2.2.2 bt386.1 bt386.2.1 bt386.2.2.1 bt386.2.2.2).bind fun bt390 => ((laws_eqMoveS.f k bt390.1 t373).bind fun t394 => (if t394 = true then (laws_FnExactMovesFrom.j0 k t373 t376 bt390.1 bt390.2 (bt390.2 != t376) l0_0 a0_1 a0_2 a0_3 a0_4 a0_5 a1_0 a1_1 a1_2 a1_3 bt377.1 bt377.2.1 bt377.2.2.1 bt377.2.2.2.1 bt377.2.2.2.2.1 bt377.2.2.2.2.2) else (laws_FnExactMovesFrom.j0 k t373 t376 bt390.1 bt390.2 true l0_0 a0_1 a0_2 a0_3 a0_4 a0_5 a1_0 a1_1 a1_2 a1_3 bt377.1 bt377.2.1 bt377.2.2.1 bt377.2.2.2.1 bt377.2.2.2.2.1 bt377.2.2.2.2.2)))))) = some r := H
  have A12 := Aside0.mk A120
  clear A120
  replace H := Option.bind_eq_some_iff.mp H
  obtain ⟨⟨t377, t380, t381, t382, t383, t384⟩, A130, H⟩ := H
  replace H : ((laws_toWater.f k a1_0 a1_1 a1_2 a1_3).bind fun bt386 => ((impl_MovesFrom.f k t377 t380 t381 t382 t383 t384 bt386.1 bt386.2.1 bt386.2.2.1 bt386.2.2.2).bind fun bt390 => ((laws_eqMoveS.f k bt390.1 t373).bind fun t394 => (if t394 = true then (laws_FnExactMovesFrom.j0 k t373 t376 bt390.1 bt390.2 (bt390.2 != t376) l0_0 a0_1 a0_2 a0_3 a0_4 a0_5 a1_0 a1_1 a1_2 a1_3 t377 t380 t381 t382 t383 t384) else (laws_FnExactMovesFrom.j0 k t373 t376 bt390.1 bt390.2 true l0_0 a0_1 a0_2 a0_3 a0_4 a0_5 a1_0 a1_1 a1_2 a1_3 t377 t380 t381 t382 t383 t384))))) = some r := H
  have A13 := Aside0.mk A130
  clear A130
  replace H := Option.bind_eq_some_iff.mp H
  obtain ⟨⟨t386, t387, t388, t389⟩, A140, H⟩ := H
  replace H : ((impl_MovesFrom.f k t377 t380 t381 t382 t383 t384 t386 t387 t388 t389).bind fun bt390 => ((laws_eqMoveS.f k bt390.1 t373).bind fun t394 => (if t394 = true then (laws_FnExactMovesFrom.j0 k t373 t376 bt390.1 bt390.2 (bt390.2 != t376) l0_0 a0_1 a0_2 a0_3 a0_4 a0_5 a1_0 a1_1 a1_2 a1_3 t377 t380 t381 t382 t383 t384) else (laws_FnExactMovesFrom.j0 k t373 t376 bt390.1 bt390.2 true l0_0 a0_1 a0_2 a0_3 a0_4 a0_5 a1_0 a1_1 a1_2 a1_3 t377 t380 t381 t382 t383 t384)))) = some r := H
  have A14 := Aside0.mk A140
  clear A140
  replace H := Option.bind_eq_some_iff.mp H
  obtain ⟨⟨t390, t393⟩, A150, H⟩ := H
  replace H : ((laws_eqMoveS.f k t390 t373).bind fun t394 => (if t394 = true then (laws_FnExactMovesFrom.j0 k t373 t376 t390 t393 (t393 != t376) l0_0 a0_1 a0_2 a0_3 a0_4 a0_5 a1_0 a1_1 a1_2 a1_3 t377 t380 t381 t382 t383 t384) else (laws_FnExactMovesFrom.j0 k t373 t376 t390 t393 true l0_0 a0_1 a0_2 a0_3 a0_4 a0_5 a1_0 a1_1 a1_2 a1_3 t377 t380 t381 t382 t383 t384))) = some r := H
  have A15 := Aside0.mk A150
  clear A150
  have HC16 := Aside0.mk H
  clear H
  go_enter Try.func13, Try.ntmps13
  try go_wp2_with (first | ((with_reducible refine gate_dst (N := 2) rfl ?_); refine box_event ?hg (N := 2) ?hd (cs := #[.slice A0_0 l0_0.length c0_0, .int .i16 a0_1, .int .i16 a0_2, .int .i16 a0_3, .int .i16 a0_4, .bool a0_5]) (t := 26) ?hr ?_; (case hd => rfl); (case hg => rfl); (case hr => first | (go_simp; done) | (go_simp; rfl)); intro gb358 hg w17 hbox hb; have n0_ := A_ (below_step (bl_ HB) hb); have n1_ := A_ (hbox); have n2_ := A_ ((by rw [hg]; exact (below_size (bl_ HB)) : w.heap.size ≤ gb358)); have n3_ := n2_; clear HB; have HB := n0_; have BK358 := n1_; have GW358 := n2_; have GE358 := n3_; clear n0_ n1_ n2_ n3_; clear hb hbox hg) | ((with_reducible refine gate_dst (N := 3) rfl ?_); refine box_event ?hg (N := 3) ?hd (cs := #[.int .i16 a1_0, .int .i16 a1_1, .int .i16 a1_2, .int .i16 a1_3]) (t := 24) ?hr ?_; (case hd => rfl); (case hg => rfl); (case hr => first | (go_simp; done) | (go_simp; rfl)); intro gb359 hg w18 hbox hb; have n0_ := A_ (blk_below (pl_ BK358) hb); have n1_ := A_ (below_step (bl_ HB) hb); have n2_ := A_ (hbox); have n3_ := A_ ((by rw [hg]; exact (below_size (bl_ HB)) : w.heap.size ≤ gb359)); have n4_ := n3_; have n5_ := A_ ((by rw [hg]; exact Nat.ne_of_lt (blk_lt (pl_ BK358)) : gb358 ≠ gb359)); have n6_ := Aside0.mk n5_.out.symm; clear BK358; clear HB; have BK358 := n0_; have HB := n1_; have BK359 := n2_; have GW359 := n3_; have GE359 := n4_; have NB358_359 := n5_; have NB359_358 := n6_; clear n0_ n1_ n2_ n3_ n4_ n5_ n6_; clear hb hbox hg; have hnb19 := NB358_359.out; have hnc19 := NB359_358.out; have hcz20_0 : w18.cell? ⟨gb358, 0, none⟩ = some (.slice A0_0 l0_0.length c0_0) := (blk_cell BK358.out 0).trans rfl; have hcz20_1 : w18.cell? ⟨gb358, 1, none⟩ = some (.int .i16 a0_1) := (blk_cell BK358.out 1).trans rfl; have hcz20_2 : w18.cell? ⟨gb358, 2, none⟩ = some (.int .i16 a0_2) := (blk_cell BK358.out 2).trans rfl; have hcz20_3 : w18.cell? ⟨gb358, 3, none⟩ = some (.int .i16 a0_3) := (blk_cell BK358.out 3).trans rfl; have hcz20_4 : w18.cell? ⟨gb358, 4, none⟩ = some (.int .i16 a0_4) := (blk_cell BK358.out 4).trans rfl; have hcz20_5 : w18.cell? ⟨gb358, 5, none⟩ = some (.bool a0_5) := (blk_cell BK358.out 5).trans rfl; have hfz20_0 := blk_frozen BK358.out 0; have hfz20_1 := blk_frozen BK358.out 1; have hfz20_2 := blk_frozen BK358.out 2; have hfz20_3 := blk_frozen BK358.out 3; have hfz20_4 := blk_frozen BK358.out 4; have hfz20_5 := blk_frozen BK358.out 5) | ((with_reducible refine gate_callee (f := 16) rfl ?_); refine goesL_ (some 18) rfl rfl Try.func16 (by kernel_rfl) rfl #[.agg #[.slice A0_0 l0_0.length c0_0, .int .i16 a0_1, .int .i16 a0_2, .int .i16 a0_3, .int .i16 a0_4, .bool a0_5], .int .i64 1048576] rfl arg_ ?_; (with_reducible refine (laws_szPuzzle.calls _ _ l0_0 a0_1 a0_2 a0_3 a0_4 a0_5 1048576 t360 _ ?side1 ?side2 A3.out).mono ?_); (case side1 => repeat (first | exact (Kd.C_below HR0_0.out HB.out) | (with_reducible refine Kd.C_alloc ?_ _) | (with_reducible refine Kd.C_drewN ?_ _) | (with_reducible refine Kd.C_drew ?_))); (case side2 => exact HC0_0.out); rintro e w21 ⟨rfl, hb⟩; refine ⟨_, rfl, ?_⟩; have n0_ := A_ (blk_below (pl_ BK358) hb); have n1_ := A_ (blk_below (pl_ BK359) hb); have n2_ := A_ (below_step (bl_ HB) hb); clear BK358; clear BK359; clear HB; have BK358 := n0_; have BK359 := n1_; have HB := n2_; clear n0_ n1_ n2_; (try clear hb); (try clear hb2); (try clear hk); (try clear hi)))
  have n0_ := A_ (blk_drew BK358.out)
  have n1_ := A_ (blk_drew BK359.out)
  have n2_ := A_ (below_drew1 HB.out)
  clear BK358
  clear BK359
  clear HB
  have BK358 := n0_
  have BK359 := n1_
  have HB := n2_
  clear n0_ n1_ n2_
  refine start_ (n := 10) (S := fun w' => w'.cell? ⟨gb358, 0, none⟩ = some (.slice A0_0 l0_0.length c0_0) ∧ w'.cell? ⟨gb358, 1, none⟩ = some (.int .i16 a0_1) ∧ w'.cell? ⟨gb358, 2, none⟩ = some (.int .i16 a0_2) ∧ w'.cell? ⟨gb358, 3, none⟩ = some (.int .i16 a0_3) ∧ w'.cell? ⟨gb358, 4, none⟩ = some (.int .i16 a0_4) ∧ w'.cell? ⟨gb358, 5, none⟩ = some (.bool a0_5) ∧ w'.cell? ⟨gb359, 0, none⟩ = some (.int .i16 a1_0) ∧ w'.cell? ⟨gb359, 1, none⟩ = some (.int .i16 a1_1) ∧ w'.cell? ⟨gb359, 2, none⟩ = some (.int .i16 a1_2) ∧ w'.cell? ⟨gb359, 3, none⟩ = some (.int .i16 a1_3)) (ds := []) #[false, false, false, false, false, false, false, false, false, false] (by kernel_rfl) rfl rfl ⟨(blk_cell BK358.out 0).trans rfl, (blk_cell BK358.out 1).trans rfl, (blk_cell BK358.out 2).trans rfl, (blk_cell BK358.out 3).trans rfl, (blk_cell BK358.out 4).trans rfl, (blk_cell BK358.out 5).trans rfl, (blk_cell BK359.out 0).trans rfl, (blk_cell BK359.out 1).trans rfl, (blk_cell BK359.out 2).trans rfl, (blk_cell BK359.out 3).trans rfl⟩ (fun hHeld => ?_); refine with_tabW laws_FnExactMovesFrom.tab5 laws_FnExactMovesFrom.bits5 (fun HT_ HW_ => ?_)
  generalize w21.drew = w22 at BK358 BK359 HB hHeld ⊢
  refine take_ (i := 0) (N := some 22) (v := ?_) (a' := ?_) #[true, false, false, false, false, false, false, false, false, false] rfl rfl (take_ofW HT_.out HW_.out (by kernel_rfl)) (fun _ _ _ h => h) (Or.inl ⟨by rfl, ?_⟩) hHeld ?_ ?_
  rotate_left
  ·rintro w' ⟨s0, s1, s2, s3, s4, s5, s6, s7, s8, s9⟩
   go_simp
   with_reducible rfl
  rotate_left
  ·simp only [Act.put, List.setIfInBounds_toArray, List.set_cons_zero, List.set_cons_succ, i64_w, i32_w]
   rfl
  refine take_ (i := 2) (N := some 24) (v := ?_) (a' := ?_) #[true, false, true, false, false, false, false, false, false, false] rfl rfl (take_ofW HT_.out HW_.out (by kernel_rfl)) (fun _ _ _ h => h) (Or.inl ⟨by rfl, ?_⟩) hHeld ?_ ?_
  rotate_left
  ·rintro w' ⟨s0, s1, s2, s3, s4, s5, s6, s7, s8, s9⟩
   go_simp
   with_reducible rfl
  rotate_left
  ·simp only [Act.put, List.setIfInBounds_toArray, List.set_cons_zero, List.set_cons_succ, i64_w, i32_w]
   rfl
  refine one_ (i := 1) (N := some 23) #[true, true, true, false, false, false, false, false, false, false] rfl rfl (one_of HT_.out (by kernel_rfl)) (by decide) (fun K hK => ?_)
  refine goes_ Try.func18 (by kernel_rfl) rfl #[.agg #[.slice A0_0 l0_0.length c0_0, .int .i16 a0_1, .int .i16 a0_2, .int .i16 a0_3, .int .i16 a0_4, .bool a0_5]] (by rfl) rfl rfl arg_ ?_
  with_reducible refine (laws_toPuzzle.calls k _ _ l0_0 a0_1 a0_2 a0_3 a0_4 a0_5 t361 t364 t365 t366 t367 t368 _ ?side1 ?side2 A10.out).mono ?_
  (case side1 => repeat (first | exact (Kd.C_below HR0_0.out HB.out) | (with_reducible refine Kd.C_alloc ?_ _) | (with_reducible refine Kd.C_drewN ?_ _) | (with_reducible refine Kd.C_drew ?_)))
  (case side2 => exact HC0_0.out)
  rintro e w23 ⟨v362, rfl, ho0, hb⟩
  refine ⟨_, rfl, ?_⟩
  have n0_ := A_ (Kd.R_lower ho0 (below_size (bl_ HB)))
  have n1_ := A_ (blk_below (pl_ BK358) hb)
  have n2_ := A_ (blk_below (pl_ BK359) hb)
  have n3_ := A_ (below_step (bl_ HB) hb)
  clear BK358
  clear BK359
  clear HB
  have HO363 := n0_
  have BK358 := n1_
  have BK359 := n2_
  have HB := n3_
  clear n0_ n1_ n2_ n3_
  (try clear hb)
  (try clear hb2)
  (try clear hk)
  (try clear hi)
  (try clear ho0)
  refine hK.out _ _ ⟨(blk_cell BK358.out 0).trans rfl, (blk_cell BK358.out 1).trans rfl, (blk_cell BK358.out 2).trans rfl, (blk_cell BK358.out 3).trans rfl, (blk_cell BK358.out 4).trans rfl, (blk_cell BK358.out 5).trans rfl, (blk_cell BK359.out 0).trans rfl, (blk_cell BK359.out 1).trans rfl, (blk_cell BK359.out 2).trans rfl, (blk_cell BK359.out 3).trans rfl⟩ (fun hHeld => ?_)
  clear hK K
  refine norm_ (a' := ?_) ?_ ?_
  rotate_left
  ·show Act.put _ (some 23) _ = _
   simp only [Act.put, List.setIfInBounds_toArray, List.set_cons_zero, List.set_cons_succ, i64_w, i32_w]
   rfl
  refine one_ (i := 3) (N := some 25) #[true, true, true, true, false, false, false, false, false, false] rfl rfl (one_of HT_.out (by kernel_rfl)) (by decide) (fun K hK => ?_)
  refine goes_ Try.func26 (by kernel_rfl) rfl #[.agg #[.int .i16 a1_0, .int .i16 a1_1, .int .i16 a1_2, .int .i16 a1_3]] (by rfl) rfl rfl arg_ ?_
  with_reducible refine (laws_toWater.calls k a1_0 a1_1 a1_2 a1_3 t369 t370 t371 t372 _ A11.out).mono ?_
  rintro e w24 ⟨rfl, hb⟩
  refine ⟨_, rfl, ?_⟩
  have n0_ := A_ (Kd.R_below (pr_ HO363) hb)
  have n1_ := A_ (blk_below (pl_ BK358) hb)
  have n2_ := A_ (blk_below (pl_ BK359) hb)
  have n3_ := A_ (below_step (bl_ HB) hb)
  clear HO363
  clear BK358
  clear BK359
  clear HB
  have HO363 := n0_
  have BK358 := n1_
  have BK359 := n2_
  have HB := n3_
  clear n0_ n1_ n2_ n3_
  (try clear hb)
  (try clear hb2)
  (try clear hk)
  (try clear hi)
  obtain ⟨Ao25, co25, eo25⟩ := Kd.R_slice HO363.out
  (first | subst eo25 | (injection eo25 with f1_ f2_ f3_; have f4_ := f1_.symm; have f5_ := f3_.symm; clear f1_ f2_ f3_; subst f4_; subst f5_))
  refine hK.out _ _ ⟨(blk_cell BK358.out 0).trans rfl, (blk_cell BK358.out 1).trans rfl, (blk_cell BK358.out 2).trans rfl, (blk_cell BK358.out 3).trans rfl, (blk_cell BK358.out 4).trans rfl, (blk_cell BK358.out 5).trans rfl, (blk_cell BK359.out 0).trans rfl, (blk_cell BK359.out 1).trans rfl, (blk_cell BK359.out 2).trans rfl, (blk_cell BK359.out 3).trans rfl⟩ (fun hHeld => ?_)
  clear hK K
  refine norm_ (a' := ?_) ?_ ?_
  rotate_left
  ·show Act.put _ (some 25) _ = _
   simp only [Act.put, List.setIfInBounds_toArray, List.set_cons_zero, List.set_cons_succ, i64_w, i32_w]
   rfl
  refine one_ (i := 4) (N := some 26) #[true, true, true, true, true, false, false, false, false, false] rfl rfl (one_of HT_.out (by kernel_rfl)) (by decide) (fun K hK => ?_)
  refine goes_ Try.func47 (by kernel_rfl) rfl #[.agg #[.slice Ao25 t361.length co25, .int .i16 t364, .int .i16 t365, .int .i16 t366, .int .i16 t367, .bool t368], .agg #[.int .i16 t369, .int .i16 t370, .int .i16 t371, .int .i16 t372]] (by rfl) rfl rfl arg_ ?_
  with_reducible refine (spec_MovesFrom.calls k _ _ t361 t364 t365 t366 t367 t368 t369 t370 t371 t372 t373 t376 _ ?side1 ?side2 A12.out).mono ?_
  (case side1 => repeat (first | exact (Kd.R_reads' HO363.out).2.2 | (with_reducible refine Kd.C_alloc ?_ _) | (with_reducible refine Kd.C_drewN ?_ _) | (with_reducible refine Kd.C_drew ?_)))
  (case side2 => exact (Kd.R_reads' HO363.out).2.1)
  rintro e w26 ⟨v374, rfl, ho0, hb⟩
  refine ⟨_, rfl, ?_⟩
  have n0_ := A_ (Kd.R_below (pr_ HO363) hb)
  have n1_ := A_ (Kd.R_lower ho0 (below_size (bl_ HB)))
  have n2_ := A_ (blk_below (pl_ BK358) hb)
  have n3_ := A_ (blk_below (pl_ BK359) hb)
  have n4_ := A_ (below_step (bl_ HB) hb)
  clear HO363
  clear BK358
  clear BK359
  clear HB
  have HO363 := n0_
  have HO375 := n1_
  have BK358 := n2_
  have BK359 := n3_
  have HB := n4_
  clear n0_ n1_ n2_ n3_ n4_
  (try clear hb)
  (try clear hb2)
  (try clear hk)
  (try clear hi)
  (try clear ho0)
  refine hK.out _ _ ⟨(blk_cell BK358.out 0).trans rfl, (blk_cell BK358.out 1).trans rfl, (blk_cell BK358.out 2).trans rfl, (blk_cell BK358.out 3).trans rfl, (blk_cell BK358.out 4).trans rfl, (blk_cell BK358.out 5).trans rfl, (blk_cell BK359.out 0).trans rfl, (blk_cell BK359.out 1).trans rfl, (blk_cell BK359.out 2).trans rfl, (blk_cell BK359.out 3).trans rfl⟩ (fun hHeld => ?_)
  clear hK K
  refine norm_ (a' := ?_) ?_ ?_
  rotate_left
  ·show Act.put _ (some 26) _ = _
   simp only [Act.put, List.setIfInBounds_toArray, List.set_cons_zero, List.set_cons_succ, i64_w, i32_w]
   rfl
  refine pure_ (i := 5) (N := some 21) (v := ?_) (a' := ?_) #[true, true, true, true, true, true, false, false, false, false] rfl rfl (any_of HT_.out (by kernel_rfl)) (fun _ _ _ h => h) (Or.inl ⟨by rfl, ?_⟩) ?_ ?_
  rotate_left
  ·intro w'
   go_simp
   with_reducible rfl
  rotate_left
  ·simp only [Act.put, List.setIfInBounds_toArray, List.set_cons_zero, List.set_cons_succ, i64_w, i32_w]
   rfl
  refine pure_ (i := 6) (N := some 27) (v := ?_) (a' := ?_) #[true, true, true, true, true, true, true, false, false, false] rfl rfl (any_of HT_.out (by kernel_rfl)) (fun _ _ _ h => h) (Or.inl ⟨by rfl, ?_⟩) ?_ ?_
  rotate_left
  ·intro w'
   go_simp
   with_reducible rfl
  rotate_left
  ·simp only [Act.put, List.setIfInBounds_toArray, List.set_cons_zero, List.set_cons_succ, i64_w, i32_w]
   rfl
  refine pure_ (i := 7) (N := some 28) (v := ?_) (a' := ?_) #[true, true, true, true, true, true, true, true, false, false] rfl rfl (any_of HT_.out (by kernel_rfl)) (fun _ _ _ h => h) (Or.inl ⟨by rfl, ?_⟩) ?_ ?_
  rotate_left
  ·intro w'
   go_simp
   with_reducible rfl
  rotate_left
  ·simp only [Act.put, List.setIfInBounds_toArray, List.set_cons_zero, List.set_cons_succ, i64_w, i32_w]
   rfl
  refine pure_ (i := 8) (N := some 6) (v := ?_) (a' := ?_) #[true, true, true, true, true, true, true, true, true, false] rfl rfl (any_of HT_.out (by kernel_rfl)) (fun _ _ _ h => h) (Or.inl ⟨by rfl, ?_⟩) ?_ ?_
  rotate_left
  ·intro w'
   go_simp
   with_reducible rfl
  rotate_left
  ·simp only [Act.put, List.setIfInBounds_toArray, List.set_cons_zero, List.set_cons_succ, i64_w, i32_w]
   rfl
  refine pure_ (i := 9) (N := some 7) (v := ?_) (a' := ?_) #[true, true, true, true, true, true, true, true, true, true] rfl rfl (any_of HT_.out (by kernel_rfl)) (fun _ _ _ h => h) (Or.inl ⟨by rfl, ?_⟩) ?_ ?_
  rotate_left
  ·intro w'
   go_simp
   with_reducible rfl
  rotate_left
  ·simp only [Act.put, List.setIfInBounds_toArray, List.set_cons_zero, List.set_cons_succ, i64_w, i32_w]
   rfl
  refine done_ (done_of HT_.out (by kernel_rfl)) ?_
  have hcz27_0 : w26.cell? ⟨gb358, 0, none⟩ = some (.slice A0_0 l0_0.length c0_0) := (blk_cell BK358.out 0).trans rfl
  have hcz27_1 : w26.cell? ⟨gb358, 1, none⟩ = some (.int .i16 a0_1) := (blk_cell BK358.out 1).trans rfl
  have hcz27_2 : w26.cell? ⟨gb358, 2, none⟩ = some (.int .i16 a0_2) := (blk_cell BK358.out 2).trans rfl
  have hcz27_3 : w26.cell? ⟨gb358, 3, none⟩ = some (.int .i16 a0_3) := (blk_cell BK358.out 3).trans rfl
  have hcz27_4 : w26.cell? ⟨gb358, 4, none⟩ = some (.int .i16 a0_4) := (blk_cell BK358.out 4).trans rfl
  have hcz27_5 : w26.cell? ⟨gb358, 5, none⟩ = some (.bool a0_5) := (blk_cell BK358.out 5).trans rfl
  have hfz27_0 := blk_frozen BK358.out 0
  have hfz27_1 := blk_frozen BK358.out 1
  have hfz27_2 := blk_frozen BK358.out 2
  have hfz27_3 := blk_frozen BK358.out 3
  have hfz27_4 := blk_frozen BK358.out 4
  have hfz27_5 := blk_frozen BK358.out 5
  try go_wp2_with (first | ((with_reducible refine gate_callee (f := 18) rfl ?_); refine goesL_ (some 30) rfl rfl Try.func18 (by kernel_rfl) rfl #[.agg #[.slice A0_0 l0_0.length c0_0, .int .i16 a0_1, .int .i16 a0_2, .int .i16 a0_3, .int .i16 a0_4, .bool a0_5]] rfl arg_ ?_; (with_reducible refine (laws_toPuzzle.calls k _ _ l0_0 a0_1 a0_2 a0_3 a0_4 a0_5 t377 t380 t381 t382 t383 t384 _ ?side1 ?side2 A13.out).mono ?_); (case side1 => repeat (first | exact (Kd.C_below HR0_0.out HB.out) | (with_reducible refine Kd.C_alloc ?_ _) | (with_reducible refine Kd.C_drewN ?_ _) | (with_reducible refine Kd.C_drew ?_))); (case side2 => exact HC0_0.out); rintro e w28 ⟨v378, rfl, ho0, hb⟩; refine ⟨_, rfl, ?_⟩; have n0_ := A_ (Kd.R_elder' (pr_ HO363) (Kd.R_base ho0) hb); have n1_ := A_ (Kd.R_below (pr_ HO375) hb); have n2_ := A_ (Kd.R_lower (Kd.R_new' ho0 (Kd.R_lt (pr_ HO363))) (below_size (bl_ HB))); have n3_ := A_ (blk_below (pl_ BK358) hb); have n4_ := A_ (blk_below (pl_ BK359) hb); have n5_ := A_ (below_step (bl_ HB) hb); clear HO363; clear HO375; clear BK358; clear BK359; clear HB; have HO363 := n0_; have HO375 := n1_; have HO379 := n2_; have BK358 := n3_; have BK359 := n4_; have HB := n5_; clear n0_ n1_ n2_ n3_ n4_ n5_; (try clear hb); (try clear hb2); (try clear hk); (try clear hi); (try clear ho0)) | ((with_reducible refine gate_dst (N := 8) rfl ?_); refine box_event ?hg (N := 8) ?hd (cs := #[.slice none 0 0, .int .i16 0, .int .i16 0, .int .i16 0, .int .i16 0, .bool false]) (t := 32) ?hr ?_; (case hd => rfl); (case hg => rfl); (case hr => first | (go_simp; done) | (go_simp; rfl)); intro gb385 hg w29 hbox hb; have n0_ := A_ (Kd.R_below (pr_ HO363) hb); have n1_ := A_ (Kd.R_below (pr_ HO375) hb); have n2_ := A_ (Kd.R_below (pr_ HO379) hb); have n3_ := A_ (blk_below (pl_ BK358) hb); have n4_ := A_ (blk_below (pl_ BK359) hb); have n5_ := A_ (below_step (bl_ HB) hb); have n6_ := A_ (hbox); have n7_ := A_ ((by rw [hg]; exact (below_size (bl_ HB)) : w.heap.size ≤ gb385)); have n8_ := n7_; have n9_ := A_ ((by rw [hg]; exact Nat.ne_of_lt (blk_lt (pl_ BK358)) : gb358 ≠ gb385)); have n10_ := Aside0.mk n9_.out.symm; have n11_ := A_ ((by rw [hg]; exact Nat.ne_of_lt (blk_lt (pl_ BK359)) : gb359 ≠ gb385)); have n12_ := Aside0.mk n11_.out.symm; clear HO363; clear HO375; clear HO379; clear BK358; clear BK359; clear HB; have HO363 := n0_; have HO375 := n1_; have HO379 := n2_; have BK358 := n3_; have BK359 := n4_; have HB := n5_; have BK385 := n6_; have GW385 := n7_; have GE385 := n8_; have NB358_385 := n9_; have NB385_358 := n10_; have NB359_385 := n11_; have NB385_359 := n12_; clear n0_ n1_ n2_ n3_ n4_ n5_ n6_ n7_ n8_ n9_ n10_ n11_ n12_; clear hb hbox hg; obtain ⟨Ao30, co30, eo30⟩ := Kd.R_slice HO379.out; subst eo30; have hnb31 := NB385_358.out; have hnc31 := NB358_385.out; have hnb32 := NB385_359.out; have hnc32 := NB359_385.out; have hcz33_0 : w29.cell? ⟨gb385, 0, none⟩ = some (.slice none 0 0) := (blk_cell BK385.out 0).trans rfl; have hcz33_1 : w29.cell? ⟨gb385, 1, none⟩ = some (.int .i16 0) := (blk_cell BK385.out 1).trans rfl; have hcz33_2 : w29.cell? ⟨gb385, 2, none⟩ = some (.int .i16 0) := (blk_cell BK385.out 2).trans rfl; have hcz33_3 : w29.cell? ⟨gb385, 3, none⟩ = some (.int .i16 0) := (blk_cell BK385.out 3).trans rfl; have hcz33_4 : w29.cell? ⟨gb385, 4, none⟩ = some (.int .i16 0) := (blk_cell BK385.out 4).trans rfl; have hcz33_5 : w29.cell? ⟨gb385, 5, none⟩ = some (.bool false) := (blk_cell BK385.out 5).trans rfl; have hfz33_0 := blk_frozen BK385.out 0; have hfz33_1 := blk_frozen BK385.out 1; have hfz33_2 := blk_frozen BK385.out 2; have hfz33_3 := blk_frozen BK385.out 3; have hfz33_4 := blk_frozen BK385.out 4; have hfz33_5 := blk_frozen BK385.out 5))
  have n0_ : Aside0 (Kd.R (Kd.int .i16) 23 ((((((w29.setCell ⟨gb385, 0, none⟩ (.slice Ao30 t377.length co30)).setCell ⟨gb385, 1, none⟩ (.int .i16 t380)).setCell ⟨gb385, 2, none⟩ (.int .i16 t381)).setCell ⟨gb385, 3, none⟩ (.int .i16 t382)).setCell ⟨gb385, 4, none⟩ (.int .i16 t383)).setCell ⟨gb385, 5, none⟩ (.bool t384)) w.heap.size (fun k_ => some k_ ≠ (.slice Ao30 t377.length co30 : Value).ownBlock) (.slice Ao25 t361.length co25) t361) := ⟨by (with_reducible repeat (first | apply Kd.R_alloc | apply Kd.R_drewN | apply Kd.R_drew)); exact Kd.R_mono (Kd.R_far (p := ⟨gb385, 5, none⟩) (Kd.R_far (p := ⟨gb385, 4, none⟩) (Kd.R_far (p := ⟨gb385, 3, none⟩) (Kd.R_far (p := ⟨gb385, 2, none⟩) (Kd.R_far (p := ⟨gb385, 1, none⟩) (Kd.R_far (p := ⟨gb385, 0, none⟩) (Kd.R_types HO363.out BK385.out (by decide)) (fun _ hk => hk.2) (.slice Ao30 t377.length co30)) (fun _ hk => hk.2) (.int .i16 t380)) (fun _ hk => hk.2) (.int .i16 t381)) (fun _ hk => hk.2) (.int .i16 t382)) (fun _ hk => hk.2) (.int .i16 t383)) (fun _ hk => hk.2) (.bool t384)) (fun _ hk => hk.1.2)⟩
  have n1_ : Aside0 (Kd.R k60 60 ((((((w29.setCell ⟨gb385, 0, none⟩ (.slice Ao30 t377.length co30)).setCell ⟨gb385, 1, none⟩ (.int .i16 t380)).setCell ⟨gb385, 2, none⟩ (.int .i16 t381)).setCell ⟨gb385, 3, none⟩ (.int .i16 t382)).setCell ⟨gb385, 4, none⟩ (.int .i16 t383)).setCell ⟨gb385, 5, none⟩ (.bool t384)) w.heap.size (fun _ => True) v374 t373) := ⟨by (with_reducible repeat (first | apply Kd.R_alloc | apply Kd.R_drewN | apply Kd.R_drew)); exact Kd.R_mono (Kd.R_far (p := ⟨gb385, 5, none⟩) (Kd.R_far (p := ⟨gb385, 4, none⟩) (Kd.R_far (p := ⟨gb385, 3, none⟩) (Kd.R_far (p := ⟨gb385, 2, none⟩) (Kd.R_far (p := ⟨gb385, 1, none⟩) (Kd.R_far (p := ⟨gb385, 0, none⟩) (Kd.R_types HO375.out BK385.out (by decide)) (fun _ hk => hk.2) (.slice Ao30 t377.length co30)) (fun _ hk => hk.2) (.int .i16 t380)) (fun _ hk => hk.2) (.int .i16 t381)) (fun _ hk => hk.2) (.int .i16 t382)) (fun _ hk => hk.2) (.int .i16 t383)) (fun _ hk => hk.2) (.bool t384)) (fun _ hk => trivial)⟩
  have n2_ : Aside0 (Kd.R (Kd.int .i16) 23 ((((((w29.setCell ⟨gb385, 0, none⟩ (.slice Ao30 t377.length co30)).setCell ⟨gb385, 1, none⟩ (.int .i16 t380)).setCell ⟨gb385, 2, none⟩ (.int .i16 t381)).setCell ⟨gb385, 3, none⟩ (.int .i16 t382)).setCell ⟨gb385, 4, none⟩ (.int .i16 t383)).setCell ⟨gb385, 5, none⟩ (.bool t384)) w.heap.size (fun k_ => some k_ ≠ (.slice Ao25 t361.length co25 : Value).ownBlock) (.slice Ao30 t377.length co30) t377) := ⟨by (with_reducible repeat (first | apply Kd.R_alloc | apply Kd.R_drewN | apply Kd.R_drew)); exact Kd.R_mono (Kd.R_far (p := ⟨gb385, 5, none⟩) (Kd.R_far (p := ⟨gb385, 4, none⟩) (Kd.R_far (p := ⟨gb385, 3, none⟩) (Kd.R_far (p := ⟨gb385, 2, none⟩) (Kd.R_far (p := ⟨gb385, 1, none⟩) (Kd.R_far (p := ⟨gb385, 0, none⟩) (Kd.R_types HO379.out BK385.out (by decide)) (fun _ hk => hk.2) (.slice Ao30 t377.length co30)) (fun _ hk => hk.2) (.int .i16 t380)) (fun _ hk => hk.2) (.int .i16 t381)) (fun _ hk => hk.2) (.int .i16 t382)) (fun _ hk => hk.2) (.int .i16 t383)) (fun _ hk => hk.2) (.bool t384)) (fun _ hk => hk.1.2)⟩
  have n3_ : Aside0 (((((((w29.setCell ⟨gb385, 0, none⟩ (.slice Ao30 t377.length co30)).setCell ⟨gb385, 1, none⟩ (.int .i16 t380)).setCell ⟨gb385, 2, none⟩ (.int .i16 t381)).setCell ⟨gb385, 3, none⟩ (.int .i16 t382)).setCell ⟨gb385, 4, none⟩ (.int .i16 t383)).setCell ⟨gb385, 5, none⟩ (.bool t384)).heap[gb358]? = some (.cells #[.slice A0_0 l0_0.length c0_0, .int .i16 a0_1, .int .i16 a0_2, .int .i16 a0_3, .int .i16 a0_4, .bool a0_5] 26 (0, 0))) := ⟨pf_ BK358 NB358_385⟩
  have n4_ : Aside0 (((((((w29.setCell ⟨gb385, 0, none⟩ (.slice Ao30 t377.length co30)).setCell ⟨gb385, 1, none⟩ (.int .i16 t380)).setCell ⟨gb385, 2, none⟩ (.int .i16 t381)).setCell ⟨gb385, 3, none⟩ (.int .i16 t382)).setCell ⟨gb385, 4, none⟩ (.int .i16 t383)).setCell ⟨gb385, 5, none⟩ (.bool t384)).heap[gb359]? = some (.cells #[.int .i16 a1_0, .int .i16 a1_1, .int .i16 a1_2, .int .i16 a1_3] 24 (0, 0))) := ⟨pf_ BK359 NB359_385⟩
  have n5_ : Aside0 (((((((w29.setCell ⟨gb385, 0, none⟩ (.slice Ao30 t377.length co30)).setCell ⟨gb385, 1, none⟩ (.int .i16 t380)).setCell ⟨gb385, 2, none⟩ (.int .i16 t381)).setCell ⟨gb385, 3, none⟩ (.int .i16 t382)).setCell ⟨gb385, 4, none⟩ (.int .i16 t383)).setCell ⟨gb385, 5, none⟩ (.bool t384)).heap[gb385]? = some (.cells #[.slice Ao30 t377.length co30, .int .i16 t380, .int .i16 t381, .int .i16 t382, .int .i16 t383, .bool t384] 32 (0, 0))) := ⟨by (with_reducible repeat (first | refine blk_drewN ?_ _ | refine blk_drew ?_ | refine blk_alloc ?_ _)); refine blk_put (cs := #[.slice Ao30 t377.length co30, .int .i16 t380, .int .i16 t381, .int .i16 t382, .int .i16 t383, .bool false]) ?_ 5 _ rfl; (with_reducible repeat (first | refine blk_drewN ?_ _ | refine blk_drew ?_ | refine blk_alloc ?_ _)); refine blk_put (cs := #[.slice Ao30 t377.length co30, .int .i16 t380, .int .i16 t381, .int .i16 t382, .int .i16 0, .bool false]) ?_ 4 _ rfl; (with_reducible repeat (first | refine blk_drewN ?_ _ | refine blk_drew ?_ | refine blk_alloc ?_ _)); refine blk_put (cs := #[.slice Ao30 t377.length co30, .int .i16 t380, .int .i16 t381, .int .i16 0, .int .i16 0, .bool false]) ?_ 3 _ rfl; (with_reducible repeat (first | refine blk_drewN ?_ _ | refine blk_drew ?_ | refine blk_alloc ?_ _)); refine blk_put (cs := #[.slice Ao30 t377.length co30, .int .i16 t380, .int .i16 0, .int .i16 0, .int .i16 0, .bool false]) ?_ 2 _ rfl; (with_reducible repeat (first | refine blk_drewN ?_ _ | refine blk_drew ?_ | refine blk_alloc ?_ _)); refine blk_put (cs := #[.slice Ao30 t377.length co30, .int .i16 0, .int .i16 0, .int .i16 0, .int .i16 0, .bool false]) ?_ 1 _ rfl; (with_reducible repeat (first | refine blk_drewN ?_ _ | refine blk_drew ?_ | refine blk_alloc ?_ _)); refine blk_put (cs := #[.slice none 0 0, .int .i16 0, .int .i16 0, .int .i16 0, .int .i16 0, .bool false]) ?_ 0 _ rfl; (with_reducible repeat (first | refine blk_drewN ?_ _ | refine blk_drew ?_ | refine blk_alloc ?_ _)); exact BK385.out⟩
  have n6_ : Aside0 (Below w.heap.size w ((((((w29.setCell ⟨gb385, 0, none⟩ (.slice Ao30 t377.length co30)).setCell ⟨gb385, 1, none⟩ (.int .i16 t380)).setCell ⟨gb385, 2, none⟩ (.int .i16 t381)).setCell ⟨gb385, 3, none⟩ (.int .i16 t382)).setCell ⟨gb385, 4, none⟩ (.int .i16 t383)).setCell ⟨gb385, 5, none⟩ (.bool t384))) := ⟨bs_ HB GE385⟩
  (try clear HO363)
  (try clear HO375)
  (try clear HO379)
  (try clear BK358)
  (try clear BK359)
  (try clear BK385)
  (try clear HB)
  generalize ((((((w29.setCell ⟨gb385, 0, none⟩ (.slice Ao30 t377.length co30)).setCell ⟨gb385, 1, none⟩ (.int .i16 t380)).setCell ⟨gb385, 2, none⟩ (.int .i16 t381)).setCell ⟨gb385, 3, none⟩ (.int .i16 t382)).setCell ⟨gb385, 4, none⟩ (.int .i16 t383)).setCell ⟨gb385, 5, none⟩ (.bool t384)) = w34 at n0_ n1_ n2_ n3_ n4_ n5_ n6_ ⊢
  have HO363 := n0_
  have HO375 := n1_
  have HO379 := n2_
  have BK358 := n3_
  have BK359 := n4_
  have BK385 := n5_
  have HB := n6_
  clear n0_ n1_ n2_ n3_ n4_ n5_ n6_
  have n0_ := A_ (Kd.R_drew HO363.out)
  have n1_ := A_ (Kd.R_drew HO375.out)
  have n2_ := A_ (Kd.R_drew HO379.out)
  have n3_ := A_ (blk_drew BK358.out)
  have n4_ := A_ (blk_drew BK359.out)
  have n5_ := A_ (blk_drew BK385.out)
  have n6_ := A_ (below_drew1 HB.out)
  clear HO363
  clear HO375
  clear HO379
  clear BK358
  clear BK359
  clear BK385
  clear HB
  have HO363 := n0_
  have HO375 := n1_
  have HO379 := n2_
  have BK358 := n3_
  have BK359 := n4_
  have BK385 := n5_
  have HB := n6_
  clear n0_ n1_ n2_ n3_ n4_ n5_ n6_
  refine start_ (n := 9) (S := fun w' => w'.cell? ⟨gb385, 0, none⟩ = some (.slice Ao30 t377.length co30) ∧ w'.cell? ⟨gb385, 1, none⟩ = some (.int .i16 t380) ∧ w'.cell? ⟨gb385, 2, none⟩ = some (.int .i16 t381) ∧ w'.cell? ⟨gb385, 3, none⟩ = some (.int .i16 t382) ∧ w'.cell? ⟨gb385, 4, none⟩ = some (.int .i16 t383) ∧ w'.cell? ⟨gb385, 5, none⟩ = some (.bool t384) ∧ w'.cell? ⟨gb359, 0, none⟩ = some (.int .i16 a1_0) ∧ w'.cell? ⟨gb359, 1, none⟩ = some (.int .i16 a1_1) ∧ w'.cell? ⟨gb359, 2, none⟩ = some (.int .i16 a1_2) ∧ w'.cell? ⟨gb359, 3, none⟩ = some (.int .i16 a1_3)) (ds := []) #[false, false, false, false, false, false, false, false, false] (by kernel_rfl) rfl rfl ⟨(blk_cell BK385.out 0).trans rfl, (blk_cell BK385.out 1).trans rfl, (blk_cell BK385.out 2).trans rfl, (blk_cell BK385.out 3).trans rfl, (blk_cell BK385.out 4).trans rfl, (blk_cell BK385.out 5).trans rfl, (blk_cell BK359.out 0).trans rfl, (blk_cell BK359.out 1).trans rfl, (blk_cell BK359.out 2).trans rfl, (blk_cell BK359.out 3).trans rfl⟩ (fun hHeld => ?_); refine with_tabW laws_FnExactMovesFrom.tab7 laws_FnExactMovesFrom.bits7 (fun HT_ HW_ => ?_)
  generalize w34.drew = w35 at HO363 HO375 HO379 BK358 BK359 BK385 HB hHeld ⊢
  refine take_ (i := 0) (N := some 32) (v := ?_) (a' := ?_) #[true, false, false, false, false, false, false, false, false] rfl rfl (take_ofW HT_.out HW_.out (by kernel_rfl)) (fun _ _ _ h => h) (Or.inl ⟨by rfl, ?_⟩) hHeld ?_ ?_
  rotate_left
  ·rintro w' ⟨s0, s1, s2, s3, s4, s5, s6, s7, s8, s9⟩
   go_simp
   with_reducible rfl
  rotate_left
  ·simp only [Act.put, List.setIfInBounds_toArray, List.set_cons_zero, List.set_cons_succ, i64_w, i32_w]
   rfl
  refine take_ (i := 1) (N := some 33) (v := ?_) (a' := ?_) #[true, true, false, false, false, false, false, false, false] rfl rfl (take_ofW HT_.out HW_.out (by kernel_rfl)) (fun _ _ _ h => h) (Or.inl ⟨by rfl, ?_⟩) hHeld ?_ ?_
  rotate_left
  ·rintro w' ⟨s0, s1, s2, s3, s4, s5, s6, s7, s8, s9⟩
   go_simp
   with_reducible rfl
  rotate_left
  ·simp only [Act.put, List.setIfInBounds_toArray, List.set_cons_zero, List.set_cons_succ, i64_w, i32_w]
   rfl
  refine one_ (i := 2) (N := some 34) #[true, true, true, false, false, false, false, false, false] rfl rfl (one_of HT_.out (by kernel_rfl)) (by decide) (fun K hK => ?_)
  refine goes_ Try.func26 (by kernel_rfl) rfl #[.agg #[.int .i16 a1_0, .int .i16 a1_1, .int .i16 a1_2, .int .i16 a1_3]] (by rfl) rfl rfl arg_ ?_
  with_reducible refine (laws_toWater.calls k a1_0 a1_1 a1_2 a1_3 t386 t387 t388 t389 _ A14.out).mono ?_
  rintro e w36 ⟨rfl, hb⟩
  refine ⟨_, rfl, ?_⟩
  have n0_ := A_ (Kd.R_below (pr_ HO363) hb)
  have n1_ := A_ (Kd.R_below (pr_ HO375) hb)
  have n2_ := A_ (Kd.R_below (pr_ HO379) hb)
  have n3_ := A_ (blk_below (pl_ BK358) hb)
  have n4_ := A_ (blk_below (pl_ BK359) hb)
  have n5_ := A_ (blk_below (pl_ BK385) hb)
  have n6_ := A_ (below_step (bl_ HB) hb)
  clear HO363
  clear HO375
  clear HO379
  clear BK358
  clear BK359
  clear BK385
  clear HB
  have HO363 := n0_
  have HO375 := n1_
  have HO379 := n2_
  have BK358 := n3_
  have BK359 := n4_
  have BK385 := n5_
  have HB := n6_
  clear n0_ n1_ n2_ n3_ n4_ n5_ n6_
  (try clear hb)
  (try clear hb2)
  (try clear hk)
  (try clear hi)
  refine hK.out _ _ ⟨(blk_cell BK385.out 0).trans rfl, (blk_cell BK385.out 1).trans rfl, (blk_cell BK385.out 2).trans rfl, (blk_cell BK385.out 3).trans rfl, (blk_cell BK385.out 4).trans rfl, (blk_cell BK385.out 5).trans rfl, (blk_cell BK359.out 0).trans rfl, (blk_cell BK359.out 1).trans rfl, (blk_cell BK359.out 2).trans rfl, (blk_cell BK359.out 3).trans rfl⟩ (fun hHeld => ?_)
  clear hK K
  refine norm_ (a' := ?_) ?_ ?_
  rotate_left
  ·show Act.put _ (some 34) _ = _
   simp only [Act.put, List.setIfInBounds_toArray, List.set_cons_zero, List.set_cons_succ, i64_w, i32_w]
   rfl
  refine one_ (i := 3) (N := some 35) #[true, true, true, true, false, false, false, false, false] rfl rfl (one_of HT_.out (by kernel_rfl)) (by decide) (fun K hK => ?_)
  refine goes_ Try.func48 (by kernel_rfl) rfl #[.agg #[.slice Ao30 t377.length co30, .int .i16 t380, .int .i16 t381, .int .i16 t382, .int .i16 t383, .bool t384], .agg #[.int .i16 t386, .int .i16 t387, .int .i16 t388, .int .i16 t389]] (by rfl) rfl rfl arg_ ?_
  with_reducible refine (impl_MovesFrom.calls k _ _ t377 t380 t381 t382 t383 t384 t386 t387 t388 t389 t390 t393 _ ?side1 ?side2 A15.out).mono ?_
  (case side1 => repeat (first | exact (Kd.R_reads' HO379.out).2.2 | (with_reducible refine Kd.C_alloc ?_ _) | (with_reducible refine Kd.C_drewN ?_ _) | (with_reducible refine Kd.C_drew ?_)))
  (case side2 => exact (Kd.R_reads' HO379.out).2.1)
  rintro e w37 ⟨v391, rfl, ho0, hb⟩
  refine ⟨_, rfl, ?_⟩
  have n0_ := A_ (Kd.R_below (pr_ HO363) hb)
  have n1_ := A_ (Kd.R_elder' (pr_ HO375) (Kd.R_base ho0) hb)
  have n2_ := A_ (Kd.R_below (pr_ HO379) hb)
  have n3_ := A_ (Kd.R_lower (Kd.R_new' ho0 (Kd.R_lt (pr_ HO375))) (below_size (bl_ HB)))
  have n4_ := A_ (blk_below (pl_ BK358) hb)
  have n5_ := A_ (blk_below (pl_ BK359) hb)
  have n6_ := A_ (blk_below (pl_ BK385) hb)
  have n7_ := A_ (below_step (bl_ HB) hb)
  clear HO363
  clear HO375
  clear HO379
  clear BK358
  clear BK359
  clear BK385
  clear HB
  have HO363 := n0_
  have HO375 := n1_
  have HO379 := n2_
  have HO392 := n3_
  have BK358 := n4_
  have BK359 := n5_
  have BK385 := n6_
  have HB := n7_
  clear n0_ n1_ n2_ n3_ n4_ n5_ n6_ n7_
  (try clear hb)
  (try clear hb2)
  (try clear hk)
  (try clear hi)
  (try clear ho0)
  refine hK.out _ _ ⟨(blk_cell BK385.out 0).trans rfl, (blk_cell BK385.out 1).trans rfl, (blk_cell BK385.out 2).trans rfl, (blk_cell BK385.out 3).trans rfl, (blk_cell BK385.out 4).trans rfl, (blk_cell BK385.out 5).trans rfl, (blk_cell BK359.out 0).trans rfl, (blk_cell BK359.out 1).trans rfl, (blk_cell BK359.out 2).trans rfl, (blk_cell BK359.out 3).trans rfl⟩ (fun hHeld => ?_)
  clear hK K
  refine norm_ (a' := ?_) ?_ ?_
  rotate_left
  ·show Act.put _ (some 35) _ = _
   simp only [Act.put, List.setIfInBounds_toArray, List.set_cons_zero, List.set_cons_succ, i64_w, i32_w]
   rfl
  refine pure_ (i := 4) (N := some 31) (v := ?_) (a' := ?_) #[true, true, true, true, true, false, false, false, false] rfl rfl (any_of HT_.out (by kernel_rfl)) (fun _ _ _ h => h) (Or.inl ⟨by rfl, ?_⟩) ?_ ?_
  rotate_left
  ·intro w'
   go_simp
   with_reducible rfl
  rotate_left
  ·simp only [Act.put, List.setIfInBounds_toArray, List.set_cons_zero, List.set_cons_succ, i64_w, i32_w]
   rfl
  refine pure_ (i := 5) (N := some 36) (v := ?_) (a' := ?_) #[true, true, true, true, true, true, false, false, false] rfl rfl (any_of HT_.out (by kernel_rfl)) (fun _ _ _ h => h) (Or.inl ⟨by rfl, ?_⟩) ?_ ?_
  rotate_left
  ·intro w'
   go_simp
   with_reducible rfl
  rotate_left
  ·simp only [Act.put, List.setIfInBounds_toArray, List.set_cons_zero, List.set_cons_succ, i64_w, i32_w]
   rfl
  refine pure_ (i := 6) (N := some 37) (v := ?_) (a' := ?_) #[true, true, true, true, true, true, true, false, false] rfl rfl (any_of HT_.out (by kernel_rfl)) (fun _ _ _ h => h) (Or.inl ⟨by rfl, ?_⟩) ?_ ?_
  rotate_left
  ·intro w'
   go_simp
   with_reducible rfl
  rotate_left
  ·simp only [Act.put, List.setIfInBounds_toArray, List.set_cons_zero, List.set_cons_succ, i64_w, i32_w]
   rfl
  refine pure_ (i := 7) (N := some 9) (v := ?_) (a' := ?_) #[true, true, true, true, true, true, true, true, false] rfl rfl (any_of HT_.out (by kernel_rfl)) (fun _ _ _ h => h) (Or.inl ⟨by rfl, ?_⟩) ?_ ?_
  rotate_left
  ·intro w'
   go_simp
   with_reducible rfl
  rotate_left
  ·simp only [Act.put, List.setIfInBounds_toArray, List.set_cons_zero, List.set_cons_succ, i64_w, i32_w]
   rfl
  refine pure_ (i := 8) (N := some 10) (v := ?_) (a' := ?_) #[true, true, true, true, true, true, true, true, true] rfl rfl (any_of HT_.out (by kernel_rfl)) (fun _ _ _ h => h) (Or.inl ⟨by rfl, ?_⟩) ?_ ?_
  rotate_left
  ·intro w'
   go_simp
   with_reducible rfl
  rotate_left
  ·simp only [Act.put, List.setIfInBounds_toArray, List.set_cons_zero, List.set_cons_succ, i64_w, i32_w]
   rfl
  refine done_ (done_of HT_.out (by kernel_rfl)) ?_
  go_upto_region 8 with (fail)
  go_cut [46] (fun v46 wc => ∃ (kq : Nat) (x46_15 : Bool), v46 = .bool x46_15 ∧ Aside0 (laws_FnExactMovesFrom.j0 kq t373 t376 t390 t393 x46_15 l0_0 a0_1 a0_2 a0_3 a0_4 a0_5 a1_0 a1_1 a1_2 a1_3 t377 t380 t381 t382 t383 t384 = some r) ∧ Aside0 (kq ≤ k) ∧ Aside0 (Kd.R k60 60 wc w.heap.size (fun k_ => some k_ ≠ (v391 : Value).ownBlock) v374 t373) ∧ Aside0 (Kd.R k60 60 wc w.heap.size (fun k_ => some k_ ≠ (v374 : Value).ownBlock) v391 t390) ∧ Aside0 (Kd.R (Kd.int .i16) 23 wc w.heap.size (fun _ => True) (.slice Ao30 t377.length co30) t377) ∧ Aside0 (wc.heap[gb358]? = some (.cells #[(.slice A0_0 l0_0.length c0_0), .int .i16 a0_1, .int .i16 a0_2, .int .i16 a0_3, .int .i16 a0_4, .bool a0_5] 26 (0, 0))) ∧ Aside0 (wc.heap[gb359]? = some (.cells #[.int .i16 a1_0, .int .i16 a1_1, .int .i16 a1_2, .int .i16 a1_3] 24 (0, 0))) ∧ Aside0 (wc.heap[gb385]? = some (.cells #[(.slice Ao30 t377.length co30), .int .i16 t380, .int .i16 t381, .int .i16 t382, .int .i16 t383, .bool t384] 32 (0, 0))) ∧ Aside0 (Below w.heap.size w wc))
  case first =>
   have H := HC16.out
   clear HC16
   replace H := Option.bind_eq_some_iff.mp H
   obtain ⟨t394, A380, H⟩ := H
   replace H : (if t394 = true then (laws_FnExactMovesFrom.j0 k t373 t376 t390 t393 (t393 != t376) l0_0 a0_1 a0_2 a0_3 a0_4 a0_5 a1_0 a1_1 a1_2 a1_3 t377 t380 t381 t382 t383 t384) else (laws_FnExactMovesFrom.j0 k t373 t376 t390 t393 true l0_0 a0_1 a0_2 a0_3 a0_4 a0_5 a1_0 a1_1 a1_2 a1_3 t377 t380 t381 t382 t383 t384)) = some r := H
   have A38 := Aside0.mk A380
   clear A380
   by_cases c39 : t394 = true
   ·subst c39
    have H1 : (laws_FnExactMovesFrom.j0 k t373 t376 t390 t393 (t393 != t376) l0_0 a0_1 a0_2 a0_3 a0_4 a0_5 a1_0 a1_1 a1_2 a1_3 t377 t380 t381 t382 t383 t384) = some r := by rw [if_pos rfl] at H; exact H
    clear H
    have H := H1
    clear H1
    have H' := Aside0.mk H
    clear H
    obtain ⟨Ao40, co40, eo40⟩ := Kd.R_slice HO392.out
    subst eo40
    obtain ⟨Ao41, co41, eo41⟩ := Kd.R_slice HO375.out
    subst eo41
    go_wp2_with (first | ((with_reducible refine gate_callee (f := 41) rfl ?_); refine goesL_ (some 40) rfl rfl Try.func41 (by kernel_rfl) rfl #[.slice Ao40 t390.length co40, .slice Ao41 t373.length co41] rfl arg_ ?_; (with_reducible refine (laws_eqMoveS.calls k _ _ t390 _ _ t373 true _ ?side1 ?side2 ?side3 ?side4 A38.out).mono ?_); (case side1 => repeat (first | exact (Kd.R_reads' HO392.out).2.2 | (with_reducible refine Kd.C_alloc ?_ _) | (with_reducible refine Kd.C_drewN ?_ _) | (with_reducible refine Kd.C_drew ?_))); (case side2 => exact (Kd.R_reads' HO392.out).2.1); (case side3 => repeat (first | exact (Kd.R_reads' HO375.out).2.2 | (with_reducible refine Kd.C_alloc ?_ _) | (with_reducible refine Kd.C_drewN ?_ _) | (with_reducible refine Kd.C_drew ?_))); (case side4 => exact (Kd.R_reads' HO375.out).2.1); rintro e w42 ⟨rfl, hb⟩; refine ⟨_, rfl, ?_⟩; have n0_ := A_ (Kd.R_below (pr_ HO363) hb); have n1_ := A_ (Kd.R_below (pr_ HO375) hb); have n2_ := A_ (Kd.R_below (pr_ HO379) hb); have n3_ := A_ (Kd.R_below (pr_ HO392) hb); have n4_ := A_ (blk_below (pl_ BK358) hb); have n5_ := A_ (blk_below (pl_ BK359) hb); have n6_ := A_ (blk_below (pl_ BK385) hb); have n7_ := A_ (below_step (bl_ HB) hb); clear HO363; clear HO375; clear HO379; clear HO392; clear BK358; clear BK359; clear BK385; clear HB; have HO363 := n0_; have HO375 := n1_; have HO379 := n2_; have HO392 := n3_; have BK358 := n4_; have BK359 := n5_; have BK385 := n6_; have HB := n7_; clear n0_ n1_ n2_ n3_ n4_ n5_ n6_ n7_; (try clear hb); (try clear hb2); (try clear hk); (try clear hi)))
    go_meet
    case rel => exact ⟨_, ((t393 != t376)), rs_, H', ⟨by first | omega | exact Nat.le_refl _⟩, ⟨by (with_reducible repeat (first | apply Kd.R_alloc | apply Kd.R_drewN | apply Kd.R_drew)); exact Kd.R_mono HO375.out (fun _ hk => hk.2)⟩, ⟨by (with_reducible repeat (first | apply Kd.R_alloc | apply Kd.R_drewN | apply Kd.R_drew)); exact Kd.R_mono HO392.out (fun _ hk => hk.2)⟩, ⟨by (with_reducible repeat (first | apply Kd.R_alloc | apply Kd.R_drewN | apply Kd.R_drew)); exact Kd.R_mono HO379.out (fun _ hk => trivial)⟩, ⟨pl_ BK358⟩, ⟨pl_ BK359⟩, ⟨pl_ BK385⟩, ⟨bl_ HB⟩⟩
   ·replace c39 := Bool.eq_false_iff.mpr c39
    subst c39
    have H1 : (laws_FnExactMovesFrom.j0 k t373 t376 t390 t393 true l0_0 a0_1 a0_2 a0_3 a0_4 a0_5 a1_0 a1_1 a1_2 a1_3 t377 t380 t381 t382 t383 t384) = some r := by rw [if_neg (show ¬ (false = true) by decide)] at H; exact H
    clear H
    have H := H1
    clear H1
    have H' := Aside0.mk H
    clear H
    obtain ⟨Ao43, co43, eo43⟩ := Kd.R_slice HO392.out
    subst eo43
    obtain ⟨Ao44, co44, eo44⟩ := Kd.R_slice HO375.out
    subst eo44
    go_wp2_with (first | ((with_reducible refine gate_callee (f := 41) rfl ?_); refine goesL_ (some 40) rfl rfl Try.func41 (by kernel_rfl) rfl #[.slice Ao43 t390.length co43, .slice Ao44 t373.length co44] rfl arg_ ?_; (with_reducible refine (laws_eqMoveS.calls k _ _ t390 _ _ t373 false _ ?side1 ?side2 ?side3 ?side4 A38.out).mono ?_); (case side1 => repeat (first | exact (Kd.R_reads' HO392.out).2.2 | (with_reducible refine Kd.C_alloc ?_ _) | (with_reducible refine Kd.C_drewN ?_ _) | (with_reducible refine Kd.C_drew ?_))); (case side2 => exact (Kd.R_reads' HO392.out).2.1); (case side3 => repeat (first | exact (Kd.R_reads' HO375.out).2.2 | (with_reducible refine Kd.C_alloc ?_ _) | (with_reducible refine Kd.C_drewN ?_ _) | (with_reducible refine Kd.C_drew ?_))); (case side4 => exact (Kd.R_reads' HO375.out).2.1); rintro e w45 ⟨rfl, hb⟩; refine ⟨_, rfl, ?_⟩; have n0_ := A_ (Kd.R_below (pr_ HO363) hb); have n1_ := A_ (Kd.R_below (pr_ HO375) hb); have n2_ := A_ (Kd.R_below (pr_ HO379) hb); have n3_ := A_ (Kd.R_below (pr_ HO392) hb); have n4_ := A_ (blk_below (pl_ BK358) hb); have n5_ := A_ (blk_below (pl_ BK359) hb); have n6_ := A_ (blk_below (pl_ BK385) hb); have n7_ := A_ (below_step (bl_ HB) hb); clear HO363; clear HO375; clear HO379; clear HO392; clear BK358; clear BK359; clear BK385; clear HB; have HO363 := n0_; have HO375 := n1_; have HO379 := n2_; have HO392 := n3_; have BK358 := n4_; have BK359 := n5_; have BK385 := n6_; have HB := n7_; clear n0_ n1_ n2_ n3_ n4_ n5_ n6_ n7_; (try clear hb); (try clear hb2); (try clear hk); (try clear hi)))
    go_meet
    case rel => exact ⟨_, (true), rs_, H', ⟨by first | omega | exact Nat.le_refl _⟩, ⟨by (with_reducible repeat (first | apply Kd.R_alloc | apply Kd.R_drewN | apply Kd.R_drew)); exact Kd.R_mono HO375.out (fun _ hk => hk.2)⟩, ⟨by (with_reducible repeat (first | apply Kd.R_alloc | apply Kd.R_drewN | apply Kd.R_drew)); exact Kd.R_mono HO392.out (fun _ hk => hk.2)⟩, ⟨by (with_reducible repeat (first | apply Kd.R_alloc | apply Kd.R_drewN | apply Kd.R_drew)); exact Kd.R_mono HO379.out (fun _ hk => trivial)⟩, ⟨pl_ BK358⟩, ⟨pl_ BK359⟩, ⟨pl_ BK385⟩, ⟨bl_ HB⟩⟩
  case rest =>
   clear HC16
   try clear c1
   try clear c2
   try clear p2
   try clear c3
   try clear c4
   try clear c4b0
   try clear c7
   try clear c13
   try clear c16
   try clear c18
   try clear c19
   try clear c26
   try clear c31
   try clear c32
   try clear c39
   try clear c41
   try clear hcz20_0
   try clear hcz20_1
   try clear hcz20_2
   try clear hcz20_3
   try clear hcz20_4
   try clear hcz20_5
   try clear hcz27_0
   try clear hcz27_1
   try clear hcz27_2
   try clear hcz27_3
   try clear hcz27_4
   try clear hcz27_5
   try clear hcz33_0
   try clear hcz33_1
   try clear hcz33_2
   try clear hcz33_3
   try clear hcz33_4
   try clear hcz33_5
   try clear hcz8_0
   try clear hcz8_1
   try clear hcz8_2
   try clear hcz8_3
   try clear hcz8_4
   try clear hcz8_5
   try clear hfz20_0
   try clear hfz20_1
   try clear hfz20_2
   try clear hfz20_3
   try clear hfz20_4
   try clear hfz20_5
   try clear hfz27_0
   try clear hfz27_1
   try clear hfz27_2
   try clear hfz27_3
   try clear hfz27_4
   try clear hfz27_5
   try clear hfz33_0
   try clear hfz33_1
   try clear hfz33_2
   try clear hfz33_3
   try clear hfz33_4
   try clear hfz33_5
   try clear hfz8_0
   try clear hfz8_1
   try clear hfz8_2
   try clear hfz8_3
   try clear hfz8_4
   try clear hfz8_5
   obtain ⟨kq, x46_15, rfl, HA, HJ15, HO_6, HO_9, HO_386000, BK358, BK359, BK385, HB⟩ := hcut
   cases kq with
   | zero => exact absurd HA.out (by simp [laws_FnExactMovesFrom.j0])
   | succ kj15 =>
    have H := HA.out
    clear HA
    simp only [laws_FnExactMovesFrom.j0] at H
    by_cases c46 : x46_15 = true
    ·subst c46
     have H1 : (some false) = some r := by rw [if_pos rfl] at H; exact H
     clear H
     have H := H1
     clear H1
     obtain rfl := Option.some.inj H
     go_wp2
     go_ret
     exact ⟨by first | rfl | (simp [errW_none, errW_some] <;> rfl) | (simp [*, errW_none, errW_some] <;> rfl), bl_ HB⟩
    ·replace c46 := Bool.eq_false_iff.mpr c46
     subst c46
     have H1 : ((laws_toPuzzle.f kj15 l0_0 a0_1 a0_2 a0_3 a0_4 a0_5).bind fun bt395 => ((laws_eqPuzzle.f kj15 t377 t380 t381 t382 t383 t384 bt395.1 bt395.2.1 bt395.2.2.1 bt395.2.2.2.1 bt395.2.2.2.2.1 bt395.2.2.2.2.2).bind fun t403 => (if t403 = true then ((laws_markPuzzle.f kj15 t377 t380 t381 t382 t383 t384 1).bind fun bt404 => (if bt404.1 < 0 then (laws_FnExactMovesFrom.j1 kj15 t373 t376 t390 true l0_0 a0_1 a0_2 a0_3 a0_4 a0_5 a1_0 a1_1 a1_2 a1_3) else ((laws_eqMoveS.f kj15 t390 t373).bind fun t406 => (if t406 = true then (laws_FnExactMovesFrom.j1 kj15 t373 t376 t390 (t393 != t376) l0_0 a0_1 a0_2 a0_3 a0_4 a0_5 a1_0 a1_1 a1_2 a1_3) else (laws_FnExactMovesFrom.j1 kj15 t373 t376 t390 true l0_0 a0_1 a0_2 a0_3 a0_4 a0_5 a1_0 a1_1 a1_2 a1_3))))) else (some false)))) = some r := by rw [if_neg (show ¬ (false = true) by decide)] at H; exact H
     clear H
     have H := H1
     clear H1
     replace H := Option.bind_eq_some_iff.mp H
     obtain ⟨⟨t395, t398, t399, t400, t401, t402⟩, A470, H⟩ := H
     replace H : ((laws_eqPuzzle.f kj15 t377 t380 t381 t382 t383 t384 t395 t398 t399 t400 t401 t402).bind fun t403 => (if t403 = true then ((laws_markPuzzle.f kj15 t377 t380 t381 t382 t383 t384 1).bind fun bt404 => (if bt404.1 < 0 then (laws_FnExactMovesFrom.j1 kj15 t373 t376 t390 true l0_0 a0_1 a0_2 a0_3 a0_4 a0_5 a1_0 a1_1 a1_2 a1_3) else ((laws_eqMoveS.f kj15 t390 t373).bind fun t406 => (if t406 = true then (laws_FnExactMovesFrom.j1 kj15 t373 t376 t390 (t393 != t376) l0_0 a0_1 a0_2 a0_3 a0_4 a0_5 a1_0 a1_1 a1_2 a1_3) else (laws_FnExactMovesFrom.j1 kj15 t373 t376 t390 true l0_0 a0_1 a0_2 a0_3 a0_4 a0_5 a1_0 a1_1 a1_2 a1_3))))) else (some false))) = some r := H
     have A47 := Aside0.mk A470
     clear A470
     replace H := Option.bind_eq_some_iff.mp H
     obtain ⟨t403, A480, H⟩ := H
     replace H : (if t403 = true then ((laws_markPuzzle.f kj15 t377 t380 t381 t382 t383 t384 1).bind fun bt404 => (if bt404.1 < 0 then (laws_FnExactMovesFrom.j1 kj15 t373 t376 t390 true l0_0 a0_1 a0_2 a0_3 a0_4 a0_5 a1_0 a1_1 a1_2 a1_3) else ((laws_eqMoveS.f kj15 t390 t373).bind fun t406 => (if t406 = true then (laws_FnExactMovesFrom.j1 kj15 t373 t376 t390 (t393 != t376) l0_0 a0_1 a0_2 a0_3 a0_4 a0_5 a1_0 a1_1 a1_2 a1_3) else (laws_FnExactMovesFrom.j1 kj15 t373 t376 t390 true l0_0 a0_1 a0_2 a0_3 a0_4 a0_5 a1_0 a1_1 a1_2 a1_3))))) else (some false)) = some r := H
     have A48 := Aside0.mk A480
     clear A480
     by_cases c49 : t403 = true
     ·subst c49
      have H1 : ((laws_markPuzzle.f kj15 t377 t380 t381 t382 t383 t384 1).bind fun bt404 => (if bt404.1 < 0 then (laws_FnExactMovesFrom.j1 kj15 t373 t376 t390 true l0_0 a0_1 a0_2 a0_3 a0_4 a0_5 a1_0 a1_1 a1_2 a1_3) else ((laws_eqMoveS.f kj15 t390 t373).bind fun t406 => (if t406 = true then (laws_FnExactMovesFrom.j1 kj15 t373 t376 t390 (t393 != t376) l0_0 a0_1 a0_2 a0_3 a0_4 a0_5 a1_0 a1_1 a1_2 a1_3) else (laws_FnExactMovesFrom.j1 kj15 t373 t376 t390 true l0_0 a0_1 a0_2 a0_3 a0_4 a0_5 a1_0 a1_1 a1_2 a1_3))))) = some r := by rw [if_pos rfl] at H; exact H
      clear H
      have H := H1
      clear H1
      replace H := Option.bind_eq_some_iff.mp H
      obtain ⟨⟨t404, t405⟩, A500, H⟩ := H
      replace H : (if t404 < 0 then (laws_FnExactMovesFrom.j1 kj15 t373 t376 t390 true l0_0 a0_1 a0_2 a0_3 a0_4 a0_5 a1_0 a1_1 a1_2 a1_3) else ((laws_eqMoveS.f kj15 t390 t373).bind fun t406 => (if t406 = true then (laws_FnExactMovesFrom.j1 kj15 t373 t376 t390 (t393 != t376) l0_0 a0_1 a0_2 a0_3 a0_4 a0_5 a1_0 a1_1 a1_2 a1_3) else (laws_FnExactMovesFrom.j1 kj15 t373 t376 t390 true l0_0 a0_1 a0_2 a0_3 a0_4 a0_5 a1_0 a1_1 a1_2 a1_3)))) = some r := H
      have A50 := Aside0.mk A500
      clear A500
      have HC51 := Aside0.mk H
      clear H
      try go_wp2
      have n0_ := A_ (Kd.R_drew HO_6.out)
      have n1_ := A_ (Kd.R_drew HO_9.out)
      have n2_ := A_ (Kd.R_drew HO_386000.out)
      have n3_ := A_ (blk_drew BK358.out)
      have n4_ := A_ (blk_drew BK359.out)
      have n5_ := A_ (blk_drew BK385.out)
      have n6_ := A_ (below_drew1 HB.out)
      clear HO_6
      clear HO_9
      clear HO_386000
      clear BK358
      clear BK359
      clear BK385
      clear HB
      have HO_6 := n0_
      have HO_9 := n1_
      have HO_386000 := n2_
      have BK358 := n3_
      have BK359 := n4_
      have BK385 := n5_
      have HB := n6_
      clear n0_ n1_ n2_ n3_ n4_ n5_ n6_
      refine start_ (n := 5) (S := fun w' => w'.cell? ⟨gb385, 0, none⟩ = some (.slice Ao30 t377.length co30) ∧ w'.cell? ⟨gb385, 1, none⟩ = some (.int .i16 t380) ∧ w'.cell? ⟨gb385, 2, none⟩ = some (.int .i16 t381) ∧ w'.cell? ⟨gb385, 3, none⟩ = some (.int .i16 t382) ∧ w'.cell? ⟨gb385, 4, none⟩ = some (.int .i16 t383) ∧ w'.cell? ⟨gb385, 5, none⟩ = some (.bool t384) ∧ w'.cell? ⟨gb358, 0, none⟩ = some (.slice A0_0 l0_0.length c0_0) ∧ w'.cell? ⟨gb358, 1, none⟩ = some (.int .i16 a0_1) ∧ w'.cell? ⟨gb358, 2, none⟩ = some (.int .i16 a0_2) ∧ w'.cell? ⟨gb358, 3, none⟩ = some (.int .i16 a0_3) ∧ w'.cell? ⟨gb358, 4, none⟩ = some (.int .i16 a0_4) ∧ w'.cell? ⟨gb358, 5, none⟩ = some (.bool a0_5)) (ds := []) #[false, false, false, false, false] (by kernel_rfl) rfl rfl ⟨(blk_cell BK385.out 0).trans rfl, (blk_cell BK385.out 1).trans rfl, (blk_cell BK385.out 2).trans rfl, (blk_cell BK385.out 3).trans rfl, (blk_cell BK385.out 4).trans rfl, (blk_cell BK385.out 5).trans rfl, (blk_cell BK358.out 0).trans rfl, (blk_cell BK358.out 1).trans rfl, (blk_cell BK358.out 2).trans rfl, (blk_cell BK358.out 3).trans rfl, (blk_cell BK358.out 4).trans rfl, (blk_cell BK358.out 5).trans rfl⟩ (fun hHeld => ?_)
      generalize wc.drew = w52 at HO_6 HO_9 HO_386000 BK358 BK359 BK385 HB hHeld ⊢
      refine take_ (i := 0) (N := some 47) (v := ?_) (a' := ?_) #[true, false, false, false, false] rfl rfl (by kernel_rfl) (fun _ _ _ h => h) (Or.inl ⟨by rfl, ?_⟩) hHeld ?_ ?_
      rotate_left
      ·rintro w' ⟨s0, s1, s2, s3, s4, s5, s6, s7, s8, s9, s10, s11⟩
       go_simp
       with_reducible rfl
      rotate_left
      ·simp only [Act.put, List.setIfInBounds_toArray, List.set_cons_zero, List.set_cons_succ, i64_w, i32_w]
       rfl
      refine take_ (i := 1) (N := some 48) (v := ?_) (a' := ?_) #[true, true, false, false, false] rfl rfl (by kernel_rfl) (fun _ _ _ h => h) (Or.inl ⟨by rfl, ?_⟩) hHeld ?_ ?_
      rotate_left
      ·rintro w' ⟨s0, s1, s2, s3, s4, s5, s6, s7, s8, s9, s10, s11⟩
       go_simp
       with_reducible rfl
      rotate_left
      ·simp only [Act.put, List.setIfInBounds_toArray, List.set_cons_zero, List.set_cons_succ, i64_w, i32_w]
       rfl
      refine one_ (i := 2) (N := some 49) #[true, true, true, false, false] rfl rfl (by kernel_rfl) (by decide) (fun K hK => ?_)
      refine goes_ Try.func18 (by kernel_rfl) rfl #[.agg #[.slice A0_0 l0_0.length c0_0, .int .i16 a0_1, .int .i16 a0_2, .int .i16 a0_3, .int .i16 a0_4, .bool a0_5]] (by rfl) rfl rfl arg_ ?_
      with_reducible refine (laws_toPuzzle.calls kj15 _ _ l0_0 a0_1 a0_2 a0_3 a0_4 a0_5 t395 t398 t399 t400 t401 t402 _ ?side1 ?side2 A47.out).mono ?_
      (case side1 => repeat (first | exact (Kd.C_below HR0_0.out HB.out) | (with_reducible refine Kd.C_alloc ?_ _) | (with_reducible refine Kd.C_drewN ?_ _) | (with_reducible refine Kd.C_drew ?_)))
      (case side2 => exact HC0_0.out)
      rintro e w53 ⟨v396, rfl, ho0, hb⟩
      refine ⟨_, rfl, ?_⟩
      have n0_ := A_ (Kd.R_below (pr_ HO_6) hb)
      have n1_ := A_ (Kd.R_below (pr_ HO_9) hb)
      have n2_ := A_ (Kd.R_elder' (pr_ HO_386000) (Kd.R_base ho0) hb)
      have n3_ := A_ (Kd.R_lower (Kd.R_new' ho0 (Kd.R_lt (pr_ HO_386000))) (below_size (bl_ HB)))
      have n4_ := A_ (blk_below (pl_ BK358) hb)
      have n5_ := A_ (blk_below (pl_ BK359) hb)
      have n6_ := A_ (blk_below (pl_ BK385) hb)
      have n7_ := A_ (below_step (bl_ HB) hb)
      clear HO_6
      clear HO_9
      clear HO_386000
      clear BK358
      clear BK359
      clear BK385
      clear HB
      have HO_6 := n0_
      have HO_9 := n1_
      have HO_386000 := n2_
      have HO397 := n3_
      have BK358 := n4_
      have BK359 := n5_
      have BK385 := n6_
      have HB := n7_
      clear n0_ n1_ n2_ n3_ n4_ n5_ n6_ n7_
      (try clear hb)
      (try clear hb2)
      (try clear hk)
      (try clear hi)
      (try clear ho0)
      obtain ⟨Ao54, co54, eo54⟩ := Kd.R_slice HO397.out
      (first | subst eo54 | (injection eo54 with f1_ f2_ f3_; have f4_ := f1_.symm; have f5_ := f3_.symm; clear f1_ f2_ f3_; subst f4_; subst f5_))
      refine hK.out _ _ ⟨(blk_cell BK385.out 0).trans rfl, (blk_cell BK385.out 1).trans rfl, (blk_cell BK385.out 2).trans rfl, (blk_cell BK385.out 3).trans rfl, (blk_cell BK385.out 4).trans rfl, (blk_cell BK385.out 5).trans rfl, (blk_cell BK358.out 0).trans rfl, (blk_cell BK358.out 1).trans rfl, (blk_cell BK358.out 2).trans rfl, (blk_cell BK358.out 3).trans rfl, (blk_cell BK358.out 4).trans rfl, (blk_cell BK358.out 5).trans rfl⟩ (fun hHeld => ?_)
      clear hK K
      refine norm_ (a' := ?_) ?_ ?_
      rotate_left
      ·show Act.put _ (some 49) _ = _
       simp only [Act.put, List.setIfInBounds_toArray, List.set_cons_zero, List.set_cons_succ, i64_w, i32_w]
       rfl
      refine one_ (i := 3) (N := some 50) #[true, true, true, true, false] rfl rfl (by kernel_rfl) (by decide) (fun K hK => ?_)
      refine goes_ Try.func21 (by kernel_rfl) rfl #[.agg #[.slice Ao30 t377.length co30, .int .i16 t380, .int .i16 t381, .int .i16 t382, .int .i16 t383, .bool t384], .agg #[.slice Ao54 t395.length co54, .int .i16 t398, .int .i16 t399, .int .i16 t400, .int .i16 t401, .bool t402]] (by rfl) rfl rfl arg_ ?_
      with_reducible refine (laws_eqPuzzle.calls kj15 _ _ t377 t380 t381 t382 t383 t384 _ _ t395 t398 t399 t400 t401 t402 true _ ?side1 ?side2 ?side3 ?side4 A48.out).mono ?_
      (case side1 => repeat (first | exact (Kd.R_reads' HO_386000.out).2.2 | (with_reducible refine Kd.C_alloc ?_ _) | (with_reducible refine Kd.C_drewN ?_ _) | (with_reducible refine Kd.C_drew ?_)))
      (case side2 => exact (Kd.R_reads' HO_386000.out).2.1)
      (case side3 => repeat (first | exact (Kd.R_reads' HO397.out).2.2 | (with_reducible refine Kd.C_alloc ?_ _) | (with_reducible refine Kd.C_drewN ?_ _) | (with_reducible refine Kd.C_drew ?_)))
      (case side4 => exact (Kd.R_reads' HO397.out).2.1)
      rintro e w55 ⟨rfl, hb⟩
      refine ⟨_, rfl, ?_⟩
      have n0_ := A_ (Kd.R_below (pr_ HO_6) hb)
      have n1_ := A_ (Kd.R_below (pr_ HO_9) hb)
      have n2_ := A_ (Kd.R_below (pr_ HO_386000) hb)
      have n3_ := A_ (Kd.R_below (pr_ HO397) hb)
      have n4_ := A_ (blk_below (pl_ BK358) hb)
      have n5_ := A_ (blk_below (pl_ BK359) hb)
      have n6_ := A_ (blk_below (pl_ BK385) hb)
      have n7_ := A_ (below_step (bl_ HB) hb)
      clear HO_6
      clear HO_9
      clear HO_386000
      clear HO397
      clear BK358
      clear BK359
      clear BK385
      clear HB
      have HO_6 := n0_
      have HO_9 := n1_
      have HO_386000 := n2_
      have HO397 := n3_
      have BK358 := n4_
      have BK359 := n5_
      have BK385 := n6_
      have HB := n7_
      clear n0_ n1_ n2_ n3_ n4_ n5_ n6_ n7_
      (try clear hb)
      (try clear hb2)
      (try clear hk)
      (try clear hi)
      refine hK.out _ _ ⟨(blk_cell BK385.out 0).trans rfl, (blk_cell BK385.out 1).trans rfl, (blk_cell BK385.out 2).trans rfl, (blk_cell BK385.out 3).trans rfl, (blk_cell BK385.out 4).trans rfl, (blk_cell BK385.out 5).trans rfl, (blk_cell BK358.out 0).trans rfl, (blk_cell BK358.out 1).trans rfl, (blk_cell BK358.out 2).trans rfl, (blk_cell BK358.out 3).trans rfl, (blk_cell BK358.out 4).trans rfl, (blk_cell BK358.out 5).trans rfl⟩ (fun hHeld => ?_)
      clear hK K
      refine norm_ (a' := ?_) ?_ ?_
      rotate_left
      ·show Act.put _ (some 50) _ = _
       simp only [Act.put, List.setIfInBounds_toArray, List.set_cons_zero, List.set_cons_succ, i64_w, i32_w]
       rfl
      refine pure_ (i := 4) (N := some 51) (v := ?_) (a' := ?_) #[true, true, true, true, true] rfl rfl (by kernel_rfl) (fun _ _ _ h => h) (Or.inl ⟨by rfl, ?_⟩) ?_ ?_
      rotate_left
      ·intro w'
       go_simp
       with_reducible rfl
      rotate_left
      ·simp only [Act.put, List.setIfInBounds_toArray, List.set_cons_zero, List.set_cons_succ, i64_w, i32_w]
       rfl
      refine done_ (by kernel_rfl) ?_
      have hnb56 := NB385_358.out
      have hnc56 := NB358_385.out
      have hnb57 := NB385_359.out
      have hnc57 := NB359_385.out
      have hcz58_0 : w55.cell? ⟨gb385, 0, none⟩ = some (.slice Ao30 t377.length co30) := (blk_cell BK385.out 0).trans rfl
      have hcz58_1 : w55.cell? ⟨gb385, 1, none⟩ = some (.int .i16 t380) := (blk_cell BK385.out 1).trans rfl
      have hcz58_2 : w55.cell? ⟨gb385, 2, none⟩ = some (.int .i16 t381) := (blk_cell BK385.out 2).trans rfl
      have hcz58_3 : w55.cell? ⟨gb385, 3, none⟩ = some (.int .i16 t382) := (blk_cell BK385.out 3).trans rfl
      have hcz58_4 : w55.cell? ⟨gb385, 4, none⟩ = some (.int .i16 t383) := (blk_cell BK385.out 4).trans rfl
      have hcz58_5 : w55.cell? ⟨gb385, 5, none⟩ = some (.bool t384) := (blk_cell BK385.out 5).trans rfl
      have hfz58_0 := blk_frozen BK385.out 0
      have hfz58_1 := blk_frozen BK385.out 1
      have hfz58_2 := blk_frozen BK385.out 2
      have hfz58_3 := blk_frozen BK385.out 3
      have hfz58_4 := blk_frozen BK385.out 4
      have hfz58_5 := blk_frozen BK385.out 5
      go_upto_region 14 with (first | ((with_reducible refine gate_callee (f := 49) rfl ?_); refine goesL_ (some 54) rfl rfl Try.func49 (by kernel_rfl) rfl #[.agg #[.slice Ao30 t377.length co30, .int .i16 t380, .int .i16 t381, .int .i16 t382, .int .i16 t383, .bool t384], .int .i64 1] rfl arg_ ?_; (with_reducible refine (laws_markPuzzle.calls kj15 (fun k_ => some k_ = (.slice Ao30 t377.length co30 : Value).ownBlock) (.slice Ao30 t377.length co30) t377 t380 t381 t382 t383 t384 1 t404 t405 w _ ?side1 ?side2 A50.out).mono ?_); (case side1 => repeat (first | (with_reducible first | exact HB.out | apply below_alloc | apply pw_below_drewN | apply below_drew1) | exact HB.out)); (case side2 => exact Kd.R_tight rfl HO_386000.out); rintro e w59 ⟨rfl, hy0, hb, hkp⟩; refine ⟨_, rfl, ?_⟩; have n0_ := A_ (Kd.R_mono (ok' := fun k_ => some k_ ≠ (v391 : Value).ownBlock) (Kd.R_keptB ((Kd.R_apart' HO_6.out (Kd.R_typed HO_386000.out) (by decide))) hkp (fun k_ hk_ hs_ => (hk_.2) hs_)) (fun k_ hk_ => hk_.1.1)); have n1_ := A_ (Kd.R_mono (ok' := fun k_ => some k_ ≠ (v374 : Value).ownBlock) (Kd.R_keptB ((Kd.R_apart' HO_9.out (Kd.R_typed HO_386000.out) (by decide))) hkp (fun k_ hk_ hs_ => (hk_.2) hs_)) (fun k_ hk_ => hk_.1.1)); have n2_ := A_ (Kd.R_reok rfl hy0 (fun k_ e_ => HO_386000.out.1 k_ e_)); have n3_ := A_ (blk_kept (pl_ BK358) hkp (fun hs_ => (fun e_ => (Kd.R_ne HO_386000.out BK358.out (by decide)) e_) hs_)); have n4_ := A_ (blk_kept (pl_ BK359) hkp (fun hs_ => (fun e_ => (Kd.R_ne HO_386000.out BK359.out (by decide)) e_) hs_)); have n5_ := A_ (blk_kept (pl_ BK385) hkp (fun hs_ => (fun e_ => (Kd.R_ne HO_386000.out BK385.out (by decide)) e_) hs_)); have n6_ := A_ (Kd.R_mono (ok' := fun k_ => some k_ ≠ (.slice Ao30 t377.length co30 : Value).ownBlock) (Kd.R_keptB (HO397.out) hkp (fun k_ hk_ hs_ => (hk_.2) hs_)) (fun k_ hk_ => hk_.1.2)); have n7_ := A_ (hb); clear HO_6; clear HO_9; clear HO_386000; clear BK358; clear BK359; clear BK385; clear HO397; clear HB; have HO_6 := n0_; have HO_9 := n1_; have HO_386000 := n2_; have BK358 := n3_; have BK359 := n4_; have BK385 := n5_; have HO397 := n6_; have HB := n7_; clear n0_ n1_ n2_ n3_ n4_ n5_ n6_ n7_; (try clear hb); (try clear hkp); (try clear hy0)))
      (try simp only [Act.put, List.setIfInBounds_toArray, List.set_cons_zero, List.set_cons_succ])
      go_cut [67] (fun v67 wc => ∃ (kq : Nat) (x67_50 : Bool), v67 = .bool x67_50 ∧ Aside0 (laws_FnExactMovesFrom.j1 kq t373 t376 t390 x67_50 l0_0 a0_1 a0_2 a0_3 a0_4 a0_5 a1_0 a1_1 a1_2 a1_3 = some r) ∧ Aside0 (kq ≤ kj15) ∧ Aside0 (Kd.R k60 60 wc w.heap.size (fun k_ => some k_ ≠ (v391 : Value).ownBlock) v374 t373) ∧ Aside0 (Kd.R k60 60 wc w.heap.size (fun k_ => some k_ ≠ (v374 : Value).ownBlock) v391 t390) ∧ Aside0 (Kd.R (Kd.int .i16) 23 wc w.heap.size (fun _ => True) (.slice Ao30 t377.length co30) t405) ∧ Aside0 (wc.heap[gb358]? = some (.cells #[(.slice A0_0 l0_0.length c0_0), .int .i16 a0_1, .int .i16 a0_2, .int .i16 a0_3, .int .i16 a0_4, .bool a0_5] 26 (0, 0))) ∧ Aside0 (wc.heap[gb359]? = some (.cells #[.int .i16 a1_0, .int .i16 a1_1, .int .i16 a1_2, .int .i16 a1_3] 24 (0, 0))) ∧ Aside0 (wc.heap[gb385]? = some (.cells #[(.slice Ao30 t377.length co30), .int .i16 t380, .int .i16 t381, .int .i16 t382, .int .i16 t383, .bool t384] 32 (0, 0))) ∧ Aside0 (Below w.heap.size w wc))
      case first =>
       have H := HC51.out
       clear HC51
       by_cases c60 : t404 < 0
       ·rw [if_pos c60] at H
        have c60b0 : decide (t404 < 0) = true := decide_eq_true c60
        clear c60
        (first | rw [c60b0] | (simp only [i64_w, i32_w]; rw [c60b0]) | skip)
        have H' := Aside0.mk H
        clear H
        go_wp2
        go_meet
        case rel => exact ⟨_, (true), rs_, H', ⟨by have := HJ15.out; first | omega | exact Nat.le_refl _⟩, ⟨pr_ HO_6⟩, ⟨pr_ HO_9⟩, ⟨by (with_reducible repeat (first | apply Kd.R_alloc | apply Kd.R_drewN | apply Kd.R_drew)); exact Kd.R_mono HO_386000.out (fun _ hk => trivial)⟩, ⟨pl_ BK358⟩, ⟨pl_ BK359⟩, ⟨pl_ BK385⟩, ⟨bl_ HB⟩⟩
       ·rw [if_neg c60] at H
        have c60b0 : decide (t404 < 0) = false := decide_eq_false c60
        clear c60
        (first | rw [c60b0] | (simp only [i64_w, i32_w]; rw [c60b0]) | skip)
        replace H := Option.bind_eq_some_iff.mp H
        obtain ⟨t406, A610, H⟩ := H
        replace H : (if t406 = true then (laws_FnExactMovesFrom.j1 kj15 t373 t376 t390 (t393 != t376) l0_0 a0_1 a0_2 a0_3 a0_4 a0_5 a1_0 a1_1 a1_2 a1_3) else (laws_FnExactMovesFrom.j1 kj15 t373 t376 t390 true l0_0 a0_1 a0_2 a0_3 a0_4 a0_5 a1_0 a1_1 a1_2 a1_3)) = some r := H
        have A61 := Aside0.mk A610
        clear A610
        by_cases c62 : t406 = true
        ·subst c62
         have H1 : (laws_FnExactMovesFrom.j1 kj15 t373 t376 t390 (t393 != t376) l0_0 a0_1 a0_2 a0_3 a0_4 a0_5 a1_0 a1_1 a1_2 a1_3) = some r := by rw [if_pos rfl] at H; exact H
         clear H
         have H := H1
         clear H1
         have H' := Aside0.mk H
         clear H
         obtain ⟨Ao63, co63, eo63⟩ := Kd.R_slice HO_9.out
         subst eo63
         obtain ⟨Ao64, co64, eo64⟩ := Kd.R_slice HO_6.out
         subst eo64
         go_wp2_with (first | (go_at_call 41; (with_reducible refine (laws_eqMoveS.calls kj15 _ _ t390 _ _ t373 true _ ?side1 ?side2 ?side3 ?side4 A61.out).mono ?_); (case side1 => repeat (first | exact (Kd.R_reads' HO_9.out).2.2 | (with_reducible refine Kd.C_alloc ?_ _) | (with_reducible refine Kd.C_drewN ?_ _) | (with_reducible refine Kd.C_drew ?_))); (case side2 => exact (Kd.R_reads' HO_9.out).2.1); (case side3 => repeat (first | exact (Kd.R_reads' HO_6.out).2.2 | (with_reducible refine Kd.C_alloc ?_ _) | (with_reducible refine Kd.C_drewN ?_ _) | (with_reducible refine Kd.C_drew ?_))); (case side4 => exact (Kd.R_reads' HO_6.out).2.1); rintro e w65 ⟨rfl, hb⟩; have n0_ := A_ (Kd.R_below (pr_ HO_6) hb); have n1_ := A_ (Kd.R_below (pr_ HO_9) hb); have n2_ := A_ (Kd.R_below (pr_ HO_386000) hb); have n3_ := A_ (Kd.R_below (pr_ HO397) hb); have n4_ := A_ (blk_below (pl_ BK358) hb); have n5_ := A_ (blk_below (pl_ BK359) hb); have n6_ := A_ (blk_below (pl_ BK385) hb); have n7_ := A_ (below_step (bl_ HB) hb); clear HO_6; clear HO_9; clear HO_386000; clear HO397; clear BK358; clear BK359; clear BK385; clear HB; have HO_6 := n0_; have HO_9 := n1_; have HO_386000 := n2_; have HO397 := n3_; have BK358 := n4_; have BK359 := n5_; have BK385 := n6_; have HB := n7_; clear n0_ n1_ n2_ n3_ n4_ n5_ n6_ n7_; (try clear hb); (try clear hb2); (try clear hk); (try clear hi)))
         go_meet
         case rel => exact ⟨_, ((t393 != t376)), rs_, H', ⟨by have := HJ15.out; first | omega | exact Nat.le_refl _⟩, ⟨pr_ HO_6⟩, ⟨pr_ HO_9⟩, ⟨by (with_reducible repeat (first | apply Kd.R_alloc | apply Kd.R_drewN | apply Kd.R_drew)); exact Kd.R_mono HO_386000.out (fun _ hk => trivial)⟩, ⟨pl_ BK358⟩, ⟨pl_ BK359⟩, ⟨pl_ BK385⟩, ⟨bl_ HB⟩⟩
        ·replace c62 := Bool.eq_false_iff.mpr c62
         subst c62
         have H1 : (laws_FnExactMovesFrom.j1 kj15 t373 t376 t390 true l0_0 a0_1 a0_2 a0_3 a0_4 a0_5 a1_0 a1_1 a1_2 a1_3) = some r := by rw [if_neg (show ¬ (false = true) by decide)] at H; exact H
         clear H
         have H := H1
         clear H1
         have H' := Aside0.mk H
         clear H
         obtain ⟨Ao66, co66, eo66⟩ := Kd.R_slice HO_9.out
         subst eo66
         obtain ⟨Ao67, co67, eo67⟩ := Kd.R_slice HO_6.out
         subst eo67
         go_wp2_with (first | (go_at_call 41; (with_reducible refine (laws_eqMoveS.calls kj15 _ _ t390 _ _ t373 false _ ?side1 ?side2 ?side3 ?side4 A61.out).mono ?_); (case side1 => repeat (first | exact (Kd.R_reads' HO_9.out).2.2 | (with_reducible refine Kd.C_alloc ?_ _) | (with_reducible refine Kd.C_drewN ?_ _) | (with_reducible refine Kd.C_drew ?_))); (case side2 => exact (Kd.R_reads' HO_9.out).2.1); (case side3 => repeat (first | exact (Kd.R_reads' HO_6.out).2.2 | (with_reducible refine Kd.C_alloc ?_ _) | (with_reducible refine Kd.C_drewN ?_ _) | (with_reducible refine Kd.C_drew ?_))); (case side4 => exact (Kd.R_reads' HO_6.out).2.1); rintro e w68 ⟨rfl, hb⟩; have n0_ := A_ (Kd.R_below (pr_ HO_6) hb); have n1_ := A_ (Kd.R_below (pr_ HO_9) hb); have n2_ := A_ (Kd.R_below (pr_ HO_386000) hb); have n3_ := A_ (Kd.R_below (pr_ HO397) hb); have n4_ := A_ (blk_below (pl_ BK358) hb); have n5_ := A_ (blk_below (pl_ BK359) hb); have n6_ := A_ (blk_below (pl_ BK385) hb); have n7_ := A_ (below_step (bl_ HB) hb); clear HO_6; clear HO_9; clear HO_386000; clear HO397; clear BK358; clear BK359; clear BK385; clear HB; have HO_6 := n0_; have HO_9 := n1_; have HO_386000 := n2_; have HO397 := n3_; have BK358 := n4_; have BK359 := n5_; have BK385 := n6_; have HB := n7_; clear n0_ n1_ n2_ n3_ n4_ n5_ n6_ n7_; (try clear hb); (try clear hb2); (try clear hk); (try clear hi)))
         go_meet
         case rel => exact ⟨_, (true), rs_, H', ⟨by have := HJ15.out; first | omega | exact Nat.le_refl _⟩, ⟨pr_ HO_6⟩, ⟨pr_ HO_9⟩, ⟨by (with_reducible repeat (first | apply Kd.R_alloc | apply Kd.R_drewN | apply Kd.R_drew)); exact Kd.R_mono HO_386000.out (fun _ hk => trivial)⟩, ⟨pl_ BK358⟩, ⟨pl_ BK359⟩, ⟨pl_ BK385⟩, ⟨bl_ HB⟩⟩
      case rest =>
       clear HC51
       try clear c1
       try clear c2
       try clear p2
       try clear c3
       try clear c4
       try clear c4b0
       try clear c5
       try clear c6
       try clear c7
       try clear c13
       try clear c16
       try clear c18
       try clear c19
       try clear c21
       try clear c26
       try clear c31
       try clear c32
       try clear c39
       try clear c41
       try clear c46
       try clear c48
       try clear c49
       try clear c56
       try clear c57
       try clear c60
       try clear c60b0
       try clear c62
       try clear hcz20_0
       try clear hcz20_1
       try clear hcz20_2
       try clear hcz20_3
       try clear hcz20_4
       try clear hcz20_5
       try clear hcz27_0
       try clear hcz27_1
       try clear hcz27_2
       try clear hcz27_3
       try clear hcz27_4
       try clear hcz27_5
       try clear hcz33_0
       try clear hcz33_1
       try clear hcz33_2
       try clear hcz33_3
       try clear hcz33_4
       try clear hcz33_5
       try clear hcz58_0
       try clear hcz58_1
       try clear hcz58_2
       try clear hcz58_3
       try clear hcz58_4
       try clear hcz58_5
       try clear hcz8_0
       try clear hcz8_1
       try clear hcz8_2
       try clear hcz8_3
       try clear hcz8_4
       try clear hcz8_5
       try clear hfz20_0
       try clear hfz20_1
       try clear hfz20_2
       try clear hfz20_3
       try clear hfz20_4
       try clear hfz20_5
       try clear hfz27_0
       try clear hfz27_1
       try clear hfz27_2
       try clear hfz27_3
       try clear hfz27_4
       try clear hfz27_5
       try clear hfz33_0
       try clear hfz33_1
       try clear hfz33_2
       try clear hfz33_3
       try clear hfz33_4
       try clear hfz33_5
       try clear hfz58_0
       try clear hfz58_1
       try clear hfz58_2
       try clear hfz58_3
       try clear hfz58_4
       try clear hfz58_5
       try clear hfz8_0
       try clear hfz8_1
       try clear hfz8_2
       try clear hfz8_3
       try clear hfz8_4
       try clear hfz8_5
       try clear p2
       obtain ⟨kq, x67_50, rfl, HA, HJ50, HO_6, HO_9, HO_386000, BK358, BK359, BK385, HB⟩ := hcut
       have hl386000_50 := (Kd.R_reads' HO_386000.out).1
       rw [hl386000_50] at HO_386000
       (try simp only [hl386000_50])
       (try simp only [hl386000_50] at BK358)
       (try simp only [hl386000_50] at BK359)
       (try simp only [hl386000_50] at BK385)
       (try simp only [hl386000_50] at HO_6)
       (try simp only [hl386000_50] at HO_9)
       cases kq with
       | zero => exact absurd HA.out (by simp [laws_FnExactMovesFrom.j1])
       | succ kj50 =>
        have H := HA.out
        clear HA
        simp only [laws_FnExactMovesFrom.j1] at H
        by_cases c69 : x67_50 = true
        ·subst c69
         have H1 : (some false) = some r := by rw [if_pos rfl] at H; exact H
         clear H
         have H := H1
         clear H1
         obtain rfl := Option.some.inj H
         go_wp2
         go_ret
         exact ⟨by first | rfl | (simp [errW_none, errW_some] <;> rfl) | (simp [*, errW_none, errW_some] <;> rfl), bl_ HB⟩
        ·replace c69 := Bool.eq_false_iff.mpr c69
         subst c69
         have H1 : ((laws_markMoveS.f kj50 t390 1).bind fun bt407 => ((laws_heldMoveS.f kj50 bt407.2 1).bind fun t409 => (if t409 < 0 then (some false) else (if t409 = bt407.1 then ((laws_toPuzzle.f kj50 l0_0 a0_1 a0_2 a0_3 a0_4 a0_5).bind fun bt410 => ((laws_toWater.f kj50 a1_0 a1_1 a1_2 a1_3).bind fun bt418 => ((impl_MovesFrom.f kj50 bt410.1 bt410.2.1 bt410.2.2.1 bt410.2.2.2.1 bt410.2.2.2.2.1 bt410.2.2.2.2.2 bt418.1 bt418.2.1 bt418.2.2.1 bt418.2.2.2).bind fun bt422 => ((laws_eqMoveS.f kj50 bt422.1 t373).bind fun t426 => (if t426 = true then (laws_FnExactMovesFrom.j2 kj50 bt407.2 bt407.1 (bt422.2 != t376)) else (laws_FnExactMovesFrom.j2 kj50 bt407.2 bt407.1 true)))))) else (some false))))) = some r := by rw [if_neg (show ¬ (false = true) by decide)] at H; exact H
         clear H
         have H := H1
         clear H1
         replace H := Option.bind_eq_some_iff.mp H
         obtain ⟨⟨t407, t408⟩, A700, H⟩ := H
         replace H : ((laws_heldMoveS.f kj50 t408 1).bind fun t409 => (if t409 < 0 then (some false) else (if t409 = t407 then ((laws_toPuzzle.f kj50 l0_0 a0_1 a0_2 a0_3 a0_4 a0_5).bind fun bt410 => ((laws_toWater.f kj50 a1_0 a1_1 a1_2 a1_3).bind fun bt418 => ((impl_MovesFrom.f kj50 bt410.1 bt410.2.1 bt410.2.2.1 bt410.2.2.2.1 bt410.2.2.2.2.1 bt410.2.2.2.2.2 bt418.1 bt418.2.1 bt418.2.2.1 bt418.2.2.2).bind fun bt422 => ((laws_eqMoveS.f kj50 bt422.1 t373).bind fun t426 => (if t426 = true then (laws_FnExactMovesFrom.j2 kj50 t408 t407 (bt422.2 != t376)) else (laws_FnExactMovesFrom.j2 kj50 t408 t407 true)))))) else (some false)))) = some r := H
         have A70 := Aside0.mk A700
         clear A700
         replace H := Option.bind_eq_some_iff.mp H
         obtain ⟨t409, A710, H⟩ := H
         replace H : (if t409 < 0 then (some false) else (if t409 = t407 then ((laws_toPuzzle.f kj50 l0_0 a0_1 a0_2 a0_3 a0_4 a0_5).bind fun bt410 => ((laws_toWater.f kj50 a1_0 a1_1 a1_2 a1_3).bind fun bt418 => ((impl_MovesFrom.f kj50 bt410.1 bt410.2.1 bt410.2.2.1 bt410.2.2.2.1 bt410.2.2.2.2.1 bt410.2.2.2.2.2 bt418.1 bt418.2.1 bt418.2.2.1 bt418.2.2.2).bind fun bt422 => ((laws_eqMoveS.f kj50 bt422.1 t373).bind fun t426 => (if t426 = true then (laws_FnExactMovesFrom.j2 kj50 t408 t407 (bt422.2 != t376)) else (laws_FnExactMovesFrom.j2 kj50 t408 t407 true)))))) else (some false))) = some r := H
         have A71 := Aside0.mk A710
         clear A710
         by_cases c72 : t409 < 0
         ·rw [if_pos c72] at H
          have c72b0 : decide (t409 < 0) = true := decide_eq_true c72
          clear c72
          obtain rfl := Option.some.inj H
          obtain ⟨Ao73, co73, eo73⟩ := Kd.R_slice HO_9.out
          subst eo73
          go_wp2_with (first | ((with_reducible refine gate_callee (f := 50) rfl ?_); refine goesL_ (some 70) rfl rfl Try.func50 (by kernel_rfl) rfl #[.slice Ao73 t390.length co73, .int .i64 1] rfl arg_ ?_; (with_reducible refine (laws_markMoveS.calls kj50 (fun k_ => some k_ = (.slice Ao73 t390.length co73 : Value).ownBlock) (.slice Ao73 t390.length co73) t390 1 t407 t408 w _ ?side1 ?side2 A70.out).mono ?_); (case side1 => repeat (first | (with_reducible first | exact HB.out | apply below_alloc | apply pw_below_drewN | apply below_drew1) | exact HB.out)); (case side2 => exact Kd.R_tight rfl HO_9.out); rintro e w74 ⟨rfl, hy0, hb, hkp⟩; refine ⟨_, rfl, ?_⟩; have n0_ := A_ (Kd.R_mono (ok' := fun k_ => some k_ ≠ (.slice Ao73 t390.length co73 : Value).ownBlock) (Kd.R_keptB (HO_6.out) hkp (fun k_ hk_ hs_ => (hk_) hs_)) (fun k_ hk_ => hk_.1)); have n1_ := A_ (Kd.R_reok rfl hy0 (fun k_ e_ => HO_9.out.1 k_ e_)); have n2_ := A_ (Kd.R_mono (ok' := fun k_ => True) (Kd.R_keptB ((Kd.R_apart' HO_386000.out (Kd.R_typed HO_9.out) (by decide))) hkp (fun k_ hk_ hs_ => (hk_.2) hs_)) (fun k_ hk_ => trivial)); have n3_ := A_ (blk_kept (pl_ BK358) hkp (fun hs_ => (fun e_ => (Kd.R_ne HO_9.out BK358.out (by decide)) e_) hs_)); have n4_ := A_ (blk_kept (pl_ BK359) hkp (fun hs_ => (fun e_ => (Kd.R_ne HO_9.out BK359.out (by decide)) e_) hs_)); have n5_ := A_ (blk_kept (pl_ BK385) hkp (fun hs_ => (fun e_ => (Kd.R_ne HO_9.out BK385.out (by decide)) e_) hs_)); have n6_ := A_ (hb); clear HO_6; clear HO_9; clear HO_386000; clear BK358; clear BK359; clear BK385; clear HB; have HO_6 := n0_; have HO_9 := n1_; have HO_386000 := n2_; have BK358 := n3_; have BK359 := n4_; have BK385 := n5_; have HB := n6_; clear n0_ n1_ n2_ n3_ n4_ n5_ n6_; (try clear hb); (try clear hkp); (try clear hy0)) | ((with_reducible refine gate_callee (f := 51) rfl ?_); refine goesL_ (some 73) rfl rfl Try.func51 (by kernel_rfl) rfl #[.slice Ao73 t408.length co73, .int .i64 1] rfl (by (try simp only [List.map_toArray, List.map_cons, List.map_nil]); first | done | (rw [show t408.length = t390.length from (Kd.R_reads' HO_9.out).1.symm] <;> rfl) | rfl | (simp only [List.length_drop, List.length_take]; rfl)) ?_; (with_reducible refine (laws_heldMoveS.calls kj50 _ _ t408 1 t409 _ ?side1 ?side2 A71.out).mono ?_); (case side1 => repeat (first | exact (Kd.R_reads' HO_9.out).2.2 | (with_reducible refine Kd.C_alloc ?_ _) | (with_reducible refine Kd.C_drewN ?_ _) | (with_reducible refine Kd.C_drew ?_))); (case side2 => rw [show t408.length = t390.length from (Kd.R_reads' HO_9.out).1.symm]; exact (Kd.R_reads' HO_9.out).2.1); rintro e w' ⟨rfl, ⟨nd, rfl⟩⟩; refine ⟨_, rfl, ?_⟩))
          go_ret
          exact ⟨by first | rfl | (simp [errW_none, errW_some] <;> rfl) | (simp [*, errW_none, errW_some] <;> rfl), bl_ HB⟩
         ·rw [if_neg c72] at H
          have c72b0 : decide (t409 < 0) = false := decide_eq_false c72
          clear c72
          by_cases c75 : t409 = t407
          ·rw [if_pos c75] at H
           have c75b0 : (t409 == t407) = true := beq_iff_eq.mpr c75
           have c75b1 : (t409 != t407) = false := bne_eq_false_iff_eq.mpr c75
           clear c75
           replace H := Option.bind_eq_some_iff.mp H
           obtain ⟨⟨t410, t413, t414, t415, t416, t417⟩, A760, H⟩ := H
           replace H : ((laws_toWater.f kj50 a1_0 a1_1 a1_2 a1_3).bind fun bt418 => ((impl_MovesFrom.f kj50 t410 t413 t414 t415 t416 t417 bt418.1 bt418.2.1 bt418.2.2.1 bt418.2.2.2).bind fun bt422 => ((laws_eqMoveS.f kj50 bt422.1 t373).bind fun t426 => (if t426 = true then (laws_FnExactMovesFrom.j2 kj50 t408 t407 (bt422.2 != t376)) else (laws_FnExactMovesFrom.j2 kj50 t408 t407 true))))) = some r := H
           have A76 := Aside0.mk A760
           clear A760
           replace H := Option.bind_eq_some_iff.mp H
           obtain ⟨⟨t418, t419, t420, t421⟩, A770, H⟩ := H
           replace H : ((impl_MovesFrom.f kj50 t410 t413 t414 t415 t416 t417 t418 t419 t420 t421).bind fun bt422 => ((laws_eqMoveS.f kj50 bt422.1 t373).bind fun t426 => (if t426 = true then (laws_FnExactMovesFrom.j2 kj50 t408 t407 (bt422.2 != t376)) else (laws_FnExactMovesFrom.j2 kj50 t408 t407 true)))) = some r := H
           have A77 := Aside0.mk A770
           clear A770
           replace H := Option.bind_eq_some_iff.mp H
           obtain ⟨⟨t422, t425⟩, A780, H⟩ := H
           replace H : ((laws_eqMoveS.f kj50 t422 t373).bind fun t426 => (if t426 = true then (laws_FnExactMovesFrom.j2 kj50 t408 t407 (t425 != t376)) else (laws_FnExactMovesFrom.j2 kj50 t408 t407 true))) = some r := H
           have A78 := Aside0.mk A780
           clear A780
           have HC79 := Aside0.mk H
           clear H
           obtain ⟨Ao80, co80, eo80⟩ := Kd.R_slice HO_9.out
           subst eo80
           try go_wp2_with (first | ((with_reducible refine gate_callee (f := 50) rfl ?_); refine goesL_ (some 70) rfl rfl Try.func50 (by kernel_rfl) rfl #[.slice Ao80 t390.length co80, .int .i64 1] rfl arg_ ?_; (with_reducible refine (laws_markMoveS.calls kj50 (fun k_ => some k_ = (.slice Ao80 t390.length co80 : Value).ownBlock) (.slice Ao80 t390.length co80) t390 1 t407 t408 w _ ?side1 ?side2 A70.out).mono ?_); (case side1 => repeat (first | (with_reducible first | exact HB.out | apply below_alloc | apply pw_below_drewN | apply below_drew1) | exact HB.out)); (case side2 => exact Kd.R_tight rfl HO_9.out); rintro e w81 ⟨rfl, hy0, hb, hkp⟩; refine ⟨_, rfl, ?_⟩; have n0_ := A_ (Kd.R_mono (ok' := fun k_ => some k_ ≠ (.slice Ao80 t390.length co80 : Value).ownBlock) (Kd.R_keptB (HO_6.out) hkp (fun k_ hk_ hs_ => (hk_) hs_)) (fun k_ hk_ => hk_.1)); have n1_ := A_ (Kd.R_reok rfl hy0 (fun k_ e_ => HO_9.out.1 k_ e_)); have n2_ := A_ (Kd.R_mono (ok' := fun k_ => True) (Kd.R_keptB ((Kd.R_apart' HO_386000.out (Kd.R_typed HO_9.out) (by decide))) hkp (fun k_ hk_ hs_ => (hk_.2) hs_)) (fun k_ hk_ => trivial)); have n3_ := A_ (blk_kept (pl_ BK358) hkp (fun hs_ => (fun e_ => (Kd.R_ne HO_9.out BK358.out (by decide)) e_) hs_)); have n4_ := A_ (blk_kept (pl_ BK359) hkp (fun hs_ => (fun e_ => (Kd.R_ne HO_9.out BK359.out (by decide)) e_) hs_)); have n5_ := A_ (blk_kept (pl_ BK385) hkp (fun hs_ => (fun e_ => (Kd.R_ne HO_9.out BK385.out (by decide)) e_) hs_)); have n6_ := A_ (hb); clear HO_6; clear HO_9; clear HO_386000; clear BK358; clear BK359; clear BK385; clear HB; have HO_6 := n0_; have HO_9 := n1_; have HO_386000 := n2_; have BK358 := n3_; have BK359 := n4_; have BK385 := n5_; have HB := n6_; clear n0_ n1_ n2_ n3_ n4_ n5_ n6_; (try clear hb); (try clear hkp); (try clear hy0)) | ((with_reducible refine gate_callee (f := 51) rfl ?_); refine goesL_ (some 73) rfl rfl Try.func51 (by kernel_rfl) rfl #[.slice Ao80 t408.length co80, .int .i64 1] rfl (by (try simp only [List.map_toArray, List.map_cons, List.map_nil]); first | done | (rw [show t408.length = t390.length from (Kd.R_reads' HO_9.out).1.symm] <;> rfl) | rfl | (simp only [List.length_drop, List.length_take]; rfl)) ?_; (with_reducible refine (laws_heldMoveS.calls kj50 _ _ t408 1 t409 _ ?side1 ?side2 A71.out).mono ?_); (case side1 => repeat (first | exact (Kd.R_reads' HO_9.out).2.2 | (with_reducible refine Kd.C_alloc ?_ _) | (with_reducible refine Kd.C_drewN ?_ _) | (with_reducible refine Kd.C_drew ?_))); (case side2 => rw [show t408.length = t390.length from (Kd.R_reads' HO_9.out).1.symm]; exact (Kd.R_reads' HO_9.out).2.1); rintro e w' ⟨rfl, ⟨nd, rfl⟩⟩; refine ⟨_, rfl, ?_⟩))
           (try (rw [drewN_self w81]; generalize hq_ : World.drewN w81 _ = w81; have n0_ : Aside0 (Kd.R (Kd.int .i16) 23 w81 w.heap.size (fun _ => True) (.slice Ao30 t405.length co30) t405) := ⟨by rw [← hq_]; exact (pr_ HO_386000)⟩; have n1_ : Aside0 (Kd.R k60 60 w81 w.heap.size (fun k_ => some k_ ≠ (.slice Ao80 t390.length co80 : Value).ownBlock) v374 t373) := ⟨by rw [← hq_]; exact (pr_ HO_6)⟩; have n2_ : Aside0 (Kd.R k60 60 w81 w.heap.size (fun k_ => some k_ ≠ (v374 : Value).ownBlock) (.slice Ao80 t390.length co80) t408) := ⟨by rw [← hq_]; exact (pr_ HO_9)⟩; have n3_ : Aside0 (w81.heap[gb358]? = some (.cells #[.slice A0_0 l0_0.length c0_0, .int .i16 a0_1, .int .i16 a0_2, .int .i16 a0_3, .int .i16 a0_4, .bool a0_5] 26 (0, 0))) := ⟨by rw [← hq_]; exact (pl_ BK358)⟩; have n4_ : Aside0 (w81.heap[gb359]? = some (.cells #[.int .i16 a1_0, .int .i16 a1_1, .int .i16 a1_2, .int .i16 a1_3] 24 (0, 0))) := ⟨by rw [← hq_]; exact (pl_ BK359)⟩; have n5_ : Aside0 (w81.heap[gb385]? = some (.cells #[.slice Ao30 t405.length co30, .int .i16 t380, .int .i16 t381, .int .i16 t382, .int .i16 t383, .bool t384] 32 (0, 0))) := ⟨by rw [← hq_]; exact (pl_ BK385)⟩; have n6_ : Aside0 (Below w.heap.size w w81) := ⟨by rw [← hq_]; exact (bl_ HB)⟩; clear HO_386000 HO_6 HO_9 BK358 BK359 BK385 HB hq_; have HO_386000 := n0_; have HO_6 := n1_; have HO_9 := n2_; have BK358 := n3_; have BK359 := n4_; have BK385 := n5_; have HB := n6_; clear n0_ n1_ n2_ n3_ n4_ n5_ n6_))
           have n0_ := A_ (Kd.R_drew HO_6.out)
           have n1_ := A_ (Kd.R_drew HO_9.out)
           have n2_ := A_ (Kd.R_drew HO_386000.out)
           have n3_ := A_ (blk_drew BK358.out)
           have n4_ := A_ (blk_drew BK359.out)
           have n5_ := A_ (blk_drew BK385.out)
           have n6_ := A_ (below_drew1 HB.out)
           clear HO_6
           clear HO_9
           clear HO_386000
           clear BK358
           clear BK359
           clear BK385
           clear HB
           have HO_6 := n0_
           have HO_9 := n1_
           have HO_386000 := n2_
           have BK358 := n3_
           have BK359 := n4_
           have BK385 := n5_
           have HB := n6_
           clear n0_ n1_ n2_ n3_ n4_ n5_ n6_
           refine start_ (n := 10) (S := fun w' => w'.cell? ⟨gb358, 0, none⟩ = some (.slice A0_0 l0_0.length c0_0) ∧ w'.cell? ⟨gb358, 1, none⟩ = some (.int .i16 a0_1) ∧ w'.cell? ⟨gb358, 2, none⟩ = some (.int .i16 a0_2) ∧ w'.cell? ⟨gb358, 3, none⟩ = some (.int .i16 a0_3) ∧ w'.cell? ⟨gb358, 4, none⟩ = some (.int .i16 a0_4) ∧ w'.cell? ⟨gb358, 5, none⟩ = some (.bool a0_5) ∧ w'.cell? ⟨gb359, 0, none⟩ = some (.int .i16 a1_0) ∧ w'.cell? ⟨gb359, 1, none⟩ = some (.int .i16 a1_1) ∧ w'.cell? ⟨gb359, 2, none⟩ = some (.int .i16 a1_2) ∧ w'.cell? ⟨gb359, 3, none⟩ = some (.int .i16 a1_3)) (ds := []) #[false, false, false, false, false, false, false, false, false, false] (by kernel_rfl) rfl rfl ⟨(blk_cell BK358.out 0).trans rfl, (blk_cell BK358.out 1).trans rfl, (blk_cell BK358.out 2).trans rfl, (blk_cell BK358.out 3).trans rfl, (blk_cell BK358.out 4).trans rfl, (blk_cell BK358.out 5).trans rfl, (blk_cell BK359.out 0).trans rfl, (blk_cell BK359.out 1).trans rfl, (blk_cell BK359.out 2).trans rfl, (blk_cell BK359.out 3).trans rfl⟩ (fun hHeld => ?_); refine with_tabW laws_FnExactMovesFrom.tab24 laws_FnExactMovesFrom.bits24 (fun HT_ HW_ => ?_)
           generalize w81.drew = w82 at HO_6 HO_9 HO_386000 BK358 BK359 BK385 HB hHeld ⊢
           refine take_ (i := 0) (N := some 80) (v := ?_) (a' := ?_) #[true, false, false, false, false, false, false, false, false, false] rfl rfl (take_ofW HT_.out HW_.out (by kernel_rfl)) (fun _ _ _ h => h) (Or.inl ⟨by rfl, ?_⟩) hHeld ?_ ?_
           rotate_left
           ·rintro w' ⟨s0, s1, s2, s3, s4, s5, s6, s7, s8, s9⟩
            go_simp
            with_reducible rfl
           rotate_left
           ·simp only [Act.put, List.setIfInBounds_toArray, List.set_cons_zero, List.set_cons_succ, i64_w, i32_w]
            rfl
           refine take_ (i := 2) (N := some 82) (v := ?_) (a' := ?_) #[true, false, true, false, false, false, false, false, false, false] rfl rfl (take_ofW HT_.out HW_.out (by kernel_rfl)) (fun _ _ _ h => h) (Or.inl ⟨by rfl, ?_⟩) hHeld ?_ ?_
           rotate_left
           ·rintro w' ⟨s0, s1, s2, s3, s4, s5, s6, s7, s8, s9⟩
            go_simp
            with_reducible rfl
           rotate_left
           ·simp only [Act.put, List.setIfInBounds_toArray, List.set_cons_zero, List.set_cons_succ, i64_w, i32_w]
            rfl
           refine one_ (i := 1) (N := some 81) #[true, true, true, false, false, false, false, false, false, false] rfl rfl (one_of HT_.out (by kernel_rfl)) (by decide) (fun K hK => ?_)
           refine goes_ Try.func18 (by kernel_rfl) rfl #[.agg #[.slice A0_0 l0_0.length c0_0, .int .i16 a0_1, .int .i16 a0_2, .int .i16 a0_3, .int .i16 a0_4, .bool a0_5]] (by rfl) rfl rfl arg_ ?_
           with_reducible refine (laws_toPuzzle.calls kj50 _ _ l0_0 a0_1 a0_2 a0_3 a0_4 a0_5 t410 t413 t414 t415 t416 t417 _ ?side1 ?side2 A76.out).mono ?_
           (case side1 => repeat (first | exact (Kd.C_below HR0_0.out HB.out) | (with_reducible refine Kd.C_alloc ?_ _) | (with_reducible refine Kd.C_drewN ?_ _) | (with_reducible refine Kd.C_drew ?_)))
           (case side2 => exact HC0_0.out)
           rintro e w83 ⟨v411, rfl, ho0, hb⟩
           refine ⟨_, rfl, ?_⟩
           have n0_ := A_ (Kd.R_below (pr_ HO_6) hb)
           have n1_ := A_ (Kd.R_below (pr_ HO_9) hb)
           have n2_ := A_ (Kd.R_elder' (pr_ HO_386000) (Kd.R_base ho0) hb)
           have n3_ := A_ (Kd.R_lower (Kd.R_new' ho0 (Kd.R_lt (pr_ HO_386000))) (below_size (bl_ HB)))
           have n4_ := A_ (blk_below (pl_ BK358) hb)
           have n5_ := A_ (blk_below (pl_ BK359) hb)
           have n6_ := A_ (blk_below (pl_ BK385) hb)
           have n7_ := A_ (below_step (bl_ HB) hb)
           clear HO_6
           clear HO_9
           clear HO_386000
           clear BK358
           clear BK359
           clear BK385
           clear HB
           have HO_6 := n0_
           have HO_9 := n1_
           have HO_386000 := n2_
           have HO412 := n3_
           have BK358 := n4_
           have BK359 := n5_
           have BK385 := n6_
           have HB := n7_
           clear n0_ n1_ n2_ n3_ n4_ n5_ n6_ n7_
           (try clear hb)
           (try clear hb2)
           (try clear hk)
           (try clear hi)
           (try clear ho0)
           refine hK.out _ _ ⟨(blk_cell BK358.out 0).trans rfl, (blk_cell BK358.out 1).trans rfl, (blk_cell BK358.out 2).trans rfl, (blk_cell BK358.out 3).trans rfl, (blk_cell BK358.out 4).trans rfl, (blk_cell BK358.out 5).trans rfl, (blk_cell BK359.out 0).trans rfl, (blk_cell BK359.out 1).trans rfl, (blk_cell BK359.out 2).trans rfl, (blk_cell BK359.out 3).trans rfl⟩ (fun hHeld => ?_)
           clear hK K
           refine norm_ (a' := ?_) ?_ ?_
           rotate_left
           ·show Act.put _ (some 81) _ = _
            simp only [Act.put, List.setIfInBounds_toArray, List.set_cons_zero, List.set_cons_succ, i64_w, i32_w]
            rfl
           refine one_ (i := 3) (N := some 83) #[true, true, true, true, false, false, false, false, false, false] rfl rfl (one_of HT_.out (by kernel_rfl)) (by decide) (fun K hK => ?_)
           refine goes_ Try.func26 (by kernel_rfl) rfl #[.agg #[.int .i16 a1_0, .int .i16 a1_1, .int .i16 a1_2, .int .i16 a1_3]] (by rfl) rfl rfl arg_ ?_
           with_reducible refine (laws_toWater.calls kj50 a1_0 a1_1 a1_2 a1_3 t418 t419 t420 t421 _ A77.out).mono ?_
           rintro e w84 ⟨rfl, hb⟩
           refine ⟨_, rfl, ?_⟩
           have n0_ := A_ (Kd.R_below (pr_ HO_6) hb)
           have n1_ := A_ (Kd.R_below (pr_ HO_9) hb)
           have n2_ := A_ (Kd.R_below (pr_ HO_386000) hb)
           have n3_ := A_ (Kd.R_below (pr_ HO412) hb)
           have n4_ := A_ (blk_below (pl_ BK358) hb)
           have n5_ := A_ (blk_below (pl_ BK359) hb)
           have n6_ := A_ (blk_below (pl_ BK385) hb)
           have n7_ := A_ (below_step (bl_ HB) hb)
           clear HO_6
           clear HO_9
           clear HO_386000
           clear HO412
           clear BK358
           clear BK359
           clear BK385
           clear HB
           have HO_6 := n0_
           have HO_9 := n1_
           have HO_386000 := n2_
           have HO412 := n3_
           have BK358 := n4_
           have BK359 := n5_
           have BK385 := n6_
           have HB := n7_
           clear n0_ n1_ n2_ n3_ n4_ n5_ n6_ n7_
           (try clear hb)
           (try clear hb2)
           (try clear hk)
           (try clear hi)
           obtain ⟨Ao85, co85, eo85⟩ := Kd.R_slice HO412.out
           (first | subst eo85 | (injection eo85 with f1_ f2_ f3_; have f4_ := f1_.symm; have f5_ := f3_.symm; clear f1_ f2_ f3_; subst f4_; subst f5_))
           refine hK.out _ _ ⟨(blk_cell BK358.out 0).trans rfl, (blk_cell BK358.out 1).trans rfl, (blk_cell BK358.out 2).trans rfl, (blk_cell BK358.out 3).trans rfl, (blk_cell BK358.out 4).trans rfl, (blk_cell BK358.out 5).trans rfl, (blk_cell BK359.out 0).trans rfl, (blk_cell BK359.out 1).trans rfl, (blk_cell BK359.out 2).trans rfl, (blk_cell BK359.out 3).trans rfl⟩ (fun hHeld => ?_)
           clear hK K
           refine norm_ (a' := ?_) ?_ ?_
           rotate_left
           ·show Act.put _ (some 83) _ = _
            simp only [Act.put, List.setIfInBounds_toArray, List.set_cons_zero, List.set_cons_succ, i64_w, i32_w]
            rfl
           refine one_ (i := 4) (N := some 84) #[true, true, true, true, true, false, false, false, false, false] rfl rfl (one_of HT_.out (by kernel_rfl)) (by decide) (fun K hK => ?_)
           refine goes_ Try.func48 (by kernel_rfl) rfl #[.agg #[.slice Ao85 t410.length co85, .int .i16 t413, .int .i16 t414, .int .i16 t415, .int .i16 t416, .bool t417], .agg #[.int .i16 t418, .int .i16 t419, .int .i16 t420, .int .i16 t421]] (by rfl) rfl rfl arg_ ?_
           with_reducible refine (impl_MovesFrom.calls kj50 _ _ t410 t413 t414 t415 t416 t417 t418 t419 t420 t421 t422 t425 _ ?side1 ?side2 A78.out).mono ?_
           (case side1 => repeat (first | exact (Kd.R_reads' HO412.out).2.2 | (with_reducible refine Kd.C_alloc ?_ _) | (with_reducible refine Kd.C_drewN ?_ _) | (with_reducible refine Kd.C_drew ?_)))
           (case side2 => exact (Kd.R_reads' HO412.out).2.1)
           rintro e w86 ⟨v423, rfl, ho0, hb⟩
           refine ⟨_, rfl, ?_⟩
           have n0_ := A_ (Kd.R_elder' (pr_ HO_6) (Kd.R_base ho0) hb)
           have n1_ := A_ (Kd.R_elder' (pr_ HO_9) (Kd.R_base ho0) hb)
           have n2_ := A_ (Kd.R_below (pr_ HO_386000) hb)
           have n3_ := A_ (Kd.R_below (pr_ HO412) hb)
           have n4_ := A_ (Kd.R_lower (Kd.R_new' (Kd.R_new' ho0 (Kd.R_lt (pr_ HO_6))) (Kd.R_lt (pr_ HO_9))) (below_size (bl_ HB)))
           have n5_ := A_ (blk_below (pl_ BK358) hb)
           have n6_ := A_ (blk_below (pl_ BK359) hb)
           have n7_ := A_ (blk_below (pl_ BK385) hb)
           have n8_ := A_ (below_step (bl_ HB) hb)
           clear HO_6
           clear HO_9
           clear HO_386000
           clear HO412
           clear BK358
           clear BK359
           clear BK385
           clear HB
           have HO_6 := n0_
           have HO_9 := n1_
           have HO_386000 := n2_
           have HO412 := n3_
           have HO424 := n4_
           have BK358 := n5_
           have BK359 := n6_
           have BK385 := n7_
           have HB := n8_
           clear n0_ n1_ n2_ n3_ n4_ n5_ n6_ n7_ n8_
           (try clear hb)
           (try clear hb2)
           (try clear hk)
           (try clear hi)
           (try clear ho0)
           refine hK.out _ _ ⟨(blk_cell BK358.out 0).trans rfl, (blk_cell BK358.out 1).trans rfl, (blk_cell BK358.out 2).trans rfl, (blk_cell BK358.out 3).trans rfl, (blk_cell BK358.out 4).trans rfl, (blk_cell BK358.out 5).trans rfl, (blk_cell BK359.out 0).trans rfl, (blk_cell BK359.out 1).trans rfl, (blk_cell BK359.out 2).trans rfl, (blk_cell BK359.out 3).trans rfl⟩ (fun hHeld => ?_)
           clear hK K
           refine norm_ (a' := ?_) ?_ ?_
           rotate_left
           ·show Act.put _ (some 84) _ = _
            simp only [Act.put, List.setIfInBounds_toArray, List.set_cons_zero, List.set_cons_succ, i64_w, i32_w]
            rfl
           refine pure_ (i := 5) (N := some 79) (v := ?_) (a' := ?_) #[true, true, true, true, true, true, false, false, false, false] rfl rfl (any_of HT_.out (by kernel_rfl)) (fun _ _ _ h => h) (Or.inl ⟨by rfl, ?_⟩) ?_ ?_
           rotate_left
           ·intro w'
            go_simp
            with_reducible rfl
           rotate_left
           ·simp only [Act.put, List.setIfInBounds_toArray, List.set_cons_zero, List.set_cons_succ, i64_w, i32_w]
            rfl
           refine pure_ (i := 6) (N := some 85) (v := ?_) (a' := ?_) #[true, true, true, true, true, true, true, false, false, false] rfl rfl (any_of HT_.out (by kernel_rfl)) (fun _ _ _ h => h) (Or.inl ⟨by rfl, ?_⟩) ?_ ?_
           rotate_left
           ·intro w'
            go_simp
            with_reducible rfl
           rotate_left
           ·simp only [Act.put, List.setIfInBounds_toArray, List.set_cons_zero, List.set_cons_succ, i64_w, i32_w]
            rfl
           refine pure_ (i := 7) (N := some 86) (v := ?_) (a' := ?_) #[true, true, true, true, true, true, true, true, false, false] rfl rfl (any_of HT_.out (by kernel_rfl)) (fun _ _ _ h => h) (Or.inl ⟨by rfl, ?_⟩) ?_ ?_
           rotate_left
           ·intro w'
            go_simp
            with_reducible rfl
           rotate_left
           ·simp only [Act.put, List.setIfInBounds_toArray, List.set_cons_zero, List.set_cons_succ, i64_w, i32_w]
            rfl
           refine pure_ (i := 8) (N := some 14) (v := ?_) (a' := ?_) #[true, true, true, true, true, true, true, true, true, false] rfl rfl (any_of HT_.out (by kernel_rfl)) (fun _ _ _ h => h) (Or.inl ⟨by rfl, ?_⟩) ?_ ?_
           rotate_left
           ·intro w'
            go_simp
            with_reducible rfl
           rotate_left
           ·simp only [Act.put, List.setIfInBounds_toArray, List.set_cons_zero, List.set_cons_succ, i64_w, i32_w]
            rfl
           refine pure_ (i := 9) (N := some 15) (v := ?_) (a' := ?_) #[true, true, true, true, true, true, true, true, true, true] rfl rfl (any_of HT_.out (by kernel_rfl)) (fun _ _ _ h => h) (Or.inl ⟨by rfl, ?_⟩) ?_ ?_
           rotate_left
           ·intro w'
            go_simp
            with_reducible rfl
           rotate_left
           ·simp only [Act.put, List.setIfInBounds_toArray, List.set_cons_zero, List.set_cons_succ, i64_w, i32_w]
            rfl
           refine done_ (done_of HT_.out (by kernel_rfl)) ?_
           go_upto_region 25 with (fail)
           go_cut [95] (fun v95 wc => ∃ (kq : Nat) (x95_78 : Bool), v95 = .bool x95_78 ∧ Aside0 (laws_FnExactMovesFrom.j2 kq t408 t407 x95_78 = some r) ∧ Aside0 (kq ≤ kj50) ∧ Aside0 (Kd.R k60 60 wc w.heap.size (fun _ => True) (.slice Ao80 t390.length co80) t408) ∧ Aside0 (Kd.R (Kd.int .i16) 23 wc w.heap.size (fun _ => True) (.slice Ao30 t405.length co30) t405) ∧ Aside0 (wc.heap[gb358]? = some (.cells #[(.slice A0_0 l0_0.length c0_0), .int .i16 a0_1, .int .i16 a0_2, .int .i16 a0_3, .int .i16 a0_4, .bool a0_5] 26 (0, 0))) ∧ Aside0 (wc.heap[gb359]? = some (.cells #[.int .i16 a1_0, .int .i16 a1_1, .int .i16 a1_2, .int .i16 a1_3] 24 (0, 0))) ∧ Aside0 (wc.heap[gb385]? = some (.cells #[(.slice Ao30 t405.length co30), .int .i16 t380, .int .i16 t381, .int .i16 t382, .int .i16 t383, .bool t384] 32 (0, 0))) ∧ Aside0 (Below w.heap.size w wc))
           case first =>
            have H := HC79.out
            clear HC79
            replace H := Option.bind_eq_some_iff.mp H
            obtain ⟨t426, A870, H⟩ := H
            replace H : (if t426 = true then (laws_FnExactMovesFrom.j2 kj50 t408 t407 (t425 != t376)) else (laws_FnExactMovesFrom.j2 kj50 t408 t407 true)) = some r := H
            have A87 := Aside0.mk A870
            clear A870
            by_cases c88 : t426 = true
            ·subst c88
             have H1 : (laws_FnExactMovesFrom.j2 kj50 t408 t407 (t425 != t376)) = some r := by rw [if_pos rfl] at H; exact H
             clear H
             have H := H1
             clear H1
             have H' := Aside0.mk H
             clear H
             obtain ⟨Ao89, co89, eo89⟩ := Kd.R_slice HO424.out
             subst eo89
             obtain ⟨Ao90, co90, eo90⟩ := Kd.R_slice HO_6.out
             subst eo90
             go_wp2_with (first | ((with_reducible refine gate_callee (f := 41) rfl ?_); refine goesL_ (some 89) rfl rfl Try.func41 (by kernel_rfl) rfl #[.slice Ao89 t422.length co89, .slice Ao90 t373.length co90] rfl arg_ ?_; (with_reducible refine (laws_eqMoveS.calls kj50 _ _ t422 _ _ t373 true _ ?side1 ?side2 ?side3 ?side4 A87.out).mono ?_); (case side1 => repeat (first | exact (Kd.R_reads' HO424.out).2.2 | (with_reducible refine Kd.C_alloc ?_ _) | (with_reducible refine Kd.C_drewN ?_ _) | (with_reducible refine Kd.C_drew ?_))); (case side2 => exact (Kd.R_reads' HO424.out).2.1); (case side3 => repeat (first | exact (Kd.R_reads' HO_6.out).2.2 | (with_reducible refine Kd.C_alloc ?_ _) | (with_reducible refine Kd.C_drewN ?_ _) | (with_reducible refine Kd.C_drew ?_))); (case side4 => exact (Kd.R_reads' HO_6.out).2.1); rintro e w91 ⟨rfl, hb⟩; refine ⟨_, rfl, ?_⟩; have n0_ := A_ (Kd.R_below (pr_ HO_6) hb); have n1_ := A_ (Kd.R_below (pr_ HO_9) hb); have n2_ := A_ (Kd.R_below (pr_ HO_386000) hb); have n3_ := A_ (Kd.R_below (pr_ HO412) hb); have n4_ := A_ (Kd.R_below (pr_ HO424) hb); have n5_ := A_ (blk_below (pl_ BK358) hb); have n6_ := A_ (blk_below (pl_ BK359) hb); have n7_ := A_ (blk_below (pl_ BK385) hb); have n8_ := A_ (below_step (bl_ HB) hb); clear HO_6; clear HO_9; clear HO_386000; clear HO412; clear HO424; clear BK358; clear BK359; clear BK385; clear HB; have HO_6 := n0_; have HO_9 := n1_; have HO_386000 := n2_; have HO412 := n3_; have HO424 := n4_; have BK358 := n5_; have BK359 := n6_; have BK385 := n7_; have HB := n8_; clear n0_ n1_ n2_ n3_ n4_ n5_ n6_ n7_ n8_; (try clear hb); (try clear hb2); (try clear hk); (try clear hi)))
             go_meet
             case rel => exact ⟨_, ((t425 != t376)), rs_, H', ⟨by have := HJ15.out; have := HJ50.out; first | omega | exact Nat.le_refl _⟩, ⟨by (try simp only [hl386000_50]); (with_reducible repeat (first | apply Kd.R_alloc | apply Kd.R_drewN | apply Kd.R_drew)); exact Kd.R_mono HO_9.out (fun _ hk => trivial)⟩, ⟨by (try simp only [hl386000_50]); (with_reducible repeat (first | apply Kd.R_alloc | apply Kd.R_drewN | apply Kd.R_drew)); exact Kd.R_mono HO_386000.out (fun _ hk => trivial)⟩, ⟨by (try simp only [hl386000_50]); (with_reducible repeat (first | refine blk_drewN ?_ _ | refine blk_drew ?_ | refine blk_alloc ?_ _)); exact BK358.out⟩, ⟨by (try simp only [hl386000_50]); (with_reducible repeat (first | refine blk_drewN ?_ _ | refine blk_drew ?_ | refine blk_alloc ?_ _)); exact BK359.out⟩, ⟨by (try simp only [hl386000_50]); (with_reducible repeat (first | refine blk_drewN ?_ _ | refine blk_drew ?_ | refine blk_alloc ?_ _)); exact BK385.out⟩, ⟨bl_ HB⟩⟩
            ·replace c88 := Bool.eq_false_iff.mpr c88
             subst c88
             have H1 : (laws_FnExactMovesFrom.j2 kj50 t408 t407 true) = some r := by rw [if_neg (show ¬ (false = true) by decide)] at H; exact H
             clear H
             have H := H1
             clear H1
             have H' := Aside0.mk H
             clear H
             obtain ⟨Ao92, co92, eo92⟩ := Kd.R_slice HO424.out
             subst eo92
             obtain ⟨Ao93, co93, eo93⟩ := Kd.R_slice HO_6.out
             subst eo93
             go_wp2_with (first | ((with_reducible refine gate_callee (f := 41) rfl ?_); refine goesL_ (some 89) rfl rfl Try.func41 (by kernel_rfl) rfl #[.slice Ao92 t422.length co92, .slice Ao93 t373.length co93] rfl arg_ ?_; (with_reducible refine (laws_eqMoveS.calls kj50 _ _ t422 _ _ t373 false _ ?side1 ?side2 ?side3 ?side4 A87.out).mono ?_); (case side1 => repeat (first | exact (Kd.R_reads' HO424.out).2.2 | (with_reducible refine Kd.C_alloc ?_ _) | (with_reducible refine Kd.C_drewN ?_ _) | (with_reducible refine Kd.C_drew ?_))); (case side2 => exact (Kd.R_reads' HO424.out).2.1); (case side3 => repeat (first | exact (Kd.R_reads' HO_6.out).2.2 | (with_reducible refine Kd.C_alloc ?_ _) | (with_reducible refine Kd.C_drewN ?_ _) | (with_reducible refine Kd.C_drew ?_))); (case side4 => exact (Kd.R_reads' HO_6.out).2.1); rintro e w94 ⟨rfl, hb⟩; refine ⟨_, rfl, ?_⟩; have n0_ := A_ (Kd.R_below (pr_ HO_6) hb); have n1_ := A_ (Kd.R_below (pr_ HO_9) hb); have n2_ := A_ (Kd.R_below (pr_ HO_386000) hb); have n3_ := A_ (Kd.R_below (pr_ HO412) hb); have n4_ := A_ (Kd.R_below (pr_ HO424) hb); have n5_ := A_ (blk_below (pl_ BK358) hb); have n6_ := A_ (blk_below (pl_ BK359) hb); have n7_ := A_ (blk_below (pl_ BK385) hb); have n8_ := A_ (below_step (bl_ HB) hb); clear HO_6; clear HO_9; clear HO_386000; clear HO412; clear HO424; clear BK358; clear BK359; clear BK385; clear HB; have HO_6 := n0_; have HO_9 := n1_; have HO_386000 := n2_; have HO412 := n3_; have HO424 := n4_; have BK358 := n5_; have BK359 := n6_; have BK385 := n7_; have HB := n8_; clear n0_ n1_ n2_ n3_ n4_ n5_ n6_ n7_ n8_; (try clear hb); (try clear hb2); (try clear hk); (try clear hi)))
             go_meet
             case rel => exact ⟨_, (true), rs_, H', ⟨by have := HJ15.out; have := HJ50.out; first | omega | exact Nat.le_refl _⟩, ⟨by (try simp only [hl386000_50]); (with_reducible repeat (first | apply Kd.R_alloc | apply Kd.R_drewN | apply Kd.R_drew)); exact Kd.R_mono HO_9.out (fun _ hk => trivial)⟩, ⟨by (try simp only [hl386000_50]); (with_reducible repeat (first | apply Kd.R_alloc | apply Kd.R_drewN | apply Kd.R_drew)); exact Kd.R_mono HO_386000.out (fun _ hk => trivial)⟩, ⟨by (try simp only [hl386000_50]); (with_reducible repeat (first | refine blk_drewN ?_ _ | refine blk_drew ?_ | refine blk_alloc ?_ _)); exact BK358.out⟩, ⟨by (try simp only [hl386000_50]); (with_reducible repeat (first | refine blk_drewN ?_ _ | refine blk_drew ?_ | refine blk_alloc ?_ _)); exact BK359.out⟩, ⟨by (try simp only [hl386000_50]); (with_reducible repeat (first | refine blk_drewN ?_ _ | refine blk_drew ?_ | refine blk_alloc ?_ _)); exact BK385.out⟩, ⟨bl_ HB⟩⟩
           case rest =>
            clear HC79
            try clear c1
            try clear c2
            try clear p2
            try clear c3
            try clear c4
            try clear c4b0
            try clear c5
            try clear c6
            try clear c7
            try clear c8
            try clear c13
            try clear c16
            try clear c18
            try clear c19
            try clear c21
            try clear c26
            try clear c31
            try clear c32
            try clear c39
            try clear c41
            try clear c46
            try clear c48
            try clear c49
            try clear c50
            try clear c51
            try clear c56
            try clear c57
            try clear c60
            try clear c60b0
            try clear c62
            try clear c69
            try clear c72
            try clear c72b0
            try clear c75
            try clear c75b0
            try clear c75b1
            try clear c88
            try clear hcz20_0
            try clear hcz20_1
            try clear hcz20_2
            try clear hcz20_3
            try clear hcz20_4
            try clear hcz20_5
            try clear hcz27_0
            try clear hcz27_1
            try clear hcz27_2
            try clear hcz27_3
            try clear hcz27_4
            try clear hcz27_5
            try clear hcz33_0
            try clear hcz33_1
            try clear hcz33_2
            try clear hcz33_3
            try clear hcz33_4
            try clear hcz33_5
            try clear hcz58_0
            try clear hcz58_1
            try clear hcz58_2
            try clear hcz58_3
            try clear hcz58_4
            try clear hcz58_5
            try clear hcz8_0
            try clear hcz8_1
            try clear hcz8_2
            try clear hcz8_3
            try clear hcz8_4
            try clear hcz8_5
            try clear hfz20_0
            try clear hfz20_1
            try clear hfz20_2
            try clear hfz20_3
            try clear hfz20_4
            try clear hfz20_5
            try clear hfz27_0
            try clear hfz27_1
            try clear hfz27_2
            try clear hfz27_3
            try clear hfz27_4
            try clear hfz27_5
            try clear hfz33_0
            try clear hfz33_1
            try clear hfz33_2
            try clear hfz33_3
            try clear hfz33_4
            try clear hfz33_5
            try clear hfz58_0
            try clear hfz58_1
            try clear hfz58_2
            try clear hfz58_3
            try clear hfz58_4
            try clear hfz58_5
            try clear hfz8_0
            try clear hfz8_1
            try clear hfz8_2
            try clear hfz8_3
            try clear hfz8_4
            try clear hfz8_5
            try clear p2
            obtain ⟨kq, x95_78, rfl, HA, HJ78, HO_9, HO_386000, BK358, BK359, BK385, HB⟩ := hcut
            have hl9_78 := (Kd.R_reads' HO_9.out).1
            rw [hl9_78] at HO_9
            (try simp only [hl9_78])
            (try simp only [hl9_78] at BK358)
            (try simp only [hl9_78] at BK359)
            (try simp only [hl9_78] at BK385)
            (try simp only [hl9_78] at HO_386000)
            cases kq with
            | zero => exact absurd HA.out (by simp [laws_FnExactMovesFrom.j2])
            | succ kj78 =>
             have H := HA.out
             clear HA
             simp only [laws_FnExactMovesFrom.j2] at H
             by_cases c95 : x95_78 = true
             ·subst c95
              have H1 : (some false) = some r := by rw [if_pos rfl] at H; exact H
              clear H
              have H := H1
              clear H1
              obtain rfl := Option.some.inj H
              go_wp2
              go_ret
              exact ⟨by first | rfl | (simp [errW_none, errW_some] <;> rfl) | (simp [*, errW_none, errW_some] <;> rfl), bl_ HB⟩
             ·replace c95 := Bool.eq_false_iff.mpr c95
              subst c95
              have H1 : ((laws_heldMoveS.f kj78 t408 1).bind fun t427 => (if t427 < 0 then (some false) else (if t427 = t407 then (some true) else (some false)))) = some r := by rw [if_neg (show ¬ (false = true) by decide)] at H; exact H
              clear H
              have H := H1
              clear H1
              replace H := Option.bind_eq_some_iff.mp H
              obtain ⟨t427, A960, H⟩ := H
              replace H : (if t427 < 0 then (some false) else (if t427 = t407 then (some true) else (some false))) = some r := H
              have A96 := Aside0.mk A960
              clear A960
              by_cases c97 : t427 < 0
              ·rw [if_pos c97] at H
               have c97b0 : decide (t427 < 0) = true := decide_eq_true c97
               clear c97
               obtain rfl := Option.some.inj H
               go_wp2_with (first | ((with_reducible refine gate_callee (f := 51) rfl ?_); refine goesL_ (some 98) rfl rfl Try.func51 (by kernel_rfl) rfl #[.slice Ao80 t408.length co80, .int .i64 1] rfl arg_ ?_; (with_reducible refine (laws_heldMoveS.calls kj78 _ _ t408 1 t427 _ ?side1 ?side2 A96.out).mono ?_); (case side1 => repeat (first | exact (Kd.R_reads' HO_9.out).2.2 | (with_reducible refine Kd.C_alloc ?_ _) | (with_reducible refine Kd.C_drewN ?_ _) | (with_reducible refine Kd.C_drew ?_))); (case side2 => exact (Kd.R_reads' HO_9.out).2.1); rintro e w' ⟨rfl, ⟨nd, rfl⟩⟩; refine ⟨_, rfl, ?_⟩))
               go_ret
               exact ⟨by first | rfl | (simp [errW_none, errW_some] <;> rfl) | (simp [*, errW_none, errW_some] <;> rfl), bl_ HB⟩
              ·rw [if_neg c97] at H
               have c97b0 : decide (t427 < 0) = false := decide_eq_false c97
               clear c97
               by_cases c98 : t427 = t407
               ·rw [if_pos c98] at H
                have c98b0 : (t427 == t407) = true := beq_iff_eq.mpr c98
                have c98b1 : (t427 != t407) = false := bne_eq_false_iff_eq.mpr c98
                clear c98
                obtain rfl := Option.some.inj H
                go_wp2_with (first | ((with_reducible refine gate_callee (f := 51) rfl ?_); refine goesL_ (some 98) rfl rfl Try.func51 (by kernel_rfl) rfl #[.slice Ao80 t408.length co80, .int .i64 1] rfl arg_ ?_; (with_reducible refine (laws_heldMoveS.calls kj78 _ _ t408 1 t427 _ ?side1 ?side2 A96.out).mono ?_); (case side1 => repeat (first | exact (Kd.R_reads' HO_9.out).2.2 | (with_reducible refine Kd.C_alloc ?_ _) | (with_reducible refine Kd.C_drewN ?_ _) | (with_reducible refine Kd.C_drew ?_))); (case side2 => exact (Kd.R_reads' HO_9.out).2.1); rintro e w' ⟨rfl, ⟨nd, rfl⟩⟩; refine ⟨_, rfl, ?_⟩))
                go_ret
                exact ⟨by first | rfl | (simp [errW_none, errW_some] <;> rfl) | (simp [*, errW_none, errW_some] <;> rfl), bl_ HB⟩
               ·rw [if_neg c98] at H
                have c98b0 : (t427 == t407) = false := beq_eq_false_iff_ne.mpr c98
                have c98b1 : (t427 != t407) = true := bne_iff_ne.mpr c98
                obtain rfl := Option.some.inj H
                go_wp2_with (first | ((with_reducible refine gate_callee (f := 51) rfl ?_); refine goesL_ (some 98) rfl rfl Try.func51 (by kernel_rfl) rfl #[.slice Ao80 t408.length co80, .int .i64 1] rfl arg_ ?_; (with_reducible refine (laws_heldMoveS.calls kj78 _ _ t408 1 t427 _ ?side1 ?side2 A96.out).mono ?_); (case side1 => repeat (first | exact (Kd.R_reads' HO_9.out).2.2 | (with_reducible refine Kd.C_alloc ?_ _) | (with_reducible refine Kd.C_drewN ?_ _) | (with_reducible refine Kd.C_drew ?_))); (case side2 => exact (Kd.R_reads' HO_9.out).2.1); rintro e w' ⟨rfl, ⟨nd, rfl⟩⟩; refine ⟨_, rfl, ?_⟩))
                go_ret
                exact ⟨by first | rfl | (simp [errW_none, errW_some] <;> rfl) | (simp [*, errW_none, errW_some] <;> rfl), bl_ HB⟩
          ·rw [if_neg c75] at H
           have c75b0 : (t409 == t407) = false := beq_eq_false_iff_ne.mpr c75
           have c75b1 : (t409 != t407) = true := bne_iff_ne.mpr c75
           obtain rfl := Option.some.inj H
           obtain ⟨Ao99, co99, eo99⟩ := Kd.R_slice HO_9.out
           subst eo99
           go_wp2_with (first | ((with_reducible refine gate_callee (f := 50) rfl ?_); refine goesL_ (some 70) rfl rfl Try.func50 (by kernel_rfl) rfl #[.slice Ao99 t390.length co99, .int .i64 1] rfl arg_ ?_; (with_reducible refine (laws_markMoveS.calls kj50 (fun k_ => some k_ = (.slice Ao99 t390.length co99 : Value).ownBlock) (.slice Ao99 t390.length co99) t390 1 t407 t408 w _ ?side1 ?side2 A70.out).mono ?_); (case side1 => repeat (first | (with_reducible first | exact HB.out | apply below_alloc | apply pw_below_drewN | apply below_drew1) | exact HB.out)); (case side2 => exact Kd.R_tight rfl HO_9.out); rintro e w100 ⟨rfl, hy0, hb, hkp⟩; refine ⟨_, rfl, ?_⟩; have n0_ := A_ (Kd.R_mono (ok' := fun k_ => some k_ ≠ (.slice Ao99 t390.length co99 : Value).ownBlock) (Kd.R_keptB (HO_6.out) hkp (fun k_ hk_ hs_ => (hk_) hs_)) (fun k_ hk_ => hk_.1)); have n1_ := A_ (Kd.R_reok rfl hy0 (fun k_ e_ => HO_9.out.1 k_ e_)); have n2_ := A_ (Kd.R_mono (ok' := fun k_ => True) (Kd.R_keptB ((Kd.R_apart' HO_386000.out (Kd.R_typed HO_9.out) (by decide))) hkp (fun k_ hk_ hs_ => (hk_.2) hs_)) (fun k_ hk_ => trivial)); have n3_ := A_ (blk_kept (pl_ BK358) hkp (fun hs_ => (fun e_ => (Kd.R_ne HO_9.out BK358.out (by decide)) e_) hs_)); have n4_ := A_ (blk_kept (pl_ BK359) hkp (fun hs_ => (fun e_ => (Kd.R_ne HO_9.out BK359.out (by decide)) e_) hs_)); have n5_ := A_ (blk_kept (pl_ BK385) hkp (fun hs_ => (fun e_ => (Kd.R_ne HO_9.out BK385.out (by decide)) e_) hs_)); have n6_ := A_ (hb); clear HO_6; clear HO_9; clear HO_386000; clear BK358; clear BK359; clear BK385; clear HB; have HO_6 := n0_; have HO_9 := n1_; have HO_386000 := n2_; have BK358 := n3_; have BK359 := n4_; have BK385 := n5_; have HB := n6_; clear n0_ n1_ n2_ n3_ n4_ n5_ n6_; (try clear hb); (try clear hkp); (try clear hy0)) | ((with_reducible refine gate_callee (f := 51) rfl ?_); refine goesL_ (some 73) rfl rfl Try.func51 (by kernel_rfl) rfl #[.slice Ao99 t408.length co99, .int .i64 1] rfl (by (try simp only [List.map_toArray, List.map_cons, List.map_nil]); first | done | (rw [show t408.length = t390.length from (Kd.R_reads' HO_9.out).1.symm] <;> rfl) | rfl | (simp only [List.length_drop, List.length_take]; rfl)) ?_; (with_reducible refine (laws_heldMoveS.calls kj50 _ _ t408 1 t409 _ ?side1 ?side2 A71.out).mono ?_); (case side1 => repeat (first | exact (Kd.R_reads' HO_9.out).2.2 | (with_reducible refine Kd.C_alloc ?_ _) | (with_reducible refine Kd.C_drewN ?_ _) | (with_reducible refine Kd.C_drew ?_))); (case side2 => rw [show t408.length = t390.length from (Kd.R_reads' HO_9.out).1.symm]; exact (Kd.R_reads' HO_9.out).2.1); rintro e w' ⟨rfl, ⟨nd, rfl⟩⟩; refine ⟨_, rfl, ?_⟩))
           go_ret
           exact ⟨by first | rfl | (simp [errW_none, errW_some] <;> rfl) | (simp [*, errW_none, errW_some] <;> rfl), bl_ HB⟩
     ·replace c49 := Bool.eq_false_iff.mpr c49
      subst c49
      have H1 : (some false) = some r := by rw [if_neg (show ¬ (false = true) by decide)] at H; exact H
      clear H
      have H := H1
      clear H1
      obtain rfl := Option.some.inj H
      try go_wp2
      have n0_ := A_ (Kd.R_drew HO_6.out)
      have n1_ := A_ (Kd.R_drew HO_9.out)
      have n2_ := A_ (Kd.R_drew HO_386000.out)
      have n3_ := A_ (blk_drew BK358.out)
      have n4_ := A_ (blk_drew BK359.out)
      have n5_ := A_ (blk_drew BK385.out)
      have n6_ := A_ (below_drew1 HB.out)
      clear HO_6
      clear HO_9
      clear HO_386000
      clear BK358
      clear BK359
      clear BK385
      clear HB
      have HO_6 := n0_
      have HO_9 := n1_
      have HO_386000 := n2_
      have BK358 := n3_
      have BK359 := n4_
      have BK385 := n5_
      have HB := n6_
      clear n0_ n1_ n2_ n3_ n4_ n5_ n6_
      refine start_ (n := 5) (S := fun w' => w'.cell? ⟨gb385, 0, none⟩ = some (.slice Ao30 t377.length co30) ∧ w'.cell? ⟨gb385, 1, none⟩ = some (.int .i16 t380) ∧ w'.cell? ⟨gb385, 2, none⟩ = some (.int .i16 t381) ∧ w'.cell? ⟨gb385, 3, none⟩ = some (.int .i16 t382) ∧ w'.cell? ⟨gb385, 4, none⟩ = some (.int .i16 t383) ∧ w'.cell? ⟨gb385, 5, none⟩ = some (.bool t384) ∧ w'.cell? ⟨gb358, 0, none⟩ = some (.slice A0_0 l0_0.length c0_0) ∧ w'.cell? ⟨gb358, 1, none⟩ = some (.int .i16 a0_1) ∧ w'.cell? ⟨gb358, 2, none⟩ = some (.int .i16 a0_2) ∧ w'.cell? ⟨gb358, 3, none⟩ = some (.int .i16 a0_3) ∧ w'.cell? ⟨gb358, 4, none⟩ = some (.int .i16 a0_4) ∧ w'.cell? ⟨gb358, 5, none⟩ = some (.bool a0_5)) (ds := []) #[false, false, false, false, false] (by kernel_rfl) rfl rfl ⟨(blk_cell BK385.out 0).trans rfl, (blk_cell BK385.out 1).trans rfl, (blk_cell BK385.out 2).trans rfl, (blk_cell BK385.out 3).trans rfl, (blk_cell BK385.out 4).trans rfl, (blk_cell BK385.out 5).trans rfl, (blk_cell BK358.out 0).trans rfl, (blk_cell BK358.out 1).trans rfl, (blk_cell BK358.out 2).trans rfl, (blk_cell BK358.out 3).trans rfl, (blk_cell BK358.out 4).trans rfl, (blk_cell BK358.out 5).trans rfl⟩ (fun hHeld => ?_)
      generalize wc.drew = w101 at HO_6 HO_9 HO_386000 BK358 BK359 BK385 HB hHeld ⊢
      refine take_ (i := 0) (N := some 47) (v := ?_) (a' := ?_) #[true, false, false, false, false] rfl rfl (by kernel_rfl) (fun _ _ _ h => h) (Or.inl ⟨by rfl, ?_⟩) hHeld ?_ ?_
      rotate_left
      ·rintro w' ⟨s0, s1, s2, s3, s4, s5, s6, s7, s8, s9, s10, s11⟩
       go_simp
       with_reducible rfl
      rotate_left
      ·simp only [Act.put, List.setIfInBounds_toArray, List.set_cons_zero, List.set_cons_succ, i64_w, i32_w]
       rfl
      refine take_ (i := 1) (N := some 48) (v := ?_) (a' := ?_) #[true, true, false, false, false] rfl rfl (by kernel_rfl) (fun _ _ _ h => h) (Or.inl ⟨by rfl, ?_⟩) hHeld ?_ ?_
      rotate_left
      ·rintro w' ⟨s0, s1, s2, s3, s4, s5, s6, s7, s8, s9, s10, s11⟩
       go_simp
       with_reducible rfl
      rotate_left
      ·simp only [Act.put, List.setIfInBounds_toArray, List.set_cons_zero, List.set_cons_succ, i64_w, i32_w]
       rfl
      refine one_ (i := 2) (N := some 49) #[true, true, true, false, false] rfl rfl (by kernel_rfl) (by decide) (fun K hK => ?_)
      refine goes_ Try.func18 (by kernel_rfl) rfl #[.agg #[.slice A0_0 l0_0.length c0_0, .int .i16 a0_1, .int .i16 a0_2, .int .i16 a0_3, .int .i16 a0_4, .bool a0_5]] (by rfl) rfl rfl arg_ ?_
      with_reducible refine (laws_toPuzzle.calls kj15 _ _ l0_0 a0_1 a0_2 a0_3 a0_4 a0_5 t395 t398 t399 t400 t401 t402 _ ?side1 ?side2 A47.out).mono ?_
      (case side1 => repeat (first | exact (Kd.C_below HR0_0.out HB.out) | (with_reducible refine Kd.C_alloc ?_ _) | (with_reducible refine Kd.C_drewN ?_ _) | (with_reducible refine Kd.C_drew ?_)))
      (case side2 => exact HC0_0.out)
      rintro e w102 ⟨v396, rfl, ho0, hb⟩
      refine ⟨_, rfl, ?_⟩
      have n0_ := A_ (Kd.R_below (pr_ HO_6) hb)
      have n1_ := A_ (Kd.R_below (pr_ HO_9) hb)
      have n2_ := A_ (Kd.R_elder' (pr_ HO_386000) (Kd.R_base ho0) hb)
      have n3_ := A_ (Kd.R_lower (Kd.R_new' ho0 (Kd.R_lt (pr_ HO_386000))) (below_size (bl_ HB)))
      have n4_ := A_ (blk_below (pl_ BK358) hb)
      have n5_ := A_ (blk_below (pl_ BK359) hb)
      have n6_ := A_ (blk_below (pl_ BK385) hb)
      have n7_ := A_ (below_step (bl_ HB) hb)
      clear HO_6
      clear HO_9
      clear HO_386000
      clear BK358
      clear BK359
      clear BK385
      clear HB
      have HO_6 := n0_
      have HO_9 := n1_
      have HO_386000 := n2_
      have HO397 := n3_
      have BK358 := n4_
      have BK359 := n5_
      have BK385 := n6_
      have HB := n7_
      clear n0_ n1_ n2_ n3_ n4_ n5_ n6_ n7_
      (try clear hb)
      (try clear hb2)
      (try clear hk)
      (try clear hi)
      (try clear ho0)
      obtain ⟨Ao103, co103, eo103⟩ := Kd.R_slice HO397.out
      (first | subst eo103 | (injection eo103 with f1_ f2_ f3_; have f4_ := f1_.symm; have f5_ := f3_.symm; clear f1_ f2_ f3_; subst f4_; subst f5_))
      refine hK.out _ _ ⟨(blk_cell BK385.out 0).trans rfl, (blk_cell BK385.out 1).trans rfl, (blk_cell BK385.out 2).trans rfl, (blk_cell BK385.out 3).trans rfl, (blk_cell BK385.out 4).trans rfl, (blk_cell BK385.out 5).trans rfl, (blk_cell BK358.out 0).trans rfl, (blk_cell BK358.out 1).trans rfl, (blk_cell BK358.out 2).trans rfl, (blk_cell BK358.out 3).trans rfl, (blk_cell BK358.out 4).trans rfl, (blk_cell BK358.out 5).trans rfl⟩ (fun hHeld => ?_)
      clear hK K
      refine norm_ (a' := ?_) ?_ ?_
      rotate_left
      ·show Act.put _ (some 49) _ = _
       simp only [Act.put, List.setIfInBounds_toArray, List.set_cons_zero, List.set_cons_succ, i64_w, i32_w]
       rfl
      refine one_ (i := 3) (N := some 50) #[true, true, true, true, false] rfl rfl (by kernel_rfl) (by decide) (fun K hK => ?_)
      refine goes_ Try.func21 (by kernel_rfl) rfl #[.agg #[.slice Ao30 t377.length co30, .int .i16 t380, .int .i16 t381, .int .i16 t382, .int .i16 t383, .bool t384], .agg #[.slice Ao103 t395.length co103, .int .i16 t398, .int .i16 t399, .int .i16 t400, .int .i16 t401, .bool t402]] (by rfl) rfl rfl arg_ ?_
      with_reducible refine (laws_eqPuzzle.calls kj15 _ _ t377 t380 t381 t382 t383 t384 _ _ t395 t398 t399 t400 t401 t402 false _ ?side1 ?side2 ?side3 ?side4 A48.out).mono ?_
      (case side1 => repeat (first | exact (Kd.R_reads' HO_386000.out).2.2 | (with_reducible refine Kd.C_alloc ?_ _) | (with_reducible refine Kd.C_drewN ?_ _) | (with_reducible refine Kd.C_drew ?_)))
      (case side2 => exact (Kd.R_reads' HO_386000.out).2.1)
      (case side3 => repeat (first | exact (Kd.R_reads' HO397.out).2.2 | (with_reducible refine Kd.C_alloc ?_ _) | (with_reducible refine Kd.C_drewN ?_ _) | (with_reducible refine Kd.C_drew ?_)))
      (case side4 => exact (Kd.R_reads' HO397.out).2.1)
      rintro e w104 ⟨rfl, hb⟩
      refine ⟨_, rfl, ?_⟩
      have n0_ := A_ (Kd.R_below (pr_ HO_6) hb)
      have n1_ := A_ (Kd.R_below (pr_ HO_9) hb)
      have n2_ := A_ (Kd.R_below (pr_ HO_386000) hb)
      have n3_ := A_ (Kd.R_below (pr_ HO397) hb)
      have n4_ := A_ (blk_below (pl_ BK358) hb)
      have n5_ := A_ (blk_below (pl_ BK359) hb)
      have n6_ := A_ (blk_below (pl_ BK385) hb)
      have n7_ := A_ (below_step (bl_ HB) hb)
      clear HO_6
      clear HO_9
      clear HO_386000
      clear HO397
      clear BK358
      clear BK359
      clear BK385
      clear HB
      have HO_6 := n0_
      have HO_9 := n1_
      have HO_386000 := n2_
      have HO397 := n3_
      have BK358 := n4_
      have BK359 := n5_
      have BK385 := n6_
      have HB := n7_
      clear n0_ n1_ n2_ n3_ n4_ n5_ n6_ n7_
      (try clear hb)
      (try clear hb2)
      (try clear hk)
      (try clear hi)
      refine hK.out _ _ ⟨(blk_cell BK385.out 0).trans rfl, (blk_cell BK385.out 1).trans rfl, (blk_cell BK385.out 2).trans rfl, (blk_cell BK385.out 3).trans rfl, (blk_cell BK385.out 4).trans rfl, (blk_cell BK385.out 5).trans rfl, (blk_cell BK358.out 0).trans rfl, (blk_cell BK358.out 1).trans rfl, (blk_cell BK358.out 2).trans rfl, (blk_cell BK358.out 3).trans rfl, (blk_cell BK358.out 4).trans rfl, (blk_cell BK358.out 5).trans rfl⟩ (fun hHeld => ?_)
      clear hK K
      refine norm_ (a' := ?_) ?_ ?_
      rotate_left
      ·show Act.put _ (some 50) _ = _
       simp only [Act.put, List.setIfInBounds_toArray, List.set_cons_zero, List.set_cons_succ, i64_w, i32_w]
       rfl
      refine pure_ (i := 4) (N := some 51) (v := ?_) (a' := ?_) #[true, true, true, true, true] rfl rfl (by kernel_rfl) (fun _ _ _ h => h) (Or.inl ⟨by rfl, ?_⟩) ?_ ?_
      rotate_left
      ·intro w'
       go_simp
       with_reducible rfl
      rotate_left
      ·simp only [Act.put, List.setIfInBounds_toArray, List.set_cons_zero, List.set_cons_succ, i64_w, i32_w]
       rfl
      refine done_ (by kernel_rfl) ?_
      try go_wp2
      go_ret
      exact ⟨by first | rfl | (simp [errW_none, errW_some] <;> rfl) | (simp [*, errW_none, errW_some] <;> rfl), bl_ HB⟩

end Go.Proofs.Ytodmfjophjhbeaa.M
