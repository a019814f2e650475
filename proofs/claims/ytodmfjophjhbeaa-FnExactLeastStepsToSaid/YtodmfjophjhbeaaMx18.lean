-- By this seat's own program over the kit's printer (arrays, functions told by hand); nothing of it is trusted: the kernel checks it.
import Derived.Test.YtodmfjophjhbeaaMx0
import Derived.Test.YtodmfjophjhbeaaMx1
namespace Go.Proofs.Ytodmfjophjhbeaa.M
open Go.RowKit Go.Proofs.YtodmfjophjhbeaaW.PrintWords Go.Proofs.YtodmfjophjhbeaaW.PrintLast Go.Proofs.YtodmfjophjhbeaaW.PrintMore
attribute [local go_sem] max2_int min2_int max_two min_two max_three min_three max_four min_four   -- for this text's walks alone
set_option linter.unusedVariables false
set_option linter.unusedSimpArgs false

attribute [local go_sem high] eqA30
/-! ### impl_Puzzle_moved: function 87 -/
def impl_Puzzle_moved.j0 : Nat → List Int → Int → Int → Int → Int → Bool → Int → Int → Int → Int → Int → Int → Int → Int → Option (Int × Int × Int × Int × Bool)
 | 0, _, _, _, _, _, _, _, _, _, _, _, _, _, _ => none
 | k + 1, x225000, x225001, x225002, x225003, x225004, x225005, x226000, x226001, x226002, x226003, x229000, x229001, x229002, x229003 => if x225005 = true then (some (x229000, x229001, x229002, x229003, (!(x229000 == x226000) || (!(x229001 == x226001) || (!(x229002 == x226002) || (!(x229003 == x226003))))))) else (some (x229000, x229001, x229002, x229003, false))
def impl_Puzzle_moved.f (k : Nat) (l0_0 : List Int) (a0_1 : Int) (a0_2 : Int) (a0_3 : Int) (a0_4 : Int) (a0_5 : Bool) (a1_0 : Int) (a1_1 : Int) (a1_2 : Int) (a1_3 : Int) (a2_0 : Int) (a2_1 : Int) (a2_2 : Int) : Option (Int × Int × Int × Int × Bool) := if a2_0 = 0 then (if 0 ≤ a2_1 then (if a2_1 < 4 then (if 0 ≤ a2_2 then (if a2_2 < (l0_0.length : Int) then (if a2_2 < 4 then (if a2_1 = a2_2 then (some (aup a2_2 0 (IntKind.i16.wrap ((rd [aup a2_1 0 (IntKind.i16.wrap ((rd [a1_0, a1_1, a1_2, a1_3] a2_1) - (mn (rd [a1_0, a1_1, a1_2, a1_3] a2_1) (IntKind.i16.wrap ((rd l0_0 a2_2) - (rd [a1_0, a1_1, a1_2, a1_3] a2_2)))))) a1_0, aup a2_1 1 (IntKind.i16.wrap ((rd [a1_0, a1_1, a1_2, a1_3] a2_1) - (mn (rd [a1_0, a1_1, a1_2, a1_3] a2_1) (IntKind.i16.wrap ((rd l0_0 a2_2) - (rd [a1_0, a1_1, a1_2, a1_3] a2_2)))))) a1_1, aup a2_1 2 (IntKind.i16.wrap ((rd [a1_0, a1_1, a1_2, a1_3] a2_1) - (mn (rd [a1_0, a1_1, a1_2, a1_3] a2_1) (IntKind.i16.wrap ((rd l0_0 a2_2) - (rd [a1_0, a1_1, a1_2, a1_3] a2_2)))))) a1_2, aup a2_1 3 (IntKind.i16.wrap ((rd [a1_0, a1_1, a1_2, a1_3] a2_1) - (mn (rd [a1_0, a1_1, a1_2, a1_3] a2_1) (IntKind.i16.wrap ((rd l0_0 a2_2) - (rd [a1_0, a1_1, a1_2, a1_3] a2_2)))))) a1_3] a2_2) + (mn (rd [a1_0, a1_1, a1_2, a1_3] a2_1) (IntKind.i16.wrap ((rd l0_0 a2_2) - (rd [a1_0, a1_1, a1_2, a1_3] a2_2)))))) (aup a2_1 0 (IntKind.i16.wrap ((rd [a1_0, a1_1, a1_2, a1_3] a2_1) - (mn (rd [a1_0, a1_1, a1_2, a1_3] a2_1) (IntKind.i16.wrap ((rd l0_0 a2_2) - (rd [a1_0, a1_1, a1_2, a1_3] a2_2)))))) a1_0), aup a2_2 1 (IntKind.i16.wrap ((rd [aup a2_1 0 (IntKind.i16.wrap ((rd [a1_0, a1_1, a1_2, a1_3] a2_1) - (mn (rd [a1_0, a1_1, a1_2, a1_3] a2_1) (IntKind.i16.wrap ((rd l0_0 a2_2) - (rd [a1_0, a1_1, a1_2, a1_3] a2_2)))))) a1_0, aup a2_1 1 (IntKind.i16.wrap ((rd [a1_0, a1_1, a1_2, a1_3] a2_1) - (mn (rd [a1_0, a1_1, a1_2, a1_3] a2_1) (IntKind.i16.wrap ((rd l0_0 a2_2) - (rd [a1_0, a1_1, a1_2, a1_3] a2_2)))))) a1_1, aup a2_1 2 (IntKind.i16.wrap ((rd [a1_0, a1_1, a1_2, a1_3] a2_1) - (mn (rd [a1_0, a1_1, a1_2, a1_3] a2_1) (IntKind.i16.wrap ((rd l0_0 a2_2) - (rd [a1_0, a1_1, a1_2, a1_3] a2_2)))))) a1_2, aup a2_1 3 (IntKind.i16.wrap ((rd [a1_0, a1_1, a1_2, a1_3] a2_1) - (mn (rd [a1_0, a1_1, a1_2, a1_3] a2_1) (IntKind.i16.wrap ((rd l0_0 a2_2) - (rd [a1_0, a1_1, a1_2, a1_3] a2_2)))))) a1_3] a2_2) + (mn (rd [a1_0, a1_1, a1_2, a1_3] a2_1) (IntKind.i16.wrap ((rd l0_0 a2_2) - (rd [a1_0, a1_1, a1_2, a1_3] a2_2)))))) (aup a2_1 1 (IntKind.i16.wrap ((rd [a1_0, a1_1, a1_2, a1_3] a2_1) - (mn (rd [a1_0, a1_1, a1_2, a1_3] a2_1) (IntKind.i16.wrap ((rd l0_0 a2_2) - (rd [a1_0, a1_1, a1_2, a1_3] a2_2)))))) a1_1), aup a2_2 2 (IntKind.i16.wrap ((rd [aup a2_1 0 (IntKind.i16.wrap ((rd [a1_0, a1_1, a1_2, a1_3] a2_1) - (mn (rd [a1_0, a1_1, a1_2, a1_3] a2_1) (IntKind.i16.wrap ((rd l0_0 a2_2) - (rd [a1_0, a1_1, a1_2, a1_3] a2_2)))))) a1_0, aup a2_1 1 (IntKind.i16.wrap ((rd [a1_0, a1_1, a1_2, a1_3] a2_1) - (mn (rd [a1_0, a1_1, a1_2, a1_3] a2_1) (IntKind.i16.wrap ((rd l0_0 a2_2) - (rd [a1_0, a1_1, a1_2, a1_3] a2_2)))))) a1_1, aup a2_1 2 (IntKind.i16.wrap ((rd [a1_0, a1_1, a1_2, a1_3] a2_1) - (mn (rd [a1_0, a1_1, a1_2, a1_3] a2_1) (IntKind.i16.wrap ((rd l0_0 a2_2) - (rd [a1_0, a1_1, a1_2, a1_3] a2_2)))))) a1_2, aup a2_1 3 (IntKind.i16.wrap ((rd [a1_0, a1_1, a1_2, a1_3] a2_1) - (mn (rd [a1_0, a1_1, a1_2, a1_3] a2_1) (IntKind.i16.wrap ((rd l0_0 a2_2) - (rd [a1_0, a1_1, a1_2, a1_3] a2_2)))))) a1_3] a2_2) + (mn (rd [a1_0, a1_1, a1_2, a1_3] a2_1) (IntKind.i16.wrap ((rd l0_0 a2_2) - (rd [a1_0, a1_1, a1_2, a1_3] a2_2)))))) (aup a2_1 2 (IntKind.i16.wrap ((rd [a1_0, a1_1, a1_2, a1_3] a2_1) - (mn (rd [a1_0, a1_1, a1_2, a1_3] a2_1) (IntKind.i16.wrap ((rd l0_0 a2_2) - (rd [a1_0, a1_1, a1_2, a1_3] a2_2)))))) a1_2), aup a2_2 3 (IntKind.i16.wrap ((rd [aup a2_1 0 (IntKind.i16.wrap ((rd [a1_0, a1_1, a1_2, a1_3] a2_1) - (mn (rd [a1_0, a1_1, a1_2, a1_3] a2_1) (IntKind.i16.wrap ((rd l0_0 a2_2) - (rd [a1_0, a1_1, a1_2, a1_3] a2_2)))))) a1_0, aup a2_1 1 (IntKind.i16.wrap ((rd [a1_0, a1_1, a1_2, a1_3] a2_1) - (mn (rd [a1_0, a1_1, a1_2, a1_3] a2_1) (IntKind.i16.wrap ((rd l0_0 a2_2) - (rd [a1_0, a1_1, a1_2, a1_3] a2_2)))))) a1_1, aup a2_1 2 (IntKind.i16.wrap ((rd [a1_0, a1_1, a1_2, a1_3] a2_1) - (mn (rd [a1_0, a1_1, a1_2, a1_3] a2_1) (IntKind.i16.wrap ((rd l0_0 a2_2) - (rd [a1_0, a1_1, a1_2, a1_3] a2_2)))))) a1_2, aup a2_1 3 (IntKind.i16.wrap ((rd [a1_0, a1_1, a1_2, a1_3] a2_1) - (mn (rd [a1_0, a1_1, a1_2, a1_3] a2_1) (IntKind.i16.wrap ((rd l0_0 a2_2) - (rd [a1_0, a1_1, a1_2, a1_3] a2_2)))))) a1_3] a2_2) + (mn (rd [a1_0, a1_1, a1_2, a1_3] a2_1) (IntKind.i16.wrap ((rd l0_0 a2_2) - (rd [a1_0, a1_1, a1_2, a1_3] a2_2)))))) (aup a2_1 3 (IntKind.i16.wrap ((rd [a1_0, a1_1, a1_2, a1_3] a2_1) - (mn (rd [a1_0, a1_1, a1_2, a1_3] a2_1) (IntKind.i16.wrap ((rd l0_0 a2_2) - (rd [a1_0, a1_1, a1_2, a1_3] a2_2)))))) a1_3), false)) else (some (aup a2_2 0 (IntKind.i16.wrap ((rd [aup a2_1 0 (IntKind.i16.wrap ((rd [a1_0, a1_1, a1_2, a1_3] a2_1) - (mn (rd [a1_0, a1_1, a1_2, a1_3] a2_1) (IntKind.i16.wrap ((rd l0_0 a2_2) - (rd [a1_0, a1_1, a1_2, a1_3] a2_2)))))) a1_0, aup a2_1 1 (IntKind.i16.wrap ((rd [a1_0, a1_1, a1_2, a1_3] a2_1) - (mn (rd [a1_0, a1_1, a1_2, a1_3] a2_1) (IntKind.i16.wrap ((rd l0_0 a2_2) - (rd [a1_0, a1_1, a1_2, a1_3] a2_2)))))) a1_1, aup a2_1 2 (IntKind.i16.wrap ((rd [a1_0, a1_1, a1_2, a1_3] a2_1) - (mn (rd [a1_0, a1_1, a1_2, a1_3] a2_1) (IntKind.i16.wrap ((rd l0_0 a2_2) - (rd [a1_0, a1_1, a1_2, a1_3] a2_2)))))) a1_2, aup a2_1 3 (IntKind.i16.wrap ((rd [a1_0, a1_1, a1_2, a1_3] a2_1) - (mn (rd [a1_0, a1_1, a1_2, a1_3] a2_1) (IntKind.i16.wrap ((rd l0_0 a2_2) - (rd [a1_0, a1_1, a1_2, a1_3] a2_2)))))) a1_3] a2_2) + (mn (rd [a1_0, a1_1, a1_2, a1_3] a2_1) (IntKind.i16.wrap ((rd l0_0 a2_2) - (rd [a1_0, a1_1, a1_2, a1_3] a2_2)))))) (aup a2_1 0 (IntKind.i16.wrap ((rd [a1_0, a1_1, a1_2, a1_3] a2_1) - (mn (rd [a1_0, a1_1, a1_2, a1_3] a2_1) (IntKind.i16.wrap ((rd l0_0 a2_2) - (rd [a1_0, a1_1, a1_2, a1_3] a2_2)))))) a1_0), aup a2_2 1 (IntKind.i16.wrap ((rd [aup a2_1 0 (IntKind.i16.wrap ((rd [a1_0, a1_1, a1_2, a1_3] a2_1) - (mn (rd [a1_0, a1_1, a1_2, a1_3] a2_1) (IntKind.i16.wrap ((rd l0_0 a2_2) - (rd [a1_0, a1_1, a1_2, a1_3] a2_2)))))) a1_0, aup a2_1 1 (IntKind.i16.wrap ((rd [a1_0, a1_1, a1_2, a1_3] a2_1) - (mn (rd [a1_0, a1_1, a1_2, a1_3] a2_1) (IntKind.i16.wrap ((rd l0_0 a2_2) - (rd [a1_0, a1_1, a1_2, a1_3] a2_2)))))) a1_1, aup a2_1 2 (IntKind.i16.wrap ((rd [a1_0, a1_1, a1_2, a1_3] a2_1) - (mn (rd [a1_0, a1_1, a1_2, a1_3] a2_1) (IntKind.i16.wrap ((rd l0_0 a2_2) - (rd [a1_0, a1_1, a1_2, a1_3] a2_2)))))) a1_2, aup a2_1 3 (IntKind.i16.wrap ((rd [a1_0, a1_1, a1_2, a1_3] a2_1) - (mn (rd [a1_0, a1_1, a1_2, a1_3] a2_1) (IntKind.i16.wrap ((rd l0_0 a2_2) - (rd [a1_0, a1_1, a1_2, a1_3] a2_2)))))) a1_3] a2_2) + (mn (rd [a1_0, a1_1, a1_2, a1_3] a2_1) (IntKind.i16.wrap ((rd l0_0 a2_2) - (rd [a1_0, a1_1, a1_2, a1_3] a2_2)))))) (aup a2_1 1 (IntKind.i16.wrap ((rd [a1_0, a1_1, a1_2, a1_3] a2_1) - (mn (rd [a1_0, a1_1, a1_2, a1_3] a2_1) (IntKind.i16.wrap ((rd l0_0 a2_2) - (rd [a1_0, a1_1, a1_2, a1_3] a2_2)))))) a1_1), aup a2_2 2 (IntKind.i16.wrap ((rd [aup a2_1 0 (IntKind.i16.wrap ((rd [a1_0, a1_1, a1_2, a1_3] a2_1) - (mn (rd [a1_0, a1_1, a1_2, a1_3] a2_1) (IntKind.i16.wrap ((rd l0_0 a2_2) - (rd [a1_0, a1_1, a1_2, a1_3] a2_2)))))) a1_0, aup a2_1 1 (IntKind.i16.wrap ((rd [a1_0, a1_1, a1_2, a1_3] a2_1) - (mn (rd [a1_0, a1_1, a1_2, a1_3] a2_1) (IntKind.i16.wrap ((rd l0_0 a2_2) - (rd [a1_0, a1_1, a1_2, a1_3] a2_2)))))) a1_1, aup a2_1 2 (IntKind.i16.wrap ((rd [a1_0, a1_1, a1_2, a1_3] a2_1) - (mn (rd [a1_0, a1_1, a1_2, a1_3] a2_1) (IntKind.i16.wrap ((rd l0_0 a2_2) - (rd [a1_0, a1_1, a1_2, a1_3] a2_2)))))) a1_2, aup a2_1 3 (IntKind.i16.wrap ((rd [a1_0, a1_1, a1_2, a1_3] a2_1) - (mn (rd [a1_0, a1_1, a1_2, a1_3] a2_1) (IntKind.i16.wrap ((rd l0_0 a2_2) - (rd [a1_0, a1_1, a1_2, a1_3] a2_2)))))) a1_3] a2_2) + (mn (rd [a1_0, a1_1, a1_2, a1_3] a2_1) (IntKind.i16.wrap ((rd l0_0 a2_2) - (rd [a1_0, a1_1, a1_2, a1_3] a2_2)))))) (aup a2_1 2 (IntKind.i16.wrap ((rd [a1_0, a1_1, a1_2, a1_3] a2_1) - (mn (rd [a1_0, a1_1, a1_2, a1_3] a2_1) (IntKind.i16.wrap ((rd l0_0 a2_2) - (rd [a1_0, a1_1, a1_2, a1_3] a2_2)))))) a1_2), aup a2_2 3 (IntKind.i16.wrap ((rd [aup a2_1 0 (IntKind.i16.wrap ((rd [a1_0, a1_1, a1_2, a1_3] a2_1) - (mn (rd [a1_0, a1_1, a1_2, a1_3] a2_1) (IntKind.i16.wrap ((rd l0_0 a2_2) - (rd [a1_0, a1_1, a1_2, a1_3] a2_2)))))) a1_0, aup a2_1 1 (IntKind.i16.wrap ((rd [a1_0, a1_1, a1_2, a1_3] a2_1) - (mn (rd [a1_0, a1_1, a1_2, a1_3] a2_1) (IntKind.i16.wrap ((rd l0_0 a2_2) - (rd [a1_0, a1_1, a1_2, a1_3] a2_2)))))) a1_1, aup a2_1 2 (IntKind.i16.wrap ((rd [a1_0, a1_1, a1_2, a1_3] a2_1) - (mn (rd [a1_0, a1_1, a1_2, a1_3] a2_1) (IntKind.i16.wrap ((rd l0_0 a2_2) - (rd [a1_0, a1_1, a1_2, a1_3] a2_2)))))) a1_2, aup a2_1 3 (IntKind.i16.wrap ((rd [a1_0, a1_1, a1_2, a1_3] a2_1) - (mn (rd [a1_0, a1_1, a1_2, a1_3] a2_1) (IntKind.i16.wrap ((rd l0_0 a2_2) - (rd [a1_0, a1_1, a1_2, a1_3] a2_2)))))) a1_3] a2_2) + (mn (rd [a1_0, a1_1, a1_2, a1_3] a2_1) (IntKind.i16.wrap ((rd l0_0 a2_2) - (rd [a1_0, a1_1, a1_2, a1_3] a2_2)))))) (aup a2_1 3 (IntKind.i16.wrap ((rd [a1_0, a1_1, a1_2, a1_3] a2_1) - (mn (rd [a1_0, a1_1, a1_2, a1_3] a2_1) (IntKind.i16.wrap ((rd l0_0 a2_2) - (rd [a1_0, a1_1, a1_2, a1_3] a2_2)))))) a1_3), decide ((mn (rd [a1_0, a1_1, a1_2, a1_3] a2_1) (IntKind.i16.wrap ((rd l0_0 a2_2) - (rd [a1_0, a1_1, a1_2, a1_3] a2_2)))) > 0)))) else (none)) else (none)) else (none)) else (none)) else (none)) else (if a2_0 = 1 then (if 0 ≤ a2_1 then (if a2_1 < (l0_0.length : Int) then (if a2_1 < 4 then (impl_Puzzle_moved.j0 k l0_0 a0_1 a0_2 a0_3 a0_4 a0_5 a1_0 a1_1 a1_2 a1_3 (aup a2_1 0 (rd l0_0 a2_1) a1_0) (aup a2_1 1 (rd l0_0 a2_1) a1_1) (aup a2_1 2 (rd l0_0 a2_1) a1_2) (aup a2_1 3 (rd l0_0 a2_1) a1_3)) else (none)) else (none)) else (none)) else (if a2_0 = 2 then (if 0 ≤ a2_1 then (if a2_1 < 4 then (impl_Puzzle_moved.j0 k l0_0 a0_1 a0_2 a0_3 a0_4 a0_5 a1_0 a1_1 a1_2 a1_3 (aup a2_1 0 0 a1_0) (aup a2_1 1 0 a1_1) (aup a2_1 2 0 a1_2) (aup a2_1 3 0 a1_3)) else (none)) else (none)) else (impl_Puzzle_moved.j0 k l0_0 a0_1 a0_2 a0_3 a0_4 a0_5 a1_0 a1_1 a1_2 a1_3 a1_0 a1_1 a1_2 a1_3)))
theorem impl_Puzzle_moved.mono_l : ∀ k, (∀ y0 y1 y2 y3 y4 y5 y6 y7 y8 y9 y10 y11 y12 y13, LeO (impl_Puzzle_moved.j0 k y0 y1 y2 y3 y4 y5 y6 y7 y8 y9 y10 y11 y12 y13) (impl_Puzzle_moved.j0 (k + 1) y0 y1 y2 y3 y4 y5 y6 y7 y8 y9 y10 y11 y12 y13))
 | 0 => fun _ _ _ _ _ _ _ _ _ _ _ _ _ _ r h => by simp [impl_Puzzle_moved.j0] at h
 | k + 1 => by
  have ih0 := impl_Puzzle_moved.mono_l k
  ·intro y0 y1 y2 y3 y4 y5 y6 y7 y8 y9 y10 y11 y12 y13
   unfold impl_Puzzle_moved.j0
   repeat' first
   | (with_reducible exact ih0 _ _ _ _ _ _ _ _ _ _ _ _ _ _)
   | (with_reducible exact LeO.refl _)
   | (with_reducible exact LeO.none _)
   | (with_reducible refine LeO.ite ?_ ?_)
   | (with_reducible refine LeO.bind ?_ (fun _ => ?_))
   | exact ih0 _ _ _ _ _ _ _ _ _ _ _ _ _ _
   | exact LeO.none _
   | refine LeO.ite ?_ ?_
   | refine LeO.bind ?_ (fun _ => ?_)
theorem impl_Puzzle_moved.mono : ∀ a0 a1 a2 a3 a4 a5 a6 a7 a8 a9 a10 a11 a12 k, LeO (impl_Puzzle_moved.f k a0 a1 a2 a3 a4 a5 a6 a7 a8 a9 a10 a11 a12) (impl_Puzzle_moved.f (k + 1) a0 a1 a2 a3 a4 a5 a6 a7 a8 a9 a10 a11 a12) := by
 intro a0 a1 a2 a3 a4 a5 a6 a7 a8 a9 a10 a11 a12 k
 have ih0 := impl_Puzzle_moved.mono_l k
 unfold impl_Puzzle_moved.f
 repeat' first
   | (with_reducible exact ih0 _ _ _ _ _ _ _ _ _ _ _ _ _ _)
   | (with_reducible exact LeO.refl _)
   | (with_reducible exact LeO.none _)
   | (with_reducible refine LeO.ite ?_ ?_)
   | (with_reducible refine LeO.bind ?_ (fun _ => ?_))
   | exact ih0 _ _ _ _ _ _ _ _ _ _ _ _ _ _
   | exact LeO.none _
   | refine LeO.ite ?_ ?_
   | refine LeO.bind ?_ (fun _ => ?_)
def impl_Puzzle_moved.T12 : Bool × List (List Nat × List Nat) := (true, [([], []), ([], []), ([1], [1]), ([2], [2]), ([3], [3]), ([3], [3]), ([4, 5, 3], [3, 4, 5]), ([3, 6], [3, 6]), ([0, 3, 0], [0]), ([7, 8, 0, 1, 2, 3, 4, 5, 6, 7, 8], [7])])
def impl_Puzzle_moved.B12 : List Nat := [0, 0, 2, 6, 14, 14, 62, 126, 15, 511]
theorem impl_Puzzle_moved.tab12 : rtab .any (opsOf Try.f87 12) = impl_Puzzle_moved.T12 := by kernel_rfl
theorem impl_Puzzle_moved.bits12 : waitsOk impl_Puzzle_moved.T12.2 impl_Puzzle_moved.B12 = true := by kernel_rfl
set_option maxHeartbeats 8000000 in
set_option maxRecDepth 100000 in
theorem impl_Puzzle_moved.calls (k : Nat) (A0_0 : Option Addr) (c0_0 : Nat) (l0_0 : List Int) (a0_1 : Int) (a0_2 : Int) (a0_3 : Int) (a0_4 : Int) (a0_5 : Bool) (a1_0 : Int) (a1_1 : Int) (a1_2 : Int) (a1_3 : Int) (a2_0 : Int) (a2_1 : Int) (a2_2 : Int) (r1 : Int) (r2 : Int) (r3 : Int) (r4 : Int) (r5 : Bool) (w : World) (hr0_0 : Kd.C (Kd.int .i16) w A0_0 l0_0.length l0_0) (hc0_0 : l0_0.length ≤ c0_0) (h : impl_Puzzle_moved.f k l0_0 a0_1 a0_2 a0_3 a0_4 a0_5 a1_0 a1_1 a1_2 a1_3 a2_0 a2_1 a2_2 = some (r1, r2, r3, r4, r5)) :
  Calls Try.prog 87 #[.agg #[.slice A0_0 l0_0.length c0_0, .int .i16 a0_1, .int .i16 a0_2, .int .i16 a0_3, .int .i16 a0_4, .bool a0_5], .agg #[.int .i16 a1_0, .int .i16 a1_1, .int .i16 a1_2, .int .i16 a1_3], .agg #[.int .i8 a2_0, .int .i8 a2_1, .int .i8 a2_2]] w fun e w' => e = .returned (.tuple #[.agg #[.int .i16 r1, .int .i16 r2, .int .i16 r3, .int .i16 r4], .bool r5]) ∧ Below w.heap.size w w' := by
 have hu32 := Try.underlying32
 have hu30 := Try.underlying30
 have hu60 := Try.underlying60
 have HR0_0 := Aside0.mk hr0_0
 have HC0_0 := Aside0.mk hc0_0
 clear hr0_0 hc0_0
 have HB := A_ (Below.refl w.heap.size w)
 have H : (if a2_0 = 0 then (if 0 ≤ a2_1 then (if a2_1 < 4 then (if 0 ≤ a2_2 then (if a2_2 < (l0_0.length : Int) then (if a2_2 < 4 then (if a2_1 = a2_2 then (some (aup a2_2 0 (IntKind.i16.wrap ((rd [aup a2_1 0 (IntKind.i16.wrap ((rd [a1_0, a1_1, a1_2, a1_3] a2_1) - (mn (rd [a1_0, a1_1, a1_2, a1_3] a2_1) (IntKind.i16.wrap ((rd l0_0 a2_2) - (rd [a1_0, a1_1, a1_2, a1_3] a2_2)))))) a1_0, aup a2_1 1 (IntKind.i16.wrap ((rd [a1_0, a1_1, a1_2, a1_3] a2_1) - (mn (rd [a1_0, a1_1, a1_2, a1_3] a2_1) (IntKind.i16.wrap ((rd l0_0 a2_2) - (rd [a1_0, a1_1, a1_2, a1_3] a2_2)))))) a1_1, aup a2_1 2 (IntKind.i16.wrap ((rd [a1_0, a1_1, a1_2, a1_3] a2_1) - (mn (rd [a1_0, a1_1, a1_2, a1_3] a2_1) (IntKind.i16.wrap ((rd l0_0 a2_2) - (rd [a1_0, a1_1, a1_2, a1_3] a2_2)))))) a1_2, aup a2_1 3 (IntKind.i16.wrap ((rd [a1_0, a1_1, a1_2, a1_3] a2_1) - (mn (rd [a1_0, a1_1, a1_2, a1_3] a2_1) (IntKind.i16.wrap ((rd l0_0 a2_2) - (rd [a1_0, a1_1, a1_2, a1_3] a2_2)))))) a1_3] a2_2) + (mn (rd [a1_0, a1_1, a1_2, a1_3] a2_1) (IntKind.i16.wrap ((rd l0_0 a2_2) - (rd [a1_0, a1_1, a1_2, a1_3] a2_2)))))) (aup a2_1 0 (IntKind.i16.wrap ((rd [a1_0, a1_1, a1_2, a1_3] a2_1) - (mn (rd [a1_0, a1_1, a1_2, a1_3] a2_1) (IntKind.i16.wrap ((rd l0_0 a2_2) - (rd [a1_0, a1_1, a1_2, a1_3] a2_2)))))) a1_0), aup a2_2 1 (IntKind.i16.wrap ((rd [aup a2_1 0 (IntKind.i16.wrap ((rd [a1_0, a1_1, a1_2, a1_3] a2_1) - (mn (rd [a1_0, a1_1, a1_2, a1_3] a2_1) (IntKind.i16.wrap ((rd l0_0 a2_2) - (rd [a1_0, a1_1, a1_2, a1_3] a2_2)))))) a1_0, aup a2_1 1 (IntKind.i16.wrap ((rd [a1_0, a1_1, a1_2, a1_3] a2_1) - (mn (rd [a1_0, a1_1, a1_2, a1_3] a2_1) (IntKind.i16.wrap ((rd l0_0 a2_2) - (rd [a1_0, a1_1, a1_2, a1_3] a2_2)))))) a1_1, aup a2_1 2 (IntKind.i16.wrap ((rd [a1_0, a1_1, a1_2, a1_3] a2_1) - (mn (rd [a1_0, a1_1, a1_2, a1_3] a2_1) (IntKind.i16.wrap ((rd l0_0 a2_2) - (rd [a1_0, a1_1, a1_2, a1_3] a2_2)))))) a1_2, aup a2_1 3 (IntKind.i16.wrap ((rd [a1_0, a1_1, a1_2, a1_3] a2_1) - (mn (rd [a1_0, a1_1, a1_2, a1_3] a2_1) (IntKind.i16.wrap ((rd l0_0 a2_2) - (rd [a1_0, a1_1, a1_2, a1_3] a2_2)))))) a1_3] a2_2) + (mn (rd [a1_0, a1_1, a1_2, a1_3] a2_1) (IntKind.i16.wrap ((rd l0_0 a2_2) - (rd [a1_0, a1_1, a1_2, a1_3] a2_2)))))) (aup a2_1 1 (IntKind.i16.wrap ((rd [a1_0, a1_1, a1_2, a1_3] a2_1) - (mn (rd [a1_0, a1_1, a1_2, a1_3] a2_1) (IntKind.i16.wrap ((rd l0_0 a2_2) - (rd [a1_0, a1_1, a1_2, a1_3] a2_2)))))) a1_1), aup a2_2 2 (IntKind.i16.wrap ((rd [aup a2_1 0 (IntKind.i16.wrap ((rd [a1_0, a1_1, a1_2, a1_3] a2_1) - (mn (rd [a1_0, a1_1, a1_2, a1_3] a2_1) (IntKind.i16.wrap ((rd l0_0 a2_2) - (rd [a1_0, a1_1, a1_2, a1_3] a2_2)))))) a1_0, aup a2_1 1 (IntKind.i16.wrap ((rd [a1_0, a1_1, a1_2, a1_3] a2_1) - (mn (rd [a1_0, a1_1, a1_2, a1_3] a2_1) (IntKind.i16.wrap ((rd l0_0 a2_2) - (rd [a1_0, a1_1, a1_2, a1_3] a2_2)))))) a1_1, aup a2_1 2 (IntKind.i16.wrap ((rd [a1_0, a1_1, a1_2, a1_3] a2_1) - (mn (rd [a1_0, a1_1, a1_2, a1_3] a2_1) (IntKind.i16.wrap ((rd l0_0 a2_2) - (rd [a1_0, a1_1, a1_2, a1_3] a2_2)))))) a1_2, aup a2_1 3 (IntKind.i16.wrap ((rd [a1_0, a1_1, a1_2, a1_3] a2_1) - (mn (rd [a1_0, a1_1, a1_2, a1_3] a2_1) (IntKind.i16.wrap ((rd l0_0 a2_2) - (rd [a1_0, a1_1, a1_2, a1_3] a2_2)))))) a1_3] a2_2) + (mn (rd [a1_0, a1_1, a1_2, a1_3] a2_1) (IntKind.i16.wrap ((rd l0_0 a2_2) - (rd [a1_0, a1_1, a1_2, a1_3] a2_2)))))) (aup a2_1 2 (IntKind.i16.wrap ((rd [a1_0, a1_1, a1_2, a1_3] a2_1) - (mn (rd [a1_0, a1_1, a1_2, a1_3] a2_1) (IntKind.i16.wrap ((rd l0_0 a2_2) - (rd [a1_0, a1_1, a1_2, a1_3] a2_2)))))) a1_2), aup a2_2 3 (IntKind.i16.wrap ((rd [aup a2_1 0 (IntKind.i16.wrap ((rd [a1_0, a1_1, a1_2, a1_3] a2_1) - (mn (rd [a1_0, a1_1, a1_2, a1_3] a2_1) (IntKind.i16.wrap ((rd l0_0 a2_2) - (rd [a1_0, a1_1, a1_2, a1_3] a2_2)))))) a1_0, aup a2_1 1 (IntKind.i16.wrap ((rd [a1_0, a1_1, a1_2, a1_3] a2_1) - (mn (rd [a1_0, a1_1, a1_2, a1_3] a2_1) (IntKind.i16.wrap ((rd l0_0 a2_2) - (rd [a1_0, a1_1, a1_2, a1_3] a2_2)))))) a1_1, aup a2_1 2 (IntKind.i16.wrap ((rd [a1_0, a1_1, a1_2, a1_3] a2_1) - (mn (rd [a1_0, a1_1, a1_2, a1_3] a2_1) (IntKind.i16.wrap ((rd l0_0 a2_2) - (rd [a1_0, a1_1, a1_2, a1_3] a2_2)))))) a1_2, aup a2_1 3 (IntKind.i16.wrap ((rd [a1_0, a1_1, a1_2, a1_3] a2_1) - (mn (rd [a1_0, a1_1, a1_2, a1_3] a2_1) (IntKind.i16.wrap ((rd l0_0 a2_2) - (rd [a1_0, a1_1, a1_2, a1_3] a2_2)))))) a1_3] a2_2) + (mn (rd [a1_0, a1_1, a1_2, a1_3] a2_1) (IntKind.i16.wrap ((rd l0_0 a2_2) - (rd [a1_0, a1_1, a1_2, a1_3] a2_2)))))) (aup a2_1 3 (IntKind.i16.wrap ((rd [a1_0, a1_1, a1_2, a1_3] a2_1) - (mn (rd [a1_0, a1_1, a1_2, a1_3] a2_1) (IntKind.i16.wrap ((rd l0_0 a2_2) - (rd [a1_0, a1_1, a1_2, a1_3] a2_2)))))) a1_3), false)) else (some (aup a2_2 0 (IntKind.i16.wrap ((rd [aup a2_1 0 (IntKind.i16.wrap ((rd [a1_0, a1_1, a1_2, a1_3] a2_1) - (mn (rd [a1_0, a1_1, a1_2, a1_3] a2_1) (IntKind.i16.wrap ((rd l0_0 a2_2) - (rd [a1_0, a1_1, a1_2, a1_3] a2_2)))))) a1_0, aup a2_1 1 (IntKind.i16.wrap ((rd [a1_0, a1_1, a1_2, a1_3] a2_1) - (mn (rd [a1_0, a1_1, a1_2, a1_3] a2_1) (IntKind.i16.wrap ((rd l0_0 a2_2) - (rd [a1_0, a1_1, a1_2, a1_3] a2_2)))))) a1_1, aup a2_1 2 (IntKind.i16.wrap ((rd [a1_0, a1_1, a1_2, a1_3] a2_1) - (mn (rd [a1_0, a1_1, a1_2, a1_3] a2_1) (IntKind.i16.wrap ((rd l0_0 a2_2) - (rd [a1_0, a1_1, a1_2, a1_3] a2_2)))))) a1_2, aup a2_1 3 (IntKind.i16.wrap ((rd [a1_0, a1_1, a1_2, a1_3] a2_1) - (mn (rd [a1_0, a1_1, a1_2, a1_3] a2_1) (IntKind.i16.wrap ((rd l0_0 a2_2) - (rd [a1_0, a1_1, a1_2, a1_3] a2_2)))))) a1_3] a2_2) + (mn (rd [a1_0, a1_1, a1_2, a1_3] a2_1) (IntKind.i16.wrap ((rd l0_0 a2_2) - (rd [a1_0, a1_1, a1_2, a1_3] a2_2)))))) (aup a2_1 0 (IntKind.i16.wrap ((rd [a1_0, a1_1, a1_2, a1_3] a2_1) - (mn (rd [a1_0, a1_1, a1_2, a1_3] a2_1) (IntKind.i16.wrap ((rd l0_0 a2_2) - (rd [a1_0, a1_1, a1_2, a1_3] a2_2)))))) a1_0), aup a2_2 1 (IntKind.i16.wrap ((rd [aup a2_1 0 (IntKind.i16.wrap ((rd [a1_0, a1_1, a1_2, a1_3] a2_1) - (mn (rd [a1_0, a1_1, a1_2, a1_3] a2_1) (IntKind.i16.wrap ((rd l0_0 a2_2) - (rd [a1_0, a1_1, a1_2, a1_3] a2_2)))))) a1_0, aup a2_1 1 (IntKind.i16.wrap ((rd [a1_0, a1_1, a1_2, a1_3] a2_1) - (mn (rd [a1_0, a1_1, a1_2, a1_3] a2_1) (IntKind.i16.wrap ((rd l0_0 a2_2) - (rd [a1_0, a1_1, a1_2, a1_3] a2_2)))))) a1_1, aup a2_1 2 (IntKind.i16.wrap ((rd [a1_0, a1_1, a1_2, a1_3] a2_1) - (mn (rd [a1_0, a1_1, a1_2, a1_3] a2_1) (IntKind.i16.wrap ((rd l0_0 a2_2) - (rd [a1_0, a1_1, a1_2, a1_3] a2_2)))))) a1_2, aup a2_1 3 (IntKind.i16.wrap ((rd [a1_0, a1_1, a1_2, a1_3] a2_1) - (mn (rd [a1_0, a1_1, a1_2, a1_3] a2_1) (IntKind.i16.wrap ((rd l0_0 a2_2) - (rd [a1_0, a1_1, a1_2, a1_3] a2_2)))))) a1_3] a2_2) + (mn (rd [a1_0, a1_1, a1_2, a1_3] a2_1) (IntKind.i16.wrap ((rd l0_0 a2_2) - (rd [a1_0, a1_1, a1_2, a1_3] a2_2)))))) (aup a2_1 1 (IntKind.i16.wrap ((rd [a1_0, a1_1, a1_2, a1_3] a2_1) - (mn (rd [a1_0, a1_1, a1_2, a1_3] a2_1) (IntKind.i16.wrap ((rd l0_0 a2_2) - (rd [a1_0, a1_1, a1_2, a1_3] a2_2)))))) a1_1), aup a2_2 2 (IntKind.i16.wrap ((rd [aup a2_1 0 (IntKind.i16.wrap ((rd [a1_0, a1_1, a1_2, a1_3] a2_1) - (mn (rd [a1_0, a1_1, a1_2, a1_3] a2_1) (IntKind.i16.wrap ((rd l0_0 a2_2) - (rd [a1_0, a1_1, a1_2, a1_3] a2_2)))))) a1_0, aup a2_1 1 (IntKind.i16.wrap ((rd [a1_0, a1_1, a1_2, a1_3] a2_1) - (mn (rd [a1_0, a1_1, a1_2, a1_3] a2_1) (IntKind.i16.wrap ((rd l0_0 a2_2) - (rd [a1_0, a1_1, a1_2, a1_3] a2_2)))))) a1_1, aup a2_1 2 (IntKind.i16.wrap ((rd [a1_0, a1_1, a1_2, a1_3] a2_1) - (mn (rd [a1_0, a1_1, a1_2, a1_3] a2_1) (IntKind.i16.wrap ((rd l0_0 a2_2) - (rd [a1_0, a1_1, a1_2, a1_3] a2_2)))))) a1_2, aup a2_1 3 (IntKind.i16.wrap ((rd [a1_0, a1_1, a1_2, a1_3] a2_1) - (mn (rd [a1_0, a1_1, a1_2, a1_3] a2_1) (IntKind.i16.wrap ((rd l0_0 a2_2) - (rd [a1_0, a1_1, a1_2, a1_3] a2_2)))))) a1_3] a2_2) + (mn (rd [a1_0, a1_1, a1_2, a1_3] a2_1) (IntKind.i16.wrap ((rd l0_0 a2_2) - (rd [a1_0, a1_1, a1_2, a1_3] a2_2)))))) (aup a2_1 2 (IntKind.i16.wrap ((rd [a1_0, a1_1, a1_2, a1_3] a2_1) - (mn (rd [a1_0, a1_1, a1_2, a1_3] a2_1) (IntKind.i16.wrap ((rd l0_0 a2_2) - (rd [a1_0, a1_1, a1_2, a1_3] a2_2)))))) a1_2), aup a2_2 3 (IntKind.i16.wrap ((rd [aup a2_1 0 (IntKind.i16.wrap ((rd [a1_0, a1_1, a1_2, a1_3] a2_1) - (mn (rd [a1_0, a1_1, a1_2, a1_3] a2_1) (IntKind.i16.wrap ((rd l0_0 a2_2) - (rd [a1_0, a1_1, a1_2, a1_3] a2_2)))))) a1_0, aup a2_1 1 (IntKind.i16.wrap ((rd [a1_0, a1_1, a1_2, a1_3] a2_1) - (mn (rd [a1_0, a1_1, a1_2, a1_3] a2_1) (IntKind.i16.wrap ((rd l0_0 a2_2) - (rd [a1_0, a1_1, a1_2, a1_3] a2_2)))))) a1_1, aup a2_1 2 (IntKind.i16.wrap ((rd [a1_0, a1_1, a1_2, a1_3] a2_1) - (mn (rd [a1_0, a1_1, a1_2, a1_3] a2_1) (IntKind.i16.wrap ((rd l0_0 a2_2) - (rd [a1_0, a1_1, a1_2, a1_3] a2_2)))))) a1_2, aup a2_1 3 (IntKind.i16.wrap ((rd [a1_0, a1_1, a1_2, a1_3] a2_1) - (mn (rd [a1_0, a1_1, a1_2, a1_3] a2_1) (IntKind.i16.wrap ((rd l0_0 a2_2) - (rd [a1_0, a1_1, a1_2, a1_3] a2_2)))))) a1_3] a2_2) + (mn (rd [a1_0, a1_1, a1_2, a1_3] a2_1) (IntKind.i16.wrap ((rd l0_0 a2_2) - (rd [a1_0, a1_1, a1_2, a1_3] a2_2)))))) (aup a2_1 3 (IntKind.i16.wrap ((rd [a1_0, a1_1, a1_2, a1_3] a2_1) - (mn (rd [a1_0, a1_1, a1_2, a1_3] a2_1) (IntKind.i16.wrap ((rd l0_0 a2_2) - (rd [a1_0, a1_1, a1_2, a1_3] a2_2)))))) a1_3), decide ((mn (rd [a1_0, a1_1, a1_2, a1_3] a2_1) (IntKind.i16.wrap ((rd l0_0 a2_2) - (rd [a1_0, a1_1, a1_2, a1_3] a2_2)))) > 0)))) else (none)) else (none)) else (none)) else (none)) else (none)) else (if a2_0 = 1 then (if 0 ≤ a2_1 then (if a2_1 < (l0_0.length : Int) then (if a2_1 < 4 then (impl_Puzzle_moved.j0 k l0_0 a0_1 a0_2 a0_3 a0_4 a0_5 a1_0 a1_1 a1_2 a1_3 (aup a2_1 0 (rd l0_0 a2_1) a1_0) (aup a2_1 1 (rd l0_0 a2_1) a1_1) (aup a2_1 2 (rd l0_0 a2_1) a1_2) (aup a2_1 3 (rd l0_0 a2_1) a1_3)) else (none)) else (none)) else (none)) else (if a2_0 = 2 then (if 0 ≤ a2_1 then (if a2_1 < 4 then (impl_Puzzle_moved.j0 k l0_0 a0_1 a0_2 a0_3 a0_4 a0_5 a1_0 a1_1 a1_2 a1_3 (aup a2_1 0 0 a1_0) (aup a2_1 1 0 a1_1) (aup a2_1 2 0 a1_2) (aup a2_1 3 0 a1_3)) else (none)) else (none)) else (impl_Puzzle_moved.j0 k l0_0 a0_1 a0_2 a0_3 a0_4 a0_5 a1_0 a1_1 a1_2 a1_3 a1_0 a1_1 a1_2 a1_3)))) = some (r1, r2, r3, r4, r5) := h
 clear h
 have HC4 := Aside0.mk H
 clear H
 go_enter Try.func87, Try.ntmps87
 go_upto_block 0 with (first | ((with_reducible refine gate_dst (N := 3) rfl ?_); refine box_event ?hg (N := 3) ?hd (cs := #[.slice A0_0 l0_0.length c0_0, .int .i16 a0_1, .int .i16 a0_2, .int .i16 a0_3, .int .i16 a0_4, .bool a0_5]) (t := 32) ?hr ?_; (case hd => rfl); (case hg => rfl); (case hr => first | (go_simp; done) | (go_simp; rfl)); intro gb224 hg w5 hbox hb; have n0_ := A_ (below_step (bl_ HB) hb); have n1_ := A_ (hbox); have n2_ := A_ ((by rw [hg]; exact (below_size (bl_ HB)) : w.heap.size ≤ gb224)); have n3_ := n2_; clear HB; have HB := n0_; have BK224 := n1_; have GW224 := n2_; have GE224 := n3_; clear n0_ n1_ n2_ n3_; clear hb hbox hg) | ((with_reducible refine gate_dst (N := 4) rfl ?_); refine box_event ?hg (N := 4) ?hd (cs := #[.int .i16 a1_0, .int .i16 a1_1, .int .i16 a1_2, .int .i16 a1_3]) (t := 30) ?hr ?_; (case hd => rfl); (case hg => rfl); (case hr => first | (go_simp; done) | (go_simp; rfl)); intro gb225 hg w6 hbox hb; have n0_ := A_ (blk_below (pl_ BK224) hb); have n1_ := A_ (below_step (bl_ HB) hb); have n2_ := A_ (hbox); have n3_ := A_ ((by rw [hg]; exact (below_size (bl_ HB)) : w.heap.size ≤ gb225)); have n4_ := n3_; have n5_ := A_ ((by rw [hg]; exact Nat.ne_of_lt (blk_lt (pl_ BK224)) : gb224 ≠ gb225)); have n6_ := Aside0.mk n5_.out.symm; clear BK224; clear HB; have BK224 := n0_; have HB := n1_; have BK225 := n2_; have GW225 := n3_; have GE225 := n4_; have NB224_225 := n5_; have NB225_224 := n6_; clear n0_ n1_ n2_ n3_ n4_ n5_ n6_; clear hb hbox hg) | ((with_reducible refine gate_dst (N := 5) rfl ?_); refine box_event ?hg (N := 5) ?hd (cs := #[.int .i8 a2_0, .int .i8 a2_1, .int .i8 a2_2]) (t := 60) ?hr ?_; (case hd => rfl); (case hg => rfl); (case hr => first | (go_simp; done) | (go_simp; rfl)); intro gb226 hg w7 hbox hb; have n0_ := A_ (blk_below (pl_ BK224) hb); have n1_ := A_ (blk_below (pl_ BK225) hb); have n2_ := A_ (below_step (bl_ HB) hb); have n3_ := A_ (hbox); have n4_ := A_ ((by rw [hg]; exact (below_size (bl_ HB)) : w.heap.size ≤ gb226)); have n5_ := n4_; have n6_ := A_ ((by rw [hg]; exact Nat.ne_of_lt (blk_lt (pl_ BK224)) : gb224 ≠ gb226)); have n7_ := Aside0.mk n6_.out.symm; have n8_ := A_ ((by rw [hg]; exact Nat.ne_of_lt (blk_lt (pl_ BK225)) : gb225 ≠ gb226)); have n9_ := Aside0.mk n8_.out.symm; clear BK224; clear BK225; clear HB; have BK224 := n0_; have BK225 := n1_; have HB := n2_; have BK226 := n3_; have GW226 := n4_; have GE226 := n5_; have NB224_226 := n6_; have NB226_224 := n7_; have NB225_226 := n8_; have NB226_225 := n9_; clear n0_ n1_ n2_ n3_ n4_ n5_ n6_ n7_ n8_ n9_; clear hb hbox hg) | ((with_reducible refine gate_dst (N := 6) rfl ?_); refine box_event ?hg (N := 6) ?hd (cs := #[.int .i16 0, .int .i16 0, .int .i16 0, .int .i16 0]) (t := 30) ?hr ?_; (case hd => rfl); (case hg => rfl); (case hr => first | (go_simp; done) | (go_simp; rfl)); intro gb227 hg w8 hbox hb; have n0_ := A_ (blk_below (pl_ BK224) hb); have n1_ := A_ (blk_below (pl_ BK225) hb); have n2_ := A_ (blk_below (pl_ BK226) hb); have n3_ := A_ (below_step (bl_ HB) hb); have n4_ := A_ (hbox); have n5_ := A_ ((by rw [hg]; exact (below_size (bl_ HB)) : w.heap.size ≤ gb227)); have n6_ := n5_; have n7_ := A_ ((by rw [hg]; exact Nat.ne_of_lt (blk_lt (pl_ BK224)) : gb224 ≠ gb227)); have n8_ := Aside0.mk n7_.out.symm; have n9_ := A_ ((by rw [hg]; exact Nat.ne_of_lt (blk_lt (pl_ BK225)) : gb225 ≠ gb227)); have n10_ := Aside0.mk n9_.out.symm; have n11_ := A_ ((by rw [hg]; exact Nat.ne_of_lt (blk_lt (pl_ BK226)) : gb226 ≠ gb227)); have n12_ := Aside0.mk n11_.out.symm; clear BK224; clear BK225; clear BK226; clear HB; have BK224 := n0_; have BK225 := n1_; have BK226 := n2_; have HB := n3_; have BK227 := n4_; have GW227 := n5_; have GE227 := n6_; have NB224_227 := n7_; have NB227_224 := n8_; have NB225_227 := n9_; have NB227_225 := n10_; have NB226_227 := n11_; have NB227_226 := n12_; clear n0_ n1_ n2_ n3_ n4_ n5_ n6_ n7_ n8_ n9_ n10_ n11_ n12_; clear hb hbox hg; have hnb9 := NB225_224.out; have hnc9 := NB224_225.out; have hnb10 := NB225_226.out; have hnc10 := NB226_225.out; have hnb11 := NB225_227.out; have hnc11 := NB227_225.out; obtain ⟨hcz12_0, hcz12_1, hcz12_2, hcz12_3, hfz12_0, hfz12_1, hfz12_2, hfz12_3⟩ := cl4_ BK225) | ((with_reducible refine gate_dst (N := 8) rfl ?_); refine box_event ?hg (N := 8) ?hd (cs := #[.int .i16 0, .int .i16 0, .int .i16 0, .int .i16 0]) (t := 30) ?hr ?_; (case hd => rfl); (case hg => rfl); (case hr => first | (go_simp; done) | (go_simp; rfl)); intro gb228 hg w13 hbox hb; have n0_ := A_ (blk_below (pl_ BK224) hb); have n1_ := A_ (blk_below (pl_ BK225) hb); have n2_ := A_ (blk_below (pl_ BK226) hb); have n3_ := A_ (blk_below (pl_ BK227) hb); have n4_ := A_ (below_step (bl_ HB) hb); have n5_ := A_ (hbox); have n6_ := A_ ((by rw [hg]; exact (below_size (bl_ HB)) : w.heap.size ≤ gb228)); have n7_ := n6_; have n8_ := A_ ((by rw [hg]; exact Nat.ne_of_lt (blk_lt (pl_ BK224)) : gb224 ≠ gb228)); have n9_ := Aside0.mk n8_.out.symm; have n10_ := A_ ((by rw [hg]; exact Nat.ne_of_lt (blk_lt (pl_ BK225)) : gb225 ≠ gb228)); have n11_ := Aside0.mk n10_.out.symm; have n12_ := A_ ((by rw [hg]; exact Nat.ne_of_lt (blk_lt (pl_ BK226)) : gb226 ≠ gb228)); have n13_ := Aside0.mk n12_.out.symm; have n14_ := A_ ((by rw [hg]; exact Nat.ne_of_lt (blk_lt (pl_ BK227)) : gb227 ≠ gb228)); have n15_ := Aside0.mk n14_.out.symm; clear BK224; clear BK225; clear BK226; clear BK227; clear HB; have BK224 := n0_; have BK225 := n1_; have BK226 := n2_; have BK227 := n3_; have HB := n4_; have BK228 := n5_; have GW228 := n6_; have GE228 := n7_; have NB224_228 := n8_; have NB228_224 := n9_; have NB225_228 := n10_; have NB228_225 := n11_; have NB226_228 := n12_; have NB228_226 := n13_; have NB227_228 := n14_; have NB228_227 := n15_; clear n0_ n1_ n2_ n3_ n4_ n5_ n6_ n7_ n8_ n9_ n10_ n11_ n12_ n13_ n14_ n15_; clear hb hbox hg; have hnb14 := NB228_224.out; have hnc14 := NB224_228.out; have hnb15 := NB228_225.out; have hnc15 := NB225_228.out; have hnb16 := NB228_226.out; have hnc16 := NB226_228.out; have hnb17 := NB228_227.out; have hnc17 := NB227_228.out; obtain ⟨hcz18_0, hcz18_1, hcz18_2, hcz18_3, hfz18_0, hfz18_1, hfz18_2, hfz18_3⟩ := cl4_ BK228; have hnb19 := NB226_224.out; have hnc19 := NB224_226.out; have hnb20 := NB226_227.out; have hnc20 := NB227_226.out; obtain ⟨hcz21_0, hcz21_1, hcz21_2, hfz21_0, hfz21_1, hfz21_2⟩ := cl3_ BK226))
 (try simp only [Act.put, List.setIfInBounds_toArray, List.set_cons_zero, List.set_cons_succ])
 go_cut [] (fun wc => ∃ (kq : Nat) (x228000_3 : Int) (x228001_3 : Int) (x228002_3 : Int) (x228003_3 : Int) (x229000_3 : Int) (x229001_3 : Int) (x229002_3 : Int) (x229003_3 : Int), Aside0 (impl_Puzzle_moved.j0 kq l0_0 a0_1 a0_2 a0_3 a0_4 a0_5 a1_0 a1_1 a1_2 a1_3 x229000_3 x229001_3 x229002_3 x229003_3 = some (r1, r2, r3, r4, r5)) ∧ Aside0 (kq ≤ k) ∧ Aside0 (wc.heap[gb224]? = some (.cells #[(.slice A0_0 l0_0.length c0_0), .int .i16 a0_1, .int .i16 a0_2, .int .i16 a0_3, .int .i16 a0_4, .bool a0_5] 32 (0, 0))) ∧ Aside0 (wc.heap[gb225]? = some (.cells #[.int .i16 a1_0, .int .i16 a1_1, .int .i16 a1_2, .int .i16 a1_3] 30 (0, 0))) ∧ Aside0 (wc.heap[gb226]? = some (.cells #[.int .i8 a2_0, .int .i8 a2_1, .int .i8 a2_2] 60 (0, 0))) ∧ Aside0 (wc.heap[gb227]? = some (.cells #[.int .i16 x228000_3, .int .i16 x228001_3, .int .i16 x228002_3, .int .i16 x228003_3] 30 (0, 0))) ∧ Aside0 (wc.heap[gb228]? = some (.cells #[.int .i16 x229000_3, .int .i16 x229001_3, .int .i16 x229002_3, .int .i16 x229003_3] 30 (0, 0))) ∧ Aside0 (Below w.heap.size w wc))
 case first =>
  have H := HC4.out
  clear HC4
  by_cases c22 : a2_0 = 0
  ·rw [if_pos c22] at H
   have c22b0 : (a2_0 == 0) = true := beq_iff_eq.mpr c22
   have c22b1 : (a2_0 != 0) = false := bne_eq_false_iff_eq.mpr c22
   clear c22
   (first | rw [c22b0] | (simp only [i64_w, i32_w]; rw [c22b0]) | skip)
   by_cases c24 : 0 ≤ a2_1
   ·rw [if_pos c24] at H
    have c24b0 : decide (0 ≤ a2_1) = true := decide_eq_true c24
    clear c24
    by_cases c25 : a2_1 < 4
    ·rw [if_pos c25] at H
     have c25b0 : decide (a2_1 < 4) = true := decide_eq_true c25
     clear c25
     by_cases c27 : 0 ≤ a2_2
     ·rw [if_pos c27] at H
      have c27b0 : decide (0 ≤ a2_2) = true := decide_eq_true c27
      clear c27
      by_cases c28 : a2_2 < (l0_0.length : Int)
      ·rw [if_pos c28] at H
       have c28b0 : decide (a2_2 < (l0_0.length : Int)) = true := decide_eq_true c28
       clear c28
       by_cases c29 : a2_2 < 4
       ·rw [if_pos c29] at H
        have c29b0 : decide (a2_2 < 4) = true := decide_eq_true c29
        clear c29
        obtain ⟨ji31, hji31⟩ : ∃ j_ : Int, (mn (rd [a1_0, a1_1, a1_2, a1_3] a2_1) (IntKind.i16.wrap ((rd l0_0 a2_2) - (rd [a1_0, a1_1, a1_2, a1_3] a2_2)))) = j_ := ⟨_, rfl⟩
        replace H : (if a2_1 = a2_2 then (some (aup a2_2 0 (IntKind.i16.wrap ((rd [aup a2_1 0 (IntKind.i16.wrap ((rd [a1_0, a1_1, a1_2, a1_3] a2_1) - (ji31))) a1_0, aup a2_1 1 (IntKind.i16.wrap ((rd [a1_0, a1_1, a1_2, a1_3] a2_1) - (ji31))) a1_1, aup a2_1 2 (IntKind.i16.wrap ((rd [a1_0, a1_1, a1_2, a1_3] a2_1) - (ji31))) a1_2, aup a2_1 3 (IntKind.i16.wrap ((rd [a1_0, a1_1, a1_2, a1_3] a2_1) - (ji31))) a1_3] a2_2) + (ji31))) (aup a2_1 0 (IntKind.i16.wrap ((rd [a1_0, a1_1, a1_2, a1_3] a2_1) - (ji31))) a1_0), aup a2_2 1 (IntKind.i16.wrap ((rd [aup a2_1 0 (IntKind.i16.wrap ((rd [a1_0, a1_1, a1_2, a1_3] a2_1) - (ji31))) a1_0, aup a2_1 1 (IntKind.i16.wrap ((rd [a1_0, a1_1, a1_2, a1_3] a2_1) - (ji31))) a1_1, aup a2_1 2 (IntKind.i16.wrap ((rd [a1_0, a1_1, a1_2, a1_3] a2_1) - (ji31))) a1_2, aup a2_1 3 (IntKind.i16.wrap ((rd [a1_0, a1_1, a1_2, a1_3] a2_1) - (ji31))) a1_3] a2_2) + (ji31))) (aup a2_1 1 (IntKind.i16.wrap ((rd [a1_0, a1_1, a1_2, a1_3] a2_1) - (ji31))) a1_1), aup a2_2 2 (IntKind.i16.wrap ((rd [aup a2_1 0 (IntKind.i16.wrap ((rd [a1_0, a1_1, a1_2, a1_3] a2_1) - (ji31))) a1_0, aup a2_1 1 (IntKind.i16.wrap ((rd [a1_0, a1_1, a1_2, a1_3] a2_1) - (ji31))) a1_1, aup a2_1 2 (IntKind.i16.wrap ((rd [a1_0, a1_1, a1_2, a1_3] a2_1) - (ji31))) a1_2, aup a2_1 3 (IntKind.i16.wrap ((rd [a1_0, a1_1, a1_2, a1_3] a2_1) - (ji31))) a1_3] a2_2) + (ji31))) (aup a2_1 2 (IntKind.i16.wrap ((rd [a1_0, a1_1, a1_2, a1_3] a2_1) - (ji31))) a1_2), aup a2_2 3 (IntKind.i16.wrap ((rd [aup a2_1 0 (IntKind.i16.wrap ((rd [a1_0, a1_1, a1_2, a1_3] a2_1) - (ji31))) a1_0, aup a2_1 1 (IntKind.i16.wrap ((rd [a1_0, a1_1, a1_2, a1_3] a2_1) - (ji31))) a1_1, aup a2_1 2 (IntKind.i16.wrap ((rd [a1_0, a1_1, a1_2, a1_3] a2_1) - (ji31))) a1_2, aup a2_1 3 (IntKind.i16.wrap ((rd [a1_0, a1_1, a1_2, a1_3] a2_1) - (ji31))) a1_3] a2_2) + (ji31))) (aup a2_1 3 (IntKind.i16.wrap ((rd [a1_0, a1_1, a1_2, a1_3] a2_1) - (ji31))) a1_3), false)) else (some (aup a2_2 0 (IntKind.i16.wrap ((rd [aup a2_1 0 (IntKind.i16.wrap ((rd [a1_0, a1_1, a1_2, a1_3] a2_1) - (ji31))) a1_0, aup a2_1 1 (IntKind.i16.wrap ((rd [a1_0, a1_1, a1_2, a1_3] a2_1) - (ji31))) a1_1, aup a2_1 2 (IntKind.i16.wrap ((rd [a1_0, a1_1, a1_2, a1_3] a2_1) - (ji31))) a1_2, aup a2_1 3 (IntKind.i16.wrap ((rd [a1_0, a1_1, a1_2, a1_3] a2_1) - (ji31))) a1_3] a2_2) + (ji31))) (aup a2_1 0 (IntKind.i16.wrap ((rd [a1_0, a1_1, a1_2, a1_3] a2_1) - (ji31))) a1_0), aup a2_2 1 (IntKind.i16.wrap ((rd [aup a2_1 0 (IntKind.i16.wrap ((rd [a1_0, a1_1, a1_2, a1_3] a2_1) - (ji31))) a1_0, aup a2_1 1 (IntKind.i16.wrap ((rd [a1_0, a1_1, a1_2, a1_3] a2_1) - (ji31))) a1_1, aup a2_1 2 (IntKind.i16.wrap ((rd [a1_0, a1_1, a1_2, a1_3] a2_1) - (ji31))) a1_2, aup a2_1 3 (IntKind.i16.wrap ((rd [a1_0, a1_1, a1_2, a1_3] a2_1) - (ji31))) a1_3] a2_2) + (ji31))) (aup a2_1 1 (IntKind.i16.wrap ((rd [a1_0, a1_1, a1_2, a1_3] a2_1) - (ji31))) a1_1), aup a2_2 2 (IntKind.i16.wrap ((rd [aup a2_1 0 (IntKind.i16.wrap ((rd [a1_0, a1_1, a1_2, a1_3] a2_1) - (ji31))) a1_0, aup a2_1 1 (IntKind.i16.wrap ((rd [a1_0, a1_1, a1_2, a1_3] a2_1) - (ji31))) a1_1, aup a2_1 2 (IntKind.i16.wrap ((rd [a1_0, a1_1, a1_2, a1_3] a2_1) - (ji31))) a1_2, aup a2_1 3 (IntKind.i16.wrap ((rd [a1_0, a1_1, a1_2, a1_3] a2_1) - (ji31))) a1_3] a2_2) + (ji31))) (aup a2_1 2 (IntKind.i16.wrap ((rd [a1_0, a1_1, a1_2, a1_3] a2_1) - (ji31))) a1_2), aup a2_2 3 (IntKind.i16.wrap ((rd [aup a2_1 0 (IntKind.i16.wrap ((rd [a1_0, a1_1, a1_2, a1_3] a2_1) - (ji31))) a1_0, aup a2_1 1 (IntKind.i16.wrap ((rd [a1_0, a1_1, a1_2, a1_3] a2_1) - (ji31))) a1_1, aup a2_1 2 (IntKind.i16.wrap ((rd [a1_0, a1_1, a1_2, a1_3] a2_1) - (ji31))) a1_2, aup a2_1 3 (IntKind.i16.wrap ((rd [a1_0, a1_1, a1_2, a1_3] a2_1) - (ji31))) a1_3] a2_2) + (ji31))) (aup a2_1 3 (IntKind.i16.wrap ((rd [a1_0, a1_1, a1_2, a1_3] a2_1) - (ji31))) a1_3), decide ((ji31) > 0)))) = some (r1, r2, r3, r4, r5) := by first | (rw [hji31] at H; exact H) | (simp only [hji31] at H ⊢; exact H)
        have hji31_ : (if (IntKind.i16.wrap ((rd l0_0 a2_2) - (rd [a1_0, a1_1, a1_2, a1_3] a2_2))) < (rd [a1_0, a1_1, a1_2, a1_3] a2_1) then (IntKind.i16.wrap ((rd l0_0 a2_2) - (rd [a1_0, a1_1, a1_2, a1_3] a2_2))) else (rd [a1_0, a1_1, a1_2, a1_3] a2_1)) = ji31 := hji31
        by_cases c39 : a2_1 = a2_2
        ·rw [if_pos c39] at H
         have c39b0 : (a2_1 == a2_2) = true := beq_iff_eq.mpr c39
         have c39b1 : (a2_1 != a2_2) = false := bne_eq_false_iff_eq.mpr c39
         clear c39
         simp only [Option.some.injEq, Prod.mk.injEq] at H
         obtain ⟨rfl, rfl, rfl, rfl, rfl⟩ := H
         try go_wp2
         have n0_ : Aside0 (((((w13.setCell ⟨gb228, 0, none⟩ (.int .i16 a1_0)).setCell ⟨gb228, 1, none⟩ (.int .i16 a1_1)).setCell ⟨gb228, 2, none⟩ (.int .i16 a1_2)).setCell ⟨gb228, 3, none⟩ (.int .i16 a1_3)).heap[gb224]? = some (.cells #[.slice A0_0 l0_0.length c0_0, .int .i16 a0_1, .int .i16 a0_2, .int .i16 a0_3, .int .i16 a0_4, .bool a0_5] 32 (0, 0))) := ⟨pf_ BK224 NB224_228⟩
         have n1_ : Aside0 (((((w13.setCell ⟨gb228, 0, none⟩ (.int .i16 a1_0)).setCell ⟨gb228, 1, none⟩ (.int .i16 a1_1)).setCell ⟨gb228, 2, none⟩ (.int .i16 a1_2)).setCell ⟨gb228, 3, none⟩ (.int .i16 a1_3)).heap[gb225]? = some (.cells #[.int .i16 a1_0, .int .i16 a1_1, .int .i16 a1_2, .int .i16 a1_3] 30 (0, 0))) := ⟨pf_ BK225 NB225_228⟩
         have n2_ : Aside0 (((((w13.setCell ⟨gb228, 0, none⟩ (.int .i16 a1_0)).setCell ⟨gb228, 1, none⟩ (.int .i16 a1_1)).setCell ⟨gb228, 2, none⟩ (.int .i16 a1_2)).setCell ⟨gb228, 3, none⟩ (.int .i16 a1_3)).heap[gb226]? = some (.cells #[.int .i8 a2_0, .int .i8 a2_1, .int .i8 a2_2] 60 (0, 0))) := ⟨pf_ BK226 NB226_228⟩
         have n3_ : Aside0 (((((w13.setCell ⟨gb228, 0, none⟩ (.int .i16 a1_0)).setCell ⟨gb228, 1, none⟩ (.int .i16 a1_1)).setCell ⟨gb228, 2, none⟩ (.int .i16 a1_2)).setCell ⟨gb228, 3, none⟩ (.int .i16 a1_3)).heap[gb227]? = some (.cells #[.int .i16 0, .int .i16 0, .int .i16 0, .int .i16 0] 30 (0, 0))) := ⟨pf_ BK227 NB227_228⟩
         have n4_ : Aside0 (((((w13.setCell ⟨gb228, 0, none⟩ (.int .i16 a1_0)).setCell ⟨gb228, 1, none⟩ (.int .i16 a1_1)).setCell ⟨gb228, 2, none⟩ (.int .i16 a1_2)).setCell ⟨gb228, 3, none⟩ (.int .i16 a1_3)).heap[gb228]? = some (.cells #[.int .i16 a1_0, .int .i16 a1_1, .int .i16 a1_2, .int .i16 a1_3] 30 (0, 0))) := ⟨by (with_reducible repeat (first | refine blk_drewN ?_ _ | refine blk_drew ?_ | refine blk_alloc ?_ _)); refine blk_put (cs := #[.int .i16 a1_0, .int .i16 a1_1, .int .i16 a1_2, .int .i16 0]) ?_ 3 _ rfl; (with_reducible repeat (first | refine blk_drewN ?_ _ | refine blk_drew ?_ | refine blk_alloc ?_ _)); refine blk_put (cs := #[.int .i16 a1_0, .int .i16 a1_1, .int .i16 0, .int .i16 0]) ?_ 2 _ rfl; (with_reducible repeat (first | refine blk_drewN ?_ _ | refine blk_drew ?_ | refine blk_alloc ?_ _)); refine blk_put (cs := #[.int .i16 a1_0, .int .i16 0, .int .i16 0, .int .i16 0]) ?_ 1 _ rfl; (with_reducible repeat (first | refine blk_drewN ?_ _ | refine blk_drew ?_ | refine blk_alloc ?_ _)); refine blk_put (cs := #[.int .i16 0, .int .i16 0, .int .i16 0, .int .i16 0]) ?_ 0 _ rfl; (with_reducible repeat (first | refine blk_drewN ?_ _ | refine blk_drew ?_ | refine blk_alloc ?_ _)); exact BK228.out⟩
         have n5_ : Aside0 (Below w.heap.size w ((((w13.setCell ⟨gb228, 0, none⟩ (.int .i16 a1_0)).setCell ⟨gb228, 1, none⟩ (.int .i16 a1_1)).setCell ⟨gb228, 2, none⟩ (.int .i16 a1_2)).setCell ⟨gb228, 3, none⟩ (.int .i16 a1_3))) := ⟨bs_ HB GE228⟩
         (try clear BK224)
         (try clear BK225)
         (try clear BK226)
         (try clear BK227)
         (try clear BK228)
         (try clear HB)
         generalize ((((w13.setCell ⟨gb228, 0, none⟩ (.int .i16 a1_0)).setCell ⟨gb228, 1, none⟩ (.int .i16 a1_1)).setCell ⟨gb228, 2, none⟩ (.int .i16 a1_2)).setCell ⟨gb228, 3, none⟩ (.int .i16 a1_3)) = w40 at n0_ n1_ n2_ n3_ n4_ n5_ ⊢
         have BK224 := n0_
         have BK225 := n1_
         have BK226 := n2_
         have BK227 := n3_
         have BK228 := n4_
         have HB := n5_
         clear n0_ n1_ n2_ n3_ n4_ n5_
         refine wp_region_still_lit (by kernel_rfl) (by kernel_rfl) ?_
         refine still_shown ?_
         have n0_ := A_ (blk_drew BK224.out)
         have n1_ := A_ (blk_drew BK225.out)
         have n2_ := A_ (blk_drew BK226.out)
         have n3_ := A_ (blk_drew BK227.out)
         have n4_ := A_ (blk_drew BK228.out)
         have n5_ := A_ (below_drew1 HB.out)
         clear BK224
         clear BK225
         clear BK226
         clear BK227
         clear BK228
         clear HB
         have BK224 := n0_
         have BK225 := n1_
         have BK226 := n2_
         have BK227 := n3_
         have BK228 := n4_
         have HB := n5_
         clear n0_ n1_ n2_ n3_ n4_ n5_
         generalize w40.drew = w41 at BK224 BK225 BK226 BK227 BK228 HB ⊢
         have hnb42 := NB226_224.out
         have hnc42 := NB224_226.out
         have hnb43 := NB226_225.out
         have hnc43 := NB225_226.out
         have hnb44 := NB226_227.out
         have hnc44 := NB227_226.out
         have hnb45 := NB226_228.out
         have hnc45 := NB228_226.out
         obtain ⟨hcz46_0, hcz46_1, hcz46_2, hfz46_0, hfz46_1, hfz46_2⟩ := cl3_ BK226
         have hnb47 := NB225_224.out
         have hnc47 := NB224_225.out
         have hnb48 := NB225_227.out
         have hnc48 := NB227_225.out
         have hnb49 := NB225_228.out
         have hnc49 := NB228_225.out
         obtain ⟨hcz50_0, hcz50_1, hcz50_2, hcz50_3, hfz50_0, hfz50_1, hfz50_2, hfz50_3⟩ := cl4_ BK225
         have p26 : 0 ≤ (a2_1 : Int) := asm_
         have q26 : (a2_1 : Int) < 4 := asm_
         have hx26 : w41.cell? ⟨gb225, (a2_1 : Int).toNat, none⟩ = some (.int .i16 (rd [a1_0, a1_1, a1_2, a1_3] a2_1)) := ard_cell (k := .i16) (l := [a1_0, a1_1, a1_2, a1_3]) BK225.out p26 q26
         have hf26 := blk_frozen BK225.out (a2_1 : Int).toNat
         have P26 := Aside0.mk p26
         have Q26 := Aside0.mk q26
         replace p26 := eq_true p26
         replace q26 := eq_true q26
         have hnb51 := NB224_227.out
         have hnc51 := NB227_224.out
         have hnb52 := NB224_228.out
         have hnc52 := NB228_224.out
         obtain ⟨hcz53_0, hcz53_1, hcz53_2, hcz53_3, hcz53_4, hcz53_5, hfz53_0, hfz53_1, hfz53_2, hfz53_3, hfz53_4, hfz53_5⟩ := cl6_ BK224
         have p229 : 0 ≤ (a2_2 : Int) := asm_
         have q229 : a2_2 < (l0_0.length : Int) := asm_
         obtain ⟨ad229, e229, hx229_0⟩ := Kd.at_int HR0_0.out a2_2 p229 q229
         cases e229
         (try replace hx229_0 := (HB.out.cell (World.block_lt_of_cell? w _ hx229_0)).trans hx229_0)
         replace p229 := eq_true p229
         replace q229 := eq_true q229
         have p30 : 0 ≤ (a2_2 : Int) := asm_
         have q30 : (a2_2 : Int) < 4 := asm_
         have hx30 : w41.cell? ⟨gb225, (a2_2 : Int).toNat, none⟩ = some (.int .i16 (rd [a1_0, a1_1, a1_2, a1_3] a2_2)) := ard_cell (k := .i16) (l := [a1_0, a1_1, a1_2, a1_3]) BK225.out p30 q30
         have hf30 := blk_frozen BK225.out (a2_2 : Int).toNat
         have P30 := Aside0.mk p30
         have Q30 := Aside0.mk q30
         replace p30 := eq_true p30
         replace q30 := eq_true q30
         repeat still_step
         refine wpStill_nil ?_
         (try simp only [i64_w, i32_w])
         have hnb54 := NB228_227.out
         have hnc54 := NB227_228.out
         obtain ⟨hcz55_0, hcz55_1, hcz55_2, hcz55_3, hfz55_0, hfz55_1, hfz55_2, hfz55_3⟩ := cl4_ BK228
         have p33 : 0 ≤ (a2_1 : Int) := asm_
         have q33 : (a2_1 : Int) < 4 := asm_
         have hx33 : w41.cell? ⟨gb228, (a2_1 : Int).toNat, none⟩ = some (.int .i16 (rd [a1_0, a1_1, a1_2, a1_3] a2_1)) := ard_cell (k := .i16) (l := [a1_0, a1_1, a1_2, a1_3]) BK228.out p33 q33
         have hf33 := blk_frozen BK228.out (a2_1 : Int).toNat
         have P33 := Aside0.mk p33
         have Q33 := Aside0.mk q33
         replace p33 := eq_true p33
         replace q33 := eq_true q33
         have p34 : 0 ≤ (a2_1 : Int) := asm_
         have q34 : (a2_1 : Int) < 4 := asm_
         have hx34 : w41.cell? ⟨gb228, (a2_1 : Int).toNat, none⟩ = some (.int .i16 (rd [a1_0, a1_1, a1_2, a1_3] a2_1)) := ard_cell (k := .i16) (l := [a1_0, a1_1, a1_2, a1_3]) BK228.out p34 q34
         have hf34 := blk_frozen BK228.out (a2_1 : Int).toNat
         have P34 := Aside0.mk p34
         have Q34 := Aside0.mk q34
         replace p34 := eq_true p34
         replace q34 := eq_true q34
         try go_wp2_with (first | ((with_reducible refine gate_store (t := 23) (p := 37) rfl ?_); refine store_event (t := 23) (p := 37) (v := ?vo_w57) (w1 := (w41.setCell ⟨gb228, (a2_1 : Int).toNat, none⟩ (.int .i16 (IntKind.i16.wrap ((rd [a1_0, a1_1, a1_2, a1_3] a2_1) - (ji31)))))) ?hg ?ho ?hn ?hr ?_; (case ho => rfl); (case hg => rfl); (case hn => rfl); (case hr => first | (go_simp; done) | (go_simp; rfl)); intro w57 hw; have n0_ : Aside0 (w57.heap[gb224]? = some (.cells #[.slice (some ad229) l0_0.length c0_0, .int .i16 a0_1, .int .i16 a0_2, .int .i16 a0_3, .int .i16 a0_4, .bool a0_5] 32 (0, 0))) := ⟨(by rw [hw]; exact (pf_ BK224 NB224_228))⟩; have n1_ : Aside0 (w57.heap[gb225]? = some (.cells #[.int .i16 a1_0, .int .i16 a1_1, .int .i16 a1_2, .int .i16 a1_3] 30 (0, 0))) := ⟨(by rw [hw]; exact (pf_ BK225 NB225_228))⟩; have n2_ : Aside0 (w57.heap[gb226]? = some (.cells #[.int .i8 a2_0, .int .i8 a2_1, .int .i8 a2_2] 60 (0, 0))) := ⟨(by rw [hw]; exact (pf_ BK226 NB226_228))⟩; have n3_ : Aside0 (w57.heap[gb227]? = some (.cells #[.int .i16 0, .int .i16 0, .int .i16 0, .int .i16 0] 30 (0, 0))) := ⟨(by rw [hw]; exact (pf_ BK227 NB227_228))⟩; have n4_ : Aside0 (w57.heap[gb228]? = some (.cells #[.int .i16 (aup a2_1 0 (IntKind.i16.wrap ((rd [a1_0, a1_1, a1_2, a1_3] a2_1) - (ji31))) a1_0), .int .i16 (aup a2_1 1 (IntKind.i16.wrap ((rd [a1_0, a1_1, a1_2, a1_3] a2_1) - (ji31))) a1_1), .int .i16 (aup a2_1 2 (IntKind.i16.wrap ((rd [a1_0, a1_1, a1_2, a1_3] a2_1) - (ji31))) a1_2), .int .i16 (aup a2_1 3 (IntKind.i16.wrap ((rd [a1_0, a1_1, a1_2, a1_3] a2_1) - (ji31))) a1_3)] 30 (0, 0))) := ⟨(by rw [hw]; exact (by (with_reducible repeat (first | refine blk_drewN ?_ _ | refine blk_drew ?_ | refine blk_alloc ?_ _)); refine blk_put (cs := #[.int .i16 a1_0, .int .i16 a1_1, .int .i16 a1_2, .int .i16 a1_3]) ?_ (a2_1 : Int).toNat _ (ups_set (k := .i16) (l := [a1_0, a1_1, a1_2, a1_3]) P34.out); (with_reducible repeat (first | refine blk_drewN ?_ _ | refine blk_drew ?_ | refine blk_alloc ?_ _)); exact BK228.out))⟩; have n5_ : Aside0 (Below w.heap.size w w57) := ⟨(by rw [hw]; exact (bs_ HB GE228))⟩; clear hw; clear BK224; clear BK225; clear BK226; clear BK227; clear BK228; clear HB; have BK224 := n0_; have BK225 := n1_; have BK226 := n2_; have BK227 := n3_; have BK228 := n4_; have HB := n5_; clear n0_ n1_ n2_ n3_ n4_ n5_; obtain ⟨hcz58_0, hcz58_1, hcz58_2, hfz58_0, hfz58_1, hfz58_2⟩ := cl3_ BK226; obtain ⟨hcz59_0, hcz59_1, hcz59_2, hcz59_3, hfz59_0, hfz59_1, hfz59_2, hfz59_3⟩ := cl4_ BK228; have p36 : 0 ≤ (a2_2 : Int) := asm_; have q36 : (a2_2 : Int) < 4 := asm_; have hx36 : w57.cell? ⟨gb228, (a2_2 : Int).toNat, none⟩ = some (.int .i16 (rd [aup a2_1 0 (IntKind.i16.wrap ((rd [a1_0, a1_1, a1_2, a1_3] a2_1) - (ji31))) a1_0, aup a2_1 1 (IntKind.i16.wrap ((rd [a1_0, a1_1, a1_2, a1_3] a2_1) - (ji31))) a1_1, aup a2_1 2 (IntKind.i16.wrap ((rd [a1_0, a1_1, a1_2, a1_3] a2_1) - (ji31))) a1_2, aup a2_1 3 (IntKind.i16.wrap ((rd [a1_0, a1_1, a1_2, a1_3] a2_1) - (ji31))) a1_3] a2_2)) := ard_cell (k := .i16) (l := [aup a2_1 0 (IntKind.i16.wrap ((rd [a1_0, a1_1, a1_2, a1_3] a2_1) - (ji31))) a1_0, aup a2_1 1 (IntKind.i16.wrap ((rd [a1_0, a1_1, a1_2, a1_3] a2_1) - (ji31))) a1_1, aup a2_1 2 (IntKind.i16.wrap ((rd [a1_0, a1_1, a1_2, a1_3] a2_1) - (ji31))) a1_2, aup a2_1 3 (IntKind.i16.wrap ((rd [a1_0, a1_1, a1_2, a1_3] a2_1) - (ji31))) a1_3]) BK228.out p36 q36; have hf36 := blk_frozen BK228.out (a2_2 : Int).toNat; have P36 := Aside0.mk p36; have Q36 := Aside0.mk q36; replace p36 := eq_true p36; replace q36 := eq_true q36; have p37 : 0 ≤ (a2_2 : Int) := asm_; have q37 : (a2_2 : Int) < 4 := asm_; have hx37 : w57.cell? ⟨gb228, (a2_2 : Int).toNat, none⟩ = some (.int .i16 (rd [aup a2_1 0 (IntKind.i16.wrap ((rd [a1_0, a1_1, a1_2, a1_3] a2_1) - (ji31))) a1_0, aup a2_1 1 (IntKind.i16.wrap ((rd [a1_0, a1_1, a1_2, a1_3] a2_1) - (ji31))) a1_1, aup a2_1 2 (IntKind.i16.wrap ((rd [a1_0, a1_1, a1_2, a1_3] a2_1) - (ji31))) a1_2, aup a2_1 3 (IntKind.i16.wrap ((rd [a1_0, a1_1, a1_2, a1_3] a2_1) - (ji31))) a1_3] a2_2)) := ard_cell (k := .i16) (l := [aup a2_1 0 (IntKind.i16.wrap ((rd [a1_0, a1_1, a1_2, a1_3] a2_1) - (ji31))) a1_0, aup a2_1 1 (IntKind.i16.wrap ((rd [a1_0, a1_1, a1_2, a1_3] a2_1) - (ji31))) a1_1, aup a2_1 2 (IntKind.i16.wrap ((rd [a1_0, a1_1, a1_2, a1_3] a2_1) - (ji31))) a1_2, aup a2_1 3 (IntKind.i16.wrap ((rd [a1_0, a1_1, a1_2, a1_3] a2_1) - (ji31))) a1_3]) BK228.out p37 q37; have hf37 := blk_frozen BK228.out (a2_2 : Int).toNat; have P37 := Aside0.mk p37; have Q37 := Aside0.mk q37; replace p37 := eq_true p37; replace q37 := eq_true q37) | ((with_reducible refine gate_store (t := 23) (p := 44) rfl ?_); refine store_event (t := 23) (p := 44) (v := ?vo_w61) (w1 := (w57.setCell ⟨gb228, (a2_2 : Int).toNat, none⟩ (.int .i16 (IntKind.i16.wrap ((rd [aup a2_1 0 (IntKind.i16.wrap ((rd [a1_0, a1_1, a1_2, a1_3] a2_1) - (ji31))) a1_0, aup a2_1 1 (IntKind.i16.wrap ((rd [a1_0, a1_1, a1_2, a1_3] a2_1) - (ji31))) a1_1, aup a2_1 2 (IntKind.i16.wrap ((rd [a1_0, a1_1, a1_2, a1_3] a2_1) - (ji31))) a1_2, aup a2_1 3 (IntKind.i16.wrap ((rd [a1_0, a1_1, a1_2, a1_3] a2_1) - (ji31))) a1_3] a2_2) + (ji31)))))) ?hg ?ho ?hn ?hr ?_; (case ho => rfl); (case hg => rfl); (case hn => rfl); (case hr => first | (go_simp; done) | (go_simp; rfl)); intro w61 hw; have n0_ : Aside0 (w61.heap[gb224]? = some (.cells #[.slice (some ad229) l0_0.length c0_0, .int .i16 a0_1, .int .i16 a0_2, .int .i16 a0_3, .int .i16 a0_4, .bool a0_5] 32 (0, 0))) := ⟨(by rw [hw]; exact (pf_ BK224 NB224_228))⟩; have n1_ : Aside0 (w61.heap[gb225]? = some (.cells #[.int .i16 a1_0, .int .i16 a1_1, .int .i16 a1_2, .int .i16 a1_3] 30 (0, 0))) := ⟨(by rw [hw]; exact (pf_ BK225 NB225_228))⟩; have n2_ : Aside0 (w61.heap[gb226]? = some (.cells #[.int .i8 a2_0, .int .i8 a2_1, .int .i8 a2_2] 60 (0, 0))) := ⟨(by rw [hw]; exact (pf_ BK226 NB226_228))⟩; have n3_ : Aside0 (w61.heap[gb227]? = some (.cells #[.int .i16 0, .int .i16 0, .int .i16 0, .int .i16 0] 30 (0, 0))) := ⟨(by rw [hw]; exact (pf_ BK227 NB227_228))⟩; have n4_ : Aside0 (w61.heap[gb228]? = some (.cells #[.int .i16 (aup a2_2 0 (IntKind.i16.wrap ((rd [aup a2_1 0 (IntKind.i16.wrap ((rd [a1_0, a1_1, a1_2, a1_3] a2_1) - (ji31))) a1_0, aup a2_1 1 (IntKind.i16.wrap ((rd [a1_0, a1_1, a1_2, a1_3] a2_1) - (ji31))) a1_1, aup a2_1 2 (IntKind.i16.wrap ((rd [a1_0, a1_1, a1_2, a1_3] a2_1) - (ji31))) a1_2, aup a2_1 3 (IntKind.i16.wrap ((rd [a1_0, a1_1, a1_2, a1_3] a2_1) - (ji31))) a1_3] a2_2) + (ji31))) (aup a2_1 0 (IntKind.i16.wrap ((rd [a1_0, a1_1, a1_2, a1_3] a2_1) - (ji31))) a1_0)), .int .i16 (aup a2_2 1 (IntKind.i16.wrap ((rd [aup a2_1 0 (IntKind.i16.wrap ((rd [a1_0, a1_1, a1_2, a1_3] a2_1) - (ji31))) a1_0, aup a2_1 1 (IntKind.i16.wrap ((rd [a1_0, a1_1, a1_2, a1_3] a2_1) - (ji31))) a1_1, aup a2_1 2 (IntKind.i16.wrap ((rd [a1_0, a1_1, a1_2, a1_3] a2_1) - (ji31))) a1_2, aup a2_1 3 (IntKind.i16.wrap ((rd [a1_0, a1_1, a1_2, a1_3] a2_1) - (ji31))) a1_3] a2_2) + (ji31))) (aup a2_1 1 (IntKind.i16.wrap ((rd [a1_0, a1_1, a1_2, a1_3] a2_1) - (ji31))) a1_1)), .int .i16 (aup a2_2 2 (IntKind.i16.wrap ((rd [aup a2_1 0 (IntKind.i16.wrap ((rd [a1_0, a1_1, a1_2, a1_3] a2_1) - (ji31))) a1_0, aup a2_1 1 (IntKind.i16.wrap ((rd [a1_0, a1_1, a1_2, a1_3] a2_1) - (ji31))) a1_1, aup a2_1 2 (IntKind.i16.wrap ((rd [a1_0, a1_1, a1_2, a1_3] a2_1) - (ji31))) a1_2, aup a2_1 3 (IntKind.i16.wrap ((rd [a1_0, a1_1, a1_2, a1_3] a2_1) - (ji31))) a1_3] a2_2) + (ji31))) (aup a2_1 2 (IntKind.i16.wrap ((rd [a1_0, a1_1, a1_2, a1_3] a2_1) - (ji31))) a1_2)), .int .i16 (aup a2_2 3 (IntKind.i16.wrap ((rd [aup a2_1 0 (IntKind.i16.wrap ((rd [a1_0, a1_1, a1_2, a1_3] a2_1) - (ji31))) a1_0, aup a2_1 1 (IntKind.i16.wrap ((rd [a1_0, a1_1, a1_2, a1_3] a2_1) - (ji31))) a1_1, aup a2_1 2 (IntKind.i16.wrap ((rd [a1_0, a1_1, a1_2, a1_3] a2_1) - (ji31))) a1_2, aup a2_1 3 (IntKind.i16.wrap ((rd [a1_0, a1_1, a1_2, a1_3] a2_1) - (ji31))) a1_3] a2_2) + (ji31))) (aup a2_1 3 (IntKind.i16.wrap ((rd [a1_0, a1_1, a1_2, a1_3] a2_1) - (ji31))) a1_3))] 30 (0, 0))) := ⟨(by rw [hw]; exact (by (with_reducible repeat (first | refine blk_drewN ?_ _ | refine blk_drew ?_ | refine blk_alloc ?_ _)); refine blk_put (cs := #[.int .i16 (aup a2_1 0 (IntKind.i16.wrap ((rd [a1_0, a1_1, a1_2, a1_3] a2_1) - (ji31))) a1_0), .int .i16 (aup a2_1 1 (IntKind.i16.wrap ((rd [a1_0, a1_1, a1_2, a1_3] a2_1) - (ji31))) a1_1), .int .i16 (aup a2_1 2 (IntKind.i16.wrap ((rd [a1_0, a1_1, a1_2, a1_3] a2_1) - (ji31))) a1_2), .int .i16 (aup a2_1 3 (IntKind.i16.wrap ((rd [a1_0, a1_1, a1_2, a1_3] a2_1) - (ji31))) a1_3)]) ?_ (a2_2 : Int).toNat _ (ups_set (k := .i16) (l := [aup a2_1 0 (IntKind.i16.wrap ((rd [a1_0, a1_1, a1_2, a1_3] a2_1) - (ji31))) a1_0, aup a2_1 1 (IntKind.i16.wrap ((rd [a1_0, a1_1, a1_2, a1_3] a2_1) - (ji31))) a1_1, aup a2_1 2 (IntKind.i16.wrap ((rd [a1_0, a1_1, a1_2, a1_3] a2_1) - (ji31))) a1_2, aup a2_1 3 (IntKind.i16.wrap ((rd [a1_0, a1_1, a1_2, a1_3] a2_1) - (ji31))) a1_3]) P37.out); (with_reducible repeat (first | refine blk_drewN ?_ _ | refine blk_drew ?_ | refine blk_alloc ?_ _)); exact BK228.out))⟩; have n5_ : Aside0 (Below w.heap.size w w61) := ⟨(by rw [hw]; exact (bs_ HB GE228))⟩; clear hw; clear BK224; clear BK225; clear BK226; clear BK227; clear BK228; clear HB; have BK224 := n0_; have BK225 := n1_; have BK226 := n2_; have BK227 := n3_; have BK228 := n4_; have HB := n5_; clear n0_ n1_ n2_ n3_ n4_ n5_; obtain ⟨hcz62_0, hcz62_1, hcz62_2, hcz62_3, hfz62_0, hfz62_1, hfz62_2, hfz62_3⟩ := cl4_ BK228; obtain ⟨hcz63_0, hcz63_1, hcz63_2, hfz63_0, hfz63_1, hfz63_2⟩ := cl3_ BK226; obtain ⟨hcz64_0, hcz64_1, hcz64_2, hcz64_3, hfz64_0, hfz64_1, hfz64_2, hfz64_3⟩ := cl4_ BK227))
         refine bodyPost_ret (results_ct rfl _ _ gb227 30 #[.int .i16 (aup a2_2 0 (IntKind.i16.wrap ((rd [aup a2_1 0 (IntKind.i16.wrap ((rd [a1_0, a1_1, a1_2, a1_3] a2_1) - (ji31))) a1_0, aup a2_1 1 (IntKind.i16.wrap ((rd [a1_0, a1_1, a1_2, a1_3] a2_1) - (ji31))) a1_1, aup a2_1 2 (IntKind.i16.wrap ((rd [a1_0, a1_1, a1_2, a1_3] a2_1) - (ji31))) a1_2, aup a2_1 3 (IntKind.i16.wrap ((rd [a1_0, a1_1, a1_2, a1_3] a2_1) - (ji31))) a1_3] a2_2) + (ji31))) (aup a2_1 0 (IntKind.i16.wrap ((rd [a1_0, a1_1, a1_2, a1_3] a2_1) - (ji31))) a1_0)), .int .i16 (aup a2_2 1 (IntKind.i16.wrap ((rd [aup a2_1 0 (IntKind.i16.wrap ((rd [a1_0, a1_1, a1_2, a1_3] a2_1) - (ji31))) a1_0, aup a2_1 1 (IntKind.i16.wrap ((rd [a1_0, a1_1, a1_2, a1_3] a2_1) - (ji31))) a1_1, aup a2_1 2 (IntKind.i16.wrap ((rd [a1_0, a1_1, a1_2, a1_3] a2_1) - (ji31))) a1_2, aup a2_1 3 (IntKind.i16.wrap ((rd [a1_0, a1_1, a1_2, a1_3] a2_1) - (ji31))) a1_3] a2_2) + (ji31))) (aup a2_1 1 (IntKind.i16.wrap ((rd [a1_0, a1_1, a1_2, a1_3] a2_1) - (ji31))) a1_1)), .int .i16 (aup a2_2 2 (IntKind.i16.wrap ((rd [aup a2_1 0 (IntKind.i16.wrap ((rd [a1_0, a1_1, a1_2, a1_3] a2_1) - (ji31))) a1_0, aup a2_1 1 (IntKind.i16.wrap ((rd [a1_0, a1_1, a1_2, a1_3] a2_1) - (ji31))) a1_1, aup a2_1 2 (IntKind.i16.wrap ((rd [a1_0, a1_1, a1_2, a1_3] a2_1) - (ji31))) a1_2, aup a2_1 3 (IntKind.i16.wrap ((rd [a1_0, a1_1, a1_2, a1_3] a2_1) - (ji31))) a1_3] a2_2) + (ji31))) (aup a2_1 2 (IntKind.i16.wrap ((rd [a1_0, a1_1, a1_2, a1_3] a2_1) - (ji31))) a1_2)), .int .i16 (aup a2_2 3 (IntKind.i16.wrap ((rd [aup a2_1 0 (IntKind.i16.wrap ((rd [a1_0, a1_1, a1_2, a1_3] a2_1) - (ji31))) a1_0, aup a2_1 1 (IntKind.i16.wrap ((rd [a1_0, a1_1, a1_2, a1_3] a2_1) - (ji31))) a1_1, aup a2_1 2 (IntKind.i16.wrap ((rd [a1_0, a1_1, a1_2, a1_3] a2_1) - (ji31))) a1_2, aup a2_1 3 (IntKind.i16.wrap ((rd [a1_0, a1_1, a1_2, a1_3] a2_1) - (ji31))) a1_3] a2_2) + (ji31))) (aup a2_1 3 (IntKind.i16.wrap ((rd [a1_0, a1_1, a1_2, a1_3] a2_1) - (ji31))) a1_3))] (0, 0) _ rfl (by (with_reducible repeat (first | refine blk_drewN ?_ _ | refine blk_drew ?_ | refine blk_alloc ?_ _)); refine blk_put (cs := #[.int .i16 (aup a2_2 0 (IntKind.i16.wrap ((rd [aup a2_1 0 (IntKind.i16.wrap ((rd [a1_0, a1_1, a1_2, a1_3] a2_1) - (ji31))) a1_0, aup a2_1 1 (IntKind.i16.wrap ((rd [a1_0, a1_1, a1_2, a1_3] a2_1) - (ji31))) a1_1, aup a2_1 2 (IntKind.i16.wrap ((rd [a1_0, a1_1, a1_2, a1_3] a2_1) - (ji31))) a1_2, aup a2_1 3 (IntKind.i16.wrap ((rd [a1_0, a1_1, a1_2, a1_3] a2_1) - (ji31))) a1_3] a2_2) + (ji31))) (aup a2_1 0 (IntKind.i16.wrap ((rd [a1_0, a1_1, a1_2, a1_3] a2_1) - (ji31))) a1_0)), .int .i16 (aup a2_2 1 (IntKind.i16.wrap ((rd [aup a2_1 0 (IntKind.i16.wrap ((rd [a1_0, a1_1, a1_2, a1_3] a2_1) - (ji31))) a1_0, aup a2_1 1 (IntKind.i16.wrap ((rd [a1_0, a1_1, a1_2, a1_3] a2_1) - (ji31))) a1_1, aup a2_1 2 (IntKind.i16.wrap ((rd [a1_0, a1_1, a1_2, a1_3] a2_1) - (ji31))) a1_2, aup a2_1 3 (IntKind.i16.wrap ((rd [a1_0, a1_1, a1_2, a1_3] a2_1) - (ji31))) a1_3] a2_2) + (ji31))) (aup a2_1 1 (IntKind.i16.wrap ((rd [a1_0, a1_1, a1_2, a1_3] a2_1) - (ji31))) a1_1)), .int .i16 (aup a2_2 2 (IntKind.i16.wrap ((rd [aup a2_1 0 (IntKind.i16.wrap ((rd [a1_0, a1_1, a1_2, a1_3] a2_1) - (ji31))) a1_0, aup a2_1 1 (IntKind.i16.wrap ((rd [a1_0, a1_1, a1_2, a1_3] a2_1) - (ji31))) a1_1, aup a2_1 2 (IntKind.i16.wrap ((rd [a1_0, a1_1, a1_2, a1_3] a2_1) - (ji31))) a1_2, aup a2_1 3 (IntKind.i16.wrap ((rd [a1_0, a1_1, a1_2, a1_3] a2_1) - (ji31))) a1_3] a2_2) + (ji31))) (aup a2_1 2 (IntKind.i16.wrap ((rd [a1_0, a1_1, a1_2, a1_3] a2_1) - (ji31))) a1_2)), .int .i16 0]) ?_ 3 _ rfl; (with_reducible repeat (first | refine blk_drewN ?_ _ | refine blk_drew ?_ | refine blk_alloc ?_ _)); refine blk_put (cs := #[.int .i16 (aup a2_2 0 (IntKind.i16.wrap ((rd [aup a2_1 0 (IntKind.i16.wrap ((rd [a1_0, a1_1, a1_2, a1_3] a2_1) - (ji31))) a1_0, aup a2_1 1 (IntKind.i16.wrap ((rd [a1_0, a1_1, a1_2, a1_3] a2_1) - (ji31))) a1_1, aup a2_1 2 (IntKind.i16.wrap ((rd [a1_0, a1_1, a1_2, a1_3] a2_1) - (ji31))) a1_2, aup a2_1 3 (IntKind.i16.wrap ((rd [a1_0, a1_1, a1_2, a1_3] a2_1) - (ji31))) a1_3] a2_2) + (ji31))) (aup a2_1 0 (IntKind.i16.wrap ((rd [a1_0, a1_1, a1_2, a1_3] a2_1) - (ji31))) a1_0)), .int .i16 (aup a2_2 1 (IntKind.i16.wrap ((rd [aup a2_1 0 (IntKind.i16.wrap ((rd [a1_0, a1_1, a1_2, a1_3] a2_1) - (ji31))) a1_0, aup a2_1 1 (IntKind.i16.wrap ((rd [a1_0, a1_1, a1_2, a1_3] a2_1) - (ji31))) a1_1, aup a2_1 2 (IntKind.i16.wrap ((rd [a1_0, a1_1, a1_2, a1_3] a2_1) - (ji31))) a1_2, aup a2_1 3 (IntKind.i16.wrap ((rd [a1_0, a1_1, a1_2, a1_3] a2_1) - (ji31))) a1_3] a2_2) + (ji31))) (aup a2_1 1 (IntKind.i16.wrap ((rd [a1_0, a1_1, a1_2, a1_3] a2_1) - (ji31))) a1_1)), .int .i16 0, .int .i16 0]) ?_ 2 _ rfl; (with_reducible repeat (first | refine blk_drewN ?_ _ | refine blk_drew ?_ | refine blk_alloc ?_ _)); refine blk_put (cs := #[.int .i16 (aup a2_2 0 (IntKind.i16.wrap ((rd [aup a2_1 0 (IntKind.i16.wrap ((rd [a1_0, a1_1, a1_2, a1_3] a2_1) - (ji31))) a1_0, aup a2_1 1 (IntKind.i16.wrap ((rd [a1_0, a1_1, a1_2, a1_3] a2_1) - (ji31))) a1_1, aup a2_1 2 (IntKind.i16.wrap ((rd [a1_0, a1_1, a1_2, a1_3] a2_1) - (ji31))) a1_2, aup a2_1 3 (IntKind.i16.wrap ((rd [a1_0, a1_1, a1_2, a1_3] a2_1) - (ji31))) a1_3] a2_2) + (ji31))) (aup a2_1 0 (IntKind.i16.wrap ((rd [a1_0, a1_1, a1_2, a1_3] a2_1) - (ji31))) a1_0)), .int .i16 0, .int .i16 0, .int .i16 0]) ?_ 1 _ rfl; (with_reducible repeat (first | refine blk_drewN ?_ _ | refine blk_drew ?_ | refine blk_alloc ?_ _)); refine blk_put (cs := #[.int .i16 0, .int .i16 0, .int .i16 0, .int .i16 0]) ?_ 0 _ rfl; (with_reducible repeat (first | refine blk_drewN ?_ _ | refine blk_drew ?_ | refine blk_alloc ?_ _)); exact BK227.out) Try.underlying30 rfl (by kernel_rfl)) rfl ?_
         exact ⟨by first | rfl | (simp [errW_none, errW_some] <;> rfl) | (simp only [← hji31]; first | rfl | (simp [errW_none, errW_some] <;> rfl)) | (simp [*, errW_none, errW_some] <;> rfl), bs_ HB GE227⟩
        ·rw [if_neg c39] at H
         have c39b0 : (a2_1 == a2_2) = false := beq_eq_false_iff_ne.mpr c39
         have c39b1 : (a2_1 != a2_2) = true := bne_iff_ne.mpr c39
         simp only [Option.some.injEq, Prod.mk.injEq] at H
         obtain ⟨rfl, rfl, rfl, rfl, rfl⟩ := H
         try go_wp2
         have n0_ : Aside0 (((((w13.setCell ⟨gb228, 0, none⟩ (.int .i16 a1_0)).setCell ⟨gb228, 1, none⟩ (.int .i16 a1_1)).setCell ⟨gb228, 2, none⟩ (.int .i16 a1_2)).setCell ⟨gb228, 3, none⟩ (.int .i16 a1_3)).heap[gb224]? = some (.cells #[.slice A0_0 l0_0.length c0_0, .int .i16 a0_1, .int .i16 a0_2, .int .i16 a0_3, .int .i16 a0_4, .bool a0_5] 32 (0, 0))) := ⟨pf_ BK224 NB224_228⟩
         have n1_ : Aside0 (((((w13.setCell ⟨gb228, 0, none⟩ (.int .i16 a1_0)).setCell ⟨gb228, 1, none⟩ (.int .i16 a1_1)).setCell ⟨gb228, 2, none⟩ (.int .i16 a1_2)).setCell ⟨gb228, 3, none⟩ (.int .i16 a1_3)).heap[gb225]? = some (.cells #[.int .i16 a1_0, .int .i16 a1_1, .int .i16 a1_2, .int .i16 a1_3] 30 (0, 0))) := ⟨pf_ BK225 NB225_228⟩
         have n2_ : Aside0 (((((w13.setCell ⟨gb228, 0, none⟩ (.int .i16 a1_0)).setCell ⟨gb228, 1, none⟩ (.int .i16 a1_1)).setCell ⟨gb228, 2, none⟩ (.int .i16 a1_2)).setCell ⟨gb228, 3, none⟩ (.int .i16 a1_3)).heap[gb226]? = some (.cells #[.int .i8 a2_0, .int .i8 a2_1, .int .i8 a2_2] 60 (0, 0))) := ⟨pf_ BK226 NB226_228⟩
         have n3_ : Aside0 (((((w13.setCell ⟨gb228, 0, none⟩ (.int .i16 a1_0)).setCell ⟨gb228, 1, none⟩ (.int .i16 a1_1)).setCell ⟨gb228, 2, none⟩ (.int .i16 a1_2)).setCell ⟨gb228, 3, none⟩ (.int .i16 a1_3)).heap[gb227]? = some (.cells #[.int .i16 0, .int .i16 0, .int .i16 0, .int .i16 0] 30 (0, 0))) := ⟨pf_ BK227 NB227_228⟩
         have n4_ : Aside0 (((((w13.setCell ⟨gb228, 0, none⟩ (.int .i16 a1_0)).setCell ⟨gb228, 1, none⟩ (.int .i16 a1_1)).setCell ⟨gb228, 2, none⟩ (.int .i16 a1_2)).setCell ⟨gb228, 3, none⟩ (.int .i16 a1_3)).heap[gb228]? = some (.cells #[.int .i16 a1_0, .int .i16 a1_1, .int .i16 a1_2, .int .i16 a1_3] 30 (0, 0))) := ⟨by (with_reducible repeat (first | refine blk_drewN ?_ _ | refine blk_drew ?_ | refine blk_alloc ?_ _)); refine blk_put (cs := #[.int .i16 a1_0, .int .i16 a1_1, .int .i16 a1_2, .int .i16 0]) ?_ 3 _ rfl; (with_reducible repeat (first | refine blk_drewN ?_ _ | refine blk_drew ?_ | refine blk_alloc ?_ _)); refine blk_put (cs := #[.int .i16 a1_0, .int .i16 a1_1, .int .i16 0, .int .i16 0]) ?_ 2 _ rfl; (with_reducible repeat (first | refine blk_drewN ?_ _ | refine blk_drew ?_ | refine blk_alloc ?_ _)); refine blk_put (cs := #[.int .i16 a1_0, .int .i16 0, .int .i16 0, .int .i16 0]) ?_ 1 _ rfl; (with_reducible repeat (first | refine blk_drewN ?_ _ | refine blk_drew ?_ | refine blk_alloc ?_ _)); refine blk_put (cs := #[.int .i16 0, .int .i16 0, .int .i16 0, .int .i16 0]) ?_ 0 _ rfl; (with_reducible repeat (first | refine blk_drewN ?_ _ | refine blk_drew ?_ | refine blk_alloc ?_ _)); exact BK228.out⟩
         have n5_ : Aside0 (Below w.heap.size w ((((w13.setCell ⟨gb228, 0, none⟩ (.int .i16 a1_0)).setCell ⟨gb228, 1, none⟩ (.int .i16 a1_1)).setCell ⟨gb228, 2, none⟩ (.int .i16 a1_2)).setCell ⟨gb228, 3, none⟩ (.int .i16 a1_3))) := ⟨bs_ HB GE228⟩
         (try clear BK224)
         (try clear BK225)
         (try clear BK226)
         (try clear BK227)
         (try clear BK228)
         (try clear HB)
         generalize ((((w13.setCell ⟨gb228, 0, none⟩ (.int .i16 a1_0)).setCell ⟨gb228, 1, none⟩ (.int .i16 a1_1)).setCell ⟨gb228, 2, none⟩ (.int .i16 a1_2)).setCell ⟨gb228, 3, none⟩ (.int .i16 a1_3)) = w65 at n0_ n1_ n2_ n3_ n4_ n5_ ⊢
         have BK224 := n0_
         have BK225 := n1_
         have BK226 := n2_
         have BK227 := n3_
         have BK228 := n4_
         have HB := n5_
         clear n0_ n1_ n2_ n3_ n4_ n5_
         refine wp_region_still_lit (by kernel_rfl) (by kernel_rfl) ?_
         refine still_shown ?_
         have n0_ := A_ (blk_drew BK224.out)
         have n1_ := A_ (blk_drew BK225.out)
         have n2_ := A_ (blk_drew BK226.out)
         have n3_ := A_ (blk_drew BK227.out)
         have n4_ := A_ (blk_drew BK228.out)
         have n5_ := A_ (below_drew1 HB.out)
         clear BK224
         clear BK225
         clear BK226
         clear BK227
         clear BK228
         clear HB
         have BK224 := n0_
         have BK225 := n1_
         have BK226 := n2_
         have BK227 := n3_
         have BK228 := n4_
         have HB := n5_
         clear n0_ n1_ n2_ n3_ n4_ n5_
         generalize w65.drew = w66 at BK224 BK225 BK226 BK227 BK228 HB ⊢
         have hnb67 := NB226_224.out
         have hnc67 := NB224_226.out
         have hnb68 := NB226_225.out
         have hnc68 := NB225_226.out
         have hnb69 := NB226_227.out
         have hnc69 := NB227_226.out
         have hnb70 := NB226_228.out
         have hnc70 := NB228_226.out
         obtain ⟨hcz71_0, hcz71_1, hcz71_2, hfz71_0, hfz71_1, hfz71_2⟩ := cl3_ BK226
         have hnb72 := NB225_224.out
         have hnc72 := NB224_225.out
         have hnb73 := NB225_227.out
         have hnc73 := NB227_225.out
         have hnb74 := NB225_228.out
         have hnc74 := NB228_225.out
         obtain ⟨hcz75_0, hcz75_1, hcz75_2, hcz75_3, hfz75_0, hfz75_1, hfz75_2, hfz75_3⟩ := cl4_ BK225
         have p26 : 0 ≤ (a2_1 : Int) := asm_
         have q26 : (a2_1 : Int) < 4 := asm_
         have hx26 : w66.cell? ⟨gb225, (a2_1 : Int).toNat, none⟩ = some (.int .i16 (rd [a1_0, a1_1, a1_2, a1_3] a2_1)) := ard_cell (k := .i16) (l := [a1_0, a1_1, a1_2, a1_3]) BK225.out p26 q26
         have hf26 := blk_frozen BK225.out (a2_1 : Int).toNat
         have P26 := Aside0.mk p26
         have Q26 := Aside0.mk q26
         replace p26 := eq_true p26
         replace q26 := eq_true q26
         have hnb76 := NB224_227.out
         have hnc76 := NB227_224.out
         have hnb77 := NB224_228.out
         have hnc77 := NB228_224.out
         obtain ⟨hcz78_0, hcz78_1, hcz78_2, hcz78_3, hcz78_4, hcz78_5, hfz78_0, hfz78_1, hfz78_2, hfz78_3, hfz78_4, hfz78_5⟩ := cl6_ BK224
         have p229 : 0 ≤ (a2_2 : Int) := asm_
         have q229 : a2_2 < (l0_0.length : Int) := asm_
         obtain ⟨ad229, e229, hx229_0⟩ := Kd.at_int HR0_0.out a2_2 p229 q229
         cases e229
         (try replace hx229_0 := (HB.out.cell (World.block_lt_of_cell? w _ hx229_0)).trans hx229_0)
         replace p229 := eq_true p229
         replace q229 := eq_true q229
         have p30 : 0 ≤ (a2_2 : Int) := asm_
         have q30 : (a2_2 : Int) < 4 := asm_
         have hx30 : w66.cell? ⟨gb225, (a2_2 : Int).toNat, none⟩ = some (.int .i16 (rd [a1_0, a1_1, a1_2, a1_3] a2_2)) := ard_cell (k := .i16) (l := [a1_0, a1_1, a1_2, a1_3]) BK225.out p30 q30
         have hf30 := blk_frozen BK225.out (a2_2 : Int).toNat
         have P30 := Aside0.mk p30
         have Q30 := Aside0.mk q30
         replace p30 := eq_true p30
         replace q30 := eq_true q30
         repeat still_step
         refine wpStill_nil ?_
         (try simp only [i64_w, i32_w])
         have hnb79 := NB228_227.out
         have hnc79 := NB227_228.out
         obtain ⟨hcz80_0, hcz80_1, hcz80_2, hcz80_3, hfz80_0, hfz80_1, hfz80_2, hfz80_3⟩ := cl4_ BK228
         have p33 : 0 ≤ (a2_1 : Int) := asm_
         have q33 : (a2_1 : Int) < 4 := asm_
         have hx33 : w66.cell? ⟨gb228, (a2_1 : Int).toNat, none⟩ = some (.int .i16 (rd [a1_0, a1_1, a1_2, a1_3] a2_1)) := ard_cell (k := .i16) (l := [a1_0, a1_1, a1_2, a1_3]) BK228.out p33 q33
         have hf33 := blk_frozen BK228.out (a2_1 : Int).toNat
         have P33 := Aside0.mk p33
         have Q33 := Aside0.mk q33
         replace p33 := eq_true p33
         replace q33 := eq_true q33
         have p34 : 0 ≤ (a2_1 : Int) := asm_
         have q34 : (a2_1 : Int) < 4 := asm_
         have hx34 : w66.cell? ⟨gb228, (a2_1 : Int).toNat, none⟩ = some (.int .i16 (rd [a1_0, a1_1, a1_2, a1_3] a2_1)) := ard_cell (k := .i16) (l := [a1_0, a1_1, a1_2, a1_3]) BK228.out p34 q34
         have hf34 := blk_frozen BK228.out (a2_1 : Int).toNat
         have P34 := Aside0.mk p34
         have Q34 := Aside0.mk q34
         replace p34 := eq_true p34
         replace q34 := eq_true q34
         try go_wp2_with (first | ((with_reducible refine gate_store (t := 23) (p := 37) rfl ?_); refine store_event (t := 23) (p := 37) (v := ?vo_w82) (w1 := (w66.setCell ⟨gb228, (a2_1 : Int).toNat, none⟩ (.int .i16 (IntKind.i16.wrap ((rd [a1_0, a1_1, a1_2, a1_3] a2_1) - (ji31)))))) ?hg ?ho ?hn ?hr ?_; (case ho => rfl); (case hg => rfl); (case hn => rfl); (case hr => first | (go_simp; done) | (go_simp; rfl)); intro w82 hw; have n0_ : Aside0 (w82.heap[gb224]? = some (.cells #[.slice (some ad229) l0_0.length c0_0, .int .i16 a0_1, .int .i16 a0_2, .int .i16 a0_3, .int .i16 a0_4, .bool a0_5] 32 (0, 0))) := ⟨(by rw [hw]; exact (pf_ BK224 NB224_228))⟩; have n1_ : Aside0 (w82.heap[gb225]? = some (.cells #[.int .i16 a1_0, .int .i16 a1_1, .int .i16 a1_2, .int .i16 a1_3] 30 (0, 0))) := ⟨(by rw [hw]; exact (pf_ BK225 NB225_228))⟩; have n2_ : Aside0 (w82.heap[gb226]? = some (.cells #[.int .i8 a2_0, .int .i8 a2_1, .int .i8 a2_2] 60 (0, 0))) := ⟨(by rw [hw]; exact (pf_ BK226 NB226_228))⟩; have n3_ : Aside0 (w82.heap[gb227]? = some (.cells #[.int .i16 0, .int .i16 0, .int .i16 0, .int .i16 0] 30 (0, 0))) := ⟨(by rw [hw]; exact (pf_ BK227 NB227_228))⟩; have n4_ : Aside0 (w82.heap[gb228]? = some (.cells #[.int .i16 (aup a2_1 0 (IntKind.i16.wrap ((rd [a1_0, a1_1, a1_2, a1_3] a2_1) - (ji31))) a1_0), .int .i16 (aup a2_1 1 (IntKind.i16.wrap ((rd [a1_0, a1_1, a1_2, a1_3] a2_1) - (ji31))) a1_1), .int .i16 (aup a2_1 2 (IntKind.i16.wrap ((rd [a1_0, a1_1, a1_2, a1_3] a2_1) - (ji31))) a1_2), .int .i16 (aup a2_1 3 (IntKind.i16.wrap ((rd [a1_0, a1_1, a1_2, a1_3] a2_1) - (ji31))) a1_3)] 30 (0, 0))) := ⟨(by rw [hw]; exact (by (with_reducible repeat (first | refine blk_drewN ?_ _ | refine blk_drew ?_ | refine blk_alloc ?_ _)); refine blk_put (cs := #[.int .i16 a1_0, .int .i16 a1_1, .int .i16 a1_2, .int .i16 a1_3]) ?_ (a2_1 : Int).toNat _ (ups_set (k := .i16) (l := [a1_0, a1_1, a1_2, a1_3]) P34.out); (with_reducible repeat (first | refine blk_drewN ?_ _ | refine blk_drew ?_ | refine blk_alloc ?_ _)); exact BK228.out))⟩; have n5_ : Aside0 (Below w.heap.size w w82) := ⟨(by rw [hw]; exact (bs_ HB GE228))⟩; clear hw; clear BK224; clear BK225; clear BK226; clear BK227; clear BK228; clear HB; have BK224 := n0_; have BK225 := n1_; have BK226 := n2_; have BK227 := n3_; have BK228 := n4_; have HB := n5_; clear n0_ n1_ n2_ n3_ n4_ n5_; obtain ⟨hcz83_0, hcz83_1, hcz83_2, hfz83_0, hfz83_1, hfz83_2⟩ := cl3_ BK226; obtain ⟨hcz84_0, hcz84_1, hcz84_2, hcz84_3, hfz84_0, hfz84_1, hfz84_2, hfz84_3⟩ := cl4_ BK228; have p36 : 0 ≤ (a2_2 : Int) := asm_; have q36 : (a2_2 : Int) < 4 := asm_; have hx36 : w82.cell? ⟨gb228, (a2_2 : Int).toNat, none⟩ = some (.int .i16 (rd [aup a2_1 0 (IntKind.i16.wrap ((rd [a1_0, a1_1, a1_2, a1_3] a2_1) - (ji31))) a1_0, aup a2_1 1 (IntKind.i16.wrap ((rd [a1_0, a1_1, a1_2, a1_3] a2_1) - (ji31))) a1_1, aup a2_1 2 (IntKind.i16.wrap ((rd [a1_0, a1_1, a1_2, a1_3] a2_1) - (ji31))) a1_2, aup a2_1 3 (IntKind.i16.wrap ((rd [a1_0, a1_1, a1_2, a1_3] a2_1) - (ji31))) a1_3] a2_2)) := ard_cell (k := .i16) (l := [aup a2_1 0 (IntKind.i16.wrap ((rd [a1_0, a1_1, a1_2, a1_3] a2_1) - (ji31))) a1_0, aup a2_1 1 (IntKind.i16.wrap ((rd [a1_0, a1_1, a1_2, a1_3] a2_1) - (ji31))) a1_1, aup a2_1 2 (IntKind.i16.wrap ((rd [a1_0, a1_1, a1_2, a1_3] a2_1) - (ji31))) a1_2, aup a2_1 3 (IntKind.i16.wrap ((rd [a1_0, a1_1, a1_2, a1_3] a2_1) - (ji31))) a1_3]) BK228.out p36 q36; have hf36 := blk_frozen BK228.out (a2_2 : Int).toNat; have P36 := Aside0.mk p36; have Q36 := Aside0.mk q36; replace p36 := eq_true p36; replace q36 := eq_true q36; have p37 : 0 ≤ (a2_2 : Int) := asm_; have q37 : (a2_2 : Int) < 4 := asm_; have hx37 : w82.cell? ⟨gb228, (a2_2 : Int).toNat, none⟩ = some (.int .i16 (rd [aup a2_1 0 (IntKind.i16.wrap ((rd [a1_0, a1_1, a1_2, a1_3] a2_1) - (ji31))) a1_0, aup a2_1 1 (IntKind.i16.wrap ((rd [a1_0, a1_1, a1_2, a1_3] a2_1) - (ji31))) a1_1, aup a2_1 2 (IntKind.i16.wrap ((rd [a1_0, a1_1, a1_2, a1_3] a2_1) - (ji31))) a1_2, aup a2_1 3 (IntKind.i16.wrap ((rd [a1_0, a1_1, a1_2, a1_3] a2_1) - (ji31))) a1_3] a2_2)) := ard_cell (k := .i16) (l := [aup a2_1 0 (IntKind.i16.wrap ((rd [a1_0, a1_1, a1_2, a1_3] a2_1) - (ji31))) a1_0, aup a2_1 1 (IntKind.i16.wrap ((rd [a1_0, a1_1, a1_2, a1_3] a2_1) - (ji31))) a1_1, aup a2_1 2 (IntKind.i16.wrap ((rd [a1_0, a1_1, a1_2, a1_3] a2_1) - (ji31))) a1_2, aup a2_1 3 (IntKind.i16.wrap ((rd [a1_0, a1_1, a1_2, a1_3] a2_1) - (ji31))) a1_3]) BK228.out p37 q37; have hf37 := blk_frozen BK228.out (a2_2 : Int).toNat; have P37 := Aside0.mk p37; have Q37 := Aside0.mk q37; replace p37 := eq_true p37; replace q37 := eq_true q37) | ((with_reducible refine gate_store (t := 23) (p := 44) rfl ?_); refine store_event (t := 23) (p := 44) (v := ?vo_w86) (w1 := (w82.setCell ⟨gb228, (a2_2 : Int).toNat, none⟩ (.int .i16 (IntKind.i16.wrap ((rd [aup a2_1 0 (IntKind.i16.wrap ((rd [a1_0, a1_1, a1_2, a1_3] a2_1) - (ji31))) a1_0, aup a2_1 1 (IntKind.i16.wrap ((rd [a1_0, a1_1, a1_2, a1_3] a2_1) - (ji31))) a1_1, aup a2_1 2 (IntKind.i16.wrap ((rd [a1_0, a1_1, a1_2, a1_3] a2_1) - (ji31))) a1_2, aup a2_1 3 (IntKind.i16.wrap ((rd [a1_0, a1_1, a1_2, a1_3] a2_1) - (ji31))) a1_3] a2_2) + (ji31)))))) ?hg ?ho ?hn ?hr ?_; (case ho => rfl); (case hg => rfl); (case hn => rfl); (case hr => first | (go_simp; done) | (go_simp; rfl)); intro w86 hw; have n0_ : Aside0 (w86.heap[gb224]? = some (.cells #[.slice (some ad229) l0_0.length c0_0, .int .i16 a0_1, .int .i16 a0_2, .int .i16 a0_3, .int .i16 a0_4, .bool a0_5] 32 (0, 0))) := ⟨(by rw [hw]; exact (pf_ BK224 NB224_228))⟩; have n1_ : Aside0 (w86.heap[gb225]? = some (.cells #[.int .i16 a1_0, .int .i16 a1_1, .int .i16 a1_2, .int .i16 a1_3] 30 (0, 0))) := ⟨(by rw [hw]; exact (pf_ BK225 NB225_228))⟩; have n2_ : Aside0 (w86.heap[gb226]? = some (.cells #[.int .i8 a2_0, .int .i8 a2_1, .int .i8 a2_2] 60 (0, 0))) := ⟨(by rw [hw]; exact (pf_ BK226 NB226_228))⟩; have n3_ : Aside0 (w86.heap[gb227]? = some (.cells #[.int .i16 0, .int .i16 0, .int .i16 0, .int .i16 0] 30 (0, 0))) := ⟨(by rw [hw]; exact (pf_ BK227 NB227_228))⟩; have n4_ : Aside0 (w86.heap[gb228]? = some (.cells #[.int .i16 (aup a2_2 0 (IntKind.i16.wrap ((rd [aup a2_1 0 (IntKind.i16.wrap ((rd [a1_0, a1_1, a1_2, a1_3] a2_1) - (ji31))) a1_0, aup a2_1 1 (IntKind.i16.wrap ((rd [a1_0, a1_1, a1_2, a1_3] a2_1) - (ji31))) a1_1, aup a2_1 2 (IntKind.i16.wrap ((rd [a1_0, a1_1, a1_2, a1_3] a2_1) - (ji31))) a1_2, aup a2_1 3 (IntKind.i16.wrap ((rd [a1_0, a1_1, a1_2, a1_3] a2_1) - (ji31))) a1_3] a2_2) + (ji31))) (aup a2_1 0 (IntKind.i16.wrap ((rd [a1_0, a1_1, a1_2, a1_3] a2_1) - (ji31))) a1_0)), .int .i16 (aup a2_2 1 (IntKind.i16.wrap ((rd [aup a2_1 0 (IntKind.i16.wrap ((rd [a1_0, a1_1, a1_2, a1_3] a2_1) - (ji31))) a1_0, aup a2_1 1 (IntKind.i16.wrap ((rd [a1_0, a1_1, a1_2, a1_3] a2_1) - (ji31))) a1_1, aup a2_1 2 (IntKind.i16.wrap ((rd [a1_0, a1_1, a1_2, a1_3] a2_1) - (ji31))) a1_2, aup a2_1 3 (IntKind.i16.wrap ((rd [a1_0, a1_1, a1_2, a1_3] a2_1) - (ji31))) a1_3] a2_2) + (ji31))) (aup a2_1 1 (IntKind.i16.wrap ((rd [a1_0, a1_1, a1_2, a1_3] a2_1) - (ji31))) a1_1)), .int .i16 (aup a2_2 2 (IntKind.i16.wrap ((rd [aup a2_1 0 (IntKind.i16.wrap ((rd [a1_0, a1_1, a1_2, a1_3] a2_1) - (ji31))) a1_0, aup a2_1 1 (IntKind.i16.wrap ((rd [a1_0, a1_1, a1_2, a1_3] a2_1) - (ji31))) a1_1, aup a2_1 2 (IntKind.i16.wrap ((rd [a1_0, a1_1, a1_2, a1_3] a2_1) - (ji31))) a1_2, aup a2_1 3 (IntKind.i16.wrap ((rd [a1_0, a1_1, a1_2, a1_3] a2_1) - (ji31))) a1_3] a2_2) + (ji31))) (aup a2_1 2 (IntKind.i16.wrap ((rd [a1_0, a1_1, a1_2, a1_3] a2_1) - (ji31))) a1_2)), .int .i16 (aup a2_2 3 (IntKind.i16.wrap ((rd [aup a2_1 0 (IntKind.i16.wrap ((rd [a1_0, a1_1, a1_2, a1_3] a2_1) - (ji31))) a1_0, aup a2_1 1 (IntKind.i16.wrap ((rd [a1_0, a1_1, a1_2, a1_3] a2_1) - (ji31))) a1_1, aup a2_1 2 (IntKind.i16.wrap ((rd [a1_0, a1_1, a1_2, a1_3] a2_1) - (ji31))) a1_2, aup a2_1 3 (IntKind.i16.wrap ((rd [a1_0, a1_1, a1_2, a1_3] a2_1) - (ji31))) a1_3] a2_2) + (ji31))) (aup a2_1 3 (IntKind.i16.wrap ((rd [a1_0, a1_1, a1_2, a1_3] a2_1) - (ji31))) a1_3))] 30 (0, 0))) := ⟨(by rw [hw]; exact (by (with_reducible repeat (first | refine blk_drewN ?_ _ | refine blk_drew ?_ | refine blk_alloc ?_ _)); refine blk_put (cs := #[.int .i16 (aup a2_1 0 (IntKind.i16.wrap ((rd [a1_0, a1_1, a1_2, a1_3] a2_1) - (ji31))) a1_0), .int .i16 (aup a2_1 1 (IntKind.i16.wrap ((rd [a1_0, a1_1, a1_2, a1_3] a2_1) - (ji31))) a1_1), .int .i16 (aup a2_1 2 (IntKind.i16.wrap ((rd [a1_0, a1_1, a1_2, a1_3] a2_1) - (ji31))) a1_2), .int .i16 (aup a2_1 3 (IntKind.i16.wrap ((rd [a1_0, a1_1, a1_2, a1_3] a2_1) - (ji31))) a1_3)]) ?_ (a2_2 : Int).toNat _ (ups_set (k := .i16) (l := [aup a2_1 0 (IntKind.i16.wrap ((rd [a1_0, a1_1, a1_2, a1_3] a2_1) - (ji31))) a1_0, aup a2_1 1 (IntKind.i16.wrap ((rd [a1_0, a1_1, a1_2, a1_3] a2_1) - (ji31))) a1_1, aup a2_1 2 (IntKind.i16.wrap ((rd [a1_0, a1_1, a1_2, a1_3] a2_1) - (ji31))) a1_2, aup a2_1 3 (IntKind.i16.wrap ((rd [a1_0, a1_1, a1_2, a1_3] a2_1) - (ji31))) a1_3]) P37.out); (with_reducible repeat (first | refine blk_drewN ?_ _ | refine blk_drew ?_ | refine blk_alloc ?_ _)); exact BK228.out))⟩; have n5_ : Aside0 (Below w.heap.size w w86) := ⟨(by rw [hw]; exact (bs_ HB GE228))⟩; clear hw; clear BK224; clear BK225; clear BK226; clear BK227; clear BK228; clear HB; have BK224 := n0_; have BK225 := n1_; have BK226 := n2_; have BK227 := n3_; have BK228 := n4_; have HB := n5_; clear n0_ n1_ n2_ n3_ n4_ n5_; obtain ⟨hcz87_0, hcz87_1, hcz87_2, hcz87_3, hfz87_0, hfz87_1, hfz87_2, hfz87_3⟩ := cl4_ BK228; obtain ⟨hcz88_0, hcz88_1, hcz88_2, hfz88_0, hfz88_1, hfz88_2⟩ := cl3_ BK226; obtain ⟨hcz89_0, hcz89_1, hcz89_2, hcz89_3, hfz89_0, hfz89_1, hfz89_2, hfz89_3⟩ := cl4_ BK227))
         refine bodyPost_ret (results_ct rfl _ _ gb227 30 #[.int .i16 (aup a2_2 0 (IntKind.i16.wrap ((rd [aup a2_1 0 (IntKind.i16.wrap ((rd [a1_0, a1_1, a1_2, a1_3] a2_1) - (ji31))) a1_0, aup a2_1 1 (IntKind.i16.wrap ((rd [a1_0, a1_1, a1_2, a1_3] a2_1) - (ji31))) a1_1, aup a2_1 2 (IntKind.i16.wrap ((rd [a1_0, a1_1, a1_2, a1_3] a2_1) - (ji31))) a1_2, aup a2_1 3 (IntKind.i16.wrap ((rd [a1_0, a1_1, a1_2, a1_3] a2_1) - (ji31))) a1_3] a2_2) + (ji31))) (aup a2_1 0 (IntKind.i16.wrap ((rd [a1_0, a1_1, a1_2, a1_3] a2_1) - (ji31))) a1_0)), .int .i16 (aup a2_2 1 (IntKind.i16.wrap ((rd [aup a2_1 0 (IntKind.i16.wrap ((rd [a1_0, a1_1, a1_2, a1_3] a2_1) - (ji31))) a1_0, aup a2_1 1 (IntKind.i16.wrap ((rd [a1_0, a1_1, a1_2, a1_3] a2_1) - (ji31))) a1_1, aup a2_1 2 (IntKind.i16.wrap ((rd [a1_0, a1_1, a1_2, a1_3] a2_1) - (ji31))) a1_2, aup a2_1 3 (IntKind.i16.wrap ((rd [a1_0, a1_1, a1_2, a1_3] a2_1) - (ji31))) a1_3] a2_2) + (ji31))) (aup a2_1 1 (IntKind.i16.wrap ((rd [a1_0, a1_1, a1_2, a1_3] a2_1) - (ji31))) a1_1)), .int .i16 (aup a2_2 2 (IntKind.i16.wrap ((rd [aup a2_1 0 (IntKind.i16.wrap ((rd [a1_0, a1_1, a1_2, a1_3] a2_1) - (ji31))) a1_0, aup a2_1 1 (IntKind.i16.wrap ((rd [a1_0, a1_1, a1_2, a1_3] a2_1) - (ji31))) a1_1, aup a2_1 2 (IntKind.i16.wrap ((rd [a1_0, a1_1, a1_2, a1_3] a2_1) - (ji31))) a1_2, aup a2_1 3 (IntKind.i16.wrap ((rd [a1_0, a1_1, a1_2, a1_3] a2_1) - (ji31))) a1_3] a2_2) + (ji31))) (aup a2_1 2 (IntKind.i16.wrap ((rd [a1_0, a1_1, a1_2, a1_3] a2_1) - (ji31))) a1_2)), .int .i16 (aup a2_2 3 (IntKind.i16.wrap ((rd [aup a2_1 0 (IntKind.i16.wrap ((rd [a1_0, a1_1, a1_2, a1_3] a2_1) - (ji31))) a1_0, aup a2_1 1 (IntKind.i16.wrap ((rd [a1_0, a1_1, a1_2, a1_3] a2_1) - (ji31))) a1_1, aup a2_1 2 (IntKind.i16.wrap ((rd [a1_0, a1_1, a1_2, a1_3] a2_1) - (ji31))) a1_2, aup a2_1 3 (IntKind.i16.wrap ((rd [a1_0, a1_1, a1_2, a1_3] a2_1) - (ji31))) a1_3] a2_2) + (ji31))) (aup a2_1 3 (IntKind.i16.wrap ((rd [a1_0, a1_1, a1_2, a1_3] a2_1) - (ji31))) a1_3))] (0, 0) _ rfl (by (with_reducible repeat (first | refine blk_drewN ?_ _ | refine blk_drew ?_ | refine blk_alloc ?_ _)); refine blk_put (cs := #[.int .i16 (aup a2_2 0 (IntKind.i16.wrap ((rd [aup a2_1 0 (IntKind.i16.wrap ((rd [a1_0, a1_1, a1_2, a1_3] a2_1) - (ji31))) a1_0, aup a2_1 1 (IntKind.i16.wrap ((rd [a1_0, a1_1, a1_2, a1_3] a2_1) - (ji31))) a1_1, aup a2_1 2 (IntKind.i16.wrap ((rd [a1_0, a1_1, a1_2, a1_3] a2_1) - (ji31))) a1_2, aup a2_1 3 (IntKind.i16.wrap ((rd [a1_0, a1_1, a1_2, a1_3] a2_1) - (ji31))) a1_3] a2_2) + (ji31))) (aup a2_1 0 (IntKind.i16.wrap ((rd [a1_0, a1_1, a1_2, a1_3] a2_1) - (ji31))) a1_0)), .int .i16 (aup a2_2 1 (IntKind.i16.wrap ((rd [aup a2_1 0 (IntKind.i16.wrap ((rd [a1_0, a1_1, a1_2, a1_3] a2_1) - (ji31))) a1_0, aup a2_1 1 (IntKind.i16.wrap ((rd [a1_0, a1_1, a1_2, a1_3] a2_1) - (ji31))) a1_1, aup a2_1 2 (IntKind.i16.wrap ((rd [a1_0, a1_1, a1_2, a1_3] a2_1) - (ji31))) a1_2, aup a2_1 3 (IntKind.i16.wrap ((rd [a1_0, a1_1, a1_2, a1_3] a2_1) - (ji31))) a1_3] a2_2) + (ji31))) (aup a2_1 1 (IntKind.i16.wrap ((rd [a1_0, a1_1, a1_2, a1_3] a2_1) - (ji31))) a1_1)), .int .i16 (aup a2_2 2 (IntKind.i16.wrap ((rd [aup a2_1 0 (IntKind.i16.wrap ((rd [a1_0, a1_1, a1_2, a1_3] a2_1) - (ji31))) a1_0, aup a2_1 1 (IntKind.i16.wrap ((rd [a1_0, a1_1, a1_2, a1_3] a2_1) - (ji31))) a1_1, aup a2_1 2 (IntKind.i16.wrap ((rd [a1_0, a1_1, a1_2, a1_3] a2_1) - (ji31))) a1_2, aup a2_1 3 (IntKind.i16.wrap ((rd [a1_0, a1_1, a1_2, a1_3] a2_1) - (ji31))) a1_3] a2_2) + (ji31))) (aup a2_1 2 (IntKind.i16.wrap ((rd [a1_0, a1_1, a1_2, a1_3] a2_1) - (ji31))) a1_2)), .int .i16 0]) ?_ 3 _ rfl; (with_reducible repeat (first | refine blk_drewN ?_ _ | refine blk_drew ?_ | refine blk_alloc ?_ _)); refine blk_put (cs := #[.int .i16 (aup a2_2 0 (IntKind.i16.wrap ((rd [aup a2_1 0 (IntKind.i16.wrap ((rd [a1_0, a1_1, a1_2, a1_3] a2_1) - (ji31))) a1_0, aup a2_1 1 (IntKind.i16.wrap ((rd [a1_0, a1_1, a1_2, a1_3] a2_1) - (ji31))) a1_1, aup a2_1 2 (IntKind.i16.wrap ((rd [a1_0, a1_1, a1_2, a1_3] a2_1) - (ji31))) a1_2, aup a2_1 3 (IntKind.i16.wrap ((rd [a1_0, a1_1, a1_2, a1_3] a2_1) - (ji31))) a1_3] a2_2) + (ji31))) (aup a2_1 0 (IntKind.i16.wrap ((rd [a1_0, a1_1, a1_2, a1_3] a2_1) - (ji31))) a1_0)), .int .i16 (aup a2_2 1 (IntKind.i16.wrap ((rd [aup a2_1 0 (IntKind.i16.wrap ((rd [a1_0, a1_1, a1_2, a1_3] a2_1) - (ji31))) a1_0, aup a2_1 1 (IntKind.i16.wrap ((rd [a1_0, a1_1, a1_2, a1_3] a2_1) - (ji31))) a1_1, aup a2_1 2 (IntKind.i16.wrap ((rd [a1_0, a1_1, a1_2, a1_3] a2_1) - (ji31))) a1_2, aup a2_1 3 (IntKind.i16.wrap ((rd [a1_0, a1_1, a1_2, a1_3] a2_1) - (ji31))) a1_3] a2_2) + (ji31))) (aup a2_1 1 (IntKind.i16.wrap ((rd [a1_0, a1_1, a1_2, a1_3] a2_1) - (ji31))) a1_1)), .int .i16 0, .int .i16 0]) ?_ 2 _ rfl; (with_reducible repeat (first | refine blk_drewN ?_ _ | refine blk_drew ?_ | refine blk_alloc ?_ _)); refine blk_put (cs := #[.int .i16 (aup a2_2 0 (IntKind.i16.wrap ((rd [aup a2_1 0 (IntKind.i16.wrap ((rd [a1_0, a1_1, a1_2, a1_3] a2_1) - (ji31))) a1_0, aup a2_1 1 (IntKind.i16.wrap ((rd [a1_0, a1_1, a1_2, a1_3] a2_1) - (ji31))) a1_1, aup a2_1 2 (IntKind.i16.wrap ((rd [a1_0, a1_1, a1_2, a1_3] a2_1) - (ji31))) a1_2, aup a2_1 3 (IntKind.i16.wrap ((rd [a1_0, a1_1, a1_2, a1_3] a2_1) - (ji31))) a1_3] a2_2) + (ji31))) (aup a2_1 0 (IntKind.i16.wrap ((rd [a1_0, a1_1, a1_2, a1_3] a2_1) - (ji31))) a1_0)), .int .i16 0, .int .i16 0, .int .i16 0]) ?_ 1 _ rfl; (with_reducible repeat (first | refine blk_drewN ?_ _ | refine blk_drew ?_ | refine blk_alloc ?_ _)); refine blk_put (cs := #[.int .i16 0, .int .i16 0, .int .i16 0, .int .i16 0]) ?_ 0 _ rfl; (with_reducible repeat (first | refine blk_drewN ?_ _ | refine blk_drew ?_ | refine blk_alloc ?_ _)); exact BK227.out) Try.underlying30 rfl (by kernel_rfl)) rfl ?_
         exact ⟨by first | rfl | (simp [errW_none, errW_some] <;> rfl) | (simp only [← hji31]; first | rfl | (simp [errW_none, errW_some] <;> rfl)) | (simp [*, errW_none, errW_some] <;> rfl), bs_ HB GE227⟩
       ·rw [if_neg c29] at H
        exact absurd H (by simp)
      ·rw [if_neg c28] at H
       exact absurd H (by simp)
     ·rw [if_neg c27] at H
      exact absurd H (by simp)
    ·rw [if_neg c25] at H
     exact absurd H (by simp)
   ·rw [if_neg c24] at H
    exact absurd H (by simp)
  ·rw [if_neg c22] at H
   have c22b0 : (a2_0 == 0) = false := beq_eq_false_iff_ne.mpr c22
   have c22b1 : (a2_0 != 0) = true := bne_iff_ne.mpr c22
   (first | rw [c22b0] | (simp only [i64_w, i32_w]; rw [c22b0]) | skip)
   by_cases c90 : a2_0 = 1
   ·rw [if_pos c90] at H
    have c90b0 : (a2_0 == 1) = true := beq_iff_eq.mpr c90
    have c90b1 : (a2_0 != 1) = false := bne_eq_false_iff_eq.mpr c90
    clear c90
    by_cases c92 : 0 ≤ a2_1
    ·rw [if_pos c92] at H
     have c92b0 : decide (0 ≤ a2_1) = true := decide_eq_true c92
     clear c92
     by_cases c93 : a2_1 < (l0_0.length : Int)
     ·rw [if_pos c93] at H
      have c93b0 : decide (a2_1 < (l0_0.length : Int)) = true := decide_eq_true c93
      clear c93
      by_cases c94 : a2_1 < 4
      ·rw [if_pos c94] at H
       have c94b0 : decide (a2_1 < 4) = true := decide_eq_true c94
       clear c94
       have H' := Aside0.mk H
       clear H
       try go_wp2
       have n0_ : Aside0 (((((w13.setCell ⟨gb228, 0, none⟩ (.int .i16 a1_0)).setCell ⟨gb228, 1, none⟩ (.int .i16 a1_1)).setCell ⟨gb228, 2, none⟩ (.int .i16 a1_2)).setCell ⟨gb228, 3, none⟩ (.int .i16 a1_3)).heap[gb224]? = some (.cells #[.slice A0_0 l0_0.length c0_0, .int .i16 a0_1, .int .i16 a0_2, .int .i16 a0_3, .int .i16 a0_4, .bool a0_5] 32 (0, 0))) := ⟨pf_ BK224 NB224_228⟩
       have n1_ : Aside0 (((((w13.setCell ⟨gb228, 0, none⟩ (.int .i16 a1_0)).setCell ⟨gb228, 1, none⟩ (.int .i16 a1_1)).setCell ⟨gb228, 2, none⟩ (.int .i16 a1_2)).setCell ⟨gb228, 3, none⟩ (.int .i16 a1_3)).heap[gb225]? = some (.cells #[.int .i16 a1_0, .int .i16 a1_1, .int .i16 a1_2, .int .i16 a1_3] 30 (0, 0))) := ⟨pf_ BK225 NB225_228⟩
       have n2_ : Aside0 (((((w13.setCell ⟨gb228, 0, none⟩ (.int .i16 a1_0)).setCell ⟨gb228, 1, none⟩ (.int .i16 a1_1)).setCell ⟨gb228, 2, none⟩ (.int .i16 a1_2)).setCell ⟨gb228, 3, none⟩ (.int .i16 a1_3)).heap[gb226]? = some (.cells #[.int .i8 a2_0, .int .i8 a2_1, .int .i8 a2_2] 60 (0, 0))) := ⟨pf_ BK226 NB226_228⟩
       have n3_ : Aside0 (((((w13.setCell ⟨gb228, 0, none⟩ (.int .i16 a1_0)).setCell ⟨gb228, 1, none⟩ (.int .i16 a1_1)).setCell ⟨gb228, 2, none⟩ (.int .i16 a1_2)).setCell ⟨gb228, 3, none⟩ (.int .i16 a1_3)).heap[gb227]? = some (.cells #[.int .i16 0, .int .i16 0, .int .i16 0, .int .i16 0] 30 (0, 0))) := ⟨pf_ BK227 NB227_228⟩
       have n4_ : Aside0 (((((w13.setCell ⟨gb228, 0, none⟩ (.int .i16 a1_0)).setCell ⟨gb228, 1, none⟩ (.int .i16 a1_1)).setCell ⟨gb228, 2, none⟩ (.int .i16 a1_2)).setCell ⟨gb228, 3, none⟩ (.int .i16 a1_3)).heap[gb228]? = some (.cells #[.int .i16 a1_0, .int .i16 a1_1, .int .i16 a1_2, .int .i16 a1_3] 30 (0, 0))) := ⟨by (with_reducible repeat (first | refine blk_drewN ?_ _ | refine blk_drew ?_ | refine blk_alloc ?_ _)); refine blk_put (cs := #[.int .i16 a1_0, .int .i16 a1_1, .int .i16 a1_2, .int .i16 0]) ?_ 3 _ rfl; (with_reducible repeat (first | refine blk_drewN ?_ _ | refine blk_drew ?_ | refine blk_alloc ?_ _)); refine blk_put (cs := #[.int .i16 a1_0, .int .i16 a1_1, .int .i16 0, .int .i16 0]) ?_ 2 _ rfl; (with_reducible repeat (first | refine blk_drewN ?_ _ | refine blk_drew ?_ | refine blk_alloc ?_ _)); refine blk_put (cs := #[.int .i16 a1_0, .int .i16 0, .int .i16 0, .int .i16 0]) ?_ 1 _ rfl; (with_reducible repeat (first | refine blk_drewN ?_ _ | refine blk_drew ?_ | refine blk_alloc ?_ _)); refine blk_put (cs := #[.int .i16 0, .int .i16 0, .int .i16 0, .int .i16 0]) ?_ 0 _ rfl; (with_reducible repeat (first | refine blk_drewN ?_ _ | refine blk_drew ?_ | refine blk_alloc ?_ _)); exact BK228.out⟩
       have n5_ : Aside0 (Below w.heap.size w ((((w13.setCell ⟨gb228, 0, none⟩ (.int .i16 a1_0)).setCell ⟨gb228, 1, none⟩ (.int .i16 a1_1)).setCell ⟨gb228, 2, none⟩ (.int .i16 a1_2)).setCell ⟨gb228, 3, none⟩ (.int .i16 a1_3))) := ⟨bs_ HB GE228⟩
       (try clear BK224)
       (try clear BK225)
       (try clear BK226)
       (try clear BK227)
       (try clear BK228)
       (try clear HB)
       generalize ((((w13.setCell ⟨gb228, 0, none⟩ (.int .i16 a1_0)).setCell ⟨gb228, 1, none⟩ (.int .i16 a1_1)).setCell ⟨gb228, 2, none⟩ (.int .i16 a1_2)).setCell ⟨gb228, 3, none⟩ (.int .i16 a1_3)) = w97 at n0_ n1_ n2_ n3_ n4_ n5_ ⊢
       have BK224 := n0_
       have BK225 := n1_
       have BK226 := n2_
       have BK227 := n3_
       have BK228 := n4_
       have HB := n5_
       clear n0_ n1_ n2_ n3_ n4_ n5_
       refine wp_region_still_tail 8 (by kernel_rfl) (by kernel_rfl) ?_
       simp only [List.take_succ_cons, List.take_zero, List.drop_succ_cons, List.drop_zero]
       refine tail_shown ?_
       have n0_ := A_ (blk_drew BK224.out)
       have n1_ := A_ (blk_drew BK225.out)
       have n2_ := A_ (blk_drew BK226.out)
       have n3_ := A_ (blk_drew BK227.out)
       have n4_ := A_ (blk_drew BK228.out)
       have n5_ := A_ (below_drew1 HB.out)
       clear BK224
       clear BK225
       clear BK226
       clear BK227
       clear BK228
       clear HB
       have BK224 := n0_
       have BK225 := n1_
       have BK226 := n2_
       have BK227 := n3_
       have BK228 := n4_
       have HB := n5_
       clear n0_ n1_ n2_ n3_ n4_ n5_
       generalize w97.drew = w98 at BK224 BK225 BK226 BK227 BK228 HB ⊢
       have hnb99 := NB226_224.out
       have hnc99 := NB224_226.out
       have hnb100 := NB226_225.out
       have hnc100 := NB225_226.out
       have hnb101 := NB226_227.out
       have hnc101 := NB227_226.out
       have hnb102 := NB226_228.out
       have hnc102 := NB228_226.out
       obtain ⟨hcz103_0, hcz103_1, hcz103_2, hfz103_0, hfz103_1, hfz103_2⟩ := cl3_ BK226
       have hnb104 := NB224_225.out
       have hnc104 := NB225_224.out
       have hnb105 := NB224_227.out
       have hnc105 := NB227_224.out
       have hnb106 := NB224_228.out
       have hnc106 := NB228_224.out
       obtain ⟨hcz107_0, hcz107_1, hcz107_2, hcz107_3, hcz107_4, hcz107_5, hfz107_0, hfz107_1, hfz107_2, hfz107_3, hfz107_4, hfz107_5⟩ := cl6_ BK224
       have p230 : 0 ≤ (a2_1 : Int) := asm_
       have q230 : a2_1 < (l0_0.length : Int) := asm_
       obtain ⟨ad230, e230, hx230_0⟩ := Kd.at_int HR0_0.out a2_1 p230 q230
       cases e230
       (try replace hx230_0 := (HB.out.cell (World.block_lt_of_cell? w _ hx230_0)).trans hx230_0)
       replace p230 := eq_true p230
       replace q230 := eq_true q230
       have hnb108 := NB228_225.out
       have hnc108 := NB225_228.out
       have hnb109 := NB228_227.out
       have hnc109 := NB227_228.out
       obtain ⟨hcz110_0, hcz110_1, hcz110_2, hcz110_3, hfz110_0, hfz110_1, hfz110_2, hfz110_3⟩ := cl4_ BK228
       have p95 : 0 ≤ (a2_1 : Int) := asm_
       have q95 : (a2_1 : Int) < 4 := asm_
       have hx95 : w98.cell? ⟨gb228, (a2_1 : Int).toNat, none⟩ = some (.int .i16 (rd [a1_0, a1_1, a1_2, a1_3] a2_1)) := ard_cell (k := .i16) (l := [a1_0, a1_1, a1_2, a1_3]) BK228.out p95 q95
       have hf95 := blk_frozen BK228.out (a2_1 : Int).toNat
       have P95 := Aside0.mk p95
       have Q95 := Aside0.mk q95
       replace p95 := eq_true p95
       replace q95 := eq_true q95
       repeat still_step
       (try refine wpStill_nil ?_)
       (try simp only [i64_w, i32_w])
       try go_wp2_with (first | ((with_reducible refine gate_store (t := 23) (p := 65) rfl ?_); refine store_event (t := 23) (p := 65) (v := ?vo_w112) (w1 := (w98.setCell ⟨gb228, (a2_1 : Int).toNat, none⟩ (.int .i16 (rd l0_0 a2_1)))) ?hg ?ho ?hn ?hr ?_; (case ho => rfl); (case hg => rfl); (case hn => rfl); (case hr => first | (go_simp; done) | (go_simp; rfl)); intro w112 hw; have n0_ : Aside0 (w112.heap[gb224]? = some (.cells #[.slice (some ad230) l0_0.length c0_0, .int .i16 a0_1, .int .i16 a0_2, .int .i16 a0_3, .int .i16 a0_4, .bool a0_5] 32 (0, 0))) := ⟨(by rw [hw]; exact (pf_ BK224 NB224_228))⟩; have n1_ : Aside0 (w112.heap[gb225]? = some (.cells #[.int .i16 a1_0, .int .i16 a1_1, .int .i16 a1_2, .int .i16 a1_3] 30 (0, 0))) := ⟨(by rw [hw]; exact (pf_ BK225 NB225_228))⟩; have n2_ : Aside0 (w112.heap[gb226]? = some (.cells #[.int .i8 a2_0, .int .i8 a2_1, .int .i8 a2_2] 60 (0, 0))) := ⟨(by rw [hw]; exact (pf_ BK226 NB226_228))⟩; have n3_ : Aside0 (w112.heap[gb227]? = some (.cells #[.int .i16 0, .int .i16 0, .int .i16 0, .int .i16 0] 30 (0, 0))) := ⟨(by rw [hw]; exact (pf_ BK227 NB227_228))⟩; have n4_ : Aside0 (w112.heap[gb228]? = some (.cells #[.int .i16 (aup a2_1 0 (rd l0_0 a2_1) a1_0), .int .i16 (aup a2_1 1 (rd l0_0 a2_1) a1_1), .int .i16 (aup a2_1 2 (rd l0_0 a2_1) a1_2), .int .i16 (aup a2_1 3 (rd l0_0 a2_1) a1_3)] 30 (0, 0))) := ⟨(by rw [hw]; exact (by (with_reducible repeat (first | refine blk_drewN ?_ _ | refine blk_drew ?_ | refine blk_alloc ?_ _)); refine blk_put (cs := #[.int .i16 a1_0, .int .i16 a1_1, .int .i16 a1_2, .int .i16 a1_3]) ?_ (a2_1 : Int).toNat _ (ups_set (k := .i16) (l := [a1_0, a1_1, a1_2, a1_3]) P95.out); (with_reducible repeat (first | refine blk_drewN ?_ _ | refine blk_drew ?_ | refine blk_alloc ?_ _)); exact BK228.out))⟩; have n5_ : Aside0 (Below w.heap.size w w112) := ⟨(by rw [hw]; exact (bs_ HB GE228))⟩; clear hw; clear BK224; clear BK225; clear BK226; clear BK227; clear BK228; clear HB; have BK224 := n0_; have BK225 := n1_; have BK226 := n2_; have BK227 := n3_; have BK228 := n4_; have HB := n5_; clear n0_ n1_ n2_ n3_ n4_ n5_))
       go_meet
       case rel => exact ⟨_, (0), (0), (0), (0), (aup a2_1 0 (rd l0_0 a2_1) a1_0), (aup a2_1 1 (rd l0_0 a2_1) a1_1), (aup a2_1 2 (rd l0_0 a2_1) a1_2), (aup a2_1 3 (rd l0_0 a2_1) a1_3), H', ⟨by first | omega | exact Nat.le_refl _⟩, ⟨pl_ BK224⟩, ⟨pl_ BK225⟩, ⟨pl_ BK226⟩, ⟨pl_ BK227⟩, ⟨pl_ BK228⟩, ⟨bl_ HB⟩⟩
      ·rw [if_neg c94] at H
       exact absurd H (by simp)
     ·rw [if_neg c93] at H
      exact absurd H (by simp)
    ·rw [if_neg c92] at H
     exact absurd H (by simp)
   ·rw [if_neg c90] at H
    have c90b0 : (a2_0 == 1) = false := beq_eq_false_iff_ne.mpr c90
    have c90b1 : (a2_0 != 1) = true := bne_iff_ne.mpr c90
    by_cases c113 : a2_0 = 2
    ·rw [if_pos c113] at H
     have c113b0 : (a2_0 == 2) = true := beq_iff_eq.mpr c113
     have c113b1 : (a2_0 != 2) = false := bne_eq_false_iff_eq.mpr c113
     clear c113
     by_cases c114 : 0 ≤ a2_1
     ·rw [if_pos c114] at H
      have c114b0 : decide (0 ≤ a2_1) = true := decide_eq_true c114
      clear c114
      by_cases c115 : a2_1 < 4
      ·rw [if_pos c115] at H
       have c115b0 : decide (a2_1 < 4) = true := decide_eq_true c115
       clear c115
       have H' := Aside0.mk H
       clear H
       have hnb118 := NB226_224.out
       have hnc118 := NB224_226.out
       have hnb119 := NB226_225.out
       have hnc119 := NB225_226.out
       have hnb120 := NB226_227.out
       have hnc120 := NB227_226.out
       have hnb121 := NB226_228.out
       have hnc121 := NB228_226.out
       obtain ⟨hcz122_0, hcz122_1, hcz122_2, hfz122_0, hfz122_1, hfz122_2⟩ := cl3_ BK226
       go_wp2_with (first | ((with_reducible refine gate_dst (N := 70) rfl ?_); have p116 : 0 ≤ (a2_1 : Int) := asm_; have q116 : (a2_1 : Int) < 4 := asm_; have P116 := Aside0.mk p116; have Q116 := Aside0.mk q116; replace p116 := eq_true p116; replace q116 := eq_true q116; refine addr_event ?hg (N := 70) ?hd (v := .pointer (some ⟨gb228, (a2_1 : Int).toNat, none⟩)) ?hr ?_; (case hd => rfl); (case hg => rfl); (case hr => first | (go_simp; done) | (go_simp; rfl)); have n0_ : Aside0 (((((w13.setCell ⟨gb228, 0, none⟩ (.int .i16 a1_0)).setCell ⟨gb228, 1, none⟩ (.int .i16 a1_1)).setCell ⟨gb228, 2, none⟩ (.int .i16 a1_2)).setCell ⟨gb228, 3, none⟩ (.int .i16 a1_3)).heap[gb224]? = some (.cells #[.slice A0_0 l0_0.length c0_0, .int .i16 a0_1, .int .i16 a0_2, .int .i16 a0_3, .int .i16 a0_4, .bool a0_5] 32 (0, 0))) := ⟨pf_ BK224 NB224_228⟩; have n1_ : Aside0 (((((w13.setCell ⟨gb228, 0, none⟩ (.int .i16 a1_0)).setCell ⟨gb228, 1, none⟩ (.int .i16 a1_1)).setCell ⟨gb228, 2, none⟩ (.int .i16 a1_2)).setCell ⟨gb228, 3, none⟩ (.int .i16 a1_3)).heap[gb225]? = some (.cells #[.int .i16 a1_0, .int .i16 a1_1, .int .i16 a1_2, .int .i16 a1_3] 30 (0, 0))) := ⟨pf_ BK225 NB225_228⟩; have n2_ : Aside0 (((((w13.setCell ⟨gb228, 0, none⟩ (.int .i16 a1_0)).setCell ⟨gb228, 1, none⟩ (.int .i16 a1_1)).setCell ⟨gb228, 2, none⟩ (.int .i16 a1_2)).setCell ⟨gb228, 3, none⟩ (.int .i16 a1_3)).heap[gb226]? = some (.cells #[.int .i8 a2_0, .int .i8 a2_1, .int .i8 a2_2] 60 (0, 0))) := ⟨pf_ BK226 NB226_228⟩; have n3_ : Aside0 (((((w13.setCell ⟨gb228, 0, none⟩ (.int .i16 a1_0)).setCell ⟨gb228, 1, none⟩ (.int .i16 a1_1)).setCell ⟨gb228, 2, none⟩ (.int .i16 a1_2)).setCell ⟨gb228, 3, none⟩ (.int .i16 a1_3)).heap[gb227]? = some (.cells #[.int .i16 0, .int .i16 0, .int .i16 0, .int .i16 0] 30 (0, 0))) := ⟨pf_ BK227 NB227_228⟩; have n4_ : Aside0 (((((w13.setCell ⟨gb228, 0, none⟩ (.int .i16 a1_0)).setCell ⟨gb228, 1, none⟩ (.int .i16 a1_1)).setCell ⟨gb228, 2, none⟩ (.int .i16 a1_2)).setCell ⟨gb228, 3, none⟩ (.int .i16 a1_3)).heap[gb228]? = some (.cells #[.int .i16 a1_0, .int .i16 a1_1, .int .i16 a1_2, .int .i16 a1_3] 30 (0, 0))) := ⟨by (with_reducible repeat (first | refine blk_drewN ?_ _ | refine blk_drew ?_ | refine blk_alloc ?_ _)); refine blk_put (cs := #[.int .i16 a1_0, .int .i16 a1_1, .int .i16 a1_2, .int .i16 0]) ?_ 3 _ rfl; (with_reducible repeat (first | refine blk_drewN ?_ _ | refine blk_drew ?_ | refine blk_alloc ?_ _)); refine blk_put (cs := #[.int .i16 a1_0, .int .i16 a1_1, .int .i16 0, .int .i16 0]) ?_ 2 _ rfl; (with_reducible repeat (first | refine blk_drewN ?_ _ | refine blk_drew ?_ | refine blk_alloc ?_ _)); refine blk_put (cs := #[.int .i16 a1_0, .int .i16 0, .int .i16 0, .int .i16 0]) ?_ 1 _ rfl; (with_reducible repeat (first | refine blk_drewN ?_ _ | refine blk_drew ?_ | refine blk_alloc ?_ _)); refine blk_put (cs := #[.int .i16 0, .int .i16 0, .int .i16 0, .int .i16 0]) ?_ 0 _ rfl; (with_reducible repeat (first | refine blk_drewN ?_ _ | refine blk_drew ?_ | refine blk_alloc ?_ _)); exact BK228.out⟩; have n5_ : Aside0 (Below w.heap.size w ((((w13.setCell ⟨gb228, 0, none⟩ (.int .i16 a1_0)).setCell ⟨gb228, 1, none⟩ (.int .i16 a1_1)).setCell ⟨gb228, 2, none⟩ (.int .i16 a1_2)).setCell ⟨gb228, 3, none⟩ (.int .i16 a1_3))) := ⟨bs_ HB GE228⟩; (try clear BK224); (try clear BK225); (try clear BK226); (try clear BK227); (try clear BK228); (try clear HB); generalize ((((w13.setCell ⟨gb228, 0, none⟩ (.int .i16 a1_0)).setCell ⟨gb228, 1, none⟩ (.int .i16 a1_1)).setCell ⟨gb228, 2, none⟩ (.int .i16 a1_2)).setCell ⟨gb228, 3, none⟩ (.int .i16 a1_3)) = w123 at n0_ n1_ n2_ n3_ n4_ n5_ ⊢; have BK224 := n0_; have BK225 := n1_; have BK226 := n2_; have BK227 := n3_; have BK228 := n4_; have HB := n5_; clear n0_ n1_ n2_ n3_ n4_ n5_; have hx116 : w123.cell? ⟨gb228, (a2_1 : Int).toNat, none⟩ = some (.int .i16 (rd [a1_0, a1_1, a1_2, a1_3] a2_1)) := ard_cell (k := .i16) (l := [a1_0, a1_1, a1_2, a1_3]) BK228.out P116.out Q116.out; have hf116 := blk_frozen BK228.out (a2_1 : Int).toNat) | ((with_reducible refine gate_store (t := 23) (p := 70) rfl ?_); refine store_event (t := 23) (p := 70) (v := ?vo_w125) (w1 := (w123.setCell ⟨gb228, (a2_1 : Int).toNat, none⟩ (.int .i16 0))) ?hg ?ho ?hn ?hr ?_; (case ho => rfl); (case hg => rfl); (case hn => rfl); (case hr => first | (go_simp; done) | (go_simp; rfl)); intro w125 hw; have n0_ : Aside0 (w125.heap[gb224]? = some (.cells #[.slice A0_0 l0_0.length c0_0, .int .i16 a0_1, .int .i16 a0_2, .int .i16 a0_3, .int .i16 a0_4, .bool a0_5] 32 (0, 0))) := ⟨(by rw [hw]; exact (pf_ BK224 NB224_228))⟩; have n1_ : Aside0 (w125.heap[gb225]? = some (.cells #[.int .i16 a1_0, .int .i16 a1_1, .int .i16 a1_2, .int .i16 a1_3] 30 (0, 0))) := ⟨(by rw [hw]; exact (pf_ BK225 NB225_228))⟩; have n2_ : Aside0 (w125.heap[gb226]? = some (.cells #[.int .i8 a2_0, .int .i8 a2_1, .int .i8 a2_2] 60 (0, 0))) := ⟨(by rw [hw]; exact (pf_ BK226 NB226_228))⟩; have n3_ : Aside0 (w125.heap[gb227]? = some (.cells #[.int .i16 0, .int .i16 0, .int .i16 0, .int .i16 0] 30 (0, 0))) := ⟨(by rw [hw]; exact (pf_ BK227 NB227_228))⟩; have n4_ : Aside0 (w125.heap[gb228]? = some (.cells #[.int .i16 (aup a2_1 0 0 a1_0), .int .i16 (aup a2_1 1 0 a1_1), .int .i16 (aup a2_1 2 0 a1_2), .int .i16 (aup a2_1 3 0 a1_3)] 30 (0, 0))) := ⟨(by rw [hw]; exact (by (with_reducible repeat (first | refine blk_drewN ?_ _ | refine blk_drew ?_ | refine blk_alloc ?_ _)); refine blk_put (cs := #[.int .i16 a1_0, .int .i16 a1_1, .int .i16 a1_2, .int .i16 a1_3]) ?_ (a2_1 : Int).toNat _ (ups_set (k := .i16) (l := [a1_0, a1_1, a1_2, a1_3]) P116.out); (with_reducible repeat (first | refine blk_drewN ?_ _ | refine blk_drew ?_ | refine blk_alloc ?_ _)); exact BK228.out))⟩; have n5_ : Aside0 (Below w.heap.size w w125) := ⟨(by rw [hw]; exact (bs_ HB GE228))⟩; clear hw; clear BK224; clear BK225; clear BK226; clear BK227; clear BK228; clear HB; have BK224 := n0_; have BK225 := n1_; have BK226 := n2_; have BK227 := n3_; have BK228 := n4_; have HB := n5_; clear n0_ n1_ n2_ n3_ n4_ n5_))
       go_meet
       case rel => exact ⟨_, (0), (0), (0), (0), (aup a2_1 0 0 a1_0), (aup a2_1 1 0 a1_1), (aup a2_1 2 0 a1_2), (aup a2_1 3 0 a1_3), H', ⟨by first | omega | exact Nat.le_refl _⟩, ⟨pl_ BK224⟩, ⟨pl_ BK225⟩, ⟨pl_ BK226⟩, ⟨pl_ BK227⟩, ⟨pl_ BK228⟩, ⟨bl_ HB⟩⟩
      ·rw [if_neg c115] at H
       exact absurd H (by simp)
     ·rw [if_neg c114] at H
      exact absurd H (by simp)
    ·rw [if_neg c113] at H
     have c113b0 : (a2_0 == 2) = false := beq_eq_false_iff_ne.mpr c113
     have c113b1 : (a2_0 != 2) = true := bne_iff_ne.mpr c113
     have H' := Aside0.mk H
     clear H
     go_wp2
     go_meet
     case rel => exact ⟨_, (0), (0), (0), (0), (a1_0), (a1_1), (a1_2), (a1_3), H', ⟨by first | omega | exact Nat.le_refl _⟩, ⟨pf_ BK224 NB224_228⟩, ⟨pf_ BK225 NB225_228⟩, ⟨pf_ BK226 NB226_228⟩, ⟨pf_ BK227 NB227_228⟩, ⟨by (with_reducible repeat (first | refine blk_drewN ?_ _ | refine blk_drew ?_ | refine blk_alloc ?_ _)); refine blk_put (cs := #[.int .i16 a1_0, .int .i16 a1_1, .int .i16 a1_2, .int .i16 0]) ?_ 3 _ rfl; (with_reducible repeat (first | refine blk_drewN ?_ _ | refine blk_drew ?_ | refine blk_alloc ?_ _)); refine blk_put (cs := #[.int .i16 a1_0, .int .i16 a1_1, .int .i16 0, .int .i16 0]) ?_ 2 _ rfl; (with_reducible repeat (first | refine blk_drewN ?_ _ | refine blk_drew ?_ | refine blk_alloc ?_ _)); refine blk_put (cs := #[.int .i16 a1_0, .int .i16 0, .int .i16 0, .int .i16 0]) ?_ 1 _ rfl; (with_reducible repeat (first | refine blk_drewN ?_ _ | refine blk_drew ?_ | refine blk_alloc ?_ _)); refine blk_put (cs := #[.int .i16 0, .int .i16 0, .int .i16 0, .int .i16 0]) ?_ 0 _ rfl; (with_reducible repeat (first | refine blk_drewN ?_ _ | refine blk_drew ?_ | refine blk_alloc ?_ _)); exact BK228.out⟩, ⟨bs_ HB GE228⟩⟩
 case rest =>
  clear HC4
  try clear c1
  try clear p1
  try clear q1
  try clear hx1
  try clear c2
  try clear p2
  try clear q2
  try clear hx2
  try clear c3
  try clear p3
  try clear q3
  try clear hx3
  try clear hf3
  try clear c4
  try clear c5
  try clear c6
  try clear c7
  try clear c8
  try clear c9
  try clear p9
  try clear q9
  try clear hx9
  try clear hf9
  try clear c10
  try clear c11
  try clear p11
  try clear q11
  try clear hx11
  try clear hf11
  try clear c12
  try clear c14
  try clear c15
  try clear c16
  try clear c17
  try clear c19
  try clear c20
  try clear c22
  try clear c22b0
  try clear c22b1
  try clear p22
  try clear q22
  try clear hx22
  try clear p23
  try clear q23
  try clear hx23
  try clear c24
  try clear c24b0
  try clear c25
  try clear c25b0
  try clear p26
  try clear q26
  try clear hx26
  try clear hf26
  try clear c27
  try clear c27b0
  try clear c28
  try clear c28b0
  try clear c29
  try clear c29b0
  try clear p30
  try clear q30
  try clear hx30
  try clear hf30
  try clear p33
  try clear q33
  try clear hx33
  try clear hf33
  try clear p34
  try clear q34
  try clear hx34
  try clear hf34
  try clear p36
  try clear q36
  try clear hx36
  try clear hf36
  try clear p37
  try clear q37
  try clear hx37
  try clear hf37
  try clear c39
  try clear c39b0
  try clear c39b1
  try clear c42
  try clear c43
  try clear c44
  try clear c45
  try clear c47
  try clear c48
  try clear c49
  try clear c51
  try clear c52
  try clear c54
  try clear c67
  try clear c68
  try clear c69
  try clear c70
  try clear c72
  try clear c73
  try clear c74
  try clear c76
  try clear c77
  try clear c79
  try clear c87
  try clear c90
  try clear c90b0
  try clear c90b1
  try clear c92
  try clear c92b0
  try clear c93
  try clear c93b0
  try clear c94
  try clear c94b0
  try clear p95
  try clear q95
  try clear hx95
  try clear hf95
  try clear c99
  try clear c100
  try clear c101
  try clear c102
  try clear c104
  try clear c105
  try clear c106
  try clear c108
  try clear c109
  try clear c113
  try clear c113b0
  try clear c113b1
  try clear c114
  try clear c114b0
  try clear c115
  try clear c115b0
  try clear p116
  try clear q116
  try clear hx116
  try clear hf116
  try clear c118
  try clear c119
  try clear c120
  try clear c121
  try clear hcz103_0
  try clear hcz103_1
  try clear hcz103_2
  try clear hcz107_0
  try clear hcz107_1
  try clear hcz107_2
  try clear hcz107_3
  try clear hcz107_4
  try clear hcz107_5
  try clear hcz110_0
  try clear hcz110_1
  try clear hcz110_2
  try clear hcz110_3
  try clear hcz122_0
  try clear hcz122_1
  try clear hcz122_2
  try clear hcz12_0
  try clear hcz12_1
  try clear hcz12_2
  try clear hcz12_3
  try clear hcz18_0
  try clear hcz18_1
  try clear hcz18_2
  try clear hcz18_3
  try clear hcz21_0
  try clear hcz21_1
  try clear hcz21_2
  try clear hcz46_0
  try clear hcz46_1
  try clear hcz46_2
  try clear hcz50_0
  try clear hcz50_1
  try clear hcz50_2
  try clear hcz50_3
  try clear hcz53_0
  try clear hcz53_1
  try clear hcz53_2
  try clear hcz53_3
  try clear hcz53_4
  try clear hcz53_5
  try clear hcz55_0
  try clear hcz55_1
  try clear hcz55_2
  try clear hcz55_3
  try clear hcz58_0
  try clear hcz58_1
  try clear hcz58_2
  try clear hcz59_0
  try clear hcz59_1
  try clear hcz59_2
  try clear hcz59_3
  try clear hcz62_0
  try clear hcz62_1
  try clear hcz62_2
  try clear hcz62_3
  try clear hcz63_0
  try clear hcz63_1
  try clear hcz63_2
  try clear hcz64_0
  try clear hcz64_1
  try clear hcz64_2
  try clear hcz64_3
  try clear hcz71_0
  try clear hcz71_1
  try clear hcz71_2
  try clear hcz75_0
  try clear hcz75_1
  try clear hcz75_2
  try clear hcz75_3
  try clear hcz78_0
  try clear hcz78_1
  try clear hcz78_2
  try clear hcz78_3
  try clear hcz78_4
  try clear hcz78_5
  try clear hcz80_0
  try clear hcz80_1
  try clear hcz80_2
  try clear hcz80_3
  try clear hcz83_0
  try clear hcz83_1
  try clear hcz83_2
  try clear hcz84_0
  try clear hcz84_1
  try clear hcz84_2
  try clear hcz84_3
  try clear hcz87_0
  try clear hcz87_1
  try clear hcz87_2
  try clear hcz87_3
  try clear hcz88_0
  try clear hcz88_1
  try clear hcz88_2
  try clear hcz89_0
  try clear hcz89_1
  try clear hcz89_2
  try clear hcz89_3
  try clear hfz103_0
  try clear hfz103_1
  try clear hfz103_2
  try clear hfz107_0
  try clear hfz107_1
  try clear hfz107_2
  try clear hfz107_3
  try clear hfz107_4
  try clear hfz107_5
  try clear hfz110_0
  try clear hfz110_1
  try clear hfz110_2
  try clear hfz110_3
  try clear hfz122_0
  try clear hfz122_1
  try clear hfz122_2
  try clear hfz12_0
  try clear hfz12_1
  try clear hfz12_2
  try clear hfz12_3
  try clear hfz18_0
  try clear hfz18_1
  try clear hfz18_2
  try clear hfz18_3
  try clear hfz21_0
  try clear hfz21_1
  try clear hfz21_2
  try clear hfz46_0
  try clear hfz46_1
  try clear hfz46_2
  try clear hfz50_0
  try clear hfz50_1
  try clear hfz50_2
  try clear hfz50_3
  try clear hfz53_0
  try clear hfz53_1
  try clear hfz53_2
  try clear hfz53_3
  try clear hfz53_4
  try clear hfz53_5
  try clear hfz55_0
  try clear hfz55_1
  try clear hfz55_2
  try clear hfz55_3
  try clear hfz58_0
  try clear hfz58_1
  try clear hfz58_2
  try clear hfz59_0
  try clear hfz59_1
  try clear hfz59_2
  try clear hfz59_3
  try clear hfz62_0
  try clear hfz62_1
  try clear hfz62_2
  try clear hfz62_3
  try clear hfz63_0
  try clear hfz63_1
  try clear hfz63_2
  try clear hfz64_0
  try clear hfz64_1
  try clear hfz64_2
  try clear hfz64_3
  try clear hfz71_0
  try clear hfz71_1
  try clear hfz71_2
  try clear hfz75_0
  try clear hfz75_1
  try clear hfz75_2
  try clear hfz75_3
  try clear hfz78_0
  try clear hfz78_1
  try clear hfz78_2
  try clear hfz78_3
  try clear hfz78_4
  try clear hfz78_5
  try clear hfz80_0
  try clear hfz80_1
  try clear hfz80_2
  try clear hfz80_3
  try clear hfz83_0
  try clear hfz83_1
  try clear hfz83_2
  try clear hfz84_0
  try clear hfz84_1
  try clear hfz84_2
  try clear hfz84_3
  try clear hfz87_0
  try clear hfz87_1
  try clear hfz87_2
  try clear hfz87_3
  try clear hfz88_0
  try clear hfz88_1
  try clear hfz88_2
  try clear hfz89_0
  try clear hfz89_1
  try clear hfz89_2
  try clear hfz89_3
  try clear hx229_0
  try clear hx230_0
  try clear p116
  try clear p229
  try clear p230
  try clear p26
  try clear p30
  try clear p33
  try clear p34
  try clear p36
  try clear p37
  try clear p95
  try clear q116
  try clear q229
  try clear q230
  try clear q26
  try clear q30
  try clear q33
  try clear q34
  try clear q36
  try clear q37
  try clear q95
  obtain ⟨kq, x228000_3, x228001_3, x228002_3, x228003_3, x229000_3, x229001_3, x229002_3, x229003_3, HA, HJ3, BK224, BK225, BK226, BK227, BK228, HB⟩ := hcut
  cases kq with
  | zero => exact absurd HA.out (by simp [impl_Puzzle_moved.j0])
  | succ kj3 =>
   have H := HA.out
   clear HA
   simp only [impl_Puzzle_moved.j0] at H
   by_cases c126 : a0_5 = true
   ·subst c126
    have H1 : (some (x229000_3, x229001_3, x229002_3, x229003_3, (!(x229000_3 == a1_0) || (!(x229001_3 == a1_1) || (!(x229002_3 == a1_2) || (!(x229003_3 == a1_3))))))) = some (r1, r2, r3, r4, r5) := by rw [if_pos rfl] at H; exact H
    clear H
    have H := H1
    clear H1
    simp only [Option.some.injEq, Prod.mk.injEq] at H
    obtain ⟨rfl, rfl, rfl, rfl, rfl⟩ := H
    try go_wp2
    have n0_ := A_ (blk_drew BK224.out)
    have n1_ := A_ (blk_drew BK225.out)
    have n2_ := A_ (blk_drew BK226.out)
    have n3_ := A_ (blk_drew BK227.out)
    have n4_ := A_ (blk_drew BK228.out)
    have n5_ := A_ (below_drew1 HB.out)
    clear BK224
    clear BK225
    clear BK226
    clear BK227
    clear BK228
    clear HB
    have BK224 := n0_
    have BK225 := n1_
    have BK226 := n2_
    have BK227 := n3_
    have BK228 := n4_
    have HB := n5_
    clear n0_ n1_ n2_ n3_ n4_ n5_
    refine start_ (n := 10) (S := fun w' => w'.cell? ⟨gb228, 0, none⟩ = some (.int .i16 x229000_3) ∧ w'.cell? ⟨gb228, 1, none⟩ = some (.int .i16 x229001_3) ∧ w'.cell? ⟨gb228, 2, none⟩ = some (.int .i16 x229002_3) ∧ w'.cell? ⟨gb228, 3, none⟩ = some (.int .i16 x229003_3) ∧ w'.cell? ⟨gb224, 0, none⟩ = some (.slice A0_0 l0_0.length c0_0) ∧ w'.cell? ⟨gb224, 1, none⟩ = some (.int .i16 a0_1) ∧ w'.cell? ⟨gb224, 2, none⟩ = some (.int .i16 a0_2) ∧ w'.cell? ⟨gb224, 3, none⟩ = some (.int .i16 a0_3) ∧ w'.cell? ⟨gb224, 4, none⟩ = some (.int .i16 a0_4) ∧ w'.cell? ⟨gb224, 5, none⟩ = some (.bool true) ∧ w'.cell? ⟨gb225, 0, none⟩ = some (.int .i16 a1_0) ∧ w'.cell? ⟨gb225, 1, none⟩ = some (.int .i16 a1_1) ∧ w'.cell? ⟨gb225, 2, none⟩ = some (.int .i16 a1_2) ∧ w'.cell? ⟨gb225, 3, none⟩ = some (.int .i16 a1_3)) (ds := []) #[false, false, false, false, false, false, false, false, false, false] (by kernel_rfl) rfl rfl ⟨(blk_cell BK228.out 0).trans rfl, (blk_cell BK228.out 1).trans rfl, (blk_cell BK228.out 2).trans rfl, (blk_cell BK228.out 3).trans rfl, (blk_cell BK224.out 0).trans rfl, (blk_cell BK224.out 1).trans rfl, (blk_cell BK224.out 2).trans rfl, (blk_cell BK224.out 3).trans rfl, (blk_cell BK224.out 4).trans rfl, (blk_cell BK224.out 5).trans rfl, (blk_cell BK225.out 0).trans rfl, (blk_cell BK225.out 1).trans rfl, (blk_cell BK225.out 2).trans rfl, (blk_cell BK225.out 3).trans rfl⟩ (fun hHeld => ?_); refine with_tabW impl_Puzzle_moved.tab12 impl_Puzzle_moved.bits12 (fun HT_ HW_ => ?_)
    generalize wc.drew = w127 at BK224 BK225 BK226 BK227 BK228 HB hHeld ⊢
    refine pure_ (i := 1) (N := some 72) (v := ?_) (a' := ?_) #[false, true, false, false, false, false, false, false, false, false] rfl rfl (any_of HT_.out (by kernel_rfl)) (fun _ _ _ h => h) (Or.inl ⟨by rfl, ?_⟩) ?_ ?_
    rotate_left
    ·intro w'
     go_simp
     with_reducible rfl
    rotate_left
    ·simp only [Act.put, sp_]
     rfl
    refine take_ (i := 0) (N := some 71) (v := ?_) (a' := ?_) #[true, true, false, false, false, false, false, false, false, false] rfl rfl (take_ofW HT_.out HW_.out (by kernel_rfl)) (fun _ _ _ h => h) (Or.inl ⟨by rfl, ?_⟩) hHeld ?_ ?_
    rotate_left
    ·rintro w' ⟨s0, s1, s2, s3, s4, s5, s6, s7, s8, s9, s10, s11, s12, s13⟩
     go_simp
     with_reducible rfl
    rotate_left
    ·simp only [Act.put, sp_]
     rfl
    refine take_ (i := 2) (N := some 73) (v := ?_) (a' := ?_) #[true, true, true, false, false, false, false, false, false, false] rfl rfl (take_ofW HT_.out HW_.out (by kernel_rfl)) (fun _ _ _ h => h) (Or.inl ⟨by rfl, ?_⟩) hHeld ?_ ?_
    rotate_left
    ·rintro w' ⟨s0, s1, s2, s3, s4, s5, s6, s7, s8, s9, s10, s11, s12, s13⟩
     go_simp
     with_reducible rfl
    rotate_left
    ·simp only [Act.put, sp_]
     rfl
    refine pure_ (i := 3) (N := some 74) (v := ?_) (a' := ?_) #[true, true, true, true, false, false, false, false, false, false] rfl rfl (any_of HT_.out (by kernel_rfl)) (fun _ _ _ h => h) (Or.inl ⟨by rfl, ?_⟩) ?_ ?_
    rotate_left
    ·intro w'
     go_simp
     with_reducible rfl
    rotate_left
    ·simp only [Act.put, sp_]
     rfl
    refine take_ (i := 4) (N := some 75) (v := ?_) (a' := ?_) #[true, true, true, true, true, false, false, false, false, false] rfl rfl (take_ofW HT_.out HW_.out (by kernel_rfl)) (fun _ _ _ h => h) (Or.inl ⟨by rfl, ?_⟩) hHeld ?_ ?_
    rotate_left
    ·rintro w' ⟨s0, s1, s2, s3, s4, s5, s6, s7, s8, s9, s10, s11, s12, s13⟩
     go_simp
     with_reducible rfl
    rotate_left
    ·simp only [Act.put, sp_]
     rfl
    refine take_ (i := 5) (N := some 76) (v := ?_) (a' := ?_) #[true, true, true, true, true, true, false, false, false, false] rfl rfl (take_ofW HT_.out HW_.out (by kernel_rfl)) (fun _ _ _ h => h) (Or.inl ⟨by rfl, ?_⟩) hHeld ?_ ?_
    rotate_left
    ·rintro w' ⟨s0, s1, s2, s3, s4, s5, s6, s7, s8, s9, s10, s11, s12, s13⟩
     go_simp
     with_reducible rfl
    rotate_left
    ·simp only [Act.put, sp_]
     rfl
    refine pure_ (i := 6) (N := some 77) (v := ?_) (a' := ?_) #[true, true, true, true, true, true, true, false, false, false] rfl rfl (any_of HT_.out (by kernel_rfl)) (fun _ _ _ h => h) (Or.inl ⟨by rfl, ?_⟩) ?_ ?_
    rotate_left
    ·intro w'
     go_simp
     with_reducible rfl
    rotate_left
    ·simp only [Act.put, sp_]
     rfl
    refine pure_ (i := 7) (N := some 78) (v := ?_) (a' := ?_) #[true, true, true, true, true, true, true, true, false, false] rfl rfl (any_of HT_.out (by kernel_rfl)) (fun _ _ _ h => h) (Or.inl ⟨by rfl, ?_⟩) ?_ ?_
    rotate_left
    ·intro w'
     go_simp
     with_reducible rfl
    rotate_left
    ·simp only [Act.put, sp_]
     rfl
    refine one_ (i := 8) (N := none) #[true, true, true, true, true, true, true, true, true, false] rfl rfl (one_of HT_.out (by kernel_rfl)) (by decide) (fun K hK => ?_)
    have hs128 : w127.cell? ⟨gb227, 0, none⟩ = some (.int .i16 x228000_3) := (blk_cell BK227.out 0).trans rfl
    have hfs128 := blk_frozen BK227.out 0
    have hns128_0 := NB224_227.out
    have hns128_1 := NB225_227.out
    have hns128_2 := NB226_227.out
    have hns128_4 := NB228_227.out
    have hms128_0 := NB227_224.out
    have hms128_1 := NB227_225.out
    have hms128_2 := NB227_226.out
    have hms128_4 := NB227_228.out
    have hs129 : w127.cell? ⟨gb227, 1, none⟩ = some (.int .i16 x228001_3) := (blk_cell BK227.out 1).trans rfl
    have hfs129 := blk_frozen BK227.out 1
    have hns129_0 := NB224_227.out
    have hns129_1 := NB225_227.out
    have hns129_2 := NB226_227.out
    have hns129_4 := NB228_227.out
    have hms129_0 := NB227_224.out
    have hms129_1 := NB227_225.out
    have hms129_2 := NB227_226.out
    have hms129_4 := NB227_228.out
    have hs130 : w127.cell? ⟨gb227, 2, none⟩ = some (.int .i16 x228002_3) := (blk_cell BK227.out 2).trans rfl
    have hfs130 := blk_frozen BK227.out 2
    have hns130_0 := NB224_227.out
    have hns130_1 := NB225_227.out
    have hns130_2 := NB226_227.out
    have hns130_4 := NB228_227.out
    have hms130_0 := NB227_224.out
    have hms130_1 := NB227_225.out
    have hms130_2 := NB227_226.out
    have hms130_4 := NB227_228.out
    have hs131 : w127.cell? ⟨gb227, 3, none⟩ = some (.int .i16 x228003_3) := (blk_cell BK227.out 3).trans rfl
    have hfs131 := blk_frozen BK227.out 3
    have hns131_0 := NB224_227.out
    have hns131_1 := NB225_227.out
    have hns131_2 := NB226_227.out
    have hns131_4 := NB228_227.out
    have hms131_0 := NB227_224.out
    have hms131_1 := NB227_225.out
    have hms131_2 := NB227_226.out
    have hms131_4 := NB227_228.out
    refine skip_ (w1 := ?_) (by rfl) rfl ?_ ?_
    rotate_left
    ·go_simp
     rfl
    refine hK.out _ _ ⟨(cf4_ NB228_227 (hHeld.1)), (cf4_ NB228_227 (hHeld.2.1)), (cf4_ NB228_227 (hHeld.2.2.1)), (cf4_ NB228_227 (hHeld.2.2.2.1)), (cf4_ NB224_227 (hHeld.2.2.2.2.1)), (cf4_ NB224_227 (hHeld.2.2.2.2.2.1)), (cf4_ NB224_227 (hHeld.2.2.2.2.2.2.1)), (cf4_ NB224_227 (hHeld.2.2.2.2.2.2.2.1)), (cf4_ NB224_227 (hHeld.2.2.2.2.2.2.2.2.1)), (cf4_ NB224_227 (hHeld.2.2.2.2.2.2.2.2.2.1)), (cf4_ NB225_227 (hHeld.2.2.2.2.2.2.2.2.2.2.1)), (cf4_ NB225_227 (hHeld.2.2.2.2.2.2.2.2.2.2.2.1)), (cf4_ NB225_227 (hHeld.2.2.2.2.2.2.2.2.2.2.2.2.1)), (cf4_ NB225_227 (hHeld.2.2.2.2.2.2.2.2.2.2.2.2.2))⟩ (fun hHeld => ?_)
    clear hK K
    refine pure_ (i := 9) (N := some 7) (v := ?_) (a' := ?_) #[true, true, true, true, true, true, true, true, true, true] rfl rfl (any_of HT_.out (by kernel_rfl)) (fun _ _ _ h => h) (Or.inl ⟨by rfl, ?_⟩) ?_ ?_
    rotate_left
    ·intro w'
     go_simp
     with_reducible rfl
    rotate_left
    ·simp only [Act.put, sp_]
     rfl
    refine done_ (done_of HT_.out (by kernel_rfl)) ?_
    try go_wp2
    refine bodyPost_ret (results_ct rfl _ _ gb227 30 #[.int .i16 x229000_3, .int .i16 x229001_3, .int .i16 x229002_3, .int .i16 x229003_3] (0, 0) _ rfl (by (with_reducible repeat (first | refine blk_drewN ?_ _ | refine blk_drew ?_ | refine blk_alloc ?_ _)); refine blk_put (cs := #[.int .i16 x229000_3, .int .i16 x229001_3, .int .i16 x229002_3, .int .i16 x228003_3]) ?_ 3 _ rfl; (with_reducible repeat (first | refine blk_drewN ?_ _ | refine blk_drew ?_ | refine blk_alloc ?_ _)); refine blk_put (cs := #[.int .i16 x229000_3, .int .i16 x229001_3, .int .i16 x228002_3, .int .i16 x228003_3]) ?_ 2 _ rfl; (with_reducible repeat (first | refine blk_drewN ?_ _ | refine blk_drew ?_ | refine blk_alloc ?_ _)); refine blk_put (cs := #[.int .i16 x229000_3, .int .i16 x228001_3, .int .i16 x228002_3, .int .i16 x228003_3]) ?_ 1 _ rfl; (with_reducible repeat (first | refine blk_drewN ?_ _ | refine blk_drew ?_ | refine blk_alloc ?_ _)); refine blk_put (cs := #[.int .i16 x228000_3, .int .i16 x228001_3, .int .i16 x228002_3, .int .i16 x228003_3]) ?_ 0 _ rfl; (with_reducible repeat (first | refine blk_drewN ?_ _ | refine blk_drew ?_ | refine blk_alloc ?_ _)); exact BK227.out) Try.underlying30 rfl (by kernel_rfl)) rfl ?_
    exact ⟨by first | rfl | (simp [errW_none, errW_some] <;> rfl) | (simp [*, errW_none, errW_some] <;> rfl), bs_ HB GE227⟩
   ·replace c126 := Bool.eq_false_iff.mpr c126
    subst c126
    have H1 : (some (x229000_3, x229001_3, x229002_3, x229003_3, false)) = some (r1, r2, r3, r4, r5) := by rw [if_neg (show ¬ (false = true) by decide)] at H; exact H
    clear H
    have H := H1
    clear H1
    simp only [Option.some.injEq, Prod.mk.injEq] at H
    obtain ⟨rfl, rfl, rfl, rfl, rfl⟩ := H
    try go_wp2
    have n0_ := A_ (blk_drew BK224.out)
    have n1_ := A_ (blk_drew BK225.out)
    have n2_ := A_ (blk_drew BK226.out)
    have n3_ := A_ (blk_drew BK227.out)
    have n4_ := A_ (blk_drew BK228.out)
    have n5_ := A_ (below_drew1 HB.out)
    clear BK224
    clear BK225
    clear BK226
    clear BK227
    clear BK228
    clear HB
    have BK224 := n0_
    have BK225 := n1_
    have BK226 := n2_
    have BK227 := n3_
    have BK228 := n4_
    have HB := n5_
    clear n0_ n1_ n2_ n3_ n4_ n5_
    refine start_ (n := 10) (S := fun w' => w'.cell? ⟨gb228, 0, none⟩ = some (.int .i16 x229000_3) ∧ w'.cell? ⟨gb228, 1, none⟩ = some (.int .i16 x229001_3) ∧ w'.cell? ⟨gb228, 2, none⟩ = some (.int .i16 x229002_3) ∧ w'.cell? ⟨gb228, 3, none⟩ = some (.int .i16 x229003_3) ∧ w'.cell? ⟨gb224, 0, none⟩ = some (.slice A0_0 l0_0.length c0_0) ∧ w'.cell? ⟨gb224, 1, none⟩ = some (.int .i16 a0_1) ∧ w'.cell? ⟨gb224, 2, none⟩ = some (.int .i16 a0_2) ∧ w'.cell? ⟨gb224, 3, none⟩ = some (.int .i16 a0_3) ∧ w'.cell? ⟨gb224, 4, none⟩ = some (.int .i16 a0_4) ∧ w'.cell? ⟨gb224, 5, none⟩ = some (.bool false)) (ds := []) #[false, false, false, false, false, false, false, false, false, false] (by kernel_rfl) rfl rfl ⟨(blk_cell BK228.out 0).trans rfl, (blk_cell BK228.out 1).trans rfl, (blk_cell BK228.out 2).trans rfl, (blk_cell BK228.out 3).trans rfl, (blk_cell BK224.out 0).trans rfl, (blk_cell BK224.out 1).trans rfl, (blk_cell BK224.out 2).trans rfl, (blk_cell BK224.out 3).trans rfl, (blk_cell BK224.out 4).trans rfl, (blk_cell BK224.out 5).trans rfl⟩ (fun hHeld => ?_); refine with_tabW impl_Puzzle_moved.tab12 impl_Puzzle_moved.bits12 (fun HT_ HW_ => ?_)
    generalize wc.drew = w132 at BK224 BK225 BK226 BK227 BK228 HB hHeld ⊢
    refine pure_ (i := 1) (N := some 72) (v := ?_) (a' := ?_) #[false, true, false, false, false, false, false, false, false, false] rfl rfl (any_of HT_.out (by kernel_rfl)) (fun _ _ _ h => h) (Or.inl ⟨by rfl, ?_⟩) ?_ ?_
    rotate_left
    ·intro w'
     go_simp
     with_reducible rfl
    rotate_left
    ·simp only [Act.put, sp_]
     rfl
    refine take_ (i := 0) (N := some 71) (v := ?_) (a' := ?_) #[true, true, false, false, false, false, false, false, false, false] rfl rfl (take_ofW HT_.out HW_.out (by kernel_rfl)) (fun _ _ _ h => h) (Or.inl ⟨by rfl, ?_⟩) hHeld ?_ ?_
    rotate_left
    ·rintro w' ⟨s0, s1, s2, s3, s4, s5, s6, s7, s8, s9⟩
     go_simp
     with_reducible rfl
    rotate_left
    ·simp only [Act.put, sp_]
     rfl
    refine take_ (i := 2) (N := some 73) (v := ?_) (a' := ?_) #[true, true, true, false, false, false, false, false, false, false] rfl rfl (take_ofW HT_.out HW_.out (by kernel_rfl)) (fun _ _ _ h => h) (Or.inl ⟨by rfl, ?_⟩) hHeld ?_ ?_
    rotate_left
    ·rintro w' ⟨s0, s1, s2, s3, s4, s5, s6, s7, s8, s9⟩
     go_simp
     with_reducible rfl
    rotate_left
    ·simp only [Act.put, sp_]
     rfl
    refine pure_ (i := 3) (N := some 74) (v := ?_) (a' := ?_) #[true, true, true, true, false, false, false, false, false, false] rfl rfl (any_of HT_.out (by kernel_rfl)) (fun _ _ _ h => h) (Or.inl ⟨by rfl, ?_⟩) ?_ ?_
    rotate_left
    ·intro w'
     go_simp
     with_reducible rfl
    rotate_left
    ·simp only [Act.put, sp_]
     rfl
    refine pure_ (i := 4) (N := some 75) (v := undef) (a' := ?_) #[true, true, true, true, true, false, false, false, false, false] rfl rfl (any_of HT_.out (by kernel_rfl)) (fun _ _ _ h => h) (Or.inr ⟨by rfl, rfl⟩) ?_ ?_
    rotate_left
    ·simp only [Act.put, sp_]
     rfl
    refine pure_ (i := 5) (N := some 76) (v := undef) (a' := ?_) #[true, true, true, true, true, true, false, false, false, false] rfl rfl (any_of HT_.out (by kernel_rfl)) (fun _ _ _ h => h) (Or.inr ⟨by rfl, rfl⟩) ?_ ?_
    rotate_left
    ·simp only [Act.put, sp_]
     rfl
    refine pure_ (i := 6) (N := some 77) (v := undef) (a' := ?_) #[true, true, true, true, true, true, true, false, false, false] rfl rfl (any_of HT_.out (by kernel_rfl)) (fun _ _ _ h => h) (Or.inr ⟨by rfl, rfl⟩) ?_ ?_
    rotate_left
    ·simp only [Act.put, sp_]
     rfl
    refine pure_ (i := 7) (N := some 78) (v := ?_) (a' := ?_) #[true, true, true, true, true, true, true, true, false, false] rfl rfl (any_of HT_.out (by kernel_rfl)) (fun _ _ _ h => h) (Or.inl ⟨by rfl, ?_⟩) ?_ ?_
    rotate_left
    ·intro w'
     go_simp
     with_reducible rfl
    rotate_left
    ·simp only [Act.put, sp_]
     rfl
    refine one_ (i := 8) (N := none) #[true, true, true, true, true, true, true, true, true, false] rfl rfl (one_of HT_.out (by kernel_rfl)) (by decide) (fun K hK => ?_)
    have hs133 : w132.cell? ⟨gb227, 0, none⟩ = some (.int .i16 x228000_3) := (blk_cell BK227.out 0).trans rfl
    have hfs133 := blk_frozen BK227.out 0
    have hns133_0 := NB224_227.out
    have hns133_1 := NB225_227.out
    have hns133_2 := NB226_227.out
    have hns133_4 := NB228_227.out
    have hms133_0 := NB227_224.out
    have hms133_1 := NB227_225.out
    have hms133_2 := NB227_226.out
    have hms133_4 := NB227_228.out
    have hs134 : w132.cell? ⟨gb227, 1, none⟩ = some (.int .i16 x228001_3) := (blk_cell BK227.out 1).trans rfl
    have hfs134 := blk_frozen BK227.out 1
    have hns134_0 := NB224_227.out
    have hns134_1 := NB225_227.out
    have hns134_2 := NB226_227.out
    have hns134_4 := NB228_227.out
    have hms134_0 := NB227_224.out
    have hms134_1 := NB227_225.out
    have hms134_2 := NB227_226.out
    have hms134_4 := NB227_228.out
    have hs135 : w132.cell? ⟨gb227, 2, none⟩ = some (.int .i16 x228002_3) := (blk_cell BK227.out 2).trans rfl
    have hfs135 := blk_frozen BK227.out 2
    have hns135_0 := NB224_227.out
    have hns135_1 := NB225_227.out
    have hns135_2 := NB226_227.out
    have hns135_4 := NB228_227.out
    have hms135_0 := NB227_224.out
    have hms135_1 := NB227_225.out
    have hms135_2 := NB227_226.out
    have hms135_4 := NB227_228.out
    have hs136 : w132.cell? ⟨gb227, 3, none⟩ = some (.int .i16 x228003_3) := (blk_cell BK227.out 3).trans rfl
    have hfs136 := blk_frozen BK227.out 3
    have hns136_0 := NB224_227.out
    have hns136_1 := NB225_227.out
    have hns136_2 := NB226_227.out
    have hns136_4 := NB228_227.out
    have hms136_0 := NB227_224.out
    have hms136_1 := NB227_225.out
    have hms136_2 := NB227_226.out
    have hms136_4 := NB227_228.out
    refine skip_ (w1 := ?_) (by rfl) rfl ?_ ?_
    rotate_left
    ·go_simp
     rfl
    refine hK.out _ _ ⟨(cf4_ NB228_227 (hHeld.1)), (cf4_ NB228_227 (hHeld.2.1)), (cf4_ NB228_227 (hHeld.2.2.1)), (cf4_ NB228_227 (hHeld.2.2.2.1)), (cf4_ NB224_227 (hHeld.2.2.2.2.1)), (cf4_ NB224_227 (hHeld.2.2.2.2.2.1)), (cf4_ NB224_227 (hHeld.2.2.2.2.2.2.1)), (cf4_ NB224_227 (hHeld.2.2.2.2.2.2.2.1)), (cf4_ NB224_227 (hHeld.2.2.2.2.2.2.2.2.1)), (cf4_ NB224_227 (hHeld.2.2.2.2.2.2.2.2.2))⟩ (fun hHeld => ?_)
    clear hK K
    refine pure_ (i := 9) (N := some 7) (v := ?_) (a' := ?_) #[true, true, true, true, true, true, true, true, true, true] rfl rfl (any_of HT_.out (by kernel_rfl)) (fun _ _ _ h => h) (Or.inl ⟨by rfl, ?_⟩) ?_ ?_
    rotate_left
    ·intro w'
     go_simp
     with_reducible rfl
    rotate_left
    ·simp only [Act.put, sp_]
     rfl
    refine done_ (done_of HT_.out (by kernel_rfl)) ?_
    try go_wp2
    refine bodyPost_ret (results_ct rfl _ _ gb227 30 #[.int .i16 x229000_3, .int .i16 x229001_3, .int .i16 x229002_3, .int .i16 x229003_3] (0, 0) _ rfl (by (with_reducible repeat (first | refine blk_drewN ?_ _ | refine blk_drew ?_ | refine blk_alloc ?_ _)); refine blk_put (cs := #[.int .i16 x229000_3, .int .i16 x229001_3, .int .i16 x229002_3, .int .i16 x228003_3]) ?_ 3 _ rfl; (with_reducible repeat (first | refine blk_drewN ?_ _ | refine blk_drew ?_ | refine blk_alloc ?_ _)); refine blk_put (cs := #[.int .i16 x229000_3, .int .i16 x229001_3, .int .i16 x228002_3, .int .i16 x228003_3]) ?_ 2 _ rfl; (with_reducible repeat (first | refine blk_drewN ?_ _ | refine blk_drew ?_ | refine blk_alloc ?_ _)); refine blk_put (cs := #[.int .i16 x229000_3, .int .i16 x228001_3, .int .i16 x228002_3, .int .i16 x228003_3]) ?_ 1 _ rfl; (with_reducible repeat (first | refine blk_drewN ?_ _ | refine blk_drew ?_ | refine blk_alloc ?_ _)); refine blk_put (cs := #[.int .i16 x228000_3, .int .i16 x228001_3, .int .i16 x228002_3, .int .i16 x228003_3]) ?_ 0 _ rfl; (with_reducible repeat (first | refine blk_drewN ?_ _ | refine blk_drew ?_ | refine blk_alloc ?_ _)); exact BK227.out) Try.underlying30 rfl (by kernel_rfl)) rfl ?_
    exact ⟨by first | rfl | (simp [errW_none, errW_some] <;> rfl) | (simp [*, errW_none, errW_some] <;> rfl), bs_ HB GE227⟩

end Go.Proofs.Ytodmfjophjhbeaa.M
