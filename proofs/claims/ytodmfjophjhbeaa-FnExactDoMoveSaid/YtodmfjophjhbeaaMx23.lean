-- By this seat's own program over the kit's printer (arrays, functions told by hand); nothing of it is trusted: the kernel checks it.
import Derived.Test.YtodmfjophjhbeaaMx0
import Derived.Test.YtodmfjophjhbeaaMx2
import Derived.Test.YtodmfjophjhbeaaMx3
import Derived.Test.YtodmfjophjhbeaaMx5
import Derived.Test.YtodmfjophjhbeaaMx16
import Derived.Test.YtodmfjophjhbeaaMx22
namespace Go.Proofs.Ytodmfjophjhbeaa.M
open Go.RowKit Go.Proofs.YtodmfjophjhbeaaW.PrintWords Go.Proofs.YtodmfjophjhbeaaW.PrintLast Go.Proofs.YtodmfjophjhbeaaW.PrintMore
attribute [local go_sem] max2_int min2_int max_two min_two max_three min_three max_four min_four   -- for this text's walks alone
set_option linter.unusedVariables false
set_option linter.unusedSimpArgs false

/-! ### laws_FnExactDoMove: function 11 -/
def laws_FnExactDoMove.j0 : Nat → Bool → List Int → Int → Int → Int → Int → Bool → List Int → Int → Int → Int → Int → Bool → Option (Bool)
 | 0, _, _, _, _, _, _, _, _, _, _, _, _, _ => none
 | k + 1, x47, x249000, x249001, x249002, x249003, x249004, x249005, x282000, x282001, x282002, x282003, x282004, x282005 => if x47 = true then (some false) else ((laws_toPuzzle.f k x249000 x249001 x249002 x249003 x249004 x249005).bind fun bt296 => ((laws_eqPuzzle.f k x282000 x282001 x282002 x282003 x282004 x282005 bt296.1 bt296.2.1 bt296.2.2.1 bt296.2.2.2.1 bt296.2.2.2.2.1 bt296.2.2.2.2.2).bind fun t304 => (if t304 = true then (some true) else (some false))))
def laws_FnExactDoMove.f (k : Nat) (l0_0 : List Int) (a0_1 : Int) (a0_2 : Int) (a0_3 : Int) (a0_4 : Int) (a0_5 : Bool) (a1_0 : Int) (a1_1 : Int) (a1_2 : Int) (a1_3 : Int) (a2_0 : Int) (a2_1 : Int) (a2_2 : Int) : Option (Bool) := (laws_szPuzzle.f l0_0 a0_1 a0_2 a0_3 a0_4 a0_5 1048576).bind fun t251 => (if t251 < 0 then (some true) else ((laws_toPuzzle.f k l0_0 a0_1 a0_2 a0_3 a0_4 a0_5).bind fun bt252 => ((laws_toWater.f k a1_0 a1_1 a1_2 a1_3).bind fun bt260 => ((laws_toMove.f a2_0 a2_1 a2_2).bind fun bt264 => ((spec_DoMove.f k bt252.1 bt252.2.1 bt252.2.2.1 bt252.2.2.2.1 bt252.2.2.2.2.1 bt252.2.2.2.2.2 bt260.1 bt260.2.1 bt260.2.2.1 bt260.2.2.2 bt264.1 bt264.2.1 bt264.2.2).bind fun bt267 => ((laws_toPuzzle.f k l0_0 a0_1 a0_2 a0_3 a0_4 a0_5).bind fun bt273 => ((laws_toWater.f k a1_0 a1_1 a1_2 a1_3).bind fun bt282 => ((laws_toMove.f a2_0 a2_1 a2_2).bind fun bt286 => ((impl_DoMove.f k bt273.1 bt273.2.1 bt273.2.2.1 bt273.2.2.2.1 bt273.2.2.2.2.1 bt273.2.2.2.2.2 bt282.1 bt282.2.1 bt282.2.2.1 bt282.2.2.2 bt286.1 bt286.2.1 bt286.2.2).bind fun bt289 => ((laws_eqWater.f k bt289.1 bt289.2.1 bt289.2.2.1 bt289.2.2.2.1 bt267.1 bt267.2.1 bt267.2.2.1 bt267.2.2.2.1).bind fun t295 => (if t295 = true then (laws_FnExactDoMove.j0 k (bt289.2.2.2.2 != bt267.2.2.2.2) l0_0 a0_1 a0_2 a0_3 a0_4 a0_5 bt273.1 bt273.2.1 bt273.2.2.1 bt273.2.2.2.1 bt273.2.2.2.2.1 bt273.2.2.2.2.2) else (laws_FnExactDoMove.j0 k true l0_0 a0_1 a0_2 a0_3 a0_4 a0_5 bt273.1 bt273.2.1 bt273.2.2.1 bt273.2.2.2.1 bt273.2.2.2.2.1 bt273.2.2.2.2.2))))))))))))
theorem laws_FnExactDoMove.mono_l : ∀ k, (∀ y0 y1 y2 y3 y4 y5 y6 y7 y8 y9 y10 y11 y12, LeO (laws_FnExactDoMove.j0 k y0 y1 y2 y3 y4 y5 y6 y7 y8 y9 y10 y11 y12) (laws_FnExactDoMove.j0 (k + 1) y0 y1 y2 y3 y4 y5 y6 y7 y8 y9 y10 y11 y12))
 | 0 => fun _ _ _ _ _ _ _ _ _ _ _ _ _ r h => by simp [laws_FnExactDoMove.j0] at h
 | k + 1 => by
  have ih0 := laws_FnExactDoMove.mono_l k
  ·intro y0 y1 y2 y3 y4 y5 y6 y7 y8 y9 y10 y11 y12
   unfold laws_FnExactDoMove.j0
   repeat' first
   | (with_reducible exact ih0 _ _ _ _ _ _ _ _ _ _ _ _ _)
   | (with_reducible exact impl_DoMove.mono _ _ _ _ _ _ _ _ _ _ _ _ _ _)
   | (with_reducible exact laws_eqPuzzle.mono _ _ _ _ _ _ _ _ _ _ _ _ _)
   | (with_reducible exact laws_eqWater.mono _ _ _ _ _ _ _ _ _)
   | (with_reducible exact laws_toPuzzle.mono _ _ _ _ _ _ _)
   | (with_reducible exact laws_toWater.mono _ _ _ _ _)
   | (with_reducible exact spec_DoMove.mono _ _ _ _ _ _ _ _ _ _ _ _ _ _)
   | (with_reducible exact LeO.refl _)
   | (with_reducible exact LeO.none _)
   | (with_reducible refine LeO.ite ?_ ?_)
   | (with_reducible refine LeO.bind ?_ (fun _ => ?_))
   | exact ih0 _ _ _ _ _ _ _ _ _ _ _ _ _
   | exact impl_DoMove.mono _ _ _ _ _ _ _ _ _ _ _ _ _ _
   | exact laws_eqPuzzle.mono _ _ _ _ _ _ _ _ _ _ _ _ _
   | exact laws_eqWater.mono _ _ _ _ _ _ _ _ _
   | exact laws_toPuzzle.mono _ _ _ _ _ _ _
   | exact laws_toWater.mono _ _ _ _ _
   | exact spec_DoMove.mono _ _ _ _ _ _ _ _ _ _ _ _ _ _
   | exact LeO.none _
   | refine LeO.ite ?_ ?_
   | refine LeO.bind ?_ (fun _ => ?_)
theorem laws_FnExactDoMove.mono : ∀ a0 a1 a2 a3 a4 a5 a6 a7 a8 a9 a10 a11 a12 k, LeO (laws_FnExactDoMove.f k a0 a1 a2 a3 a4 a5 a6 a7 a8 a9 a10 a11 a12) (laws_FnExactDoMove.f (k + 1) a0 a1 a2 a3 a4 a5 a6 a7 a8 a9 a10 a11 a12) := by
 intro a0 a1 a2 a3 a4 a5 a6 a7 a8 a9 a10 a11 a12 k
 have ih0 := laws_FnExactDoMove.mono_l k
 unfold laws_FnExactDoMove.f
 repeat' first
   | (with_reducible exact ih0 _ _ _ _ _ _ _ _ _ _ _ _ _)
   | (with_reducible exact impl_DoMove.mono _ _ _ _ _ _ _ _ _ _ _ _ _ _)
   | (with_reducible exact laws_eqPuzzle.mono _ _ _ _ _ _ _ _ _ _ _ _ _)
   | (with_reducible exact laws_eqWater.mono _ _ _ _ _ _ _ _ _)
   | (with_reducible exact laws_toPuzzle.mono _ _ _ _ _ _ _)
   | (with_reducible exact laws_toWater.mono _ _ _ _ _)
   | (with_reducible exact spec_DoMove.mono _ _ _ _ _ _ _ _ _ _ _ _ _ _)
   | (with_reducible exact LeO.refl _)
   | (with_reducible exact LeO.none _)
   | (with_reducible refine LeO.ite ?_ ?_)
   | (with_reducible refine LeO.bind ?_ (fun _ => ?_))
   | exact ih0 _ _ _ _ _ _ _ _ _ _ _ _ _
   | exact impl_DoMove.mono _ _ _ _ _ _ _ _ _ _ _ _ _ _
   | exact laws_eqPuzzle.mono _ _ _ _ _ _ _ _ _ _ _ _ _
   | exact laws_eqWater.mono _ _ _ _ _ _ _ _ _
   | exact laws_toPuzzle.mono _ _ _ _ _ _ _
   | exact laws_toWater.mono _ _ _ _ _
   | exact spec_DoMove.mono _ _ _ _ _ _ _ _ _ _ _ _ _ _
   | exact LeO.none _
   | refine LeO.ite ?_ ?_
   | refine LeO.bind ?_ (fun _ => ?_)
def laws_FnExactDoMove.T5 : Bool × List (List Nat × List Nat) := (true, [([], []), ([0], [0]), ([], []), ([2, 1], [2]), ([], []), ([4, 3], [4]), ([1, 3, 5, 5], [1, 3, 5]), ([6], [6]), ([7], [7]), ([7], [7]), ([], []), ([10, 8, 6, 0, 1, 2, 3, 4, 5, 6, 7, 8, 10], [8, 10]), ([9, 11, 0, 1, 2, 3, 4, 5, 6, 7, 8, 9, 10, 11], [9])])
def laws_FnExactDoMove.B5 : List Nat := [0, 1, 0, 7, 0, 31, 63, 127, 255, 255, 0, 1535, 4095]
theorem laws_FnExactDoMove.tab5 : rtab .any (opsOf Try.f11 5) = laws_FnExactDoMove.T5 := by kernel_rfl
theorem laws_FnExactDoMove.bits5 : waitsOk laws_FnExactDoMove.T5.2 laws_FnExactDoMove.B5 = true := by kernel_rfl
def laws_FnExactDoMove.T7 : Bool × List (List Nat × List Nat) := (true, [([], []), ([], []), ([1], [1]), ([], []), ([3, 2], [3]), ([0, 2, 4, 4], [0, 2, 4]), ([5], [5]), ([6], [6]), ([6], [6]), ([], []), ([9, 7, 5, 0, 1, 2, 3, 4, 5, 6, 7, 9], [7, 9]), ([8, 10, 0, 1, 2, 3, 4, 5, 6, 7, 8, 9, 10], [8])])
def laws_FnExactDoMove.B7 : List Nat := [0, 0, 2, 0, 14, 31, 63, 127, 127, 0, 767, 2047]
theorem laws_FnExactDoMove.tab7 : rtab .any (opsOf Try.f11 7) = laws_FnExactDoMove.T7 := by kernel_rfl
theorem laws_FnExactDoMove.bits7 : waitsOk laws_FnExactDoMove.T7.2 laws_FnExactDoMove.B7 = true := by kernel_rfl
set_option maxHeartbeats 8000000 in
set_option maxRecDepth 100000 in
theorem laws_FnExactDoMove.calls (k : Nat) (A0_0 : Option Addr) (c0_0 : Nat) (l0_0 : List Int) (a0_1 : Int) (a0_2 : Int) (a0_3 : Int) (a0_4 : Int) (a0_5 : Bool) (a1_0 : Int) (a1_1 : Int) (a1_2 : Int) (a1_3 : Int) (a2_0 : Int) (a2_1 : Int) (a2_2 : Int) (r : Bool) (w : World) (hr0_0 : Kd.C (Kd.int .i16) w A0_0 l0_0.length l0_0) (hc0_0 : l0_0.length ≤ c0_0) (h : laws_FnExactDoMove.f k l0_0 a0_1 a0_2 a0_3 a0_4 a0_5 a1_0 a1_1 a1_2 a1_3 a2_0 a2_1 a2_2 = some r) :
  Calls Try.prog 11 #[.agg #[.slice A0_0 l0_0.length c0_0, .int .i16 a0_1, .int .i16 a0_2, .int .i16 a0_3, .int .i16 a0_4, .bool a0_5], .agg #[.int .i16 a1_0, .int .i16 a1_1, .int .i16 a1_2, .int .i16 a1_3], .agg #[.int .i8 a2_0, .int .i8 a2_1, .int .i8 a2_2]] w fun e w' => e = .returned (.bool r) ∧ Below w.heap.size w w' := by
 have hu26 := Try.underlying26
 have hu24 := Try.underlying24
 have hu58 := Try.underlying58
 have hu30 := Try.underlying30
 have hu32 := Try.underlying32
 have HR0_0 := Aside0.mk hr0_0
 have HC0_0 := Aside0.mk hc0_0
 clear hr0_0 hc0_0
 have HB := A_ (Below.refl w.heap.size w)
 have H : ((laws_szPuzzle.f l0_0 a0_1 a0_2 a0_3 a0_4 a0_5 1048576).bind fun t251 => (if t251 < 0 then (some true) else ((laws_toPuzzle.f k l0_0 a0_1 a0_2 a0_3 a0_4 a0_5).bind fun bt252 => ((laws_toWater.f k a1_0 a1_1 a1_2 a1_3).bind fun bt260 => ((laws_toMove.f a2_0 a2_1 a2_2).bind fun bt264 => ((spec_DoMove.f k bt252.1 bt252.2.1 bt252.2.2.1 bt252.2.2.2.1 bt252.2.2.2.2.1 bt252.2.2.2.2.2 bt260.1 bt260.2.1 bt260.2.2.1 bt260.2.2.2 bt264.1 bt264.2.1 bt264.2.2).bind fun bt267 => ((laws_toPuzzle.f k l0_0 a0_1 a0_2 a0_3 a0_4 a0_5).bind fun bt273 => ((laws_toWater.f k a1_0 a1_1 a1_2 a1_3).bind fun bt282 => ((laws_toMove.f a2_0 a2_1 a2_2).bind fun bt286 => ((impl_DoMove.f k bt273.1 bt273.2.1 bt273.2.2.1 bt273.2.2.2.1 bt273.2.2.2.2.1 bt273.2.2.2.2.2 bt282.1 bt282.2.1 bt282.2.2.1 bt282.2.2.2 bt286.1 bt286.2.1 bt286.2.2).bind fun bt289 => ((laws_eqWater.f k bt289.1 bt289.2.1 bt289.2.2.1 bt289.2.2.2.1 bt267.1 bt267.2.1 bt267.2.2.1 bt267.2.2.2.1).bind fun t295 => (if t295 = true then (laws_FnExactDoMove.j0 k (bt289.2.2.2.2 != bt267.2.2.2.2) l0_0 a0_1 a0_2 a0_3 a0_4 a0_5 bt273.1 bt273.2.1 bt273.2.2.1 bt273.2.2.2.1 bt273.2.2.2.2.1 bt273.2.2.2.2.2) else (laws_FnExactDoMove.j0 k true l0_0 a0_1 a0_2 a0_3 a0_4 a0_5 bt273.1 bt273.2.1 bt273.2.2.1 bt273.2.2.2.1 bt273.2.2.2.2.1 bt273.2.2.2.2.2))))))))))))) = some r := h
 clear h
 replace H := Option.bind_eq_some_iff.mp H
 obtain ⟨t251, A40, H⟩ := H
 replace H : (if t251 < 0 then (some true) else ((laws_toPuzzle.f k l0_0 a0_1 a0_2 a0_3 a0_4 a0_5).bind fun bt252 => ((laws_toWater.f k a1_0 a1_1 a1_2 a1_3).bind fun bt260 => ((laws_toMove.f a2_0 a2_1 a2_2).bind fun bt264 => ((spec_DoMove.f k bt252.1 bt252.2.1 bt252.2.2.1 bt252.2.2.2.1 bt252.2.2.2.2.1 bt252.2.2.2.2.2 bt260.1 bt260.2.1 bt260.2.2.1 bt260.2.2.2 bt264.1 bt264.2.1 bt264.2.2).bind fun bt267 => ((laws_toPuzzle.f k l0_0 a0_1 a0_2 a0_3 a0_4 a0_5).bind fun bt273 => ((laws_toWater.f k a1_0 a1_1 a1_2 a1_3).bind fun bt282 => ((laws_toMove.f a2_0 a2_1 a2_2).bind fun bt286 => ((impl_DoMove.f k bt273.1 bt273.2.1 bt273.2.2.1 bt273.2.2.2.1 bt273.2.2.2.2.1 bt273.2.2.2.2.2 bt282.1 bt282.2.1 bt282.2.2.1 bt282.2.2.2 bt286.1 bt286.2.1 bt286.2.2).bind fun bt289 => ((laws_eqWater.f k bt289.1 bt289.2.1 bt289.2.2.1 bt289.2.2.2.1 bt267.1 bt267.2.1 bt267.2.2.1 bt267.2.2.2.1).bind fun t295 => (if t295 = true then (laws_FnExactDoMove.j0 k (bt289.2.2.2.2 != bt267.2.2.2.2) l0_0 a0_1 a0_2 a0_3 a0_4 a0_5 bt273.1 bt273.2.1 bt273.2.2.1 bt273.2.2.2.1 bt273.2.2.2.2.1 bt273.2.2.2.2.2) else (laws_FnExactDoMove.j0 k true l0_0 a0_1 a0_2 a0_3 a0_4 a0_5 bt273.1 bt273.2.1 bt273.2.2.1 bt273.2.2.2.1 bt273.2.2.2.2.1 bt273.2.2.2.2.2)))))))))))) = some r := H
 have A4 := Aside0.mk A40
 clear A40
 by_cases c5 : t251 < 0
 ·rw [if_pos c5] at H
  have c5b0 : decide (t251 < 0) = true := decide_eq_true c5
  clear c5
  obtain rfl := Option.some.inj H
  go_enter Try.func11, Try.ntmps11
  go_wp2_with (first | ((with_reducible refine gate_dst (N := 3) rfl ?_); refine box_event ?hg (N := 3) ?hd (cs := #[.slice A0_0 l0_0.length c0_0, .int .i16 a0_1, .int .i16 a0_2, .int .i16 a0_3, .int .i16 a0_4, .bool a0_5]) (t := 26) ?hr ?_; (case hd => rfl); (case hg => rfl); (case hr => first | (go_simp; done) | (go_simp; rfl)); intro gb248 hg w6 hbox hb; have n0_ := A_ (below_step (bl_ HB) hb); have n1_ := A_ (hbox); have n2_ := A_ ((by rw [hg]; exact (below_size (bl_ HB)) : w.heap.size ≤ gb248)); have n3_ := n2_; clear HB; have HB := n0_; have BK248 := n1_; have GW248 := n2_; have GE248 := n3_; clear n0_ n1_ n2_ n3_; clear hb hbox hg) | ((with_reducible refine gate_dst (N := 4) rfl ?_); refine box_event ?hg (N := 4) ?hd (cs := #[.int .i16 a1_0, .int .i16 a1_1, .int .i16 a1_2, .int .i16 a1_3]) (t := 24) ?hr ?_; (case hd => rfl); (case hg => rfl); (case hr => first | (go_simp; done) | (go_simp; rfl)); intro gb249 hg w7 hbox hb; have n0_ := A_ (blk_below (pl_ BK248) hb); have n1_ := A_ (below_step (bl_ HB) hb); have n2_ := A_ (hbox); have n3_ := A_ ((by rw [hg]; exact (below_size (bl_ HB)) : w.heap.size ≤ gb249)); have n4_ := n3_; have n5_ := A_ ((by rw [hg]; exact Nat.ne_of_lt (blk_lt (pl_ BK248)) : gb248 ≠ gb249)); have n6_ := Aside0.mk n5_.out.symm; clear BK248; clear HB; have BK248 := n0_; have HB := n1_; have BK249 := n2_; have GW249 := n3_; have GE249 := n4_; have NB248_249 := n5_; have NB249_248 := n6_; clear n0_ n1_ n2_ n3_ n4_ n5_ n6_; clear hb hbox hg) | ((with_reducible refine gate_dst (N := 5) rfl ?_); refine box_event ?hg (N := 5) ?hd (cs := #[.int .i8 a2_0, .int .i8 a2_1, .int .i8 a2_2]) (t := 58) ?hr ?_; (case hd => rfl); (case hg => rfl); (case hr => first | (go_simp; done) | (go_simp; rfl)); intro gb250 hg w8 hbox hb; have n0_ := A_ (blk_below (pl_ BK248) hb); have n1_ := A_ (blk_below (pl_ BK249) hb); have n2_ := A_ (below_step (bl_ HB) hb); have n3_ := A_ (hbox); have n4_ := A_ ((by rw [hg]; exact (below_size (bl_ HB)) : w.heap.size ≤ gb250)); have n5_ := n4_; have n6_ := A_ ((by rw [hg]; exact Nat.ne_of_lt (blk_lt (pl_ BK248)) : gb248 ≠ gb250)); have n7_ := Aside0.mk n6_.out.symm; have n8_ := A_ ((by rw [hg]; exact Nat.ne_of_lt (blk_lt (pl_ BK249)) : gb249 ≠ gb250)); have n9_ := Aside0.mk n8_.out.symm; clear BK248; clear BK249; clear HB; have BK248 := n0_; have BK249 := n1_; have HB := n2_; have BK250 := n3_; have GW250 := n4_; have GE250 := n5_; have NB248_250 := n6_; have NB250_248 := n7_; have NB249_250 := n8_; have NB250_249 := n9_; clear n0_ n1_ n2_ n3_ n4_ n5_ n6_ n7_ n8_ n9_; clear hb hbox hg; have hnb9 := NB248_249.out; have hnc9 := NB249_248.out; have hnb10 := NB248_250.out; have hnc10 := NB250_248.out; have hcz11_0 : w8.cell? ⟨gb248, 0, none⟩ = some (.slice A0_0 l0_0.length c0_0) := (blk_cell BK248.out 0).trans rfl; have hcz11_1 : w8.cell? ⟨gb248, 1, none⟩ = some (.int .i16 a0_1) := (blk_cell BK248.out 1).trans rfl; have hcz11_2 : w8.cell? ⟨gb248, 2, none⟩ = some (.int .i16 a0_2) := (blk_cell BK248.out 2).trans rfl; have hcz11_3 : w8.cell? ⟨gb248, 3, none⟩ = some (.int .i16 a0_3) := (blk_cell BK248.out 3).trans rfl; have hcz11_4 : w8.cell? ⟨gb248, 4, none⟩ = some (.int .i16 a0_4) := (blk_cell BK248.out 4).trans rfl; have hcz11_5 : w8.cell? ⟨gb248, 5, none⟩ = some (.bool a0_5) := (blk_cell BK248.out 5).trans rfl; have hfz11_0 := blk_frozen BK248.out 0; have hfz11_1 := blk_frozen BK248.out 1; have hfz11_2 := blk_frozen BK248.out 2; have hfz11_3 := blk_frozen BK248.out 3; have hfz11_4 := blk_frozen BK248.out 4; have hfz11_5 := blk_frozen BK248.out 5) | ((with_reducible refine gate_callee (f := 16) rfl ?_); refine goesL_ (some 15) rfl rfl Try.func16 (by kernel_rfl) rfl #[.agg #[.slice A0_0 l0_0.length c0_0, .int .i16 a0_1, .int .i16 a0_2, .int .i16 a0_3, .int .i16 a0_4, .bool a0_5], .int .i64 1048576] rfl arg_ ?_; (with_reducible refine (laws_szPuzzle.calls _ _ l0_0 a0_1 a0_2 a0_3 a0_4 a0_5 1048576 t251 _ ?side1 ?side2 A4.out).mono ?_); (case side1 => repeat (first | exact (Kd.C_below HR0_0.out HB.out) | (with_reducible refine Kd.C_alloc ?_ _) | (with_reducible refine Kd.C_drewN ?_ _) | (with_reducible refine Kd.C_drew ?_))); (case side2 => exact HC0_0.out); rintro e w12 ⟨rfl, hb⟩; refine ⟨_, rfl, ?_⟩; have n0_ := A_ (blk_below (pl_ BK248) hb); have n1_ := A_ (blk_below (pl_ BK249) hb); have n2_ := A_ (blk_below (pl_ BK250) hb); have n3_ := A_ (below_step (bl_ HB) hb); clear BK248; clear BK249; clear BK250; clear HB; have BK248 := n0_; have BK249 := n1_; have BK250 := n2_; have HB := n3_; clear n0_ n1_ n2_ n3_; (try clear hb); (try clear hb2); (try clear hk); (try clear hi)))
  go_ret
  exact ⟨by first | rfl | (simp [errW_none, errW_some] <;> rfl) | (simp [*, errW_none, errW_some] <;> rfl), bl_ HB⟩
 ·rw [if_neg c5] at H
  have c5b0 : decide (t251 < 0) = false := decide_eq_false c5
  clear c5
  replace H := Option.bind_eq_some_iff.mp H
  obtain ⟨⟨t252, t255, t256, t257, t258, t259⟩, A130, H⟩ := H
  replace H : ((laws_toWater.f k a1_0 a1_1 a1_2 a1_3).bind fun bt260 => ((laws_toMove.f a2_0 a2_1 a2_2).bind fun bt264 => ((spec_DoMove.f k t252 t255 t256 t257 t258 t259 bt260.1 bt260.2.1 bt260.2.2.1 bt260.2.2.2 bt264.1 bt264.2.1 bt264.2.2).bind fun bt267 => ((laws_toPuzzle.f k l0_0 a0_1 a0_2 a0_3 a0_4 a0_5).bind fun bt273 => ((laws_toWater.f k a1_0 a1_1 a1_2 a1_3).bind fun bt282 => ((laws_toMove.f a2_0 a2_1 a2_2).bind fun bt286 => ((impl_DoMove.f k bt273.1 bt273.2.1 bt273.2.2.1 bt273.2.2.2.1 bt273.2.2.2.2.1 bt273.2.2.2.2.2 bt282.1 bt282.2.1 bt282.2.2.1 bt282.2.2.2 bt286.1 bt286.2.1 bt286.2.2).bind fun bt289 => ((laws_eqWater.f k bt289.1 bt289.2.1 bt289.2.2.1 bt289.2.2.2.1 bt267.1 bt267.2.1 bt267.2.2.1 bt267.2.2.2.1).bind fun t295 => (if t295 = true then (laws_FnExactDoMove.j0 k (bt289.2.2.2.2 != bt267.2.2.2.2) l0_0 a0_1 a0_2 a0_3 a0_4 a0_5 bt273.1 bt273.2.1 bt273.2.2.1 bt273.2.2.2.1 bt273.2.2.2.2.1 bt273.2.2.2.2.2) else (laws_FnExactDoMove.j0 k true l0_0 a0_1 a0_2 a0_3 a0_4 a0_5 bt273.1 bt273.2.1 bt273.2.2.1 bt273.2.2.2.1 bt273.2.2.2.2.1 bt273.2.2.2.2.2)))))))))) = some r := H
  have A13 := Aside0.mk A130
  clear A130
  replace H := Option.bind_eq_some_iff.mp H
  obtain ⟨⟨t260, t261, t262, t263⟩, A140, H⟩ := H
  replace H : ((laws_toMove.f a2_0 a2_1 a2_2).bind fun bt264 => ((spec_DoMove.f k t252 t255 t256 t257 t258 t259 t260 t261 t262 t263 bt264.1 bt264.2.1 bt264.2.2).bind fun bt267 => ((laws_toPuzzle.f k l0_0 a0_1 a0_2 a0_3 a0_4 a0_5).bind fun bt273 => ((laws_toWater.f k a1_0 a1_1 a1_2 a1_3).bind fun bt282 => ((laws_toMove.f a2_0 a2_1 a2_2).bind fun bt286 => ((impl_DoMove.f k bt273.1 bt273.2.1 bt273.2.2.1 bt273.2.2.2.1 bt273.2.2.2.2.1 bt273.2.2.2.2.2 bt282.1 bt282.2.1 bt282.2.2.1 bt282.2.2.2 bt286.1 bt286.2.1 bt286.2.2).bind fun bt289 => ((laws_eqWater.f k bt289.1 bt289.2.1 bt289.2.2.1 bt289.2.2.2.1 bt267.1 bt267.2.1 bt267.2.2.1 bt267.2.2.2.1).bind fun t295 => (if t295 = true then (laws_FnExactDoMove.j0 k (bt289.2.2.2.2 != bt267.2.2.2.2) l0_0 a0_1 a0_2 a0_3 a0_4 a0_5 bt273.1 bt273.2.1 bt273.2.2.1 bt273.2.2.2.1 bt273.2.2.2.2.1 bt273.2.2.2.2.2) else (laws_FnExactDoMove.j0 k true l0_0 a0_1 a0_2 a0_3 a0_4 a0_5 bt273.1 bt273.2.1 bt273.2.2.1 bt273.2.2.2.1 bt273.2.2.2.2.1 bt273.2.2.2.2.2))))))))) = some r := H
  have A14 := Aside0.mk A140
  clear A140
  replace H := Option.bind_eq_some_iff.mp H
  obtain ⟨⟨t264, t265, t266⟩, A150, H⟩ := H
  replace H : ((spec_DoMove.f k t252 t255 t256 t257 t258 t259 t260 t261 t262 t263 t264 t265 t266).bind fun bt267 => ((laws_toPuzzle.f k l0_0 a0_1 a0_2 a0_3 a0_4 a0_5).bind fun bt273 => ((laws_toWater.f k a1_0 a1_1 a1_2 a1_3).bind fun bt282 => ((laws_toMove.f a2_0 a2_1 a2_2).bind fun bt286 => ((impl_DoMove.f k bt273.1 bt273.2.1 bt273.2.2.1 bt273.2.2.2.1 bt273.2.2.2.2.1 bt273.2.2.2.2.2 bt282.1 bt282.2.1 bt282.2.2.1 bt282.2.2.2 bt286.1 bt286.2.1 bt286.2.2).bind fun bt289 => ((laws_eqWater.f k bt289.1 bt289.2.1 bt289.2.2.1 bt289.2.2.2.1 bt267.1 bt267.2.1 bt267.2.2.1 bt267.2.2.2.1).bind fun t295 => (if t295 = true then (laws_FnExactDoMove.j0 k (bt289.2.2.2.2 != bt267.2.2.2.2) l0_0 a0_1 a0_2 a0_3 a0_4 a0_5 bt273.1 bt273.2.1 bt273.2.2.1 bt273.2.2.2.1 bt273.2.2.2.2.1 bt273.2.2.2.2.2) else (laws_FnExactDoMove.j0 k true l0_0 a0_1 a0_2 a0_3 a0_4 a0_5 bt273.1 bt273.2.1 bt273.2.2.1 bt273.2.2.2.1 bt273.2.2.2.2.1 bt273.2.2.2.2.2)))))))) = some r := H
  have A15 := Aside0.mk A150
  clear A150
  replace H := Option.bind_eq_some_iff.mp H
  obtain ⟨⟨t267, t268, t269, t270, t271⟩, A160, H⟩ := H
  replace H : ((laws_toPuzzle.f k l0_0 a0_1 a0_2 a0_3 a0_4 a0_5).bind fun bt273 => ((laws_toWater.f k a1_0 a1_1 a1_2 a1_3).bind fun bt282 => ((laws_toMove.f a2_0 a2_1 a2_2).bind fun bt286 => ((impl_DoMove.f k bt273.1 bt273.2.1 bt273.2.2.1 bt273.2.2.2.1 bt273.2.2.2.2.1 bt273.2.2.2.2.2 bt282.1 bt282.2.1 bt282.2.2.1 bt282.2.2.2 bt286.1 bt286.2.1 bt286.2.2).bind fun bt289 => ((laws_eqWater.f k bt289.1 bt289.2.1 bt289.2.2.1 bt289.2.2.2.1 t267 t268 t269 t270).bind fun t295 => (if t295 = true then (laws_FnExactDoMove.j0 k (bt289.2.2.2.2 != t271) l0_0 a0_1 a0_2 a0_3 a0_4 a0_5 bt273.1 bt273.2.1 bt273.2.2.1 bt273.2.2.2.1 bt273.2.2.2.2.1 bt273.2.2.2.2.2) else (laws_FnExactDoMove.j0 k true l0_0 a0_1 a0_2 a0_3 a0_4 a0_5 bt273.1 bt273.2.1 bt273.2.2.1 bt273.2.2.2.1 bt273.2.2.2.2.1 bt273.2.2.2.2.2))))))) = some r := H
  have A16 := Aside0.mk A160
  clear A160
  replace H := Option.bind_eq_some_iff.mp H
  obtain ⟨⟨t273, t276, t277, t278, t279, t280⟩, A170, H⟩ := H
  replace H : ((laws_toWater.f k a1_0 a1_1 a1_2 a1_3).bind fun bt282 => ((laws_toMove.f a2_0 a2_1 a2_2).bind fun bt286 => ((impl_DoMove.f k t273 t276 t277 t278 t279 t280 bt282.1 bt282.2.1 bt282.2.2.1 bt282.2.2.2 bt286.1 bt286.2.1 bt286.2.2).bind fun bt289 => ((laws_eqWater.f k bt289.1 bt289.2.1 bt289.2.2.1 bt289.2.2.2.1 t267 t268 t269 t270).bind fun t295 => (if t295 = true then (laws_FnExactDoMove.j0 k (bt289.2.2.2.2 != t271) l0_0 a0_1 a0_2 a0_3 a0_4 a0_5 t273 t276 t277 t278 t279 t280) else (laws_FnExactDoMove.j0 k true l0_0 a0_1 a0_2 a0_3 a0_4 a0_5 t273 t276 t277 t278 t279 t280)))))) = some r := H
  have A17 := Aside0.mk A170
  clear A170
  replace H := Option.bind_eq_some_iff.mp H
  obtain ⟨⟨t282, t283, t284, t285⟩, A180, H⟩ := H
  replace H : ((laws_toMove.f a2_0 a2_1 a2_2).bind fun bt286 => ((impl_DoMove.f k t273 t276 t277 t278 t279 t280 t282 t283 t284 t285 bt286.1 bt286.2.1 bt286.2.2).bind fun bt289 => ((laws_eqWater.f k bt289.1 bt289.2.1 bt289.2.2.1 bt289.2.2.2.1 t267 t268 t269 t270).bind fun t295 => (if t295 = true then (laws_FnExactDoMove.j0 k (bt289.2.2.2.2 != t271) l0_0 a0_1 a0_2 a0_3 a0_4 a0_5 t273 t276 t277 t278 t279 t280) else (laws_FnExactDoMove.j0 k true l0_0 a0_1 a0_2 a0_3 a0_4 a0_5 t273 t276 t277 t278 t279 t280))))) = some r := H
  have A18 := Aside0.mk A180
  clear A180
  replace H := Option.bind_eq_some_iff.mp H
  obtain ⟨⟨t286, t287, t288⟩, A190, H⟩ := H
  replace H : ((impl_DoMove.f k t273 t276 t277 t278 t279 t280 t282 t283 t284 t285 t286 t287 t288).bind fun bt289 => ((laws_eqWater.f k bt289.1 bt289.2.1 bt289.2.2.1 bt289.2.2.2.1 t267 t268 t269 t270).bind fun t295 => (if t295 = true then (laws_FnExactDoMove.j0 k (bt289.2.2.2.2 != t271) l0_0 a0_1 a0_2 a0_3 a0_4 a0_5 t273 t276 t277 t278 t279 t280) else (laws_FnExactDoMove.j0 k true l0_0 a0_1 a0_2 a0_3 a0_4 a0_5 t273 t276 t277 t278 t279 t280)))) = some r := H
  have A19 := Aside0.mk A190
  clear A190
  replace H := Option.bind_eq_some_iff.mp H
  obtain ⟨⟨t289, t290, t291, t292, t293⟩, A200, H⟩ := H
  replace H : ((laws_eqWater.f k t289 t290 t291 t292 t267 t268 t269 t270).bind fun t295 => (if t295 = true then (laws_FnExactDoMove.j0 k (t293 != t271) l0_0 a0_1 a0_2 a0_3 a0_4 a0_5 t273 t276 t277 t278 t279 t280) else (laws_FnExactDoMove.j0 k true l0_0 a0_1 a0_2 a0_3 a0_4 a0_5 t273 t276 t277 t278 t279 t280))) = some r := H
  have A20 := Aside0.mk A200
  clear A200
  have HC21 := Aside0.mk H
  clear H
  go_enter Try.func11, Try.ntmps11
  try go_wp2_with (first | ((with_reducible refine gate_dst (N := 3) rfl ?_); refine box_event ?hg (N := 3) ?hd (cs := #[.slice A0_0 l0_0.length c0_0, .int .i16 a0_1, .int .i16 a0_2, .int .i16 a0_3, .int .i16 a0_4, .bool a0_5]) (t := 26) ?hr ?_; (case hd => rfl); (case hg => rfl); (case hr => first | (go_simp; done) | (go_simp; rfl)); intro gb248 hg w22 hbox hb; have n0_ := A_ (below_step (bl_ HB) hb); have n1_ := A_ (hbox); have n2_ := A_ ((by rw [hg]; exact (below_size (bl_ HB)) : w.heap.size ≤ gb248)); have n3_ := n2_; clear HB; have HB := n0_; have BK248 := n1_; have GW248 := n2_; have GE248 := n3_; clear n0_ n1_ n2_ n3_; clear hb hbox hg) | ((with_reducible refine gate_dst (N := 4) rfl ?_); refine box_event ?hg (N := 4) ?hd (cs := #[.int .i16 a1_0, .int .i16 a1_1, .int .i16 a1_2, .int .i16 a1_3]) (t := 24) ?hr ?_; (case hd => rfl); (case hg => rfl); (case hr => first | (go_simp; done) | (go_simp; rfl)); intro gb249 hg w23 hbox hb; have n0_ := A_ (blk_below (pl_ BK248) hb); have n1_ := A_ (below_step (bl_ HB) hb); have n2_ := A_ (hbox); have n3_ := A_ ((by rw [hg]; exact (below_size (bl_ HB)) : w.heap.size ≤ gb249)); have n4_ := n3_; have n5_ := A_ ((by rw [hg]; exact Nat.ne_of_lt (blk_lt (pl_ BK248)) : gb248 ≠ gb249)); have n6_ := Aside0.mk n5_.out.symm; clear BK248; clear HB; have BK248 := n0_; have HB := n1_; have BK249 := n2_; have GW249 := n3_; have GE249 := n4_; have NB248_249 := n5_; have NB249_248 := n6_; clear n0_ n1_ n2_ n3_ n4_ n5_ n6_; clear hb hbox hg) | ((with_reducible refine gate_dst (N := 5) rfl ?_); refine box_event ?hg (N := 5) ?hd (cs := #[.int .i8 a2_0, .int .i8 a2_1, .int .i8 a2_2]) (t := 58) ?hr ?_; (case hd => rfl); (case hg => rfl); (case hr => first | (go_simp; done) | (go_simp; rfl)); intro gb250 hg w24 hbox hb; have n0_ := A_ (blk_below (pl_ BK248) hb); have n1_ := A_ (blk_below (pl_ BK249) hb); have n2_ := A_ (below_step (bl_ HB) hb); have n3_ := A_ (hbox); have n4_ := A_ ((by rw [hg]; exact (below_size (bl_ HB)) : w.heap.size ≤ gb250)); have n5_ := n4_; have n6_ := A_ ((by rw [hg]; exact Nat.ne_of_lt (blk_lt (pl_ BK248)) : gb248 ≠ gb250)); have n7_ := Aside0.mk n6_.out.symm; have n8_ := A_ ((by rw [hg]; exact Nat.ne_of_lt (blk_lt (pl_ BK249)) : gb249 ≠ gb250)); have n9_ := Aside0.mk n8_.out.symm; clear BK248; clear BK249; clear HB; have BK248 := n0_; have BK249 := n1_; have HB := n2_; have BK250 := n3_; have GW250 := n4_; have GE250 := n5_; have NB248_250 := n6_; have NB250_248 := n7_; have NB249_250 := n8_; have NB250_249 := n9_; clear n0_ n1_ n2_ n3_ n4_ n5_ n6_ n7_ n8_ n9_; clear hb hbox hg; have hnb25 := NB248_249.out; have hnc25 := NB249_248.out; have hnb26 := NB248_250.out; have hnc26 := NB250_248.out; have hcz27_0 : w24.cell? ⟨gb248, 0, none⟩ = some (.slice A0_0 l0_0.length c0_0) := (blk_cell BK248.out 0).trans rfl; have hcz27_1 : w24.cell? ⟨gb248, 1, none⟩ = some (.int .i16 a0_1) := (blk_cell BK248.out 1).trans rfl; have hcz27_2 : w24.cell? ⟨gb248, 2, none⟩ = some (.int .i16 a0_2) := (blk_cell BK248.out 2).trans rfl; have hcz27_3 : w24.cell? ⟨gb248, 3, none⟩ = some (.int .i16 a0_3) := (blk_cell BK248.out 3).trans rfl; have hcz27_4 : w24.cell? ⟨gb248, 4, none⟩ = some (.int .i16 a0_4) := (blk_cell BK248.out 4).trans rfl; have hcz27_5 : w24.cell? ⟨gb248, 5, none⟩ = some (.bool a0_5) := (blk_cell BK248.out 5).trans rfl; have hfz27_0 := blk_frozen BK248.out 0; have hfz27_1 := blk_frozen BK248.out 1; have hfz27_2 := blk_frozen BK248.out 2; have hfz27_3 := blk_frozen BK248.out 3; have hfz27_4 := blk_frozen BK248.out 4; have hfz27_5 := blk_frozen BK248.out 5) | ((with_reducible refine gate_callee (f := 16) rfl ?_); refine goesL_ (some 15) rfl rfl Try.func16 (by kernel_rfl) rfl #[.agg #[.slice A0_0 l0_0.length c0_0, .int .i16 a0_1, .int .i16 a0_2, .int .i16 a0_3, .int .i16 a0_4, .bool a0_5], .int .i64 1048576] rfl arg_ ?_; (with_reducible refine (laws_szPuzzle.calls _ _ l0_0 a0_1 a0_2 a0_3 a0_4 a0_5 1048576 t251 _ ?side1 ?side2 A4.out).mono ?_); (case side1 => repeat (first | exact (Kd.C_below HR0_0.out HB.out) | (with_reducible refine Kd.C_alloc ?_ _) | (with_reducible refine Kd.C_drewN ?_ _) | (with_reducible refine Kd.C_drew ?_))); (case side2 => exact HC0_0.out); rintro e w28 ⟨rfl, hb⟩; refine ⟨_, rfl, ?_⟩; have n0_ := A_ (blk_below (pl_ BK248) hb); have n1_ := A_ (blk_below (pl_ BK249) hb); have n2_ := A_ (blk_below (pl_ BK250) hb); have n3_ := A_ (below_step (bl_ HB) hb); clear BK248; clear BK249; clear BK250; clear HB; have BK248 := n0_; have BK249 := n1_; have BK250 := n2_; have HB := n3_; clear n0_ n1_ n2_ n3_; (try clear hb); (try clear hb2); (try clear hk); (try clear hi)))
  have n0_ := A_ (blk_drew BK248.out)
  have n1_ := A_ (blk_drew BK249.out)
  have n2_ := A_ (blk_drew BK250.out)
  have n3_ := A_ (below_drew1 HB.out)
  clear BK248
  clear BK249
  clear BK250
  clear HB
  have BK248 := n0_
  have BK249 := n1_
  have BK250 := n2_
  have HB := n3_
  clear n0_ n1_ n2_ n3_
  refine start_ (n := 13) (S := fun w' => w'.cell? ⟨gb248, 0, none⟩ = some (.slice A0_0 l0_0.length c0_0) ∧ w'.cell? ⟨gb248, 1, none⟩ = some (.int .i16 a0_1) ∧ w'.cell? ⟨gb248, 2, none⟩ = some (.int .i16 a0_2) ∧ w'.cell? ⟨gb248, 3, none⟩ = some (.int .i16 a0_3) ∧ w'.cell? ⟨gb248, 4, none⟩ = some (.int .i16 a0_4) ∧ w'.cell? ⟨gb248, 5, none⟩ = some (.bool a0_5) ∧ w'.cell? ⟨gb249, 0, none⟩ = some (.int .i16 a1_0) ∧ w'.cell? ⟨gb249, 1, none⟩ = some (.int .i16 a1_1) ∧ w'.cell? ⟨gb249, 2, none⟩ = some (.int .i16 a1_2) ∧ w'.cell? ⟨gb249, 3, none⟩ = some (.int .i16 a1_3) ∧ w'.cell? ⟨gb250, 0, none⟩ = some (.int .i8 a2_0) ∧ w'.cell? ⟨gb250, 1, none⟩ = some (.int .i8 a2_1) ∧ w'.cell? ⟨gb250, 2, none⟩ = some (.int .i8 a2_2)) (ds := []) #[false, false, false, false, false, false, false, false, false, false, false, false, false] (by kernel_rfl) rfl rfl ⟨(blk_cell BK248.out 0).trans rfl, (blk_cell BK248.out 1).trans rfl, (blk_cell BK248.out 2).trans rfl, (blk_cell BK248.out 3).trans rfl, (blk_cell BK248.out 4).trans rfl, (blk_cell BK248.out 5).trans rfl, (blk_cell BK249.out 0).trans rfl, (blk_cell BK249.out 1).trans rfl, (blk_cell BK249.out 2).trans rfl, (blk_cell BK249.out 3).trans rfl, (blk_cell BK250.out 0).trans rfl, (blk_cell BK250.out 1).trans rfl, (blk_cell BK250.out 2).trans rfl⟩ (fun hHeld => ?_); refine with_tabW laws_FnExactDoMove.tab5 laws_FnExactDoMove.bits5 (fun HT_ HW_ => ?_)
  generalize w28.drew = w29 at BK248 BK249 BK250 HB hHeld ⊢
  refine take_ (i := 0) (N := some 19) (v := ?_) (a' := ?_) #[true, false, false, false, false, false, false, false, false, false, false, false, false] rfl rfl (take_ofW HT_.out HW_.out (by kernel_rfl)) (fun _ _ _ h => h) (Or.inl ⟨by rfl, ?_⟩) hHeld ?_ ?_
  rotate_left
  ·rintro w' ⟨s0, s1, s2, s3, s4, s5, s6, s7, s8, s9, s10, s11, s12⟩
   go_simp
   with_reducible rfl
  rotate_left
  ·simp only [Act.put, List.setIfInBounds_toArray, List.set_cons_zero, List.set_cons_succ, i64_w, i32_w]
   rfl
  refine take_ (i := 2) (N := some 21) (v := ?_) (a' := ?_) #[true, false, true, false, false, false, false, false, false, false, false, false, false] rfl rfl (take_ofW HT_.out HW_.out (by kernel_rfl)) (fun _ _ _ h => h) (Or.inl ⟨by rfl, ?_⟩) hHeld ?_ ?_
  rotate_left
  ·rintro w' ⟨s0, s1, s2, s3, s4, s5, s6, s7, s8, s9, s10, s11, s12⟩
   go_simp
   with_reducible rfl
  rotate_left
  ·simp only [Act.put, List.setIfInBounds_toArray, List.set_cons_zero, List.set_cons_succ, i64_w, i32_w]
   rfl
  refine take_ (i := 4) (N := some 23) (v := ?_) (a' := ?_) #[true, false, true, false, true, false, false, false, false, false, false, false, false] rfl rfl (take_ofW HT_.out HW_.out (by kernel_rfl)) (fun _ _ _ h => h) (Or.inl ⟨by rfl, ?_⟩) hHeld ?_ ?_
  rotate_left
  ·rintro w' ⟨s0, s1, s2, s3, s4, s5, s6, s7, s8, s9, s10, s11, s12⟩
   go_simp
   with_reducible rfl
  rotate_left
  ·simp only [Act.put, List.setIfInBounds_toArray, List.set_cons_zero, List.set_cons_succ, i64_w, i32_w]
   rfl
  refine join_ (σ := Value × Nat) 2 #[true, true, true, true, true, true, true, true, true, true, true, false, false] (fun s_ => [(20, .agg #[s_.1, .int .i16 t255, .int .i16 t256, .int .i16 t257, .int .i16 t258, .bool t259]), (22, .agg #[.int .i16 t260, .int .i16 t261, .int .i16 t262, .int .i16 t263]), (24, .agg #[.int .i8 t264, .int .i8 t265, .int .i8 t266]), (25, .tuple #[.agg #[.int .i16 t267, .int .i16 t268, .int .i16 t269, .int .i16 t270], .int .i64 t271]), (8, .pointer (some ⟨s_.2, 0, none⟩)), (18, .tuple #[.agg #[.int .i16 t267, .int .i16 t268, .int .i16 t269, .int .i16 t270], .int .i64 t271]), (26, .agg #[.int .i16 t267, .int .i16 t268, .int .i16 t269, .int .i16 t270]), (27, .int .i64 t271)]) (fun s_ w' => (w'.cell? ⟨gb248, 0, none⟩ = some (.slice A0_0 l0_0.length c0_0) ∧ w'.cell? ⟨gb248, 1, none⟩ = some (.int .i16 a0_1) ∧ w'.cell? ⟨gb248, 2, none⟩ = some (.int .i16 a0_2) ∧ w'.cell? ⟨gb248, 3, none⟩ = some (.int .i16 a0_3) ∧ w'.cell? ⟨gb248, 4, none⟩ = some (.int .i16 a0_4) ∧ w'.cell? ⟨gb248, 5, none⟩ = some (.bool a0_5) ∧ w'.cell? ⟨gb249, 0, none⟩ = some (.int .i16 a1_0) ∧ w'.cell? ⟨gb249, 1, none⟩ = some (.int .i16 a1_1) ∧ w'.cell? ⟨gb249, 2, none⟩ = some (.int .i16 a1_2) ∧ w'.cell? ⟨gb249, 3, none⟩ = some (.int .i16 a1_3) ∧ w'.cell? ⟨gb250, 0, none⟩ = some (.int .i8 a2_0) ∧ w'.cell? ⟨gb250, 1, none⟩ = some (.int .i8 a2_1) ∧ w'.cell? ⟨gb250, 2, none⟩ = some (.int .i8 a2_2)) ∧ (Kd.R (Kd.int .i16) 23 w' w.heap.size (fun _ => True) s_.1 t252) ∧ (w'.heap[gb248]? = some (.cells #[.slice A0_0 l0_0.length c0_0, .int .i16 a0_1, .int .i16 a0_2, .int .i16 a0_3, .int .i16 a0_4, .bool a0_5] 26 (0, 0))) ∧ (w'.heap[gb249]? = some (.cells #[.int .i16 a1_0, .int .i16 a1_1, .int .i16 a1_2, .int .i16 a1_3] 24 (0, 0))) ∧ (w'.heap[gb250]? = some (.cells #[.int .i8 a2_0, .int .i8 a2_1, .int .i8 a2_2] 58 (0, 0))) ∧ (w'.heap[s_.2]? = some (.cells #[.int .i16 0, .int .i16 0, .int .i16 0, .int .i16 0] 30 (0, 0))) ∧ (w.heap.size ≤ s_.2) ∧ (w.heap.size ≤ s_.2) ∧ (gb248 ≠ s_.2) ∧ (s_.2 ≠ gb248) ∧ (gb249 ≠ s_.2) ∧ (s_.2 ≠ gb249) ∧ (gb250 ≠ s_.2) ∧ (s_.2 ≠ gb250) ∧ (Below w.heap.size w w')) ?_ ?_
  rotate_left
  ·intro hJ1_3_5_6_10
   refine join_ (σ := Value) 3 #[true, true, true, true, true, true, true, true, true, true, false, false, false] (fun s_ => [(20, .agg #[s_, .int .i16 t255, .int .i16 t256, .int .i16 t257, .int .i16 t258, .bool t259]), (22, .agg #[.int .i16 t260, .int .i16 t261, .int .i16 t262, .int .i16 t263]), (24, .agg #[.int .i8 t264, .int .i8 t265, .int .i8 t266]), (25, .tuple #[.agg #[.int .i16 t267, .int .i16 t268, .int .i16 t269, .int .i16 t270], .int .i64 t271]), (18, .tuple #[.agg #[.int .i16 t267, .int .i16 t268, .int .i16 t269, .int .i16 t270], .int .i64 t271]), (26, .agg #[.int .i16 t267, .int .i16 t268, .int .i16 t269, .int .i16 t270]), (27, .int .i64 t271)]) (fun s_ w' => (w'.cell? ⟨gb248, 0, none⟩ = some (.slice A0_0 l0_0.length c0_0) ∧ w'.cell? ⟨gb248, 1, none⟩ = some (.int .i16 a0_1) ∧ w'.cell? ⟨gb248, 2, none⟩ = some (.int .i16 a0_2) ∧ w'.cell? ⟨gb248, 3, none⟩ = some (.int .i16 a0_3) ∧ w'.cell? ⟨gb248, 4, none⟩ = some (.int .i16 a0_4) ∧ w'.cell? ⟨gb248, 5, none⟩ = some (.bool a0_5) ∧ w'.cell? ⟨gb249, 0, none⟩ = some (.int .i16 a1_0) ∧ w'.cell? ⟨gb249, 1, none⟩ = some (.int .i16 a1_1) ∧ w'.cell? ⟨gb249, 2, none⟩ = some (.int .i16 a1_2) ∧ w'.cell? ⟨gb249, 3, none⟩ = some (.int .i16 a1_3) ∧ w'.cell? ⟨gb250, 0, none⟩ = some (.int .i8 a2_0) ∧ w'.cell? ⟨gb250, 1, none⟩ = some (.int .i8 a2_1) ∧ w'.cell? ⟨gb250, 2, none⟩ = some (.int .i8 a2_2)) ∧ (Kd.R (Kd.int .i16) 23 w' w.heap.size (fun _ => True) s_ t252) ∧ (w'.heap[gb248]? = some (.cells #[.slice A0_0 l0_0.length c0_0, .int .i16 a0_1, .int .i16 a0_2, .int .i16 a0_3, .int .i16 a0_4, .bool a0_5] 26 (0, 0))) ∧ (w'.heap[gb249]? = some (.cells #[.int .i16 a1_0, .int .i16 a1_1, .int .i16 a1_2, .int .i16 a1_3] 24 (0, 0))) ∧ (w'.heap[gb250]? = some (.cells #[.int .i8 a2_0, .int .i8 a2_1, .int .i8 a2_2] 58 (0, 0))) ∧ (Below w.heap.size w w')) ?_ ?_
   rotate_left
   ·intro hJ1_3_5_6
    refine join_ (σ := Value × Nat) 6 #[true, true, true, true, true, true, false, false, false, false, true, false, false] (fun s_ => [(20, .agg #[s_.1, .int .i16 t255, .int .i16 t256, .int .i16 t257, .int .i16 t258, .bool t259]), (22, .agg #[.int .i16 t260, .int .i16 t261, .int .i16 t262, .int .i16 t263]), (24, .agg #[.int .i8 t264, .int .i8 t265, .int .i8 t266]), (8, .pointer (some ⟨s_.2, 0, none⟩))]) (fun s_ w' => (w'.cell? ⟨gb248, 0, none⟩ = some (.slice A0_0 l0_0.length c0_0) ∧ w'.cell? ⟨gb248, 1, none⟩ = some (.int .i16 a0_1) ∧ w'.cell? ⟨gb248, 2, none⟩ = some (.int .i16 a0_2) ∧ w'.cell? ⟨gb248, 3, none⟩ = some (.int .i16 a0_3) ∧ w'.cell? ⟨gb248, 4, none⟩ = some (.int .i16 a0_4) ∧ w'.cell? ⟨gb248, 5, none⟩ = some (.bool a0_5) ∧ w'.cell? ⟨gb249, 0, none⟩ = some (.int .i16 a1_0) ∧ w'.cell? ⟨gb249, 1, none⟩ = some (.int .i16 a1_1) ∧ w'.cell? ⟨gb249, 2, none⟩ = some (.int .i16 a1_2) ∧ w'.cell? ⟨gb249, 3, none⟩ = some (.int .i16 a1_3) ∧ w'.cell? ⟨gb250, 0, none⟩ = some (.int .i8 a2_0) ∧ w'.cell? ⟨gb250, 1, none⟩ = some (.int .i8 a2_1) ∧ w'.cell? ⟨gb250, 2, none⟩ = some (.int .i8 a2_2)) ∧ (Kd.R (Kd.int .i16) 23 w' w.heap.size (fun _ => True) s_.1 t252) ∧ (w'.heap[gb248]? = some (.cells #[.slice A0_0 l0_0.length c0_0, .int .i16 a0_1, .int .i16 a0_2, .int .i16 a0_3, .int .i16 a0_4, .bool a0_5] 26 (0, 0))) ∧ (w'.heap[gb249]? = some (.cells #[.int .i16 a1_0, .int .i16 a1_1, .int .i16 a1_2, .int .i16 a1_3] 24 (0, 0))) ∧ (w'.heap[gb250]? = some (.cells #[.int .i8 a2_0, .int .i8 a2_1, .int .i8 a2_2] 58 (0, 0))) ∧ (w'.heap[s_.2]? = some (.cells #[.int .i16 0, .int .i16 0, .int .i16 0, .int .i16 0] 30 (0, 0))) ∧ (w.heap.size ≤ s_.2) ∧ (w.heap.size ≤ s_.2) ∧ (gb248 ≠ s_.2) ∧ (s_.2 ≠ gb248) ∧ (gb249 ≠ s_.2) ∧ (s_.2 ≠ gb249) ∧ (gb250 ≠ s_.2) ∧ (s_.2 ≠ gb250) ∧ (Below w.heap.size w w')) ?_ ?_
    rotate_left
    ·intro hJ1_3_5_10
     refine join_ (σ := Value) 7 #[true, true, true, true, true, true, false, false, false, false, false, false, false] (fun s_ => [(20, .agg #[s_, .int .i16 t255, .int .i16 t256, .int .i16 t257, .int .i16 t258, .bool t259]), (22, .agg #[.int .i16 t260, .int .i16 t261, .int .i16 t262, .int .i16 t263]), (24, .agg #[.int .i8 t264, .int .i8 t265, .int .i8 t266])]) (fun s_ w' => (w'.cell? ⟨gb248, 0, none⟩ = some (.slice A0_0 l0_0.length c0_0) ∧ w'.cell? ⟨gb248, 1, none⟩ = some (.int .i16 a0_1) ∧ w'.cell? ⟨gb248, 2, none⟩ = some (.int .i16 a0_2) ∧ w'.cell? ⟨gb248, 3, none⟩ = some (.int .i16 a0_3) ∧ w'.cell? ⟨gb248, 4, none⟩ = some (.int .i16 a0_4) ∧ w'.cell? ⟨gb248, 5, none⟩ = some (.bool a0_5) ∧ w'.cell? ⟨gb249, 0, none⟩ = some (.int .i16 a1_0) ∧ w'.cell? ⟨gb249, 1, none⟩ = some (.int .i16 a1_1) ∧ w'.cell? ⟨gb249, 2, none⟩ = some (.int .i16 a1_2) ∧ w'.cell? ⟨gb249, 3, none⟩ = some (.int .i16 a1_3) ∧ w'.cell? ⟨gb250, 0, none⟩ = some (.int .i8 a2_0) ∧ w'.cell? ⟨gb250, 1, none⟩ = some (.int .i8 a2_1) ∧ w'.cell? ⟨gb250, 2, none⟩ = some (.int .i8 a2_2)) ∧ (Kd.R (Kd.int .i16) 23 w' w.heap.size (fun _ => True) s_ t252) ∧ (w'.heap[gb248]? = some (.cells #[.slice A0_0 l0_0.length c0_0, .int .i16 a0_1, .int .i16 a0_2, .int .i16 a0_3, .int .i16 a0_4, .bool a0_5] 26 (0, 0))) ∧ (w'.heap[gb249]? = some (.cells #[.int .i16 a1_0, .int .i16 a1_1, .int .i16 a1_2, .int .i16 a1_3] 24 (0, 0))) ∧ (w'.heap[gb250]? = some (.cells #[.int .i8 a2_0, .int .i8 a2_1, .int .i8 a2_2] 58 (0, 0))) ∧ (Below w.heap.size w w')) ?_ ?_
     rotate_left
     ·intro hJ1_3_5
      refine join_ (σ := Value × Nat) 7 #[true, true, true, true, true, false, false, false, false, false, true, false, false] (fun s_ => [(20, .agg #[s_.1, .int .i16 t255, .int .i16 t256, .int .i16 t257, .int .i16 t258, .bool t259]), (22, .agg #[.int .i16 t260, .int .i16 t261, .int .i16 t262, .int .i16 t263]), (8, .pointer (some ⟨s_.2, 0, none⟩))]) (fun s_ w' => (w'.cell? ⟨gb248, 0, none⟩ = some (.slice A0_0 l0_0.length c0_0) ∧ w'.cell? ⟨gb248, 1, none⟩ = some (.int .i16 a0_1) ∧ w'.cell? ⟨gb248, 2, none⟩ = some (.int .i16 a0_2) ∧ w'.cell? ⟨gb248, 3, none⟩ = some (.int .i16 a0_3) ∧ w'.cell? ⟨gb248, 4, none⟩ = some (.int .i16 a0_4) ∧ w'.cell? ⟨gb248, 5, none⟩ = some (.bool a0_5) ∧ w'.cell? ⟨gb249, 0, none⟩ = some (.int .i16 a1_0) ∧ w'.cell? ⟨gb249, 1, none⟩ = some (.int .i16 a1_1) ∧ w'.cell? ⟨gb249, 2, none⟩ = some (.int .i16 a1_2) ∧ w'.cell? ⟨gb249, 3, none⟩ = some (.int .i16 a1_3) ∧ w'.cell? ⟨gb250, 0, none⟩ = some (.int .i8 a2_0) ∧ w'.cell? ⟨gb250, 1, none⟩ = some (.int .i8 a2_1) ∧ w'.cell? ⟨gb250, 2, none⟩ = some (.int .i8 a2_2)) ∧ (Kd.R (Kd.int .i16) 23 w' w.heap.size (fun _ => True) s_.1 t252) ∧ (w'.heap[gb248]? = some (.cells #[.slice A0_0 l0_0.length c0_0, .int .i16 a0_1, .int .i16 a0_2, .int .i16 a0_3, .int .i16 a0_4, .bool a0_5] 26 (0, 0))) ∧ (w'.heap[gb249]? = some (.cells #[.int .i16 a1_0, .int .i16 a1_1, .int .i16 a1_2, .int .i16 a1_3] 24 (0, 0))) ∧ (w'.heap[gb250]? = some (.cells #[.int .i8 a2_0, .int .i8 a2_1, .int .i8 a2_2] 58 (0, 0))) ∧ (w'.heap[s_.2]? = some (.cells #[.int .i16 0, .int .i16 0, .int .i16 0, .int .i16 0] 30 (0, 0))) ∧ (w.heap.size ≤ s_.2) ∧ (w.heap.size ≤ s_.2) ∧ (gb248 ≠ s_.2) ∧ (s_.2 ≠ gb248) ∧ (gb249 ≠ s_.2) ∧ (s_.2 ≠ gb249) ∧ (gb250 ≠ s_.2) ∧ (s_.2 ≠ gb250) ∧ (Below w.heap.size w w')) ?_ ?_
      rotate_left
      ·intro hJ1_3_10
       refine join_ (σ := Value) 8 #[true, true, true, true, true, false, false, false, false, false, false, false, false] (fun s_ => [(20, .agg #[s_, .int .i16 t255, .int .i16 t256, .int .i16 t257, .int .i16 t258, .bool t259]), (22, .agg #[.int .i16 t260, .int .i16 t261, .int .i16 t262, .int .i16 t263])]) (fun s_ w' => (w'.cell? ⟨gb248, 0, none⟩ = some (.slice A0_0 l0_0.length c0_0) ∧ w'.cell? ⟨gb248, 1, none⟩ = some (.int .i16 a0_1) ∧ w'.cell? ⟨gb248, 2, none⟩ = some (.int .i16 a0_2) ∧ w'.cell? ⟨gb248, 3, none⟩ = some (.int .i16 a0_3) ∧ w'.cell? ⟨gb248, 4, none⟩ = some (.int .i16 a0_4) ∧ w'.cell? ⟨gb248, 5, none⟩ = some (.bool a0_5) ∧ w'.cell? ⟨gb249, 0, none⟩ = some (.int .i16 a1_0) ∧ w'.cell? ⟨gb249, 1, none⟩ = some (.int .i16 a1_1) ∧ w'.cell? ⟨gb249, 2, none⟩ = some (.int .i16 a1_2) ∧ w'.cell? ⟨gb249, 3, none⟩ = some (.int .i16 a1_3) ∧ w'.cell? ⟨gb250, 0, none⟩ = some (.int .i8 a2_0) ∧ w'.cell? ⟨gb250, 1, none⟩ = some (.int .i8 a2_1) ∧ w'.cell? ⟨gb250, 2, none⟩ = some (.int .i8 a2_2)) ∧ (Kd.R (Kd.int .i16) 23 w' w.heap.size (fun _ => True) s_ t252) ∧ (w'.heap[gb248]? = some (.cells #[.slice A0_0 l0_0.length c0_0, .int .i16 a0_1, .int .i16 a0_2, .int .i16 a0_3, .int .i16 a0_4, .bool a0_5] 26 (0, 0))) ∧ (w'.heap[gb249]? = some (.cells #[.int .i16 a1_0, .int .i16 a1_1, .int .i16 a1_2, .int .i16 a1_3] 24 (0, 0))) ∧ (w'.heap[gb250]? = some (.cells #[.int .i8 a2_0, .int .i8 a2_1, .int .i8 a2_2] 58 (0, 0))) ∧ (Below w.heap.size w w')) ?_ ?_
       rotate_left
       ·intro hJ1_3
        refine join_ (σ := Value × Nat) 8 #[true, true, true, false, true, false, false, false, false, false, true, false, false] (fun s_ => [(20, .agg #[s_.1, .int .i16 t255, .int .i16 t256, .int .i16 t257, .int .i16 t258, .bool t259]), (8, .pointer (some ⟨s_.2, 0, none⟩))]) (fun s_ w' => (w'.cell? ⟨gb248, 0, none⟩ = some (.slice A0_0 l0_0.length c0_0) ∧ w'.cell? ⟨gb248, 1, none⟩ = some (.int .i16 a0_1) ∧ w'.cell? ⟨gb248, 2, none⟩ = some (.int .i16 a0_2) ∧ w'.cell? ⟨gb248, 3, none⟩ = some (.int .i16 a0_3) ∧ w'.cell? ⟨gb248, 4, none⟩ = some (.int .i16 a0_4) ∧ w'.cell? ⟨gb248, 5, none⟩ = some (.bool a0_5) ∧ w'.cell? ⟨gb249, 0, none⟩ = some (.int .i16 a1_0) ∧ w'.cell? ⟨gb249, 1, none⟩ = some (.int .i16 a1_1) ∧ w'.cell? ⟨gb249, 2, none⟩ = some (.int .i16 a1_2) ∧ w'.cell? ⟨gb249, 3, none⟩ = some (.int .i16 a1_3) ∧ w'.cell? ⟨gb250, 0, none⟩ = some (.int .i8 a2_0) ∧ w'.cell? ⟨gb250, 1, none⟩ = some (.int .i8 a2_1) ∧ w'.cell? ⟨gb250, 2, none⟩ = some (.int .i8 a2_2)) ∧ (Kd.R (Kd.int .i16) 23 w' w.heap.size (fun _ => True) s_.1 t252) ∧ (w'.heap[gb248]? = some (.cells #[.slice A0_0 l0_0.length c0_0, .int .i16 a0_1, .int .i16 a0_2, .int .i16 a0_3, .int .i16 a0_4, .bool a0_5] 26 (0, 0))) ∧ (w'.heap[gb249]? = some (.cells #[.int .i16 a1_0, .int .i16 a1_1, .int .i16 a1_2, .int .i16 a1_3] 24 (0, 0))) ∧ (w'.heap[gb250]? = some (.cells #[.int .i8 a2_0, .int .i8 a2_1, .int .i8 a2_2] 58 (0, 0))) ∧ (w'.heap[s_.2]? = some (.cells #[.int .i16 0, .int .i16 0, .int .i16 0, .int .i16 0] 30 (0, 0))) ∧ (w.heap.size ≤ s_.2) ∧ (w.heap.size ≤ s_.2) ∧ (gb248 ≠ s_.2) ∧ (s_.2 ≠ gb248) ∧ (gb249 ≠ s_.2) ∧ (s_.2 ≠ gb249) ∧ (gb250 ≠ s_.2) ∧ (s_.2 ≠ gb250) ∧ (Below w.heap.size w w')) ?_ ?_
        rotate_left
        ·intro hJ1_10
         refine join_ (σ := Value) 9 #[true, true, true, false, true, false, false, false, false, false, false, false, false] (fun s_ => [(20, .agg #[s_, .int .i16 t255, .int .i16 t256, .int .i16 t257, .int .i16 t258, .bool t259])]) (fun s_ w' => (w'.cell? ⟨gb248, 0, none⟩ = some (.slice A0_0 l0_0.length c0_0) ∧ w'.cell? ⟨gb248, 1, none⟩ = some (.int .i16 a0_1) ∧ w'.cell? ⟨gb248, 2, none⟩ = some (.int .i16 a0_2) ∧ w'.cell? ⟨gb248, 3, none⟩ = some (.int .i16 a0_3) ∧ w'.cell? ⟨gb248, 4, none⟩ = some (.int .i16 a0_4) ∧ w'.cell? ⟨gb248, 5, none⟩ = some (.bool a0_5) ∧ w'.cell? ⟨gb249, 0, none⟩ = some (.int .i16 a1_0) ∧ w'.cell? ⟨gb249, 1, none⟩ = some (.int .i16 a1_1) ∧ w'.cell? ⟨gb249, 2, none⟩ = some (.int .i16 a1_2) ∧ w'.cell? ⟨gb249, 3, none⟩ = some (.int .i16 a1_3) ∧ w'.cell? ⟨gb250, 0, none⟩ = some (.int .i8 a2_0) ∧ w'.cell? ⟨gb250, 1, none⟩ = some (.int .i8 a2_1) ∧ w'.cell? ⟨gb250, 2, none⟩ = some (.int .i8 a2_2)) ∧ (Kd.R (Kd.int .i16) 23 w' w.heap.size (fun _ => True) s_ t252) ∧ (w'.heap[gb248]? = some (.cells #[.slice A0_0 l0_0.length c0_0, .int .i16 a0_1, .int .i16 a0_2, .int .i16 a0_3, .int .i16 a0_4, .bool a0_5] 26 (0, 0))) ∧ (w'.heap[gb249]? = some (.cells #[.int .i16 a1_0, .int .i16 a1_1, .int .i16 a1_2, .int .i16 a1_3] 24 (0, 0))) ∧ (w'.heap[gb250]? = some (.cells #[.int .i8 a2_0, .int .i8 a2_1, .int .i8 a2_2] 58 (0, 0))) ∧ (Below w.heap.size w w')) ?_ ?_
         rotate_left
         ·intro hJ1
          refine join_ (σ := Nat) 9 #[true, false, true, false, true, false, false, false, false, false, true, false, false] (fun s_ => [(8, .pointer (some ⟨s_, 0, none⟩))]) (fun s_ w' => (w'.cell? ⟨gb248, 0, none⟩ = some (.slice A0_0 l0_0.length c0_0) ∧ w'.cell? ⟨gb248, 1, none⟩ = some (.int .i16 a0_1) ∧ w'.cell? ⟨gb248, 2, none⟩ = some (.int .i16 a0_2) ∧ w'.cell? ⟨gb248, 3, none⟩ = some (.int .i16 a0_3) ∧ w'.cell? ⟨gb248, 4, none⟩ = some (.int .i16 a0_4) ∧ w'.cell? ⟨gb248, 5, none⟩ = some (.bool a0_5) ∧ w'.cell? ⟨gb249, 0, none⟩ = some (.int .i16 a1_0) ∧ w'.cell? ⟨gb249, 1, none⟩ = some (.int .i16 a1_1) ∧ w'.cell? ⟨gb249, 2, none⟩ = some (.int .i16 a1_2) ∧ w'.cell? ⟨gb249, 3, none⟩ = some (.int .i16 a1_3) ∧ w'.cell? ⟨gb250, 0, none⟩ = some (.int .i8 a2_0) ∧ w'.cell? ⟨gb250, 1, none⟩ = some (.int .i8 a2_1) ∧ w'.cell? ⟨gb250, 2, none⟩ = some (.int .i8 a2_2)) ∧ (w'.heap[gb248]? = some (.cells #[.slice A0_0 l0_0.length c0_0, .int .i16 a0_1, .int .i16 a0_2, .int .i16 a0_3, .int .i16 a0_4, .bool a0_5] 26 (0, 0))) ∧ (w'.heap[gb249]? = some (.cells #[.int .i16 a1_0, .int .i16 a1_1, .int .i16 a1_2, .int .i16 a1_3] 24 (0, 0))) ∧ (w'.heap[gb250]? = some (.cells #[.int .i8 a2_0, .int .i8 a2_1, .int .i8 a2_2] 58 (0, 0))) ∧ (w'.heap[s_]? = some (.cells #[.int .i16 0, .int .i16 0, .int .i16 0, .int .i16 0] 30 (0, 0))) ∧ (w.heap.size ≤ s_) ∧ (w.heap.size ≤ s_) ∧ (gb248 ≠ s_) ∧ (s_ ≠ gb248) ∧ (gb249 ≠ s_) ∧ (s_ ≠ gb249) ∧ (gb250 ≠ s_) ∧ (s_ ≠ gb250) ∧ (Below w.heap.size w w')) ?_ ?_
          rotate_left
          ·intro hJ10
           refine two_ (i := 1) (j := 10) (Ni := some 20) (Nj := some 8) #[true, true, true, false, true, false, false, false, false, false, false, false, false] #[true, false, true, false, true, false, false, false, false, false, true, false, false] rfl rfl rfl rfl (two_of HT_.out (by kernel_rfl)) (by decide) (by decide) (fun K hK => ?_) (fun K hK => ?_)
           ·skip
            refine goes_ Try.func18 (by kernel_rfl) rfl #[.agg #[.slice A0_0 l0_0.length c0_0, .int .i16 a0_1, .int .i16 a0_2, .int .i16 a0_3, .int .i16 a0_4, .bool a0_5]] (by rfl) rfl rfl arg_ ?_
            with_reducible refine (laws_toPuzzle.calls k _ _ l0_0 a0_1 a0_2 a0_3 a0_4 a0_5 t252 t255 t256 t257 t258 t259 _ ?side1 ?side2 A13.out).mono ?_
            (case side1 => repeat (first | exact (Kd.C_below HR0_0.out HB.out) | (with_reducible refine Kd.C_alloc ?_ _) | (with_reducible refine Kd.C_drewN ?_ _) | (with_reducible refine Kd.C_drew ?_)))
            (case side2 => exact HC0_0.out)
            rintro e w30 ⟨v253, rfl, ho0, hb⟩
            refine ⟨_, rfl, ?_⟩
            have n0_ := A_ (Kd.R_lower ho0 (below_size (bl_ HB)))
            have n1_ := A_ (blk_below (pl_ BK248) hb)
            have n2_ := A_ (blk_below (pl_ BK249) hb)
            have n3_ := A_ (blk_below (pl_ BK250) hb)
            have n4_ := A_ (below_step (bl_ HB) hb)
            clear BK248
            clear BK249
            clear BK250
            clear HB
            have HO254 := n0_
            have BK248 := n1_
            have BK249 := n2_
            have BK250 := n3_
            have HB := n4_
            clear n0_ n1_ n2_ n3_ n4_
            (try clear hb)
            (try clear hb2)
            (try clear hk)
            (try clear hi)
            (try clear ho0)
            refine hK.out _ _ ⟨(blk_cell BK248.out 0).trans rfl, (blk_cell BK248.out 1).trans rfl, (blk_cell BK248.out 2).trans rfl, (blk_cell BK248.out 3).trans rfl, (blk_cell BK248.out 4).trans rfl, (blk_cell BK248.out 5).trans rfl, (blk_cell BK249.out 0).trans rfl, (blk_cell BK249.out 1).trans rfl, (blk_cell BK249.out 2).trans rfl, (blk_cell BK249.out 3).trans rfl, (blk_cell BK250.out 0).trans rfl, (blk_cell BK250.out 1).trans rfl, (blk_cell BK250.out 2).trans rfl⟩ (fun hHeld => ?_)
            clear hK K
            refine norm_ (a' := ?_) ?_ ?_
            rotate_left
            ·show Act.put _ (some 20) _ = _
             simp only [Act.put, List.setIfInBounds_toArray, List.set_cons_zero, List.set_cons_succ, i64_w, i32_w]
             rfl
            exact norm_ (by first | (simp only [putAll, Act.put, List.setIfInBounds_toArray, List.set_cons_zero, List.set_cons_succ]; done) | (simp only [putAll, Act.put, List.setIfInBounds_toArray, List.set_cons_zero, List.set_cons_succ]; rfl)) (hJ1 (v253) _ ⟨hHeld, (pr_ HO254), (pl_ BK248), (pl_ BK249), (pl_ BK250), (bl_ HB)⟩)
           ·skip
            refine box_step ?hg (N := 8) ?hd (cs := #[.int .i16 0, .int .i16 0, .int .i16 0, .int .i16 0]) (t := 30) ?hr ?_; (case hd => rfl); (case hg => rfl); (case hr => first | (go_simp; done) | (go_simp; rfl))
            intro gb272 hg w30 hbox hb
            have n0_ := A_ (blk_below (pl_ BK248) hb)
            have n1_ := A_ (blk_below (pl_ BK249) hb)
            have n2_ := A_ (blk_below (pl_ BK250) hb)
            have n3_ := A_ (below_step (bl_ HB) hb)
            have n4_ := A_ (hbox)
            have n5_ := A_ ((by rw [hg]; exact (below_size (bl_ HB)) : w.heap.size ≤ gb272))
            have n6_ := n5_
            have n7_ := A_ ((by rw [hg]; exact Nat.ne_of_lt (blk_lt (pl_ BK248)) : gb248 ≠ gb272))
            have n8_ := Aside0.mk n7_.out.symm
            have n9_ := A_ ((by rw [hg]; exact Nat.ne_of_lt (blk_lt (pl_ BK249)) : gb249 ≠ gb272))
            have n10_ := Aside0.mk n9_.out.symm
            have n11_ := A_ ((by rw [hg]; exact Nat.ne_of_lt (blk_lt (pl_ BK250)) : gb250 ≠ gb272))
            have n12_ := Aside0.mk n11_.out.symm
            clear BK248
            clear BK249
            clear BK250
            clear HB
            have BK248 := n0_
            have BK249 := n1_
            have BK250 := n2_
            have HB := n3_
            have BK272 := n4_
            have GW272 := n5_
            have GE272 := n6_
            have NB248_272 := n7_
            have NB272_248 := n8_
            have NB249_272 := n9_
            have NB272_249 := n10_
            have NB250_272 := n11_
            have NB272_250 := n12_
            clear n0_ n1_ n2_ n3_ n4_ n5_ n6_ n7_ n8_ n9_ n10_ n11_ n12_
            clear hb hbox hg
            refine hK.out _ _ ⟨(blk_cell BK248.out 0).trans rfl, (blk_cell BK248.out 1).trans rfl, (blk_cell BK248.out 2).trans rfl, (blk_cell BK248.out 3).trans rfl, (blk_cell BK248.out 4).trans rfl, (blk_cell BK248.out 5).trans rfl, (blk_cell BK249.out 0).trans rfl, (blk_cell BK249.out 1).trans rfl, (blk_cell BK249.out 2).trans rfl, (blk_cell BK249.out 3).trans rfl, (blk_cell BK250.out 0).trans rfl, (blk_cell BK250.out 1).trans rfl, (blk_cell BK250.out 2).trans rfl⟩ (fun hHeld => ?_)
            clear hK K
            refine norm_ (a' := ?_) ?_ ?_
            rotate_left
            ·show Act.put _ (some 8) _ = _
             simp only [Act.put, List.setIfInBounds_toArray, List.set_cons_zero, List.set_cons_succ, i64_w, i32_w]
             rfl
            exact norm_ (by first | (simp only [putAll, Act.put, List.setIfInBounds_toArray, List.set_cons_zero, List.set_cons_succ]; done) | (simp only [putAll, Act.put, List.setIfInBounds_toArray, List.set_cons_zero, List.set_cons_succ]; rfl)) (hJ10 (gb272) _ ⟨hHeld, (pl_ BK248), (pl_ BK249), (pl_ BK250), (pl_ BK272), GW272.out, GE272.out, NB248_272.out, NB272_248.out, NB249_272.out, NB272_249.out, NB250_272.out, NB272_250.out, (bl_ HB)⟩)
          ·skip
           rintro gb272 w31 ⟨hS_, h0_, h1_, h2_, h3_, h4_, h5_, h6_, h7_, h8_, h9_, h10_, h11_, h12_⟩
           have n0_ : Aside0 (w31.heap[gb248]? = some (.cells #[.slice A0_0 l0_0.length c0_0, .int .i16 a0_1, .int .i16 a0_2, .int .i16 a0_3, .int .i16 a0_4, .bool a0_5] 26 (0, 0))) := ⟨h0_⟩
           have n1_ : Aside0 (w31.heap[gb249]? = some (.cells #[.int .i16 a1_0, .int .i16 a1_1, .int .i16 a1_2, .int .i16 a1_3] 24 (0, 0))) := ⟨h1_⟩
           have n2_ : Aside0 (w31.heap[gb250]? = some (.cells #[.int .i8 a2_0, .int .i8 a2_1, .int .i8 a2_2] 58 (0, 0))) := ⟨h2_⟩
           have n3_ : Aside0 (w31.heap[gb272]? = some (.cells #[.int .i16 0, .int .i16 0, .int .i16 0, .int .i16 0] 30 (0, 0))) := ⟨h3_⟩
           have n4_ : Aside0 (w.heap.size ≤ gb272) := ⟨h4_⟩
           have n5_ : Aside0 (w.heap.size ≤ gb272) := ⟨h5_⟩
           have n6_ : Aside0 (gb248 ≠ gb272) := ⟨h6_⟩
           have n7_ : Aside0 (gb272 ≠ gb248) := ⟨h7_⟩
           have n8_ : Aside0 (gb249 ≠ gb272) := ⟨h8_⟩
           have n9_ : Aside0 (gb272 ≠ gb249) := ⟨h9_⟩
           have n10_ : Aside0 (gb250 ≠ gb272) := ⟨h10_⟩
           have n11_ : Aside0 (gb272 ≠ gb250) := ⟨h11_⟩
           have n12_ : Aside0 (Below w.heap.size w w31) := ⟨h12_⟩
           clear BK248
           clear BK249
           clear BK250
           clear HB
           clear h0_ h1_ h2_ h3_ h4_ h5_ h6_ h7_ h8_ h9_ h10_ h11_ h12_
           have BK248 := n0_
           have BK249 := n1_
           have BK250 := n2_
           have BK272 := n3_
           have GW272 := n4_
           have GE272 := n5_
           have NB248_272 := n6_
           have NB272_248 := n7_
           have NB249_272 := n8_
           have NB272_249 := n9_
           have NB250_272 := n10_
           have NB272_250 := n11_
           have HB := n12_
           clear n0_ n1_ n2_ n3_ n4_ n5_ n6_ n7_ n8_ n9_ n10_ n11_ n12_
           have hHeld : w31.cell? ⟨gb248, 0, none⟩ = some (.slice A0_0 l0_0.length c0_0) ∧ w31.cell? ⟨gb248, 1, none⟩ = some (.int .i16 a0_1) ∧ w31.cell? ⟨gb248, 2, none⟩ = some (.int .i16 a0_2) ∧ w31.cell? ⟨gb248, 3, none⟩ = some (.int .i16 a0_3) ∧ w31.cell? ⟨gb248, 4, none⟩ = some (.int .i16 a0_4) ∧ w31.cell? ⟨gb248, 5, none⟩ = some (.bool a0_5) ∧ w31.cell? ⟨gb249, 0, none⟩ = some (.int .i16 a1_0) ∧ w31.cell? ⟨gb249, 1, none⟩ = some (.int .i16 a1_1) ∧ w31.cell? ⟨gb249, 2, none⟩ = some (.int .i16 a1_2) ∧ w31.cell? ⟨gb249, 3, none⟩ = some (.int .i16 a1_3) ∧ w31.cell? ⟨gb250, 0, none⟩ = some (.int .i8 a2_0) ∧ w31.cell? ⟨gb250, 1, none⟩ = some (.int .i8 a2_1) ∧ w31.cell? ⟨gb250, 2, none⟩ = some (.int .i8 a2_2) := hS_
           refine norm_ (a' := ?_) ?_ ?_
           rotate_left
           ·simp only [putAll, Act.put, List.setIfInBounds_toArray, List.set_cons_zero, List.set_cons_succ]
            rfl
           refine one_ (i := 1) (N := some 20) #[true, true, true, false, true, false, false, false, false, false, true, false, false] rfl rfl (one_of HT_.out (by kernel_rfl)) (by decide) (fun K hK => ?_)
           refine goes_ Try.func18 (by kernel_rfl) rfl #[.agg #[.slice A0_0 l0_0.length c0_0, .int .i16 a0_1, .int .i16 a0_2, .int .i16 a0_3, .int .i16 a0_4, .bool a0_5]] (by rfl) rfl rfl arg_ ?_
           with_reducible refine (laws_toPuzzle.calls k _ _ l0_0 a0_1 a0_2 a0_3 a0_4 a0_5 t252 t255 t256 t257 t258 t259 _ ?side1 ?side2 A13.out).mono ?_
           (case side1 => repeat (first | exact (Kd.C_below HR0_0.out HB.out) | (with_reducible refine Kd.C_alloc ?_ _) | (with_reducible refine Kd.C_drewN ?_ _) | (with_reducible refine Kd.C_drew ?_)))
           (case side2 => exact HC0_0.out)
           rintro e w32 ⟨v253, rfl, ho0, hb⟩
           refine ⟨_, rfl, ?_⟩
           have n0_ := A_ (Kd.R_lower ho0 (below_size (bl_ HB)))
           have n1_ := A_ (blk_below (pl_ BK248) hb)
           have n2_ := A_ (blk_below (pl_ BK249) hb)
           have n3_ := A_ (blk_below (pl_ BK250) hb)
           have n4_ := A_ (blk_below (pl_ BK272) hb)
           have n5_ := A_ (below_step (bl_ HB) hb)
           clear BK248
           clear BK249
           clear BK250
           clear BK272
           clear HB
           have HO254 := n0_
           have BK248 := n1_
           have BK249 := n2_
           have BK250 := n3_
           have BK272 := n4_
           have HB := n5_
           clear n0_ n1_ n2_ n3_ n4_ n5_
           (try clear hb)
           (try clear hb2)
           (try clear hk)
           (try clear hi)
           (try clear ho0)
           refine hK.out _ _ ⟨(blk_cell BK248.out 0).trans rfl, (blk_cell BK248.out 1).trans rfl, (blk_cell BK248.out 2).trans rfl, (blk_cell BK248.out 3).trans rfl, (blk_cell BK248.out 4).trans rfl, (blk_cell BK248.out 5).trans rfl, (blk_cell BK249.out 0).trans rfl, (blk_cell BK249.out 1).trans rfl, (blk_cell BK249.out 2).trans rfl, (blk_cell BK249.out 3).trans rfl, (blk_cell BK250.out 0).trans rfl, (blk_cell BK250.out 1).trans rfl, (blk_cell BK250.out 2).trans rfl⟩ (fun hHeld => ?_)
           clear hK K
           refine norm_ (a' := ?_) ?_ ?_
           rotate_left
           ·show Act.put _ (some 20) _ = _
            simp only [Act.put, List.setIfInBounds_toArray, List.set_cons_zero, List.set_cons_succ, i64_w, i32_w]
            rfl
           exact norm_ (by first | (simp only [putAll, Act.put, List.setIfInBounds_toArray, List.set_cons_zero, List.set_cons_succ]; done) | (simp only [putAll, Act.put, List.setIfInBounds_toArray, List.set_cons_zero, List.set_cons_succ]; rfl)) (hJ1_10 (v253, gb272) _ ⟨hHeld, (pr_ HO254), (pl_ BK248), (pl_ BK249), (pl_ BK250), (pl_ BK272), GW272.out, GE272.out, NB248_272.out, NB272_248.out, NB249_272.out, NB272_249.out, NB250_272.out, NB272_250.out, (bl_ HB)⟩)
         ·skip
          rintro v253 w31 ⟨hS_, h0_, h1_, h2_, h3_, h4_⟩
          have n0_ : Aside0 (Kd.R (Kd.int .i16) 23 w31 w.heap.size (fun _ => True) v253 t252) := ⟨h0_⟩
          have n1_ : Aside0 (w31.heap[gb248]? = some (.cells #[.slice A0_0 l0_0.length c0_0, .int .i16 a0_1, .int .i16 a0_2, .int .i16 a0_3, .int .i16 a0_4, .bool a0_5] 26 (0, 0))) := ⟨h1_⟩
          have n2_ : Aside0 (w31.heap[gb249]? = some (.cells #[.int .i16 a1_0, .int .i16 a1_1, .int .i16 a1_2, .int .i16 a1_3] 24 (0, 0))) := ⟨h2_⟩
          have n3_ : Aside0 (w31.heap[gb250]? = some (.cells #[.int .i8 a2_0, .int .i8 a2_1, .int .i8 a2_2] 58 (0, 0))) := ⟨h3_⟩
          have n4_ : Aside0 (Below w.heap.size w w31) := ⟨h4_⟩
          clear BK248
          clear BK249
          clear BK250
          clear HB
          clear h0_ h1_ h2_ h3_ h4_
          have HO254 := n0_
          have BK248 := n1_
          have BK249 := n2_
          have BK250 := n3_
          have HB := n4_
          clear n0_ n1_ n2_ n3_ n4_
          have hHeld : w31.cell? ⟨gb248, 0, none⟩ = some (.slice A0_0 l0_0.length c0_0) ∧ w31.cell? ⟨gb248, 1, none⟩ = some (.int .i16 a0_1) ∧ w31.cell? ⟨gb248, 2, none⟩ = some (.int .i16 a0_2) ∧ w31.cell? ⟨gb248, 3, none⟩ = some (.int .i16 a0_3) ∧ w31.cell? ⟨gb248, 4, none⟩ = some (.int .i16 a0_4) ∧ w31.cell? ⟨gb248, 5, none⟩ = some (.bool a0_5) ∧ w31.cell? ⟨gb249, 0, none⟩ = some (.int .i16 a1_0) ∧ w31.cell? ⟨gb249, 1, none⟩ = some (.int .i16 a1_1) ∧ w31.cell? ⟨gb249, 2, none⟩ = some (.int .i16 a1_2) ∧ w31.cell? ⟨gb249, 3, none⟩ = some (.int .i16 a1_3) ∧ w31.cell? ⟨gb250, 0, none⟩ = some (.int .i8 a2_0) ∧ w31.cell? ⟨gb250, 1, none⟩ = some (.int .i8 a2_1) ∧ w31.cell? ⟨gb250, 2, none⟩ = some (.int .i8 a2_2) := hS_
          refine norm_ (a' := ?_) ?_ ?_
          rotate_left
          ·simp only [putAll, Act.put, List.setIfInBounds_toArray, List.set_cons_zero, List.set_cons_succ]
           rfl
          refine two_ (i := 3) (j := 10) (Ni := some 22) (Nj := some 8) #[true, true, true, true, true, false, false, false, false, false, false, false, false] #[true, true, true, false, true, false, false, false, false, false, true, false, false] rfl rfl rfl rfl (two_of HT_.out (by kernel_rfl)) (by decide) (by decide) (fun K hK => ?_) (fun K hK => ?_)
          ·skip
           refine goes_ Try.func26 (by kernel_rfl) rfl #[.agg #[.int .i16 a1_0, .int .i16 a1_1, .int .i16 a1_2, .int .i16 a1_3]] (by rfl) rfl rfl arg_ ?_
           with_reducible refine (laws_toWater.calls k a1_0 a1_1 a1_2 a1_3 t260 t261 t262 t263 _ A14.out).mono ?_
           rintro e w32 ⟨rfl, hb⟩
           refine ⟨_, rfl, ?_⟩
           have n0_ := A_ (Kd.R_below (pr_ HO254) hb)
           have n1_ := A_ (blk_below (pl_ BK248) hb)
           have n2_ := A_ (blk_below (pl_ BK249) hb)
           have n3_ := A_ (blk_below (pl_ BK250) hb)
           have n4_ := A_ (below_step (bl_ HB) hb)
           clear HO254
           clear BK248
           clear BK249
           clear BK250
           clear HB
           have HO254 := n0_
           have BK248 := n1_
           have BK249 := n2_
           have BK250 := n3_
           have HB := n4_
           clear n0_ n1_ n2_ n3_ n4_
           (try clear hb)
           (try clear hb2)
           (try clear hk)
           (try clear hi)
           refine hK.out _ _ ⟨(blk_cell BK248.out 0).trans rfl, (blk_cell BK248.out 1).trans rfl, (blk_cell BK248.out 2).trans rfl, (blk_cell BK248.out 3).trans rfl, (blk_cell BK248.out 4).trans rfl, (blk_cell BK248.out 5).trans rfl, (blk_cell BK249.out 0).trans rfl, (blk_cell BK249.out 1).trans rfl, (blk_cell BK249.out 2).trans rfl, (blk_cell BK249.out 3).trans rfl, (blk_cell BK250.out 0).trans rfl, (blk_cell BK250.out 1).trans rfl, (blk_cell BK250.out 2).trans rfl⟩ (fun hHeld => ?_)
           clear hK K
           refine norm_ (a' := ?_) ?_ ?_
           rotate_left
           ·show Act.put _ (some 22) _ = _
            simp only [Act.put, List.setIfInBounds_toArray, List.set_cons_zero, List.set_cons_succ, i64_w, i32_w]
            rfl
           exact norm_ (by first | (simp only [putAll, Act.put, List.setIfInBounds_toArray, List.set_cons_zero, List.set_cons_succ]; done) | (simp only [putAll, Act.put, List.setIfInBounds_toArray, List.set_cons_zero, List.set_cons_succ]; rfl)) (hJ1_3 (v253) _ ⟨hHeld, (pr_ HO254), (pl_ BK248), (pl_ BK249), (pl_ BK250), (bl_ HB)⟩)
          ·skip
           refine box_step ?hg (N := 8) ?hd (cs := #[.int .i16 0, .int .i16 0, .int .i16 0, .int .i16 0]) (t := 30) ?hr ?_; (case hd => rfl); (case hg => rfl); (case hr => first | (go_simp; done) | (go_simp; rfl))
           intro gb272 hg w32 hbox hb
           have n0_ := A_ (Kd.R_below (pr_ HO254) hb)
           have n1_ := A_ (blk_below (pl_ BK248) hb)
           have n2_ := A_ (blk_below (pl_ BK249) hb)
           have n3_ := A_ (blk_below (pl_ BK250) hb)
           have n4_ := A_ (below_step (bl_ HB) hb)
           have n5_ := A_ (hbox)
           have n6_ := A_ ((by rw [hg]; exact (below_size (bl_ HB)) : w.heap.size ≤ gb272))
           have n7_ := n6_
           have n8_ := A_ ((by rw [hg]; exact Nat.ne_of_lt (blk_lt (pl_ BK248)) : gb248 ≠ gb272))
           have n9_ := Aside0.mk n8_.out.symm
           have n10_ := A_ ((by rw [hg]; exact Nat.ne_of_lt (blk_lt (pl_ BK249)) : gb249 ≠ gb272))
           have n11_ := Aside0.mk n10_.out.symm
           have n12_ := A_ ((by rw [hg]; exact Nat.ne_of_lt (blk_lt (pl_ BK250)) : gb250 ≠ gb272))
           have n13_ := Aside0.mk n12_.out.symm
           clear HO254
           clear BK248
           clear BK249
           clear BK250
           clear HB
           have HO254 := n0_
           have BK248 := n1_
           have BK249 := n2_
           have BK250 := n3_
           have HB := n4_
           have BK272 := n5_
           have GW272 := n6_
           have GE272 := n7_
           have NB248_272 := n8_
           have NB272_248 := n9_
           have NB249_272 := n10_
           have NB272_249 := n11_
           have NB250_272 := n12_
           have NB272_250 := n13_
           clear n0_ n1_ n2_ n3_ n4_ n5_ n6_ n7_ n8_ n9_ n10_ n11_ n12_ n13_
           clear hb hbox hg
           refine hK.out _ _ ⟨(blk_cell BK248.out 0).trans rfl, (blk_cell BK248.out 1).trans rfl, (blk_cell BK248.out 2).trans rfl, (blk_cell BK248.out 3).trans rfl, (blk_cell BK248.out 4).trans rfl, (blk_cell BK248.out 5).trans rfl, (blk_cell BK249.out 0).trans rfl, (blk_cell BK249.out 1).trans rfl, (blk_cell BK249.out 2).trans rfl, (blk_cell BK249.out 3).trans rfl, (blk_cell BK250.out 0).trans rfl, (blk_cell BK250.out 1).trans rfl, (blk_cell BK250.out 2).trans rfl⟩ (fun hHeld => ?_)
           clear hK K
           refine norm_ (a' := ?_) ?_ ?_
           rotate_left
           ·show Act.put _ (some 8) _ = _
            simp only [Act.put, List.setIfInBounds_toArray, List.set_cons_zero, List.set_cons_succ, i64_w, i32_w]
            rfl
           exact norm_ (by first | (simp only [putAll, Act.put, List.setIfInBounds_toArray, List.set_cons_zero, List.set_cons_succ]; done) | (simp only [putAll, Act.put, List.setIfInBounds_toArray, List.set_cons_zero, List.set_cons_succ]; rfl)) (hJ1_10 (v253, gb272) _ ⟨hHeld, (pr_ HO254), (pl_ BK248), (pl_ BK249), (pl_ BK250), (pl_ BK272), GW272.out, GE272.out, NB248_272.out, NB272_248.out, NB249_272.out, NB272_249.out, NB250_272.out, NB272_250.out, (bl_ HB)⟩)
        ·skip
         rintro ⟨v253, gb272⟩ w32 ⟨hS_, h0_, h1_, h2_, h3_, h4_, h5_, h6_, h7_, h8_, h9_, h10_, h11_, h12_, h13_⟩
         have n0_ : Aside0 (Kd.R (Kd.int .i16) 23 w32 w.heap.size (fun _ => True) v253 t252) := ⟨h0_⟩
         have n1_ : Aside0 (w32.heap[gb248]? = some (.cells #[.slice A0_0 l0_0.length c0_0, .int .i16 a0_1, .int .i16 a0_2, .int .i16 a0_3, .int .i16 a0_4, .bool a0_5] 26 (0, 0))) := ⟨h1_⟩
         have n2_ : Aside0 (w32.heap[gb249]? = some (.cells #[.int .i16 a1_0, .int .i16 a1_1, .int .i16 a1_2, .int .i16 a1_3] 24 (0, 0))) := ⟨h2_⟩
         have n3_ : Aside0 (w32.heap[gb250]? = some (.cells #[.int .i8 a2_0, .int .i8 a2_1, .int .i8 a2_2] 58 (0, 0))) := ⟨h3_⟩
         have n4_ : Aside0 (w32.heap[gb272]? = some (.cells #[.int .i16 0, .int .i16 0, .int .i16 0, .int .i16 0] 30 (0, 0))) := ⟨h4_⟩
         have n5_ : Aside0 (w.heap.size ≤ gb272) := ⟨h5_⟩
         have n6_ : Aside0 (w.heap.size ≤ gb272) := ⟨h6_⟩
         have n7_ : Aside0 (gb248 ≠ gb272) := ⟨h7_⟩
         have n8_ : Aside0 (gb272 ≠ gb248) := ⟨h8_⟩
         have n9_ : Aside0 (gb249 ≠ gb272) := ⟨h9_⟩
         have n10_ : Aside0 (gb272 ≠ gb249) := ⟨h10_⟩
         have n11_ : Aside0 (gb250 ≠ gb272) := ⟨h11_⟩
         have n12_ : Aside0 (gb272 ≠ gb250) := ⟨h12_⟩
         have n13_ : Aside0 (Below w.heap.size w w32) := ⟨h13_⟩
         clear BK248
         clear BK249
         clear BK250
         clear HB
         clear h0_ h1_ h2_ h3_ h4_ h5_ h6_ h7_ h8_ h9_ h10_ h11_ h12_ h13_
         have HO254 := n0_
         have BK248 := n1_
         have BK249 := n2_
         have BK250 := n3_
         have BK272 := n4_
         have GW272 := n5_
         have GE272 := n6_
         have NB248_272 := n7_
         have NB272_248 := n8_
         have NB249_272 := n9_
         have NB272_249 := n10_
         have NB250_272 := n11_
         have NB272_250 := n12_
         have HB := n13_
         clear n0_ n1_ n2_ n3_ n4_ n5_ n6_ n7_ n8_ n9_ n10_ n11_ n12_ n13_
         have hHeld : w32.cell? ⟨gb248, 0, none⟩ = some (.slice A0_0 l0_0.length c0_0) ∧ w32.cell? ⟨gb248, 1, none⟩ = some (.int .i16 a0_1) ∧ w32.cell? ⟨gb248, 2, none⟩ = some (.int .i16 a0_2) ∧ w32.cell? ⟨gb248, 3, none⟩ = some (.int .i16 a0_3) ∧ w32.cell? ⟨gb248, 4, none⟩ = some (.int .i16 a0_4) ∧ w32.cell? ⟨gb248, 5, none⟩ = some (.bool a0_5) ∧ w32.cell? ⟨gb249, 0, none⟩ = some (.int .i16 a1_0) ∧ w32.cell? ⟨gb249, 1, none⟩ = some (.int .i16 a1_1) ∧ w32.cell? ⟨gb249, 2, none⟩ = some (.int .i16 a1_2) ∧ w32.cell? ⟨gb249, 3, none⟩ = some (.int .i16 a1_3) ∧ w32.cell? ⟨gb250, 0, none⟩ = some (.int .i8 a2_0) ∧ w32.cell? ⟨gb250, 1, none⟩ = some (.int .i8 a2_1) ∧ w32.cell? ⟨gb250, 2, none⟩ = some (.int .i8 a2_2) := hS_
         refine norm_ (a' := ?_) ?_ ?_
         rotate_left
         ·simp only [putAll, Act.put, List.setIfInBounds_toArray, List.set_cons_zero, List.set_cons_succ]
          rfl
         refine one_ (i := 3) (N := some 22) #[true, true, true, true, true, false, false, false, false, false, true, false, false] rfl rfl (one_of HT_.out (by kernel_rfl)) (by decide) (fun K hK => ?_)
         refine goes_ Try.func26 (by kernel_rfl) rfl #[.agg #[.int .i16 a1_0, .int .i16 a1_1, .int .i16 a1_2, .int .i16 a1_3]] (by rfl) rfl rfl arg_ ?_
         with_reducible refine (laws_toWater.calls k a1_0 a1_1 a1_2 a1_3 t260 t261 t262 t263 _ A14.out).mono ?_
         rintro e w33 ⟨rfl, hb⟩
         refine ⟨_, rfl, ?_⟩
         have n0_ := A_ (Kd.R_below (pr_ HO254) hb)
         have n1_ := A_ (blk_below (pl_ BK248) hb)
         have n2_ := A_ (blk_below (pl_ BK249) hb)
         have n3_ := A_ (blk_below (pl_ BK250) hb)
         have n4_ := A_ (blk_below (pl_ BK272) hb)
         have n5_ := A_ (below_step (bl_ HB) hb)
         clear HO254
         clear BK248
         clear BK249
         clear BK250
         clear BK272
         clear HB
         have HO254 := n0_
         have BK248 := n1_
         have BK249 := n2_
         have BK250 := n3_
         have BK272 := n4_
         have HB := n5_
         clear n0_ n1_ n2_ n3_ n4_ n5_
         (try clear hb)
         (try clear hb2)
         (try clear hk)
         (try clear hi)
         refine hK.out _ _ ⟨(blk_cell BK248.out 0).trans rfl, (blk_cell BK248.out 1).trans rfl, (blk_cell BK248.out 2).trans rfl, (blk_cell BK248.out 3).trans rfl, (blk_cell BK248.out 4).trans rfl, (blk_cell BK248.out 5).trans rfl, (blk_cell BK249.out 0).trans rfl, (blk_cell BK249.out 1).trans rfl, (blk_cell BK249.out 2).trans rfl, (blk_cell BK249.out 3).trans rfl, (blk_cell BK250.out 0).trans rfl, (blk_cell BK250.out 1).trans rfl, (blk_cell BK250.out 2).trans rfl⟩ (fun hHeld => ?_)
         clear hK K
         refine norm_ (a' := ?_) ?_ ?_
         rotate_left
         ·show Act.put _ (some 22) _ = _
          simp only [Act.put, List.setIfInBounds_toArray, List.set_cons_zero, List.set_cons_succ, i64_w, i32_w]
          rfl
         exact norm_ (by first | (simp only [putAll, Act.put, List.setIfInBounds_toArray, List.set_cons_zero, List.set_cons_succ]; done) | (simp only [putAll, Act.put, List.setIfInBounds_toArray, List.set_cons_zero, List.set_cons_succ]; rfl)) (hJ1_3_10 (v253, gb272) _ ⟨hHeld, (pr_ HO254), (pl_ BK248), (pl_ BK249), (pl_ BK250), (pl_ BK272), GW272.out, GE272.out, NB248_272.out, NB272_248.out, NB249_272.out, NB272_249.out, NB250_272.out, NB272_250.out, (bl_ HB)⟩)
       ·skip
        rintro v253 w32 ⟨hS_, h0_, h1_, h2_, h3_, h4_⟩
        have n0_ : Aside0 (Kd.R (Kd.int .i16) 23 w32 w.heap.size (fun _ => True) v253 t252) := ⟨h0_⟩
        have n1_ : Aside0 (w32.heap[gb248]? = some (.cells #[.slice A0_0 l0_0.length c0_0, .int .i16 a0_1, .int .i16 a0_2, .int .i16 a0_3, .int .i16 a0_4, .bool a0_5] 26 (0, 0))) := ⟨h1_⟩
        have n2_ : Aside0 (w32.heap[gb249]? = some (.cells #[.int .i16 a1_0, .int .i16 a1_1, .int .i16 a1_2, .int .i16 a1_3] 24 (0, 0))) := ⟨h2_⟩
        have n3_ : Aside0 (w32.heap[gb250]? = some (.cells #[.int .i8 a2_0, .int .i8 a2_1, .int .i8 a2_2] 58 (0, 0))) := ⟨h3_⟩
        have n4_ : Aside0 (Below w.heap.size w w32) := ⟨h4_⟩
        clear BK248
        clear BK249
        clear BK250
        clear HB
        clear h0_ h1_ h2_ h3_ h4_
        have HO254 := n0_
        have BK248 := n1_
        have BK249 := n2_
        have BK250 := n3_
        have HB := n4_
        clear n0_ n1_ n2_ n3_ n4_
        have hHeld : w32.cell? ⟨gb248, 0, none⟩ = some (.slice A0_0 l0_0.length c0_0) ∧ w32.cell? ⟨gb248, 1, none⟩ = some (.int .i16 a0_1) ∧ w32.cell? ⟨gb248, 2, none⟩ = some (.int .i16 a0_2) ∧ w32.cell? ⟨gb248, 3, none⟩ = some (.int .i16 a0_3) ∧ w32.cell? ⟨gb248, 4, none⟩ = some (.int .i16 a0_4) ∧ w32.cell? ⟨gb248, 5, none⟩ = some (.bool a0_5) ∧ w32.cell? ⟨gb249, 0, none⟩ = some (.int .i16 a1_0) ∧ w32.cell? ⟨gb249, 1, none⟩ = some (.int .i16 a1_1) ∧ w32.cell? ⟨gb249, 2, none⟩ = some (.int .i16 a1_2) ∧ w32.cell? ⟨gb249, 3, none⟩ = some (.int .i16 a1_3) ∧ w32.cell? ⟨gb250, 0, none⟩ = some (.int .i8 a2_0) ∧ w32.cell? ⟨gb250, 1, none⟩ = some (.int .i8 a2_1) ∧ w32.cell? ⟨gb250, 2, none⟩ = some (.int .i8 a2_2) := hS_
        refine norm_ (a' := ?_) ?_ ?_
        rotate_left
        ·simp only [putAll, Act.put, List.setIfInBounds_toArray, List.set_cons_zero, List.set_cons_succ]
         rfl
        refine two_ (i := 5) (j := 10) (Ni := some 24) (Nj := some 8) #[true, true, true, true, true, true, false, false, false, false, false, false, false] #[true, true, true, true, true, false, false, false, false, false, true, false, false] rfl rfl rfl rfl (two_of HT_.out (by kernel_rfl)) (by decide) (by decide) (fun K hK => ?_) (fun K hK => ?_)
        ·skip
         refine goes_ Try.func43 (by kernel_rfl) rfl #[.agg #[.int .i8 a2_0, .int .i8 a2_1, .int .i8 a2_2]] (by rfl) rfl rfl arg_ ?_
         with_reducible refine (laws_toMove.calls a2_0 a2_1 a2_2 t264 t265 t266 _ A15.out).mono ?_
         rintro e w33 ⟨rfl, hb⟩
         refine ⟨_, rfl, ?_⟩
         have n0_ := A_ (Kd.R_below (pr_ HO254) hb)
         have n1_ := A_ (blk_below (pl_ BK248) hb)
         have n2_ := A_ (blk_below (pl_ BK249) hb)
         have n3_ := A_ (blk_below (pl_ BK250) hb)
         have n4_ := A_ (below_step (bl_ HB) hb)
         clear HO254
         clear BK248
         clear BK249
         clear BK250
         clear HB
         have HO254 := n0_
         have BK248 := n1_
         have BK249 := n2_
         have BK250 := n3_
         have HB := n4_
         clear n0_ n1_ n2_ n3_ n4_
         (try clear hb)
         (try clear hb2)
         (try clear hk)
         (try clear hi)
         refine hK.out _ _ ⟨(blk_cell BK248.out 0).trans rfl, (blk_cell BK248.out 1).trans rfl, (blk_cell BK248.out 2).trans rfl, (blk_cell BK248.out 3).trans rfl, (blk_cell BK248.out 4).trans rfl, (blk_cell BK248.out 5).trans rfl, (blk_cell BK249.out 0).trans rfl, (blk_cell BK249.out 1).trans rfl, (blk_cell BK249.out 2).trans rfl, (blk_cell BK249.out 3).trans rfl, (blk_cell BK250.out 0).trans rfl, (blk_cell BK250.out 1).trans rfl, (blk_cell BK250.out 2).trans rfl⟩ (fun hHeld => ?_)
         clear hK K
         refine norm_ (a' := ?_) ?_ ?_
         rotate_left
         ·show Act.put _ (some 24) _ = _
          simp only [Act.put, List.setIfInBounds_toArray, List.set_cons_zero, List.set_cons_succ, i64_w, i32_w]
          rfl
         exact norm_ (by first | (simp only [putAll, Act.put, List.setIfInBounds_toArray, List.set_cons_zero, List.set_cons_succ]; done) | (simp only [putAll, Act.put, List.setIfInBounds_toArray, List.set_cons_zero, List.set_cons_succ]; rfl)) (hJ1_3_5 (v253) _ ⟨hHeld, (pr_ HO254), (pl_ BK248), (pl_ BK249), (pl_ BK250), (bl_ HB)⟩)
        ·skip
         refine box_step ?hg (N := 8) ?hd (cs := #[.int .i16 0, .int .i16 0, .int .i16 0, .int .i16 0]) (t := 30) ?hr ?_; (case hd => rfl); (case hg => rfl); (case hr => first | (go_simp; done) | (go_simp; rfl))
         intro gb272 hg w33 hbox hb
         have n0_ := A_ (Kd.R_below (pr_ HO254) hb)
         have n1_ := A_ (blk_below (pl_ BK248) hb)
         have n2_ := A_ (blk_below (pl_ BK249) hb)
         have n3_ := A_ (blk_below (pl_ BK250) hb)
         have n4_ := A_ (below_step (bl_ HB) hb)
         have n5_ := A_ (hbox)
         have n6_ := A_ ((by rw [hg]; exact (below_size (bl_ HB)) : w.heap.size ≤ gb272))
         have n7_ := n6_
         have n8_ := A_ ((by rw [hg]; exact Nat.ne_of_lt (blk_lt (pl_ BK248)) : gb248 ≠ gb272))
         have n9_ := Aside0.mk n8_.out.symm
         have n10_ := A_ ((by rw [hg]; exact Nat.ne_of_lt (blk_lt (pl_ BK249)) : gb249 ≠ gb272))
         have n11_ := Aside0.mk n10_.out.symm
         have n12_ := A_ ((by rw [hg]; exact Nat.ne_of_lt (blk_lt (pl_ BK250)) : gb250 ≠ gb272))
         have n13_ := Aside0.mk n12_.out.symm
         clear HO254
         clear BK248
         clear BK249
         clear BK250
         clear HB
         have HO254 := n0_
         have BK248 := n1_
         have BK249 := n2_
         have BK250 := n3_
         have HB := n4_
         have BK272 := n5_
         have GW272 := n6_
         have GE272 := n7_
         have NB248_272 := n8_
         have NB272_248 := n9_
         have NB249_272 := n10_
         have NB272_249 := n11_
         have NB250_272 := n12_
         have NB272_250 := n13_
         clear n0_ n1_ n2_ n3_ n4_ n5_ n6_ n7_ n8_ n9_ n10_ n11_ n12_ n13_
         clear hb hbox hg
         refine hK.out _ _ ⟨(blk_cell BK248.out 0).trans rfl, (blk_cell BK248.out 1).trans rfl, (blk_cell BK248.out 2).trans rfl, (blk_cell BK248.out 3).trans rfl, (blk_cell BK248.out 4).trans rfl, (blk_cell BK248.out 5).trans rfl, (blk_cell BK249.out 0).trans rfl, (blk_cell BK249.out 1).trans rfl, (blk_cell BK249.out 2).trans rfl, (blk_cell BK249.out 3).trans rfl, (blk_cell BK250.out 0).trans rfl, (blk_cell BK250.out 1).trans rfl, (blk_cell BK250.out 2).trans rfl⟩ (fun hHeld => ?_)
         clear hK K
         refine norm_ (a' := ?_) ?_ ?_
         rotate_left
         ·show Act.put _ (some 8) _ = _
          simp only [Act.put, List.setIfInBounds_toArray, List.set_cons_zero, List.set_cons_succ, i64_w, i32_w]
          rfl
         exact norm_ (by first | (simp only [putAll, Act.put, List.setIfInBounds_toArray, List.set_cons_zero, List.set_cons_succ]; done) | (simp only [putAll, Act.put, List.setIfInBounds_toArray, List.set_cons_zero, List.set_cons_succ]; rfl)) (hJ1_3_10 (v253, gb272) _ ⟨hHeld, (pr_ HO254), (pl_ BK248), (pl_ BK249), (pl_ BK250), (pl_ BK272), GW272.out, GE272.out, NB248_272.out, NB272_248.out, NB249_272.out, NB272_249.out, NB250_272.out, NB272_250.out, (bl_ HB)⟩)
      ·skip
       rintro ⟨v253, gb272⟩ w33 ⟨hS_, h0_, h1_, h2_, h3_, h4_, h5_, h6_, h7_, h8_, h9_, h10_, h11_, h12_, h13_⟩
       have n0_ : Aside0 (Kd.R (Kd.int .i16) 23 w33 w.heap.size (fun _ => True) v253 t252) := ⟨h0_⟩
       have n1_ : Aside0 (w33.heap[gb248]? = some (.cells #[.slice A0_0 l0_0.length c0_0, .int .i16 a0_1, .int .i16 a0_2, .int .i16 a0_3, .int .i16 a0_4, .bool a0_5] 26 (0, 0))) := ⟨h1_⟩
       have n2_ : Aside0 (w33.heap[gb249]? = some (.cells #[.int .i16 a1_0, .int .i16 a1_1, .int .i16 a1_2, .int .i16 a1_3] 24 (0, 0))) := ⟨h2_⟩
       have n3_ : Aside0 (w33.heap[gb250]? = some (.cells #[.int .i8 a2_0, .int .i8 a2_1, .int .i8 a2_2] 58 (0, 0))) := ⟨h3_⟩
       have n4_ : Aside0 (w33.heap[gb272]? = some (.cells #[.int .i16 0, .int .i16 0, .int .i16 0, .int .i16 0] 30 (0, 0))) := ⟨h4_⟩
       have n5_ : Aside0 (w.heap.size ≤ gb272) := ⟨h5_⟩
       have n6_ : Aside0 (w.heap.size ≤ gb272) := ⟨h6_⟩
       have n7_ : Aside0 (gb248 ≠ gb272) := ⟨h7_⟩
       have n8_ : Aside0 (gb272 ≠ gb248) := ⟨h8_⟩
       have n9_ : Aside0 (gb249 ≠ gb272) := ⟨h9_⟩
       have n10_ : Aside0 (gb272 ≠ gb249) := ⟨h10_⟩
       have n11_ : Aside0 (gb250 ≠ gb272) := ⟨h11_⟩
       have n12_ : Aside0 (gb272 ≠ gb250) := ⟨h12_⟩
       have n13_ : Aside0 (Below w.heap.size w w33) := ⟨h13_⟩
       clear BK248
       clear BK249
       clear BK250
       clear HB
       clear h0_ h1_ h2_ h3_ h4_ h5_ h6_ h7_ h8_ h9_ h10_ h11_ h12_ h13_
       have HO254 := n0_
       have BK248 := n1_
       have BK249 := n2_
       have BK250 := n3_
       have BK272 := n4_
       have GW272 := n5_
       have GE272 := n6_
       have NB248_272 := n7_
       have NB272_248 := n8_
       have NB249_272 := n9_
       have NB272_249 := n10_
       have NB250_272 := n11_
       have NB272_250 := n12_
       have HB := n13_
       clear n0_ n1_ n2_ n3_ n4_ n5_ n6_ n7_ n8_ n9_ n10_ n11_ n12_ n13_
       have hHeld : w33.cell? ⟨gb248, 0, none⟩ = some (.slice A0_0 l0_0.length c0_0) ∧ w33.cell? ⟨gb248, 1, none⟩ = some (.int .i16 a0_1) ∧ w33.cell? ⟨gb248, 2, none⟩ = some (.int .i16 a0_2) ∧ w33.cell? ⟨gb248, 3, none⟩ = some (.int .i16 a0_3) ∧ w33.cell? ⟨gb248, 4, none⟩ = some (.int .i16 a0_4) ∧ w33.cell? ⟨gb248, 5, none⟩ = some (.bool a0_5) ∧ w33.cell? ⟨gb249, 0, none⟩ = some (.int .i16 a1_0) ∧ w33.cell? ⟨gb249, 1, none⟩ = some (.int .i16 a1_1) ∧ w33.cell? ⟨gb249, 2, none⟩ = some (.int .i16 a1_2) ∧ w33.cell? ⟨gb249, 3, none⟩ = some (.int .i16 a1_3) ∧ w33.cell? ⟨gb250, 0, none⟩ = some (.int .i8 a2_0) ∧ w33.cell? ⟨gb250, 1, none⟩ = some (.int .i8 a2_1) ∧ w33.cell? ⟨gb250, 2, none⟩ = some (.int .i8 a2_2) := hS_
       refine norm_ (a' := ?_) ?_ ?_
       rotate_left
       ·simp only [putAll, Act.put, List.setIfInBounds_toArray, List.set_cons_zero, List.set_cons_succ]
        rfl
       refine one_ (i := 5) (N := some 24) #[true, true, true, true, true, true, false, false, false, false, true, false, false] rfl rfl (one_of HT_.out (by kernel_rfl)) (by decide) (fun K hK => ?_)
       refine goes_ Try.func43 (by kernel_rfl) rfl #[.agg #[.int .i8 a2_0, .int .i8 a2_1, .int .i8 a2_2]] (by rfl) rfl rfl arg_ ?_
       with_reducible refine (laws_toMove.calls a2_0 a2_1 a2_2 t264 t265 t266 _ A15.out).mono ?_
       rintro e w34 ⟨rfl, hb⟩
       refine ⟨_, rfl, ?_⟩
       have n0_ := A_ (Kd.R_below (pr_ HO254) hb)
       have n1_ := A_ (blk_below (pl_ BK248) hb)
       have n2_ := A_ (blk_below (pl_ BK249) hb)
       have n3_ := A_ (blk_below (pl_ BK250) hb)
       have n4_ := A_ (blk_below (pl_ BK272) hb)
       have n5_ := A_ (below_step (bl_ HB) hb)
       clear HO254
       clear BK248
       clear BK249
       clear BK250
       clear BK272
       clear HB
       have HO254 := n0_
       have BK248 := n1_
       have BK249 := n2_
       have BK250 := n3_
       have BK272 := n4_
       have HB := n5_
       clear n0_ n1_ n2_ n3_ n4_ n5_
       (try clear hb)
       (try clear hb2)
       (try clear hk)
       (try clear hi)
       refine hK.out _ _ ⟨(blk_cell BK248.out 0).trans rfl, (blk_cell BK248.out 1).trans rfl, (blk_cell BK248.out 2).trans rfl, (blk_cell BK248.out 3).trans rfl, (blk_cell BK248.out 4).trans rfl, (blk_cell BK248.out 5).trans rfl, (blk_cell BK249.out 0).trans rfl, (blk_cell BK249.out 1).trans rfl, (blk_cell BK249.out 2).trans rfl, (blk_cell BK249.out 3).trans rfl, (blk_cell BK250.out 0).trans rfl, (blk_cell BK250.out 1).trans rfl, (blk_cell BK250.out 2).trans rfl⟩ (fun hHeld => ?_)
       clear hK K
       refine norm_ (a' := ?_) ?_ ?_
       rotate_left
       ·show Act.put _ (some 24) _ = _
        simp only [Act.put, List.setIfInBounds_toArray, List.set_cons_zero, List.set_cons_succ, i64_w, i32_w]
        rfl
       exact norm_ (by first | (simp only [putAll, Act.put, List.setIfInBounds_toArray, List.set_cons_zero, List.set_cons_succ]; done) | (simp only [putAll, Act.put, List.setIfInBounds_toArray, List.set_cons_zero, List.set_cons_succ]; rfl)) (hJ1_3_5_10 (v253, gb272) _ ⟨hHeld, (pr_ HO254), (pl_ BK248), (pl_ BK249), (pl_ BK250), (pl_ BK272), GW272.out, GE272.out, NB248_272.out, NB272_248.out, NB249_272.out, NB272_249.out, NB250_272.out, NB272_250.out, (bl_ HB)⟩)
     ·skip
      rintro v253 w33 ⟨hS_, h0_, h1_, h2_, h3_, h4_⟩
      have n0_ : Aside0 (Kd.R (Kd.int .i16) 23 w33 w.heap.size (fun _ => True) v253 t252) := ⟨h0_⟩
      have n1_ : Aside0 (w33.heap[gb248]? = some (.cells #[.slice A0_0 l0_0.length c0_0, .int .i16 a0_1, .int .i16 a0_2, .int .i16 a0_3, .int .i16 a0_4, .bool a0_5] 26 (0, 0))) := ⟨h1_⟩
      have n2_ : Aside0 (w33.heap[gb249]? = some (.cells #[.int .i16 a1_0, .int .i16 a1_1, .int .i16 a1_2, .int .i16 a1_3] 24 (0, 0))) := ⟨h2_⟩
      have n3_ : Aside0 (w33.heap[gb250]? = some (.cells #[.int .i8 a2_0, .int .i8 a2_1, .int .i8 a2_2] 58 (0, 0))) := ⟨h3_⟩
      have n4_ : Aside0 (Below w.heap.size w w33) := ⟨h4_⟩
      clear BK248
      clear BK249
      clear BK250
      clear HB
      clear h0_ h1_ h2_ h3_ h4_
      have HO254 := n0_
      have BK248 := n1_
      have BK249 := n2_
      have BK250 := n3_
      have HB := n4_
      clear n0_ n1_ n2_ n3_ n4_
      have hHeld : w33.cell? ⟨gb248, 0, none⟩ = some (.slice A0_0 l0_0.length c0_0) ∧ w33.cell? ⟨gb248, 1, none⟩ = some (.int .i16 a0_1) ∧ w33.cell? ⟨gb248, 2, none⟩ = some (.int .i16 a0_2) ∧ w33.cell? ⟨gb248, 3, none⟩ = some (.int .i16 a0_3) ∧ w33.cell? ⟨gb248, 4, none⟩ = some (.int .i16 a0_4) ∧ w33.cell? ⟨gb248, 5, none⟩ = some (.bool a0_5) ∧ w33.cell? ⟨gb249, 0, none⟩ = some (.int .i16 a1_0) ∧ w33.cell? ⟨gb249, 1, none⟩ = some (.int .i16 a1_1) ∧ w33.cell? ⟨gb249, 2, none⟩ = some (.int .i16 a1_2) ∧ w33.cell? ⟨gb249, 3, none⟩ = some (.int .i16 a1_3) ∧ w33.cell? ⟨gb250, 0, none⟩ = some (.int .i8 a2_0) ∧ w33.cell? ⟨gb250, 1, none⟩ = some (.int .i8 a2_1) ∧ w33.cell? ⟨gb250, 2, none⟩ = some (.int .i8 a2_2) := hS_
      obtain ⟨Ao34, co34, eo34⟩ := Kd.R_slice HO254.out
      (first | subst eo34 | (injection eo34 with f1_ f2_ f3_; have f4_ := f1_.symm; have f5_ := f3_.symm; clear f1_ f2_ f3_; subst f4_; subst f5_))
      refine norm_ (a' := ?_) ?_ ?_
      rotate_left
      ·simp only [putAll, Act.put, List.setIfInBounds_toArray, List.set_cons_zero, List.set_cons_succ]
       rfl
      refine two_ (i := 6) (j := 10) (Ni := some 25) (Nj := some 8) #[true, true, true, true, true, true, true, false, false, false, false, false, false] #[true, true, true, true, true, true, false, false, false, false, true, false, false] rfl rfl rfl rfl (two_of HT_.out (by kernel_rfl)) (by decide) (by decide) (fun K hK => ?_) (fun K hK => ?_)
      ·skip
       refine goes_ Try.func42 (by kernel_rfl) rfl #[.agg #[.slice Ao34 t252.length co34, .int .i16 t255, .int .i16 t256, .int .i16 t257, .int .i16 t258, .bool t259], .agg #[.int .i16 t260, .int .i16 t261, .int .i16 t262, .int .i16 t263], .agg #[.int .i8 t264, .int .i8 t265, .int .i8 t266]] (by rfl) rfl rfl arg_ ?_
       with_reducible refine (spec_DoMove.calls k _ _ t252 t255 t256 t257 t258 t259 t260 t261 t262 t263 t264 t265 t266 t267 t268 t269 t270 t271 _ ?side1 ?side2 A16.out).mono ?_
       (case side1 => repeat (first | exact (Kd.R_reads' HO254.out).2.2 | (with_reducible refine Kd.C_alloc ?_ _) | (with_reducible refine Kd.C_drewN ?_ _) | (with_reducible refine Kd.C_drew ?_)))
       (case side2 => exact (Kd.R_reads' HO254.out).2.1)
       rintro e w35 ⟨rfl, hb⟩
       refine ⟨_, rfl, ?_⟩
       have n0_ := A_ (Kd.R_below (pr_ HO254) hb)
       have n1_ := A_ (blk_below (pl_ BK248) hb)
       have n2_ := A_ (blk_below (pl_ BK249) hb)
       have n3_ := A_ (blk_below (pl_ BK250) hb)
       have n4_ := A_ (below_step (bl_ HB) hb)
       clear HO254
       clear BK248
       clear BK249
       clear BK250
       clear HB
       have HO254 := n0_
       have BK248 := n1_
       have BK249 := n2_
       have BK250 := n3_
       have HB := n4_
       clear n0_ n1_ n2_ n3_ n4_
       (try clear hb)
       (try clear hb2)
       (try clear hk)
       (try clear hi)
       refine hK.out _ _ ⟨(blk_cell BK248.out 0).trans rfl, (blk_cell BK248.out 1).trans rfl, (blk_cell BK248.out 2).trans rfl, (blk_cell BK248.out 3).trans rfl, (blk_cell BK248.out 4).trans rfl, (blk_cell BK248.out 5).trans rfl, (blk_cell BK249.out 0).trans rfl, (blk_cell BK249.out 1).trans rfl, (blk_cell BK249.out 2).trans rfl, (blk_cell BK249.out 3).trans rfl, (blk_cell BK250.out 0).trans rfl, (blk_cell BK250.out 1).trans rfl, (blk_cell BK250.out 2).trans rfl⟩ (fun hHeld => ?_)
       clear hK K
       refine norm_ (a' := ?_) ?_ ?_
       rotate_left
       ·show Act.put _ (some 25) _ = _
        simp only [Act.put, List.setIfInBounds_toArray, List.set_cons_zero, List.set_cons_succ, i64_w, i32_w]
        rfl
       refine pure_ (i := 7) (N := some 18) (v := ?_) (a' := ?_) #[true, true, true, true, true, true, true, true, false, false, false, false, false] rfl rfl (any_of HT_.out (by kernel_rfl)) (fun _ _ _ h => h) (Or.inl ⟨by rfl, ?_⟩) ?_ ?_
       rotate_left
       ·intro w'
        go_simp
        with_reducible rfl
       rotate_left
       ·simp only [Act.put, List.setIfInBounds_toArray, List.set_cons_zero, List.set_cons_succ, i64_w, i32_w]
        rfl
       refine pure_ (i := 8) (N := some 26) (v := ?_) (a' := ?_) #[true, true, true, true, true, true, true, true, true, false, false, false, false] rfl rfl (any_of HT_.out (by kernel_rfl)) (fun _ _ _ h => h) (Or.inl ⟨by rfl, ?_⟩) ?_ ?_
       rotate_left
       ·intro w'
        go_simp
        with_reducible rfl
       rotate_left
       ·simp only [Act.put, List.setIfInBounds_toArray, List.set_cons_zero, List.set_cons_succ, i64_w, i32_w]
        rfl
       refine pure_ (i := 9) (N := some 27) (v := ?_) (a' := ?_) #[true, true, true, true, true, true, true, true, true, true, false, false, false] rfl rfl (any_of HT_.out (by kernel_rfl)) (fun _ _ _ h => h) (Or.inl ⟨by rfl, ?_⟩) ?_ ?_
       rotate_left
       ·intro w'
        go_simp
        with_reducible rfl
       rotate_left
       ·simp only [Act.put, List.setIfInBounds_toArray, List.set_cons_zero, List.set_cons_succ, i64_w, i32_w]
        rfl
       exact norm_ (by first | (simp only [putAll, Act.put, List.setIfInBounds_toArray, List.set_cons_zero, List.set_cons_succ]; done) | (simp only [putAll, Act.put, List.setIfInBounds_toArray, List.set_cons_zero, List.set_cons_succ]; rfl)) (hJ1_3_5_6 (.slice Ao34 t252.length co34) _ ⟨hHeld, (pr_ HO254), (pl_ BK248), (pl_ BK249), (pl_ BK250), (bl_ HB)⟩)
      ·skip
       refine box_step ?hg (N := 8) ?hd (cs := #[.int .i16 0, .int .i16 0, .int .i16 0, .int .i16 0]) (t := 30) ?hr ?_; (case hd => rfl); (case hg => rfl); (case hr => first | (go_simp; done) | (go_simp; rfl))
       intro gb272 hg w34 hbox hb
       have n0_ := A_ (Kd.R_below (pr_ HO254) hb)
       have n1_ := A_ (blk_below (pl_ BK248) hb)
       have n2_ := A_ (blk_below (pl_ BK249) hb)
       have n3_ := A_ (blk_below (pl_ BK250) hb)
       have n4_ := A_ (below_step (bl_ HB) hb)
       have n5_ := A_ (hbox)
       have n6_ := A_ ((by rw [hg]; exact (below_size (bl_ HB)) : w.heap.size ≤ gb272))
       have n7_ := n6_
       have n8_ := A_ ((by rw [hg]; exact Nat.ne_of_lt (blk_lt (pl_ BK248)) : gb248 ≠ gb272))
       have n9_ := Aside0.mk n8_.out.symm
       have n10_ := A_ ((by rw [hg]; exact Nat.ne_of_lt (blk_lt (pl_ BK249)) : gb249 ≠ gb272))
       have n11_ := Aside0.mk n10_.out.symm
       have n12_ := A_ ((by rw [hg]; exact Nat.ne_of_lt (blk_lt (pl_ BK250)) : gb250 ≠ gb272))
       have n13_ := Aside0.mk n12_.out.symm
       clear HO254
       clear BK248
       clear BK249
       clear BK250
       clear HB
       have HO254 := n0_
       have BK248 := n1_
       have BK249 := n2_
       have BK250 := n3_
       have HB := n4_
       have BK272 := n5_
       have GW272 := n6_
       have GE272 := n7_
       have NB248_272 := n8_
       have NB272_248 := n9_
       have NB249_272 := n10_
       have NB272_249 := n11_
       have NB250_272 := n12_
       have NB272_250 := n13_
       clear n0_ n1_ n2_ n3_ n4_ n5_ n6_ n7_ n8_ n9_ n10_ n11_ n12_ n13_
       clear hb hbox hg
       refine hK.out _ _ ⟨(blk_cell BK248.out 0).trans rfl, (blk_cell BK248.out 1).trans rfl, (blk_cell BK248.out 2).trans rfl, (blk_cell BK248.out 3).trans rfl, (blk_cell BK248.out 4).trans rfl, (blk_cell BK248.out 5).trans rfl, (blk_cell BK249.out 0).trans rfl, (blk_cell BK249.out 1).trans rfl, (blk_cell BK249.out 2).trans rfl, (blk_cell BK249.out 3).trans rfl, (blk_cell BK250.out 0).trans rfl, (blk_cell BK250.out 1).trans rfl, (blk_cell BK250.out 2).trans rfl⟩ (fun hHeld => ?_)
       clear hK K
       refine norm_ (a' := ?_) ?_ ?_
       rotate_left
       ·show Act.put _ (some 8) _ = _
        simp only [Act.put, List.setIfInBounds_toArray, List.set_cons_zero, List.set_cons_succ, i64_w, i32_w]
        rfl
       exact norm_ (by first | (simp only [putAll, Act.put, List.setIfInBounds_toArray, List.set_cons_zero, List.set_cons_succ]; done) | (simp only [putAll, Act.put, List.setIfInBounds_toArray, List.set_cons_zero, List.set_cons_succ]; rfl)) (hJ1_3_5_10 (.slice Ao34 t252.length co34, gb272) _ ⟨hHeld, (pr_ HO254), (pl_ BK248), (pl_ BK249), (pl_ BK250), (pl_ BK272), GW272.out, GE272.out, NB248_272.out, NB272_248.out, NB249_272.out, NB272_249.out, NB250_272.out, NB272_250.out, (bl_ HB)⟩)
    ·skip
     rintro ⟨v253, gb272⟩ w34 ⟨hS_, h0_, h1_, h2_, h3_, h4_, h5_, h6_, h7_, h8_, h9_, h10_, h11_, h12_, h13_⟩
     have n0_ : Aside0 (Kd.R (Kd.int .i16) 23 w34 w.heap.size (fun _ => True) v253 t252) := ⟨h0_⟩
     have n1_ : Aside0 (w34.heap[gb248]? = some (.cells #[.slice A0_0 l0_0.length c0_0, .int .i16 a0_1, .int .i16 a0_2, .int .i16 a0_3, .int .i16 a0_4, .bool a0_5] 26 (0, 0))) := ⟨h1_⟩
     have n2_ : Aside0 (w34.heap[gb249]? = some (.cells #[.int .i16 a1_0, .int .i16 a1_1, .int .i16 a1_2, .int .i16 a1_3] 24 (0, 0))) := ⟨h2_⟩
     have n3_ : Aside0 (w34.heap[gb250]? = some (.cells #[.int .i8 a2_0, .int .i8 a2_1, .int .i8 a2_2] 58 (0, 0))) := ⟨h3_⟩
     have n4_ : Aside0 (w34.heap[gb272]? = some (.cells #[.int .i16 0, .int .i16 0, .int .i16 0, .int .i16 0] 30 (0, 0))) := ⟨h4_⟩
     have n5_ : Aside0 (w.heap.size ≤ gb272) := ⟨h5_⟩
     have n6_ : Aside0 (w.heap.size ≤ gb272) := ⟨h6_⟩
     have n7_ : Aside0 (gb248 ≠ gb272) := ⟨h7_⟩
     have n8_ : Aside0 (gb272 ≠ gb248) := ⟨h8_⟩
     have n9_ : Aside0 (gb249 ≠ gb272) := ⟨h9_⟩
     have n10_ : Aside0 (gb272 ≠ gb249) := ⟨h10_⟩
     have n11_ : Aside0 (gb250 ≠ gb272) := ⟨h11_⟩
     have n12_ : Aside0 (gb272 ≠ gb250) := ⟨h12_⟩
     have n13_ : Aside0 (Below w.heap.size w w34) := ⟨h13_⟩
     clear BK248
     clear BK249
     clear BK250
     clear HB
     clear h0_ h1_ h2_ h3_ h4_ h5_ h6_ h7_ h8_ h9_ h10_ h11_ h12_ h13_
     have HO254 := n0_
     have BK248 := n1_
     have BK249 := n2_
     have BK250 := n3_
     have BK272 := n4_
     have GW272 := n5_
     have GE272 := n6_
     have NB248_272 := n7_
     have NB272_248 := n8_
     have NB249_272 := n9_
     have NB272_249 := n10_
     have NB250_272 := n11_
     have NB272_250 := n12_
     have HB := n13_
     clear n0_ n1_ n2_ n3_ n4_ n5_ n6_ n7_ n8_ n9_ n10_ n11_ n12_ n13_
     have hHeld : w34.cell? ⟨gb248, 0, none⟩ = some (.slice A0_0 l0_0.length c0_0) ∧ w34.cell? ⟨gb248, 1, none⟩ = some (.int .i16 a0_1) ∧ w34.cell? ⟨gb248, 2, none⟩ = some (.int .i16 a0_2) ∧ w34.cell? ⟨gb248, 3, none⟩ = some (.int .i16 a0_3) ∧ w34.cell? ⟨gb248, 4, none⟩ = some (.int .i16 a0_4) ∧ w34.cell? ⟨gb248, 5, none⟩ = some (.bool a0_5) ∧ w34.cell? ⟨gb249, 0, none⟩ = some (.int .i16 a1_0) ∧ w34.cell? ⟨gb249, 1, none⟩ = some (.int .i16 a1_1) ∧ w34.cell? ⟨gb249, 2, none⟩ = some (.int .i16 a1_2) ∧ w34.cell? ⟨gb249, 3, none⟩ = some (.int .i16 a1_3) ∧ w34.cell? ⟨gb250, 0, none⟩ = some (.int .i8 a2_0) ∧ w34.cell? ⟨gb250, 1, none⟩ = some (.int .i8 a2_1) ∧ w34.cell? ⟨gb250, 2, none⟩ = some (.int .i8 a2_2) := hS_
     obtain ⟨Ao35, co35, eo35⟩ := Kd.R_slice HO254.out
     (first | subst eo35 | (injection eo35 with f1_ f2_ f3_; have f4_ := f1_.symm; have f5_ := f3_.symm; clear f1_ f2_ f3_; subst f4_; subst f5_))
     refine norm_ (a' := ?_) ?_ ?_
     rotate_left
     ·simp only [putAll, Act.put, List.setIfInBounds_toArray, List.set_cons_zero, List.set_cons_succ]
      rfl
     refine one_ (i := 6) (N := some 25) #[true, true, true, true, true, true, true, false, false, false, true, false, false] rfl rfl (one_of HT_.out (by kernel_rfl)) (by decide) (fun K hK => ?_)
     refine goes_ Try.func42 (by kernel_rfl) rfl #[.agg #[.slice Ao35 t252.length co35, .int .i16 t255, .int .i16 t256, .int .i16 t257, .int .i16 t258, .bool t259], .agg #[.int .i16 t260, .int .i16 t261, .int .i16 t262, .int .i16 t263], .agg #[.int .i8 t264, .int .i8 t265, .int .i8 t266]] (by rfl) rfl rfl arg_ ?_
     with_reducible refine (spec_DoMove.calls k _ _ t252 t255 t256 t257 t258 t259 t260 t261 t262 t263 t264 t265 t266 t267 t268 t269 t270 t271 _ ?side1 ?side2 A16.out).mono ?_
     (case side1 => repeat (first | exact (Kd.R_reads' HO254.out).2.2 | (with_reducible refine Kd.C_alloc ?_ _) | (with_reducible refine Kd.C_drewN ?_ _) | (with_reducible refine Kd.C_drew ?_)))
     (case side2 => exact (Kd.R_reads' HO254.out).2.1)
     rintro e w36 ⟨rfl, hb⟩
     refine ⟨_, rfl, ?_⟩
     have n0_ := A_ (Kd.R_below (pr_ HO254) hb)
     have n1_ := A_ (blk_below (pl_ BK248) hb)
     have n2_ := A_ (blk_below (pl_ BK249) hb)
     have n3_ := A_ (blk_below (pl_ BK250) hb)
     have n4_ := A_ (blk_below (pl_ BK272) hb)
     have n5_ := A_ (below_step (bl_ HB) hb)
     clear HO254
     clear BK248
     clear BK249
     clear BK250
     clear BK272
     clear HB
     have HO254 := n0_
     have BK248 := n1_
     have BK249 := n2_
     have BK250 := n3_
     have BK272 := n4_
     have HB := n5_
     clear n0_ n1_ n2_ n3_ n4_ n5_
     (try clear hb)
     (try clear hb2)
     (try clear hk)
     (try clear hi)
     refine hK.out _ _ ⟨(blk_cell BK248.out 0).trans rfl, (blk_cell BK248.out 1).trans rfl, (blk_cell BK248.out 2).trans rfl, (blk_cell BK248.out 3).trans rfl, (blk_cell BK248.out 4).trans rfl, (blk_cell BK248.out 5).trans rfl, (blk_cell BK249.out 0).trans rfl, (blk_cell BK249.out 1).trans rfl, (blk_cell BK249.out 2).trans rfl, (blk_cell BK249.out 3).trans rfl, (blk_cell BK250.out 0).trans rfl, (blk_cell BK250.out 1).trans rfl, (blk_cell BK250.out 2).trans rfl⟩ (fun hHeld => ?_)
     clear hK K
     refine norm_ (a' := ?_) ?_ ?_
     rotate_left
     ·show Act.put _ (some 25) _ = _
      simp only [Act.put, List.setIfInBounds_toArray, List.set_cons_zero, List.set_cons_succ, i64_w, i32_w]
      rfl
     refine pure_ (i := 7) (N := some 18) (v := ?_) (a' := ?_) #[true, true, true, true, true, true, true, true, false, false, true, false, false] rfl rfl (any_of HT_.out (by kernel_rfl)) (fun _ _ _ h => h) (Or.inl ⟨by rfl, ?_⟩) ?_ ?_
     rotate_left
     ·intro w'
      go_simp
      with_reducible rfl
     rotate_left
     ·simp only [Act.put, List.setIfInBounds_toArray, List.set_cons_zero, List.set_cons_succ, i64_w, i32_w]
      rfl
     refine pure_ (i := 8) (N := some 26) (v := ?_) (a' := ?_) #[true, true, true, true, true, true, true, true, true, false, true, false, false] rfl rfl (any_of HT_.out (by kernel_rfl)) (fun _ _ _ h => h) (Or.inl ⟨by rfl, ?_⟩) ?_ ?_
     rotate_left
     ·intro w'
      go_simp
      with_reducible rfl
     rotate_left
     ·simp only [Act.put, List.setIfInBounds_toArray, List.set_cons_zero, List.set_cons_succ, i64_w, i32_w]
      rfl
     refine pure_ (i := 9) (N := some 27) (v := ?_) (a' := ?_) #[true, true, true, true, true, true, true, true, true, true, true, false, false] rfl rfl (any_of HT_.out (by kernel_rfl)) (fun _ _ _ h => h) (Or.inl ⟨by rfl, ?_⟩) ?_ ?_
     rotate_left
     ·intro w'
      go_simp
      with_reducible rfl
     rotate_left
     ·simp only [Act.put, List.setIfInBounds_toArray, List.set_cons_zero, List.set_cons_succ, i64_w, i32_w]
      rfl
     exact norm_ (by first | (simp only [putAll, Act.put, List.setIfInBounds_toArray, List.set_cons_zero, List.set_cons_succ]; done) | (simp only [putAll, Act.put, List.setIfInBounds_toArray, List.set_cons_zero, List.set_cons_succ]; rfl)) (hJ1_3_5_6_10 (.slice Ao35 t252.length co35, gb272) _ ⟨hHeld, (pr_ HO254), (pl_ BK248), (pl_ BK249), (pl_ BK250), (pl_ BK272), GW272.out, GE272.out, NB248_272.out, NB272_248.out, NB249_272.out, NB272_249.out, NB250_272.out, NB272_250.out, (bl_ HB)⟩)
   ·skip
    rintro v253 w35 ⟨hS_, h0_, h1_, h2_, h3_, h4_⟩
    have n0_ : Aside0 (Kd.R (Kd.int .i16) 23 w35 w.heap.size (fun _ => True) v253 t252) := ⟨h0_⟩
    have n1_ : Aside0 (w35.heap[gb248]? = some (.cells #[.slice A0_0 l0_0.length c0_0, .int .i16 a0_1, .int .i16 a0_2, .int .i16 a0_3, .int .i16 a0_4, .bool a0_5] 26 (0, 0))) := ⟨h1_⟩
    have n2_ : Aside0 (w35.heap[gb249]? = some (.cells #[.int .i16 a1_0, .int .i16 a1_1, .int .i16 a1_2, .int .i16 a1_3] 24 (0, 0))) := ⟨h2_⟩
    have n3_ : Aside0 (w35.heap[gb250]? = some (.cells #[.int .i8 a2_0, .int .i8 a2_1, .int .i8 a2_2] 58 (0, 0))) := ⟨h3_⟩
    have n4_ : Aside0 (Below w.heap.size w w35) := ⟨h4_⟩
    clear BK248
    clear BK249
    clear BK250
    clear HB
    clear h0_ h1_ h2_ h3_ h4_
    have HO254 := n0_
    have BK248 := n1_
    have BK249 := n2_
    have BK250 := n3_
    have HB := n4_
    clear n0_ n1_ n2_ n3_ n4_
    have hHeld : w35.cell? ⟨gb248, 0, none⟩ = some (.slice A0_0 l0_0.length c0_0) ∧ w35.cell? ⟨gb248, 1, none⟩ = some (.int .i16 a0_1) ∧ w35.cell? ⟨gb248, 2, none⟩ = some (.int .i16 a0_2) ∧ w35.cell? ⟨gb248, 3, none⟩ = some (.int .i16 a0_3) ∧ w35.cell? ⟨gb248, 4, none⟩ = some (.int .i16 a0_4) ∧ w35.cell? ⟨gb248, 5, none⟩ = some (.bool a0_5) ∧ w35.cell? ⟨gb249, 0, none⟩ = some (.int .i16 a1_0) ∧ w35.cell? ⟨gb249, 1, none⟩ = some (.int .i16 a1_1) ∧ w35.cell? ⟨gb249, 2, none⟩ = some (.int .i16 a1_2) ∧ w35.cell? ⟨gb249, 3, none⟩ = some (.int .i16 a1_3) ∧ w35.cell? ⟨gb250, 0, none⟩ = some (.int .i8 a2_0) ∧ w35.cell? ⟨gb250, 1, none⟩ = some (.int .i8 a2_1) ∧ w35.cell? ⟨gb250, 2, none⟩ = some (.int .i8 a2_2) := hS_
    refine norm_ (a' := ?_) ?_ ?_
    rotate_left
    ·simp only [putAll, Act.put, List.setIfInBounds_toArray, List.set_cons_zero, List.set_cons_succ]
     rfl
    refine one_ (i := 10) (N := some 8) #[true, true, true, true, true, true, true, true, true, true, true, false, false] rfl rfl (one_of HT_.out (by kernel_rfl)) (by decide) (fun K hK => ?_)
    refine box_step ?hg (N := 8) ?hd (cs := #[.int .i16 0, .int .i16 0, .int .i16 0, .int .i16 0]) (t := 30) ?hr ?_; (case hd => rfl); (case hg => rfl); (case hr => first | (go_simp; done) | (go_simp; rfl))
    intro gb272 hg w36 hbox hb
    have n0_ := A_ (Kd.R_below (pr_ HO254) hb)
    have n1_ := A_ (blk_below (pl_ BK248) hb)
    have n2_ := A_ (blk_below (pl_ BK249) hb)
    have n3_ := A_ (blk_below (pl_ BK250) hb)
    have n4_ := A_ (below_step (bl_ HB) hb)
    have n5_ := A_ (hbox)
    have n6_ := A_ ((by rw [hg]; exact (below_size (bl_ HB)) : w.heap.size ≤ gb272))
    have n7_ := n6_
    have n8_ := A_ ((by rw [hg]; exact Nat.ne_of_lt (blk_lt (pl_ BK248)) : gb248 ≠ gb272))
    have n9_ := Aside0.mk n8_.out.symm
    have n10_ := A_ ((by rw [hg]; exact Nat.ne_of_lt (blk_lt (pl_ BK249)) : gb249 ≠ gb272))
    have n11_ := Aside0.mk n10_.out.symm
    have n12_ := A_ ((by rw [hg]; exact Nat.ne_of_lt (blk_lt (pl_ BK250)) : gb250 ≠ gb272))
    have n13_ := Aside0.mk n12_.out.symm
    clear HO254
    clear BK248
    clear BK249
    clear BK250
    clear HB
    have HO254 := n0_
    have BK248 := n1_
    have BK249 := n2_
    have BK250 := n3_
    have HB := n4_
    have BK272 := n5_
    have GW272 := n6_
    have GE272 := n7_
    have NB248_272 := n8_
    have NB272_248 := n9_
    have NB249_272 := n10_
    have NB272_249 := n11_
    have NB250_272 := n12_
    have NB272_250 := n13_
    clear n0_ n1_ n2_ n3_ n4_ n5_ n6_ n7_ n8_ n9_ n10_ n11_ n12_ n13_
    clear hb hbox hg
    refine hK.out _ _ ⟨(blk_cell BK248.out 0).trans rfl, (blk_cell BK248.out 1).trans rfl, (blk_cell BK248.out 2).trans rfl, (blk_cell BK248.out 3).trans rfl, (blk_cell BK248.out 4).trans rfl, (blk_cell BK248.out 5).trans rfl, (blk_cell BK249.out 0).trans rfl, (blk_cell BK249.out 1).trans rfl, (blk_cell BK249.out 2).trans rfl, (blk_cell BK249.out 3).trans rfl, (blk_cell BK250.out 0).trans rfl, (blk_cell BK250.out 1).trans rfl, (blk_cell BK250.out 2).trans rfl⟩ (fun hHeld => ?_)
    clear hK K
    refine norm_ (a' := ?_) ?_ ?_
    rotate_left
    ·show Act.put _ (some 8) _ = _
     simp only [Act.put, List.setIfInBounds_toArray, List.set_cons_zero, List.set_cons_succ, i64_w, i32_w]
     rfl
    exact norm_ (by first | (simp only [putAll, Act.put, List.setIfInBounds_toArray, List.set_cons_zero, List.set_cons_succ]; done) | (simp only [putAll, Act.put, List.setIfInBounds_toArray, List.set_cons_zero, List.set_cons_succ]; rfl)) (hJ1_3_5_6_10 (v253, gb272) _ ⟨hHeld, (pr_ HO254), (pl_ BK248), (pl_ BK249), (pl_ BK250), (pl_ BK272), GW272.out, GE272.out, NB248_272.out, NB272_248.out, NB249_272.out, NB272_249.out, NB250_272.out, NB272_250.out, (bl_ HB)⟩)
  rintro ⟨v253, gb272⟩ w36 ⟨hS_, h0_, h1_, h2_, h3_, h4_, h5_, h6_, h7_, h8_, h9_, h10_, h11_, h12_, h13_⟩
  have n0_ : Aside0 (Kd.R (Kd.int .i16) 23 w36 w.heap.size (fun _ => True) v253 t252) := ⟨h0_⟩
  have n1_ : Aside0 (w36.heap[gb248]? = some (.cells #[.slice A0_0 l0_0.length c0_0, .int .i16 a0_1, .int .i16 a0_2, .int .i16 a0_3, .int .i16 a0_4, .bool a0_5] 26 (0, 0))) := ⟨h1_⟩
  have n2_ : Aside0 (w36.heap[gb249]? = some (.cells #[.int .i16 a1_0, .int .i16 a1_1, .int .i16 a1_2, .int .i16 a1_3] 24 (0, 0))) := ⟨h2_⟩
  have n3_ : Aside0 (w36.heap[gb250]? = some (.cells #[.int .i8 a2_0, .int .i8 a2_1, .int .i8 a2_2] 58 (0, 0))) := ⟨h3_⟩
  have n4_ : Aside0 (w36.heap[gb272]? = some (.cells #[.int .i16 0, .int .i16 0, .int .i16 0, .int .i16 0] 30 (0, 0))) := ⟨h4_⟩
  have n5_ : Aside0 (w.heap.size ≤ gb272) := ⟨h5_⟩
  have n6_ : Aside0 (w.heap.size ≤ gb272) := ⟨h6_⟩
  have n7_ : Aside0 (gb248 ≠ gb272) := ⟨h7_⟩
  have n8_ : Aside0 (gb272 ≠ gb248) := ⟨h8_⟩
  have n9_ : Aside0 (gb249 ≠ gb272) := ⟨h9_⟩
  have n10_ : Aside0 (gb272 ≠ gb249) := ⟨h10_⟩
  have n11_ : Aside0 (gb250 ≠ gb272) := ⟨h11_⟩
  have n12_ : Aside0 (gb272 ≠ gb250) := ⟨h12_⟩
  have n13_ : Aside0 (Below w.heap.size w w36) := ⟨h13_⟩
  clear BK248
  clear BK249
  clear BK250
  clear HB
  clear h0_ h1_ h2_ h3_ h4_ h5_ h6_ h7_ h8_ h9_ h10_ h11_ h12_ h13_
  have HO254 := n0_
  have BK248 := n1_
  have BK249 := n2_
  have BK250 := n3_
  have BK272 := n4_
  have GW272 := n5_
  have GE272 := n6_
  have NB248_272 := n7_
  have NB272_248 := n8_
  have NB249_272 := n9_
  have NB272_249 := n10_
  have NB250_272 := n11_
  have NB272_250 := n12_
  have HB := n13_
  clear n0_ n1_ n2_ n3_ n4_ n5_ n6_ n7_ n8_ n9_ n10_ n11_ n12_ n13_
  have hHeld : w36.cell? ⟨gb248, 0, none⟩ = some (.slice A0_0 l0_0.length c0_0) ∧ w36.cell? ⟨gb248, 1, none⟩ = some (.int .i16 a0_1) ∧ w36.cell? ⟨gb248, 2, none⟩ = some (.int .i16 a0_2) ∧ w36.cell? ⟨gb248, 3, none⟩ = some (.int .i16 a0_3) ∧ w36.cell? ⟨gb248, 4, none⟩ = some (.int .i16 a0_4) ∧ w36.cell? ⟨gb248, 5, none⟩ = some (.bool a0_5) ∧ w36.cell? ⟨gb249, 0, none⟩ = some (.int .i16 a1_0) ∧ w36.cell? ⟨gb249, 1, none⟩ = some (.int .i16 a1_1) ∧ w36.cell? ⟨gb249, 2, none⟩ = some (.int .i16 a1_2) ∧ w36.cell? ⟨gb249, 3, none⟩ = some (.int .i16 a1_3) ∧ w36.cell? ⟨gb250, 0, none⟩ = some (.int .i8 a2_0) ∧ w36.cell? ⟨gb250, 1, none⟩ = some (.int .i8 a2_1) ∧ w36.cell? ⟨gb250, 2, none⟩ = some (.int .i8 a2_2) := hS_
  refine norm_ (a' := ?_) ?_ ?_
  rotate_left
  ·simp only [putAll, Act.put, List.setIfInBounds_toArray, List.set_cons_zero, List.set_cons_succ]
   rfl
  refine one_ (i := 11) (N := none) #[true, true, true, true, true, true, true, true, true, true, true, true, false] rfl rfl (one_of HT_.out (by kernel_rfl)) (by decide) (fun K hK => ?_)
  have hs37 : w36.cell? ⟨gb272, 0, none⟩ = some (.int .i16 0) := (blk_cell BK272.out 0).trans rfl
  have hfs37 := blk_frozen BK272.out 0
  have hns37_0 := NB248_272.out
  have hns37_1 := NB249_272.out
  have hns37_2 := NB250_272.out
  have hms37_0 := NB272_248.out
  have hms37_1 := NB272_249.out
  have hms37_2 := NB272_250.out
  have hs38 : w36.cell? ⟨gb272, 1, none⟩ = some (.int .i16 0) := (blk_cell BK272.out 1).trans rfl
  have hfs38 := blk_frozen BK272.out 1
  have hns38_0 := NB248_272.out
  have hns38_1 := NB249_272.out
  have hns38_2 := NB250_272.out
  have hms38_0 := NB272_248.out
  have hms38_1 := NB272_249.out
  have hms38_2 := NB272_250.out
  have hs39 : w36.cell? ⟨gb272, 2, none⟩ = some (.int .i16 0) := (blk_cell BK272.out 2).trans rfl
  have hfs39 := blk_frozen BK272.out 2
  have hns39_0 := NB248_272.out
  have hns39_1 := NB249_272.out
  have hns39_2 := NB250_272.out
  have hms39_0 := NB272_248.out
  have hms39_1 := NB272_249.out
  have hms39_2 := NB272_250.out
  have hs40 : w36.cell? ⟨gb272, 3, none⟩ = some (.int .i16 0) := (blk_cell BK272.out 3).trans rfl
  have hfs40 := blk_frozen BK272.out 3
  have hns40_0 := NB248_272.out
  have hns40_1 := NB249_272.out
  have hns40_2 := NB250_272.out
  have hms40_0 := NB272_248.out
  have hms40_1 := NB272_249.out
  have hms40_2 := NB272_250.out
  refine skip_ (w1 := ?_) (by rfl) rfl ?_ ?_
  rotate_left
  ·go_simp
   rfl
  refine hK.out _ _ ⟨((cell_far (p := ⟨gb272, _, none⟩) NB248_272.out _).trans ((cf3_ NB248_272 (hHeld.1)))), ((cell_far (p := ⟨gb272, _, none⟩) NB248_272.out _).trans ((cf3_ NB248_272 (hHeld.2.1)))), ((cell_far (p := ⟨gb272, _, none⟩) NB248_272.out _).trans ((cf3_ NB248_272 (hHeld.2.2.1)))), ((cell_far (p := ⟨gb272, _, none⟩) NB248_272.out _).trans ((cf3_ NB248_272 (hHeld.2.2.2.1)))), ((cell_far (p := ⟨gb272, _, none⟩) NB248_272.out _).trans ((cf3_ NB248_272 (hHeld.2.2.2.2.1)))), ((cell_far (p := ⟨gb272, _, none⟩) NB248_272.out _).trans ((cf3_ NB248_272 (hHeld.2.2.2.2.2.1)))), ((cell_far (p := ⟨gb272, _, none⟩) NB249_272.out _).trans ((cf3_ NB249_272 (hHeld.2.2.2.2.2.2.1)))), ((cell_far (p := ⟨gb272, _, none⟩) NB249_272.out _).trans ((cf3_ NB249_272 (hHeld.2.2.2.2.2.2.2.1)))), ((cell_far (p := ⟨gb272, _, none⟩) NB249_272.out _).trans ((cf3_ NB249_272 (hHeld.2.2.2.2.2.2.2.2.1)))), ((cell_far (p := ⟨gb272, _, none⟩) NB249_272.out _).trans ((cf3_ NB249_272 (hHeld.2.2.2.2.2.2.2.2.2.1)))), ((cell_far (p := ⟨gb272, _, none⟩) NB250_272.out _).trans ((cf3_ NB250_272 (hHeld.2.2.2.2.2.2.2.2.2.2.1)))), ((cell_far (p := ⟨gb272, _, none⟩) NB250_272.out _).trans ((cf3_ NB250_272 (hHeld.2.2.2.2.2.2.2.2.2.2.2.1)))), ((cell_far (p := ⟨gb272, _, none⟩) NB250_272.out _).trans ((cf3_ NB250_272 (hHeld.2.2.2.2.2.2.2.2.2.2.2.2))))⟩ (fun hHeld => ?_)
  clear hK K
  refine pure_ (i := 12) (N := some 9) (v := ?_) (a' := ?_) #[true, true, true, true, true, true, true, true, true, true, true, true, true] rfl rfl (any_of HT_.out (by kernel_rfl)) (fun _ _ _ h => h) (Or.inl ⟨by rfl, ?_⟩) ?_ ?_
  rotate_left
  ·intro w'
   go_simp
   with_reducible rfl
  rotate_left
  ·simp only [Act.put, List.setIfInBounds_toArray, List.set_cons_zero, List.set_cons_succ, i64_w, i32_w]
   rfl
  refine done_ (done_of HT_.out (by kernel_rfl)) ?_
  have hnb41 := NB248_272.out
  have hnc41 := NB272_248.out
  have hcz42_0 : w36.cell? ⟨gb248, 0, none⟩ = some (.slice A0_0 l0_0.length c0_0) := (blk_cell BK248.out 0).trans rfl
  have hcz42_1 : w36.cell? ⟨gb248, 1, none⟩ = some (.int .i16 a0_1) := (blk_cell BK248.out 1).trans rfl
  have hcz42_2 : w36.cell? ⟨gb248, 2, none⟩ = some (.int .i16 a0_2) := (blk_cell BK248.out 2).trans rfl
  have hcz42_3 : w36.cell? ⟨gb248, 3, none⟩ = some (.int .i16 a0_3) := (blk_cell BK248.out 3).trans rfl
  have hcz42_4 : w36.cell? ⟨gb248, 4, none⟩ = some (.int .i16 a0_4) := (blk_cell BK248.out 4).trans rfl
  have hcz42_5 : w36.cell? ⟨gb248, 5, none⟩ = some (.bool a0_5) := (blk_cell BK248.out 5).trans rfl
  have hfz42_0 := blk_frozen BK248.out 0
  have hfz42_1 := blk_frozen BK248.out 1
  have hfz42_2 := blk_frozen BK248.out 2
  have hfz42_3 := blk_frozen BK248.out 3
  have hfz42_4 := blk_frozen BK248.out 4
  have hfz42_5 := blk_frozen BK248.out 5
  try go_wp2_with (first | ((with_reducible refine gate_callee (f := 18) rfl ?_); refine goesL_ (some 29) rfl rfl Try.func18 (by kernel_rfl) rfl #[.agg #[.slice A0_0 l0_0.length c0_0, .int .i16 a0_1, .int .i16 a0_2, .int .i16 a0_3, .int .i16 a0_4, .bool a0_5]] rfl arg_ ?_; (with_reducible refine (laws_toPuzzle.calls k _ _ l0_0 a0_1 a0_2 a0_3 a0_4 a0_5 t273 t276 t277 t278 t279 t280 _ ?side1 ?side2 A17.out).mono ?_); (case side1 => exact Kd.C_below HR0_0.out (bs_ HB GE272)); (case side2 => exact HC0_0.out); rintro e w43 ⟨v274, rfl, ho0, hb⟩; refine ⟨_, rfl, ?_⟩; have n0_ := A_ (Kd.R_elder' (by (with_reducible repeat (first | apply Kd.R_alloc | apply Kd.R_drewN | apply Kd.R_drew)); exact (rf4_ HO254 BK272 (by decide))) (Kd.R_base ho0) hb); have n1_ := A_ (Kd.R_lower (Kd.R_new' ho0 (Kd.R_lt (by (with_reducible repeat (first | apply Kd.R_alloc | apply Kd.R_drewN | apply Kd.R_drew)); exact (rf4_ HO254 BK272 (by decide))))) (below_size (bs_ HB GE272))); have n2_ := A_ (blk_below (g := gb248) (o := .cells #[.slice A0_0 l0_0.length c0_0, .int .i16 a0_1, .int .i16 a0_2, .int .i16 a0_3, .int .i16 a0_4, .bool a0_5] 26 (0, 0)) (pf_ BK248 NB248_272) hb); have n3_ := A_ (blk_below (g := gb249) (o := .cells #[.int .i16 a1_0, .int .i16 a1_1, .int .i16 a1_2, .int .i16 a1_3] 24 (0, 0)) (pf_ BK249 NB249_272) hb); have n4_ := A_ (blk_below (g := gb250) (o := .cells #[.int .i8 a2_0, .int .i8 a2_1, .int .i8 a2_2] 58 (0, 0)) (pf_ BK250 NB250_272) hb); have n5_ := A_ (blk_below (g := gb272) (o := .cells #[.int .i16 t267, .int .i16 t268, .int .i16 t269, .int .i16 t270] 30 (0, 0)) (by (with_reducible repeat (first | refine blk_drewN ?_ _ | refine blk_drew ?_ | refine blk_alloc ?_ _)); refine blk_put (cs := #[.int .i16 t267, .int .i16 t268, .int .i16 t269, .int .i16 0]) ?_ 3 _ rfl; (with_reducible repeat (first | refine blk_drewN ?_ _ | refine blk_drew ?_ | refine blk_alloc ?_ _)); refine blk_put (cs := #[.int .i16 t267, .int .i16 t268, .int .i16 0, .int .i16 0]) ?_ 2 _ rfl; (with_reducible repeat (first | refine blk_drewN ?_ _ | refine blk_drew ?_ | refine blk_alloc ?_ _)); refine blk_put (cs := #[.int .i16 t267, .int .i16 0, .int .i16 0, .int .i16 0]) ?_ 1 _ rfl; (with_reducible repeat (first | refine blk_drewN ?_ _ | refine blk_drew ?_ | refine blk_alloc ?_ _)); refine blk_put (cs := #[.int .i16 0, .int .i16 0, .int .i16 0, .int .i16 0]) ?_ 0 _ rfl; (with_reducible repeat (first | refine blk_drewN ?_ _ | refine blk_drew ?_ | refine blk_alloc ?_ _)); exact BK272.out) hb); have n6_ := A_ (below_step (bs_ HB GE272) hb); clear HO254; clear BK248; clear BK249; clear BK250; clear BK272; clear HB; have HO254 := n0_; have HO275 := n1_; have BK248 := n2_; have BK249 := n3_; have BK250 := n4_; have BK272 := n5_; have HB := n6_; clear n0_ n1_ n2_ n3_ n4_ n5_ n6_; (try clear hb); (try clear hb2); (try clear hk); (try clear hi); (try clear ho0)) | ((with_reducible refine gate_dst (N := 10) rfl ?_); refine box_event ?hg (N := 10) ?hd (cs := #[.slice none 0 0, .int .i16 0, .int .i16 0, .int .i16 0, .int .i16 0, .bool false]) (t := 32) ?hr ?_; (case hd => rfl); (case hg => rfl); (case hr => first | (go_simp; done) | (go_simp; rfl)); intro gb281 hg w44 hbox hb; have n0_ := A_ (Kd.R_below (pr_ HO254) hb); have n1_ := A_ (Kd.R_below (pr_ HO275) hb); have n2_ := A_ (blk_below (pl_ BK248) hb); have n3_ := A_ (blk_below (pl_ BK249) hb); have n4_ := A_ (blk_below (pl_ BK250) hb); have n5_ := A_ (blk_below (pl_ BK272) hb); have n6_ := A_ (below_step (bl_ HB) hb); have n7_ := A_ (hbox); have n8_ := A_ ((by rw [hg]; exact (below_size (bl_ HB)) : w.heap.size ≤ gb281)); have n9_ := n8_; have n10_ := A_ ((by rw [hg]; exact Nat.ne_of_lt (blk_lt (pl_ BK248)) : gb248 ≠ gb281)); have n11_ := Aside0.mk n10_.out.symm; have n12_ := A_ ((by rw [hg]; exact Nat.ne_of_lt (blk_lt (pl_ BK249)) : gb249 ≠ gb281)); have n13_ := Aside0.mk n12_.out.symm; have n14_ := A_ ((by rw [hg]; exact Nat.ne_of_lt (blk_lt (pl_ BK250)) : gb250 ≠ gb281)); have n15_ := Aside0.mk n14_.out.symm; have n16_ := A_ ((by rw [hg]; exact Nat.ne_of_lt (blk_lt (pl_ BK272)) : gb272 ≠ gb281)); have n17_ := Aside0.mk n16_.out.symm; clear HO254; clear HO275; clear BK248; clear BK249; clear BK250; clear BK272; clear HB; have HO254 := n0_; have HO275 := n1_; have BK248 := n2_; have BK249 := n3_; have BK250 := n4_; have BK272 := n5_; have HB := n6_; have BK281 := n7_; have GW281 := n8_; have GE281 := n9_; have NB248_281 := n10_; have NB281_248 := n11_; have NB249_281 := n12_; have NB281_249 := n13_; have NB250_281 := n14_; have NB281_250 := n15_; have NB272_281 := n16_; have NB281_272 := n17_; clear n0_ n1_ n2_ n3_ n4_ n5_ n6_ n7_ n8_ n9_ n10_ n11_ n12_ n13_ n14_ n15_ n16_ n17_; clear hb hbox hg; obtain ⟨Ao45, co45, eo45⟩ := Kd.R_slice HO275.out; subst eo45; have hnb46 := NB281_248.out; have hnc46 := NB248_281.out; have hnb47 := NB281_249.out; have hnc47 := NB249_281.out; have hnb48 := NB281_250.out; have hnc48 := NB250_281.out; have hnb49 := NB281_272.out; have hnc49 := NB272_281.out; have hcz50_0 : w44.cell? ⟨gb281, 0, none⟩ = some (.slice none 0 0) := (blk_cell BK281.out 0).trans rfl; have hcz50_1 : w44.cell? ⟨gb281, 1, none⟩ = some (.int .i16 0) := (blk_cell BK281.out 1).trans rfl; have hcz50_2 : w44.cell? ⟨gb281, 2, none⟩ = some (.int .i16 0) := (blk_cell BK281.out 2).trans rfl; have hcz50_3 : w44.cell? ⟨gb281, 3, none⟩ = some (.int .i16 0) := (blk_cell BK281.out 3).trans rfl; have hcz50_4 : w44.cell? ⟨gb281, 4, none⟩ = some (.int .i16 0) := (blk_cell BK281.out 4).trans rfl; have hcz50_5 : w44.cell? ⟨gb281, 5, none⟩ = some (.bool false) := (blk_cell BK281.out 5).trans rfl; have hfz50_0 := blk_frozen BK281.out 0; have hfz50_1 := blk_frozen BK281.out 1; have hfz50_2 := blk_frozen BK281.out 2; have hfz50_3 := blk_frozen BK281.out 3; have hfz50_4 := blk_frozen BK281.out 4; have hfz50_5 := blk_frozen BK281.out 5))
  have n0_ : Aside0 (Kd.R (Kd.int .i16) 23 ((((((w44.setCell ⟨gb281, 0, none⟩ (.slice Ao45 t273.length co45)).setCell ⟨gb281, 1, none⟩ (.int .i16 t276)).setCell ⟨gb281, 2, none⟩ (.int .i16 t277)).setCell ⟨gb281, 3, none⟩ (.int .i16 t278)).setCell ⟨gb281, 4, none⟩ (.int .i16 t279)).setCell ⟨gb281, 5, none⟩ (.bool t280)) w.heap.size (fun k_ => some k_ ≠ (.slice Ao45 t273.length co45 : Value).ownBlock) v253 t252) := ⟨by (with_reducible repeat (first | apply Kd.R_alloc | apply Kd.R_drewN | apply Kd.R_drew)); exact Kd.R_mono (Kd.R_far (p := ⟨gb281, 5, none⟩) (Kd.R_far (p := ⟨gb281, 4, none⟩) (Kd.R_far (p := ⟨gb281, 3, none⟩) (Kd.R_far (p := ⟨gb281, 2, none⟩) (Kd.R_far (p := ⟨gb281, 1, none⟩) (Kd.R_far (p := ⟨gb281, 0, none⟩) (Kd.R_types HO254.out BK281.out (by decide)) (fun _ hk => hk.2) (.slice Ao45 t273.length co45)) (fun _ hk => hk.2) (.int .i16 t276)) (fun _ hk => hk.2) (.int .i16 t277)) (fun _ hk => hk.2) (.int .i16 t278)) (fun _ hk => hk.2) (.int .i16 t279)) (fun _ hk => hk.2) (.bool t280)) (fun _ hk => hk.1.2)⟩
  have n1_ : Aside0 (Kd.R (Kd.int .i16) 23 ((((((w44.setCell ⟨gb281, 0, none⟩ (.slice Ao45 t273.length co45)).setCell ⟨gb281, 1, none⟩ (.int .i16 t276)).setCell ⟨gb281, 2, none⟩ (.int .i16 t277)).setCell ⟨gb281, 3, none⟩ (.int .i16 t278)).setCell ⟨gb281, 4, none⟩ (.int .i16 t279)).setCell ⟨gb281, 5, none⟩ (.bool t280)) w.heap.size (fun k_ => some k_ ≠ (v253 : Value).ownBlock) (.slice Ao45 t273.length co45) t273) := ⟨by (with_reducible repeat (first | apply Kd.R_alloc | apply Kd.R_drewN | apply Kd.R_drew)); exact Kd.R_mono (Kd.R_far (p := ⟨gb281, 5, none⟩) (Kd.R_far (p := ⟨gb281, 4, none⟩) (Kd.R_far (p := ⟨gb281, 3, none⟩) (Kd.R_far (p := ⟨gb281, 2, none⟩) (Kd.R_far (p := ⟨gb281, 1, none⟩) (Kd.R_far (p := ⟨gb281, 0, none⟩) (Kd.R_types HO275.out BK281.out (by decide)) (fun _ hk => hk.2) (.slice Ao45 t273.length co45)) (fun _ hk => hk.2) (.int .i16 t276)) (fun _ hk => hk.2) (.int .i16 t277)) (fun _ hk => hk.2) (.int .i16 t278)) (fun _ hk => hk.2) (.int .i16 t279)) (fun _ hk => hk.2) (.bool t280)) (fun _ hk => hk.1.2)⟩
  have n2_ : Aside0 (((((((w44.setCell ⟨gb281, 0, none⟩ (.slice Ao45 t273.length co45)).setCell ⟨gb281, 1, none⟩ (.int .i16 t276)).setCell ⟨gb281, 2, none⟩ (.int .i16 t277)).setCell ⟨gb281, 3, none⟩ (.int .i16 t278)).setCell ⟨gb281, 4, none⟩ (.int .i16 t279)).setCell ⟨gb281, 5, none⟩ (.bool t280)).heap[gb248]? = some (.cells #[.slice A0_0 l0_0.length c0_0, .int .i16 a0_1, .int .i16 a0_2, .int .i16 a0_3, .int .i16 a0_4, .bool a0_5] 26 (0, 0))) := ⟨pf_ BK248 NB248_281⟩
  have n3_ : Aside0 (((((((w44.setCell ⟨gb281, 0, none⟩ (.slice Ao45 t273.length co45)).setCell ⟨gb281, 1, none⟩ (.int .i16 t276)).setCell ⟨gb281, 2, none⟩ (.int .i16 t277)).setCell ⟨gb281, 3, none⟩ (.int .i16 t278)).setCell ⟨gb281, 4, none⟩ (.int .i16 t279)).setCell ⟨gb281, 5, none⟩ (.bool t280)).heap[gb249]? = some (.cells #[.int .i16 a1_0, .int .i16 a1_1, .int .i16 a1_2, .int .i16 a1_3] 24 (0, 0))) := ⟨pf_ BK249 NB249_281⟩
  have n4_ : Aside0 (((((((w44.setCell ⟨gb281, 0, none⟩ (.slice Ao45 t273.length co45)).setCell ⟨gb281, 1, none⟩ (.int .i16 t276)).setCell ⟨gb281, 2, none⟩ (.int .i16 t277)).setCell ⟨gb281, 3, none⟩ (.int .i16 t278)).setCell ⟨gb281, 4, none⟩ (.int .i16 t279)).setCell ⟨gb281, 5, none⟩ (.bool t280)).heap[gb250]? = some (.cells #[.int .i8 a2_0, .int .i8 a2_1, .int .i8 a2_2] 58 (0, 0))) := ⟨pf_ BK250 NB250_281⟩
  have n5_ : Aside0 (((((((w44.setCell ⟨gb281, 0, none⟩ (.slice Ao45 t273.length co45)).setCell ⟨gb281, 1, none⟩ (.int .i16 t276)).setCell ⟨gb281, 2, none⟩ (.int .i16 t277)).setCell ⟨gb281, 3, none⟩ (.int .i16 t278)).setCell ⟨gb281, 4, none⟩ (.int .i16 t279)).setCell ⟨gb281, 5, none⟩ (.bool t280)).heap[gb272]? = some (.cells #[.int .i16 t267, .int .i16 t268, .int .i16 t269, .int .i16 t270] 30 (0, 0))) := ⟨pf_ BK272 NB272_281⟩
  have n6_ : Aside0 (((((((w44.setCell ⟨gb281, 0, none⟩ (.slice Ao45 t273.length co45)).setCell ⟨gb281, 1, none⟩ (.int .i16 t276)).setCell ⟨gb281, 2, none⟩ (.int .i16 t277)).setCell ⟨gb281, 3, none⟩ (.int .i16 t278)).setCell ⟨gb281, 4, none⟩ (.int .i16 t279)).setCell ⟨gb281, 5, none⟩ (.bool t280)).heap[gb281]? = some (.cells #[.slice Ao45 t273.length co45, .int .i16 t276, .int .i16 t277, .int .i16 t278, .int .i16 t279, .bool t280] 32 (0, 0))) := ⟨by (with_reducible repeat (first | refine blk_drewN ?_ _ | refine blk_drew ?_ | refine blk_alloc ?_ _)); refine blk_put (cs := #[.slice Ao45 t273.length co45, .int .i16 t276, .int .i16 t277, .int .i16 t278, .int .i16 t279, .bool false]) ?_ 5 _ rfl; (with_reducible repeat (first | refine blk_drewN ?_ _ | refine blk_drew ?_ | refine blk_alloc ?_ _)); refine blk_put (cs := #[.slice Ao45 t273.length co45, .int .i16 t276, .int .i16 t277, .int .i16 t278, .int .i16 0, .bool false]) ?_ 4 _ rfl; (with_reducible repeat (first | refine blk_drewN ?_ _ | refine blk_drew ?_ | refine blk_alloc ?_ _)); refine blk_put (cs := #[.slice Ao45 t273.length co45, .int .i16 t276, .int .i16 t277, .int .i16 0, .int .i16 0, .bool false]) ?_ 3 _ rfl; (with_reducible repeat (first | refine blk_drewN ?_ _ | refine blk_drew ?_ | refine blk_alloc ?_ _)); refine blk_put (cs := #[.slice Ao45 t273.length co45, .int .i16 t276, .int .i16 0, .int .i16 0, .int .i16 0, .bool false]) ?_ 2 _ rfl; (with_reducible repeat (first | refine blk_drewN ?_ _ | refine blk_drew ?_ | refine blk_alloc ?_ _)); refine blk_put (cs := #[.slice Ao45 t273.length co45, .int .i16 0, .int .i16 0, .int .i16 0, .int .i16 0, .bool false]) ?_ 1 _ rfl; (with_reducible repeat (first | refine blk_drewN ?_ _ | refine blk_drew ?_ | refine blk_alloc ?_ _)); refine blk_put (cs := #[.slice none 0 0, .int .i16 0, .int .i16 0, .int .i16 0, .int .i16 0, .bool false]) ?_ 0 _ rfl; (with_reducible repeat (first | refine blk_drewN ?_ _ | refine blk_drew ?_ | refine blk_alloc ?_ _)); exact BK281.out⟩
  have n7_ : Aside0 (Below w.heap.size w ((((((w44.setCell ⟨gb281, 0, none⟩ (.slice Ao45 t273.length co45)).setCell ⟨gb281, 1, none⟩ (.int .i16 t276)).setCell ⟨gb281, 2, none⟩ (.int .i16 t277)).setCell ⟨gb281, 3, none⟩ (.int .i16 t278)).setCell ⟨gb281, 4, none⟩ (.int .i16 t279)).setCell ⟨gb281, 5, none⟩ (.bool t280))) := ⟨bs_ HB GE281⟩
  (try clear HO254)
  (try clear HO275)
  (try clear BK248)
  (try clear BK249)
  (try clear BK250)
  (try clear BK272)
  (try clear BK281)
  (try clear HB)
  generalize ((((((w44.setCell ⟨gb281, 0, none⟩ (.slice Ao45 t273.length co45)).setCell ⟨gb281, 1, none⟩ (.int .i16 t276)).setCell ⟨gb281, 2, none⟩ (.int .i16 t277)).setCell ⟨gb281, 3, none⟩ (.int .i16 t278)).setCell ⟨gb281, 4, none⟩ (.int .i16 t279)).setCell ⟨gb281, 5, none⟩ (.bool t280)) = w51 at n0_ n1_ n2_ n3_ n4_ n5_ n6_ n7_ ⊢
  have HO254 := n0_
  have HO275 := n1_
  have BK248 := n2_
  have BK249 := n3_
  have BK250 := n4_
  have BK272 := n5_
  have BK281 := n6_
  have HB := n7_
  clear n0_ n1_ n2_ n3_ n4_ n5_ n6_ n7_
  have n0_ := A_ (Kd.R_drew HO254.out)
  have n1_ := A_ (Kd.R_drew HO275.out)
  have n2_ := A_ (blk_drew BK248.out)
  have n3_ := A_ (blk_drew BK249.out)
  have n4_ := A_ (blk_drew BK250.out)
  have n5_ := A_ (blk_drew BK272.out)
  have n6_ := A_ (blk_drew BK281.out)
  have n7_ := A_ (below_drew1 HB.out)
  clear HO254
  clear HO275
  clear BK248
  clear BK249
  clear BK250
  clear BK272
  clear BK281
  clear HB
  have HO254 := n0_
  have HO275 := n1_
  have BK248 := n2_
  have BK249 := n3_
  have BK250 := n4_
  have BK272 := n5_
  have BK281 := n6_
  have HB := n7_
  clear n0_ n1_ n2_ n3_ n4_ n5_ n6_ n7_
  refine start_ (n := 12) (S := fun w' => w'.cell? ⟨gb281, 0, none⟩ = some (.slice Ao45 t273.length co45) ∧ w'.cell? ⟨gb281, 1, none⟩ = some (.int .i16 t276) ∧ w'.cell? ⟨gb281, 2, none⟩ = some (.int .i16 t277) ∧ w'.cell? ⟨gb281, 3, none⟩ = some (.int .i16 t278) ∧ w'.cell? ⟨gb281, 4, none⟩ = some (.int .i16 t279) ∧ w'.cell? ⟨gb281, 5, none⟩ = some (.bool t280) ∧ w'.cell? ⟨gb249, 0, none⟩ = some (.int .i16 a1_0) ∧ w'.cell? ⟨gb249, 1, none⟩ = some (.int .i16 a1_1) ∧ w'.cell? ⟨gb249, 2, none⟩ = some (.int .i16 a1_2) ∧ w'.cell? ⟨gb249, 3, none⟩ = some (.int .i16 a1_3) ∧ w'.cell? ⟨gb250, 0, none⟩ = some (.int .i8 a2_0) ∧ w'.cell? ⟨gb250, 1, none⟩ = some (.int .i8 a2_1) ∧ w'.cell? ⟨gb250, 2, none⟩ = some (.int .i8 a2_2)) (ds := []) #[false, false, false, false, false, false, false, false, false, false, false, false] (by kernel_rfl) rfl rfl ⟨(blk_cell BK281.out 0).trans rfl, (blk_cell BK281.out 1).trans rfl, (blk_cell BK281.out 2).trans rfl, (blk_cell BK281.out 3).trans rfl, (blk_cell BK281.out 4).trans rfl, (blk_cell BK281.out 5).trans rfl, (blk_cell BK249.out 0).trans rfl, (blk_cell BK249.out 1).trans rfl, (blk_cell BK249.out 2).trans rfl, (blk_cell BK249.out 3).trans rfl, (blk_cell BK250.out 0).trans rfl, (blk_cell BK250.out 1).trans rfl, (blk_cell BK250.out 2).trans rfl⟩ (fun hHeld => ?_); refine with_tabW laws_FnExactDoMove.tab7 laws_FnExactDoMove.bits7 (fun HT_ HW_ => ?_)
  generalize w51.drew = w52 at HO254 HO275 BK248 BK249 BK250 BK272 BK281 HB hHeld ⊢
  refine take_ (i := 0) (N := some 31) (v := ?_) (a' := ?_) #[true, false, false, false, false, false, false, false, false, false, false, false] rfl rfl (take_ofW HT_.out HW_.out (by kernel_rfl)) (fun _ _ _ h => h) (Or.inl ⟨by rfl, ?_⟩) hHeld ?_ ?_
  rotate_left
  ·rintro w' ⟨s0, s1, s2, s3, s4, s5, s6, s7, s8, s9, s10, s11, s12⟩
   go_simp
   with_reducible rfl
  rotate_left
  ·simp only [Act.put, List.setIfInBounds_toArray, List.set_cons_zero, List.set_cons_succ, i64_w, i32_w]
   rfl
  refine take_ (i := 1) (N := some 32) (v := ?_) (a' := ?_) #[true, true, false, false, false, false, false, false, false, false, false, false] rfl rfl (take_ofW HT_.out HW_.out (by kernel_rfl)) (fun _ _ _ h => h) (Or.inl ⟨by rfl, ?_⟩) hHeld ?_ ?_
  rotate_left
  ·rintro w' ⟨s0, s1, s2, s3, s4, s5, s6, s7, s8, s9, s10, s11, s12⟩
   go_simp
   with_reducible rfl
  rotate_left
  ·simp only [Act.put, List.setIfInBounds_toArray, List.set_cons_zero, List.set_cons_succ, i64_w, i32_w]
   rfl
  refine take_ (i := 3) (N := some 34) (v := ?_) (a' := ?_) #[true, true, false, true, false, false, false, false, false, false, false, false] rfl rfl (take_ofW HT_.out HW_.out (by kernel_rfl)) (fun _ _ _ h => h) (Or.inl ⟨by rfl, ?_⟩) hHeld ?_ ?_
  rotate_left
  ·rintro w' ⟨s0, s1, s2, s3, s4, s5, s6, s7, s8, s9, s10, s11, s12⟩
   go_simp
   with_reducible rfl
  rotate_left
  ·simp only [Act.put, List.setIfInBounds_toArray, List.set_cons_zero, List.set_cons_succ, i64_w, i32_w]
   rfl
  refine join_ (σ := Nat) 2 #[true, true, true, true, true, true, true, true, true, true, false, false] (fun s_ => [(33, .agg #[.int .i16 t282, .int .i16 t283, .int .i16 t284, .int .i16 t285]), (35, .agg #[.int .i8 t286, .int .i8 t287, .int .i8 t288]), (36, .tuple #[.agg #[.int .i16 t289, .int .i16 t290, .int .i16 t291, .int .i16 t292], .int .i64 t293]), (11, .pointer (some ⟨s_, 0, none⟩)), (30, .tuple #[.agg #[.int .i16 t289, .int .i16 t290, .int .i16 t291, .int .i16 t292], .int .i64 t293]), (37, .agg #[.int .i16 t289, .int .i16 t290, .int .i16 t291, .int .i16 t292]), (38, .int .i64 t293)]) (fun s_ w' => (w'.cell? ⟨gb281, 0, none⟩ = some (.slice Ao45 t273.length co45) ∧ w'.cell? ⟨gb281, 1, none⟩ = some (.int .i16 t276) ∧ w'.cell? ⟨gb281, 2, none⟩ = some (.int .i16 t277) ∧ w'.cell? ⟨gb281, 3, none⟩ = some (.int .i16 t278) ∧ w'.cell? ⟨gb281, 4, none⟩ = some (.int .i16 t279) ∧ w'.cell? ⟨gb281, 5, none⟩ = some (.bool t280) ∧ w'.cell? ⟨gb249, 0, none⟩ = some (.int .i16 a1_0) ∧ w'.cell? ⟨gb249, 1, none⟩ = some (.int .i16 a1_1) ∧ w'.cell? ⟨gb249, 2, none⟩ = some (.int .i16 a1_2) ∧ w'.cell? ⟨gb249, 3, none⟩ = some (.int .i16 a1_3) ∧ w'.cell? ⟨gb250, 0, none⟩ = some (.int .i8 a2_0) ∧ w'.cell? ⟨gb250, 1, none⟩ = some (.int .i8 a2_1) ∧ w'.cell? ⟨gb250, 2, none⟩ = some (.int .i8 a2_2)) ∧ (Kd.R (Kd.int .i16) 23 w' w.heap.size (fun k_ => some k_ ≠ (.slice Ao45 t273.length co45 : Value).ownBlock) v253 t252) ∧ (Kd.R (Kd.int .i16) 23 w' w.heap.size (fun k_ => some k_ ≠ (v253 : Value).ownBlock) (.slice Ao45 t273.length co45) t273) ∧ (w'.heap[gb248]? = some (.cells #[.slice A0_0 l0_0.length c0_0, .int .i16 a0_1, .int .i16 a0_2, .int .i16 a0_3, .int .i16 a0_4, .bool a0_5] 26 (0, 0))) ∧ (w'.heap[gb249]? = some (.cells #[.int .i16 a1_0, .int .i16 a1_1, .int .i16 a1_2, .int .i16 a1_3] 24 (0, 0))) ∧ (w'.heap[gb250]? = some (.cells #[.int .i8 a2_0, .int .i8 a2_1, .int .i8 a2_2] 58 (0, 0))) ∧ (w'.heap[gb272]? = some (.cells #[.int .i16 t267, .int .i16 t268, .int .i16 t269, .int .i16 t270] 30 (0, 0))) ∧ (w'.heap[gb281]? = some (.cells #[.slice Ao45 t273.length co45, .int .i16 t276, .int .i16 t277, .int .i16 t278, .int .i16 t279, .bool t280] 32 (0, 0))) ∧ (w'.heap[s_]? = some (.cells #[.int .i16 0, .int .i16 0, .int .i16 0, .int .i16 0] 30 (0, 0))) ∧ (w.heap.size ≤ s_) ∧ (w.heap.size ≤ s_) ∧ (gb248 ≠ s_) ∧ (s_ ≠ gb248) ∧ (gb249 ≠ s_) ∧ (s_ ≠ gb249) ∧ (gb250 ≠ s_) ∧ (s_ ≠ gb250) ∧ (gb272 ≠ s_) ∧ (s_ ≠ gb272) ∧ (gb281 ≠ s_) ∧ (s_ ≠ gb281) ∧ (Below w.heap.size w w')) ?_ ?_
  rotate_left
  ·intro hCont
   refine two_ (i := 2) (j := 9) (Ni := some 33) (Nj := some 11) #[true, true, true, true, false, false, false, false, false, false, false, false] #[true, true, false, true, false, false, false, false, false, true, false, false] rfl rfl rfl rfl (two_of HT_.out (by kernel_rfl)) (by decide) (by decide) (fun K hK => ?_) (fun K hK => ?_)
   ·skip
    refine goes_ Try.func26 (by kernel_rfl) rfl #[.agg #[.int .i16 a1_0, .int .i16 a1_1, .int .i16 a1_2, .int .i16 a1_3]] (by rfl) rfl rfl arg_ ?_
    with_reducible refine (laws_toWater.calls k a1_0 a1_1 a1_2 a1_3 t282 t283 t284 t285 _ A18.out).mono ?_
    rintro e w53 ⟨rfl, hb⟩
    refine ⟨_, rfl, ?_⟩
    have n0_ := A_ (Kd.R_below (pr_ HO254) hb)
    have n1_ := A_ (Kd.R_below (pr_ HO275) hb)
    have n2_ := A_ (blk_below (pl_ BK248) hb)
    have n3_ := A_ (blk_below (pl_ BK249) hb)
    have n4_ := A_ (blk_below (pl_ BK250) hb)
    have n5_ := A_ (blk_below (pl_ BK272) hb)
    have n6_ := A_ (blk_below (pl_ BK281) hb)
    have n7_ := A_ (below_step (bl_ HB) hb)
    clear HO254
    clear HO275
    clear BK248
    clear BK249
    clear BK250
    clear BK272
    clear BK281
    clear HB
    have HO254 := n0_
    have HO275 := n1_
    have BK248 := n2_
    have BK249 := n3_
    have BK250 := n4_
    have BK272 := n5_
    have BK281 := n6_
    have HB := n7_
    clear n0_ n1_ n2_ n3_ n4_ n5_ n6_ n7_
    (try clear hb)
    (try clear hb2)
    (try clear hk)
    (try clear hi)
    refine hK.out _ _ ⟨(blk_cell BK281.out 0).trans rfl, (blk_cell BK281.out 1).trans rfl, (blk_cell BK281.out 2).trans rfl, (blk_cell BK281.out 3).trans rfl, (blk_cell BK281.out 4).trans rfl, (blk_cell BK281.out 5).trans rfl, (blk_cell BK249.out 0).trans rfl, (blk_cell BK249.out 1).trans rfl, (blk_cell BK249.out 2).trans rfl, (blk_cell BK249.out 3).trans rfl, (blk_cell BK250.out 0).trans rfl, (blk_cell BK250.out 1).trans rfl, (blk_cell BK250.out 2).trans rfl⟩ (fun hHeld => ?_)
    clear hK K
    refine norm_ (a' := ?_) ?_ ?_
    rotate_left
    ·show Act.put _ (some 33) _ = _
     simp only [Act.put, List.setIfInBounds_toArray, List.set_cons_zero, List.set_cons_succ, i64_w, i32_w]
     rfl
    refine two_ (i := 4) (j := 9) (Ni := some 35) (Nj := some 11) #[true, true, true, true, true, false, false, false, false, false, false, false] #[true, true, true, true, false, false, false, false, false, true, false, false] rfl rfl rfl rfl (two_of HT_.out (by kernel_rfl)) (by decide) (by decide) (fun K hK => ?_) (fun K hK => ?_)
    ·skip
     refine goes_ Try.func43 (by kernel_rfl) rfl #[.agg #[.int .i8 a2_0, .int .i8 a2_1, .int .i8 a2_2]] (by rfl) rfl rfl arg_ ?_
     with_reducible refine (laws_toMove.calls a2_0 a2_1 a2_2 t286 t287 t288 _ A19.out).mono ?_
     rintro e w54 ⟨rfl, hb⟩
     refine ⟨_, rfl, ?_⟩
     have n0_ := A_ (Kd.R_below (pr_ HO254) hb)
     have n1_ := A_ (Kd.R_below (pr_ HO275) hb)
     have n2_ := A_ (blk_below (pl_ BK248) hb)
     have n3_ := A_ (blk_below (pl_ BK249) hb)
     have n4_ := A_ (blk_below (pl_ BK250) hb)
     have n5_ := A_ (blk_below (pl_ BK272) hb)
     have n6_ := A_ (blk_below (pl_ BK281) hb)
     have n7_ := A_ (below_step (bl_ HB) hb)
     clear HO254
     clear HO275
     clear BK248
     clear BK249
     clear BK250
     clear BK272
     clear BK281
     clear HB
     have HO254 := n0_
     have HO275 := n1_
     have BK248 := n2_
     have BK249 := n3_
     have BK250 := n4_
     have BK272 := n5_
     have BK281 := n6_
     have HB := n7_
     clear n0_ n1_ n2_ n3_ n4_ n5_ n6_ n7_
     (try clear hb)
     (try clear hb2)
     (try clear hk)
     (try clear hi)
     refine hK.out _ _ ⟨(blk_cell BK281.out 0).trans rfl, (blk_cell BK281.out 1).trans rfl, (blk_cell BK281.out 2).trans rfl, (blk_cell BK281.out 3).trans rfl, (blk_cell BK281.out 4).trans rfl, (blk_cell BK281.out 5).trans rfl, (blk_cell BK249.out 0).trans rfl, (blk_cell BK249.out 1).trans rfl, (blk_cell BK249.out 2).trans rfl, (blk_cell BK249.out 3).trans rfl, (blk_cell BK250.out 0).trans rfl, (blk_cell BK250.out 1).trans rfl, (blk_cell BK250.out 2).trans rfl⟩ (fun hHeld => ?_)
     clear hK K
     refine norm_ (a' := ?_) ?_ ?_
     rotate_left
     ·show Act.put _ (some 35) _ = _
      simp only [Act.put, List.setIfInBounds_toArray, List.set_cons_zero, List.set_cons_succ, i64_w, i32_w]
      rfl
     refine two_ (i := 5) (j := 9) (Ni := some 36) (Nj := some 11) #[true, true, true, true, true, true, false, false, false, false, false, false] #[true, true, true, true, true, false, false, false, false, true, false, false] rfl rfl rfl rfl (two_of HT_.out (by kernel_rfl)) (by decide) (by decide) (fun K hK => ?_) (fun K hK => ?_)
     ·skip
      refine goes_ Try.func44 (by kernel_rfl) rfl #[.agg #[.slice Ao45 t273.length co45, .int .i16 t276, .int .i16 t277, .int .i16 t278, .int .i16 t279, .bool t280], .agg #[.int .i16 t282, .int .i16 t283, .int .i16 t284, .int .i16 t285], .agg #[.int .i8 t286, .int .i8 t287, .int .i8 t288]] (by rfl) rfl rfl arg_ ?_
      with_reducible refine (impl_DoMove.calls k _ _ t273 t276 t277 t278 t279 t280 t282 t283 t284 t285 t286 t287 t288 t289 t290 t291 t292 t293 _ ?side1 ?side2 A20.out).mono ?_
      (case side1 => repeat (first | exact (Kd.R_reads' HO275.out).2.2 | (with_reducible refine Kd.C_alloc ?_ _) | (with_reducible refine Kd.C_drewN ?_ _) | (with_reducible refine Kd.C_drew ?_)))
      (case side2 => exact (Kd.R_reads' HO275.out).2.1)
      rintro e w55 ⟨rfl, hb⟩
      refine ⟨_, rfl, ?_⟩
      have n0_ := A_ (Kd.R_below (pr_ HO254) hb)
      have n1_ := A_ (Kd.R_below (pr_ HO275) hb)
      have n2_ := A_ (blk_below (pl_ BK248) hb)
      have n3_ := A_ (blk_below (pl_ BK249) hb)
      have n4_ := A_ (blk_below (pl_ BK250) hb)
      have n5_ := A_ (blk_below (pl_ BK272) hb)
      have n6_ := A_ (blk_below (pl_ BK281) hb)
      have n7_ := A_ (below_step (bl_ HB) hb)
      clear HO254
      clear HO275
      clear BK248
      clear BK249
      clear BK250
      clear BK272
      clear BK281
      clear HB
      have HO254 := n0_
      have HO275 := n1_
      have BK248 := n2_
      have BK249 := n3_
      have BK250 := n4_
      have BK272 := n5_
      have BK281 := n6_
      have HB := n7_
      clear n0_ n1_ n2_ n3_ n4_ n5_ n6_ n7_
      (try clear hb)
      (try clear hb2)
      (try clear hk)
      (try clear hi)
      refine hK.out _ _ ⟨(blk_cell BK281.out 0).trans rfl, (blk_cell BK281.out 1).trans rfl, (blk_cell BK281.out 2).trans rfl, (blk_cell BK281.out 3).trans rfl, (blk_cell BK281.out 4).trans rfl, (blk_cell BK281.out 5).trans rfl, (blk_cell BK249.out 0).trans rfl, (blk_cell BK249.out 1).trans rfl, (blk_cell BK249.out 2).trans rfl, (blk_cell BK249.out 3).trans rfl, (blk_cell BK250.out 0).trans rfl, (blk_cell BK250.out 1).trans rfl, (blk_cell BK250.out 2).trans rfl⟩ (fun hHeld => ?_)
      clear hK K
      refine norm_ (a' := ?_) ?_ ?_
      rotate_left
      ·show Act.put _ (some 36) _ = _
       simp only [Act.put, List.setIfInBounds_toArray, List.set_cons_zero, List.set_cons_succ, i64_w, i32_w]
       rfl
      refine pure_ (i := 6) (N := some 30) (v := ?_) (a' := ?_) #[true, true, true, true, true, true, true, false, false, false, false, false] rfl rfl (any_of HT_.out (by kernel_rfl)) (fun _ _ _ h => h) (Or.inl ⟨by rfl, ?_⟩) ?_ ?_
      rotate_left
      ·intro w'
       go_simp
       with_reducible rfl
      rotate_left
      ·simp only [Act.put, List.setIfInBounds_toArray, List.set_cons_zero, List.set_cons_succ, i64_w, i32_w]
       rfl
      refine pure_ (i := 7) (N := some 37) (v := ?_) (a' := ?_) #[true, true, true, true, true, true, true, true, false, false, false, false] rfl rfl (any_of HT_.out (by kernel_rfl)) (fun _ _ _ h => h) (Or.inl ⟨by rfl, ?_⟩) ?_ ?_
      rotate_left
      ·intro w'
       go_simp
       with_reducible rfl
      rotate_left
      ·simp only [Act.put, List.setIfInBounds_toArray, List.set_cons_zero, List.set_cons_succ, i64_w, i32_w]
       rfl
      refine pure_ (i := 8) (N := some 38) (v := ?_) (a' := ?_) #[true, true, true, true, true, true, true, true, true, false, false, false] rfl rfl (any_of HT_.out (by kernel_rfl)) (fun _ _ _ h => h) (Or.inl ⟨by rfl, ?_⟩) ?_ ?_
      rotate_left
      ·intro w'
       go_simp
       with_reducible rfl
      rotate_left
      ·simp only [Act.put, List.setIfInBounds_toArray, List.set_cons_zero, List.set_cons_succ, i64_w, i32_w]
       rfl
      refine one_ (i := 9) (N := some 11) #[true, true, true, true, true, true, true, true, true, true, false, false] rfl rfl (one_of HT_.out (by kernel_rfl)) (by decide) (fun K hK => ?_)
      refine box_step ?hg (N := 11) ?hd (cs := #[.int .i16 0, .int .i16 0, .int .i16 0, .int .i16 0]) (t := 30) ?hr ?_; (case hd => rfl); (case hg => rfl); (case hr => first | (go_simp; done) | (go_simp; rfl))
      intro gb294 hg w56 hbox hb
      have n0_ := A_ (Kd.R_below (pr_ HO254) hb)
      have n1_ := A_ (Kd.R_below (pr_ HO275) hb)
      have n2_ := A_ (blk_below (pl_ BK248) hb)
      have n3_ := A_ (blk_below (pl_ BK249) hb)
      have n4_ := A_ (blk_below (pl_ BK250) hb)
      have n5_ := A_ (blk_below (pl_ BK272) hb)
      have n6_ := A_ (blk_below (pl_ BK281) hb)
      have n7_ := A_ (below_step (bl_ HB) hb)
      have n8_ := A_ (hbox)
      have n9_ := A_ ((by rw [hg]; exact (below_size (bl_ HB)) : w.heap.size ≤ gb294))
      have n10_ := n9_
      have n11_ := A_ ((by rw [hg]; exact Nat.ne_of_lt (blk_lt (pl_ BK248)) : gb248 ≠ gb294))
      have n12_ := Aside0.mk n11_.out.symm
      have n13_ := A_ ((by rw [hg]; exact Nat.ne_of_lt (blk_lt (pl_ BK249)) : gb249 ≠ gb294))
      have n14_ := Aside0.mk n13_.out.symm
      have n15_ := A_ ((by rw [hg]; exact Nat.ne_of_lt (blk_lt (pl_ BK250)) : gb250 ≠ gb294))
      have n16_ := Aside0.mk n15_.out.symm
      have n17_ := A_ ((by rw [hg]; exact Nat.ne_of_lt (blk_lt (pl_ BK272)) : gb272 ≠ gb294))
      have n18_ := Aside0.mk n17_.out.symm
      have n19_ := A_ ((by rw [hg]; exact Nat.ne_of_lt (blk_lt (pl_ BK281)) : gb281 ≠ gb294))
      have n20_ := Aside0.mk n19_.out.symm
      clear HO254
      clear HO275
      clear BK248
      clear BK249
      clear BK250
      clear BK272
      clear BK281
      clear HB
      have HO254 := n0_
      have HO275 := n1_
      have BK248 := n2_
      have BK249 := n3_
      have BK250 := n4_
      have BK272 := n5_
      have BK281 := n6_
      have HB := n7_
      have BK294 := n8_
      have GW294 := n9_
      have GE294 := n10_
      have NB248_294 := n11_
      have NB294_248 := n12_
      have NB249_294 := n13_
      have NB294_249 := n14_
      have NB250_294 := n15_
      have NB294_250 := n16_
      have NB272_294 := n17_
      have NB294_272 := n18_
      have NB281_294 := n19_
      have NB294_281 := n20_
      clear n0_ n1_ n2_ n3_ n4_ n5_ n6_ n7_ n8_ n9_ n10_ n11_ n12_ n13_ n14_ n15_ n16_ n17_ n18_ n19_ n20_
      clear hb hbox hg
      refine hK.out _ _ ⟨(blk_cell BK281.out 0).trans rfl, (blk_cell BK281.out 1).trans rfl, (blk_cell BK281.out 2).trans rfl, (blk_cell BK281.out 3).trans rfl, (blk_cell BK281.out 4).trans rfl, (blk_cell BK281.out 5).trans rfl, (blk_cell BK249.out 0).trans rfl, (blk_cell BK249.out 1).trans rfl, (blk_cell BK249.out 2).trans rfl, (blk_cell BK249.out 3).trans rfl, (blk_cell BK250.out 0).trans rfl, (blk_cell BK250.out 1).trans rfl, (blk_cell BK250.out 2).trans rfl⟩ (fun hHeld => ?_)
      clear hK K
      refine norm_ (a' := ?_) ?_ ?_
      rotate_left
      ·show Act.put _ (some 11) _ = _
       simp only [Act.put, List.setIfInBounds_toArray, List.set_cons_zero, List.set_cons_succ, i64_w, i32_w]
       rfl
      exact norm_ pa_ (hCont (gb294) _ ⟨hHeld, (pr_ HO254), (pr_ HO275), (pl_ BK248), (pl_ BK249), (pl_ BK250), (pl_ BK272), (pl_ BK281), (pl_ BK294), GW294.out, GE294.out, NB248_294.out, NB294_248.out, NB249_294.out, NB294_249.out, NB250_294.out, NB294_250.out, NB272_294.out, NB294_272.out, NB281_294.out, NB294_281.out, (bl_ HB)⟩)
     ·skip
      refine box_step ?hg (N := 11) ?hd (cs := #[.int .i16 0, .int .i16 0, .int .i16 0, .int .i16 0]) (t := 30) ?hr ?_; (case hd => rfl); (case hg => rfl); (case hr => first | (go_simp; done) | (go_simp; rfl))
      intro gb294 hg w55 hbox hb
      have n0_ := A_ (Kd.R_below (pr_ HO254) hb)
      have n1_ := A_ (Kd.R_below (pr_ HO275) hb)
      have n2_ := A_ (blk_below (pl_ BK248) hb)
      have n3_ := A_ (blk_below (pl_ BK249) hb)
      have n4_ := A_ (blk_below (pl_ BK250) hb)
      have n5_ := A_ (blk_below (pl_ BK272) hb)
      have n6_ := A_ (blk_below (pl_ BK281) hb)
      have n7_ := A_ (below_step (bl_ HB) hb)
      have n8_ := A_ (hbox)
      have n9_ := A_ ((by rw [hg]; exact (below_size (bl_ HB)) : w.heap.size ≤ gb294))
      have n10_ := n9_
      have n11_ := A_ ((by rw [hg]; exact Nat.ne_of_lt (blk_lt (pl_ BK248)) : gb248 ≠ gb294))
      have n12_ := Aside0.mk n11_.out.symm
      have n13_ := A_ ((by rw [hg]; exact Nat.ne_of_lt (blk_lt (pl_ BK249)) : gb249 ≠ gb294))
      have n14_ := Aside0.mk n13_.out.symm
      have n15_ := A_ ((by rw [hg]; exact Nat.ne_of_lt (blk_lt (pl_ BK250)) : gb250 ≠ gb294))
      have n16_ := Aside0.mk n15_.out.symm
      have n17_ := A_ ((by rw [hg]; exact Nat.ne_of_lt (blk_lt (pl_ BK272)) : gb272 ≠ gb294))
      have n18_ := Aside0.mk n17_.out.symm
      have n19_ := A_ ((by rw [hg]; exact Nat.ne_of_lt (blk_lt (pl_ BK281)) : gb281 ≠ gb294))
      have n20_ := Aside0.mk n19_.out.symm
      clear HO254
      clear HO275
      clear BK248
      clear BK249
      clear BK250
      clear BK272
      clear BK281
      clear HB
      have HO254 := n0_
      have HO275 := n1_
      have BK248 := n2_
      have BK249 := n3_
      have BK250 := n4_
      have BK272 := n5_
      have BK281 := n6_
      have HB := n7_
      have BK294 := n8_
      have GW294 := n9_
      have GE294 := n10_
      have NB248_294 := n11_
      have NB294_248 := n12_
      have NB249_294 := n13_
      have NB294_249 := n14_
      have NB250_294 := n15_
      have NB294_250 := n16_
      have NB272_294 := n17_
      have NB294_272 := n18_
      have NB281_294 := n19_
      have NB294_281 := n20_
      clear n0_ n1_ n2_ n3_ n4_ n5_ n6_ n7_ n8_ n9_ n10_ n11_ n12_ n13_ n14_ n15_ n16_ n17_ n18_ n19_ n20_
      clear hb hbox hg
      refine hK.out _ _ ⟨(blk_cell BK281.out 0).trans rfl, (blk_cell BK281.out 1).trans rfl, (blk_cell BK281.out 2).trans rfl, (blk_cell BK281.out 3).trans rfl, (blk_cell BK281.out 4).trans rfl, (blk_cell BK281.out 5).trans rfl, (blk_cell BK249.out 0).trans rfl, (blk_cell BK249.out 1).trans rfl, (blk_cell BK249.out 2).trans rfl, (blk_cell BK249.out 3).trans rfl, (blk_cell BK250.out 0).trans rfl, (blk_cell BK250.out 1).trans rfl, (blk_cell BK250.out 2).trans rfl⟩ (fun hHeld => ?_)
      clear hK K
      refine norm_ (a' := ?_) ?_ ?_
      rotate_left
      ·show Act.put _ (some 11) _ = _
       simp only [Act.put, List.setIfInBounds_toArray, List.set_cons_zero, List.set_cons_succ, i64_w, i32_w]
       rfl
      refine one_ (i := 5) (N := some 36) #[true, true, true, true, true, true, false, false, false, true, false, false] rfl rfl (one_of HT_.out (by kernel_rfl)) (by decide) (fun K hK => ?_)
      refine goes_ Try.func44 (by kernel_rfl) rfl #[.agg #[.slice Ao45 t273.length co45, .int .i16 t276, .int .i16 t277, .int .i16 t278, .int .i16 t279, .bool t280], .agg #[.int .i16 t282, .int .i16 t283, .int .i16 t284, .int .i16 t285], .agg #[.int .i8 t286, .int .i8 t287, .int .i8 t288]] (by rfl) rfl rfl arg_ ?_
      with_reducible refine (impl_DoMove.calls k _ _ t273 t276 t277 t278 t279 t280 t282 t283 t284 t285 t286 t287 t288 t289 t290 t291 t292 t293 _ ?side1 ?side2 A20.out).mono ?_
      (case side1 => repeat (first | exact (Kd.R_reads' HO275.out).2.2 | (with_reducible refine Kd.C_alloc ?_ _) | (with_reducible refine Kd.C_drewN ?_ _) | (with_reducible refine Kd.C_drew ?_)))
      (case side2 => exact (Kd.R_reads' HO275.out).2.1)
      rintro e w56 ⟨rfl, hb⟩
      refine ⟨_, rfl, ?_⟩
      have n0_ := A_ (Kd.R_below (pr_ HO254) hb)
      have n1_ := A_ (Kd.R_below (pr_ HO275) hb)
      have n2_ := A_ (blk_below (pl_ BK248) hb)
      have n3_ := A_ (blk_below (pl_ BK249) hb)
      have n4_ := A_ (blk_below (pl_ BK250) hb)
      have n5_ := A_ (blk_below (pl_ BK272) hb)
      have n6_ := A_ (blk_below (pl_ BK281) hb)
      have n7_ := A_ (blk_below (pl_ BK294) hb)
      have n8_ := A_ (below_step (bl_ HB) hb)
      clear HO254
      clear HO275
      clear BK248
      clear BK249
      clear BK250
      clear BK272
      clear BK281
      clear BK294
      clear HB
      have HO254 := n0_
      have HO275 := n1_
      have BK248 := n2_
      have BK249 := n3_
      have BK250 := n4_
      have BK272 := n5_
      have BK281 := n6_
      have BK294 := n7_
      have HB := n8_
      clear n0_ n1_ n2_ n3_ n4_ n5_ n6_ n7_ n8_
      (try clear hb)
      (try clear hb2)
      (try clear hk)
      (try clear hi)
      refine hK.out _ _ ⟨(blk_cell BK281.out 0).trans rfl, (blk_cell BK281.out 1).trans rfl, (blk_cell BK281.out 2).trans rfl, (blk_cell BK281.out 3).trans rfl, (blk_cell BK281.out 4).trans rfl, (blk_cell BK281.out 5).trans rfl, (blk_cell BK249.out 0).trans rfl, (blk_cell BK249.out 1).trans rfl, (blk_cell BK249.out 2).trans rfl, (blk_cell BK249.out 3).trans rfl, (blk_cell BK250.out 0).trans rfl, (blk_cell BK250.out 1).trans rfl, (blk_cell BK250.out 2).trans rfl⟩ (fun hHeld => ?_)
      clear hK K
      refine norm_ (a' := ?_) ?_ ?_
      rotate_left
      ·show Act.put _ (some 36) _ = _
       simp only [Act.put, List.setIfInBounds_toArray, List.set_cons_zero, List.set_cons_succ, i64_w, i32_w]
       rfl
      refine pure_ (i := 6) (N := some 30) (v := ?_) (a' := ?_) #[true, true, true, true, true, true, true, false, false, true, false, false] rfl rfl (any_of HT_.out (by kernel_rfl)) (fun _ _ _ h => h) (Or.inl ⟨by rfl, ?_⟩) ?_ ?_
      rotate_left
      ·intro w'
       go_simp
       with_reducible rfl
      rotate_left
      ·simp only [Act.put, List.setIfInBounds_toArray, List.set_cons_zero, List.set_cons_succ, i64_w, i32_w]
       rfl
      refine pure_ (i := 7) (N := some 37) (v := ?_) (a' := ?_) #[true, true, true, true, true, true, true, true, false, true, false, false] rfl rfl (any_of HT_.out (by kernel_rfl)) (fun _ _ _ h => h) (Or.inl ⟨by rfl, ?_⟩) ?_ ?_
      rotate_left
      ·intro w'
       go_simp
       with_reducible rfl
      rotate_left
      ·simp only [Act.put, List.setIfInBounds_toArray, List.set_cons_zero, List.set_cons_succ, i64_w, i32_w]
       rfl
      refine pure_ (i := 8) (N := some 38) (v := ?_) (a' := ?_) #[true, true, true, true, true, true, true, true, true, true, false, false] rfl rfl (any_of HT_.out (by kernel_rfl)) (fun _ _ _ h => h) (Or.inl ⟨by rfl, ?_⟩) ?_ ?_
      rotate_left
      ·intro w'
       go_simp
       with_reducible rfl
      rotate_left
      ·simp only [Act.put, List.setIfInBounds_toArray, List.set_cons_zero, List.set_cons_succ, i64_w, i32_w]
       rfl
      exact norm_ pa_ (hCont (gb294) _ ⟨hHeld, (pr_ HO254), (pr_ HO275), (pl_ BK248), (pl_ BK249), (pl_ BK250), (pl_ BK272), (pl_ BK281), (pl_ BK294), GW294.out, GE294.out, NB248_294.out, NB294_248.out, NB249_294.out, NB294_249.out, NB250_294.out, NB294_250.out, NB272_294.out, NB294_272.out, NB281_294.out, NB294_281.out, (bl_ HB)⟩)
    ·skip
     refine box_step ?hg (N := 11) ?hd (cs := #[.int .i16 0, .int .i16 0, .int .i16 0, .int .i16 0]) (t := 30) ?hr ?_; (case hd => rfl); (case hg => rfl); (case hr => first | (go_simp; done) | (go_simp; rfl))
     intro gb294 hg w54 hbox hb
     have n0_ := A_ (Kd.R_below (pr_ HO254) hb)
     have n1_ := A_ (Kd.R_below (pr_ HO275) hb)
     have n2_ := A_ (blk_below (pl_ BK248) hb)
     have n3_ := A_ (blk_below (pl_ BK249) hb)
     have n4_ := A_ (blk_below (pl_ BK250) hb)
     have n5_ := A_ (blk_below (pl_ BK272) hb)
     have n6_ := A_ (blk_below (pl_ BK281) hb)
     have n7_ := A_ (below_step (bl_ HB) hb)
     have n8_ := A_ (hbox)
     have n9_ := A_ ((by rw [hg]; exact (below_size (bl_ HB)) : w.heap.size ≤ gb294))
     have n10_ := n9_
     have n11_ := A_ ((by rw [hg]; exact Nat.ne_of_lt (blk_lt (pl_ BK248)) : gb248 ≠ gb294))
     have n12_ := Aside0.mk n11_.out.symm
     have n13_ := A_ ((by rw [hg]; exact Nat.ne_of_lt (blk_lt (pl_ BK249)) : gb249 ≠ gb294))
     have n14_ := Aside0.mk n13_.out.symm
     have n15_ := A_ ((by rw [hg]; exact Nat.ne_of_lt (blk_lt (pl_ BK250)) : gb250 ≠ gb294))
     have n16_ := Aside0.mk n15_.out.symm
     have n17_ := A_ ((by rw [hg]; exact Nat.ne_of_lt (blk_lt (pl_ BK272)) : gb272 ≠ gb294))
     have n18_ := Aside0.mk n17_.out.symm
     have n19_ := A_ ((by rw [hg]; exact Nat.ne_of_lt (blk_lt (pl_ BK281)) : gb281 ≠ gb294))
     have n20_ := Aside0.mk n19_.out.symm
     clear HO254
     clear HO275
     clear BK248
     clear BK249
     clear BK250
     clear BK272
     clear BK281
     clear HB
     have HO254 := n0_
     have HO275 := n1_
     have BK248 := n2_
     have BK249 := n3_
     have BK250 := n4_
     have BK272 := n5_
     have BK281 := n6_
     have HB := n7_
     have BK294 := n8_
     have GW294 := n9_
     have GE294 := n10_
     have NB248_294 := n11_
     have NB294_248 := n12_
     have NB249_294 := n13_
     have NB294_249 := n14_
     have NB250_294 := n15_
     have NB294_250 := n16_
     have NB272_294 := n17_
     have NB294_272 := n18_
     have NB281_294 := n19_
     have NB294_281 := n20_
     clear n0_ n1_ n2_ n3_ n4_ n5_ n6_ n7_ n8_ n9_ n10_ n11_ n12_ n13_ n14_ n15_ n16_ n17_ n18_ n19_ n20_
     clear hb hbox hg
     refine hK.out _ _ ⟨(blk_cell BK281.out 0).trans rfl, (blk_cell BK281.out 1).trans rfl, (blk_cell BK281.out 2).trans rfl, (blk_cell BK281.out 3).trans rfl, (blk_cell BK281.out 4).trans rfl, (blk_cell BK281.out 5).trans rfl, (blk_cell BK249.out 0).trans rfl, (blk_cell BK249.out 1).trans rfl, (blk_cell BK249.out 2).trans rfl, (blk_cell BK249.out 3).trans rfl, (blk_cell BK250.out 0).trans rfl, (blk_cell BK250.out 1).trans rfl, (blk_cell BK250.out 2).trans rfl⟩ (fun hHeld => ?_)
     clear hK K
     refine norm_ (a' := ?_) ?_ ?_
     rotate_left
     ·show Act.put _ (some 11) _ = _
      simp only [Act.put, List.setIfInBounds_toArray, List.set_cons_zero, List.set_cons_succ, i64_w, i32_w]
      rfl
     refine one_ (i := 4) (N := some 35) #[true, true, true, true, true, false, false, false, false, true, false, false] rfl rfl (one_of HT_.out (by kernel_rfl)) (by decide) (fun K hK => ?_)
     refine goes_ Try.func43 (by kernel_rfl) rfl #[.agg #[.int .i8 a2_0, .int .i8 a2_1, .int .i8 a2_2]] (by rfl) rfl rfl arg_ ?_
     with_reducible refine (laws_toMove.calls a2_0 a2_1 a2_2 t286 t287 t288 _ A19.out).mono ?_
     rintro e w55 ⟨rfl, hb⟩
     refine ⟨_, rfl, ?_⟩
     have n0_ := A_ (Kd.R_below (pr_ HO254) hb)
     have n1_ := A_ (Kd.R_below (pr_ HO275) hb)
     have n2_ := A_ (blk_below (pl_ BK248) hb)
     have n3_ := A_ (blk_below (pl_ BK249) hb)
     have n4_ := A_ (blk_below (pl_ BK250) hb)
     have n5_ := A_ (blk_below (pl_ BK272) hb)
     have n6_ := A_ (blk_below (pl_ BK281) hb)
     have n7_ := A_ (blk_below (pl_ BK294) hb)
     have n8_ := A_ (below_step (bl_ HB) hb)
     clear HO254
     clear HO275
     clear BK248
     clear BK249
     clear BK250
     clear BK272
     clear BK281
     clear BK294
     clear HB
     have HO254 := n0_
     have HO275 := n1_
     have BK248 := n2_
     have BK249 := n3_
     have BK250 := n4_
     have BK272 := n5_
     have BK281 := n6_
     have BK294 := n7_
     have HB := n8_
     clear n0_ n1_ n2_ n3_ n4_ n5_ n6_ n7_ n8_
     (try clear hb)
     (try clear hb2)
     (try clear hk)
     (try clear hi)
     refine hK.out _ _ ⟨(blk_cell BK281.out 0).trans rfl, (blk_cell BK281.out 1).trans rfl, (blk_cell BK281.out 2).trans rfl, (blk_cell BK281.out 3).trans rfl, (blk_cell BK281.out 4).trans rfl, (blk_cell BK281.out 5).trans rfl, (blk_cell BK249.out 0).trans rfl, (blk_cell BK249.out 1).trans rfl, (blk_cell BK249.out 2).trans rfl, (blk_cell BK249.out 3).trans rfl, (blk_cell BK250.out 0).trans rfl, (blk_cell BK250.out 1).trans rfl, (blk_cell BK250.out 2).trans rfl⟩ (fun hHeld => ?_)
     clear hK K
     refine norm_ (a' := ?_) ?_ ?_
     rotate_left
     ·show Act.put _ (some 35) _ = _
      simp only [Act.put, List.setIfInBounds_toArray, List.set_cons_zero, List.set_cons_succ, i64_w, i32_w]
      rfl
     refine one_ (i := 5) (N := some 36) #[true, true, true, true, true, true, false, false, false, true, false, false] rfl rfl (one_of HT_.out (by kernel_rfl)) (by decide) (fun K hK => ?_)
     refine goes_ Try.func44 (by kernel_rfl) rfl #[.agg #[.slice Ao45 t273.length co45, .int .i16 t276, .int .i16 t277, .int .i16 t278, .int .i16 t279, .bool t280], .agg #[.int .i16 t282, .int .i16 t283, .int .i16 t284, .int .i16 t285], .agg #[.int .i8 t286, .int .i8 t287, .int .i8 t288]] (by rfl) rfl rfl arg_ ?_
     with_reducible refine (impl_DoMove.calls k _ _ t273 t276 t277 t278 t279 t280 t282 t283 t284 t285 t286 t287 t288 t289 t290 t291 t292 t293 _ ?side1 ?side2 A20.out).mono ?_
     (case side1 => repeat (first | exact (Kd.R_reads' HO275.out).2.2 | (with_reducible refine Kd.C_alloc ?_ _) | (with_reducible refine Kd.C_drewN ?_ _) | (with_reducible refine Kd.C_drew ?_)))
     (case side2 => exact (Kd.R_reads' HO275.out).2.1)
     rintro e w56 ⟨rfl, hb⟩
     refine ⟨_, rfl, ?_⟩
     have n0_ := A_ (Kd.R_below (pr_ HO254) hb)
     have n1_ := A_ (Kd.R_below (pr_ HO275) hb)
     have n2_ := A_ (blk_below (pl_ BK248) hb)
     have n3_ := A_ (blk_below (pl_ BK249) hb)
     have n4_ := A_ (blk_below (pl_ BK250) hb)
     have n5_ := A_ (blk_below (pl_ BK272) hb)
     have n6_ := A_ (blk_below (pl_ BK281) hb)
     have n7_ := A_ (blk_below (pl_ BK294) hb)
     have n8_ := A_ (below_step (bl_ HB) hb)
     clear HO254
     clear HO275
     clear BK248
     clear BK249
     clear BK250
     clear BK272
     clear BK281
     clear BK294
     clear HB
     have HO254 := n0_
     have HO275 := n1_
     have BK248 := n2_
     have BK249 := n3_
     have BK250 := n4_
     have BK272 := n5_
     have BK281 := n6_
     have BK294 := n7_
     have HB := n8_
     clear n0_ n1_ n2_ n3_ n4_ n5_ n6_ n7_ n8_
     (try clear hb)
     (try clear hb2)
     (try clear hk)
     (try clear hi)
     refine hK.out _ _ ⟨(blk_cell BK281.out 0).trans rfl, (blk_cell BK281.out 1).trans rfl, (blk_cell BK281.out 2).trans rfl, (blk_cell BK281.out 3).trans rfl, (blk_cell BK281.out 4).trans rfl, (blk_cell BK281.out 5).trans rfl, (blk_cell BK249.out 0).trans rfl, (blk_cell BK249.out 1).trans rfl, (blk_cell BK249.out 2).trans rfl, (blk_cell BK249.out 3).trans rfl, (blk_cell BK250.out 0).trans rfl, (blk_cell BK250.out 1).trans rfl, (blk_cell BK250.out 2).trans rfl⟩ (fun hHeld => ?_)
     clear hK K
     refine norm_ (a' := ?_) ?_ ?_
     rotate_left
     ·show Act.put _ (some 36) _ = _
      simp only [Act.put, List.setIfInBounds_toArray, List.set_cons_zero, List.set_cons_succ, i64_w, i32_w]
      rfl
     refine pure_ (i := 6) (N := some 30) (v := ?_) (a' := ?_) #[true, true, true, true, true, true, true, false, false, true, false, false] rfl rfl (any_of HT_.out (by kernel_rfl)) (fun _ _ _ h => h) (Or.inl ⟨by rfl, ?_⟩) ?_ ?_
     rotate_left
     ·intro w'
      go_simp
      with_reducible rfl
     rotate_left
     ·simp only [Act.put, List.setIfInBounds_toArray, List.set_cons_zero, List.set_cons_succ, i64_w, i32_w]
      rfl
     refine pure_ (i := 7) (N := some 37) (v := ?_) (a' := ?_) #[true, true, true, true, true, true, true, true, false, true, false, false] rfl rfl (any_of HT_.out (by kernel_rfl)) (fun _ _ _ h => h) (Or.inl ⟨by rfl, ?_⟩) ?_ ?_
     rotate_left
     ·intro w'
      go_simp
      with_reducible rfl
     rotate_left
     ·simp only [Act.put, List.setIfInBounds_toArray, List.set_cons_zero, List.set_cons_succ, i64_w, i32_w]
      rfl
     refine pure_ (i := 8) (N := some 38) (v := ?_) (a' := ?_) #[true, true, true, true, true, true, true, true, true, true, false, false] rfl rfl (any_of HT_.out (by kernel_rfl)) (fun _ _ _ h => h) (Or.inl ⟨by rfl, ?_⟩) ?_ ?_
     rotate_left
     ·intro w'
      go_simp
      with_reducible rfl
     rotate_left
     ·simp only [Act.put, List.setIfInBounds_toArray, List.set_cons_zero, List.set_cons_succ, i64_w, i32_w]
      rfl
     exact norm_ pa_ (hCont (gb294) _ ⟨hHeld, (pr_ HO254), (pr_ HO275), (pl_ BK248), (pl_ BK249), (pl_ BK250), (pl_ BK272), (pl_ BK281), (pl_ BK294), GW294.out, GE294.out, NB248_294.out, NB294_248.out, NB249_294.out, NB294_249.out, NB250_294.out, NB294_250.out, NB272_294.out, NB294_272.out, NB281_294.out, NB294_281.out, (bl_ HB)⟩)
   ·skip
    refine box_step ?hg (N := 11) ?hd (cs := #[.int .i16 0, .int .i16 0, .int .i16 0, .int .i16 0]) (t := 30) ?hr ?_; (case hd => rfl); (case hg => rfl); (case hr => first | (go_simp; done) | (go_simp; rfl))
    intro gb294 hg w53 hbox hb
    have n0_ := A_ (Kd.R_below (pr_ HO254) hb)
    have n1_ := A_ (Kd.R_below (pr_ HO275) hb)
    have n2_ := A_ (blk_below (pl_ BK248) hb)
    have n3_ := A_ (blk_below (pl_ BK249) hb)
    have n4_ := A_ (blk_below (pl_ BK250) hb)
    have n5_ := A_ (blk_below (pl_ BK272) hb)
    have n6_ := A_ (blk_below (pl_ BK281) hb)
    have n7_ := A_ (below_step (bl_ HB) hb)
    have n8_ := A_ (hbox)
    have n9_ := A_ ((by rw [hg]; exact (below_size (bl_ HB)) : w.heap.size ≤ gb294))
    have n10_ := n9_
    have n11_ := A_ ((by rw [hg]; exact Nat.ne_of_lt (blk_lt (pl_ BK248)) : gb248 ≠ gb294))
    have n12_ := Aside0.mk n11_.out.symm
    have n13_ := A_ ((by rw [hg]; exact Nat.ne_of_lt (blk_lt (pl_ BK249)) : gb249 ≠ gb294))
    have n14_ := Aside0.mk n13_.out.symm
    have n15_ := A_ ((by rw [hg]; exact Nat.ne_of_lt (blk_lt (pl_ BK250)) : gb250 ≠ gb294))
    have n16_ := Aside0.mk n15_.out.symm
    have n17_ := A_ ((by rw [hg]; exact Nat.ne_of_lt (blk_lt (pl_ BK272)) : gb272 ≠ gb294))
    have n18_ := Aside0.mk n17_.out.symm
    have n19_ := A_ ((by rw [hg]; exact Nat.ne_of_lt (blk_lt (pl_ BK281)) : gb281 ≠ gb294))
    have n20_ := Aside0.mk n19_.out.symm
    clear HO254
    clear HO275
    clear BK248
    clear BK249
    clear BK250
    clear BK272
    clear BK281
    clear HB
    have HO254 := n0_
    have HO275 := n1_
    have BK248 := n2_
    have BK249 := n3_
    have BK250 := n4_
    have BK272 := n5_
    have BK281 := n6_
    have HB := n7_
    have BK294 := n8_
    have GW294 := n9_
    have GE294 := n10_
    have NB248_294 := n11_
    have NB294_248 := n12_
    have NB249_294 := n13_
    have NB294_249 := n14_
    have NB250_294 := n15_
    have NB294_250 := n16_
    have NB272_294 := n17_
    have NB294_272 := n18_
    have NB281_294 := n19_
    have NB294_281 := n20_
    clear n0_ n1_ n2_ n3_ n4_ n5_ n6_ n7_ n8_ n9_ n10_ n11_ n12_ n13_ n14_ n15_ n16_ n17_ n18_ n19_ n20_
    clear hb hbox hg
    refine hK.out _ _ ⟨(blk_cell BK281.out 0).trans rfl, (blk_cell BK281.out 1).trans rfl, (blk_cell BK281.out 2).trans rfl, (blk_cell BK281.out 3).trans rfl, (blk_cell BK281.out 4).trans rfl, (blk_cell BK281.out 5).trans rfl, (blk_cell BK249.out 0).trans rfl, (blk_cell BK249.out 1).trans rfl, (blk_cell BK249.out 2).trans rfl, (blk_cell BK249.out 3).trans rfl, (blk_cell BK250.out 0).trans rfl, (blk_cell BK250.out 1).trans rfl, (blk_cell BK250.out 2).trans rfl⟩ (fun hHeld => ?_)
    clear hK K
    refine norm_ (a' := ?_) ?_ ?_
    rotate_left
    ·show Act.put _ (some 11) _ = _
     simp only [Act.put, List.setIfInBounds_toArray, List.set_cons_zero, List.set_cons_succ, i64_w, i32_w]
     rfl
    refine one_ (i := 2) (N := some 33) #[true, true, true, true, false, false, false, false, false, true, false, false] rfl rfl (one_of HT_.out (by kernel_rfl)) (by decide) (fun K hK => ?_)
    refine goes_ Try.func26 (by kernel_rfl) rfl #[.agg #[.int .i16 a1_0, .int .i16 a1_1, .int .i16 a1_2, .int .i16 a1_3]] (by rfl) rfl rfl arg_ ?_
    with_reducible refine (laws_toWater.calls k a1_0 a1_1 a1_2 a1_3 t282 t283 t284 t285 _ A18.out).mono ?_
    rintro e w54 ⟨rfl, hb⟩
    refine ⟨_, rfl, ?_⟩
    have n0_ := A_ (Kd.R_below (pr_ HO254) hb)
    have n1_ := A_ (Kd.R_below (pr_ HO275) hb)
    have n2_ := A_ (blk_below (pl_ BK248) hb)
    have n3_ := A_ (blk_below (pl_ BK249) hb)
    have n4_ := A_ (blk_below (pl_ BK250) hb)
    have n5_ := A_ (blk_below (pl_ BK272) hb)
    have n6_ := A_ (blk_below (pl_ BK281) hb)
    have n7_ := A_ (blk_below (pl_ BK294) hb)
    have n8_ := A_ (below_step (bl_ HB) hb)
    clear HO254
    clear HO275
    clear BK248
    clear BK249
    clear BK250
    clear BK272
    clear BK281
    clear BK294
    clear HB
    have HO254 := n0_
    have HO275 := n1_
    have BK248 := n2_
    have BK249 := n3_
    have BK250 := n4_
    have BK272 := n5_
    have BK281 := n6_
    have BK294 := n7_
    have HB := n8_
    clear n0_ n1_ n2_ n3_ n4_ n5_ n6_ n7_ n8_
    (try clear hb)
    (try clear hb2)
    (try clear hk)
    (try clear hi)
    refine hK.out _ _ ⟨(blk_cell BK281.out 0).trans rfl, (blk_cell BK281.out 1).trans rfl, (blk_cell BK281.out 2).trans rfl, (blk_cell BK281.out 3).trans rfl, (blk_cell BK281.out 4).trans rfl, (blk_cell BK281.out 5).trans rfl, (blk_cell BK249.out 0).trans rfl, (blk_cell BK249.out 1).trans rfl, (blk_cell BK249.out 2).trans rfl, (blk_cell BK249.out 3).trans rfl, (blk_cell BK250.out 0).trans rfl, (blk_cell BK250.out 1).trans rfl, (blk_cell BK250.out 2).trans rfl⟩ (fun hHeld => ?_)
    clear hK K
    refine norm_ (a' := ?_) ?_ ?_
    rotate_left
    ·show Act.put _ (some 33) _ = _
     simp only [Act.put, List.setIfInBounds_toArray, List.set_cons_zero, List.set_cons_succ, i64_w, i32_w]
     rfl
    refine one_ (i := 4) (N := some 35) #[true, true, true, true, true, false, false, false, false, true, false, false] rfl rfl (one_of HT_.out (by kernel_rfl)) (by decide) (fun K hK => ?_)
    refine goes_ Try.func43 (by kernel_rfl) rfl #[.agg #[.int .i8 a2_0, .int .i8 a2_1, .int .i8 a2_2]] (by rfl) rfl rfl arg_ ?_
    with_reducible refine (laws_toMove.calls a2_0 a2_1 a2_2 t286 t287 t288 _ A19.out).mono ?_
    rintro e w55 ⟨rfl, hb⟩
    refine ⟨_, rfl, ?_⟩
    have n0_ := A_ (Kd.R_below (pr_ HO254) hb)
    have n1_ := A_ (Kd.R_below (pr_ HO275) hb)
    have n2_ := A_ (blk_below (pl_ BK248) hb)
    have n3_ := A_ (blk_below (pl_ BK249) hb)
    have n4_ := A_ (blk_below (pl_ BK250) hb)
    have n5_ := A_ (blk_below (pl_ BK272) hb)
    have n6_ := A_ (blk_below (pl_ BK281) hb)
    have n7_ := A_ (blk_below (pl_ BK294) hb)
    have n8_ := A_ (below_step (bl_ HB) hb)
    clear HO254
    clear HO275
    clear BK248
    clear BK249
    clear BK250
    clear BK272
    clear BK281
    clear BK294
    clear HB
    have HO254 := n0_
    have HO275 := n1_
    have BK248 := n2_
    have BK249 := n3_
    have BK250 := n4_
    have BK272 := n5_
    have BK281 := n6_
    have BK294 := n7_
    have HB := n8_
    clear n0_ n1_ n2_ n3_ n4_ n5_ n6_ n7_ n8_
    (try clear hb)
    (try clear hb2)
    (try clear hk)
    (try clear hi)
    refine hK.out _ _ ⟨(blk_cell BK281.out 0).trans rfl, (blk_cell BK281.out 1).trans rfl, (blk_cell BK281.out 2).trans rfl, (blk_cell BK281.out 3).trans rfl, (blk_cell BK281.out 4).trans rfl, (blk_cell BK281.out 5).trans rfl, (blk_cell BK249.out 0).trans rfl, (blk_cell BK249.out 1).trans rfl, (blk_cell BK249.out 2).trans rfl, (blk_cell BK249.out 3).trans rfl, (blk_cell BK250.out 0).trans rfl, (blk_cell BK250.out 1).trans rfl, (blk_cell BK250.out 2).trans rfl⟩ (fun hHeld => ?_)
    clear hK K
    refine norm_ (a' := ?_) ?_ ?_
    rotate_left
    ·show Act.put _ (some 35) _ = _
     simp only [Act.put, List.setIfInBounds_toArray, List.set_cons_zero, List.set_cons_succ, i64_w, i32_w]
     rfl
    refine one_ (i := 5) (N := some 36) #[true, true, true, true, true, true, false, false, false, true, false, false] rfl rfl (one_of HT_.out (by kernel_rfl)) (by decide) (fun K hK => ?_)
    refine goes_ Try.func44 (by kernel_rfl) rfl #[.agg #[.slice Ao45 t273.length co45, .int .i16 t276, .int .i16 t277, .int .i16 t278, .int .i16 t279, .bool t280], .agg #[.int .i16 t282, .int .i16 t283, .int .i16 t284, .int .i16 t285], .agg #[.int .i8 t286, .int .i8 t287, .int .i8 t288]] (by rfl) rfl rfl arg_ ?_
    with_reducible refine (impl_DoMove.calls k _ _ t273 t276 t277 t278 t279 t280 t282 t283 t284 t285 t286 t287 t288 t289 t290 t291 t292 t293 _ ?side1 ?side2 A20.out).mono ?_
    (case side1 => repeat (first | exact (Kd.R_reads' HO275.out).2.2 | (with_reducible refine Kd.C_alloc ?_ _) | (with_reducible refine Kd.C_drewN ?_ _) | (with_reducible refine Kd.C_drew ?_)))
    (case side2 => exact (Kd.R_reads' HO275.out).2.1)
    rintro e w56 ⟨rfl, hb⟩
    refine ⟨_, rfl, ?_⟩
    have n0_ := A_ (Kd.R_below (pr_ HO254) hb)
    have n1_ := A_ (Kd.R_below (pr_ HO275) hb)
    have n2_ := A_ (blk_below (pl_ BK248) hb)
    have n3_ := A_ (blk_below (pl_ BK249) hb)
    have n4_ := A_ (blk_below (pl_ BK250) hb)
    have n5_ := A_ (blk_below (pl_ BK272) hb)
    have n6_ := A_ (blk_below (pl_ BK281) hb)
    have n7_ := A_ (blk_below (pl_ BK294) hb)
    have n8_ := A_ (below_step (bl_ HB) hb)
    clear HO254
    clear HO275
    clear BK248
    clear BK249
    clear BK250
    clear BK272
    clear BK281
    clear BK294
    clear HB
    have HO254 := n0_
    have HO275 := n1_
    have BK248 := n2_
    have BK249 := n3_
    have BK250 := n4_
    have BK272 := n5_
    have BK281 := n6_
    have BK294 := n7_
    have HB := n8_
    clear n0_ n1_ n2_ n3_ n4_ n5_ n6_ n7_ n8_
    (try clear hb)
    (try clear hb2)
    (try clear hk)
    (try clear hi)
    refine hK.out _ _ ⟨(blk_cell BK281.out 0).trans rfl, (blk_cell BK281.out 1).trans rfl, (blk_cell BK281.out 2).trans rfl, (blk_cell BK281.out 3).trans rfl, (blk_cell BK281.out 4).trans rfl, (blk_cell BK281.out 5).trans rfl, (blk_cell BK249.out 0).trans rfl, (blk_cell BK249.out 1).trans rfl, (blk_cell BK249.out 2).trans rfl, (blk_cell BK249.out 3).trans rfl, (blk_cell BK250.out 0).trans rfl, (blk_cell BK250.out 1).trans rfl, (blk_cell BK250.out 2).trans rfl⟩ (fun hHeld => ?_)
    clear hK K
    refine norm_ (a' := ?_) ?_ ?_
    rotate_left
    ·show Act.put _ (some 36) _ = _
     simp only [Act.put, List.setIfInBounds_toArray, List.set_cons_zero, List.set_cons_succ, i64_w, i32_w]
     rfl
    refine pure_ (i := 6) (N := some 30) (v := ?_) (a' := ?_) #[true, true, true, true, true, true, true, false, false, true, false, false] rfl rfl (any_of HT_.out (by kernel_rfl)) (fun _ _ _ h => h) (Or.inl ⟨by rfl, ?_⟩) ?_ ?_
    rotate_left
    ·intro w'
     go_simp
     with_reducible rfl
    rotate_left
    ·simp only [Act.put, List.setIfInBounds_toArray, List.set_cons_zero, List.set_cons_succ, i64_w, i32_w]
     rfl
    refine pure_ (i := 7) (N := some 37) (v := ?_) (a' := ?_) #[true, true, true, true, true, true, true, true, false, true, false, false] rfl rfl (any_of HT_.out (by kernel_rfl)) (fun _ _ _ h => h) (Or.inl ⟨by rfl, ?_⟩) ?_ ?_
    rotate_left
    ·intro w'
     go_simp
     with_reducible rfl
    rotate_left
    ·simp only [Act.put, List.setIfInBounds_toArray, List.set_cons_zero, List.set_cons_succ, i64_w, i32_w]
     rfl
    refine pure_ (i := 8) (N := some 38) (v := ?_) (a' := ?_) #[true, true, true, true, true, true, true, true, true, true, false, false] rfl rfl (any_of HT_.out (by kernel_rfl)) (fun _ _ _ h => h) (Or.inl ⟨by rfl, ?_⟩) ?_ ?_
    rotate_left
    ·intro w'
     go_simp
     with_reducible rfl
    rotate_left
    ·simp only [Act.put, List.setIfInBounds_toArray, List.set_cons_zero, List.set_cons_succ, i64_w, i32_w]
     rfl
    exact norm_ pa_ (hCont (gb294) _ ⟨hHeld, (pr_ HO254), (pr_ HO275), (pl_ BK248), (pl_ BK249), (pl_ BK250), (pl_ BK272), (pl_ BK281), (pl_ BK294), GW294.out, GE294.out, NB248_294.out, NB294_248.out, NB249_294.out, NB294_249.out, NB250_294.out, NB294_250.out, NB272_294.out, NB294_272.out, NB281_294.out, NB294_281.out, (bl_ HB)⟩)
  rintro gb294 w57 ⟨hS_, h0_, h1_, h2_, h3_, h4_, h5_, h6_, h7_, h8_, h9_, h10_, h11_, h12_, h13_, h14_, h15_, h16_, h17_, h18_, h19_, h20_⟩
  have n0_ : Aside0 (Kd.R (Kd.int .i16) 23 w57 w.heap.size (fun k_ => some k_ ≠ (.slice Ao45 t273.length co45 : Value).ownBlock) v253 t252) := ⟨h0_⟩
  have n1_ : Aside0 (Kd.R (Kd.int .i16) 23 w57 w.heap.size (fun k_ => some k_ ≠ (v253 : Value).ownBlock) (.slice Ao45 t273.length co45) t273) := ⟨h1_⟩
  have n2_ : Aside0 (w57.heap[gb248]? = some (.cells #[.slice A0_0 l0_0.length c0_0, .int .i16 a0_1, .int .i16 a0_2, .int .i16 a0_3, .int .i16 a0_4, .bool a0_5] 26 (0, 0))) := ⟨h2_⟩
  have n3_ : Aside0 (w57.heap[gb249]? = some (.cells #[.int .i16 a1_0, .int .i16 a1_1, .int .i16 a1_2, .int .i16 a1_3] 24 (0, 0))) := ⟨h3_⟩
  have n4_ : Aside0 (w57.heap[gb250]? = some (.cells #[.int .i8 a2_0, .int .i8 a2_1, .int .i8 a2_2] 58 (0, 0))) := ⟨h4_⟩
  have n5_ : Aside0 (w57.heap[gb272]? = some (.cells #[.int .i16 t267, .int .i16 t268, .int .i16 t269, .int .i16 t270] 30 (0, 0))) := ⟨h5_⟩
  have n6_ : Aside0 (w57.heap[gb281]? = some (.cells #[.slice Ao45 t273.length co45, .int .i16 t276, .int .i16 t277, .int .i16 t278, .int .i16 t279, .bool t280] 32 (0, 0))) := ⟨h6_⟩
  have n7_ : Aside0 (w57.heap[gb294]? = some (.cells #[.int .i16 0, .int .i16 0, .int .i16 0, .int .i16 0] 30 (0, 0))) := ⟨h7_⟩
  have n8_ : Aside0 (w.heap.size ≤ gb294) := ⟨h8_⟩
  have n9_ : Aside0 (w.heap.size ≤ gb294) := ⟨h9_⟩
  have n10_ : Aside0 (gb248 ≠ gb294) := ⟨h10_⟩
  have n11_ : Aside0 (gb294 ≠ gb248) := ⟨h11_⟩
  have n12_ : Aside0 (gb249 ≠ gb294) := ⟨h12_⟩
  have n13_ : Aside0 (gb294 ≠ gb249) := ⟨h13_⟩
  have n14_ : Aside0 (gb250 ≠ gb294) := ⟨h14_⟩
  have n15_ : Aside0 (gb294 ≠ gb250) := ⟨h15_⟩
  have n16_ : Aside0 (gb272 ≠ gb294) := ⟨h16_⟩
  have n17_ : Aside0 (gb294 ≠ gb272) := ⟨h17_⟩
  have n18_ : Aside0 (gb281 ≠ gb294) := ⟨h18_⟩
  have n19_ : Aside0 (gb294 ≠ gb281) := ⟨h19_⟩
  have n20_ : Aside0 (Below w.heap.size w w57) := ⟨h20_⟩
  clear HO254
  clear HO275
  clear BK248
  clear BK249
  clear BK250
  clear BK272
  clear BK281
  clear HB
  clear h0_ h1_ h2_ h3_ h4_ h5_ h6_ h7_ h8_ h9_ h10_ h11_ h12_ h13_ h14_ h15_ h16_ h17_ h18_ h19_ h20_
  have HO254 := n0_
  have HO275 := n1_
  have BK248 := n2_
  have BK249 := n3_
  have BK250 := n4_
  have BK272 := n5_
  have BK281 := n6_
  have BK294 := n7_
  have GW294 := n8_
  have GE294 := n9_
  have NB248_294 := n10_
  have NB294_248 := n11_
  have NB249_294 := n12_
  have NB294_249 := n13_
  have NB250_294 := n14_
  have NB294_250 := n15_
  have NB272_294 := n16_
  have NB294_272 := n17_
  have NB281_294 := n18_
  have NB294_281 := n19_
  have HB := n20_
  clear n0_ n1_ n2_ n3_ n4_ n5_ n6_ n7_ n8_ n9_ n10_ n11_ n12_ n13_ n14_ n15_ n16_ n17_ n18_ n19_ n20_
  have hHeld : w57.cell? ⟨gb281, 0, none⟩ = some (.slice Ao45 t273.length co45) ∧ w57.cell? ⟨gb281, 1, none⟩ = some (.int .i16 t276) ∧ w57.cell? ⟨gb281, 2, none⟩ = some (.int .i16 t277) ∧ w57.cell? ⟨gb281, 3, none⟩ = some (.int .i16 t278) ∧ w57.cell? ⟨gb281, 4, none⟩ = some (.int .i16 t279) ∧ w57.cell? ⟨gb281, 5, none⟩ = some (.bool t280) ∧ w57.cell? ⟨gb249, 0, none⟩ = some (.int .i16 a1_0) ∧ w57.cell? ⟨gb249, 1, none⟩ = some (.int .i16 a1_1) ∧ w57.cell? ⟨gb249, 2, none⟩ = some (.int .i16 a1_2) ∧ w57.cell? ⟨gb249, 3, none⟩ = some (.int .i16 a1_3) ∧ w57.cell? ⟨gb250, 0, none⟩ = some (.int .i8 a2_0) ∧ w57.cell? ⟨gb250, 1, none⟩ = some (.int .i8 a2_1) ∧ w57.cell? ⟨gb250, 2, none⟩ = some (.int .i8 a2_2) := hS_
  refine norm_ (a' := ?_) ?_ ?_
  rotate_left
  ·simp only [putAll, Act.put, List.setIfInBounds_toArray, List.set_cons_zero, List.set_cons_succ]
   rfl
  refine one_ (i := 10) (N := none) #[true, true, true, true, true, true, true, true, true, true, true, false] rfl rfl (one_of HT_.out (by kernel_rfl)) (by decide) (fun K hK => ?_)
  have hs58 : w57.cell? ⟨gb294, 0, none⟩ = some (.int .i16 0) := (blk_cell BK294.out 0).trans rfl
  have hfs58 := blk_frozen BK294.out 0
  have hns58_0 := NB248_294.out
  have hns58_1 := NB249_294.out
  have hns58_2 := NB250_294.out
  have hns58_3 := NB272_294.out
  have hns58_4 := NB281_294.out
  have hms58_0 := NB294_248.out
  have hms58_1 := NB294_249.out
  have hms58_2 := NB294_250.out
  have hms58_3 := NB294_272.out
  have hms58_4 := NB294_281.out
  have hs59 : w57.cell? ⟨gb294, 1, none⟩ = some (.int .i16 0) := (blk_cell BK294.out 1).trans rfl
  have hfs59 := blk_frozen BK294.out 1
  have hns59_0 := NB248_294.out
  have hns59_1 := NB249_294.out
  have hns59_2 := NB250_294.out
  have hns59_3 := NB272_294.out
  have hns59_4 := NB281_294.out
  have hms59_0 := NB294_248.out
  have hms59_1 := NB294_249.out
  have hms59_2 := NB294_250.out
  have hms59_3 := NB294_272.out
  have hms59_4 := NB294_281.out
  have hs60 : w57.cell? ⟨gb294, 2, none⟩ = some (.int .i16 0) := (blk_cell BK294.out 2).trans rfl
  have hfs60 := blk_frozen BK294.out 2
  have hns60_0 := NB248_294.out
  have hns60_1 := NB249_294.out
  have hns60_2 := NB250_294.out
  have hns60_3 := NB272_294.out
  have hns60_4 := NB281_294.out
  have hms60_0 := NB294_248.out
  have hms60_1 := NB294_249.out
  have hms60_2 := NB294_250.out
  have hms60_3 := NB294_272.out
  have hms60_4 := NB294_281.out
  have hs61 : w57.cell? ⟨gb294, 3, none⟩ = some (.int .i16 0) := (blk_cell BK294.out 3).trans rfl
  have hfs61 := blk_frozen BK294.out 3
  have hns61_0 := NB248_294.out
  have hns61_1 := NB249_294.out
  have hns61_2 := NB250_294.out
  have hns61_3 := NB272_294.out
  have hns61_4 := NB281_294.out
  have hms61_0 := NB294_248.out
  have hms61_1 := NB294_249.out
  have hms61_2 := NB294_250.out
  have hms61_3 := NB294_272.out
  have hms61_4 := NB294_281.out
  refine skip_ (w1 := ?_) (by rfl) rfl ?_ ?_
  rotate_left
  ·go_simp
   rfl
  refine hK.out _ _ ⟨((cell_far (p := ⟨gb294, _, none⟩) NB281_294.out _).trans ((cf3_ NB281_294 (hHeld.1)))), ((cell_far (p := ⟨gb294, _, none⟩) NB281_294.out _).trans ((cf3_ NB281_294 (hHeld.2.1)))), ((cell_far (p := ⟨gb294, _, none⟩) NB281_294.out _).trans ((cf3_ NB281_294 (hHeld.2.2.1)))), ((cell_far (p := ⟨gb294, _, none⟩) NB281_294.out _).trans ((cf3_ NB281_294 (hHeld.2.2.2.1)))), ((cell_far (p := ⟨gb294, _, none⟩) NB281_294.out _).trans ((cf3_ NB281_294 (hHeld.2.2.2.2.1)))), ((cell_far (p := ⟨gb294, _, none⟩) NB281_294.out _).trans ((cf3_ NB281_294 (hHeld.2.2.2.2.2.1)))), ((cell_far (p := ⟨gb294, _, none⟩) NB249_294.out _).trans ((cf3_ NB249_294 (hHeld.2.2.2.2.2.2.1)))), ((cell_far (p := ⟨gb294, _, none⟩) NB249_294.out _).trans ((cf3_ NB249_294 (hHeld.2.2.2.2.2.2.2.1)))), ((cell_far (p := ⟨gb294, _, none⟩) NB249_294.out _).trans ((cf3_ NB249_294 (hHeld.2.2.2.2.2.2.2.2.1)))), ((cell_far (p := ⟨gb294, _, none⟩) NB249_294.out _).trans ((cf3_ NB249_294 (hHeld.2.2.2.2.2.2.2.2.2.1)))), ((cell_far (p := ⟨gb294, _, none⟩) NB250_294.out _).trans ((cf3_ NB250_294 (hHeld.2.2.2.2.2.2.2.2.2.2.1)))), ((cell_far (p := ⟨gb294, _, none⟩) NB250_294.out _).trans ((cf3_ NB250_294 (hHeld.2.2.2.2.2.2.2.2.2.2.2.1)))), ((cell_far (p := ⟨gb294, _, none⟩) NB250_294.out _).trans ((cf3_ NB250_294 (hHeld.2.2.2.2.2.2.2.2.2.2.2.2))))⟩ (fun hHeld => ?_)
  clear hK K
  refine pure_ (i := 11) (N := some 12) (v := ?_) (a' := ?_) #[true, true, true, true, true, true, true, true, true, true, true, true] rfl rfl (any_of HT_.out (by kernel_rfl)) (fun _ _ _ h => h) (Or.inl ⟨by rfl, ?_⟩) ?_ ?_
  rotate_left
  ·intro w'
   go_simp
   with_reducible rfl
  rotate_left
  ·simp only [Act.put, List.setIfInBounds_toArray, List.set_cons_zero, List.set_cons_succ, i64_w, i32_w]
   rfl
  refine done_ (done_of HT_.out (by kernel_rfl)) ?_
  go_upto_region 8 with (fail)
  go_cut [47] (fun v47 wc => ∃ (kq : Nat) (x47_20 : Bool), v47 = .bool x47_20 ∧ Aside0 (laws_FnExactDoMove.j0 kq x47_20 l0_0 a0_1 a0_2 a0_3 a0_4 a0_5 t273 t276 t277 t278 t279 t280 = some r) ∧ Aside0 (kq ≤ k) ∧ Aside0 (Kd.R (Kd.int .i16) 23 wc w.heap.size (fun _ => True) (.slice Ao45 t273.length co45) t273) ∧ Aside0 (wc.heap[gb248]? = some (.cells #[(.slice A0_0 l0_0.length c0_0), .int .i16 a0_1, .int .i16 a0_2, .int .i16 a0_3, .int .i16 a0_4, .bool a0_5] 26 (0, 0))) ∧ Aside0 (wc.heap[gb249]? = some (.cells #[.int .i16 a1_0, .int .i16 a1_1, .int .i16 a1_2, .int .i16 a1_3] 24 (0, 0))) ∧ Aside0 (wc.heap[gb250]? = some (.cells #[.int .i8 a2_0, .int .i8 a2_1, .int .i8 a2_2] 58 (0, 0))) ∧ Aside0 (wc.heap[gb272]? = some (.cells #[.int .i16 t267, .int .i16 t268, .int .i16 t269, .int .i16 t270] 30 (0, 0))) ∧ Aside0 (wc.heap[gb281]? = some (.cells #[(.slice Ao45 t273.length co45), .int .i16 t276, .int .i16 t277, .int .i16 t278, .int .i16 t279, .bool t280] 32 (0, 0))) ∧ Aside0 (wc.heap[gb294]? = some (.cells #[.int .i16 t289, .int .i16 t290, .int .i16 t291, .int .i16 t292] 30 (0, 0))) ∧ Aside0 (Below w.heap.size w wc))
  case first =>
   have H := HC21.out
   clear HC21
   replace H := Option.bind_eq_some_iff.mp H
   obtain ⟨t295, A620, H⟩ := H
   replace H : (if t295 = true then (laws_FnExactDoMove.j0 k (t293 != t271) l0_0 a0_1 a0_2 a0_3 a0_4 a0_5 t273 t276 t277 t278 t279 t280) else (laws_FnExactDoMove.j0 k true l0_0 a0_1 a0_2 a0_3 a0_4 a0_5 t273 t276 t277 t278 t279 t280)) = some r := H
   have A62 := Aside0.mk A620
   clear A620
   by_cases c63 : t295 = true
   ·subst c63
    have H1 : (laws_FnExactDoMove.j0 k (t293 != t271) l0_0 a0_1 a0_2 a0_3 a0_4 a0_5 t273 t276 t277 t278 t279 t280) = some r := by rw [if_pos rfl] at H; exact H
    clear H
    have H := H1
    clear H1
    have H' := Aside0.mk H
    clear H
    have hnb64 := NB294_248.out
    have hnc64 := NB248_294.out
    have hnb65 := NB294_249.out
    have hnc65 := NB249_294.out
    have hnb66 := NB294_250.out
    have hnc66 := NB250_294.out
    have hnb67 := NB294_272.out
    have hnc67 := NB272_294.out
    have hnb68 := NB294_281.out
    have hnc68 := NB281_294.out
    have hcz69_0 : w57.cell? ⟨gb294, 0, none⟩ = some (.int .i16 0) := (blk_cell BK294.out 0).trans rfl
    have hcz69_1 : w57.cell? ⟨gb294, 1, none⟩ = some (.int .i16 0) := (blk_cell BK294.out 1).trans rfl
    have hcz69_2 : w57.cell? ⟨gb294, 2, none⟩ = some (.int .i16 0) := (blk_cell BK294.out 2).trans rfl
    have hcz69_3 : w57.cell? ⟨gb294, 3, none⟩ = some (.int .i16 0) := (blk_cell BK294.out 3).trans rfl
    have hfz69_0 := blk_frozen BK294.out 0
    have hfz69_1 := blk_frozen BK294.out 1
    have hfz69_2 := blk_frozen BK294.out 2
    have hfz69_3 := blk_frozen BK294.out 3
    have hnb70 := NB272_248.out
    have hnc70 := NB248_272.out
    have hnb71 := NB272_249.out
    have hnc71 := NB249_272.out
    have hnb72 := NB272_250.out
    have hnc72 := NB250_272.out
    have hnb73 := NB272_281.out
    have hnc73 := NB281_272.out
    have hcz74_0 : w57.cell? ⟨gb272, 0, none⟩ = some (.int .i16 t267) := (blk_cell BK272.out 0).trans rfl
    have hcz74_1 : w57.cell? ⟨gb272, 1, none⟩ = some (.int .i16 t268) := (blk_cell BK272.out 1).trans rfl
    have hcz74_2 : w57.cell? ⟨gb272, 2, none⟩ = some (.int .i16 t269) := (blk_cell BK272.out 2).trans rfl
    have hcz74_3 : w57.cell? ⟨gb272, 3, none⟩ = some (.int .i16 t270) := (blk_cell BK272.out 3).trans rfl
    have hfz74_0 := blk_frozen BK272.out 0
    have hfz74_1 := blk_frozen BK272.out 1
    have hfz74_2 := blk_frozen BK272.out 2
    have hfz74_3 := blk_frozen BK272.out 3
    go_wp2_with (first | ((with_reducible refine gate_callee (f := 34) rfl ?_); refine goesL_ (some 41) rfl rfl Try.func34 (by kernel_rfl) rfl #[.agg #[.int .i16 t289, .int .i16 t290, .int .i16 t291, .int .i16 t292], .agg #[.int .i16 t267, .int .i16 t268, .int .i16 t269, .int .i16 t270]] rfl arg_ ?_; (with_reducible refine (laws_eqWater.calls k t289 t290 t291 t292 t267 t268 t269 t270 true _ A62.out).mono ?_); rintro e w75 ⟨rfl, hb⟩; refine ⟨_, rfl, ?_⟩; have n0_ := A_ (Kd.R_below (by (with_reducible repeat (first | apply Kd.R_alloc | apply Kd.R_drewN | apply Kd.R_drew)); exact (rf4_ HO254 BK294 (by decide))) hb); have n1_ := A_ (Kd.R_below (by (with_reducible repeat (first | apply Kd.R_alloc | apply Kd.R_drewN | apply Kd.R_drew)); exact (rf4_ HO275 BK294 (by decide))) hb); have n2_ := A_ (blk_below (g := gb248) (o := .cells #[.slice A0_0 l0_0.length c0_0, .int .i16 a0_1, .int .i16 a0_2, .int .i16 a0_3, .int .i16 a0_4, .bool a0_5] 26 (0, 0)) (pf_ BK248 NB248_294) hb); have n3_ := A_ (blk_below (g := gb249) (o := .cells #[.int .i16 a1_0, .int .i16 a1_1, .int .i16 a1_2, .int .i16 a1_3] 24 (0, 0)) (pf_ BK249 NB249_294) hb); have n4_ := A_ (blk_below (g := gb250) (o := .cells #[.int .i8 a2_0, .int .i8 a2_1, .int .i8 a2_2] 58 (0, 0)) (pf_ BK250 NB250_294) hb); have n5_ := A_ (blk_below (g := gb272) (o := .cells #[.int .i16 t267, .int .i16 t268, .int .i16 t269, .int .i16 t270] 30 (0, 0)) (pf_ BK272 NB272_294) hb); have n6_ := A_ (blk_below (g := gb281) (o := .cells #[.slice Ao45 t273.length co45, .int .i16 t276, .int .i16 t277, .int .i16 t278, .int .i16 t279, .bool t280] 32 (0, 0)) (pf_ BK281 NB281_294) hb); have n7_ := A_ (blk_below (g := gb294) (o := .cells #[.int .i16 t289, .int .i16 t290, .int .i16 t291, .int .i16 t292] 30 (0, 0)) (by (with_reducible repeat (first | refine blk_drewN ?_ _ | refine blk_drew ?_ | refine blk_alloc ?_ _)); refine blk_put (cs := #[.int .i16 t289, .int .i16 t290, .int .i16 t291, .int .i16 0]) ?_ 3 _ rfl; (with_reducible repeat (first | refine blk_drewN ?_ _ | refine blk_drew ?_ | refine blk_alloc ?_ _)); refine blk_put (cs := #[.int .i16 t289, .int .i16 t290, .int .i16 0, .int .i16 0]) ?_ 2 _ rfl; (with_reducible repeat (first | refine blk_drewN ?_ _ | refine blk_drew ?_ | refine blk_alloc ?_ _)); refine blk_put (cs := #[.int .i16 t289, .int .i16 0, .int .i16 0, .int .i16 0]) ?_ 1 _ rfl; (with_reducible repeat (first | refine blk_drewN ?_ _ | refine blk_drew ?_ | refine blk_alloc ?_ _)); refine blk_put (cs := #[.int .i16 0, .int .i16 0, .int .i16 0, .int .i16 0]) ?_ 0 _ rfl; (with_reducible repeat (first | refine blk_drewN ?_ _ | refine blk_drew ?_ | refine blk_alloc ?_ _)); exact BK294.out) hb); have n8_ := A_ (below_step (bs_ HB GE294) hb); clear HO254; clear HO275; clear BK248; clear BK249; clear BK250; clear BK272; clear BK281; clear BK294; clear HB; have HO254 := n0_; have HO275 := n1_; have BK248 := n2_; have BK249 := n3_; have BK250 := n4_; have BK272 := n5_; have BK281 := n6_; have BK294 := n7_; have HB := n8_; clear n0_ n1_ n2_ n3_ n4_ n5_ n6_ n7_ n8_; (try clear hb); (try clear hb2); (try clear hk); (try clear hi)))
    go_meet
    case rel => exact ⟨_, ((t293 != t271)), rs_, H', ⟨by first | omega | exact Nat.le_refl _⟩, ⟨by (with_reducible repeat (first | apply Kd.R_alloc | apply Kd.R_drewN | apply Kd.R_drew)); exact Kd.R_mono HO275.out (fun _ hk => trivial)⟩, ⟨pl_ BK248⟩, ⟨pl_ BK249⟩, ⟨pl_ BK250⟩, ⟨pl_ BK272⟩, ⟨pl_ BK281⟩, ⟨pl_ BK294⟩, ⟨bl_ HB⟩⟩
   ·replace c63 := Bool.eq_false_iff.mpr c63
    subst c63
    have H1 : (laws_FnExactDoMove.j0 k true l0_0 a0_1 a0_2 a0_3 a0_4 a0_5 t273 t276 t277 t278 t279 t280) = some r := by rw [if_neg (show ¬ (false = true) by decide)] at H; exact H
    clear H
    have H := H1
    clear H1
    have H' := Aside0.mk H
    clear H
    have hnb76 := NB294_248.out
    have hnc76 := NB248_294.out
    have hnb77 := NB294_249.out
    have hnc77 := NB249_294.out
    have hnb78 := NB294_250.out
    have hnc78 := NB250_294.out
    have hnb79 := NB294_272.out
    have hnc79 := NB272_294.out
    have hnb80 := NB294_281.out
    have hnc80 := NB281_294.out
    have hcz81_0 : w57.cell? ⟨gb294, 0, none⟩ = some (.int .i16 0) := (blk_cell BK294.out 0).trans rfl
    have hcz81_1 : w57.cell? ⟨gb294, 1, none⟩ = some (.int .i16 0) := (blk_cell BK294.out 1).trans rfl
    have hcz81_2 : w57.cell? ⟨gb294, 2, none⟩ = some (.int .i16 0) := (blk_cell BK294.out 2).trans rfl
    have hcz81_3 : w57.cell? ⟨gb294, 3, none⟩ = some (.int .i16 0) := (blk_cell BK294.out 3).trans rfl
    have hfz81_0 := blk_frozen BK294.out 0
    have hfz81_1 := blk_frozen BK294.out 1
    have hfz81_2 := blk_frozen BK294.out 2
    have hfz81_3 := blk_frozen BK294.out 3
    have hnb82 := NB272_248.out
    have hnc82 := NB248_272.out
    have hnb83 := NB272_249.out
    have hnc83 := NB249_272.out
    have hnb84 := NB272_250.out
    have hnc84 := NB250_272.out
    have hnb85 := NB272_281.out
    have hnc85 := NB281_272.out
    have hcz86_0 : w57.cell? ⟨gb272, 0, none⟩ = some (.int .i16 t267) := (blk_cell BK272.out 0).trans rfl
    have hcz86_1 : w57.cell? ⟨gb272, 1, none⟩ = some (.int .i16 t268) := (blk_cell BK272.out 1).trans rfl
    have hcz86_2 : w57.cell? ⟨gb272, 2, none⟩ = some (.int .i16 t269) := (blk_cell BK272.out 2).trans rfl
    have hcz86_3 : w57.cell? ⟨gb272, 3, none⟩ = some (.int .i16 t270) := (blk_cell BK272.out 3).trans rfl
    have hfz86_0 := blk_frozen BK272.out 0
    have hfz86_1 := blk_frozen BK272.out 1
    have hfz86_2 := blk_frozen BK272.out 2
    have hfz86_3 := blk_frozen BK272.out 3
    go_wp2_with (first | ((with_reducible refine gate_callee (f := 34) rfl ?_); refine goesL_ (some 41) rfl rfl Try.func34 (by kernel_rfl) rfl #[.agg #[.int .i16 t289, .int .i16 t290, .int .i16 t291, .int .i16 t292], .agg #[.int .i16 t267, .int .i16 t268, .int .i16 t269, .int .i16 t270]] rfl arg_ ?_; (with_reducible refine (laws_eqWater.calls k t289 t290 t291 t292 t267 t268 t269 t270 false _ A62.out).mono ?_); rintro e w87 ⟨rfl, hb⟩; refine ⟨_, rfl, ?_⟩; have n0_ := A_ (Kd.R_below (by (with_reducible repeat (first | apply Kd.R_alloc | apply Kd.R_drewN | apply Kd.R_drew)); exact (rf4_ HO254 BK294 (by decide))) hb); have n1_ := A_ (Kd.R_below (by (with_reducible repeat (first | apply Kd.R_alloc | apply Kd.R_drewN | apply Kd.R_drew)); exact (rf4_ HO275 BK294 (by decide))) hb); have n2_ := A_ (blk_below (g := gb248) (o := .cells #[.slice A0_0 l0_0.length c0_0, .int .i16 a0_1, .int .i16 a0_2, .int .i16 a0_3, .int .i16 a0_4, .bool a0_5] 26 (0, 0)) (pf_ BK248 NB248_294) hb); have n3_ := A_ (blk_below (g := gb249) (o := .cells #[.int .i16 a1_0, .int .i16 a1_1, .int .i16 a1_2, .int .i16 a1_3] 24 (0, 0)) (pf_ BK249 NB249_294) hb); have n4_ := A_ (blk_below (g := gb250) (o := .cells #[.int .i8 a2_0, .int .i8 a2_1, .int .i8 a2_2] 58 (0, 0)) (pf_ BK250 NB250_294) hb); have n5_ := A_ (blk_below (g := gb272) (o := .cells #[.int .i16 t267, .int .i16 t268, .int .i16 t269, .int .i16 t270] 30 (0, 0)) (pf_ BK272 NB272_294) hb); have n6_ := A_ (blk_below (g := gb281) (o := .cells #[.slice Ao45 t273.length co45, .int .i16 t276, .int .i16 t277, .int .i16 t278, .int .i16 t279, .bool t280] 32 (0, 0)) (pf_ BK281 NB281_294) hb); have n7_ := A_ (blk_below (g := gb294) (o := .cells #[.int .i16 t289, .int .i16 t290, .int .i16 t291, .int .i16 t292] 30 (0, 0)) (by (with_reducible repeat (first | refine blk_drewN ?_ _ | refine blk_drew ?_ | refine blk_alloc ?_ _)); refine blk_put (cs := #[.int .i16 t289, .int .i16 t290, .int .i16 t291, .int .i16 0]) ?_ 3 _ rfl; (with_reducible repeat (first | refine blk_drewN ?_ _ | refine blk_drew ?_ | refine blk_alloc ?_ _)); refine blk_put (cs := #[.int .i16 t289, .int .i16 t290, .int .i16 0, .int .i16 0]) ?_ 2 _ rfl; (with_reducible repeat (first | refine blk_drewN ?_ _ | refine blk_drew ?_ | refine blk_alloc ?_ _)); refine blk_put (cs := #[.int .i16 t289, .int .i16 0, .int .i16 0, .int .i16 0]) ?_ 1 _ rfl; (with_reducible repeat (first | refine blk_drewN ?_ _ | refine blk_drew ?_ | refine blk_alloc ?_ _)); refine blk_put (cs := #[.int .i16 0, .int .i16 0, .int .i16 0, .int .i16 0]) ?_ 0 _ rfl; (with_reducible repeat (first | refine blk_drewN ?_ _ | refine blk_drew ?_ | refine blk_alloc ?_ _)); exact BK294.out) hb); have n8_ := A_ (below_step (bs_ HB GE294) hb); clear HO254; clear HO275; clear BK248; clear BK249; clear BK250; clear BK272; clear BK281; clear BK294; clear HB; have HO254 := n0_; have HO275 := n1_; have BK248 := n2_; have BK249 := n3_; have BK250 := n4_; have BK272 := n5_; have BK281 := n6_; have BK294 := n7_; have HB := n8_; clear n0_ n1_ n2_ n3_ n4_ n5_ n6_ n7_ n8_; (try clear hb); (try clear hb2); (try clear hk); (try clear hi)))
    go_meet
    case rel => exact ⟨_, (true), rs_, H', ⟨by first | omega | exact Nat.le_refl _⟩, ⟨by (with_reducible repeat (first | apply Kd.R_alloc | apply Kd.R_drewN | apply Kd.R_drew)); exact Kd.R_mono HO275.out (fun _ hk => trivial)⟩, ⟨pl_ BK248⟩, ⟨pl_ BK249⟩, ⟨pl_ BK250⟩, ⟨pl_ BK272⟩, ⟨pl_ BK281⟩, ⟨pl_ BK294⟩, ⟨bl_ HB⟩⟩
  case rest =>
   clear HC21
   try clear c2
   try clear p2
   try clear c3
   try clear c4
   try clear c6
   try clear c7
   try clear c8
   try clear c26
   try clear c34
   try clear c43
   try clear c44
   try clear c63
   try clear c64
   try clear c65
   try clear c66
   try clear c67
   try clear c68
   try clear c70
   try clear c71
   try clear c72
   try clear c73
   try clear c76
   try clear c77
   try clear c78
   try clear c79
   try clear c80
   try clear c82
   try clear c83
   try clear c84
   try clear c85
   try clear hcz69_0
   try clear hcz69_1
   try clear hcz69_2
   try clear hcz69_3
   try clear hcz74_0
   try clear hcz74_1
   try clear hcz74_2
   try clear hcz74_3
   try clear hcz81_0
   try clear hcz81_1
   try clear hcz81_2
   try clear hcz81_3
   try clear hcz86_0
   try clear hcz86_1
   try clear hcz86_2
   try clear hcz86_3
   try clear hfz69_0
   try clear hfz69_1
   try clear hfz69_2
   try clear hfz69_3
   try clear hfz74_0
   try clear hfz74_1
   try clear hfz74_2
   try clear hfz74_3
   try clear hfz81_0
   try clear hfz81_1
   try clear hfz81_2
   try clear hfz81_3
   try clear hfz86_0
   try clear hfz86_1
   try clear hfz86_2
   try clear hfz86_3
   obtain ⟨kq, x47_20, rfl, HA, HJ20, HO_282000, BK248, BK249, BK250, BK272, BK281, BK294, HB⟩ := hcut
   cases kq with
   | zero => exact absurd HA.out (by simp [laws_FnExactDoMove.j0])
   | succ kj20 =>
    have H := HA.out
    clear HA
    simp only [laws_FnExactDoMove.j0] at H
    by_cases c88 : x47_20 = true
    ·subst c88
     have H1 : (some false) = some r := by rw [if_pos rfl] at H; exact H
     clear H
     have H := H1
     clear H1
     obtain rfl := Option.some.inj H
     go_wp2
     go_ret
     exact ⟨by first | rfl | (simp [errW_none, errW_some] <;> rfl) | (simp [*, errW_none, errW_some] <;> rfl), bl_ HB⟩
    ·replace c88 := Bool.eq_false_iff.mpr c88
     subst c88
     have H1 : ((laws_toPuzzle.f kj20 l0_0 a0_1 a0_2 a0_3 a0_4 a0_5).bind fun bt296 => ((laws_eqPuzzle.f kj20 t273 t276 t277 t278 t279 t280 bt296.1 bt296.2.1 bt296.2.2.1 bt296.2.2.2.1 bt296.2.2.2.2.1 bt296.2.2.2.2.2).bind fun t304 => (if t304 = true then (some true) else (some false)))) = some r := by rw [if_neg (show ¬ (false = true) by decide)] at H; exact H
     clear H
     have H := H1
     clear H1
     replace H := Option.bind_eq_some_iff.mp H
     obtain ⟨⟨t296, t299, t300, t301, t302, t303⟩, A890, H⟩ := H
     replace H : ((laws_eqPuzzle.f kj20 t273 t276 t277 t278 t279 t280 t296 t299 t300 t301 t302 t303).bind fun t304 => (if t304 = true then (some true) else (some false))) = some r := H
     have A89 := Aside0.mk A890
     clear A890
     replace H := Option.bind_eq_some_iff.mp H
     obtain ⟨t304, A900, H⟩ := H
     replace H : (if t304 = true then (some true) else (some false)) = some r := H
     have A90 := Aside0.mk A900
     clear A900
     by_cases c91 : t304 = true
     ·subst c91
      have H1 : (some true) = some r := by rw [if_pos rfl] at H; exact H
      clear H
      have H := H1
      clear H1
      obtain rfl := Option.some.inj H
      try go_wp2
      have n0_ := A_ (Kd.R_drew HO_282000.out)
      have n1_ := A_ (blk_drew BK248.out)
      have n2_ := A_ (blk_drew BK249.out)
      have n3_ := A_ (blk_drew BK250.out)
      have n4_ := A_ (blk_drew BK272.out)
      have n5_ := A_ (blk_drew BK281.out)
      have n6_ := A_ (blk_drew BK294.out)
      have n7_ := A_ (below_drew1 HB.out)
      clear HO_282000
      clear BK248
      clear BK249
      clear BK250
      clear BK272
      clear BK281
      clear BK294
      clear HB
      have HO_282000 := n0_
      have BK248 := n1_
      have BK249 := n2_
      have BK250 := n3_
      have BK272 := n4_
      have BK281 := n5_
      have BK294 := n6_
      have HB := n7_
      clear n0_ n1_ n2_ n3_ n4_ n5_ n6_ n7_
      refine start_ (n := 5) (S := fun w' => w'.cell? ⟨gb281, 0, none⟩ = some (.slice Ao45 t273.length co45) ∧ w'.cell? ⟨gb281, 1, none⟩ = some (.int .i16 t276) ∧ w'.cell? ⟨gb281, 2, none⟩ = some (.int .i16 t277) ∧ w'.cell? ⟨gb281, 3, none⟩ = some (.int .i16 t278) ∧ w'.cell? ⟨gb281, 4, none⟩ = some (.int .i16 t279) ∧ w'.cell? ⟨gb281, 5, none⟩ = some (.bool t280) ∧ w'.cell? ⟨gb248, 0, none⟩ = some (.slice A0_0 l0_0.length c0_0) ∧ w'.cell? ⟨gb248, 1, none⟩ = some (.int .i16 a0_1) ∧ w'.cell? ⟨gb248, 2, none⟩ = some (.int .i16 a0_2) ∧ w'.cell? ⟨gb248, 3, none⟩ = some (.int .i16 a0_3) ∧ w'.cell? ⟨gb248, 4, none⟩ = some (.int .i16 a0_4) ∧ w'.cell? ⟨gb248, 5, none⟩ = some (.bool a0_5)) (ds := []) #[false, false, false, false, false] (by kernel_rfl) rfl rfl ⟨(blk_cell BK281.out 0).trans rfl, (blk_cell BK281.out 1).trans rfl, (blk_cell BK281.out 2).trans rfl, (blk_cell BK281.out 3).trans rfl, (blk_cell BK281.out 4).trans rfl, (blk_cell BK281.out 5).trans rfl, (blk_cell BK248.out 0).trans rfl, (blk_cell BK248.out 1).trans rfl, (blk_cell BK248.out 2).trans rfl, (blk_cell BK248.out 3).trans rfl, (blk_cell BK248.out 4).trans rfl, (blk_cell BK248.out 5).trans rfl⟩ (fun hHeld => ?_)
      generalize wc.drew = w92 at HO_282000 BK248 BK249 BK250 BK272 BK281 BK294 HB hHeld ⊢
      refine take_ (i := 0) (N := some 48) (v := ?_) (a' := ?_) #[true, false, false, false, false] rfl rfl (by kernel_rfl) (fun _ _ _ h => h) (Or.inl ⟨by rfl, ?_⟩) hHeld ?_ ?_
      rotate_left
      ·rintro w' ⟨s0, s1, s2, s3, s4, s5, s6, s7, s8, s9, s10, s11⟩
       go_simp
       with_reducible rfl
      rotate_left
      ·simp only [Act.put, List.setIfInBounds_toArray, List.set_cons_zero, List.set_cons_succ, i64_w, i32_w]
       rfl
      refine take_ (i := 1) (N := some 49) (v := ?_) (a' := ?_) #[true, true, false, false, false] rfl rfl (by kernel_rfl) (fun _ _ _ h => h) (Or.inl ⟨by rfl, ?_⟩) hHeld ?_ ?_
      rotate_left
      ·rintro w' ⟨s0, s1, s2, s3, s4, s5, s6, s7, s8, s9, s10, s11⟩
       go_simp
       with_reducible rfl
      rotate_left
      ·simp only [Act.put, List.setIfInBounds_toArray, List.set_cons_zero, List.set_cons_succ, i64_w, i32_w]
       rfl
      refine one_ (i := 2) (N := some 50) #[true, true, true, false, false] rfl rfl (by kernel_rfl) (by decide) (fun K hK => ?_)
      refine goes_ Try.func18 (by kernel_rfl) rfl #[.agg #[.slice A0_0 l0_0.length c0_0, .int .i16 a0_1, .int .i16 a0_2, .int .i16 a0_3, .int .i16 a0_4, .bool a0_5]] (by rfl) rfl rfl arg_ ?_
      with_reducible refine (laws_toPuzzle.calls kj20 _ _ l0_0 a0_1 a0_2 a0_3 a0_4 a0_5 t296 t299 t300 t301 t302 t303 _ ?side1 ?side2 A89.out).mono ?_
      (case side1 => repeat (first | exact (Kd.C_below HR0_0.out HB.out) | (with_reducible refine Kd.C_alloc ?_ _) | (with_reducible refine Kd.C_drewN ?_ _) | (with_reducible refine Kd.C_drew ?_)))
      (case side2 => exact HC0_0.out)
      rintro e w93 ⟨v297, rfl, ho0, hb⟩
      refine ⟨_, rfl, ?_⟩
      have n0_ := A_ (Kd.R_elder' (pr_ HO_282000) (Kd.R_base ho0) hb)
      have n1_ := A_ (Kd.R_lower (Kd.R_new' ho0 (Kd.R_lt (pr_ HO_282000))) (below_size (bl_ HB)))
      have n2_ := A_ (blk_below (pl_ BK248) hb)
      have n3_ := A_ (blk_below (pl_ BK249) hb)
      have n4_ := A_ (blk_below (pl_ BK250) hb)
      have n5_ := A_ (blk_below (pl_ BK272) hb)
      have n6_ := A_ (blk_below (pl_ BK281) hb)
      have n7_ := A_ (blk_below (pl_ BK294) hb)
      have n8_ := A_ (below_step (bl_ HB) hb)
      clear HO_282000
      clear BK248
      clear BK249
      clear BK250
      clear BK272
      clear BK281
      clear BK294
      clear HB
      have HO_282000 := n0_
      have HO298 := n1_
      have BK248 := n2_
      have BK249 := n3_
      have BK250 := n4_
      have BK272 := n5_
      have BK281 := n6_
      have BK294 := n7_
      have HB := n8_
      clear n0_ n1_ n2_ n3_ n4_ n5_ n6_ n7_ n8_
      (try clear hb)
      (try clear hb2)
      (try clear hk)
      (try clear hi)
      (try clear ho0)
      obtain ⟨Ao94, co94, eo94⟩ := Kd.R_slice HO298.out
      (first | subst eo94 | (injection eo94 with f1_ f2_ f3_; have f4_ := f1_.symm; have f5_ := f3_.symm; clear f1_ f2_ f3_; subst f4_; subst f5_))
      refine hK.out _ _ ⟨(blk_cell BK281.out 0).trans rfl, (blk_cell BK281.out 1).trans rfl, (blk_cell BK281.out 2).trans rfl, (blk_cell BK281.out 3).trans rfl, (blk_cell BK281.out 4).trans rfl, (blk_cell BK281.out 5).trans rfl, (blk_cell BK248.out 0).trans rfl, (blk_cell BK248.out 1).trans rfl, (blk_cell BK248.out 2).trans rfl, (blk_cell BK248.out 3).trans rfl, (blk_cell BK248.out 4).trans rfl, (blk_cell BK248.out 5).trans rfl⟩ (fun hHeld => ?_)
      clear hK K
      refine norm_ (a' := ?_) ?_ ?_
      rotate_left
      ·show Act.put _ (some 50) _ = _
       simp only [Act.put, List.setIfInBounds_toArray, List.set_cons_zero, List.set_cons_succ, i64_w, i32_w]
       rfl
      refine one_ (i := 3) (N := some 51) #[true, true, true, true, false] rfl rfl (by kernel_rfl) (by decide) (fun K hK => ?_)
      refine goes_ Try.func21 (by kernel_rfl) rfl #[.agg #[.slice Ao45 t273.length co45, .int .i16 t276, .int .i16 t277, .int .i16 t278, .int .i16 t279, .bool t280], .agg #[.slice Ao94 t296.length co94, .int .i16 t299, .int .i16 t300, .int .i16 t301, .int .i16 t302, .bool t303]] (by rfl) rfl rfl arg_ ?_
      with_reducible refine (laws_eqPuzzle.calls kj20 _ _ t273 t276 t277 t278 t279 t280 _ _ t296 t299 t300 t301 t302 t303 true _ ?side1 ?side2 ?side3 ?side4 A90.out).mono ?_
      (case side1 => repeat (first | exact (Kd.R_reads' HO_282000.out).2.2 | (with_reducible refine Kd.C_alloc ?_ _) | (with_reducible refine Kd.C_drewN ?_ _) | (with_reducible refine Kd.C_drew ?_)))
      (case side2 => exact (Kd.R_reads' HO_282000.out).2.1)
      (case side3 => repeat (first | exact (Kd.R_reads' HO298.out).2.2 | (with_reducible refine Kd.C_alloc ?_ _) | (with_reducible refine Kd.C_drewN ?_ _) | (with_reducible refine Kd.C_drew ?_)))
      (case side4 => exact (Kd.R_reads' HO298.out).2.1)
      rintro e w95 ⟨rfl, hb⟩
      refine ⟨_, rfl, ?_⟩
      have n0_ := A_ (Kd.R_below (pr_ HO_282000) hb)
      have n1_ := A_ (Kd.R_below (pr_ HO298) hb)
      have n2_ := A_ (blk_below (pl_ BK248) hb)
      have n3_ := A_ (blk_below (pl_ BK249) hb)
      have n4_ := A_ (blk_below (pl_ BK250) hb)
      have n5_ := A_ (blk_below (pl_ BK272) hb)
      have n6_ := A_ (blk_below (pl_ BK281) hb)
      have n7_ := A_ (blk_below (pl_ BK294) hb)
      have n8_ := A_ (below_step (bl_ HB) hb)
      clear HO_282000
      clear HO298
      clear BK248
      clear BK249
      clear BK250
      clear BK272
      clear BK281
      clear BK294
      clear HB
      have HO_282000 := n0_
      have HO298 := n1_
      have BK248 := n2_
      have BK249 := n3_
      have BK250 := n4_
      have BK272 := n5_
      have BK281 := n6_
      have BK294 := n7_
      have HB := n8_
      clear n0_ n1_ n2_ n3_ n4_ n5_ n6_ n7_ n8_
      (try clear hb)
      (try clear hb2)
      (try clear hk)
      (try clear hi)
      refine hK.out _ _ ⟨(blk_cell BK281.out 0).trans rfl, (blk_cell BK281.out 1).trans rfl, (blk_cell BK281.out 2).trans rfl, (blk_cell BK281.out 3).trans rfl, (blk_cell BK281.out 4).trans rfl, (blk_cell BK281.out 5).trans rfl, (blk_cell BK248.out 0).trans rfl, (blk_cell BK248.out 1).trans rfl, (blk_cell BK248.out 2).trans rfl, (blk_cell BK248.out 3).trans rfl, (blk_cell BK248.out 4).trans rfl, (blk_cell BK248.out 5).trans rfl⟩ (fun hHeld => ?_)
      clear hK K
      refine norm_ (a' := ?_) ?_ ?_
      rotate_left
      ·show Act.put _ (some 51) _ = _
       simp only [Act.put, List.setIfInBounds_toArray, List.set_cons_zero, List.set_cons_succ, i64_w, i32_w]
       rfl
      refine pure_ (i := 4) (N := some 52) (v := ?_) (a' := ?_) #[true, true, true, true, true] rfl rfl (by kernel_rfl) (fun _ _ _ h => h) (Or.inl ⟨by rfl, ?_⟩) ?_ ?_
      rotate_left
      ·intro w'
       go_simp
       with_reducible rfl
      rotate_left
      ·simp only [Act.put, List.setIfInBounds_toArray, List.set_cons_zero, List.set_cons_succ, i64_w, i32_w]
       rfl
      refine done_ (by kernel_rfl) ?_
      try go_wp2
      go_ret
      exact ⟨by first | rfl | (simp [errW_none, errW_some] <;> rfl) | (simp [*, errW_none, errW_some] <;> rfl), bl_ HB⟩
     ·replace c91 := Bool.eq_false_iff.mpr c91
      subst c91
      have H1 : (some false) = some r := by rw [if_neg (show ¬ (false = true) by decide)] at H; exact H
      clear H
      have H := H1
      clear H1
      obtain rfl := Option.some.inj H
      try go_wp2
      have n0_ := A_ (Kd.R_drew HO_282000.out)
      have n1_ := A_ (blk_drew BK248.out)
      have n2_ := A_ (blk_drew BK249.out)
      have n3_ := A_ (blk_drew BK250.out)
      have n4_ := A_ (blk_drew BK272.out)
      have n5_ := A_ (blk_drew BK281.out)
      have n6_ := A_ (blk_drew BK294.out)
      have n7_ := A_ (below_drew1 HB.out)
      clear HO_282000
      clear BK248
      clear BK249
      clear BK250
      clear BK272
      clear BK281
      clear BK294
      clear HB
      have HO_282000 := n0_
      have BK248 := n1_
      have BK249 := n2_
      have BK250 := n3_
      have BK272 := n4_
      have BK281 := n5_
      have BK294 := n6_
      have HB := n7_
      clear n0_ n1_ n2_ n3_ n4_ n5_ n6_ n7_
      refine start_ (n := 5) (S := fun w' => w'.cell? ⟨gb281, 0, none⟩ = some (.slice Ao45 t273.length co45) ∧ w'.cell? ⟨gb281, 1, none⟩ = some (.int .i16 t276) ∧ w'.cell? ⟨gb281, 2, none⟩ = some (.int .i16 t277) ∧ w'.cell? ⟨gb281, 3, none⟩ = some (.int .i16 t278) ∧ w'.cell? ⟨gb281, 4, none⟩ = some (.int .i16 t279) ∧ w'.cell? ⟨gb281, 5, none⟩ = some (.bool t280) ∧ w'.cell? ⟨gb248, 0, none⟩ = some (.slice A0_0 l0_0.length c0_0) ∧ w'.cell? ⟨gb248, 1, none⟩ = some (.int .i16 a0_1) ∧ w'.cell? ⟨gb248, 2, none⟩ = some (.int .i16 a0_2) ∧ w'.cell? ⟨gb248, 3, none⟩ = some (.int .i16 a0_3) ∧ w'.cell? ⟨gb248, 4, none⟩ = some (.int .i16 a0_4) ∧ w'.cell? ⟨gb248, 5, none⟩ = some (.bool a0_5)) (ds := []) #[false, false, false, false, false] (by kernel_rfl) rfl rfl ⟨(blk_cell BK281.out 0).trans rfl, (blk_cell BK281.out 1).trans rfl, (blk_cell BK281.out 2).trans rfl, (blk_cell BK281.out 3).trans rfl, (blk_cell BK281.out 4).trans rfl, (blk_cell BK281.out 5).trans rfl, (blk_cell BK248.out 0).trans rfl, (blk_cell BK248.out 1).trans rfl, (blk_cell BK248.out 2).trans rfl, (blk_cell BK248.out 3).trans rfl, (blk_cell BK248.out 4).trans rfl, (blk_cell BK248.out 5).trans rfl⟩ (fun hHeld => ?_)
      generalize wc.drew = w96 at HO_282000 BK248 BK249 BK250 BK272 BK281 BK294 HB hHeld ⊢
      refine take_ (i := 0) (N := some 48) (v := ?_) (a' := ?_) #[true, false, false, false, false] rfl rfl (by kernel_rfl) (fun _ _ _ h => h) (Or.inl ⟨by rfl, ?_⟩) hHeld ?_ ?_
      rotate_left
      ·rintro w' ⟨s0, s1, s2, s3, s4, s5, s6, s7, s8, s9, s10, s11⟩
       go_simp
       with_reducible rfl
      rotate_left
      ·simp only [Act.put, List.setIfInBounds_toArray, List.set_cons_zero, List.set_cons_succ, i64_w, i32_w]
       rfl
      refine take_ (i := 1) (N := some 49) (v := ?_) (a' := ?_) #[true, true, false, false, false] rfl rfl (by kernel_rfl) (fun _ _ _ h => h) (Or.inl ⟨by rfl, ?_⟩) hHeld ?_ ?_
      rotate_left
      ·rintro w' ⟨s0, s1, s2, s3, s4, s5, s6, s7, s8, s9, s10, s11⟩
       go_simp
       with_reducible rfl
      rotate_left
      ·simp only [Act.put, List.setIfInBounds_toArray, List.set_cons_zero, List.set_cons_succ, i64_w, i32_w]
       rfl
      refine one_ (i := 2) (N := some 50) #[true, true, true, false, false] rfl rfl (by kernel_rfl) (by decide) (fun K hK => ?_)
      refine goes_ Try.func18 (by kernel_rfl) rfl #[.agg #[.slice A0_0 l0_0.length c0_0, .int .i16 a0_1, .int .i16 a0_2, .int .i16 a0_3, .int .i16 a0_4, .bool a0_5]] (by rfl) rfl rfl arg_ ?_
      with_reducible refine (laws_toPuzzle.calls kj20 _ _ l0_0 a0_1 a0_2 a0_3 a0_4 a0_5 t296 t299 t300 t301 t302 t303 _ ?side1 ?side2 A89.out).mono ?_
      (case side1 => repeat (first | exact (Kd.C_below HR0_0.out HB.out) | (with_reducible refine Kd.C_alloc ?_ _) | (with_reducible refine Kd.C_drewN ?_ _) | (with_reducible refine Kd.C_drew ?_)))
      (case side2 => exact HC0_0.out)
      rintro e w97 ⟨v297, rfl, ho0, hb⟩
      refine ⟨_, rfl, ?_⟩
      have n0_ := A_ (Kd.R_elder' (pr_ HO_282000) (Kd.R_base ho0) hb)
      have n1_ := A_ (Kd.R_lower (Kd.R_new' ho0 (Kd.R_lt (pr_ HO_282000))) (below_size (bl_ HB)))
      have n2_ := A_ (blk_below (pl_ BK248) hb)
      have n3_ := A_ (blk_below (pl_ BK249) hb)
      have n4_ := A_ (blk_below (pl_ BK250) hb)
      have n5_ := A_ (blk_below (pl_ BK272) hb)
      have n6_ := A_ (blk_below (pl_ BK281) hb)
      have n7_ := A_ (blk_below (pl_ BK294) hb)
      have n8_ := A_ (below_step (bl_ HB) hb)
      clear HO_282000
      clear BK248
      clear BK249
      clear BK250
      clear BK272
      clear BK281
      clear BK294
      clear HB
      have HO_282000 := n0_
      have HO298 := n1_
      have BK248 := n2_
      have BK249 := n3_
      have BK250 := n4_
      have BK272 := n5_
      have BK281 := n6_
      have BK294 := n7_
      have HB := n8_
      clear n0_ n1_ n2_ n3_ n4_ n5_ n6_ n7_ n8_
      (try clear hb)
      (try clear hb2)
      (try clear hk)
      (try clear hi)
      (try clear ho0)
      obtain ⟨Ao98, co98, eo98⟩ := Kd.R_slice HO298.out
      (first | subst eo98 | (injection eo98 with f1_ f2_ f3_; have f4_ := f1_.symm; have f5_ := f3_.symm; clear f1_ f2_ f3_; subst f4_; subst f5_))
      refine hK.out _ _ ⟨(blk_cell BK281.out 0).trans rfl, (blk_cell BK281.out 1).trans rfl, (blk_cell BK281.out 2).trans rfl, (blk_cell BK281.out 3).trans rfl, (blk_cell BK281.out 4).trans rfl, (blk_cell BK281.out 5).trans rfl, (blk_cell BK248.out 0).trans rfl, (blk_cell BK248.out 1).trans rfl, (blk_cell BK248.out 2).trans rfl, (blk_cell BK248.out 3).trans rfl, (blk_cell BK248.out 4).trans rfl, (blk_cell BK248.out 5).trans rfl⟩ (fun hHeld => ?_)
      clear hK K
      refine norm_ (a' := ?_) ?_ ?_
      rotate_left
      ·show Act.put _ (some 50) _ = _
       simp only [Act.put, List.setIfInBounds_toArray, List.set_cons_zero, List.set_cons_succ, i64_w, i32_w]
       rfl
      refine one_ (i := 3) (N := some 51) #[true, true, true, true, false] rfl rfl (by kernel_rfl) (by decide) (fun K hK => ?_)
      refine goes_ Try.func21 (by kernel_rfl) rfl #[.agg #[.slice Ao45 t273.length co45, .int .i16 t276, .int .i16 t277, .int .i16 t278, .int .i16 t279, .bool t280], .agg #[.slice Ao98 t296.length co98, .int .i16 t299, .int .i16 t300, .int .i16 t301, .int .i16 t302, .bool t303]] (by rfl) rfl rfl arg_ ?_
      with_reducible refine (laws_eqPuzzle.calls kj20 _ _ t273 t276 t277 t278 t279 t280 _ _ t296 t299 t300 t301 t302 t303 false _ ?side1 ?side2 ?side3 ?side4 A90.out).mono ?_
      (case side1 => repeat (first | exact (Kd.R_reads' HO_282000.out).2.2 | (with_reducible refine Kd.C_alloc ?_ _) | (with_reducible refine Kd.C_drewN ?_ _) | (with_reducible refine Kd.C_drew ?_)))
      (case side2 => exact (Kd.R_reads' HO_282000.out).2.1)
      (case side3 => repeat (first | exact (Kd.R_reads' HO298.out).2.2 | (with_reducible refine Kd.C_alloc ?_ _) | (with_reducible refine Kd.C_drewN ?_ _) | (with_reducible refine Kd.C_drew ?_)))
      (case side4 => exact (Kd.R_reads' HO298.out).2.1)
      rintro e w99 ⟨rfl, hb⟩
      refine ⟨_, rfl, ?_⟩
      have n0_ := A_ (Kd.R_below (pr_ HO_282000) hb)
      have n1_ := A_ (Kd.R_below (pr_ HO298) hb)
      have n2_ := A_ (blk_below (pl_ BK248) hb)
      have n3_ := A_ (blk_below (pl_ BK249) hb)
      have n4_ := A_ (blk_below (pl_ BK250) hb)
      have n5_ := A_ (blk_below (pl_ BK272) hb)
      have n6_ := A_ (blk_below (pl_ BK281) hb)
      have n7_ := A_ (blk_below (pl_ BK294) hb)
      have n8_ := A_ (below_step (bl_ HB) hb)
      clear HO_282000
      clear HO298
      clear BK248
      clear BK249
      clear BK250
      clear BK272
      clear BK281
      clear BK294
      clear HB
      have HO_282000 := n0_
      have HO298 := n1_
      have BK248 := n2_
      have BK249 := n3_
      have BK250 := n4_
      have BK272 := n5_
      have BK281 := n6_
      have BK294 := n7_
      have HB := n8_
      clear n0_ n1_ n2_ n3_ n4_ n5_ n6_ n7_ n8_
      (try clear hb)
      (try clear hb2)
      (try clear hk)
      (try clear hi)
      refine hK.out _ _ ⟨(blk_cell BK281.out 0).trans rfl, (blk_cell BK281.out 1).trans rfl, (blk_cell BK281.out 2).trans rfl, (blk_cell BK281.out 3).trans rfl, (blk_cell BK281.out 4).trans rfl, (blk_cell BK281.out 5).trans rfl, (blk_cell BK248.out 0).trans rfl, (blk_cell BK248.out 1).trans rfl, (blk_cell BK248.out 2).trans rfl, (blk_cell BK248.out 3).trans rfl, (blk_cell BK248.out 4).trans rfl, (blk_cell BK248.out 5).trans rfl⟩ (fun hHeld => ?_)
      clear hK K
      refine norm_ (a' := ?_) ?_ ?_
      rotate_left
      ·show Act.put _ (some 51) _ = _
       simp only [Act.put, List.setIfInBounds_toArray, List.set_cons_zero, List.set_cons_succ, i64_w, i32_w]
       rfl
      refine pure_ (i := 4) (N := some 52) (v := ?_) (a' := ?_) #[true, true, true, true, true] rfl rfl (by kernel_rfl) (fun _ _ _ h => h) (Or.inl ⟨by rfl, ?_⟩) ?_ ?_
      rotate_left
      ·intro w'
       go_simp
       with_reducible rfl
      rotate_left
      ·simp only [Act.put, List.setIfInBounds_toArray, List.set_cons_zero, List.set_cons_succ, i64_w, i32_w]
       rfl
      refine done_ (by kernel_rfl) ?_
      try go_wp2
      go_ret
      exact ⟨by first | rfl | (simp [errW_none, errW_some] <;> rfl) | (simp [*, errW_none, errW_some] <;> rfl), bl_ HB⟩

end Go.Proofs.Ytodmfjophjhbeaa.M
