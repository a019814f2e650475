-- By this seat's own program over the kit's printer (arrays, functions told by hand); nothing of it is trusted: the kernel checks it.
import Derived.Test.YtodmfjophjhbeaaMx0
import Derived.Test.YtodmfjophjhbeaaMx2
import Derived.Test.YtodmfjophjhbeaaMx3
import Derived.Test.YtodmfjophjhbeaaMx5
import Derived.Test.YtodmfjophjhbeaaMx7
import Derived.Test.YtodmfjophjhbeaaMx18
import Derived.Test.YtodmfjophjhbeaaMx19
import Derived.Test.YtodmfjophjhbeaaMx21
namespace Go.Proofs.Ytodmfjophjhbeaa.M
open Go.RowKit Go.Proofs.YtodmfjophjhbeaaW.PrintWords Go.Proofs.YtodmfjophjhbeaaW.PrintLast Go.Proofs.YtodmfjophjhbeaaW.PrintMore
attribute [local go_sem] max2_int min2_int max_two min_two max_three min_three max_four min_four   -- for this text's walks alone
set_option linter.unusedVariables false
set_option linter.unusedSimpArgs false

/-! ### laws_FnExactDoMoves: function 12 -/
def laws_FnExactDoMoves.j0 : Nat → List (S58) → List (S60) → Bool → List Int → Int → Int → Int → Int → Bool → List Int → Int → Int → Int → Int → Bool → Option (Bool)
 | 0, _, _, _, _, _, _, _, _, _, _, _, _, _, _, _ => none
 | k + 1, x2, x11, x54, x232000, x232001, x232002, x232003, x232004, x232005, x265000, x265001, x265002, x265003, x265004, x265005 => if x54 = true then (some false) else ((laws_toPuzzle.f k x232000 x232001 x232002 x232003 x232004 x232005).bind fun bt279 => ((laws_eqPuzzle.f k x265000 x265001 x265002 x265003 x265004 x265005 bt279.1 bt279.2.1 bt279.2.2.1 bt279.2.2.2.1 bt279.2.2.2.2.1 bt279.2.2.2.2.2).bind fun t287 => (if t287 = true then ((laws_toMoveS.f k x2).bind fun t288 => ((laws_eqMoveS.f k x11 t288).bind fun t291 => (if t291 = true then (some true) else (some false)))) else (some false))))
def laws_FnExactDoMoves.f (k : Nat) (l0_0 : List Int) (a0_1 : Int) (a0_2 : Int) (a0_3 : Int) (a0_4 : Int) (a0_5 : Bool) (a1_0 : Int) (a1_1 : Int) (a1_2 : Int) (a1_3 : Int) (l2 : List (S58)) : Option (Bool) := (laws_szPuzzle.f l0_0 a0_1 a0_2 a0_3 a0_4 a0_5 1048576).bind fun t233 => (if t233 < 0 then (some true) else ((laws_szMoveS.f l2 t233).bind fun t234 => (if t234 < 0 then (some true) else ((laws_toPuzzle.f k l0_0 a0_1 a0_2 a0_3 a0_4 a0_5).bind fun bt235 => ((laws_toWater.f k a1_0 a1_1 a1_2 a1_3).bind fun bt243 => ((laws_toMoveS.f k l2).bind fun t247 => ((spec_DoMoves.f k bt235.1 bt235.2.1 bt235.2.2.1 bt235.2.2.2.1 bt235.2.2.2.2.1 bt235.2.2.2.2.2 bt243.1 bt243.2.1 bt243.2.2.1 bt243.2.2.2 t247).bind fun bt250 => ((laws_toPuzzle.f k l0_0 a0_1 a0_2 a0_3 a0_4 a0_5).bind fun bt256 => ((laws_toMoveS.f k l2).bind fun t265 => ((laws_toWater.f k a1_0 a1_1 a1_2 a1_3).bind fun bt268 => ((impl_DoMoves.f k bt256.1 bt256.2.1 bt256.2.2.1 bt256.2.2.2.1 bt256.2.2.2.2.1 bt256.2.2.2.2.2 bt268.1 bt268.2.1 bt268.2.2.1 bt268.2.2.2 t265).bind fun bt272 => ((laws_eqWater.f k bt272.1 bt272.2.1 bt272.2.2.1 bt272.2.2.2.1 bt250.1 bt250.2.1 bt250.2.2.1 bt250.2.2.2.1).bind fun t278 => (if t278 = true then (laws_FnExactDoMoves.j0 k l2 t265 (bt272.2.2.2.2 != bt250.2.2.2.2) l0_0 a0_1 a0_2 a0_3 a0_4 a0_5 bt256.1 bt256.2.1 bt256.2.2.1 bt256.2.2.2.1 bt256.2.2.2.2.1 bt256.2.2.2.2.2) else (laws_FnExactDoMoves.j0 k l2 t265 true l0_0 a0_1 a0_2 a0_3 a0_4 a0_5 bt256.1 bt256.2.1 bt256.2.2.1 bt256.2.2.2.1 bt256.2.2.2.2.1 bt256.2.2.2.2.2))))))))))))))
theorem laws_FnExactDoMoves.mono_l : ∀ k, (∀ y0 y1 y2 y3 y4 y5 y6 y7 y8 y9 y10 y11 y12 y13 y14, LeO (laws_FnExactDoMoves.j0 k y0 y1 y2 y3 y4 y5 y6 y7 y8 y9 y10 y11 y12 y13 y14) (laws_FnExactDoMoves.j0 (k + 1) y0 y1 y2 y3 y4 y5 y6 y7 y8 y9 y10 y11 y12 y13 y14))
 | 0 => fun _ _ _ _ _ _ _ _ _ _ _ _ _ _ _ r h => by simp [laws_FnExactDoMoves.j0] at h
 | k + 1 => by
  have ih0 := laws_FnExactDoMoves.mono_l k
  ·intro y0 y1 y2 y3 y4 y5 y6 y7 y8 y9 y10 y11 y12 y13 y14
   unfold laws_FnExactDoMoves.j0
   repeat' first
   | (with_reducible exact ih0 _ _ _ _ _ _ _ _ _ _ _ _ _ _ _)
   | (with_reducible exact impl_DoMoves.mono _ _ _ _ _ _ _ _ _ _ _ _)
   | (with_reducible exact laws_eqMoveS.mono _ _ _)
   | (with_reducible exact laws_eqPuzzle.mono _ _ _ _ _ _ _ _ _ _ _ _ _)
   | (with_reducible exact laws_eqWater.mono _ _ _ _ _ _ _ _ _)
   | (with_reducible exact laws_toMoveS.mono _ _)
   | (with_reducible exact laws_toPuzzle.mono _ _ _ _ _ _ _)
   | (with_reducible exact laws_toWater.mono _ _ _ _ _)
   | (with_reducible exact spec_DoMoves.mono _ _ _ _ _ _ _ _ _ _ _ _)
   | (with_reducible exact LeO.refl _)
   | (with_reducible exact LeO.none _)
   | (with_reducible refine LeO.ite ?_ ?_)
   | (with_reducible refine LeO.bind ?_ (fun _ => ?_))
   | exact ih0 _ _ _ _ _ _ _ _ _ _ _ _ _ _ _
   | exact impl_DoMoves.mono _ _ _ _ _ _ _ _ _ _ _ _
   | exact laws_eqMoveS.mono _ _ _
   | exact laws_eqPuzzle.mono _ _ _ _ _ _ _ _ _ _ _ _ _
   | exact laws_eqWater.mono _ _ _ _ _ _ _ _ _
   | exact laws_toMoveS.mono _ _
   | exact laws_toPuzzle.mono _ _ _ _ _ _ _
   | exact laws_toWater.mono _ _ _ _ _
   | exact spec_DoMoves.mono _ _ _ _ _ _ _ _ _ _ _ _
   | exact LeO.none _
   | refine LeO.ite ?_ ?_
   | refine LeO.bind ?_ (fun _ => ?_)
theorem laws_FnExactDoMoves.mono : ∀ a0 a1 a2 a3 a4 a5 a6 a7 a8 a9 a10 k, LeO (laws_FnExactDoMoves.f k a0 a1 a2 a3 a4 a5 a6 a7 a8 a9 a10) (laws_FnExactDoMoves.f (k + 1) a0 a1 a2 a3 a4 a5 a6 a7 a8 a9 a10) := by
 intro a0 a1 a2 a3 a4 a5 a6 a7 a8 a9 a10 k
 have ih0 := laws_FnExactDoMoves.mono_l k
 unfold laws_FnExactDoMoves.f
 repeat' first
   | (with_reducible exact ih0 _ _ _ _ _ _ _ _ _ _ _ _ _ _ _)
   | (with_reducible exact impl_DoMoves.mono _ _ _ _ _ _ _ _ _ _ _ _)
   | (with_reducible exact laws_eqMoveS.mono _ _ _)
   | (with_reducible exact laws_eqPuzzle.mono _ _ _ _ _ _ _ _ _ _ _ _ _)
   | (with_reducible exact laws_eqWater.mono _ _ _ _ _ _ _ _ _)
   | (with_reducible exact laws_toMoveS.mono _ _)
   | (with_reducible exact laws_toPuzzle.mono _ _ _ _ _ _ _)
   | (with_reducible exact laws_toWater.mono _ _ _ _ _)
   | (with_reducible exact spec_DoMoves.mono _ _ _ _ _ _ _ _ _ _ _ _)
   | (with_reducible exact LeO.refl _)
   | (with_reducible exact LeO.none _)
   | (with_reducible refine LeO.ite ?_ ?_)
   | (with_reducible refine LeO.bind ?_ (fun _ => ?_))
   | exact ih0 _ _ _ _ _ _ _ _ _ _ _ _ _ _ _
   | exact impl_DoMoves.mono _ _ _ _ _ _ _ _ _ _ _ _
   | exact laws_eqMoveS.mono _ _ _
   | exact laws_eqPuzzle.mono _ _ _ _ _ _ _ _ _ _ _ _ _
   | exact laws_eqWater.mono _ _ _ _ _ _ _ _ _
   | exact laws_toMoveS.mono _ _
   | exact laws_toPuzzle.mono _ _ _ _ _ _ _
   | exact laws_toWater.mono _ _ _ _ _
   | exact spec_DoMoves.mono _ _ _ _ _ _ _ _ _ _ _ _
   | exact LeO.none _
   | refine LeO.ite ?_ ?_
   | refine LeO.bind ?_ (fun _ => ?_)
def laws_FnExactDoMoves.T8 : Bool × List (List Nat × List Nat) := (true, [([], []), ([0], [0]), ([], []), ([2, 1], [2]), ([], []), ([4, 3], [4]), ([1, 3, 5, 5], [1, 3, 5]), ([6], [6]), ([7], [7]), ([7], [7]), ([], []), ([10, 8, 6, 0, 1, 2, 3, 4, 5, 6, 7, 8, 10], [8, 10]), ([9, 11, 0, 1, 2, 3, 4, 5, 6, 7, 8, 9, 10, 11], [9])])
def laws_FnExactDoMoves.B8 : List Nat := [0, 1, 0, 7, 0, 31, 63, 127, 255, 255, 0, 1535, 4095]
theorem laws_FnExactDoMoves.tab8 : rtab .any (opsOf Try.f12 8) = laws_FnExactDoMoves.T8 := by kernel_rfl
theorem laws_FnExactDoMoves.bits8 : waitsOk laws_FnExactDoMoves.T8.2 laws_FnExactDoMoves.B8 = true := by kernel_rfl
def laws_FnExactDoMoves.T11 : Bool × List (List Nat × List Nat) := (true, [([], []), ([], []), ([1], [1]), ([], []), ([0, 2, 3, 2], [0, 2, 3]), ([4], [4]), ([5], [5]), ([5], [5]), ([], []), ([8, 6, 4, 0, 1, 2, 3, 4, 5, 6, 8], [6, 8]), ([7, 9, 0, 1, 2, 3, 4, 5, 6, 7, 8, 9], [7])])
def laws_FnExactDoMoves.B11 : List Nat := [0, 0, 2, 0, 15, 31, 63, 63, 0, 383, 1023]
theorem laws_FnExactDoMoves.tab11 : rtab .any (opsOf Try.f12 11) = laws_FnExactDoMoves.T11 := by kernel_rfl
theorem laws_FnExactDoMoves.bits11 : waitsOk laws_FnExactDoMoves.T11.2 laws_FnExactDoMoves.B11 = true := by kernel_rfl
set_option maxHeartbeats 8000000 in
set_option maxRecDepth 100000 in
theorem laws_FnExactDoMoves.calls (k : Nat) (A0_0 : Option Addr) (c0_0 : Nat) (l0_0 : List Int) (a0_1 : Int) (a0_2 : Int) (a0_3 : Int) (a0_4 : Int) (a0_5 : Bool) (a1_0 : Int) (a1_1 : Int) (a1_2 : Int) (a1_3 : Int) (A2 : Option Addr) (c2 : Nat) (l2 : List (S58)) (r : Bool) (w : World) (hr0_0 : Kd.C (Kd.int .i16) w A0_0 l0_0.length l0_0) (hc0_0 : l0_0.length ≤ c0_0) (hr2 : Kd.C k58 w A2 l2.length l2) (hc2 : l2.length ≤ c2) (h : laws_FnExactDoMoves.f k l0_0 a0_1 a0_2 a0_3 a0_4 a0_5 a1_0 a1_1 a1_2 a1_3 l2 = some r) :
  Calls Try.prog 12 #[.agg #[.slice A0_0 l0_0.length c0_0, .int .i16 a0_1, .int .i16 a0_2, .int .i16 a0_3, .int .i16 a0_4, .bool a0_5], .agg #[.int .i16 a1_0, .int .i16 a1_1, .int .i16 a1_2, .int .i16 a1_3], .slice A2 l2.length c2] w fun e w' => e = .returned (.bool r) ∧ Below w.heap.size w w' := by
 have hu26 := Try.underlying26
 have hu24 := Try.underlying24
 have hu30 := Try.underlying30
 have hu32 := Try.underlying32
 have HR0_0 := Aside0.mk hr0_0
 have HC0_0 := Aside0.mk hc0_0
 clear hr0_0 hc0_0
 have HR2 := Aside0.mk hr2
 have HC2 := Aside0.mk hc2
 clear hr2 hc2
 have HB := A_ (Below.refl w.heap.size w)
 have H : ((laws_szPuzzle.f l0_0 a0_1 a0_2 a0_3 a0_4 a0_5 1048576).bind fun t233 => (if t233 < 0 then (some true) else ((laws_szMoveS.f l2 t233).bind fun t234 => (if t234 < 0 then (some true) else ((laws_toPuzzle.f k l0_0 a0_1 a0_2 a0_3 a0_4 a0_5).bind fun bt235 => ((laws_toWater.f k a1_0 a1_1 a1_2 a1_3).bind fun bt243 => ((laws_toMoveS.f k l2).bind fun t247 => ((spec_DoMoves.f k bt235.1 bt235.2.1 bt235.2.2.1 bt235.2.2.2.1 bt235.2.2.2.2.1 bt235.2.2.2.2.2 bt243.1 bt243.2.1 bt243.2.2.1 bt243.2.2.2 t247).bind fun bt250 => ((laws_toPuzzle.f k l0_0 a0_1 a0_2 a0_3 a0_4 a0_5).bind fun bt256 => ((laws_toMoveS.f k l2).bind fun t265 => ((laws_toWater.f k a1_0 a1_1 a1_2 a1_3).bind fun bt268 => ((impl_DoMoves.f k bt256.1 bt256.2.1 bt256.2.2.1 bt256.2.2.2.1 bt256.2.2.2.2.1 bt256.2.2.2.2.2 bt268.1 bt268.2.1 bt268.2.2.1 bt268.2.2.2 t265).bind fun bt272 => ((laws_eqWater.f k bt272.1 bt272.2.1 bt272.2.2.1 bt272.2.2.2.1 bt250.1 bt250.2.1 bt250.2.2.1 bt250.2.2.2.1).bind fun t278 => (if t278 = true then (laws_FnExactDoMoves.j0 k l2 t265 (bt272.2.2.2.2 != bt250.2.2.2.2) l0_0 a0_1 a0_2 a0_3 a0_4 a0_5 bt256.1 bt256.2.1 bt256.2.2.1 bt256.2.2.2.1 bt256.2.2.2.2.1 bt256.2.2.2.2.2) else (laws_FnExactDoMoves.j0 k l2 t265 true l0_0 a0_1 a0_2 a0_3 a0_4 a0_5 bt256.1 bt256.2.1 bt256.2.2.1 bt256.2.2.2.1 bt256.2.2.2.2.1 bt256.2.2.2.2.2))))))))))))))) = some r := h
 clear h
 replace H := Option.bind_eq_some_iff.mp H
 obtain ⟨t233, A40, H⟩ := H
 replace H : (if t233 < 0 then (some true) else ((laws_szMoveS.f l2 t233).bind fun t234 => (if t234 < 0 then (some true) else ((laws_toPuzzle.f k l0_0 a0_1 a0_2 a0_3 a0_4 a0_5).bind fun bt235 => ((laws_toWater.f k a1_0 a1_1 a1_2 a1_3).bind fun bt243 => ((laws_toMoveS.f k l2).bind fun t247 => ((spec_DoMoves.f k bt235.1 bt235.2.1 bt235.2.2.1 bt235.2.2.2.1 bt235.2.2.2.2.1 bt235.2.2.2.2.2 bt243.1 bt243.2.1 bt243.2.2.1 bt243.2.2.2 t247).bind fun bt250 => ((laws_toPuzzle.f k l0_0 a0_1 a0_2 a0_3 a0_4 a0_5).bind fun bt256 => ((laws_toMoveS.f k l2).bind fun t265 => ((laws_toWater.f k a1_0 a1_1 a1_2 a1_3).bind fun bt268 => ((impl_DoMoves.f k bt256.1 bt256.2.1 bt256.2.2.1 bt256.2.2.2.1 bt256.2.2.2.2.1 bt256.2.2.2.2.2 bt268.1 bt268.2.1 bt268.2.2.1 bt268.2.2.2 t265).bind fun bt272 => ((laws_eqWater.f k bt272.1 bt272.2.1 bt272.2.2.1 bt272.2.2.2.1 bt250.1 bt250.2.1 bt250.2.2.1 bt250.2.2.2.1).bind fun t278 => (if t278 = true then (laws_FnExactDoMoves.j0 k l2 t265 (bt272.2.2.2.2 != bt250.2.2.2.2) l0_0 a0_1 a0_2 a0_3 a0_4 a0_5 bt256.1 bt256.2.1 bt256.2.2.1 bt256.2.2.2.1 bt256.2.2.2.2.1 bt256.2.2.2.2.2) else (laws_FnExactDoMoves.j0 k l2 t265 true l0_0 a0_1 a0_2 a0_3 a0_4 a0_5 bt256.1 bt256.2.1 bt256.2.2.1 bt256.2.2.2.1 bt256.2.2.2.2.1 bt256.2.2.2.2.2)))))))))))))) = some r := H
 have A4 := Aside0.mk A40
 clear A40
 by_cases c5 : t233 < 0
 ·rw [if_pos c5] at H
  have c5b0 : decide (t233 < 0) = true := decide_eq_true c5
  clear c5
  obtain rfl := Option.some.inj H
  go_enter Try.func12, Try.ntmps12
  go_wp2_with (first | ((with_reducible refine gate_dst (N := 3) rfl ?_); refine box_event ?hg (N := 3) ?hd (cs := #[.slice A0_0 l0_0.length c0_0, .int .i16 a0_1, .int .i16 a0_2, .int .i16 a0_3, .int .i16 a0_4, .bool a0_5]) (t := 26) ?hr ?_; (case hd => rfl); (case hg => rfl); (case hr => first | (go_simp; done) | (go_simp; rfl)); intro gb231 hg w6 hbox hb; have n0_ := A_ (below_step (bl_ HB) hb); have n1_ := A_ (hbox); have n2_ := A_ ((by rw [hg]; exact (below_size (bl_ HB)) : w.heap.size ≤ gb231)); have n3_ := n2_; clear HB; have HB := n0_; have BK231 := n1_; have GW231 := n2_; have GE231 := n3_; clear n0_ n1_ n2_ n3_; clear hb hbox hg) | ((with_reducible refine gate_dst (N := 4) rfl ?_); refine box_event ?hg (N := 4) ?hd (cs := #[.int .i16 a1_0, .int .i16 a1_1, .int .i16 a1_2, .int .i16 a1_3]) (t := 24) ?hr ?_; (case hd => rfl); (case hg => rfl); (case hr => first | (go_simp; done) | (go_simp; rfl)); intro gb232 hg w7 hbox hb; have n0_ := A_ (blk_below (pl_ BK231) hb); have n1_ := A_ (below_step (bl_ HB) hb); have n2_ := A_ (hbox); have n3_ := A_ ((by rw [hg]; exact (below_size (bl_ HB)) : w.heap.size ≤ gb232)); have n4_ := n3_; have n5_ := A_ ((by rw [hg]; exact Nat.ne_of_lt (blk_lt (pl_ BK231)) : gb231 ≠ gb232)); have n6_ := Aside0.mk n5_.out.symm; clear BK231; clear HB; have BK231 := n0_; have HB := n1_; have BK232 := n2_; have GW232 := n3_; have GE232 := n4_; have NB231_232 := n5_; have NB232_231 := n6_; clear n0_ n1_ n2_ n3_ n4_ n5_ n6_; clear hb hbox hg; have hnb8 := NB231_232.out; have hnc8 := NB232_231.out; have hcz9_0 : w7.cell? ⟨gb231, 0, none⟩ = some (.slice A0_0 l0_0.length c0_0) := (blk_cell BK231.out 0).trans rfl; have hcz9_1 : w7.cell? ⟨gb231, 1, none⟩ = some (.int .i16 a0_1) := (blk_cell BK231.out 1).trans rfl; have hcz9_2 : w7.cell? ⟨gb231, 2, none⟩ = some (.int .i16 a0_2) := (blk_cell BK231.out 2).trans rfl; have hcz9_3 : w7.cell? ⟨gb231, 3, none⟩ = some (.int .i16 a0_3) := (blk_cell BK231.out 3).trans rfl; have hcz9_4 : w7.cell? ⟨gb231, 4, none⟩ = some (.int .i16 a0_4) := (blk_cell BK231.out 4).trans rfl; have hcz9_5 : w7.cell? ⟨gb231, 5, none⟩ = some (.bool a0_5) := (blk_cell BK231.out 5).trans rfl; have hfz9_0 := blk_frozen BK231.out 0; have hfz9_1 := blk_frozen BK231.out 1; have hfz9_2 := blk_frozen BK231.out 2; have hfz9_3 := blk_frozen BK231.out 3; have hfz9_4 := blk_frozen BK231.out 4; have hfz9_5 := blk_frozen BK231.out 5) | ((with_reducible refine gate_callee (f := 16) rfl ?_); refine goesL_ (some 16) rfl rfl Try.func16 (by kernel_rfl) rfl #[.agg #[.slice A0_0 l0_0.length c0_0, .int .i16 a0_1, .int .i16 a0_2, .int .i16 a0_3, .int .i16 a0_4, .bool a0_5], .int .i64 1048576] rfl arg_ ?_; (with_reducible refine (laws_szPuzzle.calls _ _ l0_0 a0_1 a0_2 a0_3 a0_4 a0_5 1048576 t233 _ ?side1 ?side2 A4.out).mono ?_); (case side1 => repeat (first | exact (Kd.C_below HR0_0.out HB.out) | (with_reducible refine Kd.C_alloc ?_ _) | (with_reducible refine Kd.C_drewN ?_ _) | (with_reducible refine Kd.C_drew ?_))); (case side2 => exact HC0_0.out); rintro e w10 ⟨rfl, hb⟩; refine ⟨_, rfl, ?_⟩; have n0_ := A_ (blk_below (pl_ BK231) hb); have n1_ := A_ (blk_below (pl_ BK232) hb); have n2_ := A_ (below_step (bl_ HB) hb); clear BK231; clear BK232; clear HB; have BK231 := n0_; have BK232 := n1_; have HB := n2_; clear n0_ n1_ n2_; (try clear hb); (try clear hb2); (try clear hk); (try clear hi)))
  go_ret
  exact ⟨by first | rfl | (simp [errW_none, errW_some] <;> rfl) | (simp [*, errW_none, errW_some] <;> rfl), bl_ HB⟩
 ·rw [if_neg c5] at H
  have c5b0 : decide (t233 < 0) = false := decide_eq_false c5
  clear c5
  replace H := Option.bind_eq_some_iff.mp H
  obtain ⟨t234, A110, H⟩ := H
  replace H : (if t234 < 0 then (some true) else ((laws_toPuzzle.f k l0_0 a0_1 a0_2 a0_3 a0_4 a0_5).bind fun bt235 => ((laws_toWater.f k a1_0 a1_1 a1_2 a1_3).bind fun bt243 => ((laws_toMoveS.f k l2).bind fun t247 => ((spec_DoMoves.f k bt235.1 bt235.2.1 bt235.2.2.1 bt235.2.2.2.1 bt235.2.2.2.2.1 bt235.2.2.2.2.2 bt243.1 bt243.2.1 bt243.2.2.1 bt243.2.2.2 t247).bind fun bt250 => ((laws_toPuzzle.f k l0_0 a0_1 a0_2 a0_3 a0_4 a0_5).bind fun bt256 => ((laws_toMoveS.f k l2).bind fun t265 => ((laws_toWater.f k a1_0 a1_1 a1_2 a1_3).bind fun bt268 => ((impl_DoMoves.f k bt256.1 bt256.2.1 bt256.2.2.1 bt256.2.2.2.1 bt256.2.2.2.2.1 bt256.2.2.2.2.2 bt268.1 bt268.2.1 bt268.2.2.1 bt268.2.2.2 t265).bind fun bt272 => ((laws_eqWater.f k bt272.1 bt272.2.1 bt272.2.2.1 bt272.2.2.2.1 bt250.1 bt250.2.1 bt250.2.2.1 bt250.2.2.2.1).bind fun t278 => (if t278 = true then (laws_FnExactDoMoves.j0 k l2 t265 (bt272.2.2.2.2 != bt250.2.2.2.2) l0_0 a0_1 a0_2 a0_3 a0_4 a0_5 bt256.1 bt256.2.1 bt256.2.2.1 bt256.2.2.2.1 bt256.2.2.2.2.1 bt256.2.2.2.2.2) else (laws_FnExactDoMoves.j0 k l2 t265 true l0_0 a0_1 a0_2 a0_3 a0_4 a0_5 bt256.1 bt256.2.1 bt256.2.2.1 bt256.2.2.2.1 bt256.2.2.2.2.1 bt256.2.2.2.2.2)))))))))))) = some r := H
  have A11 := Aside0.mk A110
  clear A110
  by_cases c12 : t234 < 0
  ·rw [if_pos c12] at H
   have c12b0 : decide (t234 < 0) = true := decide_eq_true c12
   clear c12
   obtain rfl := Option.some.inj H
   go_enter Try.func12, Try.ntmps12
   go_wp2_with (first | ((with_reducible refine gate_dst (N := 3) rfl ?_); refine box_event ?hg (N := 3) ?hd (cs := #[.slice A0_0 l0_0.length c0_0, .int .i16 a0_1, .int .i16 a0_2, .int .i16 a0_3, .int .i16 a0_4, .bool a0_5]) (t := 26) ?hr ?_; (case hd => rfl); (case hg => rfl); (case hr => first | (go_simp; done) | (go_simp; rfl)); intro gb231 hg w13 hbox hb; have n0_ := A_ (below_step (bl_ HB) hb); have n1_ := A_ (hbox); have n2_ := A_ ((by rw [hg]; exact (below_size (bl_ HB)) : w.heap.size ≤ gb231)); have n3_ := n2_; clear HB; have HB := n0_; have BK231 := n1_; have GW231 := n2_; have GE231 := n3_; clear n0_ n1_ n2_ n3_; clear hb hbox hg) | ((with_reducible refine gate_dst (N := 4) rfl ?_); refine box_event ?hg (N := 4) ?hd (cs := #[.int .i16 a1_0, .int .i16 a1_1, .int .i16 a1_2, .int .i16 a1_3]) (t := 24) ?hr ?_; (case hd => rfl); (case hg => rfl); (case hr => first | (go_simp; done) | (go_simp; rfl)); intro gb232 hg w14 hbox hb; have n0_ := A_ (blk_below (pl_ BK231) hb); have n1_ := A_ (below_step (bl_ HB) hb); have n2_ := A_ (hbox); have n3_ := A_ ((by rw [hg]; exact (below_size (bl_ HB)) : w.heap.size ≤ gb232)); have n4_ := n3_; have n5_ := A_ ((by rw [hg]; exact Nat.ne_of_lt (blk_lt (pl_ BK231)) : gb231 ≠ gb232)); have n6_ := Aside0.mk n5_.out.symm; clear BK231; clear HB; have BK231 := n0_; have HB := n1_; have BK232 := n2_; have GW232 := n3_; have GE232 := n4_; have NB231_232 := n5_; have NB232_231 := n6_; clear n0_ n1_ n2_ n3_ n4_ n5_ n6_; clear hb hbox hg; have hnb15 := NB231_232.out; have hnc15 := NB232_231.out; have hcz16_0 : w14.cell? ⟨gb231, 0, none⟩ = some (.slice A0_0 l0_0.length c0_0) := (blk_cell BK231.out 0).trans rfl; have hcz16_1 : w14.cell? ⟨gb231, 1, none⟩ = some (.int .i16 a0_1) := (blk_cell BK231.out 1).trans rfl; have hcz16_2 : w14.cell? ⟨gb231, 2, none⟩ = some (.int .i16 a0_2) := (blk_cell BK231.out 2).trans rfl; have hcz16_3 : w14.cell? ⟨gb231, 3, none⟩ = some (.int .i16 a0_3) := (blk_cell BK231.out 3).trans rfl; have hcz16_4 : w14.cell? ⟨gb231, 4, none⟩ = some (.int .i16 a0_4) := (blk_cell BK231.out 4).trans rfl; have hcz16_5 : w14.cell? ⟨gb231, 5, none⟩ = some (.bool a0_5) := (blk_cell BK231.out 5).trans rfl; have hfz16_0 := blk_frozen BK231.out 0; have hfz16_1 := blk_frozen BK231.out 1; have hfz16_2 := blk_frozen BK231.out 2; have hfz16_3 := blk_frozen BK231.out 3; have hfz16_4 := blk_frozen BK231.out 4; have hfz16_5 := blk_frozen BK231.out 5) | ((with_reducible refine gate_callee (f := 16) rfl ?_); refine goesL_ (some 16) rfl rfl Try.func16 (by kernel_rfl) rfl #[.agg #[.slice A0_0 l0_0.length c0_0, .int .i16 a0_1, .int .i16 a0_2, .int .i16 a0_3, .int .i16 a0_4, .bool a0_5], .int .i64 1048576] rfl arg_ ?_; (with_reducible refine (laws_szPuzzle.calls _ _ l0_0 a0_1 a0_2 a0_3 a0_4 a0_5 1048576 t233 _ ?side1 ?side2 A4.out).mono ?_); (case side1 => repeat (first | exact (Kd.C_below HR0_0.out HB.out) | (with_reducible refine Kd.C_alloc ?_ _) | (with_reducible refine Kd.C_drewN ?_ _) | (with_reducible refine Kd.C_drew ?_))); (case side2 => exact HC0_0.out); rintro e w17 ⟨rfl, hb⟩; refine ⟨_, rfl, ?_⟩; have n0_ := A_ (blk_below (pl_ BK231) hb); have n1_ := A_ (blk_below (pl_ BK232) hb); have n2_ := A_ (below_step (bl_ HB) hb); clear BK231; clear BK232; clear HB; have BK231 := n0_; have BK232 := n1_; have HB := n2_; clear n0_ n1_ n2_; (try clear hb); (try clear hb2); (try clear hk); (try clear hi)) | ((with_reducible refine gate_callee (f := 37) rfl ?_); refine goesL_ (some 21) rfl rfl Try.func37 (by kernel_rfl) rfl #[.slice A2 l2.length c2, .int .i64 t233] rfl arg_ ?_; (with_reducible refine (laws_szMoveS.calls _ _ l2 t233 t234 _ ?side1 ?side2 A11.out).mono ?_); (case side1 => repeat (first | exact (Kd.C_below HR2.out HB.out) | (with_reducible refine Kd.C_alloc ?_ _) | (with_reducible refine Kd.C_drewN ?_ _) | (with_reducible refine Kd.C_drew ?_))); (case side2 => exact HC2.out); rintro e w' ⟨rfl, ⟨nd, rfl⟩⟩; refine ⟨_, rfl, ?_⟩))
   go_ret
   exact ⟨by first | rfl | (simp [errW_none, errW_some] <;> rfl) | (simp [*, errW_none, errW_some] <;> rfl), bl_ HB⟩
  ·rw [if_neg c12] at H
   have c12b0 : decide (t234 < 0) = false := decide_eq_false c12
   clear c12
   replace H := Option.bind_eq_some_iff.mp H
   obtain ⟨⟨t235, t238, t239, t240, t241, t242⟩, A180, H⟩ := H
   replace H : ((laws_toWater.f k a1_0 a1_1 a1_2 a1_3).bind fun bt243 => ((laws_toMoveS.f k l2).bind fun t247 => ((spec_DoMoves.f k t235 t238 t239 t240 t241 t242 bt243.1 bt243.2.1 bt243.2.2.1 bt243.2.2.2 t247).bind fun bt250 => ((laws_toPuzzle.f k l0_0 a0_1 a0_2 a0_3 a0_4 a0_5).bind fun bt256 => ((laws_toMoveS.f k l2).bind fun t265 => ((laws_toWater.f k a1_0 a1_1 a1_2 a1_3).bind fun bt268 => ((impl_DoMoves.f k bt256.1 bt256.2.1 bt256.2.2.1 bt256.2.2.2.1 bt256.2.2.2.2.1 bt256.2.2.2.2.2 bt268.1 bt268.2.1 bt268.2.2.1 bt268.2.2.2 t265).bind fun bt272 => ((laws_eqWater.f k bt272.1 bt272.2.1 bt272.2.2.1 bt272.2.2.2.1 bt250.1 bt250.2.1 bt250.2.2.1 bt250.2.2.2.1).bind fun t278 => (if t278 = true then (laws_FnExactDoMoves.j0 k l2 t265 (bt272.2.2.2.2 != bt250.2.2.2.2) l0_0 a0_1 a0_2 a0_3 a0_4 a0_5 bt256.1 bt256.2.1 bt256.2.2.1 bt256.2.2.2.1 bt256.2.2.2.2.1 bt256.2.2.2.2.2) else (laws_FnExactDoMoves.j0 k l2 t265 true l0_0 a0_1 a0_2 a0_3 a0_4 a0_5 bt256.1 bt256.2.1 bt256.2.2.1 bt256.2.2.2.1 bt256.2.2.2.2.1 bt256.2.2.2.2.2)))))))))) = some r := H
   have A18 := Aside0.mk A180
   clear A180
   replace H := Option.bind_eq_some_iff.mp H
   obtain ⟨⟨t243, t244, t245, t246⟩, A190, H⟩ := H
   replace H : ((laws_toMoveS.f k l2).bind fun t247 => ((spec_DoMoves.f k t235 t238 t239 t240 t241 t242 t243 t244 t245 t246 t247).bind fun bt250 => ((laws_toPuzzle.f k l0_0 a0_1 a0_2 a0_3 a0_4 a0_5).bind fun bt256 => ((laws_toMoveS.f k l2).bind fun t265 => ((laws_toWater.f k a1_0 a1_1 a1_2 a1_3).bind fun bt268 => ((impl_DoMoves.f k bt256.1 bt256.2.1 bt256.2.2.1 bt256.2.2.2.1 bt256.2.2.2.2.1 bt256.2.2.2.2.2 bt268.1 bt268.2.1 bt268.2.2.1 bt268.2.2.2 t265).bind fun bt272 => ((laws_eqWater.f k bt272.1 bt272.2.1 bt272.2.2.1 bt272.2.2.2.1 bt250.1 bt250.2.1 bt250.2.2.1 bt250.2.2.2.1).bind fun t278 => (if t278 = true then (laws_FnExactDoMoves.j0 k l2 t265 (bt272.2.2.2.2 != bt250.2.2.2.2) l0_0 a0_1 a0_2 a0_3 a0_4 a0_5 bt256.1 bt256.2.1 bt256.2.2.1 bt256.2.2.2.1 bt256.2.2.2.2.1 bt256.2.2.2.2.2) else (laws_FnExactDoMoves.j0 k l2 t265 true l0_0 a0_1 a0_2 a0_3 a0_4 a0_5 bt256.1 bt256.2.1 bt256.2.2.1 bt256.2.2.2.1 bt256.2.2.2.2.1 bt256.2.2.2.2.2))))))))) = some r := H
   have A19 := Aside0.mk A190
   clear A190
   replace H := Option.bind_eq_some_iff.mp H
   obtain ⟨t247, A200, H⟩ := H
   replace H : ((spec_DoMoves.f k t235 t238 t239 t240 t241 t242 t243 t244 t245 t246 t247).bind fun bt250 => ((laws_toPuzzle.f k l0_0 a0_1 a0_2 a0_3 a0_4 a0_5).bind fun bt256 => ((laws_toMoveS.f k l2).bind fun t265 => ((laws_toWater.f k a1_0 a1_1 a1_2 a1_3).bind fun bt268 => ((impl_DoMoves.f k bt256.1 bt256.2.1 bt256.2.2.1 bt256.2.2.2.1 bt256.2.2.2.2.1 bt256.2.2.2.2.2 bt268.1 bt268.2.1 bt268.2.2.1 bt268.2.2.2 t265).bind fun bt272 => ((laws_eqWater.f k bt272.1 bt272.2.1 bt272.2.2.1 bt272.2.2.2.1 bt250.1 bt250.2.1 bt250.2.2.1 bt250.2.2.2.1).bind fun t278 => (if t278 = true then (laws_FnExactDoMoves.j0 k l2 t265 (bt272.2.2.2.2 != bt250.2.2.2.2) l0_0 a0_1 a0_2 a0_3 a0_4 a0_5 bt256.1 bt256.2.1 bt256.2.2.1 bt256.2.2.2.1 bt256.2.2.2.2.1 bt256.2.2.2.2.2) else (laws_FnExactDoMoves.j0 k l2 t265 true l0_0 a0_1 a0_2 a0_3 a0_4 a0_5 bt256.1 bt256.2.1 bt256.2.2.1 bt256.2.2.2.1 bt256.2.2.2.2.1 bt256.2.2.2.2.2)))))))) = some r := H
   have A20 := Aside0.mk A200
   clear A200
   replace H := Option.bind_eq_some_iff.mp H
   obtain ⟨⟨t250, t251, t252, t253, t254⟩, A210, H⟩ := H
   replace H : ((laws_toPuzzle.f k l0_0 a0_1 a0_2 a0_3 a0_4 a0_5).bind fun bt256 => ((laws_toMoveS.f k l2).bind fun t265 => ((laws_toWater.f k a1_0 a1_1 a1_2 a1_3).bind fun bt268 => ((impl_DoMoves.f k bt256.1 bt256.2.1 bt256.2.2.1 bt256.2.2.2.1 bt256.2.2.2.2.1 bt256.2.2.2.2.2 bt268.1 bt268.2.1 bt268.2.2.1 bt268.2.2.2 t265).bind fun bt272 => ((laws_eqWater.f k bt272.1 bt272.2.1 bt272.2.2.1 bt272.2.2.2.1 t250 t251 t252 t253).bind fun t278 => (if t278 = true then (laws_FnExactDoMoves.j0 k l2 t265 (bt272.2.2.2.2 != t254) l0_0 a0_1 a0_2 a0_3 a0_4 a0_5 bt256.1 bt256.2.1 bt256.2.2.1 bt256.2.2.2.1 bt256.2.2.2.2.1 bt256.2.2.2.2.2) else (laws_FnExactDoMoves.j0 k l2 t265 true l0_0 a0_1 a0_2 a0_3 a0_4 a0_5 bt256.1 bt256.2.1 bt256.2.2.1 bt256.2.2.2.1 bt256.2.2.2.2.1 bt256.2.2.2.2.2))))))) = some r := H
   have A21 := Aside0.mk A210
   clear A210
   replace H := Option.bind_eq_some_iff.mp H
   obtain ⟨⟨t256, t259, t260, t261, t262, t263⟩, A220, H⟩ := H
   replace H : ((laws_toMoveS.f k l2).bind fun t265 => ((laws_toWater.f k a1_0 a1_1 a1_2 a1_3).bind fun bt268 => ((impl_DoMoves.f k t256 t259 t260 t261 t262 t263 bt268.1 bt268.2.1 bt268.2.2.1 bt268.2.2.2 t265).bind fun bt272 => ((laws_eqWater.f k bt272.1 bt272.2.1 bt272.2.2.1 bt272.2.2.2.1 t250 t251 t252 t253).bind fun t278 => (if t278 = true then (laws_FnExactDoMoves.j0 k l2 t265 (bt272.2.2.2.2 != t254) l0_0 a0_1 a0_2 a0_3 a0_4 a0_5 t256 t259 t260 t261 t262 t263) else (laws_FnExactDoMoves.j0 k l2 t265 true l0_0 a0_1 a0_2 a0_3 a0_4 a0_5 t256 t259 t260 t261 t262 t263)))))) = some r := H
   have A22 := Aside0.mk A220
   clear A220
   replace H := Option.bind_eq_some_iff.mp H
   obtain ⟨t265, A230, H⟩ := H
   replace H : ((laws_toWater.f k a1_0 a1_1 a1_2 a1_3).bind fun bt268 => ((impl_DoMoves.f k t256 t259 t260 t261 t262 t263 bt268.1 bt268.2.1 bt268.2.2.1 bt268.2.2.2 t265).bind fun bt272 => ((laws_eqWater.f k bt272.1 bt272.2.1 bt272.2.2.1 bt272.2.2.2.1 t250 t251 t252 t253).bind fun t278 => (if t278 = true then (laws_FnExactDoMoves.j0 k l2 t265 (bt272.2.2.2.2 != t254) l0_0 a0_1 a0_2 a0_3 a0_4 a0_5 t256 t259 t260 t261 t262 t263) else (laws_FnExactDoMoves.j0 k l2 t265 true l0_0 a0_1 a0_2 a0_3 a0_4 a0_5 t256 t259 t260 t261 t262 t263))))) = some r := H
   have A23 := Aside0.mk A230
   clear A230
   replace H := Option.bind_eq_some_iff.mp H
   obtain ⟨⟨t268, t269, t270, t271⟩, A240, H⟩ := H
   replace H : ((impl_DoMoves.f k t256 t259 t260 t261 t262 t263 t268 t269 t270 t271 t265).bind fun bt272 => ((laws_eqWater.f k bt272.1 bt272.2.1 bt272.2.2.1 bt272.2.2.2.1 t250 t251 t252 t253).bind fun t278 => (if t278 = true then (laws_FnExactDoMoves.j0 k l2 t265 (bt272.2.2.2.2 != t254) l0_0 a0_1 a0_2 a0_3 a0_4 a0_5 t256 t259 t260 t261 t262 t263) else (laws_FnExactDoMoves.j0 k l2 t265 true l0_0 a0_1 a0_2 a0_3 a0_4 a0_5 t256 t259 t260 t261 t262 t263)))) = some r := H
   have A24 := Aside0.mk A240
   clear A240
   replace H := Option.bind_eq_some_iff.mp H
   obtain ⟨⟨t272, t273, t274, t275, t276⟩, A250, H⟩ := H
   replace H : ((laws_eqWater.f k t272 t273 t274 t275 t250 t251 t252 t253).bind fun t278 => (if t278 = true then (laws_FnExactDoMoves.j0 k l2 t265 (t276 != t254) l0_0 a0_1 a0_2 a0_3 a0_4 a0_5 t256 t259 t260 t261 t262 t263) else (laws_FnExactDoMoves.j0 k l2 t265 true l0_0 a0_1 a0_2 a0_3 a0_4 a0_5 t256 t259 t260 t261 t262 t263))) = some r := H
   have A25 := Aside0.mk A250
   clear A250
   have HC26 := Aside0.mk H
   clear H
   go_enter Try.func12, Try.ntmps12
   try go_wp2_with (first | ((with_reducible refine gate_dst (N := 3) rfl ?_); refine box_event ?hg (N := 3) ?hd (cs := #[.slice A0_0 l0_0.length c0_0, .int .i16 a0_1, .int .i16 a0_2, .int .i16 a0_3, .int .i16 a0_4, .bool a0_5]) (t := 26) ?hr ?_; (case hd => rfl); (case hg => rfl); (case hr => first | (go_simp; done) | (go_simp; rfl)); intro gb231 hg w27 hbox hb; have n0_ := A_ (below_step (bl_ HB) hb); have n1_ := A_ (hbox); have n2_ := A_ ((by rw [hg]; exact (below_size (bl_ HB)) : w.heap.size ≤ gb231)); have n3_ := n2_; clear HB; have HB := n0_; have BK231 := n1_; have GW231 := n2_; have GE231 := n3_; clear n0_ n1_ n2_ n3_; clear hb hbox hg) | ((with_reducible refine gate_dst (N := 4) rfl ?_); refine box_event ?hg (N := 4) ?hd (cs := #[.int .i16 a1_0, .int .i16 a1_1, .int .i16 a1_2, .int .i16 a1_3]) (t := 24) ?hr ?_; (case hd => rfl); (case hg => rfl); (case hr => first | (go_simp; done) | (go_simp; rfl)); intro gb232 hg w28 hbox hb; have n0_ := A_ (blk_below (pl_ BK231) hb); have n1_ := A_ (below_step (bl_ HB) hb); have n2_ := A_ (hbox); have n3_ := A_ ((by rw [hg]; exact (below_size (bl_ HB)) : w.heap.size ≤ gb232)); have n4_ := n3_; have n5_ := A_ ((by rw [hg]; exact Nat.ne_of_lt (blk_lt (pl_ BK231)) : gb231 ≠ gb232)); have n6_ := Aside0.mk n5_.out.symm; clear BK231; clear HB; have BK231 := n0_; have HB := n1_; have BK232 := n2_; have GW232 := n3_; have GE232 := n4_; have NB231_232 := n5_; have NB232_231 := n6_; clear n0_ n1_ n2_ n3_ n4_ n5_ n6_; clear hb hbox hg; have hnb29 := NB231_232.out; have hnc29 := NB232_231.out; have hcz30_0 : w28.cell? ⟨gb231, 0, none⟩ = some (.slice A0_0 l0_0.length c0_0) := (blk_cell BK231.out 0).trans rfl; have hcz30_1 : w28.cell? ⟨gb231, 1, none⟩ = some (.int .i16 a0_1) := (blk_cell BK231.out 1).trans rfl; have hcz30_2 : w28.cell? ⟨gb231, 2, none⟩ = some (.int .i16 a0_2) := (blk_cell BK231.out 2).trans rfl; have hcz30_3 : w28.cell? ⟨gb231, 3, none⟩ = some (.int .i16 a0_3) := (blk_cell BK231.out 3).trans rfl; have hcz30_4 : w28.cell? ⟨gb231, 4, none⟩ = some (.int .i16 a0_4) := (blk_cell BK231.out 4).trans rfl; have hcz30_5 : w28.cell? ⟨gb231, 5, none⟩ = some (.bool a0_5) := (blk_cell BK231.out 5).trans rfl; have hfz30_0 := blk_frozen BK231.out 0; have hfz30_1 := blk_frozen BK231.out 1; have hfz30_2 := blk_frozen BK231.out 2; have hfz30_3 := blk_frozen BK231.out 3; have hfz30_4 := blk_frozen BK231.out 4; have hfz30_5 := blk_frozen BK231.out 5) | ((with_reducible refine gate_callee (f := 16) rfl ?_); refine goesL_ (some 16) rfl rfl Try.func16 (by kernel_rfl) rfl #[.agg #[.slice A0_0 l0_0.length c0_0, .int .i16 a0_1, .int .i16 a0_2, .int .i16 a0_3, .int .i16 a0_4, .bool a0_5], .int .i64 1048576] rfl arg_ ?_; (with_reducible refine (laws_szPuzzle.calls _ _ l0_0 a0_1 a0_2 a0_3 a0_4 a0_5 1048576 t233 _ ?side1 ?side2 A4.out).mono ?_); (case side1 => repeat (first | exact (Kd.C_below HR0_0.out HB.out) | (with_reducible refine Kd.C_alloc ?_ _) | (with_reducible refine Kd.C_drewN ?_ _) | (with_reducible refine Kd.C_drew ?_))); (case side2 => exact HC0_0.out); rintro e w31 ⟨rfl, hb⟩; refine ⟨_, rfl, ?_⟩; have n0_ := A_ (blk_below (pl_ BK231) hb); have n1_ := A_ (blk_below (pl_ BK232) hb); have n2_ := A_ (below_step (bl_ HB) hb); clear BK231; clear BK232; clear HB; have BK231 := n0_; have BK232 := n1_; have HB := n2_; clear n0_ n1_ n2_; (try clear hb); (try clear hb2); (try clear hk); (try clear hi)) | ((with_reducible refine gate_callee (f := 37) rfl ?_); refine goesL_ (some 21) rfl rfl Try.func37 (by kernel_rfl) rfl #[.slice A2 l2.length c2, .int .i64 t233] rfl arg_ ?_; (with_reducible refine (laws_szMoveS.calls _ _ l2 t233 t234 _ ?side1 ?side2 A11.out).mono ?_); (case side1 => repeat (first | exact (Kd.C_below HR2.out HB.out) | (with_reducible refine Kd.C_alloc ?_ _) | (with_reducible refine Kd.C_drewN ?_ _) | (with_reducible refine Kd.C_drew ?_))); (case side2 => exact HC2.out); rintro e w' ⟨rfl, ⟨nd, rfl⟩⟩; refine ⟨_, rfl, ?_⟩; (try (rw [drewN_self w31]; generalize hq_ : World.drewN w31 _ = w31; have n0_ : Aside0 (w31.heap[gb231]? = some (.cells #[.slice A0_0 l0_0.length c0_0, .int .i16 a0_1, .int .i16 a0_2, .int .i16 a0_3, .int .i16 a0_4, .bool a0_5] 26 (0, 0))) := ⟨by rw [← hq_]; exact (pl_ BK231)⟩; have n1_ : Aside0 (w31.heap[gb232]? = some (.cells #[.int .i16 a1_0, .int .i16 a1_1, .int .i16 a1_2, .int .i16 a1_3] 24 (0, 0))) := ⟨by rw [← hq_]; exact (pl_ BK232)⟩; have n2_ : Aside0 (Below w.heap.size w w31) := ⟨by rw [← hq_]; exact (bl_ HB)⟩; clear BK231 BK232 HB hq_; have BK231 := n0_; have BK232 := n1_; have HB := n2_; clear n0_ n1_ n2_))))
   have n0_ := A_ (blk_drew BK231.out)
   have n1_ := A_ (blk_drew BK232.out)
   have n2_ := A_ (below_drew1 HB.out)
   clear BK231
   clear BK232
   clear HB
   have BK231 := n0_
   have BK232 := n1_
   have HB := n2_
   clear n0_ n1_ n2_
   refine start_ (n := 13) (S := fun w' => w'.cell? ⟨gb231, 0, none⟩ = some (.slice A0_0 l0_0.length c0_0) ∧ w'.cell? ⟨gb231, 1, none⟩ = some (.int .i16 a0_1) ∧ w'.cell? ⟨gb231, 2, none⟩ = some (.int .i16 a0_2) ∧ w'.cell? ⟨gb231, 3, none⟩ = some (.int .i16 a0_3) ∧ w'.cell? ⟨gb231, 4, none⟩ = some (.int .i16 a0_4) ∧ w'.cell? ⟨gb231, 5, none⟩ = some (.bool a0_5) ∧ w'.cell? ⟨gb232, 0, none⟩ = some (.int .i16 a1_0) ∧ w'.cell? ⟨gb232, 1, none⟩ = some (.int .i16 a1_1) ∧ w'.cell? ⟨gb232, 2, none⟩ = some (.int .i16 a1_2) ∧ w'.cell? ⟨gb232, 3, none⟩ = some (.int .i16 a1_3)) (ds := []) #[false, false, false, false, false, false, false, false, false, false, false, false, false] (by kernel_rfl) rfl rfl ⟨(blk_cell BK231.out 0).trans rfl, (blk_cell BK231.out 1).trans rfl, (blk_cell BK231.out 2).trans rfl, (blk_cell BK231.out 3).trans rfl, (blk_cell BK231.out 4).trans rfl, (blk_cell BK231.out 5).trans rfl, (blk_cell BK232.out 0).trans rfl, (blk_cell BK232.out 1).trans rfl, (blk_cell BK232.out 2).trans rfl, (blk_cell BK232.out 3).trans rfl⟩ (fun hHeld => ?_); refine with_tabW laws_FnExactDoMoves.tab8 laws_FnExactDoMoves.bits8 (fun HT_ HW_ => ?_)
   generalize w31.drew = w32 at BK231 BK232 HB hHeld ⊢
   refine pure_ (i := 4) (N := some 29) (v := ?_) (a' := ?_) #[false, false, false, false, true, false, false, false, false, false, false, false, false] rfl rfl (any_of HT_.out (by kernel_rfl)) (fun _ _ _ h => h) (Or.inl ⟨by rfl, ?_⟩) ?_ ?_
   rotate_left
   ·intro w'
    go_simp
    with_reducible rfl
   rotate_left
   ·simp only [Act.put, List.setIfInBounds_toArray, List.set_cons_zero, List.set_cons_succ, i64_w, i32_w]
    rfl
   refine take_ (i := 0) (N := some 25) (v := ?_) (a' := ?_) #[true, false, false, false, true, false, false, false, false, false, false, false, false] rfl rfl (take_ofW HT_.out HW_.out (by kernel_rfl)) (fun _ _ _ h => h) (Or.inl ⟨by rfl, ?_⟩) hHeld ?_ ?_
   rotate_left
   ·rintro w' ⟨s0, s1, s2, s3, s4, s5, s6, s7, s8, s9⟩
    go_simp
    with_reducible rfl
   rotate_left
   ·simp only [Act.put, List.setIfInBounds_toArray, List.set_cons_zero, List.set_cons_succ, i64_w, i32_w]
    rfl
   refine take_ (i := 2) (N := some 27) (v := ?_) (a' := ?_) #[true, false, true, false, true, false, false, false, false, false, false, false, false] rfl rfl (take_ofW HT_.out HW_.out (by kernel_rfl)) (fun _ _ _ h => h) (Or.inl ⟨by rfl, ?_⟩) hHeld ?_ ?_
   rotate_left
   ·rintro w' ⟨s0, s1, s2, s3, s4, s5, s6, s7, s8, s9⟩
    go_simp
    with_reducible rfl
   rotate_left
   ·simp only [Act.put, List.setIfInBounds_toArray, List.set_cons_zero, List.set_cons_succ, i64_w, i32_w]
    rfl
   refine join_ (σ := Value × Value × Nat) 2 #[true, true, true, true, true, true, true, true, true, true, true, false, false] (fun s_ => [(26, .agg #[s_.1, .int .i16 t238, .int .i16 t239, .int .i16 t240, .int .i16 t241, .bool t242]), (28, .agg #[.int .i16 t243, .int .i16 t244, .int .i16 t245, .int .i16 t246]), (30, s_.2.1), (31, .tuple #[.agg #[.int .i16 t250, .int .i16 t251, .int .i16 t252, .int .i16 t253], .int .i64 t254]), (8, .pointer (some ⟨s_.2.2, 0, none⟩)), (24, .tuple #[.agg #[.int .i16 t250, .int .i16 t251, .int .i16 t252, .int .i16 t253], .int .i64 t254]), (32, .agg #[.int .i16 t250, .int .i16 t251, .int .i16 t252, .int .i16 t253]), (33, .int .i64 t254)]) (fun s_ w' => (w'.cell? ⟨gb231, 0, none⟩ = some (.slice A0_0 l0_0.length c0_0) ∧ w'.cell? ⟨gb231, 1, none⟩ = some (.int .i16 a0_1) ∧ w'.cell? ⟨gb231, 2, none⟩ = some (.int .i16 a0_2) ∧ w'.cell? ⟨gb231, 3, none⟩ = some (.int .i16 a0_3) ∧ w'.cell? ⟨gb231, 4, none⟩ = some (.int .i16 a0_4) ∧ w'.cell? ⟨gb231, 5, none⟩ = some (.bool a0_5) ∧ w'.cell? ⟨gb232, 0, none⟩ = some (.int .i16 a1_0) ∧ w'.cell? ⟨gb232, 1, none⟩ = some (.int .i16 a1_1) ∧ w'.cell? ⟨gb232, 2, none⟩ = some (.int .i16 a1_2) ∧ w'.cell? ⟨gb232, 3, none⟩ = some (.int .i16 a1_3)) ∧ (Kd.R (Kd.int .i16) 23 w' w.heap.size (fun _ => True) s_.1 t235) ∧ (Kd.R k60 60 w' w.heap.size (fun _ => True) s_.2.1 t247) ∧ (w'.heap[gb231]? = some (.cells #[.slice A0_0 l0_0.length c0_0, .int .i16 a0_1, .int .i16 a0_2, .int .i16 a0_3, .int .i16 a0_4, .bool a0_5] 26 (0, 0))) ∧ (w'.heap[gb232]? = some (.cells #[.int .i16 a1_0, .int .i16 a1_1, .int .i16 a1_2, .int .i16 a1_3] 24 (0, 0))) ∧ (w'.heap[s_.2.2]? = some (.cells #[.int .i16 0, .int .i16 0, .int .i16 0, .int .i16 0] 30 (0, 0))) ∧ (w.heap.size ≤ s_.2.2) ∧ (w.heap.size ≤ s_.2.2) ∧ (gb231 ≠ s_.2.2) ∧ (s_.2.2 ≠ gb231) ∧ (gb232 ≠ s_.2.2) ∧ (s_.2.2 ≠ gb232) ∧ (Below w.heap.size w w')) ?_ ?_
   rotate_left
   ·intro hJ1_3_5_6_10
    refine join_ (σ := Value × Value) 3 #[true, true, true, true, true, true, true, true, true, true, false, false, false] (fun s_ => [(26, .agg #[s_.1, .int .i16 t238, .int .i16 t239, .int .i16 t240, .int .i16 t241, .bool t242]), (28, .agg #[.int .i16 t243, .int .i16 t244, .int .i16 t245, .int .i16 t246]), (30, s_.2), (31, .tuple #[.agg #[.int .i16 t250, .int .i16 t251, .int .i16 t252, .int .i16 t253], .int .i64 t254]), (24, .tuple #[.agg #[.int .i16 t250, .int .i16 t251, .int .i16 t252, .int .i16 t253], .int .i64 t254]), (32, .agg #[.int .i16 t250, .int .i16 t251, .int .i16 t252, .int .i16 t253]), (33, .int .i64 t254)]) (fun s_ w' => (w'.cell? ⟨gb231, 0, none⟩ = some (.slice A0_0 l0_0.length c0_0) ∧ w'.cell? ⟨gb231, 1, none⟩ = some (.int .i16 a0_1) ∧ w'.cell? ⟨gb231, 2, none⟩ = some (.int .i16 a0_2) ∧ w'.cell? ⟨gb231, 3, none⟩ = some (.int .i16 a0_3) ∧ w'.cell? ⟨gb231, 4, none⟩ = some (.int .i16 a0_4) ∧ w'.cell? ⟨gb231, 5, none⟩ = some (.bool a0_5) ∧ w'.cell? ⟨gb232, 0, none⟩ = some (.int .i16 a1_0) ∧ w'.cell? ⟨gb232, 1, none⟩ = some (.int .i16 a1_1) ∧ w'.cell? ⟨gb232, 2, none⟩ = some (.int .i16 a1_2) ∧ w'.cell? ⟨gb232, 3, none⟩ = some (.int .i16 a1_3)) ∧ (Kd.R (Kd.int .i16) 23 w' w.heap.size (fun _ => True) s_.1 t235) ∧ (Kd.R k60 60 w' w.heap.size (fun _ => True) s_.2 t247) ∧ (w'.heap[gb231]? = some (.cells #[.slice A0_0 l0_0.length c0_0, .int .i16 a0_1, .int .i16 a0_2, .int .i16 a0_3, .int .i16 a0_4, .bool a0_5] 26 (0, 0))) ∧ (w'.heap[gb232]? = some (.cells #[.int .i16 a1_0, .int .i16 a1_1, .int .i16 a1_2, .int .i16 a1_3] 24 (0, 0))) ∧ (Below w.heap.size w w')) ?_ ?_
    rotate_left
    ·intro hJ1_3_5_6
     refine join_ (σ := Value × Value × Nat) 6 #[true, true, true, true, true, true, false, false, false, false, true, false, false] (fun s_ => [(26, .agg #[s_.1, .int .i16 t238, .int .i16 t239, .int .i16 t240, .int .i16 t241, .bool t242]), (28, .agg #[.int .i16 t243, .int .i16 t244, .int .i16 t245, .int .i16 t246]), (30, s_.2.1), (8, .pointer (some ⟨s_.2.2, 0, none⟩))]) (fun s_ w' => (w'.cell? ⟨gb231, 0, none⟩ = some (.slice A0_0 l0_0.length c0_0) ∧ w'.cell? ⟨gb231, 1, none⟩ = some (.int .i16 a0_1) ∧ w'.cell? ⟨gb231, 2, none⟩ = some (.int .i16 a0_2) ∧ w'.cell? ⟨gb231, 3, none⟩ = some (.int .i16 a0_3) ∧ w'.cell? ⟨gb231, 4, none⟩ = some (.int .i16 a0_4) ∧ w'.cell? ⟨gb231, 5, none⟩ = some (.bool a0_5) ∧ w'.cell? ⟨gb232, 0, none⟩ = some (.int .i16 a1_0) ∧ w'.cell? ⟨gb232, 1, none⟩ = some (.int .i16 a1_1) ∧ w'.cell? ⟨gb232, 2, none⟩ = some (.int .i16 a1_2) ∧ w'.cell? ⟨gb232, 3, none⟩ = some (.int .i16 a1_3)) ∧ (Kd.R (Kd.int .i16) 23 w' w.heap.size (fun _ => True) s_.1 t235) ∧ (Kd.R k60 60 w' w.heap.size (fun _ => True) s_.2.1 t247) ∧ (w'.heap[gb231]? = some (.cells #[.slice A0_0 l0_0.length c0_0, .int .i16 a0_1, .int .i16 a0_2, .int .i16 a0_3, .int .i16 a0_4, .bool a0_5] 26 (0, 0))) ∧ (w'.heap[gb232]? = some (.cells #[.int .i16 a1_0, .int .i16 a1_1, .int .i16 a1_2, .int .i16 a1_3] 24 (0, 0))) ∧ (w'.heap[s_.2.2]? = some (.cells #[.int .i16 0, .int .i16 0, .int .i16 0, .int .i16 0] 30 (0, 0))) ∧ (w.heap.size ≤ s_.2.2) ∧ (w.heap.size ≤ s_.2.2) ∧ (gb231 ≠ s_.2.2) ∧ (s_.2.2 ≠ gb231) ∧ (gb232 ≠ s_.2.2) ∧ (s_.2.2 ≠ gb232) ∧ (Below w.heap.size w w')) ?_ ?_
     rotate_left
     ·intro hJ1_3_5_10
      refine join_ (σ := Value × Value) 7 #[true, true, true, true, true, true, false, false, false, false, false, false, false] (fun s_ => [(26, .agg #[s_.1, .int .i16 t238, .int .i16 t239, .int .i16 t240, .int .i16 t241, .bool t242]), (28, .agg #[.int .i16 t243, .int .i16 t244, .int .i16 t245, .int .i16 t246]), (30, s_.2)]) (fun s_ w' => (w'.cell? ⟨gb231, 0, none⟩ = some (.slice A0_0 l0_0.length c0_0) ∧ w'.cell? ⟨gb231, 1, none⟩ = some (.int .i16 a0_1) ∧ w'.cell? ⟨gb231, 2, none⟩ = some (.int .i16 a0_2) ∧ w'.cell? ⟨gb231, 3, none⟩ = some (.int .i16 a0_3) ∧ w'.cell? ⟨gb231, 4, none⟩ = some (.int .i16 a0_4) ∧ w'.cell? ⟨gb231, 5, none⟩ = some (.bool a0_5) ∧ w'.cell? ⟨gb232, 0, none⟩ = some (.int .i16 a1_0) ∧ w'.cell? ⟨gb232, 1, none⟩ = some (.int .i16 a1_1) ∧ w'.cell? ⟨gb232, 2, none⟩ = some (.int .i16 a1_2) ∧ w'.cell? ⟨gb232, 3, none⟩ = some (.int .i16 a1_3)) ∧ (Kd.R (Kd.int .i16) 23 w' w.heap.size (fun _ => True) s_.1 t235) ∧ (Kd.R k60 60 w' w.heap.size (fun _ => True) s_.2 t247) ∧ (w'.heap[gb231]? = some (.cells #[.slice A0_0 l0_0.length c0_0, .int .i16 a0_1, .int .i16 a0_2, .int .i16 a0_3, .int .i16 a0_4, .bool a0_5] 26 (0, 0))) ∧ (w'.heap[gb232]? = some (.cells #[.int .i16 a1_0, .int .i16 a1_1, .int .i16 a1_2, .int .i16 a1_3] 24 (0, 0))) ∧ (Below w.heap.size w w')) ?_ ?_
      rotate_left
      ·intro hJ1_3_5
       refine join_ (σ := Value × Nat) 7 #[true, true, true, true, true, false, false, false, false, false, true, false, false] (fun s_ => [(26, .agg #[s_.1, .int .i16 t238, .int .i16 t239, .int .i16 t240, .int .i16 t241, .bool t242]), (28, .agg #[.int .i16 t243, .int .i16 t244, .int .i16 t245, .int .i16 t246]), (8, .pointer (some ⟨s_.2, 0, none⟩))]) (fun s_ w' => (w'.cell? ⟨gb231, 0, none⟩ = some (.slice A0_0 l0_0.length c0_0) ∧ w'.cell? ⟨gb231, 1, none⟩ = some (.int .i16 a0_1) ∧ w'.cell? ⟨gb231, 2, none⟩ = some (.int .i16 a0_2) ∧ w'.cell? ⟨gb231, 3, none⟩ = some (.int .i16 a0_3) ∧ w'.cell? ⟨gb231, 4, none⟩ = some (.int .i16 a0_4) ∧ w'.cell? ⟨gb231, 5, none⟩ = some (.bool a0_5) ∧ w'.cell? ⟨gb232, 0, none⟩ = some (.int .i16 a1_0) ∧ w'.cell? ⟨gb232, 1, none⟩ = some (.int .i16 a1_1) ∧ w'.cell? ⟨gb232, 2, none⟩ = some (.int .i16 a1_2) ∧ w'.cell? ⟨gb232, 3, none⟩ = some (.int .i16 a1_3)) ∧ (Kd.R (Kd.int .i16) 23 w' w.heap.size (fun _ => True) s_.1 t235) ∧ (w'.heap[gb231]? = some (.cells #[.slice A0_0 l0_0.length c0_0, .int .i16 a0_1, .int .i16 a0_2, .int .i16 a0_3, .int .i16 a0_4, .bool a0_5] 26 (0, 0))) ∧ (w'.heap[gb232]? = some (.cells #[.int .i16 a1_0, .int .i16 a1_1, .int .i16 a1_2, .int .i16 a1_3] 24 (0, 0))) ∧ (w'.heap[s_.2]? = some (.cells #[.int .i16 0, .int .i16 0, .int .i16 0, .int .i16 0] 30 (0, 0))) ∧ (w.heap.size ≤ s_.2) ∧ (w.heap.size ≤ s_.2) ∧ (gb231 ≠ s_.2) ∧ (s_.2 ≠ gb231) ∧ (gb232 ≠ s_.2) ∧ (s_.2 ≠ gb232) ∧ (Below w.heap.size w w')) ?_ ?_
       rotate_left
       ·intro hJ1_3_10
        refine join_ (σ := Value) 8 #[true, true, true, true, true, false, false, false, false, false, false, false, false] (fun s_ => [(26, .agg #[s_, .int .i16 t238, .int .i16 t239, .int .i16 t240, .int .i16 t241, .bool t242]), (28, .agg #[.int .i16 t243, .int .i16 t244, .int .i16 t245, .int .i16 t246])]) (fun s_ w' => (w'.cell? ⟨gb231, 0, none⟩ = some (.slice A0_0 l0_0.length c0_0) ∧ w'.cell? ⟨gb231, 1, none⟩ = some (.int .i16 a0_1) ∧ w'.cell? ⟨gb231, 2, none⟩ = some (.int .i16 a0_2) ∧ w'.cell? ⟨gb231, 3, none⟩ = some (.int .i16 a0_3) ∧ w'.cell? ⟨gb231, 4, none⟩ = some (.int .i16 a0_4) ∧ w'.cell? ⟨gb231, 5, none⟩ = some (.bool a0_5) ∧ w'.cell? ⟨gb232, 0, none⟩ = some (.int .i16 a1_0) ∧ w'.cell? ⟨gb232, 1, none⟩ = some (.int .i16 a1_1) ∧ w'.cell? ⟨gb232, 2, none⟩ = some (.int .i16 a1_2) ∧ w'.cell? ⟨gb232, 3, none⟩ = some (.int .i16 a1_3)) ∧ (Kd.R (Kd.int .i16) 23 w' w.heap.size (fun _ => True) s_ t235) ∧ (w'.heap[gb231]? = some (.cells #[.slice A0_0 l0_0.length c0_0, .int .i16 a0_1, .int .i16 a0_2, .int .i16 a0_3, .int .i16 a0_4, .bool a0_5] 26 (0, 0))) ∧ (w'.heap[gb232]? = some (.cells #[.int .i16 a1_0, .int .i16 a1_1, .int .i16 a1_2, .int .i16 a1_3] 24 (0, 0))) ∧ (Below w.heap.size w w')) ?_ ?_
        rotate_left
        ·intro hJ1_3
         refine join_ (σ := Value × Nat) 8 #[true, true, true, false, true, false, false, false, false, false, true, false, false] (fun s_ => [(26, .agg #[s_.1, .int .i16 t238, .int .i16 t239, .int .i16 t240, .int .i16 t241, .bool t242]), (8, .pointer (some ⟨s_.2, 0, none⟩))]) (fun s_ w' => (w'.cell? ⟨gb231, 0, none⟩ = some (.slice A0_0 l0_0.length c0_0) ∧ w'.cell? ⟨gb231, 1, none⟩ = some (.int .i16 a0_1) ∧ w'.cell? ⟨gb231, 2, none⟩ = some (.int .i16 a0_2) ∧ w'.cell? ⟨gb231, 3, none⟩ = some (.int .i16 a0_3) ∧ w'.cell? ⟨gb231, 4, none⟩ = some (.int .i16 a0_4) ∧ w'.cell? ⟨gb231, 5, none⟩ = some (.bool a0_5) ∧ w'.cell? ⟨gb232, 0, none⟩ = some (.int .i16 a1_0) ∧ w'.cell? ⟨gb232, 1, none⟩ = some (.int .i16 a1_1) ∧ w'.cell? ⟨gb232, 2, none⟩ = some (.int .i16 a1_2) ∧ w'.cell? ⟨gb232, 3, none⟩ = some (.int .i16 a1_3)) ∧ (Kd.R (Kd.int .i16) 23 w' w.heap.size (fun _ => True) s_.1 t235) ∧ (w'.heap[gb231]? = some (.cells #[.slice A0_0 l0_0.length c0_0, .int .i16 a0_1, .int .i16 a0_2, .int .i16 a0_3, .int .i16 a0_4, .bool a0_5] 26 (0, 0))) ∧ (w'.heap[gb232]? = some (.cells #[.int .i16 a1_0, .int .i16 a1_1, .int .i16 a1_2, .int .i16 a1_3] 24 (0, 0))) ∧ (w'.heap[s_.2]? = some (.cells #[.int .i16 0, .int .i16 0, .int .i16 0, .int .i16 0] 30 (0, 0))) ∧ (w.heap.size ≤ s_.2) ∧ (w.heap.size ≤ s_.2) ∧ (gb231 ≠ s_.2) ∧ (s_.2 ≠ gb231) ∧ (gb232 ≠ s_.2) ∧ (s_.2 ≠ gb232) ∧ (Below w.heap.size w w')) ?_ ?_
         rotate_left
         ·intro hJ1_10
          refine join_ (σ := Value) 9 #[true, true, true, false, true, false, false, false, false, false, false, false, false] (fun s_ => [(26, .agg #[s_, .int .i16 t238, .int .i16 t239, .int .i16 t240, .int .i16 t241, .bool t242])]) (fun s_ w' => (w'.cell? ⟨gb231, 0, none⟩ = some (.slice A0_0 l0_0.length c0_0) ∧ w'.cell? ⟨gb231, 1, none⟩ = some (.int .i16 a0_1) ∧ w'.cell? ⟨gb231, 2, none⟩ = some (.int .i16 a0_2) ∧ w'.cell? ⟨gb231, 3, none⟩ = some (.int .i16 a0_3) ∧ w'.cell? ⟨gb231, 4, none⟩ = some (.int .i16 a0_4) ∧ w'.cell? ⟨gb231, 5, none⟩ = some (.bool a0_5) ∧ w'.cell? ⟨gb232, 0, none⟩ = some (.int .i16 a1_0) ∧ w'.cell? ⟨gb232, 1, none⟩ = some (.int .i16 a1_1) ∧ w'.cell? ⟨gb232, 2, none⟩ = some (.int .i16 a1_2) ∧ w'.cell? ⟨gb232, 3, none⟩ = some (.int .i16 a1_3)) ∧ (Kd.R (Kd.int .i16) 23 w' w.heap.size (fun _ => True) s_ t235) ∧ (w'.heap[gb231]? = some (.cells #[.slice A0_0 l0_0.length c0_0, .int .i16 a0_1, .int .i16 a0_2, .int .i16 a0_3, .int .i16 a0_4, .bool a0_5] 26 (0, 0))) ∧ (w'.heap[gb232]? = some (.cells #[.int .i16 a1_0, .int .i16 a1_1, .int .i16 a1_2, .int .i16 a1_3] 24 (0, 0))) ∧ (Below w.heap.size w w')) ?_ ?_
          rotate_left
          ·intro hJ1
           refine join_ (σ := Nat) 9 #[true, false, true, false, true, false, false, false, false, false, true, false, false] (fun s_ => [(8, .pointer (some ⟨s_, 0, none⟩))]) (fun s_ w' => (w'.cell? ⟨gb231, 0, none⟩ = some (.slice A0_0 l0_0.length c0_0) ∧ w'.cell? ⟨gb231, 1, none⟩ = some (.int .i16 a0_1) ∧ w'.cell? ⟨gb231, 2, none⟩ = some (.int .i16 a0_2) ∧ w'.cell? ⟨gb231, 3, none⟩ = some (.int .i16 a0_3) ∧ w'.cell? ⟨gb231, 4, none⟩ = some (.int .i16 a0_4) ∧ w'.cell? ⟨gb231, 5, none⟩ = some (.bool a0_5) ∧ w'.cell? ⟨gb232, 0, none⟩ = some (.int .i16 a1_0) ∧ w'.cell? ⟨gb232, 1, none⟩ = some (.int .i16 a1_1) ∧ w'.cell? ⟨gb232, 2, none⟩ = some (.int .i16 a1_2) ∧ w'.cell? ⟨gb232, 3, none⟩ = some (.int .i16 a1_3)) ∧ (w'.heap[gb231]? = some (.cells #[.slice A0_0 l0_0.length c0_0, .int .i16 a0_1, .int .i16 a0_2, .int .i16 a0_3, .int .i16 a0_4, .bool a0_5] 26 (0, 0))) ∧ (w'.heap[gb232]? = some (.cells #[.int .i16 a1_0, .int .i16 a1_1, .int .i16 a1_2, .int .i16 a1_3] 24 (0, 0))) ∧ (w'.heap[s_]? = some (.cells #[.int .i16 0, .int .i16 0, .int .i16 0, .int .i16 0] 30 (0, 0))) ∧ (w.heap.size ≤ s_) ∧ (w.heap.size ≤ s_) ∧ (gb231 ≠ s_) ∧ (s_ ≠ gb231) ∧ (gb232 ≠ s_) ∧ (s_ ≠ gb232) ∧ (Below w.heap.size w w')) ?_ ?_
           rotate_left
           ·intro hJ10
            refine two_ (i := 1) (j := 10) (Ni := some 26) (Nj := some 8) #[true, true, true, false, true, false, false, false, false, false, false, false, false] #[true, false, true, false, true, false, false, false, false, false, true, false, false] rfl rfl rfl rfl (two_of HT_.out (by kernel_rfl)) (by decide) (by decide) (fun K hK => ?_) (fun K hK => ?_)
            ·skip
             refine goes_ Try.func18 (by kernel_rfl) rfl #[.agg #[.slice A0_0 l0_0.length c0_0, .int .i16 a0_1, .int .i16 a0_2, .int .i16 a0_3, .int .i16 a0_4, .bool a0_5]] (by rfl) rfl rfl arg_ ?_
             with_reducible refine (laws_toPuzzle.calls k _ _ l0_0 a0_1 a0_2 a0_3 a0_4 a0_5 t235 t238 t239 t240 t241 t242 _ ?side1 ?side2 A18.out).mono ?_
             (case side1 => repeat (first | exact (Kd.C_below HR0_0.out HB.out) | (with_reducible refine Kd.C_alloc ?_ _) | (with_reducible refine Kd.C_drewN ?_ _) | (with_reducible refine Kd.C_drew ?_)))
             (case side2 => exact HC0_0.out)
             rintro e w33 ⟨v236, rfl, ho0, hb⟩
             refine ⟨_, rfl, ?_⟩
             have n0_ := A_ (Kd.R_lower ho0 (below_size (bl_ HB)))
             have n1_ := A_ (blk_below (pl_ BK231) hb)
             have n2_ := A_ (blk_below (pl_ BK232) hb)
             have n3_ := A_ (below_step (bl_ HB) hb)
             clear BK231
             clear BK232
             clear HB
             have HO237 := n0_
             have BK231 := n1_
             have BK232 := n2_
             have HB := n3_
             clear n0_ n1_ n2_ n3_
             (try clear hb)
             (try clear hb2)
             (try clear hk)
             (try clear hi)
             (try clear ho0)
             refine hK.out _ _ ⟨(blk_cell BK231.out 0).trans rfl, (blk_cell BK231.out 1).trans rfl, (blk_cell BK231.out 2).trans rfl, (blk_cell BK231.out 3).trans rfl, (blk_cell BK231.out 4).trans rfl, (blk_cell BK231.out 5).trans rfl, (blk_cell BK232.out 0).trans rfl, (blk_cell BK232.out 1).trans rfl, (blk_cell BK232.out 2).trans rfl, (blk_cell BK232.out 3).trans rfl⟩ (fun hHeld => ?_)
             clear hK K
             refine norm_ (a' := ?_) ?_ ?_
             rotate_left
             ·show Act.put _ (some 26) _ = _
              simp only [Act.put, List.setIfInBounds_toArray, List.set_cons_zero, List.set_cons_succ, i64_w, i32_w]
              rfl
             exact norm_ (by first | (simp only [putAll, Act.put, List.setIfInBounds_toArray, List.set_cons_zero, List.set_cons_succ]; done) | (simp only [putAll, Act.put, List.setIfInBounds_toArray, List.set_cons_zero, List.set_cons_succ]; rfl)) (hJ1 (v236) _ ⟨hHeld, (pr_ HO237), (pl_ BK231), (pl_ BK232), (bl_ HB)⟩)
            ·skip
             refine box_step ?hg (N := 8) ?hd (cs := #[.int .i16 0, .int .i16 0, .int .i16 0, .int .i16 0]) (t := 30) ?hr ?_; (case hd => rfl); (case hg => rfl); (case hr => first | (go_simp; done) | (go_simp; rfl))
             intro gb255 hg w33 hbox hb
             have n0_ := A_ (blk_below (pl_ BK231) hb)
             have n1_ := A_ (blk_below (pl_ BK232) hb)
             have n2_ := A_ (below_step (bl_ HB) hb)
             have n3_ := A_ (hbox)
             have n4_ := A_ ((by rw [hg]; exact (below_size (bl_ HB)) : w.heap.size ≤ gb255))
             have n5_ := n4_
             have n6_ := A_ ((by rw [hg]; exact Nat.ne_of_lt (blk_lt (pl_ BK231)) : gb231 ≠ gb255))
             have n7_ := Aside0.mk n6_.out.symm
             have n8_ := A_ ((by rw [hg]; exact Nat.ne_of_lt (blk_lt (pl_ BK232)) : gb232 ≠ gb255))
             have n9_ := Aside0.mk n8_.out.symm
             clear BK231
             clear BK232
             clear HB
             have BK231 := n0_
             have BK232 := n1_
             have HB := n2_
             have BK255 := n3_
             have GW255 := n4_
             have GE255 := n5_
             have NB231_255 := n6_
             have NB255_231 := n7_
             have NB232_255 := n8_
             have NB255_232 := n9_
             clear n0_ n1_ n2_ n3_ n4_ n5_ n6_ n7_ n8_ n9_
             clear hb hbox hg
             refine hK.out _ _ ⟨(blk_cell BK231.out 0).trans rfl, (blk_cell BK231.out 1).trans rfl, (blk_cell BK231.out 2).trans rfl, (blk_cell BK231.out 3).trans rfl, (blk_cell BK231.out 4).trans rfl, (blk_cell BK231.out 5).trans rfl, (blk_cell BK232.out 0).trans rfl, (blk_cell BK232.out 1).trans rfl, (blk_cell BK232.out 2).trans rfl, (blk_cell BK232.out 3).trans rfl⟩ (fun hHeld => ?_)
             clear hK K
             refine norm_ (a' := ?_) ?_ ?_
             rotate_left
             ·show Act.put _ (some 8) _ = _
              simp only [Act.put, List.setIfInBounds_toArray, List.set_cons_zero, List.set_cons_succ, i64_w, i32_w]
              rfl
             exact norm_ (by first | (simp only [putAll, Act.put, List.setIfInBounds_toArray, List.set_cons_zero, List.set_cons_succ]; done) | (simp only [putAll, Act.put, List.setIfInBounds_toArray, List.set_cons_zero, List.set_cons_succ]; rfl)) (hJ10 (gb255) _ ⟨hHeld, (pl_ BK231), (pl_ BK232), (pl_ BK255), GW255.out, GE255.out, NB231_255.out, NB255_231.out, NB232_255.out, NB255_232.out, (bl_ HB)⟩)
           ·skip
            rintro gb255 w34 ⟨hS_, h0_, h1_, h2_, h3_, h4_, h5_, h6_, h7_, h8_, h9_⟩
            have n0_ : Aside0 (w34.heap[gb231]? = some (.cells #[.slice A0_0 l0_0.length c0_0, .int .i16 a0_1, .int .i16 a0_2, .int .i16 a0_3, .int .i16 a0_4, .bool a0_5] 26 (0, 0))) := ⟨h0_⟩
            have n1_ : Aside0 (w34.heap[gb232]? = some (.cells #[.int .i16 a1_0, .int .i16 a1_1, .int .i16 a1_2, .int .i16 a1_3] 24 (0, 0))) := ⟨h1_⟩
            have n2_ : Aside0 (w34.heap[gb255]? = some (.cells #[.int .i16 0, .int .i16 0, .int .i16 0, .int .i16 0] 30 (0, 0))) := ⟨h2_⟩
            have n3_ : Aside0 (w.heap.size ≤ gb255) := ⟨h3_⟩
            have n4_ : Aside0 (w.heap.size ≤ gb255) := ⟨h4_⟩
            have n5_ : Aside0 (gb231 ≠ gb255) := ⟨h5_⟩
            have n6_ : Aside0 (gb255 ≠ gb231) := ⟨h6_⟩
            have n7_ : Aside0 (gb232 ≠ gb255) := ⟨h7_⟩
            have n8_ : Aside0 (gb255 ≠ gb232) := ⟨h8_⟩
            have n9_ : Aside0 (Below w.heap.size w w34) := ⟨h9_⟩
            clear BK231
            clear BK232
            clear HB
            clear h0_ h1_ h2_ h3_ h4_ h5_ h6_ h7_ h8_ h9_
            have BK231 := n0_
            have BK232 := n1_
            have BK255 := n2_
            have GW255 := n3_
            have GE255 := n4_
            have NB231_255 := n5_
            have NB255_231 := n6_
            have NB232_255 := n7_
            have NB255_232 := n8_
            have HB := n9_
            clear n0_ n1_ n2_ n3_ n4_ n5_ n6_ n7_ n8_ n9_
            have hHeld : w34.cell? ⟨gb231, 0, none⟩ = some (.slice A0_0 l0_0.length c0_0) ∧ w34.cell? ⟨gb231, 1, none⟩ = some (.int .i16 a0_1) ∧ w34.cell? ⟨gb231, 2, none⟩ = some (.int .i16 a0_2) ∧ w34.cell? ⟨gb231, 3, none⟩ = some (.int .i16 a0_3) ∧ w34.cell? ⟨gb231, 4, none⟩ = some (.int .i16 a0_4) ∧ w34.cell? ⟨gb231, 5, none⟩ = some (.bool a0_5) ∧ w34.cell? ⟨gb232, 0, none⟩ = some (.int .i16 a1_0) ∧ w34.cell? ⟨gb232, 1, none⟩ = some (.int .i16 a1_1) ∧ w34.cell? ⟨gb232, 2, none⟩ = some (.int .i16 a1_2) ∧ w34.cell? ⟨gb232, 3, none⟩ = some (.int .i16 a1_3) := hS_
            refine norm_ (a' := ?_) ?_ ?_
            rotate_left
            ·simp only [putAll, Act.put, List.setIfInBounds_toArray, List.set_cons_zero, List.set_cons_succ]
             rfl
            refine one_ (i := 1) (N := some 26) #[true, true, true, false, true, false, false, false, false, false, true, false, false] rfl rfl (one_of HT_.out (by kernel_rfl)) (by decide) (fun K hK => ?_)
            refine goes_ Try.func18 (by kernel_rfl) rfl #[.agg #[.slice A0_0 l0_0.length c0_0, .int .i16 a0_1, .int .i16 a0_2, .int .i16 a0_3, .int .i16 a0_4, .bool a0_5]] (by rfl) rfl rfl arg_ ?_
            with_reducible refine (laws_toPuzzle.calls k _ _ l0_0 a0_1 a0_2 a0_3 a0_4 a0_5 t235 t238 t239 t240 t241 t242 _ ?side1 ?side2 A18.out).mono ?_
            (case side1 => repeat (first | exact (Kd.C_below HR0_0.out HB.out) | (with_reducible refine Kd.C_alloc ?_ _) | (with_reducible refine Kd.C_drewN ?_ _) | (with_reducible refine Kd.C_drew ?_)))
            (case side2 => exact HC0_0.out)
            rintro e w35 ⟨v236, rfl, ho0, hb⟩
            refine ⟨_, rfl, ?_⟩
            have n0_ := A_ (Kd.R_lower ho0 (below_size (bl_ HB)))
            have n1_ := A_ (blk_below (pl_ BK231) hb)
            have n2_ := A_ (blk_below (pl_ BK232) hb)
            have n3_ := A_ (blk_below (pl_ BK255) hb)
            have n4_ := A_ (below_step (bl_ HB) hb)
            clear BK231
            clear BK232
            clear BK255
            clear HB
            have HO237 := n0_
            have BK231 := n1_
            have BK232 := n2_
            have BK255 := n3_
            have HB := n4_
            clear n0_ n1_ n2_ n3_ n4_
            (try clear hb)
            (try clear hb2)
            (try clear hk)
            (try clear hi)
            (try clear ho0)
            refine hK.out _ _ ⟨(blk_cell BK231.out 0).trans rfl, (blk_cell BK231.out 1).trans rfl, (blk_cell BK231.out 2).trans rfl, (blk_cell BK231.out 3).trans rfl, (blk_cell BK231.out 4).trans rfl, (blk_cell BK231.out 5).trans rfl, (blk_cell BK232.out 0).trans rfl, (blk_cell BK232.out 1).trans rfl, (blk_cell BK232.out 2).trans rfl, (blk_cell BK232.out 3).trans rfl⟩ (fun hHeld => ?_)
            clear hK K
            refine norm_ (a' := ?_) ?_ ?_
            rotate_left
            ·show Act.put _ (some 26) _ = _
             simp only [Act.put, List.setIfInBounds_toArray, List.set_cons_zero, List.set_cons_succ, i64_w, i32_w]
             rfl
            exact norm_ (by first | (simp only [putAll, Act.put, List.setIfInBounds_toArray, List.set_cons_zero, List.set_cons_succ]; done) | (simp only [putAll, Act.put, List.setIfInBounds_toArray, List.set_cons_zero, List.set_cons_succ]; rfl)) (hJ1_10 (v236, gb255) _ ⟨hHeld, (pr_ HO237), (pl_ BK231), (pl_ BK232), (pl_ BK255), GW255.out, GE255.out, NB231_255.out, NB255_231.out, NB232_255.out, NB255_232.out, (bl_ HB)⟩)
          ·skip
           rintro v236 w34 ⟨hS_, h0_, h1_, h2_, h3_⟩
           have n0_ : Aside0 (Kd.R (Kd.int .i16) 23 w34 w.heap.size (fun _ => True) v236 t235) := ⟨h0_⟩
           have n1_ : Aside0 (w34.heap[gb231]? = some (.cells #[.slice A0_0 l0_0.length c0_0, .int .i16 a0_1, .int .i16 a0_2, .int .i16 a0_3, .int .i16 a0_4, .bool a0_5] 26 (0, 0))) := ⟨h1_⟩
           have n2_ : Aside0 (w34.heap[gb232]? = some (.cells #[.int .i16 a1_0, .int .i16 a1_1, .int .i16 a1_2, .int .i16 a1_3] 24 (0, 0))) := ⟨h2_⟩
           have n3_ : Aside0 (Below w.heap.size w w34) := ⟨h3_⟩
           clear BK231
           clear BK232
           clear HB
           clear h0_ h1_ h2_ h3_
           have HO237 := n0_
           have BK231 := n1_
           have BK232 := n2_
           have HB := n3_
           clear n0_ n1_ n2_ n3_
           have hHeld : w34.cell? ⟨gb231, 0, none⟩ = some (.slice A0_0 l0_0.length c0_0) ∧ w34.cell? ⟨gb231, 1, none⟩ = some (.int .i16 a0_1) ∧ w34.cell? ⟨gb231, 2, none⟩ = some (.int .i16 a0_2) ∧ w34.cell? ⟨gb231, 3, none⟩ = some (.int .i16 a0_3) ∧ w34.cell? ⟨gb231, 4, none⟩ = some (.int .i16 a0_4) ∧ w34.cell? ⟨gb231, 5, none⟩ = some (.bool a0_5) ∧ w34.cell? ⟨gb232, 0, none⟩ = some (.int .i16 a1_0) ∧ w34.cell? ⟨gb232, 1, none⟩ = some (.int .i16 a1_1) ∧ w34.cell? ⟨gb232, 2, none⟩ = some (.int .i16 a1_2) ∧ w34.cell? ⟨gb232, 3, none⟩ = some (.int .i16 a1_3) := hS_
           refine norm_ (a' := ?_) ?_ ?_
           rotate_left
           ·simp only [putAll, Act.put, List.setIfInBounds_toArray, List.set_cons_zero, List.set_cons_succ]
            rfl
           refine two_ (i := 3) (j := 10) (Ni := some 28) (Nj := some 8) #[true, true, true, true, true, false, false, false, false, false, false, false, false] #[true, true, true, false, true, false, false, false, false, false, true, false, false] rfl rfl rfl rfl (two_of HT_.out (by kernel_rfl)) (by decide) (by decide) (fun K hK => ?_) (fun K hK => ?_)
           ·skip
            refine goes_ Try.func26 (by kernel_rfl) rfl #[.agg #[.int .i16 a1_0, .int .i16 a1_1, .int .i16 a1_2, .int .i16 a1_3]] (by rfl) rfl rfl arg_ ?_
            with_reducible refine (laws_toWater.calls k a1_0 a1_1 a1_2 a1_3 t243 t244 t245 t246 _ A19.out).mono ?_
            rintro e w35 ⟨rfl, hb⟩
            refine ⟨_, rfl, ?_⟩
            have n0_ := A_ (Kd.R_below (pr_ HO237) hb)
            have n1_ := A_ (blk_below (pl_ BK231) hb)
            have n2_ := A_ (blk_below (pl_ BK232) hb)
            have n3_ := A_ (below_step (bl_ HB) hb)
            clear HO237
            clear BK231
            clear BK232
            clear HB
            have HO237 := n0_
            have BK231 := n1_
            have BK232 := n2_
            have HB := n3_
            clear n0_ n1_ n2_ n3_
            (try clear hb)
            (try clear hb2)
            (try clear hk)
            (try clear hi)
            refine hK.out _ _ ⟨(blk_cell BK231.out 0).trans rfl, (blk_cell BK231.out 1).trans rfl, (blk_cell BK231.out 2).trans rfl, (blk_cell BK231.out 3).trans rfl, (blk_cell BK231.out 4).trans rfl, (blk_cell BK231.out 5).trans rfl, (blk_cell BK232.out 0).trans rfl, (blk_cell BK232.out 1).trans rfl, (blk_cell BK232.out 2).trans rfl, (blk_cell BK232.out 3).trans rfl⟩ (fun hHeld => ?_)
            clear hK K
            refine norm_ (a' := ?_) ?_ ?_
            rotate_left
            ·show Act.put _ (some 28) _ = _
             simp only [Act.put, List.setIfInBounds_toArray, List.set_cons_zero, List.set_cons_succ, i64_w, i32_w]
             rfl
            exact norm_ (by first | (simp only [putAll, Act.put, List.setIfInBounds_toArray, List.set_cons_zero, List.set_cons_succ]; done) | (simp only [putAll, Act.put, List.setIfInBounds_toArray, List.set_cons_zero, List.set_cons_succ]; rfl)) (hJ1_3 (v236) _ ⟨hHeld, (pr_ HO237), (pl_ BK231), (pl_ BK232), (bl_ HB)⟩)
           ·skip
            refine box_step ?hg (N := 8) ?hd (cs := #[.int .i16 0, .int .i16 0, .int .i16 0, .int .i16 0]) (t := 30) ?hr ?_; (case hd => rfl); (case hg => rfl); (case hr => first | (go_simp; done) | (go_simp; rfl))
            intro gb255 hg w35 hbox hb
            have n0_ := A_ (Kd.R_below (pr_ HO237) hb)
            have n1_ := A_ (blk_below (pl_ BK231) hb)
            have n2_ := A_ (blk_below (pl_ BK232) hb)
            have n3_ := A_ (below_step (bl_ HB) hb)
            have n4_ := A_ (hbox)
            have n5_ := A_ ((by rw [hg]; exact (below_size (bl_ HB)) : w.heap.size ≤ gb255))
            have n6_ := n5_
            have n7_ := A_ ((by rw [hg]; exact Nat.ne_of_lt (blk_lt (pl_ BK231)) : gb231 ≠ gb255))
            have n8_ := Aside0.mk n7_.out.symm
            have n9_ := A_ ((by rw [hg]; exact Nat.ne_of_lt (blk_lt (pl_ BK232)) : gb232 ≠ gb255))
            have n10_ := Aside0.mk n9_.out.symm
            clear HO237
            clear BK231
            clear BK232
            clear HB
            have HO237 := n0_
            have BK231 := n1_
            have BK232 := n2_
            have HB := n3_
            have BK255 := n4_
            have GW255 := n5_
            have GE255 := n6_
            have NB231_255 := n7_
            have NB255_231 := n8_
            have NB232_255 := n9_
            have NB255_232 := n10_
            clear n0_ n1_ n2_ n3_ n4_ n5_ n6_ n7_ n8_ n9_ n10_
            clear hb hbox hg
            refine hK.out _ _ ⟨(blk_cell BK231.out 0).trans rfl, (blk_cell BK231.out 1).trans rfl, (blk_cell BK231.out 2).trans rfl, (blk_cell BK231.out 3).trans rfl, (blk_cell BK231.out 4).trans rfl, (blk_cell BK231.out 5).trans rfl, (blk_cell BK232.out 0).trans rfl, (blk_cell BK232.out 1).trans rfl, (blk_cell BK232.out 2).trans rfl, (blk_cell BK232.out 3).trans rfl⟩ (fun hHeld => ?_)
            clear hK K
            refine norm_ (a' := ?_) ?_ ?_
            rotate_left
            ·show Act.put _ (some 8) _ = _
             simp only [Act.put, List.setIfInBounds_toArray, List.set_cons_zero, List.set_cons_succ, i64_w, i32_w]
             rfl
            exact norm_ (by first | (simp only [putAll, Act.put, List.setIfInBounds_toArray, List.set_cons_zero, List.set_cons_succ]; done) | (simp only [putAll, Act.put, List.setIfInBounds_toArray, List.set_cons_zero, List.set_cons_succ]; rfl)) (hJ1_10 (v236, gb255) _ ⟨hHeld, (pr_ HO237), (pl_ BK231), (pl_ BK232), (pl_ BK255), GW255.out, GE255.out, NB231_255.out, NB255_231.out, NB232_255.out, NB255_232.out, (bl_ HB)⟩)
         ·skip
          rintro ⟨v236, gb255⟩ w35 ⟨hS_, h0_, h1_, h2_, h3_, h4_, h5_, h6_, h7_, h8_, h9_, h10_⟩
          have n0_ : Aside0 (Kd.R (Kd.int .i16) 23 w35 w.heap.size (fun _ => True) v236 t235) := ⟨h0_⟩
          have n1_ : Aside0 (w35.heap[gb231]? = some (.cells #[.slice A0_0 l0_0.length c0_0, .int .i16 a0_1, .int .i16 a0_2, .int .i16 a0_3, .int .i16 a0_4, .bool a0_5] 26 (0, 0))) := ⟨h1_⟩
          have n2_ : Aside0 (w35.heap[gb232]? = some (.cells #[.int .i16 a1_0, .int .i16 a1_1, .int .i16 a1_2, .int .i16 a1_3] 24 (0, 0))) := ⟨h2_⟩
          have n3_ : Aside0 (w35.heap[gb255]? = some (.cells #[.int .i16 0, .int .i16 0, .int .i16 0, .int .i16 0] 30 (0, 0))) := ⟨h3_⟩
          have n4_ : Aside0 (w.heap.size ≤ gb255) := ⟨h4_⟩
          have n5_ : Aside0 (w.heap.size ≤ gb255) := ⟨h5_⟩
          have n6_ : Aside0 (gb231 ≠ gb255) := ⟨h6_⟩
          have n7_ : Aside0 (gb255 ≠ gb231) := ⟨h7_⟩
          have n8_ : Aside0 (gb232 ≠ gb255) := ⟨h8_⟩
          have n9_ : Aside0 (gb255 ≠ gb232) := ⟨h9_⟩
          have n10_ : Aside0 (Below w.heap.size w w35) := ⟨h10_⟩
          clear BK231
          clear BK232
          clear HB
          clear h0_ h1_ h2_ h3_ h4_ h5_ h6_ h7_ h8_ h9_ h10_
          have HO237 := n0_
          have BK231 := n1_
          have BK232 := n2_
          have BK255 := n3_
          have GW255 := n4_
          have GE255 := n5_
          have NB231_255 := n6_
          have NB255_231 := n7_
          have NB232_255 := n8_
          have NB255_232 := n9_
          have HB := n10_
          clear n0_ n1_ n2_ n3_ n4_ n5_ n6_ n7_ n8_ n9_ n10_
          have hHeld : w35.cell? ⟨gb231, 0, none⟩ = some (.slice A0_0 l0_0.length c0_0) ∧ w35.cell? ⟨gb231, 1, none⟩ = some (.int .i16 a0_1) ∧ w35.cell? ⟨gb231, 2, none⟩ = some (.int .i16 a0_2) ∧ w35.cell? ⟨gb231, 3, none⟩ = some (.int .i16 a0_3) ∧ w35.cell? ⟨gb231, 4, none⟩ = some (.int .i16 a0_4) ∧ w35.cell? ⟨gb231, 5, none⟩ = some (.bool a0_5) ∧ w35.cell? ⟨gb232, 0, none⟩ = some (.int .i16 a1_0) ∧ w35.cell? ⟨gb232, 1, none⟩ = some (.int .i16 a1_1) ∧ w35.cell? ⟨gb232, 2, none⟩ = some (.int .i16 a1_2) ∧ w35.cell? ⟨gb232, 3, none⟩ = some (.int .i16 a1_3) := hS_
          refine norm_ (a' := ?_) ?_ ?_
          rotate_left
          ·simp only [putAll, Act.put, List.setIfInBounds_toArray, List.set_cons_zero, List.set_cons_succ]
           rfl
          refine one_ (i := 3) (N := some 28) #[true, true, true, true, true, false, false, false, false, false, true, false, false] rfl rfl (one_of HT_.out (by kernel_rfl)) (by decide) (fun K hK => ?_)
          refine goes_ Try.func26 (by kernel_rfl) rfl #[.agg #[.int .i16 a1_0, .int .i16 a1_1, .int .i16 a1_2, .int .i16 a1_3]] (by rfl) rfl rfl arg_ ?_
          with_reducible refine (laws_toWater.calls k a1_0 a1_1 a1_2 a1_3 t243 t244 t245 t246 _ A19.out).mono ?_
          rintro e w36 ⟨rfl, hb⟩
          refine ⟨_, rfl, ?_⟩
          have n0_ := A_ (Kd.R_below (pr_ HO237) hb)
          have n1_ := A_ (blk_below (pl_ BK231) hb)
          have n2_ := A_ (blk_below (pl_ BK232) hb)
          have n3_ := A_ (blk_below (pl_ BK255) hb)
          have n4_ := A_ (below_step (bl_ HB) hb)
          clear HO237
          clear BK231
          clear BK232
          clear BK255
          clear HB
          have HO237 := n0_
          have BK231 := n1_
          have BK232 := n2_
          have BK255 := n3_
          have HB := n4_
          clear n0_ n1_ n2_ n3_ n4_
          (try clear hb)
          (try clear hb2)
          (try clear hk)
          (try clear hi)
          refine hK.out _ _ ⟨(blk_cell BK231.out 0).trans rfl, (blk_cell BK231.out 1).trans rfl, (blk_cell BK231.out 2).trans rfl, (blk_cell BK231.out 3).trans rfl, (blk_cell BK231.out 4).trans rfl, (blk_cell BK231.out 5).trans rfl, (blk_cell BK232.out 0).trans rfl, (blk_cell BK232.out 1).trans rfl, (blk_cell BK232.out 2).trans rfl, (blk_cell BK232.out 3).trans rfl⟩ (fun hHeld => ?_)
          clear hK K
          refine norm_ (a' := ?_) ?_ ?_
          rotate_left
          ·show Act.put _ (some 28) _ = _
           simp only [Act.put, List.setIfInBounds_toArray, List.set_cons_zero, List.set_cons_succ, i64_w, i32_w]
           rfl
          exact norm_ (by first | (simp only [putAll, Act.put, List.setIfInBounds_toArray, List.set_cons_zero, List.set_cons_succ]; done) | (simp only [putAll, Act.put, List.setIfInBounds_toArray, List.set_cons_zero, List.set_cons_succ]; rfl)) (hJ1_3_10 (v236, gb255) _ ⟨hHeld, (pr_ HO237), (pl_ BK231), (pl_ BK232), (pl_ BK255), GW255.out, GE255.out, NB231_255.out, NB255_231.out, NB232_255.out, NB255_232.out, (bl_ HB)⟩)
        ·skip
         rintro v236 w35 ⟨hS_, h0_, h1_, h2_, h3_⟩
         have n0_ : Aside0 (Kd.R (Kd.int .i16) 23 w35 w.heap.size (fun _ => True) v236 t235) := ⟨h0_⟩
         have n1_ : Aside0 (w35.heap[gb231]? = some (.cells #[.slice A0_0 l0_0.length c0_0, .int .i16 a0_1, .int .i16 a0_2, .int .i16 a0_3, .int .i16 a0_4, .bool a0_5] 26 (0, 0))) := ⟨h1_⟩
         have n2_ : Aside0 (w35.heap[gb232]? = some (.cells #[.int .i16 a1_0, .int .i16 a1_1, .int .i16 a1_2, .int .i16 a1_3] 24 (0, 0))) := ⟨h2_⟩
         have n3_ : Aside0 (Below w.heap.size w w35) := ⟨h3_⟩
         clear BK231
         clear BK232
         clear HB
         clear h0_ h1_ h2_ h3_
         have HO237 := n0_
         have BK231 := n1_
         have BK232 := n2_
         have HB := n3_
         clear n0_ n1_ n2_ n3_
         have hHeld : w35.cell? ⟨gb231, 0, none⟩ = some (.slice A0_0 l0_0.length c0_0) ∧ w35.cell? ⟨gb231, 1, none⟩ = some (.int .i16 a0_1) ∧ w35.cell? ⟨gb231, 2, none⟩ = some (.int .i16 a0_2) ∧ w35.cell? ⟨gb231, 3, none⟩ = some (.int .i16 a0_3) ∧ w35.cell? ⟨gb231, 4, none⟩ = some (.int .i16 a0_4) ∧ w35.cell? ⟨gb231, 5, none⟩ = some (.bool a0_5) ∧ w35.cell? ⟨gb232, 0, none⟩ = some (.int .i16 a1_0) ∧ w35.cell? ⟨gb232, 1, none⟩ = some (.int .i16 a1_1) ∧ w35.cell? ⟨gb232, 2, none⟩ = some (.int .i16 a1_2) ∧ w35.cell? ⟨gb232, 3, none⟩ = some (.int .i16 a1_3) := hS_
         refine norm_ (a' := ?_) ?_ ?_
         rotate_left
         ·simp only [putAll, Act.put, List.setIfInBounds_toArray, List.set_cons_zero, List.set_cons_succ]
          rfl
         refine two_ (i := 5) (j := 10) (Ni := some 30) (Nj := some 8) #[true, true, true, true, true, true, false, false, false, false, false, false, false] #[true, true, true, true, true, false, false, false, false, false, true, false, false] rfl rfl rfl rfl (two_of HT_.out (by kernel_rfl)) (by decide) (by decide) (fun K hK => ?_) (fun K hK => ?_)
         ·skip
          refine goes_ Try.func39 (by kernel_rfl) rfl #[.slice A2 l2.length c2] (by rfl) rfl rfl arg_ ?_
          with_reducible refine (laws_toMoveS.calls k _ _ l2 t247 _ ?side1 ?side2 A20.out).mono ?_
          (case side1 => repeat (first | exact (Kd.C_below HR2.out HB.out) | (with_reducible refine Kd.C_alloc ?_ _) | (with_reducible refine Kd.C_drewN ?_ _) | (with_reducible refine Kd.C_drew ?_)))
          (case side2 => exact HC2.out)
          rintro e w36 ⟨v248, rfl, ho0, hb⟩
          refine ⟨_, rfl, ?_⟩
          have n0_ := A_ (Kd.R_below (pr_ HO237) hb)
          have n1_ := A_ (Kd.R_lower ho0 (below_size (bl_ HB)))
          have n2_ := A_ (blk_below (pl_ BK231) hb)
          have n3_ := A_ (blk_below (pl_ BK232) hb)
          have n4_ := A_ (below_step (bl_ HB) hb)
          clear HO237
          clear BK231
          clear BK232
          clear HB
          have HO237 := n0_
          have HO249 := n1_
          have BK231 := n2_
          have BK232 := n3_
          have HB := n4_
          clear n0_ n1_ n2_ n3_ n4_
          (try clear hb)
          (try clear hb2)
          (try clear hk)
          (try clear hi)
          (try clear ho0)
          refine hK.out _ _ ⟨(blk_cell BK231.out 0).trans rfl, (blk_cell BK231.out 1).trans rfl, (blk_cell BK231.out 2).trans rfl, (blk_cell BK231.out 3).trans rfl, (blk_cell BK231.out 4).trans rfl, (blk_cell BK231.out 5).trans rfl, (blk_cell BK232.out 0).trans rfl, (blk_cell BK232.out 1).trans rfl, (blk_cell BK232.out 2).trans rfl, (blk_cell BK232.out 3).trans rfl⟩ (fun hHeld => ?_)
          clear hK K
          refine norm_ (a' := ?_) ?_ ?_
          rotate_left
          ·show Act.put _ (some 30) _ = _
           simp only [Act.put, List.setIfInBounds_toArray, List.set_cons_zero, List.set_cons_succ, i64_w, i32_w]
           rfl
          exact norm_ (by first | (simp only [putAll, Act.put, List.setIfInBounds_toArray, List.set_cons_zero, List.set_cons_succ]; done) | (simp only [putAll, Act.put, List.setIfInBounds_toArray, List.set_cons_zero, List.set_cons_succ]; rfl)) (hJ1_3_5 (v236, v248) _ ⟨hHeld, (pr_ HO237), (pr_ HO249), (pl_ BK231), (pl_ BK232), (bl_ HB)⟩)
         ·skip
          refine box_step ?hg (N := 8) ?hd (cs := #[.int .i16 0, .int .i16 0, .int .i16 0, .int .i16 0]) (t := 30) ?hr ?_; (case hd => rfl); (case hg => rfl); (case hr => first | (go_simp; done) | (go_simp; rfl))
          intro gb255 hg w36 hbox hb
          have n0_ := A_ (Kd.R_below (pr_ HO237) hb)
          have n1_ := A_ (blk_below (pl_ BK231) hb)
          have n2_ := A_ (blk_below (pl_ BK232) hb)
          have n3_ := A_ (below_step (bl_ HB) hb)
          have n4_ := A_ (hbox)
          have n5_ := A_ ((by rw [hg]; exact (below_size (bl_ HB)) : w.heap.size ≤ gb255))
          have n6_ := n5_
          have n7_ := A_ ((by rw [hg]; exact Nat.ne_of_lt (blk_lt (pl_ BK231)) : gb231 ≠ gb255))
          have n8_ := Aside0.mk n7_.out.symm
          have n9_ := A_ ((by rw [hg]; exact Nat.ne_of_lt (blk_lt (pl_ BK232)) : gb232 ≠ gb255))
          have n10_ := Aside0.mk n9_.out.symm
          clear HO237
          clear BK231
          clear BK232
          clear HB
          have HO237 := n0_
          have BK231 := n1_
          have BK232 := n2_
          have HB := n3_
          have BK255 := n4_
          have GW255 := n5_
          have GE255 := n6_
          have NB231_255 := n7_
          have NB255_231 := n8_
          have NB232_255 := n9_
          have NB255_232 := n10_
          clear n0_ n1_ n2_ n3_ n4_ n5_ n6_ n7_ n8_ n9_ n10_
          clear hb hbox hg
          refine hK.out _ _ ⟨(blk_cell BK231.out 0).trans rfl, (blk_cell BK231.out 1).trans rfl, (blk_cell BK231.out 2).trans rfl, (blk_cell BK231.out 3).trans rfl, (blk_cell BK231.out 4).trans rfl, (blk_cell BK231.out 5).trans rfl, (blk_cell BK232.out 0).trans rfl, (blk_cell BK232.out 1).trans rfl, (blk_cell BK232.out 2).trans rfl, (blk_cell BK232.out 3).trans rfl⟩ (fun hHeld => ?_)
          clear hK K
          refine norm_ (a' := ?_) ?_ ?_
          rotate_left
          ·show Act.put _ (some 8) _ = _
           simp only [Act.put, List.setIfInBounds_toArray, List.set_cons_zero, List.set_cons_succ, i64_w, i32_w]
           rfl
          exact norm_ (by first | (simp only [putAll, Act.put, List.setIfInBounds_toArray, List.set_cons_zero, List.set_cons_succ]; done) | (simp only [putAll, Act.put, List.setIfInBounds_toArray, List.set_cons_zero, List.set_cons_succ]; rfl)) (hJ1_3_10 (v236, gb255) _ ⟨hHeld, (pr_ HO237), (pl_ BK231), (pl_ BK232), (pl_ BK255), GW255.out, GE255.out, NB231_255.out, NB255_231.out, NB232_255.out, NB255_232.out, (bl_ HB)⟩)
       ·skip
        rintro ⟨v236, gb255⟩ w36 ⟨hS_, h0_, h1_, h2_, h3_, h4_, h5_, h6_, h7_, h8_, h9_, h10_⟩
        have n0_ : Aside0 (Kd.R (Kd.int .i16) 23 w36 w.heap.size (fun _ => True) v236 t235) := ⟨h0_⟩
        have n1_ : Aside0 (w36.heap[gb231]? = some (.cells #[.slice A0_0 l0_0.length c0_0, .int .i16 a0_1, .int .i16 a0_2, .int .i16 a0_3, .int .i16 a0_4, .bool a0_5] 26 (0, 0))) := ⟨h1_⟩
        have n2_ : Aside0 (w36.heap[gb232]? = some (.cells #[.int .i16 a1_0, .int .i16 a1_1, .int .i16 a1_2, .int .i16 a1_3] 24 (0, 0))) := ⟨h2_⟩
        have n3_ : Aside0 (w36.heap[gb255]? = some (.cells #[.int .i16 0, .int .i16 0, .int .i16 0, .int .i16 0] 30 (0, 0))) := ⟨h3_⟩
        have n4_ : Aside0 (w.heap.size ≤ gb255) := ⟨h4_⟩
        have n5_ : Aside0 (w.heap.size ≤ gb255) := ⟨h5_⟩
        have n6_ : Aside0 (gb231 ≠ gb255) := ⟨h6_⟩
        have n7_ : Aside0 (gb255 ≠ gb231) := ⟨h7_⟩
        have n8_ : Aside0 (gb232 ≠ gb255) := ⟨h8_⟩
        have n9_ : Aside0 (gb255 ≠ gb232) := ⟨h9_⟩
        have n10_ : Aside0 (Below w.heap.size w w36) := ⟨h10_⟩
        clear BK231
        clear BK232
        clear HB
        clear h0_ h1_ h2_ h3_ h4_ h5_ h6_ h7_ h8_ h9_ h10_
        have HO237 := n0_
        have BK231 := n1_
        have BK232 := n2_
        have BK255 := n3_
        have GW255 := n4_
        have GE255 := n5_
        have NB231_255 := n6_
        have NB255_231 := n7_
        have NB232_255 := n8_
        have NB255_232 := n9_
        have HB := n10_
        clear n0_ n1_ n2_ n3_ n4_ n5_ n6_ n7_ n8_ n9_ n10_
        have hHeld : w36.cell? ⟨gb231, 0, none⟩ = some (.slice A0_0 l0_0.length c0_0) ∧ w36.cell? ⟨gb231, 1, none⟩ = some (.int .i16 a0_1) ∧ w36.cell? ⟨gb231, 2, none⟩ = some (.int .i16 a0_2) ∧ w36.cell? ⟨gb231, 3, none⟩ = some (.int .i16 a0_3) ∧ w36.cell? ⟨gb231, 4, none⟩ = some (.int .i16 a0_4) ∧ w36.cell? ⟨gb231, 5, none⟩ = some (.bool a0_5) ∧ w36.cell? ⟨gb232, 0, none⟩ = some (.int .i16 a1_0) ∧ w36.cell? ⟨gb232, 1, none⟩ = some (.int .i16 a1_1) ∧ w36.cell? ⟨gb232, 2, none⟩ = some (.int .i16 a1_2) ∧ w36.cell? ⟨gb232, 3, none⟩ = some (.int .i16 a1_3) := hS_
        refine norm_ (a' := ?_) ?_ ?_
        rotate_left
        ·simp only [putAll, Act.put, List.setIfInBounds_toArray, List.set_cons_zero, List.set_cons_succ]
         rfl
        refine one_ (i := 5) (N := some 30) #[true, true, true, true, true, true, false, false, false, false, true, false, false] rfl rfl (one_of HT_.out (by kernel_rfl)) (by decide) (fun K hK => ?_)
        refine goes_ Try.func39 (by kernel_rfl) rfl #[.slice A2 l2.length c2] (by rfl) rfl rfl arg_ ?_
        with_reducible refine (laws_toMoveS.calls k _ _ l2 t247 _ ?side1 ?side2 A20.out).mono ?_
        (case side1 => repeat (first | exact (Kd.C_below HR2.out HB.out) | (with_reducible refine Kd.C_alloc ?_ _) | (with_reducible refine Kd.C_drewN ?_ _) | (with_reducible refine Kd.C_drew ?_)))
        (case side2 => exact HC2.out)
        rintro e w37 ⟨v248, rfl, ho0, hb⟩
        refine ⟨_, rfl, ?_⟩
        have n0_ := A_ (Kd.R_below (pr_ HO237) hb)
        have n1_ := A_ (Kd.R_lower ho0 (below_size (bl_ HB)))
        have n2_ := A_ (blk_below (pl_ BK231) hb)
        have n3_ := A_ (blk_below (pl_ BK232) hb)
        have n4_ := A_ (blk_below (pl_ BK255) hb)
        have n5_ := A_ (below_step (bl_ HB) hb)
        clear HO237
        clear BK231
        clear BK232
        clear BK255
        clear HB
        have HO237 := n0_
        have HO249 := n1_
        have BK231 := n2_
        have BK232 := n3_
        have BK255 := n4_
        have HB := n5_
        clear n0_ n1_ n2_ n3_ n4_ n5_
        (try clear hb)
        (try clear hb2)
        (try clear hk)
        (try clear hi)
        (try clear ho0)
        refine hK.out _ _ ⟨(blk_cell BK231.out 0).trans rfl, (blk_cell BK231.out 1).trans rfl, (blk_cell BK231.out 2).trans rfl, (blk_cell BK231.out 3).trans rfl, (blk_cell BK231.out 4).trans rfl, (blk_cell BK231.out 5).trans rfl, (blk_cell BK232.out 0).trans rfl, (blk_cell BK232.out 1).trans rfl, (blk_cell BK232.out 2).trans rfl, (blk_cell BK232.out 3).trans rfl⟩ (fun hHeld => ?_)
        clear hK K
        refine norm_ (a' := ?_) ?_ ?_
        rotate_left
        ·show Act.put _ (some 30) _ = _
         simp only [Act.put, List.setIfInBounds_toArray, List.set_cons_zero, List.set_cons_succ, i64_w, i32_w]
         rfl
        exact norm_ (by first | (simp only [putAll, Act.put, List.setIfInBounds_toArray, List.set_cons_zero, List.set_cons_succ]; done) | (simp only [putAll, Act.put, List.setIfInBounds_toArray, List.set_cons_zero, List.set_cons_succ]; rfl)) (hJ1_3_5_10 (v236, v248, gb255) _ ⟨hHeld, (pr_ HO237), (pr_ HO249), (pl_ BK231), (pl_ BK232), (pl_ BK255), GW255.out, GE255.out, NB231_255.out, NB255_231.out, NB232_255.out, NB255_232.out, (bl_ HB)⟩)
      ·skip
       rintro ⟨v236, v248⟩ w36 ⟨hS_, h0_, h1_, h2_, h3_, h4_⟩
       have n0_ : Aside0 (Kd.R (Kd.int .i16) 23 w36 w.heap.size (fun _ => True) v236 t235) := ⟨h0_⟩
       have n1_ : Aside0 (Kd.R k60 60 w36 w.heap.size (fun _ => True) v248 t247) := ⟨h1_⟩
       have n2_ : Aside0 (w36.heap[gb231]? = some (.cells #[.slice A0_0 l0_0.length c0_0, .int .i16 a0_1, .int .i16 a0_2, .int .i16 a0_3, .int .i16 a0_4, .bool a0_5] 26 (0, 0))) := ⟨h2_⟩
       have n3_ : Aside0 (w36.heap[gb232]? = some (.cells #[.int .i16 a1_0, .int .i16 a1_1, .int .i16 a1_2, .int .i16 a1_3] 24 (0, 0))) := ⟨h3_⟩
       have n4_ : Aside0 (Below w.heap.size w w36) := ⟨h4_⟩
       clear BK231
       clear BK232
       clear HB
       clear h0_ h1_ h2_ h3_ h4_
       have HO237 := n0_
       have HO249 := n1_
       have BK231 := n2_
       have BK232 := n3_
       have HB := n4_
       clear n0_ n1_ n2_ n3_ n4_
       have hHeld : w36.cell? ⟨gb231, 0, none⟩ = some (.slice A0_0 l0_0.length c0_0) ∧ w36.cell? ⟨gb231, 1, none⟩ = some (.int .i16 a0_1) ∧ w36.cell? ⟨gb231, 2, none⟩ = some (.int .i16 a0_2) ∧ w36.cell? ⟨gb231, 3, none⟩ = some (.int .i16 a0_3) ∧ w36.cell? ⟨gb231, 4, none⟩ = some (.int .i16 a0_4) ∧ w36.cell? ⟨gb231, 5, none⟩ = some (.bool a0_5) ∧ w36.cell? ⟨gb232, 0, none⟩ = some (.int .i16 a1_0) ∧ w36.cell? ⟨gb232, 1, none⟩ = some (.int .i16 a1_1) ∧ w36.cell? ⟨gb232, 2, none⟩ = some (.int .i16 a1_2) ∧ w36.cell? ⟨gb232, 3, none⟩ = some (.int .i16 a1_3) := hS_
       obtain ⟨Ao37, co37, eo37⟩ := Kd.R_slice HO237.out
       (first | subst eo37 | (injection eo37 with f1_ f2_ f3_; have f4_ := f1_.symm; have f5_ := f3_.symm; clear f1_ f2_ f3_; subst f4_; subst f5_))
       obtain ⟨Ao38, co38, eo38⟩ := Kd.R_slice HO249.out
       (first | subst eo38 | (injection eo38 with f1_ f2_ f3_; have f4_ := f1_.symm; have f5_ := f3_.symm; clear f1_ f2_ f3_; subst f4_; subst f5_))
       refine norm_ (a' := ?_) ?_ ?_
       rotate_left
       ·simp only [putAll, Act.put, List.setIfInBounds_toArray, List.set_cons_zero, List.set_cons_succ]
        rfl
       refine two_ (i := 6) (j := 10) (Ni := some 31) (Nj := some 8) #[true, true, true, true, true, true, true, false, false, false, false, false, false] #[true, true, true, true, true, true, false, false, false, false, true, false, false] rfl rfl rfl rfl (two_of HT_.out (by kernel_rfl)) (by decide) (by decide) (fun K hK => ?_) (fun K hK => ?_)
       ·skip
        refine goes_ Try.func45 (by kernel_rfl) rfl #[.agg #[.slice Ao37 t235.length co37, .int .i16 t238, .int .i16 t239, .int .i16 t240, .int .i16 t241, .bool t242], .agg #[.int .i16 t243, .int .i16 t244, .int .i16 t245, .int .i16 t246], .slice Ao38 t247.length co38] (by rfl) rfl rfl arg_ ?_
        with_reducible refine (spec_DoMoves.calls k _ _ t235 t238 t239 t240 t241 t242 t243 t244 t245 t246 _ _ t247 t250 t251 t252 t253 t254 _ ?side1 ?side2 ?side3 ?side4 A21.out).mono ?_
        (case side1 => repeat (first | exact (Kd.R_reads' HO237.out).2.2 | (with_reducible refine Kd.C_alloc ?_ _) | (with_reducible refine Kd.C_drewN ?_ _) | (with_reducible refine Kd.C_drew ?_)))
        (case side2 => exact (Kd.R_reads' HO237.out).2.1)
        (case side3 => repeat (first | exact (Kd.R_reads' HO249.out).2.2 | (with_reducible refine Kd.C_alloc ?_ _) | (with_reducible refine Kd.C_drewN ?_ _) | (with_reducible refine Kd.C_drew ?_)))
        (case side4 => exact (Kd.R_reads' HO249.out).2.1)
        rintro e w39 ⟨rfl, hb⟩
        refine ⟨_, rfl, ?_⟩
        have n0_ := A_ (Kd.R_below (pr_ HO237) hb)
        have n1_ := A_ (Kd.R_below (pr_ HO249) hb)
        have n2_ := A_ (blk_below (pl_ BK231) hb)
        have n3_ := A_ (blk_below (pl_ BK232) hb)
        have n4_ := A_ (below_step (bl_ HB) hb)
        clear HO237
        clear HO249
        clear BK231
        clear BK232
        clear HB
        have HO237 := n0_
        have HO249 := n1_
        have BK231 := n2_
        have BK232 := n3_
        have HB := n4_
        clear n0_ n1_ n2_ n3_ n4_
        (try clear hb)
        (try clear hb2)
        (try clear hk)
        (try clear hi)
        refine hK.out _ _ ⟨(blk_cell BK231.out 0).trans rfl, (blk_cell BK231.out 1).trans rfl, (blk_cell BK231.out 2).trans rfl, (blk_cell BK231.out 3).trans rfl, (blk_cell BK231.out 4).trans rfl, (blk_cell BK231.out 5).trans rfl, (blk_cell BK232.out 0).trans rfl, (blk_cell BK232.out 1).trans rfl, (blk_cell BK232.out 2).trans rfl, (blk_cell BK232.out 3).trans rfl⟩ (fun hHeld => ?_)
        clear hK K
        refine norm_ (a' := ?_) ?_ ?_
        rotate_left
        ·show Act.put _ (some 31) _ = _
         simp only [Act.put, List.setIfInBounds_toArray, List.set_cons_zero, List.set_cons_succ, i64_w, i32_w]
         rfl
        refine pure_ (i := 7) (N := some 24) (v := ?_) (a' := ?_) #[true, true, true, true, true, true, true, true, false, false, false, false, false] rfl rfl (any_of HT_.out (by kernel_rfl)) (fun _ _ _ h => h) (Or.inl ⟨by rfl, ?_⟩) ?_ ?_
        rotate_left
        ·intro w'
         go_simp
         with_reducible rfl
        rotate_left
        ·simp only [Act.put, List.setIfInBounds_toArray, List.set_cons_zero, List.set_cons_succ, i64_w, i32_w]
         rfl
        refine pure_ (i := 8) (N := some 32) (v := ?_) (a' := ?_) #[true, true, true, true, true, true, true, true, true, false, false, false, false] rfl rfl (any_of HT_.out (by kernel_rfl)) (fun _ _ _ h => h) (Or.inl ⟨by rfl, ?_⟩) ?_ ?_
        rotate_left
        ·intro w'
         go_simp
         with_reducible rfl
        rotate_left
        ·simp only [Act.put, List.setIfInBounds_toArray, List.set_cons_zero, List.set_cons_succ, i64_w, i32_w]
         rfl
        refine pure_ (i := 9) (N := some 33) (v := ?_) (a' := ?_) #[true, true, true, true, true, true, true, true, true, true, false, false, false] rfl rfl (any_of HT_.out (by kernel_rfl)) (fun _ _ _ h => h) (Or.inl ⟨by rfl, ?_⟩) ?_ ?_
        rotate_left
        ·intro w'
         go_simp
         with_reducible rfl
        rotate_left
        ·simp only [Act.put, List.setIfInBounds_toArray, List.set_cons_zero, List.set_cons_succ, i64_w, i32_w]
         rfl
        exact norm_ (by first | (simp only [putAll, Act.put, List.setIfInBounds_toArray, List.set_cons_zero, List.set_cons_succ]; done) | (simp only [putAll, Act.put, List.setIfInBounds_toArray, List.set_cons_zero, List.set_cons_succ]; rfl)) (hJ1_3_5_6 (.slice Ao37 t235.length co37, .slice Ao38 t247.length co38) _ ⟨hHeld, (pr_ HO237), (pr_ HO249), (pl_ BK231), (pl_ BK232), (bl_ HB)⟩)
       ·skip
        refine box_step ?hg (N := 8) ?hd (cs := #[.int .i16 0, .int .i16 0, .int .i16 0, .int .i16 0]) (t := 30) ?hr ?_; (case hd => rfl); (case hg => rfl); (case hr => first | (go_simp; done) | (go_simp; rfl))
        intro gb255 hg w37 hbox hb
        have n0_ := A_ (Kd.R_below (pr_ HO237) hb)
        have n1_ := A_ (Kd.R_below (pr_ HO249) hb)
        have n2_ := A_ (blk_below (pl_ BK231) hb)
        have n3_ := A_ (blk_below (pl_ BK232) hb)
        have n4_ := A_ (below_step (bl_ HB) hb)
        have n5_ := A_ (hbox)
        have n6_ := A_ ((by rw [hg]; exact (below_size (bl_ HB)) : w.heap.size ≤ gb255))
        have n7_ := n6_
        have n8_ := A_ ((by rw [hg]; exact Nat.ne_of_lt (blk_lt (pl_ BK231)) : gb231 ≠ gb255))
        have n9_ := Aside0.mk n8_.out.symm
        have n10_ := A_ ((by rw [hg]; exact Nat.ne_of_lt (blk_lt (pl_ BK232)) : gb232 ≠ gb255))
        have n11_ := Aside0.mk n10_.out.symm
        clear HO237
        clear HO249
        clear BK231
        clear BK232
        clear HB
        have HO237 := n0_
        have HO249 := n1_
        have BK231 := n2_
        have BK232 := n3_
        have HB := n4_
        have BK255 := n5_
        have GW255 := n6_
        have GE255 := n7_
        have NB231_255 := n8_
        have NB255_231 := n9_
        have NB232_255 := n10_
        have NB255_232 := n11_
        clear n0_ n1_ n2_ n3_ n4_ n5_ n6_ n7_ n8_ n9_ n10_ n11_
        clear hb hbox hg
        refine hK.out _ _ ⟨(blk_cell BK231.out 0).trans rfl, (blk_cell BK231.out 1).trans rfl, (blk_cell BK231.out 2).trans rfl, (blk_cell BK231.out 3).trans rfl, (blk_cell BK231.out 4).trans rfl, (blk_cell BK231.out 5).trans rfl, (blk_cell BK232.out 0).trans rfl, (blk_cell BK232.out 1).trans rfl, (blk_cell BK232.out 2).trans rfl, (blk_cell BK232.out 3).trans rfl⟩ (fun hHeld => ?_)
        clear hK K
        refine norm_ (a' := ?_) ?_ ?_
        rotate_left
        ·show Act.put _ (some 8) _ = _
         simp only [Act.put, List.setIfInBounds_toArray, List.set_cons_zero, List.set_cons_succ, i64_w, i32_w]
         rfl
        exact norm_ (by first | (simp only [putAll, Act.put, List.setIfInBounds_toArray, List.set_cons_zero, List.set_cons_succ]; done) | (simp only [putAll, Act.put, List.setIfInBounds_toArray, List.set_cons_zero, List.set_cons_succ]; rfl)) (hJ1_3_5_10 (.slice Ao37 t235.length co37, .slice Ao38 t247.length co38, gb255) _ ⟨hHeld, (pr_ HO237), (pr_ HO249), (pl_ BK231), (pl_ BK232), (pl_ BK255), GW255.out, GE255.out, NB231_255.out, NB255_231.out, NB232_255.out, NB255_232.out, (bl_ HB)⟩)
     ·skip
      rintro ⟨v236, v248, gb255⟩ w37 ⟨hS_, h0_, h1_, h2_, h3_, h4_, h5_, h6_, h7_, h8_, h9_, h10_, h11_⟩
      have n0_ : Aside0 (Kd.R (Kd.int .i16) 23 w37 w.heap.size (fun _ => True) v236 t235) := ⟨h0_⟩
      have n1_ : Aside0 (Kd.R k60 60 w37 w.heap.size (fun _ => True) v248 t247) := ⟨h1_⟩
      have n2_ : Aside0 (w37.heap[gb231]? = some (.cells #[.slice A0_0 l0_0.length c0_0, .int .i16 a0_1, .int .i16 a0_2, .int .i16 a0_3, .int .i16 a0_4, .bool a0_5] 26 (0, 0))) := ⟨h2_⟩
      have n3_ : Aside0 (w37.heap[gb232]? = some (.cells #[.int .i16 a1_0, .int .i16 a1_1, .int .i16 a1_2, .int .i16 a1_3] 24 (0, 0))) := ⟨h3_⟩
      have n4_ : Aside0 (w37.heap[gb255]? = some (.cells #[.int .i16 0, .int .i16 0, .int .i16 0, .int .i16 0] 30 (0, 0))) := ⟨h4_⟩
      have n5_ : Aside0 (w.heap.size ≤ gb255) := ⟨h5_⟩
      have n6_ : Aside0 (w.heap.size ≤ gb255) := ⟨h6_⟩
      have n7_ : Aside0 (gb231 ≠ gb255) := ⟨h7_⟩
      have n8_ : Aside0 (gb255 ≠ gb231) := ⟨h8_⟩
      have n9_ : Aside0 (gb232 ≠ gb255) := ⟨h9_⟩
      have n10_ : Aside0 (gb255 ≠ gb232) := ⟨h10_⟩
      have n11_ : Aside0 (Below w.heap.size w w37) := ⟨h11_⟩
      clear BK231
      clear BK232
      clear HB
      clear h0_ h1_ h2_ h3_ h4_ h5_ h6_ h7_ h8_ h9_ h10_ h11_
      have HO237 := n0_
      have HO249 := n1_
      have BK231 := n2_
      have BK232 := n3_
      have BK255 := n4_
      have GW255 := n5_
      have GE255 := n6_
      have NB231_255 := n7_
      have NB255_231 := n8_
      have NB232_255 := n9_
      have NB255_232 := n10_
      have HB := n11_
      clear n0_ n1_ n2_ n3_ n4_ n5_ n6_ n7_ n8_ n9_ n10_ n11_
      have hHeld : w37.cell? ⟨gb231, 0, none⟩ = some (.slice A0_0 l0_0.length c0_0) ∧ w37.cell? ⟨gb231, 1, none⟩ = some (.int .i16 a0_1) ∧ w37.cell? ⟨gb231, 2, none⟩ = some (.int .i16 a0_2) ∧ w37.cell? ⟨gb231, 3, none⟩ = some (.int .i16 a0_3) ∧ w37.cell? ⟨gb231, 4, none⟩ = some (.int .i16 a0_4) ∧ w37.cell? ⟨gb231, 5, none⟩ = some (.bool a0_5) ∧ w37.cell? ⟨gb232, 0, none⟩ = some (.int .i16 a1_0) ∧ w37.cell? ⟨gb232, 1, none⟩ = some (.int .i16 a1_1) ∧ w37.cell? ⟨gb232, 2, none⟩ = some (.int .i16 a1_2) ∧ w37.cell? ⟨gb232, 3, none⟩ = some (.int .i16 a1_3) := hS_
      obtain ⟨Ao38, co38, eo38⟩ := Kd.R_slice HO237.out
      (first | subst eo38 | (injection eo38 with f1_ f2_ f3_; have f4_ := f1_.symm; have f5_ := f3_.symm; clear f1_ f2_ f3_; subst f4_; subst f5_))
      obtain ⟨Ao39, co39, eo39⟩ := Kd.R_slice HO249.out
      (first | subst eo39 | (injection eo39 with f1_ f2_ f3_; have f4_ := f1_.symm; have f5_ := f3_.symm; clear f1_ f2_ f3_; subst f4_; subst f5_))
      refine norm_ (a' := ?_) ?_ ?_
      rotate_left
      ·simp only [putAll, Act.put, List.setIfInBounds_toArray, List.set_cons_zero, List.set_cons_succ]
       rfl
      refine one_ (i := 6) (N := some 31) #[true, true, true, true, true, true, true, false, false, false, true, false, false] rfl rfl (one_of HT_.out (by kernel_rfl)) (by decide) (fun K hK => ?_)
      refine goes_ Try.func45 (by kernel_rfl) rfl #[.agg #[.slice Ao38 t235.length co38, .int .i16 t238, .int .i16 t239, .int .i16 t240, .int .i16 t241, .bool t242], .agg #[.int .i16 t243, .int .i16 t244, .int .i16 t245, .int .i16 t246], .slice Ao39 t247.length co39] (by rfl) rfl rfl arg_ ?_
      with_reducible refine (spec_DoMoves.calls k _ _ t235 t238 t239 t240 t241 t242 t243 t244 t245 t246 _ _ t247 t250 t251 t252 t253 t254 _ ?side1 ?side2 ?side3 ?side4 A21.out).mono ?_
      (case side1 => repeat (first | exact (Kd.R_reads' HO237.out).2.2 | (with_reducible refine Kd.C_alloc ?_ _) | (with_reducible refine Kd.C_drewN ?_ _) | (with_reducible refine Kd.C_drew ?_)))
      (case side2 => exact (Kd.R_reads' HO237.out).2.1)
      (case side3 => repeat (first | exact (Kd.R_reads' HO249.out).2.2 | (with_reducible refine Kd.C_alloc ?_ _) | (with_reducible refine Kd.C_drewN ?_ _) | (with_reducible refine Kd.C_drew ?_)))
      (case side4 => exact (Kd.R_reads' HO249.out).2.1)
      rintro e w40 ⟨rfl, hb⟩
      refine ⟨_, rfl, ?_⟩
      have n0_ := A_ (Kd.R_below (pr_ HO237) hb)
      have n1_ := A_ (Kd.R_below (pr_ HO249) hb)
      have n2_ := A_ (blk_below (pl_ BK231) hb)
      have n3_ := A_ (blk_below (pl_ BK232) hb)
      have n4_ := A_ (blk_below (pl_ BK255) hb)
      have n5_ := A_ (below_step (bl_ HB) hb)
      clear HO237
      clear HO249
      clear BK231
      clear BK232
      clear BK255
      clear HB
      have HO237 := n0_
      have HO249 := n1_
      have BK231 := n2_
      have BK232 := n3_
      have BK255 := n4_
      have HB := n5_
      clear n0_ n1_ n2_ n3_ n4_ n5_
      (try clear hb)
      (try clear hb2)
      (try clear hk)
      (try clear hi)
      refine hK.out _ _ ⟨(blk_cell BK231.out 0).trans rfl, (blk_cell BK231.out 1).trans rfl, (blk_cell BK231.out 2).trans rfl, (blk_cell BK231.out 3).trans rfl, (blk_cell BK231.out 4).trans rfl, (blk_cell BK231.out 5).trans rfl, (blk_cell BK232.out 0).trans rfl, (blk_cell BK232.out 1).trans rfl, (blk_cell BK232.out 2).trans rfl, (blk_cell BK232.out 3).trans rfl⟩ (fun hHeld => ?_)
      clear hK K
      refine norm_ (a' := ?_) ?_ ?_
      rotate_left
      ·show Act.put _ (some 31) _ = _
       simp only [Act.put, List.setIfInBounds_toArray, List.set_cons_zero, List.set_cons_succ, i64_w, i32_w]
       rfl
      refine pure_ (i := 7) (N := some 24) (v := ?_) (a' := ?_) #[true, true, true, true, true, true, true, true, false, false, true, false, false] rfl rfl (any_of HT_.out (by kernel_rfl)) (fun _ _ _ h => h) (Or.inl ⟨by rfl, ?_⟩) ?_ ?_
      rotate_left
      ·intro w'
       go_simp
       with_reducible rfl
      rotate_left
      ·simp only [Act.put, List.setIfInBounds_toArray, List.set_cons_zero, List.set_cons_succ, i64_w, i32_w]
       rfl
      refine pure_ (i := 8) (N := some 32) (v := ?_) (a' := ?_) #[true, true, true, true, true, true, true, true, true, false, true, false, false] rfl rfl (any_of HT_.out (by kernel_rfl)) (fun _ _ _ h => h) (Or.inl ⟨by rfl, ?_⟩) ?_ ?_
      rotate_left
      ·intro w'
       go_simp
       with_reducible rfl
      rotate_left
      ·simp only [Act.put, List.setIfInBounds_toArray, List.set_cons_zero, List.set_cons_succ, i64_w, i32_w]
       rfl
      refine pure_ (i := 9) (N := some 33) (v := ?_) (a' := ?_) #[true, true, true, true, true, true, true, true, true, true, true, false, false] rfl rfl (any_of HT_.out (by kernel_rfl)) (fun _ _ _ h => h) (Or.inl ⟨by rfl, ?_⟩) ?_ ?_
      rotate_left
      ·intro w'
       go_simp
       with_reducible rfl
      rotate_left
      ·simp only [Act.put, List.setIfInBounds_toArray, List.set_cons_zero, List.set_cons_succ, i64_w, i32_w]
       rfl
      exact norm_ (by first | (simp only [putAll, Act.put, List.setIfInBounds_toArray, List.set_cons_zero, List.set_cons_succ]; done) | (simp only [putAll, Act.put, List.setIfInBounds_toArray, List.set_cons_zero, List.set_cons_succ]; rfl)) (hJ1_3_5_6_10 (.slice Ao38 t235.length co38, .slice Ao39 t247.length co39, gb255) _ ⟨hHeld, (pr_ HO237), (pr_ HO249), (pl_ BK231), (pl_ BK232), (pl_ BK255), GW255.out, GE255.out, NB231_255.out, NB255_231.out, NB232_255.out, NB255_232.out, (bl_ HB)⟩)
    ·skip
     rintro ⟨v236, v248⟩ w39 ⟨hS_, h0_, h1_, h2_, h3_, h4_⟩
     have n0_ : Aside0 (Kd.R (Kd.int .i16) 23 w39 w.heap.size (fun _ => True) v236 t235) := ⟨h0_⟩
     have n1_ : Aside0 (Kd.R k60 60 w39 w.heap.size (fun _ => True) v248 t247) := ⟨h1_⟩
     have n2_ : Aside0 (w39.heap[gb231]? = some (.cells #[.slice A0_0 l0_0.length c0_0, .int .i16 a0_1, .int .i16 a0_2, .int .i16 a0_3, .int .i16 a0_4, .bool a0_5] 26 (0, 0))) := ⟨h2_⟩
     have n3_ : Aside0 (w39.heap[gb232]? = some (.cells #[.int .i16 a1_0, .int .i16 a1_1, .int .i16 a1_2, .int .i16 a1_3] 24 (0, 0))) := ⟨h3_⟩
     have n4_ : Aside0 (Below w.heap.size w w39) := ⟨h4_⟩
     clear BK231
     clear BK232
     clear HB
     clear h0_ h1_ h2_ h3_ h4_
     have HO237 := n0_
     have HO249 := n1_
     have BK231 := n2_
     have BK232 := n3_
     have HB := n4_
     clear n0_ n1_ n2_ n3_ n4_
     have hHeld : w39.cell? ⟨gb231, 0, none⟩ = some (.slice A0_0 l0_0.length c0_0) ∧ w39.cell? ⟨gb231, 1, none⟩ = some (.int .i16 a0_1) ∧ w39.cell? ⟨gb231, 2, none⟩ = some (.int .i16 a0_2) ∧ w39.cell? ⟨gb231, 3, none⟩ = some (.int .i16 a0_3) ∧ w39.cell? ⟨gb231, 4, none⟩ = some (.int .i16 a0_4) ∧ w39.cell? ⟨gb231, 5, none⟩ = some (.bool a0_5) ∧ w39.cell? ⟨gb232, 0, none⟩ = some (.int .i16 a1_0) ∧ w39.cell? ⟨gb232, 1, none⟩ = some (.int .i16 a1_1) ∧ w39.cell? ⟨gb232, 2, none⟩ = some (.int .i16 a1_2) ∧ w39.cell? ⟨gb232, 3, none⟩ = some (.int .i16 a1_3) := hS_
     refine norm_ (a' := ?_) ?_ ?_
     rotate_left
     ·simp only [putAll, Act.put, List.setIfInBounds_toArray, List.set_cons_zero, List.set_cons_succ]
      rfl
     refine one_ (i := 10) (N := some 8) #[true, true, true, true, true, true, true, true, true, true, true, false, false] rfl rfl (one_of HT_.out (by kernel_rfl)) (by decide) (fun K hK => ?_)
     refine box_step ?hg (N := 8) ?hd (cs := #[.int .i16 0, .int .i16 0, .int .i16 0, .int .i16 0]) (t := 30) ?hr ?_; (case hd => rfl); (case hg => rfl); (case hr => first | (go_simp; done) | (go_simp; rfl))
     intro gb255 hg w40 hbox hb
     have n0_ := A_ (Kd.R_below (pr_ HO237) hb)
     have n1_ := A_ (Kd.R_below (pr_ HO249) hb)
     have n2_ := A_ (blk_below (pl_ BK231) hb)
     have n3_ := A_ (blk_below (pl_ BK232) hb)
     have n4_ := A_ (below_step (bl_ HB) hb)
     have n5_ := A_ (hbox)
     have n6_ := A_ ((by rw [hg]; exact (below_size (bl_ HB)) : w.heap.size ≤ gb255))
     have n7_ := n6_
     have n8_ := A_ ((by rw [hg]; exact Nat.ne_of_lt (blk_lt (pl_ BK231)) : gb231 ≠ gb255))
     have n9_ := Aside0.mk n8_.out.symm
     have n10_ := A_ ((by rw [hg]; exact Nat.ne_of_lt (blk_lt (pl_ BK232)) : gb232 ≠ gb255))
     have n11_ := Aside0.mk n10_.out.symm
     clear HO237
     clear HO249
     clear BK231
     clear BK232
     clear HB
     have HO237 := n0_
     have HO249 := n1_
     have BK231 := n2_
     have BK232 := n3_
     have HB := n4_
     have BK255 := n5_
     have GW255 := n6_
     have GE255 := n7_
     have NB231_255 := n8_
     have NB255_231 := n9_
     have NB232_255 := n10_
     have NB255_232 := n11_
     clear n0_ n1_ n2_ n3_ n4_ n5_ n6_ n7_ n8_ n9_ n10_ n11_
     clear hb hbox hg
     refine hK.out _ _ ⟨(blk_cell BK231.out 0).trans rfl, (blk_cell BK231.out 1).trans rfl, (blk_cell BK231.out 2).trans rfl, (blk_cell BK231.out 3).trans rfl, (blk_cell BK231.out 4).trans rfl, (blk_cell BK231.out 5).trans rfl, (blk_cell BK232.out 0).trans rfl, (blk_cell BK232.out 1).trans rfl, (blk_cell BK232.out 2).trans rfl, (blk_cell BK232.out 3).trans rfl⟩ (fun hHeld => ?_)
     clear hK K
     refine norm_ (a' := ?_) ?_ ?_
     rotate_left
     ·show Act.put _ (some 8) _ = _
      simp only [Act.put, List.setIfInBounds_toArray, List.set_cons_zero, List.set_cons_succ, i64_w, i32_w]
      rfl
     exact norm_ (by first | (simp only [putAll, Act.put, List.setIfInBounds_toArray, List.set_cons_zero, List.set_cons_succ]; done) | (simp only [putAll, Act.put, List.setIfInBounds_toArray, List.set_cons_zero, List.set_cons_succ]; rfl)) (hJ1_3_5_6_10 (v236, v248, gb255) _ ⟨hHeld, (pr_ HO237), (pr_ HO249), (pl_ BK231), (pl_ BK232), (pl_ BK255), GW255.out, GE255.out, NB231_255.out, NB255_231.out, NB232_255.out, NB255_232.out, (bl_ HB)⟩)
   rintro ⟨v236, v248, gb255⟩ w40 ⟨hS_, h0_, h1_, h2_, h3_, h4_, h5_, h6_, h7_, h8_, h9_, h10_, h11_⟩
   have n0_ : Aside0 (Kd.R (Kd.int .i16) 23 w40 w.heap.size (fun _ => True) v236 t235) := ⟨h0_⟩
   have n1_ : Aside0 (Kd.R k60 60 w40 w.heap.size (fun _ => True) v248 t247) := ⟨h1_⟩
   have n2_ : Aside0 (w40.heap[gb231]? = some (.cells #[.slice A0_0 l0_0.length c0_0, .int .i16 a0_1, .int .i16 a0_2, .int .i16 a0_3, .int .i16 a0_4, .bool a0_5] 26 (0, 0))) := ⟨h2_⟩
   have n3_ : Aside0 (w40.heap[gb232]? = some (.cells #[.int .i16 a1_0, .int .i16 a1_1, .int .i16 a1_2, .int .i16 a1_3] 24 (0, 0))) := ⟨h3_⟩
   have n4_ : Aside0 (w40.heap[gb255]? = some (.cells #[.int .i16 0, .int .i16 0, .int .i16 0, .int .i16 0] 30 (0, 0))) := ⟨h4_⟩
   have n5_ : Aside0 (w.heap.size ≤ gb255) := ⟨h5_⟩
   have n6_ : Aside0 (w.heap.size ≤ gb255) := ⟨h6_⟩
   have n7_ : Aside0 (gb231 ≠ gb255) := ⟨h7_⟩
   have n8_ : Aside0 (gb255 ≠ gb231) := ⟨h8_⟩
   have n9_ : Aside0 (gb232 ≠ gb255) := ⟨h9_⟩
   have n10_ : Aside0 (gb255 ≠ gb232) := ⟨h10_⟩
   have n11_ : Aside0 (Below w.heap.size w w40) := ⟨h11_⟩
   clear BK231
   clear BK232
   clear HB
   clear h0_ h1_ h2_ h3_ h4_ h5_ h6_ h7_ h8_ h9_ h10_ h11_
   have HO237 := n0_
   have HO249 := n1_
   have BK231 := n2_
   have BK232 := n3_
   have BK255 := n4_
   have GW255 := n5_
   have GE255 := n6_
   have NB231_255 := n7_
   have NB255_231 := n8_
   have NB232_255 := n9_
   have NB255_232 := n10_
   have HB := n11_
   clear n0_ n1_ n2_ n3_ n4_ n5_ n6_ n7_ n8_ n9_ n10_ n11_
   have hHeld : w40.cell? ⟨gb231, 0, none⟩ = some (.slice A0_0 l0_0.length c0_0) ∧ w40.cell? ⟨gb231, 1, none⟩ = some (.int .i16 a0_1) ∧ w40.cell? ⟨gb231, 2, none⟩ = some (.int .i16 a0_2) ∧ w40.cell? ⟨gb231, 3, none⟩ = some (.int .i16 a0_3) ∧ w40.cell? ⟨gb231, 4, none⟩ = some (.int .i16 a0_4) ∧ w40.cell? ⟨gb231, 5, none⟩ = some (.bool a0_5) ∧ w40.cell? ⟨gb232, 0, none⟩ = some (.int .i16 a1_0) ∧ w40.cell? ⟨gb232, 1, none⟩ = some (.int .i16 a1_1) ∧ w40.cell? ⟨gb232, 2, none⟩ = some (.int .i16 a1_2) ∧ w40.cell? ⟨gb232, 3, none⟩ = some (.int .i16 a1_3) := hS_
   refine norm_ (a' := ?_) ?_ ?_
   rotate_left
   ·simp only [putAll, Act.put, List.setIfInBounds_toArray, List.set_cons_zero, List.set_cons_succ]
    rfl
   refine one_ (i := 11) (N := none) #[true, true, true, true, true, true, true, true, true, true, true, true, false] rfl rfl (one_of HT_.out (by kernel_rfl)) (by decide) (fun K hK => ?_)
   have hs41 : w40.cell? ⟨gb255, 0, none⟩ = some (.int .i16 0) := (blk_cell BK255.out 0).trans rfl
   have hfs41 := blk_frozen BK255.out 0
   have hns41_0 := NB231_255.out
   have hns41_1 := NB232_255.out
   have hms41_0 := NB255_231.out
   have hms41_1 := NB255_232.out
   have hs42 : w40.cell? ⟨gb255, 1, none⟩ = some (.int .i16 0) := (blk_cell BK255.out 1).trans rfl
   have hfs42 := blk_frozen BK255.out 1
   have hns42_0 := NB231_255.out
   have hns42_1 := NB232_255.out
   have hms42_0 := NB255_231.out
   have hms42_1 := NB255_232.out
   have hs43 : w40.cell? ⟨gb255, 2, none⟩ = some (.int .i16 0) := (blk_cell BK255.out 2).trans rfl
   have hfs43 := blk_frozen BK255.out 2
   have hns43_0 := NB231_255.out
   have hns43_1 := NB232_255.out
   have hms43_0 := NB255_231.out
   have hms43_1 := NB255_232.out
   have hs44 : w40.cell? ⟨gb255, 3, none⟩ = some (.int .i16 0) := (blk_cell BK255.out 3).trans rfl
   have hfs44 := blk_frozen BK255.out 3
   have hns44_0 := NB231_255.out
   have hns44_1 := NB232_255.out
   have hms44_0 := NB255_231.out
   have hms44_1 := NB255_232.out
   refine skip_ (w1 := ?_) (by rfl) rfl ?_ ?_
   rotate_left
   ·go_simp
    rfl
   refine hK.out _ _ ⟨((cell_far (p := ⟨gb255, _, none⟩) NB231_255.out _).trans ((cf3_ NB231_255 (hHeld.1)))), ((cell_far (p := ⟨gb255, _, none⟩) NB231_255.out _).trans ((cf3_ NB231_255 (hHeld.2.1)))), ((cell_far (p := ⟨gb255, _, none⟩) NB231_255.out _).trans ((cf3_ NB231_255 (hHeld.2.2.1)))), ((cell_far (p := ⟨gb255, _, none⟩) NB231_255.out _).trans ((cf3_ NB231_255 (hHeld.2.2.2.1)))), ((cell_far (p := ⟨gb255, _, none⟩) NB231_255.out _).trans ((cf3_ NB231_255 (hHeld.2.2.2.2.1)))), ((cell_far (p := ⟨gb255, _, none⟩) NB231_255.out _).trans ((cf3_ NB231_255 (hHeld.2.2.2.2.2.1)))), ((cell_far (p := ⟨gb255, _, none⟩) NB232_255.out _).trans ((cf3_ NB232_255 (hHeld.2.2.2.2.2.2.1)))), ((cell_far (p := ⟨gb255, _, none⟩) NB232_255.out _).trans ((cf3_ NB232_255 (hHeld.2.2.2.2.2.2.2.1)))), ((cell_far (p := ⟨gb255, _, none⟩) NB232_255.out _).trans ((cf3_ NB232_255 (hHeld.2.2.2.2.2.2.2.2.1)))), ((cell_far (p := ⟨gb255, _, none⟩) NB232_255.out _).trans ((cf3_ NB232_255 (hHeld.2.2.2.2.2.2.2.2.2))))⟩ (fun hHeld => ?_)
   clear hK K
   refine pure_ (i := 12) (N := some 9) (v := ?_) (a' := ?_) #[true, true, true, true, true, true, true, true, true, true, true, true, true] rfl rfl (any_of HT_.out (by kernel_rfl)) (fun _ _ _ h => h) (Or.inl ⟨by rfl, ?_⟩) ?_ ?_
   rotate_left
   ·intro w'
    go_simp
    with_reducible rfl
   rotate_left
   ·simp only [Act.put, List.setIfInBounds_toArray, List.set_cons_zero, List.set_cons_succ, i64_w, i32_w]
    rfl
   refine done_ (done_of HT_.out (by kernel_rfl)) ?_
   have hnb45 := NB231_255.out
   have hnc45 := NB255_231.out
   have hcz46_0 : w40.cell? ⟨gb231, 0, none⟩ = some (.slice A0_0 l0_0.length c0_0) := (blk_cell BK231.out 0).trans rfl
   have hcz46_1 : w40.cell? ⟨gb231, 1, none⟩ = some (.int .i16 a0_1) := (blk_cell BK231.out 1).trans rfl
   have hcz46_2 : w40.cell? ⟨gb231, 2, none⟩ = some (.int .i16 a0_2) := (blk_cell BK231.out 2).trans rfl
   have hcz46_3 : w40.cell? ⟨gb231, 3, none⟩ = some (.int .i16 a0_3) := (blk_cell BK231.out 3).trans rfl
   have hcz46_4 : w40.cell? ⟨gb231, 4, none⟩ = some (.int .i16 a0_4) := (blk_cell BK231.out 4).trans rfl
   have hcz46_5 : w40.cell? ⟨gb231, 5, none⟩ = some (.bool a0_5) := (blk_cell BK231.out 5).trans rfl
   have hfz46_0 := blk_frozen BK231.out 0
   have hfz46_1 := blk_frozen BK231.out 1
   have hfz46_2 := blk_frozen BK231.out 2
   have hfz46_3 := blk_frozen BK231.out 3
   have hfz46_4 := blk_frozen BK231.out 4
   have hfz46_5 := blk_frozen BK231.out 5
   try go_wp2_with (first | ((with_reducible refine gate_callee (f := 18) rfl ?_); refine goesL_ (some 35) rfl rfl Try.func18 (by kernel_rfl) rfl #[.agg #[.slice A0_0 l0_0.length c0_0, .int .i16 a0_1, .int .i16 a0_2, .int .i16 a0_3, .int .i16 a0_4, .bool a0_5]] rfl arg_ ?_; (with_reducible refine (laws_toPuzzle.calls k _ _ l0_0 a0_1 a0_2 a0_3 a0_4 a0_5 t256 t259 t260 t261 t262 t263 _ ?side1 ?side2 A22.out).mono ?_); (case side1 => exact Kd.C_below HR0_0.out (bs_ HB GE255)); (case side2 => exact HC0_0.out); rintro e w47 ⟨v257, rfl, ho0, hb⟩; refine ⟨_, rfl, ?_⟩; have n0_ := A_ (Kd.R_elder' (by (with_reducible repeat (first | apply Kd.R_alloc | apply Kd.R_drewN | apply Kd.R_drew)); exact (rf4_ HO237 BK255 (by decide))) (Kd.R_base ho0) hb); have n1_ := A_ (Kd.R_below (by (with_reducible repeat (first | apply Kd.R_alloc | apply Kd.R_drewN | apply Kd.R_drew)); exact (rf4_ HO249 BK255 (by decide))) hb); have n2_ := A_ (Kd.R_lower (Kd.R_new' ho0 (Kd.R_lt (by (with_reducible repeat (first | apply Kd.R_alloc | apply Kd.R_drewN | apply Kd.R_drew)); exact (rf4_ HO237 BK255 (by decide))))) (below_size (bs_ HB GE255))); have n3_ := A_ (blk_below (g := gb231) (o := .cells #[.slice A0_0 l0_0.length c0_0, .int .i16 a0_1, .int .i16 a0_2, .int .i16 a0_3, .int .i16 a0_4, .bool a0_5] 26 (0, 0)) (pf_ BK231 NB231_255) hb); have n4_ := A_ (blk_below (g := gb232) (o := .cells #[.int .i16 a1_0, .int .i16 a1_1, .int .i16 a1_2, .int .i16 a1_3] 24 (0, 0)) (pf_ BK232 NB232_255) hb); have n5_ := A_ (blk_below (g := gb255) (o := .cells #[.int .i16 t250, .int .i16 t251, .int .i16 t252, .int .i16 t253] 30 (0, 0)) (by (with_reducible repeat (first | refine blk_drewN ?_ _ | refine blk_drew ?_ | refine blk_alloc ?_ _)); refine blk_put (cs := #[.int .i16 t250, .int .i16 t251, .int .i16 t252, .int .i16 0]) ?_ 3 _ rfl; (with_reducible repeat (first | refine blk_drewN ?_ _ | refine blk_drew ?_ | refine blk_alloc ?_ _)); refine blk_put (cs := #[.int .i16 t250, .int .i16 t251, .int .i16 0, .int .i16 0]) ?_ 2 _ rfl; (with_reducible repeat (first | refine blk_drewN ?_ _ | refine blk_drew ?_ | refine blk_alloc ?_ _)); refine blk_put (cs := #[.int .i16 t250, .int .i16 0, .int .i16 0, .int .i16 0]) ?_ 1 _ rfl; (with_reducible repeat (first | refine blk_drewN ?_ _ | refine blk_drew ?_ | refine blk_alloc ?_ _)); refine blk_put (cs := #[.int .i16 0, .int .i16 0, .int .i16 0, .int .i16 0]) ?_ 0 _ rfl; (with_reducible repeat (first | refine blk_drewN ?_ _ | refine blk_drew ?_ | refine blk_alloc ?_ _)); exact BK255.out) hb); have n6_ := A_ (below_step (bs_ HB GE255) hb); clear HO237; clear HO249; clear BK231; clear BK232; clear BK255; clear HB; have HO237 := n0_; have HO249 := n1_; have HO258 := n2_; have BK231 := n3_; have BK232 := n4_; have BK255 := n5_; have HB := n6_; clear n0_ n1_ n2_ n3_ n4_ n5_ n6_; (try clear hb); (try clear hb2); (try clear hk); (try clear hi); (try clear ho0)) | ((with_reducible refine gate_dst (N := 10) rfl ?_); refine box_event ?hg (N := 10) ?hd (cs := #[.slice none 0 0, .int .i16 0, .int .i16 0, .int .i16 0, .int .i16 0, .bool false]) (t := 32) ?hr ?_; (case hd => rfl); (case hg => rfl); (case hr => first | (go_simp; done) | (go_simp; rfl)); intro gb264 hg w48 hbox hb; have n0_ := A_ (Kd.R_below (pr_ HO237) hb); have n1_ := A_ (Kd.R_below (pr_ HO249) hb); have n2_ := A_ (Kd.R_below (pr_ HO258) hb); have n3_ := A_ (blk_below (pl_ BK231) hb); have n4_ := A_ (blk_below (pl_ BK232) hb); have n5_ := A_ (blk_below (pl_ BK255) hb); have n6_ := A_ (below_step (bl_ HB) hb); have n7_ := A_ (hbox); have n8_ := A_ ((by rw [hg]; exact (below_size (bl_ HB)) : w.heap.size ≤ gb264)); have n9_ := n8_; have n10_ := A_ ((by rw [hg]; exact Nat.ne_of_lt (blk_lt (pl_ BK231)) : gb231 ≠ gb264)); have n11_ := Aside0.mk n10_.out.symm; have n12_ := A_ ((by rw [hg]; exact Nat.ne_of_lt (blk_lt (pl_ BK232)) : gb232 ≠ gb264)); have n13_ := Aside0.mk n12_.out.symm; have n14_ := A_ ((by rw [hg]; exact Nat.ne_of_lt (blk_lt (pl_ BK255)) : gb255 ≠ gb264)); have n15_ := Aside0.mk n14_.out.symm; clear HO237; clear HO249; clear HO258; clear BK231; clear BK232; clear BK255; clear HB; have HO237 := n0_; have HO249 := n1_; have HO258 := n2_; have BK231 := n3_; have BK232 := n4_; have BK255 := n5_; have HB := n6_; have BK264 := n7_; have GW264 := n8_; have GE264 := n9_; have NB231_264 := n10_; have NB264_231 := n11_; have NB232_264 := n12_; have NB264_232 := n13_; have NB255_264 := n14_; have NB264_255 := n15_; clear n0_ n1_ n2_ n3_ n4_ n5_ n6_ n7_ n8_ n9_ n10_ n11_ n12_ n13_ n14_ n15_; clear hb hbox hg; obtain ⟨Ao49, co49, eo49⟩ := Kd.R_slice HO258.out; subst eo49; have hnb50 := NB264_231.out; have hnc50 := NB231_264.out; have hnb51 := NB264_232.out; have hnc51 := NB232_264.out; have hnb52 := NB264_255.out; have hnc52 := NB255_264.out; have hcz53_0 : w48.cell? ⟨gb264, 0, none⟩ = some (.slice none 0 0) := (blk_cell BK264.out 0).trans rfl; have hcz53_1 : w48.cell? ⟨gb264, 1, none⟩ = some (.int .i16 0) := (blk_cell BK264.out 1).trans rfl; have hcz53_2 : w48.cell? ⟨gb264, 2, none⟩ = some (.int .i16 0) := (blk_cell BK264.out 2).trans rfl; have hcz53_3 : w48.cell? ⟨gb264, 3, none⟩ = some (.int .i16 0) := (blk_cell BK264.out 3).trans rfl; have hcz53_4 : w48.cell? ⟨gb264, 4, none⟩ = some (.int .i16 0) := (blk_cell BK264.out 4).trans rfl; have hcz53_5 : w48.cell? ⟨gb264, 5, none⟩ = some (.bool false) := (blk_cell BK264.out 5).trans rfl; have hfz53_0 := blk_frozen BK264.out 0; have hfz53_1 := blk_frozen BK264.out 1; have hfz53_2 := blk_frozen BK264.out 2; have hfz53_3 := blk_frozen BK264.out 3; have hfz53_4 := blk_frozen BK264.out 4; have hfz53_5 := blk_frozen BK264.out 5) | ((with_reducible refine gate_callee (f := 39) rfl ?_); refine goesL_ (some 37) rfl rfl Try.func39 (by kernel_rfl) rfl #[.slice A2 l2.length c2] rfl arg_ ?_; (with_reducible refine (laws_toMoveS.calls k _ _ l2 t265 _ ?side1 ?side2 A23.out).mono ?_); (case side1 => exact Kd.C_below HR2.out (bs_ HB GE264)); (case side2 => exact HC2.out); rintro e w54 ⟨v266, rfl, ho0, hb⟩; refine ⟨_, rfl, ?_⟩; have n0_ := A_ (Kd.R_below (by (with_reducible repeat (first | apply Kd.R_alloc | apply Kd.R_drewN | apply Kd.R_drew)); exact (rf6_ HO237 BK264 (by decide))) hb); have n1_ := A_ (Kd.R_elder' (by (with_reducible repeat (first | apply Kd.R_alloc | apply Kd.R_drewN | apply Kd.R_drew)); exact (rf6_ HO249 BK264 (by decide))) (Kd.R_base ho0) hb); have n2_ := A_ (Kd.R_below (by (with_reducible repeat (first | apply Kd.R_alloc | apply Kd.R_drewN | apply Kd.R_drew)); exact (rf6_ HO258 BK264 (by decide))) hb); have n3_ := A_ (Kd.R_lower (Kd.R_new' ho0 (Kd.R_lt (by (with_reducible repeat (first | apply Kd.R_alloc | apply Kd.R_drewN | apply Kd.R_drew)); exact (rf6_ HO249 BK264 (by decide))))) (below_size (bs_ HB GE264))); have n4_ := A_ (blk_below (g := gb231) (o := .cells #[.slice A0_0 l0_0.length c0_0, .int .i16 a0_1, .int .i16 a0_2, .int .i16 a0_3, .int .i16 a0_4, .bool a0_5] 26 (0, 0)) (pf_ BK231 NB231_264) hb); have n5_ := A_ (blk_below (g := gb232) (o := .cells #[.int .i16 a1_0, .int .i16 a1_1, .int .i16 a1_2, .int .i16 a1_3] 24 (0, 0)) (pf_ BK232 NB232_264) hb); have n6_ := A_ (blk_below (g := gb255) (o := .cells #[.int .i16 t250, .int .i16 t251, .int .i16 t252, .int .i16 t253] 30 (0, 0)) (pf_ BK255 NB255_264) hb); have n7_ := A_ (blk_below (g := gb264) (o := .cells #[.slice Ao49 t256.length co49, .int .i16 t259, .int .i16 t260, .int .i16 t261, .int .i16 t262, .bool t263] 32 (0, 0)) (by (with_reducible repeat (first | refine blk_drewN ?_ _ | refine blk_drew ?_ | refine blk_alloc ?_ _)); refine blk_put (cs := #[.slice Ao49 t256.length co49, .int .i16 t259, .int .i16 t260, .int .i16 t261, .int .i16 t262, .bool false]) ?_ 5 _ rfl; (with_reducible repeat (first | refine blk_drewN ?_ _ | refine blk_drew ?_ | refine blk_alloc ?_ _)); refine blk_put (cs := #[.slice Ao49 t256.length co49, .int .i16 t259, .int .i16 t260, .int .i16 t261, .int .i16 0, .bool false]) ?_ 4 _ rfl; (with_reducible repeat (first | refine blk_drewN ?_ _ | refine blk_drew ?_ | refine blk_alloc ?_ _)); refine blk_put (cs := #[.slice Ao49 t256.length co49, .int .i16 t259, .int .i16 t260, .int .i16 0, .int .i16 0, .bool false]) ?_ 3 _ rfl; (with_reducible repeat (first | refine blk_drewN ?_ _ | refine blk_drew ?_ | refine blk_alloc ?_ _)); refine blk_put (cs := #[.slice Ao49 t256.length co49, .int .i16 t259, .int .i16 0, .int .i16 0, .int .i16 0, .bool false]) ?_ 2 _ rfl; (with_reducible repeat (first | refine blk_drewN ?_ _ | refine blk_drew ?_ | refine blk_alloc ?_ _)); refine blk_put (cs := #[.slice Ao49 t256.length co49, .int .i16 0, .int .i16 0, .int .i16 0, .int .i16 0, .bool false]) ?_ 1 _ rfl; (with_reducible repeat (first | refine blk_drewN ?_ _ | refine blk_drew ?_ | refine blk_alloc ?_ _)); refine blk_put (cs := #[.slice none 0 0, .int .i16 0, .int .i16 0, .int .i16 0, .int .i16 0, .bool false]) ?_ 0 _ rfl; (with_reducible repeat (first | refine blk_drewN ?_ _ | refine blk_drew ?_ | refine blk_alloc ?_ _)); exact BK264.out) hb); have n8_ := A_ (below_step (bs_ HB GE264) hb); clear HO237; clear HO249; clear HO258; clear BK231; clear BK232; clear BK255; clear BK264; clear HB; have HO237 := n0_; have HO249 := n1_; have HO258 := n2_; have HO267 := n3_; have BK231 := n4_; have BK232 := n5_; have BK255 := n6_; have BK264 := n7_; have HB := n8_; clear n0_ n1_ n2_ n3_ n4_ n5_ n6_ n7_ n8_; (try clear hb); (try clear hb2); (try clear hk); (try clear hi); (try clear ho0); obtain ⟨Ao55, co55, eo55⟩ := Kd.R_slice HO267.out; subst eo55))
   have n0_ := A_ (Kd.R_drew HO237.out)
   have n1_ := A_ (Kd.R_drew HO249.out)
   have n2_ := A_ (Kd.R_drew HO258.out)
   have n3_ := A_ (Kd.R_drew HO267.out)
   have n4_ := A_ (blk_drew BK231.out)
   have n5_ := A_ (blk_drew BK232.out)
   have n6_ := A_ (blk_drew BK255.out)
   have n7_ := A_ (blk_drew BK264.out)
   have n8_ := A_ (below_drew1 HB.out)
   clear HO237
   clear HO249
   clear HO258
   clear HO267
   clear BK231
   clear BK232
   clear BK255
   clear BK264
   clear HB
   have HO237 := n0_
   have HO249 := n1_
   have HO258 := n2_
   have HO267 := n3_
   have BK231 := n4_
   have BK232 := n5_
   have BK255 := n6_
   have BK264 := n7_
   have HB := n8_
   clear n0_ n1_ n2_ n3_ n4_ n5_ n6_ n7_ n8_
   refine start_ (n := 11) (S := fun w' => w'.cell? ⟨gb264, 0, none⟩ = some (.slice Ao49 t256.length co49) ∧ w'.cell? ⟨gb264, 1, none⟩ = some (.int .i16 t259) ∧ w'.cell? ⟨gb264, 2, none⟩ = some (.int .i16 t260) ∧ w'.cell? ⟨gb264, 3, none⟩ = some (.int .i16 t261) ∧ w'.cell? ⟨gb264, 4, none⟩ = some (.int .i16 t262) ∧ w'.cell? ⟨gb264, 5, none⟩ = some (.bool t263) ∧ w'.cell? ⟨gb232, 0, none⟩ = some (.int .i16 a1_0) ∧ w'.cell? ⟨gb232, 1, none⟩ = some (.int .i16 a1_1) ∧ w'.cell? ⟨gb232, 2, none⟩ = some (.int .i16 a1_2) ∧ w'.cell? ⟨gb232, 3, none⟩ = some (.int .i16 a1_3)) (ds := []) #[false, false, false, false, false, false, false, false, false, false, false] (by kernel_rfl) rfl rfl ⟨(blk_cell BK264.out 0).trans rfl, (blk_cell BK264.out 1).trans rfl, (blk_cell BK264.out 2).trans rfl, (blk_cell BK264.out 3).trans rfl, (blk_cell BK264.out 4).trans rfl, (blk_cell BK264.out 5).trans rfl, (blk_cell BK232.out 0).trans rfl, (blk_cell BK232.out 1).trans rfl, (blk_cell BK232.out 2).trans rfl, (blk_cell BK232.out 3).trans rfl⟩ (fun hHeld => ?_); refine with_tabW laws_FnExactDoMoves.tab11 laws_FnExactDoMoves.bits11 (fun HT_ HW_ => ?_)
   generalize w54.drew = w56 at HO237 HO249 HO258 HO267 BK231 BK232 BK255 BK264 HB hHeld ⊢
   refine pure_ (i := 3) (N := some 42) (v := ?_) (a' := ?_) #[false, false, false, true, false, false, false, false, false, false, false] rfl rfl (any_of HT_.out (by kernel_rfl)) (fun _ _ _ h => h) (Or.inl ⟨by rfl, ?_⟩) ?_ ?_
   rotate_left
   ·intro w'
    go_simp
    with_reducible rfl
   rotate_left
   ·simp only [Act.put, List.setIfInBounds_toArray, List.set_cons_zero, List.set_cons_succ, i64_w, i32_w]
    rfl
   refine take_ (i := 0) (N := some 39) (v := ?_) (a' := ?_) #[true, false, false, true, false, false, false, false, false, false, false] rfl rfl (take_ofW HT_.out HW_.out (by kernel_rfl)) (fun _ _ _ h => h) (Or.inl ⟨by rfl, ?_⟩) hHeld ?_ ?_
   rotate_left
   ·rintro w' ⟨s0, s1, s2, s3, s4, s5, s6, s7, s8, s9⟩
    go_simp
    with_reducible rfl
   rotate_left
   ·simp only [Act.put, List.setIfInBounds_toArray, List.set_cons_zero, List.set_cons_succ, i64_w, i32_w]
    rfl
   refine take_ (i := 1) (N := some 40) (v := ?_) (a' := ?_) #[true, true, false, true, false, false, false, false, false, false, false] rfl rfl (take_ofW HT_.out HW_.out (by kernel_rfl)) (fun _ _ _ h => h) (Or.inl ⟨by rfl, ?_⟩) hHeld ?_ ?_
   rotate_left
   ·rintro w' ⟨s0, s1, s2, s3, s4, s5, s6, s7, s8, s9⟩
    go_simp
    with_reducible rfl
   rotate_left
   ·simp only [Act.put, List.setIfInBounds_toArray, List.set_cons_zero, List.set_cons_succ, i64_w, i32_w]
    rfl
   refine join_ (σ := Nat) 2 #[true, true, true, true, true, true, true, true, true, false, false] (fun s_ => [(41, .agg #[.int .i16 t268, .int .i16 t269, .int .i16 t270, .int .i16 t271]), (43, .tuple #[.agg #[.int .i16 t272, .int .i16 t273, .int .i16 t274, .int .i16 t275], .int .i64 t276]), (12, .pointer (some ⟨s_, 0, none⟩)), (38, .tuple #[.agg #[.int .i16 t272, .int .i16 t273, .int .i16 t274, .int .i16 t275], .int .i64 t276]), (44, .agg #[.int .i16 t272, .int .i16 t273, .int .i16 t274, .int .i16 t275]), (45, .int .i64 t276)]) (fun s_ w' => (w'.cell? ⟨gb264, 0, none⟩ = some (.slice Ao49 t256.length co49) ∧ w'.cell? ⟨gb264, 1, none⟩ = some (.int .i16 t259) ∧ w'.cell? ⟨gb264, 2, none⟩ = some (.int .i16 t260) ∧ w'.cell? ⟨gb264, 3, none⟩ = some (.int .i16 t261) ∧ w'.cell? ⟨gb264, 4, none⟩ = some (.int .i16 t262) ∧ w'.cell? ⟨gb264, 5, none⟩ = some (.bool t263) ∧ w'.cell? ⟨gb232, 0, none⟩ = some (.int .i16 a1_0) ∧ w'.cell? ⟨gb232, 1, none⟩ = some (.int .i16 a1_1) ∧ w'.cell? ⟨gb232, 2, none⟩ = some (.int .i16 a1_2) ∧ w'.cell? ⟨gb232, 3, none⟩ = some (.int .i16 a1_3)) ∧ (Kd.R (Kd.int .i16) 23 w' w.heap.size (fun k_ => some k_ ≠ (.slice Ao49 t256.length co49 : Value).ownBlock) v236 t235) ∧ (Kd.R k60 60 w' w.heap.size (fun k_ => some k_ ≠ (.slice Ao55 t265.length co55 : Value).ownBlock) v248 t247) ∧ (Kd.R (Kd.int .i16) 23 w' w.heap.size (fun k_ => some k_ ≠ (v236 : Value).ownBlock) (.slice Ao49 t256.length co49) t256) ∧ (Kd.R k60 60 w' w.heap.size (fun k_ => some k_ ≠ (v248 : Value).ownBlock) (.slice Ao55 t265.length co55) t265) ∧ (w'.heap[gb231]? = some (.cells #[.slice A0_0 l0_0.length c0_0, .int .i16 a0_1, .int .i16 a0_2, .int .i16 a0_3, .int .i16 a0_4, .bool a0_5] 26 (0, 0))) ∧ (w'.heap[gb232]? = some (.cells #[.int .i16 a1_0, .int .i16 a1_1, .int .i16 a1_2, .int .i16 a1_3] 24 (0, 0))) ∧ (w'.heap[gb255]? = some (.cells #[.int .i16 t250, .int .i16 t251, .int .i16 t252, .int .i16 t253] 30 (0, 0))) ∧ (w'.heap[gb264]? = some (.cells #[.slice Ao49 t256.length co49, .int .i16 t259, .int .i16 t260, .int .i16 t261, .int .i16 t262, .bool t263] 32 (0, 0))) ∧ (w'.heap[s_]? = some (.cells #[.int .i16 0, .int .i16 0, .int .i16 0, .int .i16 0] 30 (0, 0))) ∧ (w.heap.size ≤ s_) ∧ (w.heap.size ≤ s_) ∧ (gb231 ≠ s_) ∧ (s_ ≠ gb231) ∧ (gb232 ≠ s_) ∧ (s_ ≠ gb232) ∧ (gb255 ≠ s_) ∧ (s_ ≠ gb255) ∧ (gb264 ≠ s_) ∧ (s_ ≠ gb264) ∧ (Below w.heap.size w w')) ?_ ?_
   rotate_left
   ·intro hCont
    refine two_ (i := 2) (j := 8) (Ni := some 41) (Nj := some 12) #[true, true, true, true, false, false, false, false, false, false, false] #[true, true, false, true, false, false, false, false, true, false, false] rfl rfl rfl rfl (two_of HT_.out (by kernel_rfl)) (by decide) (by decide) (fun K hK => ?_) (fun K hK => ?_)
    ·skip
     refine goes_ Try.func26 (by kernel_rfl) rfl #[.agg #[.int .i16 a1_0, .int .i16 a1_1, .int .i16 a1_2, .int .i16 a1_3]] (by rfl) rfl rfl arg_ ?_
     with_reducible refine (laws_toWater.calls k a1_0 a1_1 a1_2 a1_3 t268 t269 t270 t271 _ A24.out).mono ?_
     rintro e w57 ⟨rfl, hb⟩
     refine ⟨_, rfl, ?_⟩
     have n0_ := A_ (Kd.R_below (pr_ HO237) hb)
     have n1_ := A_ (Kd.R_below (pr_ HO249) hb)
     have n2_ := A_ (Kd.R_below (pr_ HO258) hb)
     have n3_ := A_ (Kd.R_below (pr_ HO267) hb)
     have n4_ := A_ (blk_below (pl_ BK231) hb)
     have n5_ := A_ (blk_below (pl_ BK232) hb)
     have n6_ := A_ (blk_below (pl_ BK255) hb)
     have n7_ := A_ (blk_below (pl_ BK264) hb)
     have n8_ := A_ (below_step (bl_ HB) hb)
     clear HO237
     clear HO249
     clear HO258
     clear HO267
     clear BK231
     clear BK232
     clear BK255
     clear BK264
     clear HB
     have HO237 := n0_
     have HO249 := n1_
     have HO258 := n2_
     have HO267 := n3_
     have BK231 := n4_
     have BK232 := n5_
     have BK255 := n6_
     have BK264 := n7_
     have HB := n8_
     clear n0_ n1_ n2_ n3_ n4_ n5_ n6_ n7_ n8_
     (try clear hb)
     (try clear hb2)
     (try clear hk)
     (try clear hi)
     refine hK.out _ _ ⟨(blk_cell BK264.out 0).trans rfl, (blk_cell BK264.out 1).trans rfl, (blk_cell BK264.out 2).trans rfl, (blk_cell BK264.out 3).trans rfl, (blk_cell BK264.out 4).trans rfl, (blk_cell BK264.out 5).trans rfl, (blk_cell BK232.out 0).trans rfl, (blk_cell BK232.out 1).trans rfl, (blk_cell BK232.out 2).trans rfl, (blk_cell BK232.out 3).trans rfl⟩ (fun hHeld => ?_)
     clear hK K
     refine norm_ (a' := ?_) ?_ ?_
     rotate_left
     ·show Act.put _ (some 41) _ = _
      simp only [Act.put, List.setIfInBounds_toArray, List.set_cons_zero, List.set_cons_succ, i64_w, i32_w]
      rfl
     refine two_ (i := 4) (j := 8) (Ni := some 43) (Nj := some 12) #[true, true, true, true, true, false, false, false, false, false, false] #[true, true, true, true, false, false, false, false, true, false, false] rfl rfl rfl rfl (two_of HT_.out (by kernel_rfl)) (by decide) (by decide) (fun K hK => ?_) (fun K hK => ?_)
     ·skip
      refine goes_ Try.func46 (by kernel_rfl) rfl #[.agg #[.slice Ao49 t256.length co49, .int .i16 t259, .int .i16 t260, .int .i16 t261, .int .i16 t262, .bool t263], .agg #[.int .i16 t268, .int .i16 t269, .int .i16 t270, .int .i16 t271], .slice Ao55 t265.length co55] (by rfl) rfl rfl arg_ ?_
      with_reducible refine (impl_DoMoves.calls k _ _ t256 t259 t260 t261 t262 t263 t268 t269 t270 t271 _ _ t265 t272 t273 t274 t275 t276 _ ?side1 ?side2 ?side3 ?side4 A25.out).mono ?_
      (case side1 => repeat (first | exact (Kd.R_reads' HO258.out).2.2 | (with_reducible refine Kd.C_alloc ?_ _) | (with_reducible refine Kd.C_drewN ?_ _) | (with_reducible refine Kd.C_drew ?_)))
      (case side2 => exact (Kd.R_reads' HO258.out).2.1)
      (case side3 => repeat (first | exact (Kd.R_reads' HO267.out).2.2 | (with_reducible refine Kd.C_alloc ?_ _) | (with_reducible refine Kd.C_drewN ?_ _) | (with_reducible refine Kd.C_drew ?_)))
      (case side4 => exact (Kd.R_reads' HO267.out).2.1)
      rintro e w58 ⟨rfl, hb⟩
      refine ⟨_, rfl, ?_⟩
      have n0_ := A_ (Kd.R_below (pr_ HO237) hb)
      have n1_ := A_ (Kd.R_below (pr_ HO249) hb)
      have n2_ := A_ (Kd.R_below (pr_ HO258) hb)
      have n3_ := A_ (Kd.R_below (pr_ HO267) hb)
      have n4_ := A_ (blk_below (pl_ BK231) hb)
      have n5_ := A_ (blk_below (pl_ BK232) hb)
      have n6_ := A_ (blk_below (pl_ BK255) hb)
      have n7_ := A_ (blk_below (pl_ BK264) hb)
      have n8_ := A_ (below_step (bl_ HB) hb)
      clear HO237
      clear HO249
      clear HO258
      clear HO267
      clear BK231
      clear BK232
      clear BK255
      clear BK264
      clear HB
      have HO237 := n0_
      have HO249 := n1_
      have HO258 := n2_
      have HO267 := n3_
      have BK231 := n4_
      have BK232 := n5_
      have BK255 := n6_
      have BK264 := n7_
      have HB := n8_
      clear n0_ n1_ n2_ n3_ n4_ n5_ n6_ n7_ n8_
      (try clear hb)
      (try clear hb2)
      (try clear hk)
      (try clear hi)
      refine hK.out _ _ ⟨(blk_cell BK264.out 0).trans rfl, (blk_cell BK264.out 1).trans rfl, (blk_cell BK264.out 2).trans rfl, (blk_cell BK264.out 3).trans rfl, (blk_cell BK264.out 4).trans rfl, (blk_cell BK264.out 5).trans rfl, (blk_cell BK232.out 0).trans rfl, (blk_cell BK232.out 1).trans rfl, (blk_cell BK232.out 2).trans rfl, (blk_cell BK232.out 3).trans rfl⟩ (fun hHeld => ?_)
      clear hK K
      refine norm_ (a' := ?_) ?_ ?_
      rotate_left
      ·show Act.put _ (some 43) _ = _
       simp only [Act.put, List.setIfInBounds_toArray, List.set_cons_zero, List.set_cons_succ, i64_w, i32_w]
       rfl
      refine pure_ (i := 5) (N := some 38) (v := ?_) (a' := ?_) #[true, true, true, true, true, true, false, false, false, false, false] rfl rfl (any_of HT_.out (by kernel_rfl)) (fun _ _ _ h => h) (Or.inl ⟨by rfl, ?_⟩) ?_ ?_
      rotate_left
      ·intro w'
       go_simp
       with_reducible rfl
      rotate_left
      ·simp only [Act.put, List.setIfInBounds_toArray, List.set_cons_zero, List.set_cons_succ, i64_w, i32_w]
       rfl
      refine pure_ (i := 6) (N := some 44) (v := ?_) (a' := ?_) #[true, true, true, true, true, true, true, false, false, false, false] rfl rfl (any_of HT_.out (by kernel_rfl)) (fun _ _ _ h => h) (Or.inl ⟨by rfl, ?_⟩) ?_ ?_
      rotate_left
      ·intro w'
       go_simp
       with_reducible rfl
      rotate_left
      ·simp only [Act.put, List.setIfInBounds_toArray, List.set_cons_zero, List.set_cons_succ, i64_w, i32_w]
       rfl
      refine pure_ (i := 7) (N := some 45) (v := ?_) (a' := ?_) #[true, true, true, true, true, true, true, true, false, false, false] rfl rfl (any_of HT_.out (by kernel_rfl)) (fun _ _ _ h => h) (Or.inl ⟨by rfl, ?_⟩) ?_ ?_
      rotate_left
      ·intro w'
       go_simp
       with_reducible rfl
      rotate_left
      ·simp only [Act.put, List.setIfInBounds_toArray, List.set_cons_zero, List.set_cons_succ, i64_w, i32_w]
       rfl
      refine one_ (i := 8) (N := some 12) #[true, true, true, true, true, true, true, true, true, false, false] rfl rfl (one_of HT_.out (by kernel_rfl)) (by decide) (fun K hK => ?_)
      refine box_step ?hg (N := 12) ?hd (cs := #[.int .i16 0, .int .i16 0, .int .i16 0, .int .i16 0]) (t := 30) ?hr ?_; (case hd => rfl); (case hg => rfl); (case hr => first | (go_simp; done) | (go_simp; rfl))
      intro gb277 hg w59 hbox hb
      have n0_ := A_ (Kd.R_below (pr_ HO237) hb)
      have n1_ := A_ (Kd.R_below (pr_ HO249) hb)
      have n2_ := A_ (Kd.R_below (pr_ HO258) hb)
      have n3_ := A_ (Kd.R_below (pr_ HO267) hb)
      have n4_ := A_ (blk_below (pl_ BK231) hb)
      have n5_ := A_ (blk_below (pl_ BK232) hb)
      have n6_ := A_ (blk_below (pl_ BK255) hb)
      have n7_ := A_ (blk_below (pl_ BK264) hb)
      have n8_ := A_ (below_step (bl_ HB) hb)
      have n9_ := A_ (hbox)
      have n10_ := A_ ((by rw [hg]; exact (below_size (bl_ HB)) : w.heap.size ≤ gb277))
      have n11_ := n10_
      have n12_ := A_ ((by rw [hg]; exact Nat.ne_of_lt (blk_lt (pl_ BK231)) : gb231 ≠ gb277))
      have n13_ := Aside0.mk n12_.out.symm
      have n14_ := A_ ((by rw [hg]; exact Nat.ne_of_lt (blk_lt (pl_ BK232)) : gb232 ≠ gb277))
      have n15_ := Aside0.mk n14_.out.symm
      have n16_ := A_ ((by rw [hg]; exact Nat.ne_of_lt (blk_lt (pl_ BK255)) : gb255 ≠ gb277))
      have n17_ := Aside0.mk n16_.out.symm
      have n18_ := A_ ((by rw [hg]; exact Nat.ne_of_lt (blk_lt (pl_ BK264)) : gb264 ≠ gb277))
      have n19_ := Aside0.mk n18_.out.symm
      clear HO237
      clear HO249
      clear HO258
      clear HO267
      clear BK231
      clear BK232
      clear BK255
      clear BK264
      clear HB
      have HO237 := n0_
      have HO249 := n1_
      have HO258 := n2_
      have HO267 := n3_
      have BK231 := n4_
      have BK232 := n5_
      have BK255 := n6_
      have BK264 := n7_
      have HB := n8_
      have BK277 := n9_
      have GW277 := n10_
      have GE277 := n11_
      have NB231_277 := n12_
      have NB277_231 := n13_
      have NB232_277 := n14_
      have NB277_232 := n15_
      have NB255_277 := n16_
      have NB277_255 := n17_
      have NB264_277 := n18_
      have NB277_264 := n19_
      clear n0_ n1_ n2_ n3_ n4_ n5_ n6_ n7_ n8_ n9_ n10_ n11_ n12_ n13_ n14_ n15_ n16_ n17_ n18_ n19_
      clear hb hbox hg
      refine hK.out _ _ ⟨(blk_cell BK264.out 0).trans rfl, (blk_cell BK264.out 1).trans rfl, (blk_cell BK264.out 2).trans rfl, (blk_cell BK264.out 3).trans rfl, (blk_cell BK264.out 4).trans rfl, (blk_cell BK264.out 5).trans rfl, (blk_cell BK232.out 0).trans rfl, (blk_cell BK232.out 1).trans rfl, (blk_cell BK232.out 2).trans rfl, (blk_cell BK232.out 3).trans rfl⟩ (fun hHeld => ?_)
      clear hK K
      refine norm_ (a' := ?_) ?_ ?_
      rotate_left
      ·show Act.put _ (some 12) _ = _
       simp only [Act.put, List.setIfInBounds_toArray, List.set_cons_zero, List.set_cons_succ, i64_w, i32_w]
       rfl
      exact norm_ pa_ (hCont (gb277) _ ⟨hHeld, (by (with_reducible repeat (first | apply Kd.R_alloc | apply Kd.R_drewN | apply Kd.R_drew)); exact Kd.R_mono HO237.out (fun _ hk => hk.2)), (by (with_reducible repeat (first | apply Kd.R_alloc | apply Kd.R_drewN | apply Kd.R_drew)); exact Kd.R_mono HO249.out (fun _ hk => hk.2)), (by (with_reducible repeat (first | apply Kd.R_alloc | apply Kd.R_drewN | apply Kd.R_drew)); exact Kd.R_mono HO258.out (fun _ hk => hk.2)), (by (with_reducible repeat (first | apply Kd.R_alloc | apply Kd.R_drewN | apply Kd.R_drew)); exact Kd.R_mono HO267.out (fun _ hk => hk.2)), (pl_ BK231), (pl_ BK232), (pl_ BK255), (pl_ BK264), (pl_ BK277), GW277.out, GE277.out, NB231_277.out, NB277_231.out, NB232_277.out, NB277_232.out, NB255_277.out, NB277_255.out, NB264_277.out, NB277_264.out, (bl_ HB)⟩)
     ·skip
      refine box_step ?hg (N := 12) ?hd (cs := #[.int .i16 0, .int .i16 0, .int .i16 0, .int .i16 0]) (t := 30) ?hr ?_; (case hd => rfl); (case hg => rfl); (case hr => first | (go_simp; done) | (go_simp; rfl))
      intro gb277 hg w58 hbox hb
      have n0_ := A_ (Kd.R_below (pr_ HO237) hb)
      have n1_ := A_ (Kd.R_below (pr_ HO249) hb)
      have n2_ := A_ (Kd.R_below (pr_ HO258) hb)
      have n3_ := A_ (Kd.R_below (pr_ HO267) hb)
      have n4_ := A_ (blk_below (pl_ BK231) hb)
      have n5_ := A_ (blk_below (pl_ BK232) hb)
      have n6_ := A_ (blk_below (pl_ BK255) hb)
      have n7_ := A_ (blk_below (pl_ BK264) hb)
      have n8_ := A_ (below_step (bl_ HB) hb)
      have n9_ := A_ (hbox)
      have n10_ := A_ ((by rw [hg]; exact (below_size (bl_ HB)) : w.heap.size ≤ gb277))
      have n11_ := n10_
      have n12_ := A_ ((by rw [hg]; exact Nat.ne_of_lt (blk_lt (pl_ BK231)) : gb231 ≠ gb277))
      have n13_ := Aside0.mk n12_.out.symm
      have n14_ := A_ ((by rw [hg]; exact Nat.ne_of_lt (blk_lt (pl_ BK232)) : gb232 ≠ gb277))
      have n15_ := Aside0.mk n14_.out.symm
      have n16_ := A_ ((by rw [hg]; exact Nat.ne_of_lt (blk_lt (pl_ BK255)) : gb255 ≠ gb277))
      have n17_ := Aside0.mk n16_.out.symm
      have n18_ := A_ ((by rw [hg]; exact Nat.ne_of_lt (blk_lt (pl_ BK264)) : gb264 ≠ gb277))
      have n19_ := Aside0.mk n18_.out.symm
      clear HO237
      clear HO249
      clear HO258
      clear HO267
      clear BK231
      clear BK232
      clear BK255
      clear BK264
      clear HB
      have HO237 := n0_
      have HO249 := n1_
      have HO258 := n2_
      have HO267 := n3_
      have BK231 := n4_
      have BK232 := n5_
      have BK255 := n6_
      have BK264 := n7_
      have HB := n8_
      have BK277 := n9_
      have GW277 := n10_
      have GE277 := n11_
      have NB231_277 := n12_
      have NB277_231 := n13_
      have NB232_277 := n14_
      have NB277_232 := n15_
      have NB255_277 := n16_
      have NB277_255 := n17_
      have NB264_277 := n18_
      have NB277_264 := n19_
      clear n0_ n1_ n2_ n3_ n4_ n5_ n6_ n7_ n8_ n9_ n10_ n11_ n12_ n13_ n14_ n15_ n16_ n17_ n18_ n19_
      clear hb hbox hg
      refine hK.out _ _ ⟨(blk_cell BK264.out 0).trans rfl, (blk_cell BK264.out 1).trans rfl, (blk_cell BK264.out 2).trans rfl, (blk_cell BK264.out 3).trans rfl, (blk_cell BK264.out 4).trans rfl, (blk_cell BK264.out 5).trans rfl, (blk_cell BK232.out 0).trans rfl, (blk_cell BK232.out 1).trans rfl, (blk_cell BK232.out 2).trans rfl, (blk_cell BK232.out 3).trans rfl⟩ (fun hHeld => ?_)
      clear hK K
      refine norm_ (a' := ?_) ?_ ?_
      rotate_left
      ·show Act.put _ (some 12) _ = _
       simp only [Act.put, List.setIfInBounds_toArray, List.set_cons_zero, List.set_cons_succ, i64_w, i32_w]
       rfl
      refine one_ (i := 4) (N := some 43) #[true, true, true, true, true, false, false, false, true, false, false] rfl rfl (one_of HT_.out (by kernel_rfl)) (by decide) (fun K hK => ?_)
      refine goes_ Try.func46 (by kernel_rfl) rfl #[.agg #[.slice Ao49 t256.length co49, .int .i16 t259, .int .i16 t260, .int .i16 t261, .int .i16 t262, .bool t263], .agg #[.int .i16 t268, .int .i16 t269, .int .i16 t270, .int .i16 t271], .slice Ao55 t265.length co55] (by rfl) rfl rfl arg_ ?_
      with_reducible refine (impl_DoMoves.calls k _ _ t256 t259 t260 t261 t262 t263 t268 t269 t270 t271 _ _ t265 t272 t273 t274 t275 t276 _ ?side1 ?side2 ?side3 ?side4 A25.out).mono ?_
      (case side1 => repeat (first | exact (Kd.R_reads' HO258.out).2.2 | (with_reducible refine Kd.C_alloc ?_ _) | (with_reducible refine Kd.C_drewN ?_ _) | (with_reducible refine Kd.C_drew ?_)))
      (case side2 => exact (Kd.R_reads' HO258.out).2.1)
      (case side3 => repeat (first | exact (Kd.R_reads' HO267.out).2.2 | (with_reducible refine Kd.C_alloc ?_ _) | (with_reducible refine Kd.C_drewN ?_ _) | (with_reducible refine Kd.C_drew ?_)))
      (case side4 => exact (Kd.R_reads' HO267.out).2.1)
      rintro e w59 ⟨rfl, hb⟩
      refine ⟨_, rfl, ?_⟩
      have n0_ := A_ (Kd.R_below (pr_ HO237) hb)
      have n1_ := A_ (Kd.R_below (pr_ HO249) hb)
      have n2_ := A_ (Kd.R_below (pr_ HO258) hb)
      have n3_ := A_ (Kd.R_below (pr_ HO267) hb)
      have n4_ := A_ (blk_below (pl_ BK231) hb)
      have n5_ := A_ (blk_below (pl_ BK232) hb)
      have n6_ := A_ (blk_below (pl_ BK255) hb)
      have n7_ := A_ (blk_below (pl_ BK264) hb)
      have n8_ := A_ (blk_below (pl_ BK277) hb)
      have n9_ := A_ (below_step (bl_ HB) hb)
      clear HO237
      clear HO249
      clear HO258
      clear HO267
      clear BK231
      clear BK232
      clear BK255
      clear BK264
      clear BK277
      clear HB
      have HO237 := n0_
      have HO249 := n1_
      have HO258 := n2_
      have HO267 := n3_
      have BK231 := n4_
      have BK232 := n5_
      have BK255 := n6_
      have BK264 := n7_
      have BK277 := n8_
      have HB := n9_
      clear n0_ n1_ n2_ n3_ n4_ n5_ n6_ n7_ n8_ n9_
      (try clear hb)
      (try clear hb2)
      (try clear hk)
      (try clear hi)
      refine hK.out _ _ ⟨(blk_cell BK264.out 0).trans rfl, (blk_cell BK264.out 1).trans rfl, (blk_cell BK264.out 2).trans rfl, (blk_cell BK264.out 3).trans rfl, (blk_cell BK264.out 4).trans rfl, (blk_cell BK264.out 5).trans rfl, (blk_cell BK232.out 0).trans rfl, (blk_cell BK232.out 1).trans rfl, (blk_cell BK232.out 2).trans rfl, (blk_cell BK232.out 3).trans rfl⟩ (fun hHeld => ?_)
      clear hK K
      refine norm_ (a' := ?_) ?_ ?_
      rotate_left
      ·show Act.put _ (some 43) _ = _
       simp only [Act.put, List.setIfInBounds_toArray, List.set_cons_zero, List.set_cons_succ, i64_w, i32_w]
       rfl
      refine pure_ (i := 5) (N := some 38) (v := ?_) (a' := ?_) #[true, true, true, true, true, true, false, false, true, false, false] rfl rfl (any_of HT_.out (by kernel_rfl)) (fun _ _ _ h => h) (Or.inl ⟨by rfl, ?_⟩) ?_ ?_
      rotate_left
      ·intro w'
       go_simp
       with_reducible rfl
      rotate_left
      ·simp only [Act.put, List.setIfInBounds_toArray, List.set_cons_zero, List.set_cons_succ, i64_w, i32_w]
       rfl
      refine pure_ (i := 6) (N := some 44) (v := ?_) (a' := ?_) #[true, true, true, true, true, true, true, false, true, false, false] rfl rfl (any_of HT_.out (by kernel_rfl)) (fun _ _ _ h => h) (Or.inl ⟨by rfl, ?_⟩) ?_ ?_
      rotate_left
      ·intro w'
       go_simp
       with_reducible rfl
      rotate_left
      ·simp only [Act.put, List.setIfInBounds_toArray, List.set_cons_zero, List.set_cons_succ, i64_w, i32_w]
       rfl
      refine pure_ (i := 7) (N := some 45) (v := ?_) (a' := ?_) #[true, true, true, true, true, true, true, true, true, false, false] rfl rfl (any_of HT_.out (by kernel_rfl)) (fun _ _ _ h => h) (Or.inl ⟨by rfl, ?_⟩) ?_ ?_
      rotate_left
      ·intro w'
       go_simp
       with_reducible rfl
      rotate_left
      ·simp only [Act.put, List.setIfInBounds_toArray, List.set_cons_zero, List.set_cons_succ, i64_w, i32_w]
       rfl
      exact norm_ pa_ (hCont (gb277) _ ⟨hHeld, (by (with_reducible repeat (first | apply Kd.R_alloc | apply Kd.R_drewN | apply Kd.R_drew)); exact Kd.R_mono HO237.out (fun _ hk => hk.2)), (by (with_reducible repeat (first | apply Kd.R_alloc | apply Kd.R_drewN | apply Kd.R_drew)); exact Kd.R_mono HO249.out (fun _ hk => hk.2)), (by (with_reducible repeat (first | apply Kd.R_alloc | apply Kd.R_drewN | apply Kd.R_drew)); exact Kd.R_mono HO258.out (fun _ hk => hk.2)), (by (with_reducible repeat (first | apply Kd.R_alloc | apply Kd.R_drewN | apply Kd.R_drew)); exact Kd.R_mono HO267.out (fun _ hk => hk.2)), (pl_ BK231), (pl_ BK232), (pl_ BK255), (pl_ BK264), (pl_ BK277), GW277.out, GE277.out, NB231_277.out, NB277_231.out, NB232_277.out, NB277_232.out, NB255_277.out, NB277_255.out, NB264_277.out, NB277_264.out, (bl_ HB)⟩)
    ·skip
     refine box_step ?hg (N := 12) ?hd (cs := #[.int .i16 0, .int .i16 0, .int .i16 0, .int .i16 0]) (t := 30) ?hr ?_; (case hd => rfl); (case hg => rfl); (case hr => first | (go_simp; done) | (go_simp; rfl))
     intro gb277 hg w57 hbox hb
     have n0_ := A_ (Kd.R_below (pr_ HO237) hb)
     have n1_ := A_ (Kd.R_below (pr_ HO249) hb)
     have n2_ := A_ (Kd.R_below (pr_ HO258) hb)
     have n3_ := A_ (Kd.R_below (pr_ HO267) hb)
     have n4_ := A_ (blk_below (pl_ BK231) hb)
     have n5_ := A_ (blk_below (pl_ BK232) hb)
     have n6_ := A_ (blk_below (pl_ BK255) hb)
     have n7_ := A_ (blk_below (pl_ BK264) hb)
     have n8_ := A_ (below_step (bl_ HB) hb)
     have n9_ := A_ (hbox)
     have n10_ := A_ ((by rw [hg]; exact (below_size (bl_ HB)) : w.heap.size ≤ gb277))
     have n11_ := n10_
     have n12_ := A_ ((by rw [hg]; exact Nat.ne_of_lt (blk_lt (pl_ BK231)) : gb231 ≠ gb277))
     have n13_ := Aside0.mk n12_.out.symm
     have n14_ := A_ ((by rw [hg]; exact Nat.ne_of_lt (blk_lt (pl_ BK232)) : gb232 ≠ gb277))
     have n15_ := Aside0.mk n14_.out.symm
     have n16_ := A_ ((by rw [hg]; exact Nat.ne_of_lt (blk_lt (pl_ BK255)) : gb255 ≠ gb277))
     have n17_ := Aside0.mk n16_.out.symm
     have n18_ := A_ ((by rw [hg]; exact Nat.ne_of_lt (blk_lt (pl_ BK264)) : gb264 ≠ gb277))
     have n19_ := Aside0.mk n18_.out.symm
     clear HO237
     clear HO249
     clear HO258
     clear HO267
     clear BK231
     clear BK232
     clear BK255
     clear BK264
     clear HB
     have HO237 := n0_
     have HO249 := n1_
     have HO258 := n2_
     have HO267 := n3_
     have BK231 := n4_
     have BK232 := n5_
     have BK255 := n6_
     have BK264 := n7_
     have HB := n8_
     have BK277 := n9_
     have GW277 := n10_
     have GE277 := n11_
     have NB231_277 := n12_
     have NB277_231 := n13_
     have NB232_277 := n14_
     have NB277_232 := n15_
     have NB255_277 := n16_
     have NB277_255 := n17_
     have NB264_277 := n18_
     have NB277_264 := n19_
     clear n0_ n1_ n2_ n3_ n4_ n5_ n6_ n7_ n8_ n9_ n10_ n11_ n12_ n13_ n14_ n15_ n16_ n17_ n18_ n19_
     clear hb hbox hg
     refine hK.out _ _ ⟨(blk_cell BK264.out 0).trans rfl, (blk_cell BK264.out 1).trans rfl, (blk_cell BK264.out 2).trans rfl, (blk_cell BK264.out 3).trans rfl, (blk_cell BK264.out 4).trans rfl, (blk_cell BK264.out 5).trans rfl, (blk_cell BK232.out 0).trans rfl, (blk_cell BK232.out 1).trans rfl, (blk_cell BK232.out 2).trans rfl, (blk_cell BK232.out 3).trans rfl⟩ (fun hHeld => ?_)
     clear hK K
     refine norm_ (a' := ?_) ?_ ?_
     rotate_left
     ·show Act.put _ (some 12) _ = _
      simp only [Act.put, List.setIfInBounds_toArray, List.set_cons_zero, List.set_cons_succ, i64_w, i32_w]
      rfl
     refine one_ (i := 2) (N := some 41) #[true, true, true, true, false, false, false, false, true, false, false] rfl rfl (one_of HT_.out (by kernel_rfl)) (by decide) (fun K hK => ?_)
     refine goes_ Try.func26 (by kernel_rfl) rfl #[.agg #[.int .i16 a1_0, .int .i16 a1_1, .int .i16 a1_2, .int .i16 a1_3]] (by rfl) rfl rfl arg_ ?_
     with_reducible refine (laws_toWater.calls k a1_0 a1_1 a1_2 a1_3 t268 t269 t270 t271 _ A24.out).mono ?_
     rintro e w58 ⟨rfl, hb⟩
     refine ⟨_, rfl, ?_⟩
     have n0_ := A_ (Kd.R_below (pr_ HO237) hb)
     have n1_ := A_ (Kd.R_below (pr_ HO249) hb)
     have n2_ := A_ (Kd.R_below (pr_ HO258) hb)
     have n3_ := A_ (Kd.R_below (pr_ HO267) hb)
     have n4_ := A_ (blk_below (pl_ BK231) hb)
     have n5_ := A_ (blk_below (pl_ BK232) hb)
     have n6_ := A_ (blk_below (pl_ BK255) hb)
     have n7_ := A_ (blk_below (pl_ BK264) hb)
     have n8_ := A_ (blk_below (pl_ BK277) hb)
     have n9_ := A_ (below_step (bl_ HB) hb)
     clear HO237
     clear HO249
     clear HO258
     clear HO267
     clear BK231
     clear BK232
     clear BK255
     clear BK264
     clear BK277
     clear HB
     have HO237 := n0_
     have HO249 := n1_
     have HO258 := n2_
     have HO267 := n3_
     have BK231 := n4_
     have BK232 := n5_
     have BK255 := n6_
     have BK264 := n7_
     have BK277 := n8_
     have HB := n9_
     clear n0_ n1_ n2_ n3_ n4_ n5_ n6_ n7_ n8_ n9_
     (try clear hb)
     (try clear hb2)
     (try clear hk)
     (try clear hi)
     refine hK.out _ _ ⟨(blk_cell BK264.out 0).trans rfl, (blk_cell BK264.out 1).trans rfl, (blk_cell BK264.out 2).trans rfl, (blk_cell BK264.out 3).trans rfl, (blk_cell BK264.out 4).trans rfl, (blk_cell BK264.out 5).trans rfl, (blk_cell BK232.out 0).trans rfl, (blk_cell BK232.out 1).trans rfl, (blk_cell BK232.out 2).trans rfl, (blk_cell BK232.out 3).trans rfl⟩ (fun hHeld => ?_)
     clear hK K
     refine norm_ (a' := ?_) ?_ ?_
     rotate_left
     ·show Act.put _ (some 41) _ = _
      simp only [Act.put, List.setIfInBounds_toArray, List.set_cons_zero, List.set_cons_succ, i64_w, i32_w]
      rfl
     refine one_ (i := 4) (N := some 43) #[true, true, true, true, true, false, false, false, true, false, false] rfl rfl (one_of HT_.out (by kernel_rfl)) (by decide) (fun K hK => ?_)
     refine goes_ Try.func46 (by kernel_rfl) rfl #[.agg #[.slice Ao49 t256.length co49, .int .i16 t259, .int .i16 t260, .int .i16 t261, .int .i16 t262, .bool t263], .agg #[.int .i16 t268, .int .i16 t269, .int .i16 t270, .int .i16 t271], .slice Ao55 t265.length co55] (by rfl) rfl rfl arg_ ?_
     with_reducible refine (impl_DoMoves.calls k _ _ t256 t259 t260 t261 t262 t263 t268 t269 t270 t271 _ _ t265 t272 t273 t274 t275 t276 _ ?side1 ?side2 ?side3 ?side4 A25.out).mono ?_
     (case side1 => repeat (first | exact (Kd.R_reads' HO258.out).2.2 | (with_reducible refine Kd.C_alloc ?_ _) | (with_reducible refine Kd.C_drewN ?_ _) | (with_reducible refine Kd.C_drew ?_)))
     (case side2 => exact (Kd.R_reads' HO258.out).2.1)
     (case side3 => repeat (first | exact (Kd.R_reads' HO267.out).2.2 | (with_reducible refine Kd.C_alloc ?_ _) | (with_reducible refine Kd.C_drewN ?_ _) | (with_reducible refine Kd.C_drew ?_)))
     (case side4 => exact (Kd.R_reads' HO267.out).2.1)
     rintro e w59 ⟨rfl, hb⟩
     refine ⟨_, rfl, ?_⟩
     have n0_ := A_ (Kd.R_below (pr_ HO237) hb)
     have n1_ := A_ (Kd.R_below (pr_ HO249) hb)
     have n2_ := A_ (Kd.R_below (pr_ HO258) hb)
     have n3_ := A_ (Kd.R_below (pr_ HO267) hb)
     have n4_ := A_ (blk_below (pl_ BK231) hb)
     have n5_ := A_ (blk_below (pl_ BK232) hb)
     have n6_ := A_ (blk_below (pl_ BK255) hb)
     have n7_ := A_ (blk_below (pl_ BK264) hb)
     have n8_ := A_ (blk_below (pl_ BK277) hb)
     have n9_ := A_ (below_step (bl_ HB) hb)
     clear HO237
     clear HO249
     clear HO258
     clear HO267
     clear BK231
     clear BK232
     clear BK255
     clear BK264
     clear BK277
     clear HB
     have HO237 := n0_
     have HO249 := n1_
     have HO258 := n2_
     have HO267 := n3_
     have BK231 := n4_
     have BK232 := n5_
     have BK255 := n6_
     have BK264 := n7_
     have BK277 := n8_
     have HB := n9_
     clear n0_ n1_ n2_ n3_ n4_ n5_ n6_ n7_ n8_ n9_
     (try clear hb)
     (try clear hb2)
     (try clear hk)
     (try clear hi)
     refine hK.out _ _ ⟨(blk_cell BK264.out 0).trans rfl, (blk_cell BK264.out 1).trans rfl, (blk_cell BK264.out 2).trans rfl, (blk_cell BK264.out 3).trans rfl, (blk_cell BK264.out 4).trans rfl, (blk_cell BK264.out 5).trans rfl, (blk_cell BK232.out 0).trans rfl, (blk_cell BK232.out 1).trans rfl, (blk_cell BK232.out 2).trans rfl, (blk_cell BK232.out 3).trans rfl⟩ (fun hHeld => ?_)
     clear hK K
     refine norm_ (a' := ?_) ?_ ?_
     rotate_left
     ·show Act.put _ (some 43) _ = _
      simp only [Act.put, List.setIfInBounds_toArray, List.set_cons_zero, List.set_cons_succ, i64_w, i32_w]
      rfl
     refine pure_ (i := 5) (N := some 38) (v := ?_) (a' := ?_) #[true, true, true, true, true, true, false, false, true, false, false] rfl rfl (any_of HT_.out (by kernel_rfl)) (fun _ _ _ h => h) (Or.inl ⟨by rfl, ?_⟩) ?_ ?_
     rotate_left
     ·intro w'
      go_simp
      with_reducible rfl
     rotate_left
     ·simp only [Act.put, List.setIfInBounds_toArray, List.set_cons_zero, List.set_cons_succ, i64_w, i32_w]
      rfl
     refine pure_ (i := 6) (N := some 44) (v := ?_) (a' := ?_) #[true, true, true, true, true, true, true, false, true, false, false] rfl rfl (any_of HT_.out (by kernel_rfl)) (fun _ _ _ h => h) (Or.inl ⟨by rfl, ?_⟩) ?_ ?_
     rotate_left
     ·intro w'
      go_simp
      with_reducible rfl
     rotate_left
     ·simp only [Act.put, List.setIfInBounds_toArray, List.set_cons_zero, List.set_cons_succ, i64_w, i32_w]
      rfl
     refine pure_ (i := 7) (N := some 45) (v := ?_) (a' := ?_) #[true, true, true, true, true, true, true, true, true, false, false] rfl rfl (any_of HT_.out (by kernel_rfl)) (fun _ _ _ h => h) (Or.inl ⟨by rfl, ?_⟩) ?_ ?_
     rotate_left
     ·intro w'
      go_simp
      with_reducible rfl
     rotate_left
     ·simp only [Act.put, List.setIfInBounds_toArray, List.set_cons_zero, List.set_cons_succ, i64_w, i32_w]
      rfl
     exact norm_ pa_ (hCont (gb277) _ ⟨hHeld, (by (with_reducible repeat (first | apply Kd.R_alloc | apply Kd.R_drewN | apply Kd.R_drew)); exact Kd.R_mono HO237.out (fun _ hk => hk.2)), (by (with_reducible repeat (first | apply Kd.R_alloc | apply Kd.R_drewN | apply Kd.R_drew)); exact Kd.R_mono HO249.out (fun _ hk => hk.2)), (by (with_reducible repeat (first | apply Kd.R_alloc | apply Kd.R_drewN | apply Kd.R_drew)); exact Kd.R_mono HO258.out (fun _ hk => hk.2)), (by (with_reducible repeat (first | apply Kd.R_alloc | apply Kd.R_drewN | apply Kd.R_drew)); exact Kd.R_mono HO267.out (fun _ hk => hk.2)), (pl_ BK231), (pl_ BK232), (pl_ BK255), (pl_ BK264), (pl_ BK277), GW277.out, GE277.out, NB231_277.out, NB277_231.out, NB232_277.out, NB277_232.out, NB255_277.out, NB277_255.out, NB264_277.out, NB277_264.out, (bl_ HB)⟩)
   rintro gb277 w60 ⟨hS_, h0_, h1_, h2_, h3_, h4_, h5_, h6_, h7_, h8_, h9_, h10_, h11_, h12_, h13_, h14_, h15_, h16_, h17_, h18_, h19_⟩
   have n0_ : Aside0 (Kd.R (Kd.int .i16) 23 w60 w.heap.size (fun k_ => some k_ ≠ (.slice Ao49 t256.length co49 : Value).ownBlock) v236 t235) := ⟨h0_⟩
   have n1_ : Aside0 (Kd.R k60 60 w60 w.heap.size (fun k_ => some k_ ≠ (.slice Ao55 t265.length co55 : Value).ownBlock) v248 t247) := ⟨h1_⟩
   have n2_ : Aside0 (Kd.R (Kd.int .i16) 23 w60 w.heap.size (fun k_ => some k_ ≠ (v236 : Value).ownBlock) (.slice Ao49 t256.length co49) t256) := ⟨h2_⟩
   have n3_ : Aside0 (Kd.R k60 60 w60 w.heap.size (fun k_ => some k_ ≠ (v248 : Value).ownBlock) (.slice Ao55 t265.length co55) t265) := ⟨h3_⟩
   have n4_ : Aside0 (w60.heap[gb231]? = some (.cells #[.slice A0_0 l0_0.length c0_0, .int .i16 a0_1, .int .i16 a0_2, .int .i16 a0_3, .int .i16 a0_4, .bool a0_5] 26 (0, 0))) := ⟨h4_⟩
   have n5_ : Aside0 (w60.heap[gb232]? = some (.cells #[.int .i16 a1_0, .int .i16 a1_1, .int .i16 a1_2, .int .i16 a1_3] 24 (0, 0))) := ⟨h5_⟩
   have n6_ : Aside0 (w60.heap[gb255]? = some (.cells #[.int .i16 t250, .int .i16 t251, .int .i16 t252, .int .i16 t253] 30 (0, 0))) := ⟨h6_⟩
   have n7_ : Aside0 (w60.heap[gb264]? = some (.cells #[.slice Ao49 t256.length co49, .int .i16 t259, .int .i16 t260, .int .i16 t261, .int .i16 t262, .bool t263] 32 (0, 0))) := ⟨h7_⟩
   have n8_ : Aside0 (w60.heap[gb277]? = some (.cells #[.int .i16 0, .int .i16 0, .int .i16 0, .int .i16 0] 30 (0, 0))) := ⟨h8_⟩
   have n9_ : Aside0 (w.heap.size ≤ gb277) := ⟨h9_⟩
   have n10_ : Aside0 (w.heap.size ≤ gb277) := ⟨h10_⟩
   have n11_ : Aside0 (gb231 ≠ gb277) := ⟨h11_⟩
   have n12_ : Aside0 (gb277 ≠ gb231) := ⟨h12_⟩
   have n13_ : Aside0 (gb232 ≠ gb277) := ⟨h13_⟩
   have n14_ : Aside0 (gb277 ≠ gb232) := ⟨h14_⟩
   have n15_ : Aside0 (gb255 ≠ gb277) := ⟨h15_⟩
   have n16_ : Aside0 (gb277 ≠ gb255) := ⟨h16_⟩
   have n17_ : Aside0 (gb264 ≠ gb277) := ⟨h17_⟩
   have n18_ : Aside0 (gb277 ≠ gb264) := ⟨h18_⟩
   have n19_ : Aside0 (Below w.heap.size w w60) := ⟨h19_⟩
   clear HO237
   clear HO249
   clear HO258
   clear HO267
   clear BK231
   clear BK232
   clear BK255
   clear BK264
   clear HB
   clear h0_ h1_ h2_ h3_ h4_ h5_ h6_ h7_ h8_ h9_ h10_ h11_ h12_ h13_ h14_ h15_ h16_ h17_ h18_ h19_
   have HO237 := n0_
   have HO249 := n1_
   have HO258 := n2_
   have HO267 := n3_
   have BK231 := n4_
   have BK232 := n5_
   have BK255 := n6_
   have BK264 := n7_
   have BK277 := n8_
   have GW277 := n9_
   have GE277 := n10_
   have NB231_277 := n11_
   have NB277_231 := n12_
   have NB232_277 := n13_
   have NB277_232 := n14_
   have NB255_277 := n15_
   have NB277_255 := n16_
   have NB264_277 := n17_
   have NB277_264 := n18_
   have HB := n19_
   clear n0_ n1_ n2_ n3_ n4_ n5_ n6_ n7_ n8_ n9_ n10_ n11_ n12_ n13_ n14_ n15_ n16_ n17_ n18_ n19_
   have hHeld : w60.cell? ⟨gb264, 0, none⟩ = some (.slice Ao49 t256.length co49) ∧ w60.cell? ⟨gb264, 1, none⟩ = some (.int .i16 t259) ∧ w60.cell? ⟨gb264, 2, none⟩ = some (.int .i16 t260) ∧ w60.cell? ⟨gb264, 3, none⟩ = some (.int .i16 t261) ∧ w60.cell? ⟨gb264, 4, none⟩ = some (.int .i16 t262) ∧ w60.cell? ⟨gb264, 5, none⟩ = some (.bool t263) ∧ w60.cell? ⟨gb232, 0, none⟩ = some (.int .i16 a1_0) ∧ w60.cell? ⟨gb232, 1, none⟩ = some (.int .i16 a1_1) ∧ w60.cell? ⟨gb232, 2, none⟩ = some (.int .i16 a1_2) ∧ w60.cell? ⟨gb232, 3, none⟩ = some (.int .i16 a1_3) := hS_
   refine norm_ (a' := ?_) ?_ ?_
   rotate_left
   ·simp only [putAll, Act.put, List.setIfInBounds_toArray, List.set_cons_zero, List.set_cons_succ]
    rfl
   refine one_ (i := 9) (N := none) #[true, true, true, true, true, true, true, true, true, true, false] rfl rfl (one_of HT_.out (by kernel_rfl)) (by decide) (fun K hK => ?_)
   have hs61 : w60.cell? ⟨gb277, 0, none⟩ = some (.int .i16 0) := (blk_cell BK277.out 0).trans rfl
   have hfs61 := blk_frozen BK277.out 0
   have hns61_0 := NB231_277.out
   have hns61_1 := NB232_277.out
   have hns61_2 := NB255_277.out
   have hns61_3 := NB264_277.out
   have hms61_0 := NB277_231.out
   have hms61_1 := NB277_232.out
   have hms61_2 := NB277_255.out
   have hms61_3 := NB277_264.out
   have hs62 : w60.cell? ⟨gb277, 1, none⟩ = some (.int .i16 0) := (blk_cell BK277.out 1).trans rfl
   have hfs62 := blk_frozen BK277.out 1
   have hns62_0 := NB231_277.out
   have hns62_1 := NB232_277.out
   have hns62_2 := NB255_277.out
   have hns62_3 := NB264_277.out
   have hms62_0 := NB277_231.out
   have hms62_1 := NB277_232.out
   have hms62_2 := NB277_255.out
   have hms62_3 := NB277_264.out
   have hs63 : w60.cell? ⟨gb277, 2, none⟩ = some (.int .i16 0) := (blk_cell BK277.out 2).trans rfl
   have hfs63 := blk_frozen BK277.out 2
   have hns63_0 := NB231_277.out
   have hns63_1 := NB232_277.out
   have hns63_2 := NB255_277.out
   have hns63_3 := NB264_277.out
   have hms63_0 := NB277_231.out
   have hms63_1 := NB277_232.out
   have hms63_2 := NB277_255.out
   have hms63_3 := NB277_264.out
   have hs64 : w60.cell? ⟨gb277, 3, none⟩ = some (.int .i16 0) := (blk_cell BK277.out 3).trans rfl
   have hfs64 := blk_frozen BK277.out 3
   have hns64_0 := NB231_277.out
   have hns64_1 := NB232_277.out
   have hns64_2 := NB255_277.out
   have hns64_3 := NB264_277.out
   have hms64_0 := NB277_231.out
   have hms64_1 := NB277_232.out
   have hms64_2 := NB277_255.out
   have hms64_3 := NB277_264.out
   refine skip_ (w1 := ?_) (by rfl) rfl ?_ ?_
   rotate_left
   ·go_simp
    rfl
   refine hK.out _ _ ⟨((cell_far (p := ⟨gb277, _, none⟩) NB264_277.out _).trans ((cf3_ NB264_277 (hHeld.1)))), ((cell_far (p := ⟨gb277, _, none⟩) NB264_277.out _).trans ((cf3_ NB264_277 (hHeld.2.1)))), ((cell_far (p := ⟨gb277, _, none⟩) NB264_277.out _).trans ((cf3_ NB264_277 (hHeld.2.2.1)))), ((cell_far (p := ⟨gb277, _, none⟩) NB264_277.out _).trans ((cf3_ NB264_277 (hHeld.2.2.2.1)))), ((cell_far (p := ⟨gb277, _, none⟩) NB264_277.out _).trans ((cf3_ NB264_277 (hHeld.2.2.2.2.1)))), ((cell_far (p := ⟨gb277, _, none⟩) NB264_277.out _).trans ((cf3_ NB264_277 (hHeld.2.2.2.2.2.1)))), ((cell_far (p := ⟨gb277, _, none⟩) NB232_277.out _).trans ((cf3_ NB232_277 (hHeld.2.2.2.2.2.2.1)))), ((cell_far (p := ⟨gb277, _, none⟩) NB232_277.out _).trans ((cf3_ NB232_277 (hHeld.2.2.2.2.2.2.2.1)))), ((cell_far (p := ⟨gb277, _, none⟩) NB232_277.out _).trans ((cf3_ NB232_277 (hHeld.2.2.2.2.2.2.2.2.1)))), ((cell_far (p := ⟨gb277, _, none⟩) NB232_277.out _).trans ((cf3_ NB232_277 (hHeld.2.2.2.2.2.2.2.2.2))))⟩ (fun hHeld => ?_)
   clear hK K
   refine pure_ (i := 10) (N := some 13) (v := ?_) (a' := ?_) #[true, true, true, true, true, true, true, true, true, true, true] rfl rfl (any_of HT_.out (by kernel_rfl)) (fun _ _ _ h => h) (Or.inl ⟨by rfl, ?_⟩) ?_ ?_
   rotate_left
   ·intro w'
    go_simp
    with_reducible rfl
   rotate_left
   ·simp only [Act.put, List.setIfInBounds_toArray, List.set_cons_zero, List.set_cons_succ, i64_w, i32_w]
    rfl
   refine done_ (done_of HT_.out (by kernel_rfl)) ?_
   go_upto_region 12 with (fail)
   go_cut [54] (fun v54 wc => ∃ (kq : Nat) (x54_25 : Bool), v54 = .bool x54_25 ∧ Aside0 (laws_FnExactDoMoves.j0 kq l2 t265 x54_25 l0_0 a0_1 a0_2 a0_3 a0_4 a0_5 t256 t259 t260 t261 t262 t263 = some r) ∧ Aside0 (kq ≤ k) ∧ Aside0 (Kd.R k60 60 wc w.heap.size (fun _ => True) (.slice Ao55 t265.length co55) t265) ∧ Aside0 (Kd.R (Kd.int .i16) 23 wc w.heap.size (fun _ => True) (.slice Ao49 t256.length co49) t256) ∧ Aside0 (wc.heap[gb231]? = some (.cells #[(.slice A0_0 l0_0.length c0_0), .int .i16 a0_1, .int .i16 a0_2, .int .i16 a0_3, .int .i16 a0_4, .bool a0_5] 26 (0, 0))) ∧ Aside0 (wc.heap[gb232]? = some (.cells #[.int .i16 a1_0, .int .i16 a1_1, .int .i16 a1_2, .int .i16 a1_3] 24 (0, 0))) ∧ Aside0 (wc.heap[gb255]? = some (.cells #[.int .i16 t250, .int .i16 t251, .int .i16 t252, .int .i16 t253] 30 (0, 0))) ∧ Aside0 (wc.heap[gb264]? = some (.cells #[(.slice Ao49 t256.length co49), .int .i16 t259, .int .i16 t260, .int .i16 t261, .int .i16 t262, .bool t263] 32 (0, 0))) ∧ Aside0 (wc.heap[gb277]? = some (.cells #[.int .i16 t272, .int .i16 t273, .int .i16 t274, .int .i16 t275] 30 (0, 0))) ∧ Aside0 (Below w.heap.size w wc))
   case first =>
    have H := HC26.out
    clear HC26
    replace H := Option.bind_eq_some_iff.mp H
    obtain ⟨t278, A650, H⟩ := H
    replace H : (if t278 = true then (laws_FnExactDoMoves.j0 k l2 t265 (t276 != t254) l0_0 a0_1 a0_2 a0_3 a0_4 a0_5 t256 t259 t260 t261 t262 t263) else (laws_FnExactDoMoves.j0 k l2 t265 true l0_0 a0_1 a0_2 a0_3 a0_4 a0_5 t256 t259 t260 t261 t262 t263)) = some r := H
    have A65 := Aside0.mk A650
    clear A650
    by_cases c66 : t278 = true
    ·subst c66
     have H1 : (laws_FnExactDoMoves.j0 k l2 t265 (t276 != t254) l0_0 a0_1 a0_2 a0_3 a0_4 a0_5 t256 t259 t260 t261 t262 t263) = some r := by rw [if_pos rfl] at H; exact H
     clear H
     have H := H1
     clear H1
     have H' := Aside0.mk H
     clear H
     have hnb67 := NB277_231.out
     have hnc67 := NB231_277.out
     have hnb68 := NB277_232.out
     have hnc68 := NB232_277.out
     have hnb69 := NB277_255.out
     have hnc69 := NB255_277.out
     have hnb70 := NB277_264.out
     have hnc70 := NB264_277.out
     have hcz71_0 : w60.cell? ⟨gb277, 0, none⟩ = some (.int .i16 0) := (blk_cell BK277.out 0).trans rfl
     have hcz71_1 : w60.cell? ⟨gb277, 1, none⟩ = some (.int .i16 0) := (blk_cell BK277.out 1).trans rfl
     have hcz71_2 : w60.cell? ⟨gb277, 2, none⟩ = some (.int .i16 0) := (blk_cell BK277.out 2).trans rfl
     have hcz71_3 : w60.cell? ⟨gb277, 3, none⟩ = some (.int .i16 0) := (blk_cell BK277.out 3).trans rfl
     have hfz71_0 := blk_frozen BK277.out 0
     have hfz71_1 := blk_frozen BK277.out 1
     have hfz71_2 := blk_frozen BK277.out 2
     have hfz71_3 := blk_frozen BK277.out 3
     have hnb72 := NB255_231.out
     have hnc72 := NB231_255.out
     have hnb73 := NB255_232.out
     have hnc73 := NB232_255.out
     have hnb74 := NB255_264.out
     have hnc74 := NB264_255.out
     have hcz75_0 : w60.cell? ⟨gb255, 0, none⟩ = some (.int .i16 t250) := (blk_cell BK255.out 0).trans rfl
     have hcz75_1 : w60.cell? ⟨gb255, 1, none⟩ = some (.int .i16 t251) := (blk_cell BK255.out 1).trans rfl
     have hcz75_2 : w60.cell? ⟨gb255, 2, none⟩ = some (.int .i16 t252) := (blk_cell BK255.out 2).trans rfl
     have hcz75_3 : w60.cell? ⟨gb255, 3, none⟩ = some (.int .i16 t253) := (blk_cell BK255.out 3).trans rfl
     have hfz75_0 := blk_frozen BK255.out 0
     have hfz75_1 := blk_frozen BK255.out 1
     have hfz75_2 := blk_frozen BK255.out 2
     have hfz75_3 := blk_frozen BK255.out 3
     go_wp2_with (first | ((with_reducible refine gate_callee (f := 34) rfl ?_); refine goesL_ (some 48) rfl rfl Try.func34 (by kernel_rfl) rfl #[.agg #[.int .i16 t272, .int .i16 t273, .int .i16 t274, .int .i16 t275], .agg #[.int .i16 t250, .int .i16 t251, .int .i16 t252, .int .i16 t253]] rfl arg_ ?_; (with_reducible refine (laws_eqWater.calls k t272 t273 t274 t275 t250 t251 t252 t253 true _ A65.out).mono ?_); rintro e w76 ⟨rfl, hb⟩; refine ⟨_, rfl, ?_⟩; have n0_ := A_ (Kd.R_below (by (with_reducible repeat (first | apply Kd.R_alloc | apply Kd.R_drewN | apply Kd.R_drew)); exact (rf4_ HO237 BK277 (by decide))) hb); have n1_ := A_ (Kd.R_below (by (with_reducible repeat (first | apply Kd.R_alloc | apply Kd.R_drewN | apply Kd.R_drew)); exact (rf4_ HO249 BK277 (by decide))) hb); have n2_ := A_ (Kd.R_below (by (with_reducible repeat (first | apply Kd.R_alloc | apply Kd.R_drewN | apply Kd.R_drew)); exact (rf4_ HO258 BK277 (by decide))) hb); have n3_ := A_ (Kd.R_below (by (with_reducible repeat (first | apply Kd.R_alloc | apply Kd.R_drewN | apply Kd.R_drew)); exact (rf4_ HO267 BK277 (by decide))) hb); have n4_ := A_ (blk_below (g := gb231) (o := .cells #[.slice A0_0 l0_0.length c0_0, .int .i16 a0_1, .int .i16 a0_2, .int .i16 a0_3, .int .i16 a0_4, .bool a0_5] 26 (0, 0)) (pf_ BK231 NB231_277) hb); have n5_ := A_ (blk_below (g := gb232) (o := .cells #[.int .i16 a1_0, .int .i16 a1_1, .int .i16 a1_2, .int .i16 a1_3] 24 (0, 0)) (pf_ BK232 NB232_277) hb); have n6_ := A_ (blk_below (g := gb255) (o := .cells #[.int .i16 t250, .int .i16 t251, .int .i16 t252, .int .i16 t253] 30 (0, 0)) (pf_ BK255 NB255_277) hb); have n7_ := A_ (blk_below (g := gb264) (o := .cells #[.slice Ao49 t256.length co49, .int .i16 t259, .int .i16 t260, .int .i16 t261, .int .i16 t262, .bool t263] 32 (0, 0)) (pf_ BK264 NB264_277) hb); have n8_ := A_ (blk_below (g := gb277) (o := .cells #[.int .i16 t272, .int .i16 t273, .int .i16 t274, .int .i16 t275] 30 (0, 0)) (by (with_reducible repeat (first | refine blk_drewN ?_ _ | refine blk_drew ?_ | refine blk_alloc ?_ _)); refine blk_put (cs := #[.int .i16 t272, .int .i16 t273, .int .i16 t274, .int .i16 0]) ?_ 3 _ rfl; (with_reducible repeat (first | refine blk_drewN ?_ _ | refine blk_drew ?_ | refine blk_alloc ?_ _)); refine blk_put (cs := #[.int .i16 t272, .int .i16 t273, .int .i16 0, .int .i16 0]) ?_ 2 _ rfl; (with_reducible repeat (first | refine blk_drewN ?_ _ | refine blk_drew ?_ | refine blk_alloc ?_ _)); refine blk_put (cs := #[.int .i16 t272, .int .i16 0, .int .i16 0, .int .i16 0]) ?_ 1 _ rfl; (with_reducible repeat (first | refine blk_drewN ?_ _ | refine blk_drew ?_ | refine blk_alloc ?_ _)); refine blk_put (cs := #[.int .i16 0, .int .i16 0, .int .i16 0, .int .i16 0]) ?_ 0 _ rfl; (with_reducible repeat (first | refine blk_drewN ?_ _ | refine blk_drew ?_ | refine blk_alloc ?_ _)); exact BK277.out) hb); have n9_ := A_ (below_step (bs_ HB GE277) hb); clear HO237; clear HO249; clear HO258; clear HO267; clear BK231; clear BK232; clear BK255; clear BK264; clear BK277; clear HB; have HO237 := n0_; have HO249 := n1_; have HO258 := n2_; have HO267 := n3_; have BK231 := n4_; have BK232 := n5_; have BK255 := n6_; have BK264 := n7_; have BK277 := n8_; have HB := n9_; clear n0_ n1_ n2_ n3_ n4_ n5_ n6_ n7_ n8_ n9_; (try clear hb); (try clear hb2); (try clear hk); (try clear hi)))
     go_meet
     case rel => exact ⟨_, ((t276 != t254)), rs_, H', ⟨by first | omega | exact Nat.le_refl _⟩, ⟨by (with_reducible repeat (first | apply Kd.R_alloc | apply Kd.R_drewN | apply Kd.R_drew)); exact Kd.R_mono HO267.out (fun _ hk => trivial)⟩, ⟨by (with_reducible repeat (first | apply Kd.R_alloc | apply Kd.R_drewN | apply Kd.R_drew)); exact Kd.R_mono HO258.out (fun _ hk => trivial)⟩, ⟨pl_ BK231⟩, ⟨pl_ BK232⟩, ⟨pl_ BK255⟩, ⟨pl_ BK264⟩, ⟨pl_ BK277⟩, ⟨bl_ HB⟩⟩
    ·replace c66 := Bool.eq_false_iff.mpr c66
     subst c66
     have H1 : (laws_FnExactDoMoves.j0 k l2 t265 true l0_0 a0_1 a0_2 a0_3 a0_4 a0_5 t256 t259 t260 t261 t262 t263) = some r := by rw [if_neg (show ¬ (false = true) by decide)] at H; exact H
     clear H
     have H := H1
     clear H1
     have H' := Aside0.mk H
     clear H
     have hnb77 := NB277_231.out
     have hnc77 := NB231_277.out
     have hnb78 := NB277_232.out
     have hnc78 := NB232_277.out
     have hnb79 := NB277_255.out
     have hnc79 := NB255_277.out
     have hnb80 := NB277_264.out
     have hnc80 := NB264_277.out
     have hcz81_0 : w60.cell? ⟨gb277, 0, none⟩ = some (.int .i16 0) := (blk_cell BK277.out 0).trans rfl
     have hcz81_1 : w60.cell? ⟨gb277, 1, none⟩ = some (.int .i16 0) := (blk_cell BK277.out 1).trans rfl
     have hcz81_2 : w60.cell? ⟨gb277, 2, none⟩ = some (.int .i16 0) := (blk_cell BK277.out 2).trans rfl
     have hcz81_3 : w60.cell? ⟨gb277, 3, none⟩ = some (.int .i16 0) := (blk_cell BK277.out 3).trans rfl
     have hfz81_0 := blk_frozen BK277.out 0
     have hfz81_1 := blk_frozen BK277.out 1
     have hfz81_2 := blk_frozen BK277.out 2
     have hfz81_3 := blk_frozen BK277.out 3
     have hnb82 := NB255_231.out
     have hnc82 := NB231_255.out
     have hnb83 := NB255_232.out
     have hnc83 := NB232_255.out
     have hnb84 := NB255_264.out
     have hnc84 := NB264_255.out
     have hcz85_0 : w60.cell? ⟨gb255, 0, none⟩ = some (.int .i16 t250) := (blk_cell BK255.out 0).trans rfl
     have hcz85_1 : w60.cell? ⟨gb255, 1, none⟩ = some (.int .i16 t251) := (blk_cell BK255.out 1).trans rfl
     have hcz85_2 : w60.cell? ⟨gb255, 2, none⟩ = some (.int .i16 t252) := (blk_cell BK255.out 2).trans rfl
     have hcz85_3 : w60.cell? ⟨gb255, 3, none⟩ = some (.int .i16 t253) := (blk_cell BK255.out 3).trans rfl
     have hfz85_0 := blk_frozen BK255.out 0
     have hfz85_1 := blk_frozen BK255.out 1
     have hfz85_2 := blk_frozen BK255.out 2
     have hfz85_3 := blk_frozen BK255.out 3
     go_wp2_with (first | ((with_reducible refine gate_callee (f := 34) rfl ?_); refine goesL_ (some 48) rfl rfl Try.func34 (by kernel_rfl) rfl #[.agg #[.int .i16 t272, .int .i16 t273, .int .i16 t274, .int .i16 t275], .agg #[.int .i16 t250, .int .i16 t251, .int .i16 t252, .int .i16 t253]] rfl arg_ ?_; (with_reducible refine (laws_eqWater.calls k t272 t273 t274 t275 t250 t251 t252 t253 false _ A65.out).mono ?_); rintro e w86 ⟨rfl, hb⟩; refine ⟨_, rfl, ?_⟩; have n0_ := A_ (Kd.R_below (by (with_reducible repeat (first | apply Kd.R_alloc | apply Kd.R_drewN | apply Kd.R_drew)); exact (rf4_ HO237 BK277 (by decide))) hb); have n1_ := A_ (Kd.R_below (by (with_reducible repeat (first | apply Kd.R_alloc | apply Kd.R_drewN | apply Kd.R_drew)); exact (rf4_ HO249 BK277 (by decide))) hb); have n2_ := A_ (Kd.R_below (by (with_reducible repeat (first | apply Kd.R_alloc | apply Kd.R_drewN | apply Kd.R_drew)); exact (rf4_ HO258 BK277 (by decide))) hb); have n3_ := A_ (Kd.R_below (by (with_reducible repeat (first | apply Kd.R_alloc | apply Kd.R_drewN | apply Kd.R_drew)); exact (rf4_ HO267 BK277 (by decide))) hb); have n4_ := A_ (blk_below (g := gb231) (o := .cells #[.slice A0_0 l0_0.length c0_0, .int .i16 a0_1, .int .i16 a0_2, .int .i16 a0_3, .int .i16 a0_4, .bool a0_5] 26 (0, 0)) (pf_ BK231 NB231_277) hb); have n5_ := A_ (blk_below (g := gb232) (o := .cells #[.int .i16 a1_0, .int .i16 a1_1, .int .i16 a1_2, .int .i16 a1_3] 24 (0, 0)) (pf_ BK232 NB232_277) hb); have n6_ := A_ (blk_below (g := gb255) (o := .cells #[.int .i16 t250, .int .i16 t251, .int .i16 t252, .int .i16 t253] 30 (0, 0)) (pf_ BK255 NB255_277) hb); have n7_ := A_ (blk_below (g := gb264) (o := .cells #[.slice Ao49 t256.length co49, .int .i16 t259, .int .i16 t260, .int .i16 t261, .int .i16 t262, .bool t263] 32 (0, 0)) (pf_ BK264 NB264_277) hb); have n8_ := A_ (blk_below (g := gb277) (o := .cells #[.int .i16 t272, .int .i16 t273, .int .i16 t274, .int .i16 t275] 30 (0, 0)) (by (with_reducible repeat (first | refine blk_drewN ?_ _ | refine blk_drew ?_ | refine blk_alloc ?_ _)); refine blk_put (cs := #[.int .i16 t272, .int .i16 t273, .int .i16 t274, .int .i16 0]) ?_ 3 _ rfl; (with_reducible repeat (first | refine blk_drewN ?_ _ | refine blk_drew ?_ | refine blk_alloc ?_ _)); refine blk_put (cs := #[.int .i16 t272, .int .i16 t273, .int .i16 0, .int .i16 0]) ?_ 2 _ rfl; (with_reducible repeat (first | refine blk_drewN ?_ _ | refine blk_drew ?_ | refine blk_alloc ?_ _)); refine blk_put (cs := #[.int .i16 t272, .int .i16 0, .int .i16 0, .int .i16 0]) ?_ 1 _ rfl; (with_reducible repeat (first | refine blk_drewN ?_ _ | refine blk_drew ?_ | refine blk_alloc ?_ _)); refine blk_put (cs := #[.int .i16 0, .int .i16 0, .int .i16 0, .int .i16 0]) ?_ 0 _ rfl; (with_reducible repeat (first | refine blk_drewN ?_ _ | refine blk_drew ?_ | refine blk_alloc ?_ _)); exact BK277.out) hb); have n9_ := A_ (below_step (bs_ HB GE277) hb); clear HO237; clear HO249; clear HO258; clear HO267; clear BK231; clear BK232; clear BK255; clear BK264; clear BK277; clear HB; have HO237 := n0_; have HO249 := n1_; have HO258 := n2_; have HO267 := n3_; have BK231 := n4_; have BK232 := n5_; have BK255 := n6_; have BK264 := n7_; have BK277 := n8_; have HB := n9_; clear n0_ n1_ n2_ n3_ n4_ n5_ n6_ n7_ n8_ n9_; (try clear hb); (try clear hb2); (try clear hk); (try clear hi)))
     go_meet
     case rel => exact ⟨_, (true), rs_, H', ⟨by first | omega | exact Nat.le_refl _⟩, ⟨by (with_reducible repeat (first | apply Kd.R_alloc | apply Kd.R_drewN | apply Kd.R_drew)); exact Kd.R_mono HO267.out (fun _ hk => trivial)⟩, ⟨by (with_reducible repeat (first | apply Kd.R_alloc | apply Kd.R_drewN | apply Kd.R_drew)); exact Kd.R_mono HO258.out (fun _ hk => trivial)⟩, ⟨pl_ BK231⟩, ⟨pl_ BK232⟩, ⟨pl_ BK255⟩, ⟨pl_ BK264⟩, ⟨pl_ BK277⟩, ⟨bl_ HB⟩⟩
   case rest =>
    clear HC26
    try clear c2
    try clear p2
    try clear c3
    try clear c4
    try clear c6
    try clear c7
    try clear c8
    try clear c26
    try clear c34
    try clear c46
    try clear c66
    try clear c67
    try clear c68
    try clear c69
    try clear c70
    try clear c72
    try clear c73
    try clear c74
    try clear c77
    try clear c78
    try clear c79
    try clear c80
    try clear c82
    try clear c83
    try clear c84
    try clear hcz71_0
    try clear hcz71_1
    try clear hcz71_2
    try clear hcz71_3
    try clear hcz75_0
    try clear hcz75_1
    try clear hcz75_2
    try clear hcz75_3
    try clear hcz81_0
    try clear hcz81_1
    try clear hcz81_2
    try clear hcz81_3
    try clear hcz85_0
    try clear hcz85_1
    try clear hcz85_2
    try clear hcz85_3
    try clear hfz71_0
    try clear hfz71_1
    try clear hfz71_2
    try clear hfz71_3
    try clear hfz75_0
    try clear hfz75_1
    try clear hfz75_2
    try clear hfz75_3
    try clear hfz81_0
    try clear hfz81_1
    try clear hfz81_2
    try clear hfz81_3
    try clear hfz85_0
    try clear hfz85_1
    try clear hfz85_2
    try clear hfz85_3
    obtain ⟨kq, x54_25, rfl, HA, HJ25, HO_11, HO_265000, BK231, BK232, BK255, BK264, BK277, HB⟩ := hcut
    cases kq with
    | zero => exact absurd HA.out (by simp [laws_FnExactDoMoves.j0])
    | succ kj25 =>
     have H := HA.out
     clear HA
     simp only [laws_FnExactDoMoves.j0] at H
     by_cases c87 : x54_25 = true
     ·subst c87
      have H1 : (some false) = some r := by rw [if_pos rfl] at H; exact H
      clear H
      have H := H1
      clear H1
      obtain rfl := Option.some.inj H
      go_wp2
      go_ret
      exact ⟨by first | rfl | (simp [errW_none, errW_some] <;> rfl) | (simp [*, errW_none, errW_some] <;> rfl), bl_ HB⟩
     ·replace c87 := Bool.eq_false_iff.mpr c87
      subst c87
      have H1 : ((laws_toPuzzle.f kj25 l0_0 a0_1 a0_2 a0_3 a0_4 a0_5).bind fun bt279 => ((laws_eqPuzzle.f kj25 t256 t259 t260 t261 t262 t263 bt279.1 bt279.2.1 bt279.2.2.1 bt279.2.2.2.1 bt279.2.2.2.2.1 bt279.2.2.2.2.2).bind fun t287 => (if t287 = true then ((laws_toMoveS.f kj25 l2).bind fun t288 => ((laws_eqMoveS.f kj25 t265 t288).bind fun t291 => (if t291 = true then (some true) else (some false)))) else (some false)))) = some r := by rw [if_neg (show ¬ (false = true) by decide)] at H; exact H
      clear H
      have H := H1
      clear H1
      replace H := Option.bind_eq_some_iff.mp H
      obtain ⟨⟨t279, t282, t283, t284, t285, t286⟩, A880, H⟩ := H
      replace H : ((laws_eqPuzzle.f kj25 t256 t259 t260 t261 t262 t263 t279 t282 t283 t284 t285 t286).bind fun t287 => (if t287 = true then ((laws_toMoveS.f kj25 l2).bind fun t288 => ((laws_eqMoveS.f kj25 t265 t288).bind fun t291 => (if t291 = true then (some true) else (some false)))) else (some false))) = some r := H
      have A88 := Aside0.mk A880
      clear A880
      replace H := Option.bind_eq_some_iff.mp H
      obtain ⟨t287, A890, H⟩ := H
      replace H : (if t287 = true then ((laws_toMoveS.f kj25 l2).bind fun t288 => ((laws_eqMoveS.f kj25 t265 t288).bind fun t291 => (if t291 = true then (some true) else (some false)))) else (some false)) = some r := H
      have A89 := Aside0.mk A890
      clear A890
      by_cases c90 : t287 = true
      ·subst c90
       have H1 : ((laws_toMoveS.f kj25 l2).bind fun t288 => ((laws_eqMoveS.f kj25 t265 t288).bind fun t291 => (if t291 = true then (some true) else (some false)))) = some r := by rw [if_pos rfl] at H; exact H
       clear H
       have H := H1
       clear H1
       replace H := Option.bind_eq_some_iff.mp H
       obtain ⟨t288, A910, H⟩ := H
       replace H : ((laws_eqMoveS.f kj25 t265 t288).bind fun t291 => (if t291 = true then (some true) else (some false))) = some r := H
       have A91 := Aside0.mk A910
       clear A910
       replace H := Option.bind_eq_some_iff.mp H
       obtain ⟨t291, A920, H⟩ := H
       replace H : (if t291 = true then (some true) else (some false)) = some r := H
       have A92 := Aside0.mk A920
       clear A920
       by_cases c93 : t291 = true
       ·subst c93
        have H1 : (some true) = some r := by rw [if_pos rfl] at H; exact H
        clear H
        have H := H1
        clear H1
        obtain rfl := Option.some.inj H
        try go_wp2
        have n0_ := A_ (Kd.R_drew HO_11.out)
        have n1_ := A_ (Kd.R_drew HO_265000.out)
        have n2_ := A_ (blk_drew BK231.out)
        have n3_ := A_ (blk_drew BK232.out)
        have n4_ := A_ (blk_drew BK255.out)
        have n5_ := A_ (blk_drew BK264.out)
        have n6_ := A_ (blk_drew BK277.out)
        have n7_ := A_ (below_drew1 HB.out)
        clear HO_11
        clear HO_265000
        clear BK231
        clear BK232
        clear BK255
        clear BK264
        clear BK277
        clear HB
        have HO_11 := n0_
        have HO_265000 := n1_
        have BK231 := n2_
        have BK232 := n3_
        have BK255 := n4_
        have BK264 := n5_
        have BK277 := n6_
        have HB := n7_
        clear n0_ n1_ n2_ n3_ n4_ n5_ n6_ n7_
        refine start_ (n := 5) (S := fun w' => w'.cell? ⟨gb264, 0, none⟩ = some (.slice Ao49 t256.length co49) ∧ w'.cell? ⟨gb264, 1, none⟩ = some (.int .i16 t259) ∧ w'.cell? ⟨gb264, 2, none⟩ = some (.int .i16 t260) ∧ w'.cell? ⟨gb264, 3, none⟩ = some (.int .i16 t261) ∧ w'.cell? ⟨gb264, 4, none⟩ = some (.int .i16 t262) ∧ w'.cell? ⟨gb264, 5, none⟩ = some (.bool t263) ∧ w'.cell? ⟨gb231, 0, none⟩ = some (.slice A0_0 l0_0.length c0_0) ∧ w'.cell? ⟨gb231, 1, none⟩ = some (.int .i16 a0_1) ∧ w'.cell? ⟨gb231, 2, none⟩ = some (.int .i16 a0_2) ∧ w'.cell? ⟨gb231, 3, none⟩ = some (.int .i16 a0_3) ∧ w'.cell? ⟨gb231, 4, none⟩ = some (.int .i16 a0_4) ∧ w'.cell? ⟨gb231, 5, none⟩ = some (.bool a0_5)) (ds := []) #[false, false, false, false, false] (by kernel_rfl) rfl rfl ⟨(blk_cell BK264.out 0).trans rfl, (blk_cell BK264.out 1).trans rfl, (blk_cell BK264.out 2).trans rfl, (blk_cell BK264.out 3).trans rfl, (blk_cell BK264.out 4).trans rfl, (blk_cell BK264.out 5).trans rfl, (blk_cell BK231.out 0).trans rfl, (blk_cell BK231.out 1).trans rfl, (blk_cell BK231.out 2).trans rfl, (blk_cell BK231.out 3).trans rfl, (blk_cell BK231.out 4).trans rfl, (blk_cell BK231.out 5).trans rfl⟩ (fun hHeld => ?_)
        generalize wc.drew = w94 at HO_11 HO_265000 BK231 BK232 BK255 BK264 BK277 HB hHeld ⊢
        refine take_ (i := 0) (N := some 55) (v := ?_) (a' := ?_) #[true, false, false, false, false] rfl rfl (by kernel_rfl) (fun _ _ _ h => h) (Or.inl ⟨by rfl, ?_⟩) hHeld ?_ ?_
        rotate_left
        ·rintro w' ⟨s0, s1, s2, s3, s4, s5, s6, s7, s8, s9, s10, s11⟩
         go_simp
         with_reducible rfl
        rotate_left
        ·simp only [Act.put, List.setIfInBounds_toArray, List.set_cons_zero, List.set_cons_succ, i64_w, i32_w]
         rfl
        refine take_ (i := 1) (N := some 56) (v := ?_) (a' := ?_) #[true, true, false, false, false] rfl rfl (by kernel_rfl) (fun _ _ _ h => h) (Or.inl ⟨by rfl, ?_⟩) hHeld ?_ ?_
        rotate_left
        ·rintro w' ⟨s0, s1, s2, s3, s4, s5, s6, s7, s8, s9, s10, s11⟩
         go_simp
         with_reducible rfl
        rotate_left
        ·simp only [Act.put, List.setIfInBounds_toArray, List.set_cons_zero, List.set_cons_succ, i64_w, i32_w]
         rfl
        refine one_ (i := 2) (N := some 57) #[true, true, true, false, false] rfl rfl (by kernel_rfl) (by decide) (fun K hK => ?_)
        refine goes_ Try.func18 (by kernel_rfl) rfl #[.agg #[.slice A0_0 l0_0.length c0_0, .int .i16 a0_1, .int .i16 a0_2, .int .i16 a0_3, .int .i16 a0_4, .bool a0_5]] (by rfl) rfl rfl arg_ ?_
        with_reducible refine (laws_toPuzzle.calls kj25 _ _ l0_0 a0_1 a0_2 a0_3 a0_4 a0_5 t279 t282 t283 t284 t285 t286 _ ?side1 ?side2 A88.out).mono ?_
        (case side1 => repeat (first | exact (Kd.C_below HR0_0.out HB.out) | (with_reducible refine Kd.C_alloc ?_ _) | (with_reducible refine Kd.C_drewN ?_ _) | (with_reducible refine Kd.C_drew ?_)))
        (case side2 => exact HC0_0.out)
        rintro e w95 ⟨v280, rfl, ho0, hb⟩
        refine ⟨_, rfl, ?_⟩
        have n0_ := A_ (Kd.R_below (pr_ HO_11) hb)
        have n1_ := A_ (Kd.R_elder' (pr_ HO_265000) (Kd.R_base ho0) hb)
        have n2_ := A_ (Kd.R_lower (Kd.R_new' ho0 (Kd.R_lt (pr_ HO_265000))) (below_size (bl_ HB)))
        have n3_ := A_ (blk_below (pl_ BK231) hb)
        have n4_ := A_ (blk_below (pl_ BK232) hb)
        have n5_ := A_ (blk_below (pl_ BK255) hb)
        have n6_ := A_ (blk_below (pl_ BK264) hb)
        have n7_ := A_ (blk_below (pl_ BK277) hb)
        have n8_ := A_ (below_step (bl_ HB) hb)
        clear HO_11
        clear HO_265000
        clear BK231
        clear BK232
        clear BK255
        clear BK264
        clear BK277
        clear HB
        have HO_11 := n0_
        have HO_265000 := n1_
        have HO281 := n2_
        have BK231 := n3_
        have BK232 := n4_
        have BK255 := n5_
        have BK264 := n6_
        have BK277 := n7_
        have HB := n8_
        clear n0_ n1_ n2_ n3_ n4_ n5_ n6_ n7_ n8_
        (try clear hb)
        (try clear hb2)
        (try clear hk)
        (try clear hi)
        (try clear ho0)
        obtain ⟨Ao96, co96, eo96⟩ := Kd.R_slice HO281.out
        (first | subst eo96 | (injection eo96 with f1_ f2_ f3_; have f4_ := f1_.symm; have f5_ := f3_.symm; clear f1_ f2_ f3_; subst f4_; subst f5_))
        refine hK.out _ _ ⟨(blk_cell BK264.out 0).trans rfl, (blk_cell BK264.out 1).trans rfl, (blk_cell BK264.out 2).trans rfl, (blk_cell BK264.out 3).trans rfl, (blk_cell BK264.out 4).trans rfl, (blk_cell BK264.out 5).trans rfl, (blk_cell BK231.out 0).trans rfl, (blk_cell BK231.out 1).trans rfl, (blk_cell BK231.out 2).trans rfl, (blk_cell BK231.out 3).trans rfl, (blk_cell BK231.out 4).trans rfl, (blk_cell BK231.out 5).trans rfl⟩ (fun hHeld => ?_)
        clear hK K
        refine norm_ (a' := ?_) ?_ ?_
        rotate_left
        ·show Act.put _ (some 57) _ = _
         simp only [Act.put, List.setIfInBounds_toArray, List.set_cons_zero, List.set_cons_succ, i64_w, i32_w]
         rfl
        refine one_ (i := 3) (N := some 58) #[true, true, true, true, false] rfl rfl (by kernel_rfl) (by decide) (fun K hK => ?_)
        refine goes_ Try.func21 (by kernel_rfl) rfl #[.agg #[.slice Ao49 t256.length co49, .int .i16 t259, .int .i16 t260, .int .i16 t261, .int .i16 t262, .bool t263], .agg #[.slice Ao96 t279.length co96, .int .i16 t282, .int .i16 t283, .int .i16 t284, .int .i16 t285, .bool t286]] (by rfl) rfl rfl arg_ ?_
        with_reducible refine (laws_eqPuzzle.calls kj25 _ _ t256 t259 t260 t261 t262 t263 _ _ t279 t282 t283 t284 t285 t286 true _ ?side1 ?side2 ?side3 ?side4 A89.out).mono ?_
        (case side1 => repeat (first | exact (Kd.R_reads' HO_265000.out).2.2 | (with_reducible refine Kd.C_alloc ?_ _) | (with_reducible refine Kd.C_drewN ?_ _) | (with_reducible refine Kd.C_drew ?_)))
        (case side2 => exact (Kd.R_reads' HO_265000.out).2.1)
        (case side3 => repeat (first | exact (Kd.R_reads' HO281.out).2.2 | (with_reducible refine Kd.C_alloc ?_ _) | (with_reducible refine Kd.C_drewN ?_ _) | (with_reducible refine Kd.C_drew ?_)))
        (case side4 => exact (Kd.R_reads' HO281.out).2.1)
        rintro e w97 ⟨rfl, hb⟩
        refine ⟨_, rfl, ?_⟩
        have n0_ := A_ (Kd.R_below (pr_ HO_11) hb)
        have n1_ := A_ (Kd.R_below (pr_ HO_265000) hb)
        have n2_ := A_ (Kd.R_below (pr_ HO281) hb)
        have n3_ := A_ (blk_below (pl_ BK231) hb)
        have n4_ := A_ (blk_below (pl_ BK232) hb)
        have n5_ := A_ (blk_below (pl_ BK255) hb)
        have n6_ := A_ (blk_below (pl_ BK264) hb)
        have n7_ := A_ (blk_below (pl_ BK277) hb)
        have n8_ := A_ (below_step (bl_ HB) hb)
        clear HO_11
        clear HO_265000
        clear HO281
        clear BK231
        clear BK232
        clear BK255
        clear BK264
        clear BK277
        clear HB
        have HO_11 := n0_
        have HO_265000 := n1_
        have HO281 := n2_
        have BK231 := n3_
        have BK232 := n4_
        have BK255 := n5_
        have BK264 := n6_
        have BK277 := n7_
        have HB := n8_
        clear n0_ n1_ n2_ n3_ n4_ n5_ n6_ n7_ n8_
        (try clear hb)
        (try clear hb2)
        (try clear hk)
        (try clear hi)
        refine hK.out _ _ ⟨(blk_cell BK264.out 0).trans rfl, (blk_cell BK264.out 1).trans rfl, (blk_cell BK264.out 2).trans rfl, (blk_cell BK264.out 3).trans rfl, (blk_cell BK264.out 4).trans rfl, (blk_cell BK264.out 5).trans rfl, (blk_cell BK231.out 0).trans rfl, (blk_cell BK231.out 1).trans rfl, (blk_cell BK231.out 2).trans rfl, (blk_cell BK231.out 3).trans rfl, (blk_cell BK231.out 4).trans rfl, (blk_cell BK231.out 5).trans rfl⟩ (fun hHeld => ?_)
        clear hK K
        refine norm_ (a' := ?_) ?_ ?_
        rotate_left
        ·show Act.put _ (some 58) _ = _
         simp only [Act.put, List.setIfInBounds_toArray, List.set_cons_zero, List.set_cons_succ, i64_w, i32_w]
         rfl
        refine pure_ (i := 4) (N := some 59) (v := ?_) (a' := ?_) #[true, true, true, true, true] rfl rfl (by kernel_rfl) (fun _ _ _ h => h) (Or.inl ⟨by rfl, ?_⟩) ?_ ?_
        rotate_left
        ·intro w'
         go_simp
         with_reducible rfl
        rotate_left
        ·simp only [Act.put, List.setIfInBounds_toArray, List.set_cons_zero, List.set_cons_succ, i64_w, i32_w]
         rfl
        refine done_ (by kernel_rfl) ?_
        try go_wp2_with (first | ((with_reducible refine gate_callee (f := 39) rfl ?_); refine goesL_ (some 62) rfl rfl Try.func39 (by kernel_rfl) rfl #[.slice A2 l2.length c2] rfl arg_ ?_; (with_reducible refine (laws_toMoveS.calls kj25 _ _ l2 t288 _ ?side1 ?side2 A91.out).mono ?_); (case side1 => repeat (first | exact (Kd.C_below HR2.out HB.out) | (with_reducible refine Kd.C_alloc ?_ _) | (with_reducible refine Kd.C_drewN ?_ _) | (with_reducible refine Kd.C_drew ?_))); (case side2 => exact HC2.out); rintro e w98 ⟨v289, rfl, ho0, hb⟩; refine ⟨_, rfl, ?_⟩; have n0_ := A_ (Kd.R_elder' (pr_ HO_11) (Kd.R_base ho0) hb); have n1_ := A_ (Kd.R_below (pr_ HO_265000) hb); have n2_ := A_ (Kd.R_below (pr_ HO281) hb); have n3_ := A_ (Kd.R_lower (Kd.R_new' ho0 (Kd.R_lt (pr_ HO_11))) (below_size (bl_ HB))); have n4_ := A_ (blk_below (pl_ BK231) hb); have n5_ := A_ (blk_below (pl_ BK232) hb); have n6_ := A_ (blk_below (pl_ BK255) hb); have n7_ := A_ (blk_below (pl_ BK264) hb); have n8_ := A_ (blk_below (pl_ BK277) hb); have n9_ := A_ (below_step (bl_ HB) hb); clear HO_11; clear HO_265000; clear HO281; clear BK231; clear BK232; clear BK255; clear BK264; clear BK277; clear HB; have HO_11 := n0_; have HO_265000 := n1_; have HO281 := n2_; have HO290 := n3_; have BK231 := n4_; have BK232 := n5_; have BK255 := n6_; have BK264 := n7_; have BK277 := n8_; have HB := n9_; clear n0_ n1_ n2_ n3_ n4_ n5_ n6_ n7_ n8_ n9_; (try clear hb); (try clear hb2); (try clear hk); (try clear hi); (try clear ho0); obtain ⟨Ao99, co99, eo99⟩ := Kd.R_slice HO290.out; subst eo99) | ((with_reducible refine gate_callee (f := 41) rfl ?_); refine goesL_ (some 63) rfl rfl Try.func41 (by kernel_rfl) rfl #[.slice Ao55 t265.length co55, .slice Ao99 t288.length co99] rfl arg_ ?_; (with_reducible refine (laws_eqMoveS.calls kj25 _ _ t265 _ _ t288 true _ ?side1 ?side2 ?side3 ?side4 A92.out).mono ?_); (case side1 => repeat (first | exact (Kd.R_reads' HO_11.out).2.2 | (with_reducible refine Kd.C_alloc ?_ _) | (with_reducible refine Kd.C_drewN ?_ _) | (with_reducible refine Kd.C_drew ?_))); (case side2 => exact (Kd.R_reads' HO_11.out).2.1); (case side3 => repeat (first | exact (Kd.R_reads' HO290.out).2.2 | (with_reducible refine Kd.C_alloc ?_ _) | (with_reducible refine Kd.C_drewN ?_ _) | (with_reducible refine Kd.C_drew ?_))); (case side4 => exact (Kd.R_reads' HO290.out).2.1); rintro e w100 ⟨rfl, hb⟩; refine ⟨_, rfl, ?_⟩; have n0_ := A_ (Kd.R_below (pr_ HO_11) hb); have n1_ := A_ (Kd.R_below (pr_ HO_265000) hb); have n2_ := A_ (Kd.R_below (pr_ HO281) hb); have n3_ := A_ (Kd.R_below (pr_ HO290) hb); have n4_ := A_ (blk_below (pl_ BK231) hb); have n5_ := A_ (blk_below (pl_ BK232) hb); have n6_ := A_ (blk_below (pl_ BK255) hb); have n7_ := A_ (blk_below (pl_ BK264) hb); have n8_ := A_ (blk_below (pl_ BK277) hb); have n9_ := A_ (below_step (bl_ HB) hb); clear HO_11; clear HO_265000; clear HO281; clear HO290; clear BK231; clear BK232; clear BK255; clear BK264; clear BK277; clear HB; have HO_11 := n0_; have HO_265000 := n1_; have HO281 := n2_; have HO290 := n3_; have BK231 := n4_; have BK232 := n5_; have BK255 := n6_; have BK264 := n7_; have BK277 := n8_; have HB := n9_; clear n0_ n1_ n2_ n3_ n4_ n5_ n6_ n7_ n8_ n9_; (try clear hb); (try clear hb2); (try clear hk); (try clear hi)))
        go_ret
        exact ⟨by first | rfl | (simp [errW_none, errW_some] <;> rfl) | (simp [*, errW_none, errW_some] <;> rfl), bl_ HB⟩
       ·replace c93 := Bool.eq_false_iff.mpr c93
        subst c93
        have H1 : (some false) = some r := by rw [if_neg (show ¬ (false = true) by decide)] at H; exact H
        clear H
        have H := H1
        clear H1
        obtain rfl := Option.some.inj H
        try go_wp2
        have n0_ := A_ (Kd.R_drew HO_11.out)
        have n1_ := A_ (Kd.R_drew HO_265000.out)
        have n2_ := A_ (blk_drew BK231.out)
        have n3_ := A_ (blk_drew BK232.out)
        have n4_ := A_ (blk_drew BK255.out)
        have n5_ := A_ (blk_drew BK264.out)
        have n6_ := A_ (blk_drew BK277.out)
        have n7_ := A_ (below_drew1 HB.out)
        clear HO_11
        clear HO_265000
        clear BK231
        clear BK232
        clear BK255
        clear BK264
        clear BK277
        clear HB
        have HO_11 := n0_
        have HO_265000 := n1_
        have BK231 := n2_
        have BK232 := n3_
        have BK255 := n4_
        have BK264 := n5_
        have BK277 := n6_
        have HB := n7_
        clear n0_ n1_ n2_ n3_ n4_ n5_ n6_ n7_
        refine start_ (n := 5) (S := fun w' => w'.cell? ⟨gb264, 0, none⟩ = some (.slice Ao49 t256.length co49) ∧ w'.cell? ⟨gb264, 1, none⟩ = some (.int .i16 t259) ∧ w'.cell? ⟨gb264, 2, none⟩ = some (.int .i16 t260) ∧ w'.cell? ⟨gb264, 3, none⟩ = some (.int .i16 t261) ∧ w'.cell? ⟨gb264, 4, none⟩ = some (.int .i16 t262) ∧ w'.cell? ⟨gb264, 5, none⟩ = some (.bool t263) ∧ w'.cell? ⟨gb231, 0, none⟩ = some (.slice A0_0 l0_0.length c0_0) ∧ w'.cell? ⟨gb231, 1, none⟩ = some (.int .i16 a0_1) ∧ w'.cell? ⟨gb231, 2, none⟩ = some (.int .i16 a0_2) ∧ w'.cell? ⟨gb231, 3, none⟩ = some (.int .i16 a0_3) ∧ w'.cell? ⟨gb231, 4, none⟩ = some (.int .i16 a0_4) ∧ w'.cell? ⟨gb231, 5, none⟩ = some (.bool a0_5)) (ds := []) #[false, false, false, false, false] (by kernel_rfl) rfl rfl ⟨(blk_cell BK264.out 0).trans rfl, (blk_cell BK264.out 1).trans rfl, (blk_cell BK264.out 2).trans rfl, (blk_cell BK264.out 3).trans rfl, (blk_cell BK264.out 4).trans rfl, (blk_cell BK264.out 5).trans rfl, (blk_cell BK231.out 0).trans rfl, (blk_cell BK231.out 1).trans rfl, (blk_cell BK231.out 2).trans rfl, (blk_cell BK231.out 3).trans rfl, (blk_cell BK231.out 4).trans rfl, (blk_cell BK231.out 5).trans rfl⟩ (fun hHeld => ?_)
        generalize wc.drew = w101 at HO_11 HO_265000 BK231 BK232 BK255 BK264 BK277 HB hHeld ⊢
        refine take_ (i := 0) (N := some 55) (v := ?_) (a' := ?_) #[true, false, false, false, false] rfl rfl (by kernel_rfl) (fun _ _ _ h => h) (Or.inl ⟨by rfl, ?_⟩) hHeld ?_ ?_
        rotate_left
        ·rintro w' ⟨s0, s1, s2, s3, s4, s5, s6, s7, s8, s9, s10, s11⟩
         go_simp
         with_reducible rfl
        rotate_left
        ·simp only [Act.put, List.setIfInBounds_toArray, List.set_cons_zero, List.set_cons_succ, i64_w, i32_w]
         rfl
        refine take_ (i := 1) (N := some 56) (v := ?_) (a' := ?_) #[true, true, false, false, false] rfl rfl (by kernel_rfl) (fun _ _ _ h => h) (Or.inl ⟨by rfl, ?_⟩) hHeld ?_ ?_
        rotate_left
        ·rintro w' ⟨s0, s1, s2, s3, s4, s5, s6, s7, s8, s9, s10, s11⟩
         go_simp
         with_reducible rfl
        rotate_left
        ·simp only [Act.put, List.setIfInBounds_toArray, List.set_cons_zero, List.set_cons_succ, i64_w, i32_w]
         rfl
        refine one_ (i := 2) (N := some 57) #[true, true, true, false, false] rfl rfl (by kernel_rfl) (by decide) (fun K hK => ?_)
        refine goes_ Try.func18 (by kernel_rfl) rfl #[.agg #[.slice A0_0 l0_0.length c0_0, .int .i16 a0_1, .int .i16 a0_2, .int .i16 a0_3, .int .i16 a0_4, .bool a0_5]] (by rfl) rfl rfl arg_ ?_
        with_reducible refine (laws_toPuzzle.calls kj25 _ _ l0_0 a0_1 a0_2 a0_3 a0_4 a0_5 t279 t282 t283 t284 t285 t286 _ ?side1 ?side2 A88.out).mono ?_
        (case side1 => repeat (first | exact (Kd.C_below HR0_0.out HB.out) | (with_reducible refine Kd.C_alloc ?_ _) | (with_reducible refine Kd.C_drewN ?_ _) | (with_reducible refine Kd.C_drew ?_)))
        (case side2 => exact HC0_0.out)
        rintro e w102 ⟨v280, rfl, ho0, hb⟩
        refine ⟨_, rfl, ?_⟩
        have n0_ := A_ (Kd.R_below (pr_ HO_11) hb)
        have n1_ := A_ (Kd.R_elder' (pr_ HO_265000) (Kd.R_base ho0) hb)
        have n2_ := A_ (Kd.R_lower (Kd.R_new' ho0 (Kd.R_lt (pr_ HO_265000))) (below_size (bl_ HB)))
        have n3_ := A_ (blk_below (pl_ BK231) hb)
        have n4_ := A_ (blk_below (pl_ BK232) hb)
        have n5_ := A_ (blk_below (pl_ BK255) hb)
        have n6_ := A_ (blk_below (pl_ BK264) hb)
        have n7_ := A_ (blk_below (pl_ BK277) hb)
        have n8_ := A_ (below_step (bl_ HB) hb)
        clear HO_11
        clear HO_265000
        clear BK231
        clear BK232
        clear BK255
        clear BK264
        clear BK277
        clear HB
        have HO_11 := n0_
        have HO_265000 := n1_
        have HO281 := n2_
        have BK231 := n3_
        have BK232 := n4_
        have BK255 := n5_
        have BK264 := n6_
        have BK277 := n7_
        have HB := n8_
        clear n0_ n1_ n2_ n3_ n4_ n5_ n6_ n7_ n8_
        (try clear hb)
        (try clear hb2)
        (try clear hk)
        (try clear hi)
        (try clear ho0)
        obtain ⟨Ao103, co103, eo103⟩ := Kd.R_slice HO281.out
        (first | subst eo103 | (injection eo103 with f1_ f2_ f3_; have f4_ := f1_.symm; have f5_ := f3_.symm; clear f1_ f2_ f3_; subst f4_; subst f5_))
        refine hK.out _ _ ⟨(blk_cell BK264.out 0).trans rfl, (blk_cell BK264.out 1).trans rfl, (blk_cell BK264.out 2).trans rfl, (blk_cell BK264.out 3).trans rfl, (blk_cell BK264.out 4).trans rfl, (blk_cell BK264.out 5).trans rfl, (blk_cell BK231.out 0).trans rfl, (blk_cell BK231.out 1).trans rfl, (blk_cell BK231.out 2).trans rfl, (blk_cell BK231.out 3).trans rfl, (blk_cell BK231.out 4).trans rfl, (blk_cell BK231.out 5).trans rfl⟩ (fun hHeld => ?_)
        clear hK K
        refine norm_ (a' := ?_) ?_ ?_
        rotate_left
        ·show Act.put _ (some 57) _ = _
         simp only [Act.put, List.setIfInBounds_toArray, List.set_cons_zero, List.set_cons_succ, i64_w, i32_w]
         rfl
        refine one_ (i := 3) (N := some 58) #[true, true, true, true, false] rfl rfl (by kernel_rfl) (by decide) (fun K hK => ?_)
        refine goes_ Try.func21 (by kernel_rfl) rfl #[.agg #[.slice Ao49 t256.length co49, .int .i16 t259, .int .i16 t260, .int .i16 t261, .int .i16 t262, .bool t263], .agg #[.slice Ao103 t279.length co103, .int .i16 t282, .int .i16 t283, .int .i16 t284, .int .i16 t285, .bool t286]] (by rfl) rfl rfl arg_ ?_
        with_reducible refine (laws_eqPuzzle.calls kj25 _ _ t256 t259 t260 t261 t262 t263 _ _ t279 t282 t283 t284 t285 t286 true _ ?side1 ?side2 ?side3 ?side4 A89.out).mono ?_
        (case side1 => repeat (first | exact (Kd.R_reads' HO_265000.out).2.2 | (with_reducible refine Kd.C_alloc ?_ _) | (with_reducible refine Kd.C_drewN ?_ _) | (with_reducible refine Kd.C_drew ?_)))
        (case side2 => exact (Kd.R_reads' HO_265000.out).2.1)
        (case side3 => repeat (first | exact (Kd.R_reads' HO281.out).2.2 | (with_reducible refine Kd.C_alloc ?_ _) | (with_reducible refine Kd.C_drewN ?_ _) | (with_reducible refine Kd.C_drew ?_)))
        (case side4 => exact (Kd.R_reads' HO281.out).2.1)
        rintro e w104 ⟨rfl, hb⟩
        refine ⟨_, rfl, ?_⟩
        have n0_ := A_ (Kd.R_below (pr_ HO_11) hb)
        have n1_ := A_ (Kd.R_below (pr_ HO_265000) hb)
        have n2_ := A_ (Kd.R_below (pr_ HO281) hb)
        have n3_ := A_ (blk_below (pl_ BK231) hb)
        have n4_ := A_ (blk_below (pl_ BK232) hb)
        have n5_ := A_ (blk_below (pl_ BK255) hb)
        have n6_ := A_ (blk_below (pl_ BK264) hb)
        have n7_ := A_ (blk_below (pl_ BK277) hb)
        have n8_ := A_ (below_step (bl_ HB) hb)
        clear HO_11
        clear HO_265000
        clear HO281
        clear BK231
        clear BK232
        clear BK255
        clear BK264
        clear BK277
        clear HB
        have HO_11 := n0_
        have HO_265000 := n1_
        have HO281 := n2_
        have BK231 := n3_
        have BK232 := n4_
        have BK255 := n5_
        have BK264 := n6_
        have BK277 := n7_
        have HB := n8_
        clear n0_ n1_ n2_ n3_ n4_ n5_ n6_ n7_ n8_
        (try clear hb)
        (try clear hb2)
        (try clear hk)
        (try clear hi)
        refine hK.out _ _ ⟨(blk_cell BK264.out 0).trans rfl, (blk_cell BK264.out 1).trans rfl, (blk_cell BK264.out 2).trans rfl, (blk_cell BK264.out 3).trans rfl, (blk_cell BK264.out 4).trans rfl, (blk_cell BK264.out 5).trans rfl, (blk_cell BK231.out 0).trans rfl, (blk_cell BK231.out 1).trans rfl, (blk_cell BK231.out 2).trans rfl, (blk_cell BK231.out 3).trans rfl, (blk_cell BK231.out 4).trans rfl, (blk_cell BK231.out 5).trans rfl⟩ (fun hHeld => ?_)
        clear hK K
        refine norm_ (a' := ?_) ?_ ?_
        rotate_left
        ·show Act.put _ (some 58) _ = _
         simp only [Act.put, List.setIfInBounds_toArray, List.set_cons_zero, List.set_cons_succ, i64_w, i32_w]
         rfl
        refine pure_ (i := 4) (N := some 59) (v := ?_) (a' := ?_) #[true, true, true, true, true] rfl rfl (by kernel_rfl) (fun _ _ _ h => h) (Or.inl ⟨by rfl, ?_⟩) ?_ ?_
        rotate_left
        ·intro w'
         go_simp
         with_reducible rfl
        rotate_left
        ·simp only [Act.put, List.setIfInBounds_toArray, List.set_cons_zero, List.set_cons_succ, i64_w, i32_w]
         rfl
        refine done_ (by kernel_rfl) ?_
        try go_wp2_with (first | ((with_reducible refine gate_callee (f := 39) rfl ?_); refine goesL_ (some 62) rfl rfl Try.func39 (by kernel_rfl) rfl #[.slice A2 l2.length c2] rfl arg_ ?_; (with_reducible refine (laws_toMoveS.calls kj25 _ _ l2 t288 _ ?side1 ?side2 A91.out).mono ?_); (case side1 => repeat (first | exact (Kd.C_below HR2.out HB.out) | (with_reducible refine Kd.C_alloc ?_ _) | (with_reducible refine Kd.C_drewN ?_ _) | (with_reducible refine Kd.C_drew ?_))); (case side2 => exact HC2.out); rintro e w105 ⟨v289, rfl, ho0, hb⟩; refine ⟨_, rfl, ?_⟩; have n0_ := A_ (Kd.R_elder' (pr_ HO_11) (Kd.R_base ho0) hb); have n1_ := A_ (Kd.R_below (pr_ HO_265000) hb); have n2_ := A_ (Kd.R_below (pr_ HO281) hb); have n3_ := A_ (Kd.R_lower (Kd.R_new' ho0 (Kd.R_lt (pr_ HO_11))) (below_size (bl_ HB))); have n4_ := A_ (blk_below (pl_ BK231) hb); have n5_ := A_ (blk_below (pl_ BK232) hb); have n6_ := A_ (blk_below (pl_ BK255) hb); have n7_ := A_ (blk_below (pl_ BK264) hb); have n8_ := A_ (blk_below (pl_ BK277) hb); have n9_ := A_ (below_step (bl_ HB) hb); clear HO_11; clear HO_265000; clear HO281; clear BK231; clear BK232; clear BK255; clear BK264; clear BK277; clear HB; have HO_11 := n0_; have HO_265000 := n1_; have HO281 := n2_; have HO290 := n3_; have BK231 := n4_; have BK232 := n5_; have BK255 := n6_; have BK264 := n7_; have BK277 := n8_; have HB := n9_; clear n0_ n1_ n2_ n3_ n4_ n5_ n6_ n7_ n8_ n9_; (try clear hb); (try clear hb2); (try clear hk); (try clear hi); (try clear ho0); obtain ⟨Ao106, co106, eo106⟩ := Kd.R_slice HO290.out; subst eo106) | ((with_reducible refine gate_callee (f := 41) rfl ?_); refine goesL_ (some 63) rfl rfl Try.func41 (by kernel_rfl) rfl #[.slice Ao55 t265.length co55, .slice Ao106 t288.length co106] rfl arg_ ?_; (with_reducible refine (laws_eqMoveS.calls kj25 _ _ t265 _ _ t288 false _ ?side1 ?side2 ?side3 ?side4 A92.out).mono ?_); (case side1 => repeat (first | exact (Kd.R_reads' HO_11.out).2.2 | (with_reducible refine Kd.C_alloc ?_ _) | (with_reducible refine Kd.C_drewN ?_ _) | (with_reducible refine Kd.C_drew ?_))); (case side2 => exact (Kd.R_reads' HO_11.out).2.1); (case side3 => repeat (first | exact (Kd.R_reads' HO290.out).2.2 | (with_reducible refine Kd.C_alloc ?_ _) | (with_reducible refine Kd.C_drewN ?_ _) | (with_reducible refine Kd.C_drew ?_))); (case side4 => exact (Kd.R_reads' HO290.out).2.1); rintro e w107 ⟨rfl, hb⟩; refine ⟨_, rfl, ?_⟩; have n0_ := A_ (Kd.R_below (pr_ HO_11) hb); have n1_ := A_ (Kd.R_below (pr_ HO_265000) hb); have n2_ := A_ (Kd.R_below (pr_ HO281) hb); have n3_ := A_ (Kd.R_below (pr_ HO290) hb); have n4_ := A_ (blk_below (pl_ BK231) hb); have n5_ := A_ (blk_below (pl_ BK232) hb); have n6_ := A_ (blk_below (pl_ BK255) hb); have n7_ := A_ (blk_below (pl_ BK264) hb); have n8_ := A_ (blk_below (pl_ BK277) hb); have n9_ := A_ (below_step (bl_ HB) hb); clear HO_11; clear HO_265000; clear HO281; clear HO290; clear BK231; clear BK232; clear BK255; clear BK264; clear BK277; clear HB; have HO_11 := n0_; have HO_265000 := n1_; have HO281 := n2_; have HO290 := n3_; have BK231 := n4_; have BK232 := n5_; have BK255 := n6_; have BK264 := n7_; have BK277 := n8_; have HB := n9_; clear n0_ n1_ n2_ n3_ n4_ n5_ n6_ n7_ n8_ n9_; (try clear hb); (try clear hb2); (try clear hk); (try clear hi)))
        go_ret
        exact ⟨by first | rfl | (simp [errW_none, errW_some] <;> rfl) | (simp [*, errW_none, errW_some] <;> rfl), bl_ HB⟩
      ·replace c90 := Bool.eq_false_iff.mpr c90
       subst c90
       have H1 : (some false) = some r := by rw [if_neg (show ¬ (false = true) by decide)] at H; exact H
       clear H
       have H := H1
       clear H1
       obtain rfl := Option.some.inj H
       try go_wp2
       have n0_ := A_ (Kd.R_drew HO_11.out)
       have n1_ := A_ (Kd.R_drew HO_265000.out)
       have n2_ := A_ (blk_drew BK231.out)
       have n3_ := A_ (blk_drew BK232.out)
       have n4_ := A_ (blk_drew BK255.out)
       have n5_ := A_ (blk_drew BK264.out)
       have n6_ := A_ (blk_drew BK277.out)
       have n7_ := A_ (below_drew1 HB.out)
       clear HO_11
       clear HO_265000
       clear BK231
       clear BK232
       clear BK255
       clear BK264
       clear BK277
       clear HB
       have HO_11 := n0_
       have HO_265000 := n1_
       have BK231 := n2_
       have BK232 := n3_
       have BK255 := n4_
       have BK264 := n5_
       have BK277 := n6_
       have HB := n7_
       clear n0_ n1_ n2_ n3_ n4_ n5_ n6_ n7_
       refine start_ (n := 5) (S := fun w' => w'.cell? ⟨gb264, 0, none⟩ = some (.slice Ao49 t256.length co49) ∧ w'.cell? ⟨gb264, 1, none⟩ = some (.int .i16 t259) ∧ w'.cell? ⟨gb264, 2, none⟩ = some (.int .i16 t260) ∧ w'.cell? ⟨gb264, 3, none⟩ = some (.int .i16 t261) ∧ w'.cell? ⟨gb264, 4, none⟩ = some (.int .i16 t262) ∧ w'.cell? ⟨gb264, 5, none⟩ = some (.bool t263) ∧ w'.cell? ⟨gb231, 0, none⟩ = some (.slice A0_0 l0_0.length c0_0) ∧ w'.cell? ⟨gb231, 1, none⟩ = some (.int .i16 a0_1) ∧ w'.cell? ⟨gb231, 2, none⟩ = some (.int .i16 a0_2) ∧ w'.cell? ⟨gb231, 3, none⟩ = some (.int .i16 a0_3) ∧ w'.cell? ⟨gb231, 4, none⟩ = some (.int .i16 a0_4) ∧ w'.cell? ⟨gb231, 5, none⟩ = some (.bool a0_5)) (ds := []) #[false, false, false, false, false] (by kernel_rfl) rfl rfl ⟨(blk_cell BK264.out 0).trans rfl, (blk_cell BK264.out 1).trans rfl, (blk_cell BK264.out 2).trans rfl, (blk_cell BK264.out 3).trans rfl, (blk_cell BK264.out 4).trans rfl, (blk_cell BK264.out 5).trans rfl, (blk_cell BK231.out 0).trans rfl, (blk_cell BK231.out 1).trans rfl, (blk_cell BK231.out 2).trans rfl, (blk_cell BK231.out 3).trans rfl, (blk_cell BK231.out 4).trans rfl, (blk_cell BK231.out 5).trans rfl⟩ (fun hHeld => ?_)
       generalize wc.drew = w108 at HO_11 HO_265000 BK231 BK232 BK255 BK264 BK277 HB hHeld ⊢
       refine take_ (i := 0) (N := some 55) (v := ?_) (a' := ?_) #[true, false, false, false, false] rfl rfl (by kernel_rfl) (fun _ _ _ h => h) (Or.inl ⟨by rfl, ?_⟩) hHeld ?_ ?_
       rotate_left
       ·rintro w' ⟨s0, s1, s2, s3, s4, s5, s6, s7, s8, s9, s10, s11⟩
        go_simp
        with_reducible rfl
       rotate_left
       ·simp only [Act.put, List.setIfInBounds_toArray, List.set_cons_zero, List.set_cons_succ, i64_w, i32_w]
        rfl
       refine take_ (i := 1) (N := some 56) (v := ?_) (a' := ?_) #[true, true, false, false, false] rfl rfl (by kernel_rfl) (fun _ _ _ h => h) (Or.inl ⟨by rfl, ?_⟩) hHeld ?_ ?_
       rotate_left
       ·rintro w' ⟨s0, s1, s2, s3, s4, s5, s6, s7, s8, s9, s10, s11⟩
        go_simp
        with_reducible rfl
       rotate_left
       ·simp only [Act.put, List.setIfInBounds_toArray, List.set_cons_zero, List.set_cons_succ, i64_w, i32_w]
        rfl
       refine one_ (i := 2) (N := some 57) #[true, true, true, false, false] rfl rfl (by kernel_rfl) (by decide) (fun K hK => ?_)
       refine goes_ Try.func18 (by kernel_rfl) rfl #[.agg #[.slice A0_0 l0_0.length c0_0, .int .i16 a0_1, .int .i16 a0_2, .int .i16 a0_3, .int .i16 a0_4, .bool a0_5]] (by rfl) rfl rfl arg_ ?_
       with_reducible refine (laws_toPuzzle.calls kj25 _ _ l0_0 a0_1 a0_2 a0_3 a0_4 a0_5 t279 t282 t283 t284 t285 t286 _ ?side1 ?side2 A88.out).mono ?_
       (case side1 => repeat (first | exact (Kd.C_below HR0_0.out HB.out) | (with_reducible refine Kd.C_alloc ?_ _) | (with_reducible refine Kd.C_drewN ?_ _) | (with_reducible refine Kd.C_drew ?_)))
       (case side2 => exact HC0_0.out)
       rintro e w109 ⟨v280, rfl, ho0, hb⟩
       refine ⟨_, rfl, ?_⟩
       have n0_ := A_ (Kd.R_below (pr_ HO_11) hb)
       have n1_ := A_ (Kd.R_elder' (pr_ HO_265000) (Kd.R_base ho0) hb)
       have n2_ := A_ (Kd.R_lower (Kd.R_new' ho0 (Kd.R_lt (pr_ HO_265000))) (below_size (bl_ HB)))
       have n3_ := A_ (blk_below (pl_ BK231) hb)
       have n4_ := A_ (blk_below (pl_ BK232) hb)
       have n5_ := A_ (blk_below (pl_ BK255) hb)
       have n6_ := A_ (blk_below (pl_ BK264) hb)
       have n7_ := A_ (blk_below (pl_ BK277) hb)
       have n8_ := A_ (below_step (bl_ HB) hb)
       clear HO_11
       clear HO_265000
       clear BK231
       clear BK232
       clear BK255
       clear BK264
       clear BK277
       clear HB
       have HO_11 := n0_
       have HO_265000 := n1_
       have HO281 := n2_
       have BK231 := n3_
       have BK232 := n4_
       have BK255 := n5_
       have BK264 := n6_
       have BK277 := n7_
       have HB := n8_
       clear n0_ n1_ n2_ n3_ n4_ n5_ n6_ n7_ n8_
       (try clear hb)
       (try clear hb2)
       (try clear hk)
       (try clear hi)
       (try clear ho0)
       obtain ⟨Ao110, co110, eo110⟩ := Kd.R_slice HO281.out
       (first | subst eo110 | (injection eo110 with f1_ f2_ f3_; have f4_ := f1_.symm; have f5_ := f3_.symm; clear f1_ f2_ f3_; subst f4_; subst f5_))
       refine hK.out _ _ ⟨(blk_cell BK264.out 0).trans rfl, (blk_cell BK264.out 1).trans rfl, (blk_cell BK264.out 2).trans rfl, (blk_cell BK264.out 3).trans rfl, (blk_cell BK264.out 4).trans rfl, (blk_cell BK264.out 5).trans rfl, (blk_cell BK231.out 0).trans rfl, (blk_cell BK231.out 1).trans rfl, (blk_cell BK231.out 2).trans rfl, (blk_cell BK231.out 3).trans rfl, (blk_cell BK231.out 4).trans rfl, (blk_cell BK231.out 5).trans rfl⟩ (fun hHeld => ?_)
       clear hK K
       refine norm_ (a' := ?_) ?_ ?_
       rotate_left
       ·show Act.put _ (some 57) _ = _
        simp only [Act.put, List.setIfInBounds_toArray, List.set_cons_zero, List.set_cons_succ, i64_w, i32_w]
        rfl
       refine one_ (i := 3) (N := some 58) #[true, true, true, true, false] rfl rfl (by kernel_rfl) (by decide) (fun K hK => ?_)
       refine goes_ Try.func21 (by kernel_rfl) rfl #[.agg #[.slice Ao49 t256.length co49, .int .i16 t259, .int .i16 t260, .int .i16 t261, .int .i16 t262, .bool t263], .agg #[.slice Ao110 t279.length co110, .int .i16 t282, .int .i16 t283, .int .i16 t284, .int .i16 t285, .bool t286]] (by rfl) rfl rfl arg_ ?_
       with_reducible refine (laws_eqPuzzle.calls kj25 _ _ t256 t259 t260 t261 t262 t263 _ _ t279 t282 t283 t284 t285 t286 false _ ?side1 ?side2 ?side3 ?side4 A89.out).mono ?_
       (case side1 => repeat (first | exact (Kd.R_reads' HO_265000.out).2.2 | (with_reducible refine Kd.C_alloc ?_ _) | (with_reducible refine Kd.C_drewN ?_ _) | (with_reducible refine Kd.C_drew ?_)))
       (case side2 => exact (Kd.R_reads' HO_265000.out).2.1)
       (case side3 => repeat (first | exact (Kd.R_reads' HO281.out).2.2 | (with_reducible refine Kd.C_alloc ?_ _) | (with_reducible refine Kd.C_drewN ?_ _) | (with_reducible refine Kd.C_drew ?_)))
       (case side4 => exact (Kd.R_reads' HO281.out).2.1)
       rintro e w111 ⟨rfl, hb⟩
       refine ⟨_, rfl, ?_⟩
       have n0_ := A_ (Kd.R_below (pr_ HO_11) hb)
       have n1_ := A_ (Kd.R_below (pr_ HO_265000) hb)
       have n2_ := A_ (Kd.R_below (pr_ HO281) hb)
       have n3_ := A_ (blk_below (pl_ BK231) hb)
       have n4_ := A_ (blk_below (pl_ BK232) hb)
       have n5_ := A_ (blk_below (pl_ BK255) hb)
       have n6_ := A_ (blk_below (pl_ BK264) hb)
       have n7_ := A_ (blk_below (pl_ BK277) hb)
       have n8_ := A_ (below_step (bl_ HB) hb)
       clear HO_11
       clear HO_265000
       clear HO281
       clear BK231
       clear BK232
       clear BK255
       clear BK264
       clear BK277
       clear HB
       have HO_11 := n0_
       have HO_265000 := n1_
       have HO281 := n2_
       have BK231 := n3_
       have BK232 := n4_
       have BK255 := n5_
       have BK264 := n6_
       have BK277 := n7_
       have HB := n8_
       clear n0_ n1_ n2_ n3_ n4_ n5_ n6_ n7_ n8_
       (try clear hb)
       (try clear hb2)
       (try clear hk)
       (try clear hi)
       refine hK.out _ _ ⟨(blk_cell BK264.out 0).trans rfl, (blk_cell BK264.out 1).trans rfl, (blk_cell BK264.out 2).trans rfl, (blk_cell BK264.out 3).trans rfl, (blk_cell BK264.out 4).trans rfl, (blk_cell BK264.out 5).trans rfl, (blk_cell BK231.out 0).trans rfl, (blk_cell BK231.out 1).trans rfl, (blk_cell BK231.out 2).trans rfl, (blk_cell BK231.out 3).trans rfl, (blk_cell BK231.out 4).trans rfl, (blk_cell BK231.out 5).trans rfl⟩ (fun hHeld => ?_)
       clear hK K
       refine norm_ (a' := ?_) ?_ ?_
       rotate_left
       ·show Act.put _ (some 58) _ = _
        simp only [Act.put, List.setIfInBounds_toArray, List.set_cons_zero, List.set_cons_succ, i64_w, i32_w]
        rfl
       refine pure_ (i := 4) (N := some 59) (v := ?_) (a' := ?_) #[true, true, true, true, true] rfl rfl (by kernel_rfl) (fun _ _ _ h => h) (Or.inl ⟨by rfl, ?_⟩) ?_ ?_
       rotate_left
       ·intro w'
        go_simp
        with_reducible rfl
       rotate_left
       ·simp only [Act.put, List.setIfInBounds_toArray, List.set_cons_zero, List.set_cons_succ, i64_w, i32_w]
        rfl
       refine done_ (by kernel_rfl) ?_
       try go_wp2
       go_ret
       exact ⟨by first | rfl | (simp [errW_none, errW_some] <;> rfl) | (simp [*, errW_none, errW_some] <;> rfl), bl_ HB⟩

end Go.Proofs.Ytodmfjophjhbeaa.M
