-- By this seat's own program over the kit's printer (arrays, functions told by hand); nothing of it is trusted: the kernel checks it.
import Derived.Test.YtodmfjophjhbeaaMx0
import Derived.Test.YtodmfjophjhbeaaMx3
import Derived.Test.YtodmfjophjhbeaaMx4
import Derived.Test.YtodmfjophjhbeaaMx5
import Derived.Test.YtodmfjophjhbeaaMx41
namespace Go.Proofs.Ytodmfjophjhbeaa.M
open Go.RowKit Go.Proofs.YtodmfjophjhbeaaW.PrintWords Go.Proofs.YtodmfjophjhbeaaW.PrintLast Go.Proofs.YtodmfjophjhbeaaW.PrintMore
attribute [local go_sem] max2_int min2_int max_two min_two max_three min_three max_four min_four   -- for this text's walks alone
set_option linter.unusedVariables false
set_option linter.unusedSimpArgs false

/-! ### laws_FnExactCheckTable: function 14 -/
def laws_FnExactCheckTable.j0 : Nat → List Int → List Int → Bool → List Int → Int → Int → Int → Int → Bool → List Int → Int → Int → Int → Int → Bool → Option (Bool)
 | 0, _, _, _, _, _, _, _, _, _, _, _, _, _, _, _ => none
 | k + 1, x1, x9, x45, x437000, x437001, x437002, x437003, x437004, x437005, x460000, x460001, x460002, x460003, x460004, x460005 => if x45 = true then (some false) else ((laws_toPuzzle.f k x437000 x437001 x437002 x437003 x437004 x437005).bind fun bt465 => ((laws_eqPuzzle.f k x460000 x460001 x460002 x460003 x460004 x460005 bt465.1 bt465.2.1 bt465.2.2.1 bt465.2.2.2.1 bt465.2.2.2.2.1 bt465.2.2.2.2.2).bind fun t473 => (if t473 = true then ((laws_toInt16S.f k x1).bind fun t474 => ((laws_eqInt16S.f k x9 t474).bind fun t477 => (if t477 = true then (some true) else (some false)))) else (some false))))
def laws_FnExactCheckTable.f (k : Nat) (l0_0 : List Int) (a0_1 : Int) (a0_2 : Int) (a0_3 : Int) (a0_4 : Int) (a0_5 : Bool) (l1 : List Int) : Option (Bool) := if (l1.length : Int) > 1048576 then (some true) else ((laws_szPuzzle.f l0_0 a0_1 a0_2 a0_3 a0_4 a0_5 1048576).bind fun t437 => (if t437 < 0 then (some true) else ((laws_toPuzzle.f k l0_0 a0_1 a0_2 a0_3 a0_4 a0_5).bind fun bt438 => ((laws_toInt16S.f k l1).bind fun t446 => ((spec_CheckTable.f k bt438.1 bt438.2.1 bt438.2.2.1 bt438.2.2.2.1 bt438.2.2.2.2.1 bt438.2.2.2.2.2 t446).bind fun bt449 => ((laws_toPuzzle.f k l0_0 a0_1 a0_2 a0_3 a0_4 a0_5).bind fun bt451 => ((laws_toInt16S.f k l1).bind fun t460 => ((impl_CheckTable.f k bt451.1 bt451.2.1 bt451.2.2.1 bt451.2.2.2.1 bt451.2.2.2.2.1 bt451.2.2.2.2.2 t460).bind fun bt463 => (if (bt463.1 != bt449.1) = true then (laws_FnExactCheckTable.j0 k l1 t460 true l0_0 a0_1 a0_2 a0_3 a0_4 a0_5 bt451.1 bt451.2.1 bt451.2.2.1 bt451.2.2.2.1 bt451.2.2.2.2.1 bt451.2.2.2.2.2) else (laws_FnExactCheckTable.j0 k l1 t460 (bt463.2 != bt449.2) l0_0 a0_1 a0_2 a0_3 a0_4 a0_5 bt451.1 bt451.2.1 bt451.2.2.1 bt451.2.2.2.1 bt451.2.2.2.2.1 bt451.2.2.2.2.2))))))))))
theorem laws_FnExactCheckTable.mono_l : ∀ k, (∀ y0 y1 y2 y3 y4 y5 y6 y7 y8 y9 y10 y11 y12 y13 y14, LeO (laws_FnExactCheckTable.j0 k y0 y1 y2 y3 y4 y5 y6 y7 y8 y9 y10 y11 y12 y13 y14) (laws_FnExactCheckTable.j0 (k + 1) y0 y1 y2 y3 y4 y5 y6 y7 y8 y9 y10 y11 y12 y13 y14))
 | 0 => fun _ _ _ _ _ _ _ _ _ _ _ _ _ _ _ r h => by simp [laws_FnExactCheckTable.j0] at h
 | k + 1 => by
  have ih0 := laws_FnExactCheckTable.mono_l k
  ·intro y0 y1 y2 y3 y4 y5 y6 y7 y8 y9 y10 y11 y12 y13 y14
   unfold laws_FnExactCheckTable.j0
   repeat' first
   | (with_reducible exact ih0 _ _ _ _ _ _ _ _ _ _ _ _ _ _ _)
   | (with_reducible exact impl_CheckTable.mono _ _ _ _ _ _ _ _)
   | (with_reducible exact laws_eqInt16S.mono _ _ _)
   | (with_reducible exact laws_eqPuzzle.mono _ _ _ _ _ _ _ _ _ _ _ _ _)
   | (with_reducible exact laws_toInt16S.mono _ _)
   | (with_reducible exact laws_toPuzzle.mono _ _ _ _ _ _ _)
   | (with_reducible exact spec_CheckTable.mono _ _ _ _ _ _ _ _)
   | (with_reducible exact LeO.refl _)
   | (with_reducible exact LeO.none _)
   | (with_reducible refine LeO.ite ?_ ?_)
   | (with_reducible refine LeO.bind ?_ (fun _ => ?_))
   | exact ih0 _ _ _ _ _ _ _ _ _ _ _ _ _ _ _
   | exact impl_CheckTable.mono _ _ _ _ _ _ _ _
   | exact laws_eqInt16S.mono _ _ _
   | exact laws_eqPuzzle.mono _ _ _ _ _ _ _ _ _ _ _ _ _
   | exact laws_toInt16S.mono _ _
   | exact laws_toPuzzle.mono _ _ _ _ _ _ _
   | exact spec_CheckTable.mono _ _ _ _ _ _ _ _
   | exact LeO.none _
   | refine LeO.ite ?_ ?_
   | refine LeO.bind ?_ (fun _ => ?_)
theorem laws_FnExactCheckTable.mono : ∀ a0 a1 a2 a3 a4 a5 a6 k, LeO (laws_FnExactCheckTable.f k a0 a1 a2 a3 a4 a5 a6) (laws_FnExactCheckTable.f (k + 1) a0 a1 a2 a3 a4 a5 a6) := by
 intro a0 a1 a2 a3 a4 a5 a6 k
 have ih0 := laws_FnExactCheckTable.mono_l k
 unfold laws_FnExactCheckTable.f
 repeat' first
   | (with_reducible exact ih0 _ _ _ _ _ _ _ _ _ _ _ _ _ _ _)
   | (with_reducible exact impl_CheckTable.mono _ _ _ _ _ _ _ _)
   | (with_reducible exact laws_eqInt16S.mono _ _ _)
   | (with_reducible exact laws_eqPuzzle.mono _ _ _ _ _ _ _ _ _ _ _ _ _)
   | (with_reducible exact laws_toInt16S.mono _ _)
   | (with_reducible exact laws_toPuzzle.mono _ _ _ _ _ _ _)
   | (with_reducible exact spec_CheckTable.mono _ _ _ _ _ _ _ _)
   | (with_reducible exact LeO.refl _)
   | (with_reducible exact LeO.none _)
   | (with_reducible refine LeO.ite ?_ ?_)
   | (with_reducible refine LeO.bind ?_ (fun _ => ?_))
   | exact ih0 _ _ _ _ _ _ _ _ _ _ _ _ _ _ _
   | exact impl_CheckTable.mono _ _ _ _ _ _ _ _
   | exact laws_eqInt16S.mono _ _ _
   | exact laws_eqPuzzle.mono _ _ _ _ _ _ _ _ _ _ _ _ _
   | exact laws_toInt16S.mono _ _
   | exact laws_toPuzzle.mono _ _ _ _ _ _ _
   | exact spec_CheckTable.mono _ _ _ _ _ _ _ _
   | exact LeO.none _
   | refine LeO.ite ?_ ?_
   | refine LeO.bind ?_ (fun _ => ?_)
set_option maxHeartbeats 8000000 in
set_option maxRecDepth 100000 in
theorem laws_FnExactCheckTable.calls (k : Nat) (A0_0 : Option Addr) (c0_0 : Nat) (l0_0 : List Int) (a0_1 : Int) (a0_2 : Int) (a0_3 : Int) (a0_4 : Int) (a0_5 : Bool) (A1 : Option Addr) (c1 : Nat) (l1 : List Int) (r : Bool) (w : World) (hr0_0 : Kd.C (Kd.int .i16) w A0_0 l0_0.length l0_0) (hc0_0 : l0_0.length ≤ c0_0) (hr1 : Kd.C (Kd.int .i16) w A1 l1.length l1) (hc1 : l1.length ≤ c1) (h : laws_FnExactCheckTable.f k l0_0 a0_1 a0_2 a0_3 a0_4 a0_5 l1 = some r) :
  Calls Try.prog 14 #[.agg #[.slice A0_0 l0_0.length c0_0, .int .i16 a0_1, .int .i16 a0_2, .int .i16 a0_3, .int .i16 a0_4, .bool a0_5], .slice A1 l1.length c1] w fun e w' => e = .returned (.bool r) ∧ Below w.heap.size w w' := by
 have hu26 := Try.underlying26
 have hu32 := Try.underlying32
 have HR0_0 := Aside0.mk hr0_0
 have HC0_0 := Aside0.mk hc0_0
 clear hr0_0 hc0_0
 have HR1 := Aside0.mk hr1
 have HC1 := Aside0.mk hc1
 clear hr1 hc1
 have HB := A_ (Below.refl w.heap.size w)
 have H : (if (l1.length : Int) > 1048576 then (some true) else ((laws_szPuzzle.f l0_0 a0_1 a0_2 a0_3 a0_4 a0_5 1048576).bind fun t437 => (if t437 < 0 then (some true) else ((laws_toPuzzle.f k l0_0 a0_1 a0_2 a0_3 a0_4 a0_5).bind fun bt438 => ((laws_toInt16S.f k l1).bind fun t446 => ((spec_CheckTable.f k bt438.1 bt438.2.1 bt438.2.2.1 bt438.2.2.2.1 bt438.2.2.2.2.1 bt438.2.2.2.2.2 t446).bind fun bt449 => ((laws_toPuzzle.f k l0_0 a0_1 a0_2 a0_3 a0_4 a0_5).bind fun bt451 => ((laws_toInt16S.f k l1).bind fun t460 => ((impl_CheckTable.f k bt451.1 bt451.2.1 bt451.2.2.1 bt451.2.2.2.1 bt451.2.2.2.2.1 bt451.2.2.2.2.2 t460).bind fun bt463 => (if (bt463.1 != bt449.1) = true then (laws_FnExactCheckTable.j0 k l1 t460 true l0_0 a0_1 a0_2 a0_3 a0_4 a0_5 bt451.1 bt451.2.1 bt451.2.2.1 bt451.2.2.2.1 bt451.2.2.2.2.1 bt451.2.2.2.2.2) else (laws_FnExactCheckTable.j0 k l1 t460 (bt463.2 != bt449.2) l0_0 a0_1 a0_2 a0_3 a0_4 a0_5 bt451.1 bt451.2.1 bt451.2.2.1 bt451.2.2.2.1 bt451.2.2.2.2.1 bt451.2.2.2.2.2))))))))))) = some r := h
 clear h
 by_cases c3 : (l1.length : Int) > 1048576
 ·rw [if_pos c3] at H
  have c3b0 : decide (1048576 < (l1.length : Int)) = true := decide_eq_true c3
  have c3b1 : decide (1048576 < l1.length) = true := decide_eq_true (by omega)
  clear c3
  obtain rfl := Option.some.inj H
  go_enter Try.func14, Try.ntmps14
  go_wp2_with (first | ((with_reducible refine gate_dst (N := 2) rfl ?_); refine box_event ?hg (N := 2) ?hd (cs := #[.slice A0_0 l0_0.length c0_0, .int .i16 a0_1, .int .i16 a0_2, .int .i16 a0_3, .int .i16 a0_4, .bool a0_5]) (t := 26) ?hr ?_; (case hd => rfl); (case hg => rfl); (case hr => first | (go_simp; done) | (go_simp; rfl)); intro gb436 hg w4 hbox hb; have n0_ := A_ (below_step (bl_ HB) hb); have n1_ := A_ (hbox); have n2_ := A_ ((by rw [hg]; exact (below_size (bl_ HB)) : w.heap.size ≤ gb436)); have n3_ := n2_; clear HB; have HB := n0_; have BK436 := n1_; have GW436 := n2_; have GE436 := n3_; clear n0_ n1_ n2_ n3_; clear hb hbox hg))
  go_ret
  exact ⟨by first | rfl | (simp [errW_none, errW_some] <;> rfl) | (simp [*, errW_none, errW_some] <;> rfl), bl_ HB⟩
 ·rw [if_neg c3] at H
  have c3b0 : decide (1048576 < (l1.length : Int)) = false := decide_eq_false c3
  have c3b1 : decide (1048576 < l1.length) = false := decide_eq_false (by omega)
  clear c3
  replace H := Option.bind_eq_some_iff.mp H
  obtain ⟨t437, A50, H⟩ := H
  replace H : (if t437 < 0 then (some true) else ((laws_toPuzzle.f k l0_0 a0_1 a0_2 a0_3 a0_4 a0_5).bind fun bt438 => ((laws_toInt16S.f k l1).bind fun t446 => ((spec_CheckTable.f k bt438.1 bt438.2.1 bt438.2.2.1 bt438.2.2.2.1 bt438.2.2.2.2.1 bt438.2.2.2.2.2 t446).bind fun bt449 => ((laws_toPuzzle.f k l0_0 a0_1 a0_2 a0_3 a0_4 a0_5).bind fun bt451 => ((laws_toInt16S.f k l1).bind fun t460 => ((impl_CheckTable.f k bt451.1 bt451.2.1 bt451.2.2.1 bt451.2.2.2.1 bt451.2.2.2.2.1 bt451.2.2.2.2.2 t460).bind fun bt463 => (if (bt463.1 != bt449.1) = true then (laws_FnExactCheckTable.j0 k l1 t460 true l0_0 a0_1 a0_2 a0_3 a0_4 a0_5 bt451.1 bt451.2.1 bt451.2.2.1 bt451.2.2.2.1 bt451.2.2.2.2.1 bt451.2.2.2.2.2) else (laws_FnExactCheckTable.j0 k l1 t460 (bt463.2 != bt449.2) l0_0 a0_1 a0_2 a0_3 a0_4 a0_5 bt451.1 bt451.2.1 bt451.2.2.1 bt451.2.2.2.1 bt451.2.2.2.2.1 bt451.2.2.2.2.2))))))))) = some r := H
  have A5 := Aside0.mk A50
  clear A50
  by_cases c6 : t437 < 0
  ·rw [if_pos c6] at H
   have c6b0 : decide (t437 < 0) = true := decide_eq_true c6
   clear c6
   obtain rfl := Option.some.inj H
   go_enter Try.func14, Try.ntmps14
   go_wp2_with (first | ((with_reducible refine gate_dst (N := 2) rfl ?_); refine box_event ?hg (N := 2) ?hd (cs := #[.slice A0_0 l0_0.length c0_0, .int .i16 a0_1, .int .i16 a0_2, .int .i16 a0_3, .int .i16 a0_4, .bool a0_5]) (t := 26) ?hr ?_; (case hd => rfl); (case hg => rfl); (case hr => first | (go_simp; done) | (go_simp; rfl)); intro gb436 hg w7 hbox hb; have n0_ := A_ (below_step (bl_ HB) hb); have n1_ := A_ (hbox); have n2_ := A_ ((by rw [hg]; exact (below_size (bl_ HB)) : w.heap.size ≤ gb436)); have n3_ := n2_; clear HB; have HB := n0_; have BK436 := n1_; have GW436 := n2_; have GE436 := n3_; clear n0_ n1_ n2_ n3_; clear hb hbox hg; have hcz8_0 : w7.cell? ⟨gb436, 0, none⟩ = some (.slice A0_0 l0_0.length c0_0) := (blk_cell BK436.out 0).trans rfl; have hcz8_1 : w7.cell? ⟨gb436, 1, none⟩ = some (.int .i16 a0_1) := (blk_cell BK436.out 1).trans rfl; have hcz8_2 : w7.cell? ⟨gb436, 2, none⟩ = some (.int .i16 a0_2) := (blk_cell BK436.out 2).trans rfl; have hcz8_3 : w7.cell? ⟨gb436, 3, none⟩ = some (.int .i16 a0_3) := (blk_cell BK436.out 3).trans rfl; have hcz8_4 : w7.cell? ⟨gb436, 4, none⟩ = some (.int .i16 a0_4) := (blk_cell BK436.out 4).trans rfl; have hcz8_5 : w7.cell? ⟨gb436, 5, none⟩ = some (.bool a0_5) := (blk_cell BK436.out 5).trans rfl; have hfz8_0 := blk_frozen BK436.out 0; have hfz8_1 := blk_frozen BK436.out 1; have hfz8_2 := blk_frozen BK436.out 2; have hfz8_3 := blk_frozen BK436.out 3; have hfz8_4 := blk_frozen BK436.out 4; have hfz8_5 := blk_frozen BK436.out 5) | ((with_reducible refine gate_callee (f := 16) rfl ?_); refine goesL_ (some 17) rfl rfl Try.func16 (by kernel_rfl) rfl #[.agg #[.slice A0_0 l0_0.length c0_0, .int .i16 a0_1, .int .i16 a0_2, .int .i16 a0_3, .int .i16 a0_4, .bool a0_5], .int .i64 1048576] rfl arg_ ?_; (with_reducible refine (laws_szPuzzle.calls _ _ l0_0 a0_1 a0_2 a0_3 a0_4 a0_5 1048576 t437 _ ?side1 ?side2 A5.out).mono ?_); (case side1 => repeat (first | exact (Kd.C_below HR0_0.out HB.out) | (with_reducible refine Kd.C_alloc ?_ _) | (with_reducible refine Kd.C_drewN ?_ _) | (with_reducible refine Kd.C_drew ?_))); (case side2 => exact HC0_0.out); rintro e w9 ⟨rfl, hb⟩; refine ⟨_, rfl, ?_⟩; have n0_ := A_ (blk_below (pl_ BK436) hb); have n1_ := A_ (below_step (bl_ HB) hb); clear BK436; clear HB; have BK436 := n0_; have HB := n1_; clear n0_ n1_; (try clear hb); (try clear hb2); (try clear hk); (try clear hi)))
   go_ret
   exact ⟨by first | rfl | (simp [errW_none, errW_some] <;> rfl) | (simp [*, errW_none, errW_some] <;> rfl), bl_ HB⟩
  ·rw [if_neg c6] at H
   have c6b0 : decide (t437 < 0) = false := decide_eq_false c6
   clear c6
   replace H := Option.bind_eq_some_iff.mp H
   obtain ⟨⟨t438, t441, t442, t443, t444, t445⟩, A100, H⟩ := H
   replace H : ((laws_toInt16S.f k l1).bind fun t446 => ((spec_CheckTable.f k t438 t441 t442 t443 t444 t445 t446).bind fun bt449 => ((laws_toPuzzle.f k l0_0 a0_1 a0_2 a0_3 a0_4 a0_5).bind fun bt451 => ((laws_toInt16S.f k l1).bind fun t460 => ((impl_CheckTable.f k bt451.1 bt451.2.1 bt451.2.2.1 bt451.2.2.2.1 bt451.2.2.2.2.1 bt451.2.2.2.2.2 t460).bind fun bt463 => (if (bt463.1 != bt449.1) = true then (laws_FnExactCheckTable.j0 k l1 t460 true l0_0 a0_1 a0_2 a0_3 a0_4 a0_5 bt451.1 bt451.2.1 bt451.2.2.1 bt451.2.2.2.1 bt451.2.2.2.2.1 bt451.2.2.2.2.2) else (laws_FnExactCheckTable.j0 k l1 t460 (bt463.2 != bt449.2) l0_0 a0_1 a0_2 a0_3 a0_4 a0_5 bt451.1 bt451.2.1 bt451.2.2.1 bt451.2.2.2.1 bt451.2.2.2.2.1 bt451.2.2.2.2.2))))))) = some r := H
   have A10 := Aside0.mk A100
   clear A100
   replace H := Option.bind_eq_some_iff.mp H
   obtain ⟨t446, A110, H⟩ := H
   replace H : ((spec_CheckTable.f k t438 t441 t442 t443 t444 t445 t446).bind fun bt449 => ((laws_toPuzzle.f k l0_0 a0_1 a0_2 a0_3 a0_4 a0_5).bind fun bt451 => ((laws_toInt16S.f k l1).bind fun t460 => ((impl_CheckTable.f k bt451.1 bt451.2.1 bt451.2.2.1 bt451.2.2.2.1 bt451.2.2.2.2.1 bt451.2.2.2.2.2 t460).bind fun bt463 => (if (bt463.1 != bt449.1) = true then (laws_FnExactCheckTable.j0 k l1 t460 true l0_0 a0_1 a0_2 a0_3 a0_4 a0_5 bt451.1 bt451.2.1 bt451.2.2.1 bt451.2.2.2.1 bt451.2.2.2.2.1 bt451.2.2.2.2.2) else (laws_FnExactCheckTable.j0 k l1 t460 (bt463.2 != bt449.2) l0_0 a0_1 a0_2 a0_3 a0_4 a0_5 bt451.1 bt451.2.1 bt451.2.2.1 bt451.2.2.2.1 bt451.2.2.2.2.1 bt451.2.2.2.2.2)))))) = some r := H
   have A11 := Aside0.mk A110
   clear A110
   replace H := Option.bind_eq_some_iff.mp H
   obtain ⟨⟨t449, t450⟩, A120, H⟩ := H
   replace H : ((laws_toPuzzle.f k l0_0 a0_1 a0_2 a0_3 a0_4 a0_5).bind fun bt451 => ((laws_toInt16S.f k l1).bind fun t460 => ((impl_CheckTable.f k bt451.1 bt451.2.1 bt451.2.2.1 bt451.2.2.2.1 bt451.2.2.2.2.1 bt451.2.2.2.2.2 t460).bind fun bt463 => (if (bt463.1 != t449) = true then (laws_FnExactCheckTable.j0 k l1 t460 true l0_0 a0_1 a0_2 a0_3 a0_4 a0_5 bt451.1 bt451.2.1 bt451.2.2.1 bt451.2.2.2.1 bt451.2.2.2.2.1 bt451.2.2.2.2.2) else (laws_FnExactCheckTable.j0 k l1 t460 (bt463.2 != t450) l0_0 a0_1 a0_2 a0_3 a0_4 a0_5 bt451.1 bt451.2.1 bt451.2.2.1 bt451.2.2.2.1 bt451.2.2.2.2.1 bt451.2.2.2.2.2))))) = some r := H
   have A12 := Aside0.mk A120
   clear A120
   replace H := Option.bind_eq_some_iff.mp H
   obtain ⟨⟨t451, t454, t455, t456, t457, t458⟩, A130, H⟩ := H
   replace H : ((laws_toInt16S.f k l1).bind fun t460 => ((impl_CheckTable.f k t451 t454 t455 t456 t457 t458 t460).bind fun bt463 => (if (bt463.1 != t449) = true then (laws_FnExactCheckTable.j0 k l1 t460 true l0_0 a0_1 a0_2 a0_3 a0_4 a0_5 t451 t454 t455 t456 t457 t458) else (laws_FnExactCheckTable.j0 k l1 t460 (bt463.2 != t450) l0_0 a0_1 a0_2 a0_3 a0_4 a0_5 t451 t454 t455 t456 t457 t458)))) = some r := H
   have A13 := Aside0.mk A130
   clear A130
   replace H := Option.bind_eq_some_iff.mp H
   obtain ⟨t460, A140, H⟩ := H
   replace H : ((impl_CheckTable.f k t451 t454 t455 t456 t457 t458 t460).bind fun bt463 => (if (bt463.1 != t449) = true then (laws_FnExactCheckTable.j0 k l1 t460 true l0_0 a0_1 a0_2 a0_3 a0_4 a0_5 t451 t454 t455 t456 t457 t458) else (laws_FnExactCheckTable.j0 k l1 t460 (bt463.2 != t450) l0_0 a0_1 a0_2 a0_3 a0_4 a0_5 t451 t454 t455 t456 t457 t458))) = some r := H
   have A14 := Aside0.mk A140
   clear A140
   replace H := Option.bind_eq_some_iff.mp H
   obtain ⟨⟨t463, t464⟩, A150, H⟩ := H
   replace H : (if (t463 != t449) = true then (laws_FnExactCheckTable.j0 k l1 t460 true l0_0 a0_1 a0_2 a0_3 a0_4 a0_5 t451 t454 t455 t456 t457 t458) else (laws_FnExactCheckTable.j0 k l1 t460 (t464 != t450) l0_0 a0_1 a0_2 a0_3 a0_4 a0_5 t451 t454 t455 t456 t457 t458)) = some r := H
   have A15 := Aside0.mk A150
   clear A150
   have HC16 := Aside0.mk H
   clear H
   go_enter Try.func14, Try.ntmps14
   go_upto_region 11 with (first | ((with_reducible refine gate_dst (N := 2) rfl ?_); refine box_event ?hg (N := 2) ?hd (cs := #[.slice A0_0 l0_0.length c0_0, .int .i16 a0_1, .int .i16 a0_2, .int .i16 a0_3, .int .i16 a0_4, .bool a0_5]) (t := 26) ?hr ?_; (case hd => rfl); (case hg => rfl); (case hr => first | (go_simp; done) | (go_simp; rfl)); intro gb436 hg w17 hbox hb; have n0_ := A_ (below_step (bl_ HB) hb); have n1_ := A_ (hbox); have n2_ := A_ ((by rw [hg]; exact (below_size (bl_ HB)) : w.heap.size ≤ gb436)); have n3_ := n2_; clear HB; have HB := n0_; have BK436 := n1_; have GW436 := n2_; have GE436 := n3_; clear n0_ n1_ n2_ n3_; clear hb hbox hg; have hcz18_0 : w17.cell? ⟨gb436, 0, none⟩ = some (.slice A0_0 l0_0.length c0_0) := (blk_cell BK436.out 0).trans rfl; have hcz18_1 : w17.cell? ⟨gb436, 1, none⟩ = some (.int .i16 a0_1) := (blk_cell BK436.out 1).trans rfl; have hcz18_2 : w17.cell? ⟨gb436, 2, none⟩ = some (.int .i16 a0_2) := (blk_cell BK436.out 2).trans rfl; have hcz18_3 : w17.cell? ⟨gb436, 3, none⟩ = some (.int .i16 a0_3) := (blk_cell BK436.out 3).trans rfl; have hcz18_4 : w17.cell? ⟨gb436, 4, none⟩ = some (.int .i16 a0_4) := (blk_cell BK436.out 4).trans rfl; have hcz18_5 : w17.cell? ⟨gb436, 5, none⟩ = some (.bool a0_5) := (blk_cell BK436.out 5).trans rfl; have hfz18_0 := blk_frozen BK436.out 0; have hfz18_1 := blk_frozen BK436.out 1; have hfz18_2 := blk_frozen BK436.out 2; have hfz18_3 := blk_frozen BK436.out 3; have hfz18_4 := blk_frozen BK436.out 4; have hfz18_5 := blk_frozen BK436.out 5) | ((with_reducible refine gate_callee (f := 16) rfl ?_); refine goesL_ (some 17) rfl rfl Try.func16 (by kernel_rfl) rfl #[.agg #[.slice A0_0 l0_0.length c0_0, .int .i16 a0_1, .int .i16 a0_2, .int .i16 a0_3, .int .i16 a0_4, .bool a0_5], .int .i64 1048576] rfl arg_ ?_; (with_reducible refine (laws_szPuzzle.calls _ _ l0_0 a0_1 a0_2 a0_3 a0_4 a0_5 1048576 t437 _ ?side1 ?side2 A5.out).mono ?_); (case side1 => repeat (first | exact (Kd.C_below HR0_0.out HB.out) | (with_reducible refine Kd.C_alloc ?_ _) | (with_reducible refine Kd.C_drewN ?_ _) | (with_reducible refine Kd.C_drew ?_))); (case side2 => exact HC0_0.out); rintro e w19 ⟨rfl, hb⟩; refine ⟨_, rfl, ?_⟩; have n0_ := A_ (blk_below (pl_ BK436) hb); have n1_ := A_ (below_step (bl_ HB) hb); clear BK436; clear HB; have BK436 := n0_; have HB := n1_; clear n0_ n1_; (try clear hb); (try clear hb2); (try clear hk); (try clear hi); have hcz20_0 : w19.cell? ⟨gb436, 0, none⟩ = some (.slice A0_0 l0_0.length c0_0) := (blk_cell BK436.out 0).trans rfl; have hcz20_1 : w19.cell? ⟨gb436, 1, none⟩ = some (.int .i16 a0_1) := (blk_cell BK436.out 1).trans rfl; have hcz20_2 : w19.cell? ⟨gb436, 2, none⟩ = some (.int .i16 a0_2) := (blk_cell BK436.out 2).trans rfl; have hcz20_3 : w19.cell? ⟨gb436, 3, none⟩ = some (.int .i16 a0_3) := (blk_cell BK436.out 3).trans rfl; have hcz20_4 : w19.cell? ⟨gb436, 4, none⟩ = some (.int .i16 a0_4) := (blk_cell BK436.out 4).trans rfl; have hcz20_5 : w19.cell? ⟨gb436, 5, none⟩ = some (.bool a0_5) := (blk_cell BK436.out 5).trans rfl; have hfz20_0 := blk_frozen BK436.out 0; have hfz20_1 := blk_frozen BK436.out 1; have hfz20_2 := blk_frozen BK436.out 2; have hfz20_3 := blk_frozen BK436.out 3; have hfz20_4 := blk_frozen BK436.out 4; have hfz20_5 := blk_frozen BK436.out 5) | ((with_reducible refine gate_callee (f := 18) rfl ?_); refine goesL_ (some 22) rfl rfl Try.func18 (by kernel_rfl) rfl #[.agg #[.slice A0_0 l0_0.length c0_0, .int .i16 a0_1, .int .i16 a0_2, .int .i16 a0_3, .int .i16 a0_4, .bool a0_5]] rfl arg_ ?_; (with_reducible refine (laws_toPuzzle.calls k _ _ l0_0 a0_1 a0_2 a0_3 a0_4 a0_5 t438 t441 t442 t443 t444 t445 _ ?side1 ?side2 A10.out).mono ?_); (case side1 => repeat (first | exact (Kd.C_below HR0_0.out HB.out) | (with_reducible refine Kd.C_alloc ?_ _) | (with_reducible refine Kd.C_drewN ?_ _) | (with_reducible refine Kd.C_drew ?_))); (case side2 => exact HC0_0.out); rintro e w21 ⟨v439, rfl, ho0, hb⟩; refine ⟨_, rfl, ?_⟩; have n0_ := A_ (Kd.R_lower ho0 (below_size (bl_ HB))); have n1_ := A_ (blk_below (pl_ BK436) hb); have n2_ := A_ (below_step (bl_ HB) hb); clear BK436; clear HB; have HO440 := n0_; have BK436 := n1_; have HB := n2_; clear n0_ n1_ n2_; (try clear hb); (try clear hb2); (try clear hk); (try clear hi); (try clear ho0)) | ((with_reducible refine gate_callee (f := 19) rfl ?_); refine goesL_ (some 24) rfl rfl Try.func19 (by kernel_rfl) rfl #[.slice A1 l1.length c1] rfl arg_ ?_; (with_reducible refine (laws_toInt16S.calls k _ _ l1 t446 _ ?side1 ?side2 A11.out).mono ?_); (case side1 => repeat (first | exact (Kd.C_below HR1.out HB.out) | (with_reducible refine Kd.C_alloc ?_ _) | (with_reducible refine Kd.C_drewN ?_ _) | (with_reducible refine Kd.C_drew ?_))); (case side2 => exact HC1.out); rintro e w22 ⟨v447, rfl, ho0, hb⟩; refine ⟨_, rfl, ?_⟩; have n0_ := A_ (Kd.R_elder' (pr_ HO440) (Kd.R_base ho0) hb); have n1_ := A_ (Kd.R_lower (Kd.R_new' ho0 (Kd.R_lt (pr_ HO440))) (below_size (bl_ HB))); have n2_ := A_ (blk_below (pl_ BK436) hb); have n3_ := A_ (below_step (bl_ HB) hb); clear HO440; clear BK436; clear HB; have HO440 := n0_; have HO448 := n1_; have BK436 := n2_; have HB := n3_; clear n0_ n1_ n2_ n3_; (try clear hb); (try clear hb2); (try clear hk); (try clear hi); (try clear ho0); obtain ⟨Ao23, co23, eo23⟩ := Kd.R_slice HO440.out; subst eo23; obtain ⟨Ao24, co24, eo24⟩ := Kd.R_slice HO448.out; subst eo24) | ((with_reducible refine gate_callee (f := 52) rfl ?_); refine goesL_ (some 25) rfl rfl Try.func52 (by kernel_rfl) rfl #[.agg #[.slice Ao23 t438.length co23, .int .i16 t441, .int .i16 t442, .int .i16 t443, .int .i16 t444, .bool t445], .slice Ao24 t446.length co24] rfl arg_ ?_; (with_reducible refine (spec_CheckTable.calls k _ _ t438 t441 t442 t443 t444 t445 _ _ t446 t449 t450 _ ?side1 ?side2 ?side3 ?side4 A12.out).mono ?_); (case side1 => repeat (first | exact (Kd.R_reads' HO440.out).2.2 | (with_reducible refine Kd.C_alloc ?_ _) | (with_reducible refine Kd.C_drewN ?_ _) | (with_reducible refine Kd.C_drew ?_))); (case side2 => exact (Kd.R_reads' HO440.out).2.1); (case side3 => repeat (first | exact (Kd.R_reads' HO448.out).2.2 | (with_reducible refine Kd.C_alloc ?_ _) | (with_reducible refine Kd.C_drewN ?_ _) | (with_reducible refine Kd.C_drew ?_))); (case side4 => exact (Kd.R_reads' HO448.out).2.1); rintro e w25 ⟨rfl, hb⟩; refine ⟨_, rfl, ?_⟩; have n0_ := A_ (Kd.R_below (pr_ HO440) hb); have n1_ := A_ (Kd.R_below (pr_ HO448) hb); have n2_ := A_ (blk_below (pl_ BK436) hb); have n3_ := A_ (below_step (bl_ HB) hb); clear HO440; clear HO448; clear BK436; clear HB; have HO440 := n0_; have HO448 := n1_; have BK436 := n2_; have HB := n3_; clear n0_ n1_ n2_ n3_; (try clear hb); (try clear hb2); (try clear hk); (try clear hi); have hcz26_0 : w25.cell? ⟨gb436, 0, none⟩ = some (.slice A0_0 l0_0.length c0_0) := (blk_cell BK436.out 0).trans rfl; have hcz26_1 : w25.cell? ⟨gb436, 1, none⟩ = some (.int .i16 a0_1) := (blk_cell BK436.out 1).trans rfl; have hcz26_2 : w25.cell? ⟨gb436, 2, none⟩ = some (.int .i16 a0_2) := (blk_cell BK436.out 2).trans rfl; have hcz26_3 : w25.cell? ⟨gb436, 3, none⟩ = some (.int .i16 a0_3) := (blk_cell BK436.out 3).trans rfl; have hcz26_4 : w25.cell? ⟨gb436, 4, none⟩ = some (.int .i16 a0_4) := (blk_cell BK436.out 4).trans rfl; have hcz26_5 : w25.cell? ⟨gb436, 5, none⟩ = some (.bool a0_5) := (blk_cell BK436.out 5).trans rfl; have hfz26_0 := blk_frozen BK436.out 0; have hfz26_1 := blk_frozen BK436.out 1; have hfz26_2 := blk_frozen BK436.out 2; have hfz26_3 := blk_frozen BK436.out 3; have hfz26_4 := blk_frozen BK436.out 4; have hfz26_5 := blk_frozen BK436.out 5) | ((with_reducible refine gate_callee (f := 18) rfl ?_); refine goesL_ (some 29) rfl rfl Try.func18 (by kernel_rfl) rfl #[.agg #[.slice A0_0 l0_0.length c0_0, .int .i16 a0_1, .int .i16 a0_2, .int .i16 a0_3, .int .i16 a0_4, .bool a0_5]] rfl arg_ ?_; (with_reducible refine (laws_toPuzzle.calls k _ _ l0_0 a0_1 a0_2 a0_3 a0_4 a0_5 t451 t454 t455 t456 t457 t458 _ ?side1 ?side2 A13.out).mono ?_); (case side1 => repeat (first | exact (Kd.C_below HR0_0.out HB.out) | (with_reducible refine Kd.C_alloc ?_ _) | (with_reducible refine Kd.C_drewN ?_ _) | (with_reducible refine Kd.C_drew ?_))); (case side2 => exact HC0_0.out); rintro e w27 ⟨v452, rfl, ho0, hb⟩; refine ⟨_, rfl, ?_⟩; have n0_ := A_ (Kd.R_elder' (pr_ HO440) (Kd.R_base ho0) hb); have n1_ := A_ (Kd.R_elder' (pr_ HO448) (Kd.R_base ho0) hb); have n2_ := A_ (Kd.R_lower (Kd.R_new' (Kd.R_new' ho0 (Kd.R_lt (pr_ HO440))) (Kd.R_lt (pr_ HO448))) (below_size (bl_ HB))); have n3_ := A_ (blk_below (pl_ BK436) hb); have n4_ := A_ (below_step (bl_ HB) hb); clear HO440; clear HO448; clear BK436; clear HB; have HO440 := n0_; have HO448 := n1_; have HO453 := n2_; have BK436 := n3_; have HB := n4_; clear n0_ n1_ n2_ n3_ n4_; (try clear hb); (try clear hb2); (try clear hk); (try clear hi); (try clear ho0)) | ((with_reducible refine gate_dst (N := 8) rfl ?_); refine box_event ?hg (N := 8) ?hd (cs := #[.slice none 0 0, .int .i16 0, .int .i16 0, .int .i16 0, .int .i16 0, .bool false]) (t := 32) ?hr ?_; (case hd => rfl); (case hg => rfl); (case hr => first | (go_simp; done) | (go_simp; rfl)); intro gb459 hg w28 hbox hb; have n0_ := A_ (Kd.R_below (pr_ HO440) hb); have n1_ := A_ (Kd.R_below (pr_ HO448) hb); have n2_ := A_ (Kd.R_below (pr_ HO453) hb); have n3_ := A_ (blk_below (pl_ BK436) hb); have n4_ := A_ (below_step (bl_ HB) hb); have n5_ := A_ (hbox); have n6_ := A_ ((by rw [hg]; exact (below_size (bl_ HB)) : w.heap.size ≤ gb459)); have n7_ := n6_; have n8_ := A_ ((by rw [hg]; exact Nat.ne_of_lt (blk_lt (pl_ BK436)) : gb436 ≠ gb459)); have n9_ := Aside0.mk n8_.out.symm; clear HO440; clear HO448; clear HO453; clear BK436; clear HB; have HO440 := n0_; have HO448 := n1_; have HO453 := n2_; have BK436 := n3_; have HB := n4_; have BK459 := n5_; have GW459 := n6_; have GE459 := n7_; have NB436_459 := n8_; have NB459_436 := n9_; clear n0_ n1_ n2_ n3_ n4_ n5_ n6_ n7_ n8_ n9_; clear hb hbox hg; obtain ⟨Ao29, co29, eo29⟩ := Kd.R_slice HO453.out; subst eo29; have hnb30 := NB459_436.out; have hnc30 := NB436_459.out; have hcz31_0 : w28.cell? ⟨gb459, 0, none⟩ = some (.slice none 0 0) := (blk_cell BK459.out 0).trans rfl; have hcz31_1 : w28.cell? ⟨gb459, 1, none⟩ = some (.int .i16 0) := (blk_cell BK459.out 1).trans rfl; have hcz31_2 : w28.cell? ⟨gb459, 2, none⟩ = some (.int .i16 0) := (blk_cell BK459.out 2).trans rfl; have hcz31_3 : w28.cell? ⟨gb459, 3, none⟩ = some (.int .i16 0) := (blk_cell BK459.out 3).trans rfl; have hcz31_4 : w28.cell? ⟨gb459, 4, none⟩ = some (.int .i16 0) := (blk_cell BK459.out 4).trans rfl; have hcz31_5 : w28.cell? ⟨gb459, 5, none⟩ = some (.bool false) := (blk_cell BK459.out 5).trans rfl; have hfz31_0 := blk_frozen BK459.out 0; have hfz31_1 := blk_frozen BK459.out 1; have hfz31_2 := blk_frozen BK459.out 2; have hfz31_3 := blk_frozen BK459.out 3; have hfz31_4 := blk_frozen BK459.out 4; have hfz31_5 := blk_frozen BK459.out 5) | ((with_reducible refine gate_callee (f := 19) rfl ?_); refine goesL_ (some 31) rfl rfl Try.func19 (by kernel_rfl) rfl #[.slice A1 l1.length c1] rfl arg_ ?_; (with_reducible refine (laws_toInt16S.calls k _ _ l1 t460 _ ?side1 ?side2 A14.out).mono ?_); (case side1 => exact Kd.C_below HR1.out (bs_ HB GE459)); (case side2 => exact HC1.out); rintro e w32 ⟨v461, rfl, ho0, hb⟩; refine ⟨_, rfl, ?_⟩; have n0_ := A_ (Kd.R_elder' (by (with_reducible repeat (first | apply Kd.R_alloc | apply Kd.R_drewN | apply Kd.R_drew)); exact (rf6_ HO440 BK459 (by decide))) (Kd.R_base ho0) hb); have n1_ := A_ (Kd.R_elder' (by (with_reducible repeat (first | apply Kd.R_alloc | apply Kd.R_drewN | apply Kd.R_drew)); exact (rf6_ HO448 BK459 (by decide))) (Kd.R_base ho0) hb); have n2_ := A_ (Kd.R_elder' (by (with_reducible repeat (first | apply Kd.R_alloc | apply Kd.R_drewN | apply Kd.R_drew)); exact (rf6_ HO453 BK459 (by decide))) (Kd.R_base ho0) hb); have n3_ := A_ (Kd.R_lower (Kd.R_new' (Kd.R_new' (Kd.R_new' ho0 (Kd.R_lt (by (with_reducible repeat (first | apply Kd.R_alloc | apply Kd.R_drewN | apply Kd.R_drew)); exact (rf6_ HO440 BK459 (by decide))))) (Kd.R_lt (by (with_reducible repeat (first | apply Kd.R_alloc | apply Kd.R_drewN | apply Kd.R_drew)); exact (rf6_ HO448 BK459 (by decide))))) (Kd.R_lt (by (with_reducible repeat (first | apply Kd.R_alloc | apply Kd.R_drewN | apply Kd.R_drew)); exact (rf6_ HO453 BK459 (by decide))))) (below_size (bs_ HB GE459))); have n4_ := A_ (blk_below (g := gb436) (o := .cells #[.slice A0_0 l0_0.length c0_0, .int .i16 a0_1, .int .i16 a0_2, .int .i16 a0_3, .int .i16 a0_4, .bool a0_5] 26 (0, 0)) (pf_ BK436 NB436_459) hb); have n5_ := A_ (blk_below (g := gb459) (o := .cells #[.slice Ao29 t451.length co29, .int .i16 t454, .int .i16 t455, .int .i16 t456, .int .i16 t457, .bool t458] 32 (0, 0)) (by (with_reducible repeat (first | refine blk_drewN ?_ _ | refine blk_drew ?_ | refine blk_alloc ?_ _)); refine blk_put (cs := #[.slice Ao29 t451.length co29, .int .i16 t454, .int .i16 t455, .int .i16 t456, .int .i16 t457, .bool false]) ?_ 5 _ rfl; (with_reducible repeat (first | refine blk_drewN ?_ _ | refine blk_drew ?_ | refine blk_alloc ?_ _)); refine blk_put (cs := #[.slice Ao29 t451.length co29, .int .i16 t454, .int .i16 t455, .int .i16 t456, .int .i16 0, .bool false]) ?_ 4 _ rfl; (with_reducible repeat (first | refine blk_drewN ?_ _ | refine blk_drew ?_ | refine blk_alloc ?_ _)); refine blk_put (cs := #[.slice Ao29 t451.length co29, .int .i16 t454, .int .i16 t455, .int .i16 0, .int .i16 0, .bool false]) ?_ 3 _ rfl; (with_reducible repeat (first | refine blk_drewN ?_ _ | refine blk_drew ?_ | refine blk_alloc ?_ _)); refine blk_put (cs := #[.slice Ao29 t451.length co29, .int .i16 t454, .int .i16 0, .int .i16 0, .int .i16 0, .bool false]) ?_ 2 _ rfl; (with_reducible repeat (first | refine blk_drewN ?_ _ | refine blk_drew ?_ | refine blk_alloc ?_ _)); refine blk_put (cs := #[.slice Ao29 t451.length co29, .int .i16 0, .int .i16 0, .int .i16 0, .int .i16 0, .bool false]) ?_ 1 _ rfl; (with_reducible repeat (first | refine blk_drewN ?_ _ | refine blk_drew ?_ | refine blk_alloc ?_ _)); refine blk_put (cs := #[.slice none 0 0, .int .i16 0, .int .i16 0, .int .i16 0, .int .i16 0, .bool false]) ?_ 0 _ rfl; (with_reducible repeat (first | refine blk_drewN ?_ _ | refine blk_drew ?_ | refine blk_alloc ?_ _)); exact BK459.out) hb); have n6_ := A_ (below_step (bs_ HB GE459) hb); clear HO440; clear HO448; clear HO453; clear BK436; clear BK459; clear HB; have HO440 := n0_; have HO448 := n1_; have HO453 := n2_; have HO462 := n3_; have BK436 := n4_; have BK459 := n5_; have HB := n6_; clear n0_ n1_ n2_ n3_ n4_ n5_ n6_; (try clear hb); (try clear hb2); (try clear hk); (try clear hi); (try clear ho0); have hcz33_0 : w32.cell? ⟨gb459, 0, none⟩ = some (.slice Ao29 t451.length co29) := (blk_cell BK459.out 0).trans rfl; have hcz33_1 : w32.cell? ⟨gb459, 1, none⟩ = some (.int .i16 t454) := (blk_cell BK459.out 1).trans rfl; have hcz33_2 : w32.cell? ⟨gb459, 2, none⟩ = some (.int .i16 t455) := (blk_cell BK459.out 2).trans rfl; have hcz33_3 : w32.cell? ⟨gb459, 3, none⟩ = some (.int .i16 t456) := (blk_cell BK459.out 3).trans rfl; have hcz33_4 : w32.cell? ⟨gb459, 4, none⟩ = some (.int .i16 t457) := (blk_cell BK459.out 4).trans rfl; have hcz33_5 : w32.cell? ⟨gb459, 5, none⟩ = some (.bool t458) := (blk_cell BK459.out 5).trans rfl; have hfz33_0 := blk_frozen BK459.out 0; have hfz33_1 := blk_frozen BK459.out 1; have hfz33_2 := blk_frozen BK459.out 2; have hfz33_3 := blk_frozen BK459.out 3; have hfz33_4 := blk_frozen BK459.out 4; have hfz33_5 := blk_frozen BK459.out 5; obtain ⟨Ao34, co34, eo34⟩ := Kd.R_slice HO462.out; subst eo34) | ((with_reducible refine gate_callee (f := 53) rfl ?_); refine goesL_ (some 35) rfl rfl Try.func53 (by kernel_rfl) rfl #[.agg #[.slice Ao29 t451.length co29, .int .i16 t454, .int .i16 t455, .int .i16 t456, .int .i16 t457, .bool t458], .slice Ao34 t460.length co34] rfl arg_ ?_; (with_reducible refine (impl_CheckTable.calls k _ _ t451 t454 t455 t456 t457 t458 _ _ t460 t463 t464 _ ?side1 ?side2 ?side3 ?side4 A15.out).mono ?_); (case side1 => repeat (first | exact (Kd.R_reads' HO453.out).2.2 | (with_reducible refine Kd.C_alloc ?_ _) | (with_reducible refine Kd.C_drewN ?_ _) | (with_reducible refine Kd.C_drew ?_))); (case side2 => exact (Kd.R_reads' HO453.out).2.1); (case side3 => repeat (first | exact (Kd.R_reads' HO462.out).2.2 | (with_reducible refine Kd.C_alloc ?_ _) | (with_reducible refine Kd.C_drewN ?_ _) | (with_reducible refine Kd.C_drew ?_))); (case side4 => exact (Kd.R_reads' HO462.out).2.1); rintro e w35 ⟨rfl, hb⟩; refine ⟨_, rfl, ?_⟩; have n0_ := A_ (Kd.R_below (pr_ HO440) hb); have n1_ := A_ (Kd.R_below (pr_ HO448) hb); have n2_ := A_ (Kd.R_below (pr_ HO453) hb); have n3_ := A_ (Kd.R_below (pr_ HO462) hb); have n4_ := A_ (blk_below (pl_ BK436) hb); have n5_ := A_ (blk_below (pl_ BK459) hb); have n6_ := A_ (below_step (bl_ HB) hb); clear HO440; clear HO448; clear HO453; clear HO462; clear BK436; clear BK459; clear HB; have HO440 := n0_; have HO448 := n1_; have HO453 := n2_; have HO462 := n3_; have BK436 := n4_; have BK459 := n5_; have HB := n6_; clear n0_ n1_ n2_ n3_ n4_ n5_ n6_; (try clear hb); (try clear hb2); (try clear hk); (try clear hi)))
   (try simp only [Act.put, List.setIfInBounds_toArray, List.set_cons_zero, List.set_cons_succ])
   go_cut [45] (fun v45 wc => ∃ (kq : Nat) (x45_15 : Bool), v45 = .bool x45_15 ∧ Aside0 (laws_FnExactCheckTable.j0 kq l1 t460 x45_15 l0_0 a0_1 a0_2 a0_3 a0_4 a0_5 t451 t454 t455 t456 t457 t458 = some r) ∧ Aside0 (kq ≤ k) ∧ Aside0 (Kd.R (Kd.int .i16) 23 wc w.heap.size (fun k_ => some k_ ≠ ((.slice Ao29 t451.length co29) : Value).ownBlock) (.slice Ao34 t460.length co34) t460) ∧ Aside0 (Kd.R (Kd.int .i16) 23 wc w.heap.size (fun k_ => some k_ ≠ ((.slice Ao34 t460.length co34) : Value).ownBlock) (.slice Ao29 t451.length co29) t451) ∧ Aside0 (wc.heap[gb436]? = some (.cells #[(.slice A0_0 l0_0.length c0_0), .int .i16 a0_1, .int .i16 a0_2, .int .i16 a0_3, .int .i16 a0_4, .bool a0_5] 26 (0, 0))) ∧ Aside0 (wc.heap[gb459]? = some (.cells #[(.slice Ao29 t451.length co29), .int .i16 t454, .int .i16 t455, .int .i16 t456, .int .i16 t457, .bool t458] 32 (0, 0))) ∧ Aside0 (Below w.heap.size w wc))
   case first =>
    have H := HC16.out
    clear HC16
    by_cases c36 : (t463 != t449) = true
    ·rw [if_pos c36] at H
     have c36b0 : (t463 != t449) = true := c36
     (try (have c36b1 : decide (t463 = t449) = false := by simpa using c36))
     (try (have c36b2 : (t463 == t449) = false := by simpa using c36))
     (try (have c36b3 : ¬ (t463 = t449) := by simpa using c36))
     clear c36
     (first | rw [c36b0] | (simp only [i64_w, i32_w]; rw [c36b0]) | skip)
     have H' := Aside0.mk H
     clear H
     go_wp2
     go_meet
     case rel => exact ⟨_, (true), rs_, H', ⟨by first | omega | exact Nat.le_refl _⟩, ⟨by (with_reducible repeat (first | apply Kd.R_alloc | apply Kd.R_drewN | apply Kd.R_drew)); exact Kd.R_mono HO462.out (fun _ hk => hk.2)⟩, ⟨by (with_reducible repeat (first | apply Kd.R_alloc | apply Kd.R_drewN | apply Kd.R_drew)); exact Kd.R_mono HO453.out (fun _ hk => hk.2)⟩, ⟨pl_ BK436⟩, ⟨pl_ BK459⟩, ⟨bl_ HB⟩⟩
    ·rw [if_neg c36] at H
     have c36b0 : (t463 != t449) = false := by simpa using c36
     (try (have c36b1 : decide (t463 = t449) = true := by simpa using c36))
     (try (have c36b2 : (t463 == t449) = true := by simpa using c36))
     clear c36
     (first | rw [c36b0] | (simp only [i64_w, i32_w]; rw [c36b0]) | skip)
     have H' := Aside0.mk H
     clear H
     go_wp2
     go_meet
     case rel => exact ⟨_, ((t464 != t450)), rs_, H', ⟨by first | omega | exact Nat.le_refl _⟩, ⟨by (with_reducible repeat (first | apply Kd.R_alloc | apply Kd.R_drewN | apply Kd.R_drew)); exact Kd.R_mono HO462.out (fun _ hk => hk.2)⟩, ⟨by (with_reducible repeat (first | apply Kd.R_alloc | apply Kd.R_drewN | apply Kd.R_drew)); exact Kd.R_mono HO453.out (fun _ hk => hk.2)⟩, ⟨pl_ BK436⟩, ⟨pl_ BK459⟩, ⟨bl_ HB⟩⟩
   case rest =>
    clear HC16
    try clear c1
    try clear p2
    try clear c3
    try clear c3b0
    try clear c3b1
    try clear c5
    try clear c6
    try clear c6b0
    try clear c14
    try clear c16
    try clear c18
    try clear c19
    try clear c30
    try clear c36
    try clear c36b0
    try clear c36b1
    try clear c36b2
    try clear hcz18_0
    try clear hcz18_1
    try clear hcz18_2
    try clear hcz18_3
    try clear hcz18_4
    try clear hcz18_5
    try clear hcz20_0
    try clear hcz20_1
    try clear hcz20_2
    try clear hcz20_3
    try clear hcz20_4
    try clear hcz20_5
    try clear hcz26_0
    try clear hcz26_1
    try clear hcz26_2
    try clear hcz26_3
    try clear hcz26_4
    try clear hcz26_5
    try clear hcz31_0
    try clear hcz31_1
    try clear hcz31_2
    try clear hcz31_3
    try clear hcz31_4
    try clear hcz31_5
    try clear hcz33_0
    try clear hcz33_1
    try clear hcz33_2
    try clear hcz33_3
    try clear hcz33_4
    try clear hcz33_5
    try clear hcz8_0
    try clear hcz8_1
    try clear hcz8_2
    try clear hcz8_3
    try clear hcz8_4
    try clear hcz8_5
    try clear hfz18_0
    try clear hfz18_1
    try clear hfz18_2
    try clear hfz18_3
    try clear hfz18_4
    try clear hfz18_5
    try clear hfz20_0
    try clear hfz20_1
    try clear hfz20_2
    try clear hfz20_3
    try clear hfz20_4
    try clear hfz20_5
    try clear hfz26_0
    try clear hfz26_1
    try clear hfz26_2
    try clear hfz26_3
    try clear hfz26_4
    try clear hfz26_5
    try clear hfz31_0
    try clear hfz31_1
    try clear hfz31_2
    try clear hfz31_3
    try clear hfz31_4
    try clear hfz31_5
    try clear hfz33_0
    try clear hfz33_1
    try clear hfz33_2
    try clear hfz33_3
    try clear hfz33_4
    try clear hfz33_5
    try clear hfz8_0
    try clear hfz8_1
    try clear hfz8_2
    try clear hfz8_3
    try clear hfz8_4
    try clear hfz8_5
    obtain ⟨kq, x45_15, rfl, HA, HJ15, HO_9, HO_460000, BK436, BK459, HB⟩ := hcut
    cases kq with
    | zero => exact absurd HA.out (by simp [laws_FnExactCheckTable.j0])
    | succ kj15 =>
     have H := HA.out
     clear HA
     simp only [laws_FnExactCheckTable.j0] at H
     by_cases c37 : x45_15 = true
     ·subst c37
      have H1 : (some false) = some r := by rw [if_pos rfl] at H; exact H
      clear H
      have H := H1
      clear H1
      obtain rfl := Option.some.inj H
      go_wp2
      go_ret
      exact ⟨by first | rfl | (simp [errW_none, errW_some] <;> rfl) | (simp [*, errW_none, errW_some] <;> rfl), bl_ HB⟩
     ·replace c37 := Bool.eq_false_iff.mpr c37
      subst c37
      have H1 : ((laws_toPuzzle.f kj15 l0_0 a0_1 a0_2 a0_3 a0_4 a0_5).bind fun bt465 => ((laws_eqPuzzle.f kj15 t451 t454 t455 t456 t457 t458 bt465.1 bt465.2.1 bt465.2.2.1 bt465.2.2.2.1 bt465.2.2.2.2.1 bt465.2.2.2.2.2).bind fun t473 => (if t473 = true then ((laws_toInt16S.f kj15 l1).bind fun t474 => ((laws_eqInt16S.f kj15 t460 t474).bind fun t477 => (if t477 = true then (some true) else (some false)))) else (some false)))) = some r := by rw [if_neg (show ¬ (false = true) by decide)] at H; exact H
      clear H
      have H := H1
      clear H1
      replace H := Option.bind_eq_some_iff.mp H
      obtain ⟨⟨t465, t468, t469, t470, t471, t472⟩, A380, H⟩ := H
      replace H : ((laws_eqPuzzle.f kj15 t451 t454 t455 t456 t457 t458 t465 t468 t469 t470 t471 t472).bind fun t473 => (if t473 = true then ((laws_toInt16S.f kj15 l1).bind fun t474 => ((laws_eqInt16S.f kj15 t460 t474).bind fun t477 => (if t477 = true then (some true) else (some false)))) else (some false))) = some r := H
      have A38 := Aside0.mk A380
      clear A380
      replace H := Option.bind_eq_some_iff.mp H
      obtain ⟨t473, A390, H⟩ := H
      replace H : (if t473 = true then ((laws_toInt16S.f kj15 l1).bind fun t474 => ((laws_eqInt16S.f kj15 t460 t474).bind fun t477 => (if t477 = true then (some true) else (some false)))) else (some false)) = some r := H
      have A39 := Aside0.mk A390
      clear A390
      by_cases c40 : t473 = true
      ·subst c40
       have H1 : ((laws_toInt16S.f kj15 l1).bind fun t474 => ((laws_eqInt16S.f kj15 t460 t474).bind fun t477 => (if t477 = true then (some true) else (some false)))) = some r := by rw [if_pos rfl] at H; exact H
       clear H
       have H := H1
       clear H1
       replace H := Option.bind_eq_some_iff.mp H
       obtain ⟨t474, A410, H⟩ := H
       replace H : ((laws_eqInt16S.f kj15 t460 t474).bind fun t477 => (if t477 = true then (some true) else (some false))) = some r := H
       have A41 := Aside0.mk A410
       clear A410
       replace H := Option.bind_eq_some_iff.mp H
       obtain ⟨t477, A420, H⟩ := H
       replace H : (if t477 = true then (some true) else (some false)) = some r := H
       have A42 := Aside0.mk A420
       clear A420
       by_cases c43 : t477 = true
       ·subst c43
        have H1 : (some true) = some r := by rw [if_pos rfl] at H; exact H
        clear H
        have H := H1
        clear H1
        obtain rfl := Option.some.inj H
        try go_wp2
        have n0_ := A_ (Kd.R_drew HO_9.out)
        have n1_ := A_ (Kd.R_drew HO_460000.out)
        have n2_ := A_ (blk_drew BK436.out)
        have n3_ := A_ (blk_drew BK459.out)
        have n4_ := A_ (below_drew1 HB.out)
        clear HO_9
        clear HO_460000
        clear BK436
        clear BK459
        clear HB
        have HO_9 := n0_
        have HO_460000 := n1_
        have BK436 := n2_
        have BK459 := n3_
        have HB := n4_
        clear n0_ n1_ n2_ n3_ n4_
        refine start_ (n := 5) (S := fun w' => w'.cell? ⟨gb459, 0, none⟩ = some (.slice Ao29 t451.length co29) ∧ w'.cell? ⟨gb459, 1, none⟩ = some (.int .i16 t454) ∧ w'.cell? ⟨gb459, 2, none⟩ = some (.int .i16 t455) ∧ w'.cell? ⟨gb459, 3, none⟩ = some (.int .i16 t456) ∧ w'.cell? ⟨gb459, 4, none⟩ = some (.int .i16 t457) ∧ w'.cell? ⟨gb459, 5, none⟩ = some (.bool t458) ∧ w'.cell? ⟨gb436, 0, none⟩ = some (.slice A0_0 l0_0.length c0_0) ∧ w'.cell? ⟨gb436, 1, none⟩ = some (.int .i16 a0_1) ∧ w'.cell? ⟨gb436, 2, none⟩ = some (.int .i16 a0_2) ∧ w'.cell? ⟨gb436, 3, none⟩ = some (.int .i16 a0_3) ∧ w'.cell? ⟨gb436, 4, none⟩ = some (.int .i16 a0_4) ∧ w'.cell? ⟨gb436, 5, none⟩ = some (.bool a0_5)) (ds := []) #[false, false, false, false, false] (by kernel_rfl) rfl rfl ⟨(blk_cell BK459.out 0).trans rfl, (blk_cell BK459.out 1).trans rfl, (blk_cell BK459.out 2).trans rfl, (blk_cell BK459.out 3).trans rfl, (blk_cell BK459.out 4).trans rfl, (blk_cell BK459.out 5).trans rfl, (blk_cell BK436.out 0).trans rfl, (blk_cell BK436.out 1).trans rfl, (blk_cell BK436.out 2).trans rfl, (blk_cell BK436.out 3).trans rfl, (blk_cell BK436.out 4).trans rfl, (blk_cell BK436.out 5).trans rfl⟩ (fun hHeld => ?_)
        generalize wc.drew = w44 at HO_9 HO_460000 BK436 BK459 HB hHeld ⊢
        refine take_ (i := 0) (N := some 46) (v := ?_) (a' := ?_) #[true, false, false, false, false] rfl rfl (by kernel_rfl) (fun _ _ _ h => h) (Or.inl ⟨by rfl, ?_⟩) hHeld ?_ ?_
        rotate_left
        ·rintro w' ⟨s0, s1, s2, s3, s4, s5, s6, s7, s8, s9, s10, s11⟩
         go_simp
         with_reducible rfl
        rotate_left
        ·simp only [Act.put, List.setIfInBounds_toArray, List.set_cons_zero, List.set_cons_succ, i64_w, i32_w]
         rfl
        refine take_ (i := 1) (N := some 47) (v := ?_) (a' := ?_) #[true, true, false, false, false] rfl rfl (by kernel_rfl) (fun _ _ _ h => h) (Or.inl ⟨by rfl, ?_⟩) hHeld ?_ ?_
        rotate_left
        ·rintro w' ⟨s0, s1, s2, s3, s4, s5, s6, s7, s8, s9, s10, s11⟩
         go_simp
         with_reducible rfl
        rotate_left
        ·simp only [Act.put, List.setIfInBounds_toArray, List.set_cons_zero, List.set_cons_succ, i64_w, i32_w]
         rfl
        refine one_ (i := 2) (N := some 48) #[true, true, true, false, false] rfl rfl (by kernel_rfl) (by decide) (fun K hK => ?_)
        refine goes_ Try.func18 (by kernel_rfl) rfl #[.agg #[.slice A0_0 l0_0.length c0_0, .int .i16 a0_1, .int .i16 a0_2, .int .i16 a0_3, .int .i16 a0_4, .bool a0_5]] (by rfl) rfl rfl arg_ ?_
        with_reducible refine (laws_toPuzzle.calls kj15 _ _ l0_0 a0_1 a0_2 a0_3 a0_4 a0_5 t465 t468 t469 t470 t471 t472 _ ?side1 ?side2 A38.out).mono ?_
        (case side1 => repeat (first | exact (Kd.C_below HR0_0.out HB.out) | (with_reducible refine Kd.C_alloc ?_ _) | (with_reducible refine Kd.C_drewN ?_ _) | (with_reducible refine Kd.C_drew ?_)))
        (case side2 => exact HC0_0.out)
        rintro e w45 ⟨v466, rfl, ho0, hb⟩
        refine ⟨_, rfl, ?_⟩
        have n0_ := A_ (Kd.R_elder' (pr_ HO_9) (Kd.R_base ho0) hb)
        have n1_ := A_ (Kd.R_elder' (pr_ HO_460000) (Kd.R_base ho0) hb)
        have n2_ := A_ (Kd.R_lower (Kd.R_new' (Kd.R_new' ho0 (Kd.R_lt (pr_ HO_9))) (Kd.R_lt (pr_ HO_460000))) (below_size (bl_ HB)))
        have n3_ := A_ (blk_below (pl_ BK436) hb)
        have n4_ := A_ (blk_below (pl_ BK459) hb)
        have n5_ := A_ (below_step (bl_ HB) hb)
        clear HO_9
        clear HO_460000
        clear BK436
        clear BK459
        clear HB
        have HO_9 := n0_
        have HO_460000 := n1_
        have HO467 := n2_
        have BK436 := n3_
        have BK459 := n4_
        have HB := n5_
        clear n0_ n1_ n2_ n3_ n4_ n5_
        (try clear hb)
        (try clear hb2)
        (try clear hk)
        (try clear hi)
        (try clear ho0)
        obtain ⟨Ao46, co46, eo46⟩ := Kd.R_slice HO467.out
        (first | subst eo46 | (injection eo46 with f1_ f2_ f3_; have f4_ := f1_.symm; have f5_ := f3_.symm; clear f1_ f2_ f3_; subst f4_; subst f5_))
        refine hK.out _ _ ⟨(blk_cell BK459.out 0).trans rfl, (blk_cell BK459.out 1).trans rfl, (blk_cell BK459.out 2).trans rfl, (blk_cell BK459.out 3).trans rfl, (blk_cell BK459.out 4).trans rfl, (blk_cell BK459.out 5).trans rfl, (blk_cell BK436.out 0).trans rfl, (blk_cell BK436.out 1).trans rfl, (blk_cell BK436.out 2).trans rfl, (blk_cell BK436.out 3).trans rfl, (blk_cell BK436.out 4).trans rfl, (blk_cell BK436.out 5).trans rfl⟩ (fun hHeld => ?_)
        clear hK K
        refine norm_ (a' := ?_) ?_ ?_
        rotate_left
        ·show Act.put _ (some 48) _ = _
         simp only [Act.put, List.setIfInBounds_toArray, List.set_cons_zero, List.set_cons_succ, i64_w, i32_w]
         rfl
        refine one_ (i := 3) (N := some 49) #[true, true, true, true, false] rfl rfl (by kernel_rfl) (by decide) (fun K hK => ?_)
        refine goes_ Try.func21 (by kernel_rfl) rfl #[.agg #[.slice Ao29 t451.length co29, .int .i16 t454, .int .i16 t455, .int .i16 t456, .int .i16 t457, .bool t458], .agg #[.slice Ao46 t465.length co46, .int .i16 t468, .int .i16 t469, .int .i16 t470, .int .i16 t471, .bool t472]] (by rfl) rfl rfl arg_ ?_
        with_reducible refine (laws_eqPuzzle.calls kj15 _ _ t451 t454 t455 t456 t457 t458 _ _ t465 t468 t469 t470 t471 t472 true _ ?side1 ?side2 ?side3 ?side4 A39.out).mono ?_
        (case side1 => repeat (first | exact (Kd.R_reads' HO_460000.out).2.2 | (with_reducible refine Kd.C_alloc ?_ _) | (with_reducible refine Kd.C_drewN ?_ _) | (with_reducible refine Kd.C_drew ?_)))
        (case side2 => exact (Kd.R_reads' HO_460000.out).2.1)
        (case side3 => repeat (first | exact (Kd.R_reads' HO467.out).2.2 | (with_reducible refine Kd.C_alloc ?_ _) | (with_reducible refine Kd.C_drewN ?_ _) | (with_reducible refine Kd.C_drew ?_)))
        (case side4 => exact (Kd.R_reads' HO467.out).2.1)
        rintro e w47 ⟨rfl, hb⟩
        refine ⟨_, rfl, ?_⟩
        have n0_ := A_ (Kd.R_below (pr_ HO_9) hb)
        have n1_ := A_ (Kd.R_below (pr_ HO_460000) hb)
        have n2_ := A_ (Kd.R_below (pr_ HO467) hb)
        have n3_ := A_ (blk_below (pl_ BK436) hb)
        have n4_ := A_ (blk_below (pl_ BK459) hb)
        have n5_ := A_ (below_step (bl_ HB) hb)
        clear HO_9
        clear HO_460000
        clear HO467
        clear BK436
        clear BK459
        clear HB
        have HO_9 := n0_
        have HO_460000 := n1_
        have HO467 := n2_
        have BK436 := n3_
        have BK459 := n4_
        have HB := n5_
        clear n0_ n1_ n2_ n3_ n4_ n5_
        (try clear hb)
        (try clear hb2)
        (try clear hk)
        (try clear hi)
        refine hK.out _ _ ⟨(blk_cell BK459.out 0).trans rfl, (blk_cell BK459.out 1).trans rfl, (blk_cell BK459.out 2).trans rfl, (blk_cell BK459.out 3).trans rfl, (blk_cell BK459.out 4).trans rfl, (blk_cell BK459.out 5).trans rfl, (blk_cell BK436.out 0).trans rfl, (blk_cell BK436.out 1).trans rfl, (blk_cell BK436.out 2).trans rfl, (blk_cell BK436.out 3).trans rfl, (blk_cell BK436.out 4).trans rfl, (blk_cell BK436.out 5).trans rfl⟩ (fun hHeld => ?_)
        clear hK K
        refine norm_ (a' := ?_) ?_ ?_
        rotate_left
        ·show Act.put _ (some 49) _ = _
         simp only [Act.put, List.setIfInBounds_toArray, List.set_cons_zero, List.set_cons_succ, i64_w, i32_w]
         rfl
        refine pure_ (i := 4) (N := some 50) (v := ?_) (a' := ?_) #[true, true, true, true, true] rfl rfl (by kernel_rfl) (fun _ _ _ h => h) (Or.inl ⟨by rfl, ?_⟩) ?_ ?_
        rotate_left
        ·intro w'
         go_simp
         with_reducible rfl
        rotate_left
        ·simp only [Act.put, List.setIfInBounds_toArray, List.set_cons_zero, List.set_cons_succ, i64_w, i32_w]
         rfl
        refine done_ (by kernel_rfl) ?_
        try go_wp2_with (first | ((with_reducible refine gate_callee (f := 19) rfl ?_); refine goesL_ (some 53) rfl rfl Try.func19 (by kernel_rfl) rfl #[.slice A1 l1.length c1] rfl arg_ ?_; (with_reducible refine (laws_toInt16S.calls kj15 _ _ l1 t474 _ ?side1 ?side2 A41.out).mono ?_); (case side1 => repeat (first | exact (Kd.C_below HR1.out HB.out) | (with_reducible refine Kd.C_alloc ?_ _) | (with_reducible refine Kd.C_drewN ?_ _) | (with_reducible refine Kd.C_drew ?_))); (case side2 => exact HC1.out); rintro e w48 ⟨v475, rfl, ho0, hb⟩; refine ⟨_, rfl, ?_⟩; have n0_ := A_ (Kd.R_elder' (pr_ HO_9) (Kd.R_base ho0) hb); have n1_ := A_ (Kd.R_elder' (pr_ HO_460000) (Kd.R_base ho0) hb); have n2_ := A_ (Kd.R_elder' (pr_ HO467) (Kd.R_base ho0) hb); have n3_ := A_ (Kd.R_lower (Kd.R_new' (Kd.R_new' (Kd.R_new' ho0 (Kd.R_lt (pr_ HO_9))) (Kd.R_lt (pr_ HO_460000))) (Kd.R_lt (pr_ HO467))) (below_size (bl_ HB))); have n4_ := A_ (blk_below (pl_ BK436) hb); have n5_ := A_ (blk_below (pl_ BK459) hb); have n6_ := A_ (below_step (bl_ HB) hb); clear HO_9; clear HO_460000; clear HO467; clear BK436; clear BK459; clear HB; have HO_9 := n0_; have HO_460000 := n1_; have HO467 := n2_; have HO476 := n3_; have BK436 := n4_; have BK459 := n5_; have HB := n6_; clear n0_ n1_ n2_ n3_ n4_ n5_ n6_; (try clear hb); (try clear hb2); (try clear hk); (try clear hi); (try clear ho0); obtain ⟨Ao49, co49, eo49⟩ := Kd.R_slice HO476.out; subst eo49) | ((with_reducible refine gate_callee (f := 22) rfl ?_); refine goesL_ (some 54) rfl rfl Try.func22 (by kernel_rfl) rfl #[.slice Ao34 t460.length co34, .slice Ao49 t474.length co49] rfl arg_ ?_; (with_reducible refine (laws_eqInt16S.calls kj15 _ _ t460 _ _ t474 true _ ?side1 ?side2 ?side3 ?side4 A42.out).mono ?_); (case side1 => repeat (first | exact (Kd.R_reads' HO_9.out).2.2 | (with_reducible refine Kd.C_alloc ?_ _) | (with_reducible refine Kd.C_drewN ?_ _) | (with_reducible refine Kd.C_drew ?_))); (case side2 => exact (Kd.R_reads' HO_9.out).2.1); (case side3 => repeat (first | exact (Kd.R_reads' HO476.out).2.2 | (with_reducible refine Kd.C_alloc ?_ _) | (with_reducible refine Kd.C_drewN ?_ _) | (with_reducible refine Kd.C_drew ?_))); (case side4 => exact (Kd.R_reads' HO476.out).2.1); rintro e w' ⟨rfl, ⟨nd, rfl⟩⟩; refine ⟨_, rfl, ?_⟩))
        go_ret
        exact ⟨by first | rfl | (simp [errW_none, errW_some] <;> rfl) | (simp [*, errW_none, errW_some] <;> rfl), bl_ HB⟩
       ·replace c43 := Bool.eq_false_iff.mpr c43
        subst c43
        have H1 : (some false) = some r := by rw [if_neg (show ¬ (false = true) by decide)] at H; exact H
        clear H
        have H := H1
        clear H1
        obtain rfl := Option.some.inj H
        try go_wp2
        have n0_ := A_ (Kd.R_drew HO_9.out)
        have n1_ := A_ (Kd.R_drew HO_460000.out)
        have n2_ := A_ (blk_drew BK436.out)
        have n3_ := A_ (blk_drew BK459.out)
        have n4_ := A_ (below_drew1 HB.out)
        clear HO_9
        clear HO_460000
        clear BK436
        clear BK459
        clear HB
        have HO_9 := n0_
        have HO_460000 := n1_
        have BK436 := n2_
        have BK459 := n3_
        have HB := n4_
        clear n0_ n1_ n2_ n3_ n4_
        refine start_ (n := 5) (S := fun w' => w'.cell? ⟨gb459, 0, none⟩ = some (.slice Ao29 t451.length co29) ∧ w'.cell? ⟨gb459, 1, none⟩ = some (.int .i16 t454) ∧ w'.cell? ⟨gb459, 2, none⟩ = some (.int .i16 t455) ∧ w'.cell? ⟨gb459, 3, none⟩ = some (.int .i16 t456) ∧ w'.cell? ⟨gb459, 4, none⟩ = some (.int .i16 t457) ∧ w'.cell? ⟨gb459, 5, none⟩ = some (.bool t458) ∧ w'.cell? ⟨gb436, 0, none⟩ = some (.slice A0_0 l0_0.length c0_0) ∧ w'.cell? ⟨gb436, 1, none⟩ = some (.int .i16 a0_1) ∧ w'.cell? ⟨gb436, 2, none⟩ = some (.int .i16 a0_2) ∧ w'.cell? ⟨gb436, 3, none⟩ = some (.int .i16 a0_3) ∧ w'.cell? ⟨gb436, 4, none⟩ = some (.int .i16 a0_4) ∧ w'.cell? ⟨gb436, 5, none⟩ = some (.bool a0_5)) (ds := []) #[false, false, false, false, false] (by kernel_rfl) rfl rfl ⟨(blk_cell BK459.out 0).trans rfl, (blk_cell BK459.out 1).trans rfl, (blk_cell BK459.out 2).trans rfl, (blk_cell BK459.out 3).trans rfl, (blk_cell BK459.out 4).trans rfl, (blk_cell BK459.out 5).trans rfl, (blk_cell BK436.out 0).trans rfl, (blk_cell BK436.out 1).trans rfl, (blk_cell BK436.out 2).trans rfl, (blk_cell BK436.out 3).trans rfl, (blk_cell BK436.out 4).trans rfl, (blk_cell BK436.out 5).trans rfl⟩ (fun hHeld => ?_)
        generalize wc.drew = w50 at HO_9 HO_460000 BK436 BK459 HB hHeld ⊢
        refine take_ (i := 0) (N := some 46) (v := ?_) (a' := ?_) #[true, false, false, false, false] rfl rfl (by kernel_rfl) (fun _ _ _ h => h) (Or.inl ⟨by rfl, ?_⟩) hHeld ?_ ?_
        rotate_left
        ·rintro w' ⟨s0, s1, s2, s3, s4, s5, s6, s7, s8, s9, s10, s11⟩
         go_simp
         with_reducible rfl
        rotate_left
        ·simp only [Act.put, List.setIfInBounds_toArray, List.set_cons_zero, List.set_cons_succ, i64_w, i32_w]
         rfl
        refine take_ (i := 1) (N := some 47) (v := ?_) (a' := ?_) #[true, true, false, false, false] rfl rfl (by kernel_rfl) (fun _ _ _ h => h) (Or.inl ⟨by rfl, ?_⟩) hHeld ?_ ?_
        rotate_left
        ·rintro w' ⟨s0, s1, s2, s3, s4, s5, s6, s7, s8, s9, s10, s11⟩
         go_simp
         with_reducible rfl
        rotate_left
        ·simp only [Act.put, List.setIfInBounds_toArray, List.set_cons_zero, List.set_cons_succ, i64_w, i32_w]
         rfl
        refine one_ (i := 2) (N := some 48) #[true, true, true, false, false] rfl rfl (by kernel_rfl) (by decide) (fun K hK => ?_)
        refine goes_ Try.func18 (by kernel_rfl) rfl #[.agg #[.slice A0_0 l0_0.length c0_0, .int .i16 a0_1, .int .i16 a0_2, .int .i16 a0_3, .int .i16 a0_4, .bool a0_5]] (by rfl) rfl rfl arg_ ?_
        with_reducible refine (laws_toPuzzle.calls kj15 _ _ l0_0 a0_1 a0_2 a0_3 a0_4 a0_5 t465 t468 t469 t470 t471 t472 _ ?side1 ?side2 A38.out).mono ?_
        (case side1 => repeat (first | exact (Kd.C_below HR0_0.out HB.out) | (with_reducible refine Kd.C_alloc ?_ _) | (with_reducible refine Kd.C_drewN ?_ _) | (with_reducible refine Kd.C_drew ?_)))
        (case side2 => exact HC0_0.out)
        rintro e w51 ⟨v466, rfl, ho0, hb⟩
        refine ⟨_, rfl, ?_⟩
        have n0_ := A_ (Kd.R_elder' (pr_ HO_9) (Kd.R_base ho0) hb)
        have n1_ := A_ (Kd.R_elder' (pr_ HO_460000) (Kd.R_base ho0) hb)
        have n2_ := A_ (Kd.R_lower (Kd.R_new' (Kd.R_new' ho0 (Kd.R_lt (pr_ HO_9))) (Kd.R_lt (pr_ HO_460000))) (below_size (bl_ HB)))
        have n3_ := A_ (blk_below (pl_ BK436) hb)
        have n4_ := A_ (blk_below (pl_ BK459) hb)
        have n5_ := A_ (below_step (bl_ HB) hb)
        clear HO_9
        clear HO_460000
        clear BK436
        clear BK459
        clear HB
        have HO_9 := n0_
        have HO_460000 := n1_
        have HO467 := n2_
        have BK436 := n3_
        have BK459 := n4_
        have HB := n5_
        clear n0_ n1_ n2_ n3_ n4_ n5_
        (try clear hb)
        (try clear hb2)
        (try clear hk)
        (try clear hi)
        (try clear ho0)
        obtain ⟨Ao52, co52, eo52⟩ := Kd.R_slice HO467.out
        (first | subst eo52 | (injection eo52 with f1_ f2_ f3_; have f4_ := f1_.symm; have f5_ := f3_.symm; clear f1_ f2_ f3_; subst f4_; subst f5_))
        refine hK.out _ _ ⟨(blk_cell BK459.out 0).trans rfl, (blk_cell BK459.out 1).trans rfl, (blk_cell BK459.out 2).trans rfl, (blk_cell BK459.out 3).trans rfl, (blk_cell BK459.out 4).trans rfl, (blk_cell BK459.out 5).trans rfl, (blk_cell BK436.out 0).trans rfl, (blk_cell BK436.out 1).trans rfl, (blk_cell BK436.out 2).trans rfl, (blk_cell BK436.out 3).trans rfl, (blk_cell BK436.out 4).trans rfl, (blk_cell BK436.out 5).trans rfl⟩ (fun hHeld => ?_)
        clear hK K
        refine norm_ (a' := ?_) ?_ ?_
        rotate_left
        ·show Act.put _ (some 48) _ = _
         simp only [Act.put, List.setIfInBounds_toArray, List.set_cons_zero, List.set_cons_succ, i64_w, i32_w]
         rfl
        refine one_ (i := 3) (N := some 49) #[true, true, true, true, false] rfl rfl (by kernel_rfl) (by decide) (fun K hK => ?_)
        refine goes_ Try.func21 (by kernel_rfl) rfl #[.agg #[.slice Ao29 t451.length co29, .int .i16 t454, .int .i16 t455, .int .i16 t456, .int .i16 t457, .bool t458], .agg #[.slice Ao52 t465.length co52, .int .i16 t468, .int .i16 t469, .int .i16 t470, .int .i16 t471, .bool t472]] (by rfl) rfl rfl arg_ ?_
        with_reducible refine (laws_eqPuzzle.calls kj15 _ _ t451 t454 t455 t456 t457 t458 _ _ t465 t468 t469 t470 t471 t472 true _ ?side1 ?side2 ?side3 ?side4 A39.out).mono ?_
        (case side1 => repeat (first | exact (Kd.R_reads' HO_460000.out).2.2 | (with_reducible refine Kd.C_alloc ?_ _) | (with_reducible refine Kd.C_drewN ?_ _) | (with_reducible refine Kd.C_drew ?_)))
        (case side2 => exact (Kd.R_reads' HO_460000.out).2.1)
        (case side3 => repeat (first | exact (Kd.R_reads' HO467.out).2.2 | (with_reducible refine Kd.C_alloc ?_ _) | (with_reducible refine Kd.C_drewN ?_ _) | (with_reducible refine Kd.C_drew ?_)))
        (case side4 => exact (Kd.R_reads' HO467.out).2.1)
        rintro e w53 ⟨rfl, hb⟩
        refine ⟨_, rfl, ?_⟩
        have n0_ := A_ (Kd.R_below (pr_ HO_9) hb)
        have n1_ := A_ (Kd.R_below (pr_ HO_460000) hb)
        have n2_ := A_ (Kd.R_below (pr_ HO467) hb)
        have n3_ := A_ (blk_below (pl_ BK436) hb)
        have n4_ := A_ (blk_below (pl_ BK459) hb)
        have n5_ := A_ (below_step (bl_ HB) hb)
        clear HO_9
        clear HO_460000
        clear HO467
        clear BK436
        clear BK459
        clear HB
        have HO_9 := n0_
        have HO_460000 := n1_
        have HO467 := n2_
        have BK436 := n3_
        have BK459 := n4_
        have HB := n5_
        clear n0_ n1_ n2_ n3_ n4_ n5_
        (try clear hb)
        (try clear hb2)
        (try clear hk)
        (try clear hi)
        refine hK.out _ _ ⟨(blk_cell BK459.out 0).trans rfl, (blk_cell BK459.out 1).trans rfl, (blk_cell BK459.out 2).trans rfl, (blk_cell BK459.out 3).trans rfl, (blk_cell BK459.out 4).trans rfl, (blk_cell BK459.out 5).trans rfl, (blk_cell BK436.out 0).trans rfl, (blk_cell BK436.out 1).trans rfl, (blk_cell BK436.out 2).trans rfl, (blk_cell BK436.out 3).trans rfl, (blk_cell BK436.out 4).trans rfl, (blk_cell BK436.out 5).trans rfl⟩ (fun hHeld => ?_)
        clear hK K
        refine norm_ (a' := ?_) ?_ ?_
        rotate_left
        ·show Act.put _ (some 49) _ = _
         simp only [Act.put, List.setIfInBounds_toArray, List.set_cons_zero, List.set_cons_succ, i64_w, i32_w]
         rfl
        refine pure_ (i := 4) (N := some 50) (v := ?_) (a' := ?_) #[true, true, true, true, true] rfl rfl (by kernel_rfl) (fun _ _ _ h => h) (Or.inl ⟨by rfl, ?_⟩) ?_ ?_
        rotate_left
        ·intro w'
         go_simp
         with_reducible rfl
        rotate_left
        ·simp only [Act.put, List.setIfInBounds_toArray, List.set_cons_zero, List.set_cons_succ, i64_w, i32_w]
         rfl
        refine done_ (by kernel_rfl) ?_
        try go_wp2_with (first | ((with_reducible refine gate_callee (f := 19) rfl ?_); refine goesL_ (some 53) rfl rfl Try.func19 (by kernel_rfl) rfl #[.slice A1 l1.length c1] rfl arg_ ?_; (with_reducible refine (laws_toInt16S.calls kj15 _ _ l1 t474 _ ?side1 ?side2 A41.out).mono ?_); (case side1 => repeat (first | exact (Kd.C_below HR1.out HB.out) | (with_reducible refine Kd.C_alloc ?_ _) | (with_reducible refine Kd.C_drewN ?_ _) | (with_reducible refine Kd.C_drew ?_))); (case side2 => exact HC1.out); rintro e w54 ⟨v475, rfl, ho0, hb⟩; refine ⟨_, rfl, ?_⟩; have n0_ := A_ (Kd.R_elder' (pr_ HO_9) (Kd.R_base ho0) hb); have n1_ := A_ (Kd.R_elder' (pr_ HO_460000) (Kd.R_base ho0) hb); have n2_ := A_ (Kd.R_elder' (pr_ HO467) (Kd.R_base ho0) hb); have n3_ := A_ (Kd.R_lower (Kd.R_new' (Kd.R_new' (Kd.R_new' ho0 (Kd.R_lt (pr_ HO_9))) (Kd.R_lt (pr_ HO_460000))) (Kd.R_lt (pr_ HO467))) (below_size (bl_ HB))); have n4_ := A_ (blk_below (pl_ BK436) hb); have n5_ := A_ (blk_below (pl_ BK459) hb); have n6_ := A_ (below_step (bl_ HB) hb); clear HO_9; clear HO_460000; clear HO467; clear BK436; clear BK459; clear HB; have HO_9 := n0_; have HO_460000 := n1_; have HO467 := n2_; have HO476 := n3_; have BK436 := n4_; have BK459 := n5_; have HB := n6_; clear n0_ n1_ n2_ n3_ n4_ n5_ n6_; (try clear hb); (try clear hb2); (try clear hk); (try clear hi); (try clear ho0); obtain ⟨Ao55, co55, eo55⟩ := Kd.R_slice HO476.out; subst eo55) | ((with_reducible refine gate_callee (f := 22) rfl ?_); refine goesL_ (some 54) rfl rfl Try.func22 (by kernel_rfl) rfl #[.slice Ao34 t460.length co34, .slice Ao55 t474.length co55] rfl arg_ ?_; (with_reducible refine (laws_eqInt16S.calls kj15 _ _ t460 _ _ t474 false _ ?side1 ?side2 ?side3 ?side4 A42.out).mono ?_); (case side1 => repeat (first | exact (Kd.R_reads' HO_9.out).2.2 | (with_reducible refine Kd.C_alloc ?_ _) | (with_reducible refine Kd.C_drewN ?_ _) | (with_reducible refine Kd.C_drew ?_))); (case side2 => exact (Kd.R_reads' HO_9.out).2.1); (case side3 => repeat (first | exact (Kd.R_reads' HO476.out).2.2 | (with_reducible refine Kd.C_alloc ?_ _) | (with_reducible refine Kd.C_drewN ?_ _) | (with_reducible refine Kd.C_drew ?_))); (case side4 => exact (Kd.R_reads' HO476.out).2.1); rintro e w' ⟨rfl, ⟨nd, rfl⟩⟩; refine ⟨_, rfl, ?_⟩))
        go_ret
        exact ⟨by first | rfl | (simp [errW_none, errW_some] <;> rfl) | (simp [*, errW_none, errW_some] <;> rfl), bl_ HB⟩
      ·replace c40 := Bool.eq_false_iff.mpr c40
       subst c40
       have H1 : (some false) = some r := by rw [if_neg (show ¬ (false = true) by decide)] at H; exact H
       clear H
       have H := H1
       clear H1
       obtain rfl := Option.some.inj H
       try go_wp2
       have n0_ := A_ (Kd.R_drew HO_9.out)
       have n1_ := A_ (Kd.R_drew HO_460000.out)
       have n2_ := A_ (blk_drew BK436.out)
       have n3_ := A_ (blk_drew BK459.out)
       have n4_ := A_ (below_drew1 HB.out)
       clear HO_9
       clear HO_460000
       clear BK436
       clear BK459
       clear HB
       have HO_9 := n0_
       have HO_460000 := n1_
       have BK436 := n2_
       have BK459 := n3_
       have HB := n4_
       clear n0_ n1_ n2_ n3_ n4_
       refine start_ (n := 5) (S := fun w' => w'.cell? ⟨gb459, 0, none⟩ = some (.slice Ao29 t451.length co29) ∧ w'.cell? ⟨gb459, 1, none⟩ = some (.int .i16 t454) ∧ w'.cell? ⟨gb459, 2, none⟩ = some (.int .i16 t455) ∧ w'.cell? ⟨gb459, 3, none⟩ = some (.int .i16 t456) ∧ w'.cell? ⟨gb459, 4, none⟩ = some (.int .i16 t457) ∧ w'.cell? ⟨gb459, 5, none⟩ = some (.bool t458) ∧ w'.cell? ⟨gb436, 0, none⟩ = some (.slice A0_0 l0_0.length c0_0) ∧ w'.cell? ⟨gb436, 1, none⟩ = some (.int .i16 a0_1) ∧ w'.cell? ⟨gb436, 2, none⟩ = some (.int .i16 a0_2) ∧ w'.cell? ⟨gb436, 3, none⟩ = some (.int .i16 a0_3) ∧ w'.cell? ⟨gb436, 4, none⟩ = some (.int .i16 a0_4) ∧ w'.cell? ⟨gb436, 5, none⟩ = some (.bool a0_5)) (ds := []) #[false, false, false, false, false] (by kernel_rfl) rfl rfl ⟨(blk_cell BK459.out 0).trans rfl, (blk_cell BK459.out 1).trans rfl, (blk_cell BK459.out 2).trans rfl, (blk_cell BK459.out 3).trans rfl, (blk_cell BK459.out 4).trans rfl, (blk_cell BK459.out 5).trans rfl, (blk_cell BK436.out 0).trans rfl, (blk_cell BK436.out 1).trans rfl, (blk_cell BK436.out 2).trans rfl, (blk_cell BK436.out 3).trans rfl, (blk_cell BK436.out 4).trans rfl, (blk_cell BK436.out 5).trans rfl⟩ (fun hHeld => ?_)
       generalize wc.drew = w56 at HO_9 HO_460000 BK436 BK459 HB hHeld ⊢
       refine take_ (i := 0) (N := some 46) (v := ?_) (a' := ?_) #[true, false, false, false, false] rfl rfl (by kernel_rfl) (fun _ _ _ h => h) (Or.inl ⟨by rfl, ?_⟩) hHeld ?_ ?_
       rotate_left
       ·rintro w' ⟨s0, s1, s2, s3, s4, s5, s6, s7, s8, s9, s10, s11⟩
        go_simp
        with_reducible rfl
       rotate_left
       ·simp only [Act.put, List.setIfInBounds_toArray, List.set_cons_zero, List.set_cons_succ, i64_w, i32_w]
        rfl
       refine take_ (i := 1) (N := some 47) (v := ?_) (a' := ?_) #[true, true, false, false, false] rfl rfl (by kernel_rfl) (fun _ _ _ h => h) (Or.inl ⟨by rfl, ?_⟩) hHeld ?_ ?_
       rotate_left
       ·rintro w' ⟨s0, s1, s2, s3, s4, s5, s6, s7, s8, s9, s10, s11⟩
        go_simp
        with_reducible rfl
       rotate_left
       ·simp only [Act.put, List.setIfInBounds_toArray, List.set_cons_zero, List.set_cons_succ, i64_w, i32_w]
        rfl
       refine one_ (i := 2) (N := some 48) #[true, true, true, false, false] rfl rfl (by kernel_rfl) (by decide) (fun K hK => ?_)
       refine goes_ Try.func18 (by kernel_rfl) rfl #[.agg #[.slice A0_0 l0_0.length c0_0, .int .i16 a0_1, .int .i16 a0_2, .int .i16 a0_3, .int .i16 a0_4, .bool a0_5]] (by rfl) rfl rfl arg_ ?_
       with_reducible refine (laws_toPuzzle.calls kj15 _ _ l0_0 a0_1 a0_2 a0_3 a0_4 a0_5 t465 t468 t469 t470 t471 t472 _ ?side1 ?side2 A38.out).mono ?_
       (case side1 => repeat (first | exact (Kd.C_below HR0_0.out HB.out) | (with_reducible refine Kd.C_alloc ?_ _) | (with_reducible refine Kd.C_drewN ?_ _) | (with_reducible refine Kd.C_drew ?_)))
       (case side2 => exact HC0_0.out)
       rintro e w57 ⟨v466, rfl, ho0, hb⟩
       refine ⟨_, rfl, ?_⟩
       have n0_ := A_ (Kd.R_elder' (pr_ HO_9) (Kd.R_base ho0) hb)
       have n1_ := A_ (Kd.R_elder' (pr_ HO_460000) (Kd.R_base ho0) hb)
       have n2_ := A_ (Kd.R_lower (Kd.R_new' (Kd.R_new' ho0 (Kd.R_lt (pr_ HO_9))) (Kd.R_lt (pr_ HO_460000))) (below_size (bl_ HB)))
       have n3_ := A_ (blk_below (pl_ BK436) hb)
       have n4_ := A_ (blk_below (pl_ BK459) hb)
       have n5_ := A_ (below_step (bl_ HB) hb)
       clear HO_9
       clear HO_460000
       clear BK436
       clear BK459
       clear HB
       have HO_9 := n0_
       have HO_460000 := n1_
       have HO467 := n2_
       have BK436 := n3_
       have BK459 := n4_
       have HB := n5_
       clear n0_ n1_ n2_ n3_ n4_ n5_
       (try clear hb)
       (try clear hb2)
       (try clear hk)
       (try clear hi)
       (try clear ho0)
       obtain ⟨Ao58, co58, eo58⟩ := Kd.R_slice HO467.out
       (first | subst eo58 | (injection eo58 with f1_ f2_ f3_; have f4_ := f1_.symm; have f5_ := f3_.symm; clear f1_ f2_ f3_; subst f4_; subst f5_))
       refine hK.out _ _ ⟨(blk_cell BK459.out 0).trans rfl, (blk_cell BK459.out 1).trans rfl, (blk_cell BK459.out 2).trans rfl, (blk_cell BK459.out 3).trans rfl, (blk_cell BK459.out 4).trans rfl, (blk_cell BK459.out 5).trans rfl, (blk_cell BK436.out 0).trans rfl, (blk_cell BK436.out 1).trans rfl, (blk_cell BK436.out 2).trans rfl, (blk_cell BK436.out 3).trans rfl, (blk_cell BK436.out 4).trans rfl, (blk_cell BK436.out 5).trans rfl⟩ (fun hHeld => ?_)
       clear hK K
       refine norm_ (a' := ?_) ?_ ?_
       rotate_left
       ·show Act.put _ (some 48) _ = _
        simp only [Act.put, List.setIfInBounds_toArray, List.set_cons_zero, List.set_cons_succ, i64_w, i32_w]
        rfl
       refine one_ (i := 3) (N := some 49) #[true, true, true, true, false] rfl rfl (by kernel_rfl) (by decide) (fun K hK => ?_)
       refine goes_ Try.func21 (by kernel_rfl) rfl #[.agg #[.slice Ao29 t451.length co29, .int .i16 t454, .int .i16 t455, .int .i16 t456, .int .i16 t457, .bool t458], .agg #[.slice Ao58 t465.length co58, .int .i16 t468, .int .i16 t469, .int .i16 t470, .int .i16 t471, .bool t472]] (by rfl) rfl rfl arg_ ?_
       with_reducible refine (laws_eqPuzzle.calls kj15 _ _ t451 t454 t455 t456 t457 t458 _ _ t465 t468 t469 t470 t471 t472 false _ ?side1 ?side2 ?side3 ?side4 A39.out).mono ?_
       (case side1 => repeat (first | exact (Kd.R_reads' HO_460000.out).2.2 | (with_reducible refine Kd.C_alloc ?_ _) | (with_reducible refine Kd.C_drewN ?_ _) | (with_reducible refine Kd.C_drew ?_)))
       (case side2 => exact (Kd.R_reads' HO_460000.out).2.1)
       (case side3 => repeat (first | exact (Kd.R_reads' HO467.out).2.2 | (with_reducible refine Kd.C_alloc ?_ _) | (with_reducible refine Kd.C_drewN ?_ _) | (with_reducible refine Kd.C_drew ?_)))
       (case side4 => exact (Kd.R_reads' HO467.out).2.1)
       rintro e w59 ⟨rfl, hb⟩
       refine ⟨_, rfl, ?_⟩
       have n0_ := A_ (Kd.R_below (pr_ HO_9) hb)
       have n1_ := A_ (Kd.R_below (pr_ HO_460000) hb)
       have n2_ := A_ (Kd.R_below (pr_ HO467) hb)
       have n3_ := A_ (blk_below (pl_ BK436) hb)
       have n4_ := A_ (blk_below (pl_ BK459) hb)
       have n5_ := A_ (below_step (bl_ HB) hb)
       clear HO_9
       clear HO_460000
       clear HO467
       clear BK436
       clear BK459
       clear HB
       have HO_9 := n0_
       have HO_460000 := n1_
       have HO467 := n2_
       have BK436 := n3_
       have BK459 := n4_
       have HB := n5_
       clear n0_ n1_ n2_ n3_ n4_ n5_
       (try clear hb)
       (try clear hb2)
       (try clear hk)
       (try clear hi)
       refine hK.out _ _ ⟨(blk_cell BK459.out 0).trans rfl, (blk_cell BK459.out 1).trans rfl, (blk_cell BK459.out 2).trans rfl, (blk_cell BK459.out 3).trans rfl, (blk_cell BK459.out 4).trans rfl, (blk_cell BK459.out 5).trans rfl, (blk_cell BK436.out 0).trans rfl, (blk_cell BK436.out 1).trans rfl, (blk_cell BK436.out 2).trans rfl, (blk_cell BK436.out 3).trans rfl, (blk_cell BK436.out 4).trans rfl, (blk_cell BK436.out 5).trans rfl⟩ (fun hHeld => ?_)
       clear hK K
       refine norm_ (a' := ?_) ?_ ?_
       rotate_left
       ·show Act.put _ (some 49) _ = _
        simp only [Act.put, List.setIfInBounds_toArray, List.set_cons_zero, List.set_cons_succ, i64_w, i32_w]
        rfl
       refine pure_ (i := 4) (N := some 50) (v := ?_) (a' := ?_) #[true, true, true, true, true] rfl rfl (by kernel_rfl) (fun _ _ _ h => h) (Or.inl ⟨by rfl, ?_⟩) ?_ ?_
       rotate_left
       ·intro w'
        go_simp
        with_reducible rfl
       rotate_left
       ·simp only [Act.put, List.setIfInBounds_toArray, List.set_cons_zero, List.set_cons_succ, i64_w, i32_w]
        rfl
       refine done_ (by kernel_rfl) ?_
       try go_wp2
       go_ret
       exact ⟨by first | rfl | (simp [errW_none, errW_some] <;> rfl) | (simp [*, errW_none, errW_some] <;> rfl), bl_ HB⟩

end Go.Proofs.Ytodmfjophjhbeaa.M
