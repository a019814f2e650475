-- By this seat's own program over the kit's printer (arrays, functions told by hand); nothing of it is trusted: the kernel checks it.
import Derived.Test.YtodmfjophjhbeaaMx0
import Derived.Test.YtodmfjophjhbeaaMx3
import Derived.Test.YtodmfjophjhbeaaMx4
import Derived.Test.YtodmfjophjhbeaaMx5
import Derived.Test.YtodmfjophjhbeaaMx43
namespace Go.Proofs.Ytodmfjophjhbeaa.M
open Go.RowKit Go.Proofs.YtodmfjophjhbeaaW.PrintWords Go.Proofs.YtodmfjophjhbeaaW.PrintLast Go.Proofs.YtodmfjophjhbeaaW.PrintMore
attribute [local go_sem] max2_int min2_int max_two min_two max_three min_three max_four min_four   -- for this text's walks alone
set_option linter.unusedVariables false
set_option linter.unusedSimpArgs false

/-! ### laws_FnExactFirstBroken: function 15 -/
def laws_FnExactFirstBroken.j0 : Nat → List Int → List Int → Bool → List Int → Int → Int → Int → Int → Bool → List Int → Int → Int → Int → Int → Bool → Option (Bool)
 | 0, _, _, _, _, _, _, _, _, _, _, _, _, _, _, _ => none
 | k + 1, x1, x9, x45, x485000, x485001, x485002, x485003, x485004, x485005, x508000, x508001, x508002, x508003, x508004, x508005 => if x45 = true then (some false) else ((laws_toPuzzle.f k x485000 x485001 x485002 x485003 x485004 x485005).bind fun bt513 => ((laws_eqPuzzle.f k x508000 x508001 x508002 x508003 x508004 x508005 bt513.1 bt513.2.1 bt513.2.2.1 bt513.2.2.2.1 bt513.2.2.2.2.1 bt513.2.2.2.2.2).bind fun t521 => (if t521 = true then ((laws_toInt16S.f k x1).bind fun t522 => ((laws_eqInt16S.f k x9 t522).bind fun t525 => (if t525 = true then (some true) else (some false)))) else (some false))))
def laws_FnExactFirstBroken.f (k : Nat) (l0_0 : List Int) (a0_1 : Int) (a0_2 : Int) (a0_3 : Int) (a0_4 : Int) (a0_5 : Bool) (l1 : List Int) : Option (Bool) := if (l1.length : Int) > 1048576 then (some true) else ((laws_szPuzzle.f l0_0 a0_1 a0_2 a0_3 a0_4 a0_5 1048576).bind fun t485 => (if t485 < 0 then (some true) else ((laws_toPuzzle.f k l0_0 a0_1 a0_2 a0_3 a0_4 a0_5).bind fun bt486 => ((laws_toInt16S.f k l1).bind fun t494 => ((spec_FirstBroken.f k bt486.1 bt486.2.1 bt486.2.2.1 bt486.2.2.2.1 bt486.2.2.2.2.1 bt486.2.2.2.2.2 t494).bind fun bt497 => ((laws_toPuzzle.f k l0_0 a0_1 a0_2 a0_3 a0_4 a0_5).bind fun bt499 => ((laws_toInt16S.f k l1).bind fun t508 => ((impl_FirstBroken.f k bt499.1 bt499.2.1 bt499.2.2.1 bt499.2.2.2.1 bt499.2.2.2.2.1 bt499.2.2.2.2.2 t508).bind fun bt511 => (if bt511.1 = bt497.1 then (laws_FnExactFirstBroken.j0 k l1 t508 (bt511.2 != bt497.2) l0_0 a0_1 a0_2 a0_3 a0_4 a0_5 bt499.1 bt499.2.1 bt499.2.2.1 bt499.2.2.2.1 bt499.2.2.2.2.1 bt499.2.2.2.2.2) else (laws_FnExactFirstBroken.j0 k l1 t508 true l0_0 a0_1 a0_2 a0_3 a0_4 a0_5 bt499.1 bt499.2.1 bt499.2.2.1 bt499.2.2.2.1 bt499.2.2.2.2.1 bt499.2.2.2.2.2))))))))))
theorem laws_FnExactFirstBroken.mono_l : ∀ k, (∀ y0 y1 y2 y3 y4 y5 y6 y7 y8 y9 y10 y11 y12 y13 y14, LeO (laws_FnExactFirstBroken.j0 k y0 y1 y2 y3 y4 y5 y6 y7 y8 y9 y10 y11 y12 y13 y14) (laws_FnExactFirstBroken.j0 (k + 1) y0 y1 y2 y3 y4 y5 y6 y7 y8 y9 y10 y11 y12 y13 y14))
 | 0 => fun _ _ _ _ _ _ _ _ _ _ _ _ _ _ _ r h => by simp [laws_FnExactFirstBroken.j0] at h
 | k + 1 => by
  have ih0 := laws_FnExactFirstBroken.mono_l k
  ·intro y0 y1 y2 y3 y4 y5 y6 y7 y8 y9 y10 y11 y12 y13 y14
   unfold laws_FnExactFirstBroken.j0
   repeat' first
   | (with_reducible exact ih0 _ _ _ _ _ _ _ _ _ _ _ _ _ _ _)
   | (with_reducible exact impl_FirstBroken.mono _ _ _ _ _ _ _ _)
   | (with_reducible exact laws_eqInt16S.mono _ _ _)
   | (with_reducible exact laws_eqPuzzle.mono _ _ _ _ _ _ _ _ _ _ _ _ _)
   | (with_reducible exact laws_toInt16S.mono _ _)
   | (with_reducible exact laws_toPuzzle.mono _ _ _ _ _ _ _)
   | (with_reducible exact spec_FirstBroken.mono _ _ _ _ _ _ _ _)
   | (with_reducible exact LeO.refl _)
   | (with_reducible exact LeO.none _)
   | (with_reducible refine LeO.ite ?_ ?_)
   | (with_reducible refine LeO.bind ?_ (fun _ => ?_))
   | exact ih0 _ _ _ _ _ _ _ _ _ _ _ _ _ _ _
   | exact impl_FirstBroken.mono _ _ _ _ _ _ _ _
   | exact laws_eqInt16S.mono _ _ _
   | exact laws_eqPuzzle.mono _ _ _ _ _ _ _ _ _ _ _ _ _
   | exact laws_toInt16S.mono _ _
   | exact laws_toPuzzle.mono _ _ _ _ _ _ _
   | exact spec_FirstBroken.mono _ _ _ _ _ _ _ _
   | exact LeO.none _
   | refine LeO.ite ?_ ?_
   | refine LeO.bind ?_ (fun _ => ?_)
theorem laws_FnExactFirstBroken.mono : ∀ a0 a1 a2 a3 a4 a5 a6 k, LeO (laws_FnExactFirstBroken.f k a0 a1 a2 a3 a4 a5 a6) (laws_FnExactFirstBroken.f (k + 1) a0 a1 a2 a3 a4 a5 a6) := by
 intro a0 a1 a2 a3 a4 a5 a6 k
 have ih0 := laws_FnExactFirstBroken.mono_l k
 unfold laws_FnExactFirstBroken.f
 repeat' first
   | (with_reducible exact ih0 _ _ _ _ _ _ _ _ _ _ _ _ _ _ _)
   | (with_reducible exact impl_FirstBroken.mono _ _ _ _ _ _ _ _)
   | (with_reducible exact laws_eqInt16S.mono _ _ _)
   | (with_reducible exact laws_eqPuzzle.mono _ _ _ _ _ _ _ _ _ _ _ _ _)
   | (with_reducible exact laws_toInt16S.mono _ _)
   | (with_reducible exact laws_toPuzzle.mono _ _ _ _ _ _ _)
   | (with_reducible exact spec_FirstBroken.mono _ _ _ _ _ _ _ _)
   | (with_reducible exact LeO.refl _)
   | (with_reducible exact LeO.none _)
   | (with_reducible refine LeO.ite ?_ ?_)
   | (with_reducible refine LeO.bind ?_ (fun _ => ?_))
   | exact ih0 _ _ _ _ _ _ _ _ _ _ _ _ _ _ _
   | exact impl_FirstBroken.mono _ _ _ _ _ _ _ _
   | exact laws_eqInt16S.mono _ _ _
   | exact laws_eqPuzzle.mono _ _ _ _ _ _ _ _ _ _ _ _ _
   | exact laws_toInt16S.mono _ _
   | exact laws_toPuzzle.mono _ _ _ _ _ _ _
   | exact spec_FirstBroken.mono _ _ _ _ _ _ _ _
   | exact LeO.none _
   | refine LeO.ite ?_ ?_
   | refine LeO.bind ?_ (fun _ => ?_)
set_option maxHeartbeats 8000000 in
set_option maxRecDepth 100000 in
theorem laws_FnExactFirstBroken.calls (k : Nat) (A0_0 : Option Addr) (c0_0 : Nat) (l0_0 : List Int) (a0_1 : Int) (a0_2 : Int) (a0_3 : Int) (a0_4 : Int) (a0_5 : Bool) (A1 : Option Addr) (c1 : Nat) (l1 : List Int) (r : Bool) (w : World) (hr0_0 : Kd.C (Kd.int .i16) w A0_0 l0_0.length l0_0) (hc0_0 : l0_0.length ≤ c0_0) (hr1 : Kd.C (Kd.int .i16) w A1 l1.length l1) (hc1 : l1.length ≤ c1) (h : laws_FnExactFirstBroken.f k l0_0 a0_1 a0_2 a0_3 a0_4 a0_5 l1 = some r) :
  Calls Try.prog 15 #[.agg #[.slice A0_0 l0_0.length c0_0, .int .i16 a0_1, .int .i16 a0_2, .int .i16 a0_3, .int .i16 a0_4, .bool a0_5], .slice A1 l1.length c1] w fun e w' => e = .returned (.bool r) ∧ Below w.heap.size w w' := by
 have hu26 := Try.underlying26
 have hu32 := Try.underlying32
 have HR0_0 := Aside0.mk hr0_0
 have HC0_0 := Aside0.mk hc0_0
 clear hr0_0 hc0_0
 have HR1 := Aside0.mk hr1
 have HC1 := Aside0.mk hc1
 clear hr1 hc1
 have HB := A_ (Below.refl w.heap.size w)
 have H : (if (l1.length : Int) > 1048576 then (some true) else ((laws_szPuzzle.f l0_0 a0_1 a0_2 a0_3 a0_4 a0_5 1048576).bind fun t485 => (if t485 < 0 then (some true) else ((laws_toPuzzle.f k l0_0 a0_1 a0_2 a0_3 a0_4 a0_5).bind fun bt486 => ((laws_toInt16S.f k l1).bind fun t494 => ((spec_FirstBroken.f k bt486.1 bt486.2.1 bt486.2.2.1 bt486.2.2.2.1 bt486.2.2.2.2.1 bt486.2.2.2.2.2 t494).bind fun bt497 => ((laws_toPuzzle.f k l0_0 a0_1 a0_2 a0_3 a0_4 a0_5).bind fun bt499 => ((laws_toInt16S.f k l1).bind fun t508 => ((impl_FirstBroken.f k bt499.1 bt499.2.1 bt499.2.2.1 bt499.2.2.2.1 bt499.2.2.2.2.1 bt499.2.2.2.2.2 t508).bind fun bt511 => (if bt511.1 = bt497.1 then (laws_FnExactFirstBroken.j0 k l1 t508 (bt511.2 != bt497.2) l0_0 a0_1 a0_2 a0_3 a0_4 a0_5 bt499.1 bt499.2.1 bt499.2.2.1 bt499.2.2.2.1 bt499.2.2.2.2.1 bt499.2.2.2.2.2) else (laws_FnExactFirstBroken.j0 k l1 t508 true l0_0 a0_1 a0_2 a0_3 a0_4 a0_5 bt499.1 bt499.2.1 bt499.2.2.1 bt499.2.2.2.1 bt499.2.2.2.2.1 bt499.2.2.2.2.2))))))))))) = some r := h
 clear h
 by_cases c3 : (l1.length : Int) > 1048576
 ·rw [if_pos c3] at H
  have c3b0 : decide (1048576 < (l1.length : Int)) = true := decide_eq_true c3
  have c3b1 : decide (1048576 < l1.length) = true := decide_eq_true (by omega)
  clear c3
  obtain rfl := Option.some.inj H
  go_enter Try.func15, Try.ntmps15
  go_wp2_with (first | ((with_reducible refine gate_dst (N := 2) rfl ?_); refine box_event ?hg (N := 2) ?hd (cs := #[.slice A0_0 l0_0.length c0_0, .int .i16 a0_1, .int .i16 a0_2, .int .i16 a0_3, .int .i16 a0_4, .bool a0_5]) (t := 26) ?hr ?_; (case hd => rfl); (case hg => rfl); (case hr => first | (go_simp; done) | (go_simp; rfl)); intro gb484 hg w4 hbox hb; have n0_ := A_ (below_step (bl_ HB) hb); have n1_ := A_ (hbox); have n2_ := A_ ((by rw [hg]; exact (below_size (bl_ HB)) : w.heap.size ≤ gb484)); have n3_ := n2_; clear HB; have HB := n0_; have BK484 := n1_; have GW484 := n2_; have GE484 := n3_; clear n0_ n1_ n2_ n3_; clear hb hbox hg))
  go_ret
  exact ⟨by first | rfl | (simp [errW_none, errW_some] <;> rfl) | (simp [*, errW_none, errW_some] <;> rfl), bl_ HB⟩
 ·rw [if_neg c3] at H
  have c3b0 : decide (1048576 < (l1.length : Int)) = false := decide_eq_false c3
  have c3b1 : decide (1048576 < l1.length) = false := decide_eq_false (by omega)
  clear c3
  replace H := Option.bind_eq_some_iff.mp H
  obtain ⟨t485, A50, H⟩ := H
  replace H : (if t485 < 0 then (some true) else ((laws_toPuzzle.f k l0_0 a0_1 a0_2 a0_3 a0_4 a0_5).bind fun bt486 => ((laws_toInt16S.f k l1).bind fun t494 => ((spec_FirstBroken.f k bt486.1 bt486.2.1 bt486.2.2.1 bt486.2.2.2.1 bt486.2.2.2.2.1 bt486.2.2.2.2.2 t494).bind fun bt497 => ((laws_toPuzzle.f k l0_0 a0_1 a0_2 a0_3 a0_4 a0_5).bind fun bt499 => ((laws_toInt16S.f k l1).bind fun t508 => ((impl_FirstBroken.f k bt499.1 bt499.2.1 bt499.2.2.1 bt499.2.2.2.1 bt499.2.2.2.2.1 bt499.2.2.2.2.2 t508).bind fun bt511 => (if bt511.1 = bt497.1 then (laws_FnExactFirstBroken.j0 k l1 t508 (bt511.2 != bt497.2) l0_0 a0_1 a0_2 a0_3 a0_4 a0_5 bt499.1 bt499.2.1 bt499.2.2.1 bt499.2.2.2.1 bt499.2.2.2.2.1 bt499.2.2.2.2.2) else (laws_FnExactFirstBroken.j0 k l1 t508 true l0_0 a0_1 a0_2 a0_3 a0_4 a0_5 bt499.1 bt499.2.1 bt499.2.2.1 bt499.2.2.2.1 bt499.2.2.2.2.1 bt499.2.2.2.2.2))))))))) = some r := H
  have A5 := Aside0.mk A50
  clear A50
  by_cases c6 : t485 < 0
  ·rw [if_pos c6] at H
   have c6b0 : decide (t485 < 0) = true := decide_eq_true c6
   clear c6
   obtain rfl := Option.some.inj H
   go_enter Try.func15, Try.ntmps15
   go_wp2_with (first | ((with_reducible refine gate_dst (N := 2) rfl ?_); refine box_event ?hg (N := 2) ?hd (cs := #[.slice A0_0 l0_0.length c0_0, .int .i16 a0_1, .int .i16 a0_2, .int .i16 a0_3, .int .i16 a0_4, .bool a0_5]) (t := 26) ?hr ?_; (case hd => rfl); (case hg => rfl); (case hr => first | (go_simp; done) | (go_simp; rfl)); intro gb484 hg w7 hbox hb; have n0_ := A_ (below_step (bl_ HB) hb); have n1_ := A_ (hbox); have n2_ := A_ ((by rw [hg]; exact (below_size (bl_ HB)) : w.heap.size ≤ gb484)); have n3_ := n2_; clear HB; have HB := n0_; have BK484 := n1_; have GW484 := n2_; have GE484 := n3_; clear n0_ n1_ n2_ n3_; clear hb hbox hg; have hcz8_0 : w7.cell? ⟨gb484, 0, none⟩ = some (.slice A0_0 l0_0.length c0_0) := (blk_cell BK484.out 0).trans rfl; have hcz8_1 : w7.cell? ⟨gb484, 1, none⟩ = some (.int .i16 a0_1) := (blk_cell BK484.out 1).trans rfl; have hcz8_2 : w7.cell? ⟨gb484, 2, none⟩ = some (.int .i16 a0_2) := (blk_cell BK484.out 2).trans rfl; have hcz8_3 : w7.cell? ⟨gb484, 3, none⟩ = some (.int .i16 a0_3) := (blk_cell BK484.out 3).trans rfl; have hcz8_4 : w7.cell? ⟨gb484, 4, none⟩ = some (.int .i16 a0_4) := (blk_cell BK484.out 4).trans rfl; have hcz8_5 : w7.cell? ⟨gb484, 5, none⟩ = some (.bool a0_5) := (blk_cell BK484.out 5).trans rfl; have hfz8_0 := blk_frozen BK484.out 0; have hfz8_1 := blk_frozen BK484.out 1; have hfz8_2 := blk_frozen BK484.out 2; have hfz8_3 := blk_frozen BK484.out 3; have hfz8_4 := blk_frozen BK484.out 4; have hfz8_5 := blk_frozen BK484.out 5) | ((with_reducible refine gate_callee (f := 16) rfl ?_); refine goesL_ (some 17) rfl rfl Try.func16 (by kernel_rfl) rfl #[.agg #[.slice A0_0 l0_0.length c0_0, .int .i16 a0_1, .int .i16 a0_2, .int .i16 a0_3, .int .i16 a0_4, .bool a0_5], .int .i64 1048576] rfl arg_ ?_; (with_reducible refine (laws_szPuzzle.calls _ _ l0_0 a0_1 a0_2 a0_3 a0_4 a0_5 1048576 t485 _ ?side1 ?side2 A5.out).mono ?_); (case side1 => repeat (first | exact (Kd.C_below HR0_0.out HB.out) | (with_reducible refine Kd.C_alloc ?_ _) | (with_reducible refine Kd.C_drewN ?_ _) | (with_reducible refine Kd.C_drew ?_))); (case side2 => exact HC0_0.out); rintro e w9 ⟨rfl, hb⟩; refine ⟨_, rfl, ?_⟩; have n0_ := A_ (blk_below (pl_ BK484) hb); have n1_ := A_ (below_step (bl_ HB) hb); clear BK484; clear HB; have BK484 := n0_; have HB := n1_; clear n0_ n1_; (try clear hb); (try clear hb2); (try clear hk); (try clear hi)))
   go_ret
   exact ⟨by first | rfl | (simp [errW_none, errW_some] <;> rfl) | (simp [*, errW_none, errW_some] <;> rfl), bl_ HB⟩
  ·rw [if_neg c6] at H
   have c6b0 : decide (t485 < 0) = false := decide_eq_false c6
   clear c6
   replace H := Option.bind_eq_some_iff.mp H
   obtain ⟨⟨t486, t489, t490, t491, t492, t493⟩, A100, H⟩ := H
   replace H : ((laws_toInt16S.f k l1).bind fun t494 => ((spec_FirstBroken.f k t486 t489 t490 t491 t492 t493 t494).bind fun bt497 => ((laws_toPuzzle.f k l0_0 a0_1 a0_2 a0_3 a0_4 a0_5).bind fun bt499 => ((laws_toInt16S.f k l1).bind fun t508 => ((impl_FirstBroken.f k bt499.1 bt499.2.1 bt499.2.2.1 bt499.2.2.2.1 bt499.2.2.2.2.1 bt499.2.2.2.2.2 t508).bind fun bt511 => (if bt511.1 = bt497.1 then (laws_FnExactFirstBroken.j0 k l1 t508 (bt511.2 != bt497.2) l0_0 a0_1 a0_2 a0_3 a0_4 a0_5 bt499.1 bt499.2.1 bt499.2.2.1 bt499.2.2.2.1 bt499.2.2.2.2.1 bt499.2.2.2.2.2) else (laws_FnExactFirstBroken.j0 k l1 t508 true l0_0 a0_1 a0_2 a0_3 a0_4 a0_5 bt499.1 bt499.2.1 bt499.2.2.1 bt499.2.2.2.1 bt499.2.2.2.2.1 bt499.2.2.2.2.2))))))) = some r := H
   have A10 := Aside0.mk A100
   clear A100
   replace H := Option.bind_eq_some_iff.mp H
   obtain ⟨t494, A110, H⟩ := H
   replace H : ((spec_FirstBroken.f k t486 t489 t490 t491 t492 t493 t494).bind fun bt497 => ((laws_toPuzzle.f k l0_0 a0_1 a0_2 a0_3 a0_4 a0_5).bind fun bt499 => ((laws_toInt16S.f k l1).bind fun t508 => ((impl_FirstBroken.f k bt499.1 bt499.2.1 bt499.2.2.1 bt499.2.2.2.1 bt499.2.2.2.2.1 bt499.2.2.2.2.2 t508).bind fun bt511 => (if bt511.1 = bt497.1 then (laws_FnExactFirstBroken.j0 k l1 t508 (bt511.2 != bt497.2) l0_0 a0_1 a0_2 a0_3 a0_4 a0_5 bt499.1 bt499.2.1 bt499.2.2.1 bt499.2.2.2.1 bt499.2.2.2.2.1 bt499.2.2.2.2.2) else (laws_FnExactFirstBroken.j0 k l1 t508 true l0_0 a0_1 a0_2 a0_3 a0_4 a0_5 bt499.1 bt499.2.1 bt499.2.2.1 bt499.2.2.2.1 bt499.2.2.2.2.1 bt499.2.2.2.2.2)))))) = some r := H
   have A11 := Aside0.mk A110
   clear A110
   replace H := Option.bind_eq_some_iff.mp H
   obtain ⟨⟨t497, t498⟩, A120, H⟩ := H
   replace H : ((laws_toPuzzle.f k l0_0 a0_1 a0_2 a0_3 a0_4 a0_5).bind fun bt499 => ((laws_toInt16S.f k l1).bind fun t508 => ((impl_FirstBroken.f k bt499.1 bt499.2.1 bt499.2.2.1 bt499.2.2.2.1 bt499.2.2.2.2.1 bt499.2.2.2.2.2 t508).bind fun bt511 => (if bt511.1 = t497 then (laws_FnExactFirstBroken.j0 k l1 t508 (bt511.2 != t498) l0_0 a0_1 a0_2 a0_3 a0_4 a0_5 bt499.1 bt499.2.1 bt499.2.2.1 bt499.2.2.2.1 bt499.2.2.2.2.1 bt499.2.2.2.2.2) else (laws_FnExactFirstBroken.j0 k l1 t508 true l0_0 a0_1 a0_2 a0_3 a0_4 a0_5 bt499.1 bt499.2.1 bt499.2.2.1 bt499.2.2.2.1 bt499.2.2.2.2.1 bt499.2.2.2.2.2))))) = some r := H
   have A12 := Aside0.mk A120
   clear A120
   replace H := Option.bind_eq_some_iff.mp H
   obtain ⟨⟨t499, t502, t503, t504, t505, t506⟩, A130, H⟩ := H
   replace H : ((laws_toInt16S.f k l1).bind fun t508 => ((impl_FirstBroken.f k t499 t502 t503 t504 t505 t506 t508).bind fun bt511 => (if bt511.1 = t497 then (laws_FnExactFirstBroken.j0 k l1 t508 (bt511.2 != t498) l0_0 a0_1 a0_2 a0_3 a0_4 a0_5 t499 t502 t503 t504 t505 t506) else (laws_FnExactFirstBroken.j0 k l1 t508 true l0_0 a0_1 a0_2 a0_3 a0_4 a0_5 t499 t502 t503 t504 t505 t506)))) = some r := H
   have A13 := Aside0.mk A130
   clear A130
   replace H := Option.bind_eq_some_iff.mp H
   obtain ⟨t508, A140, H⟩ := H
   replace H : ((impl_FirstBroken.f k t499 t502 t503 t504 t505 t506 t508).bind fun bt511 => (if bt511.1 = t497 then (laws_FnExactFirstBroken.j0 k l1 t508 (bt511.2 != t498) l0_0 a0_1 a0_2 a0_3 a0_4 a0_5 t499 t502 t503 t504 t505 t506) else (laws_FnExactFirstBroken.j0 k l1 t508 true l0_0 a0_1 a0_2 a0_3 a0_4 a0_5 t499 t502 t503 t504 t505 t506))) = some r := H
   have A14 := Aside0.mk A140
   clear A140
   replace H := Option.bind_eq_some_iff.mp H
   obtain ⟨⟨t511, t512⟩, A150, H⟩ := H
   replace H : (if t511 = t497 then (laws_FnExactFirstBroken.j0 k l1 t508 (t512 != t498) l0_0 a0_1 a0_2 a0_3 a0_4 a0_5 t499 t502 t503 t504 t505 t506) else (laws_FnExactFirstBroken.j0 k l1 t508 true l0_0 a0_1 a0_2 a0_3 a0_4 a0_5 t499 t502 t503 t504 t505 t506)) = some r := H
   have A15 := Aside0.mk A150
   clear A150
   have HC16 := Aside0.mk H
   clear H
   go_enter Try.func15, Try.ntmps15
   go_upto_region 11 with (first | ((with_reducible refine gate_dst (N := 2) rfl ?_); refine box_event ?hg (N := 2) ?hd (cs := #[.slice A0_0 l0_0.length c0_0, .int .i16 a0_1, .int .i16 a0_2, .int .i16 a0_3, .int .i16 a0_4, .bool a0_5]) (t := 26) ?hr ?_; (case hd => rfl); (case hg => rfl); (case hr => first | (go_simp; done) | (go_simp; rfl)); intro gb484 hg w17 hbox hb; have n0_ := A_ (below_step (bl_ HB) hb); have n1_ := A_ (hbox); have n2_ := A_ ((by rw [hg]; exact (below_size (bl_ HB)) : w.heap.size ≤ gb484)); have n3_ := n2_; clear HB; have HB := n0_; have BK484 := n1_; have GW484 := n2_; have GE484 := n3_; clear n0_ n1_ n2_ n3_; clear hb hbox hg; have hcz18_0 : w17.cell? ⟨gb484, 0, none⟩ = some (.slice A0_0 l0_0.length c0_0) := (blk_cell BK484.out 0).trans rfl; have hcz18_1 : w17.cell? ⟨gb484, 1, none⟩ = some (.int .i16 a0_1) := (blk_cell BK484.out 1).trans rfl; have hcz18_2 : w17.cell? ⟨gb484, 2, none⟩ = some (.int .i16 a0_2) := (blk_cell BK484.out 2).trans rfl; have hcz18_3 : w17.cell? ⟨gb484, 3, none⟩ = some (.int .i16 a0_3) := (blk_cell BK484.out 3).trans rfl; have hcz18_4 : w17.cell? ⟨gb484, 4, none⟩ = some (.int .i16 a0_4) := (blk_cell BK484.out 4).trans rfl; have hcz18_5 : w17.cell? ⟨gb484, 5, none⟩ = some (.bool a0_5) := (blk_cell BK484.out 5).trans rfl; have hfz18_0 := blk_frozen BK484.out 0; have hfz18_1 := blk_frozen BK484.out 1; have hfz18_2 := blk_frozen BK484.out 2; have hfz18_3 := blk_frozen BK484.out 3; have hfz18_4 := blk_frozen BK484.out 4; have hfz18_5 := blk_frozen BK484.out 5) | ((with_reducible refine gate_callee (f := 16) rfl ?_); refine goesL_ (some 17) rfl rfl Try.func16 (by kernel_rfl) rfl #[.agg #[.slice A0_0 l0_0.length c0_0, .int .i16 a0_1, .int .i16 a0_2, .int .i16 a0_3, .int .i16 a0_4, .bool a0_5], .int .i64 1048576] rfl arg_ ?_; (with_reducible refine (laws_szPuzzle.calls _ _ l0_0 a0_1 a0_2 a0_3 a0_4 a0_5 1048576 t485 _ ?side1 ?side2 A5.out).mono ?_); (case side1 => repeat (first | exact (Kd.C_below HR0_0.out HB.out) | (with_reducible refine Kd.C_alloc ?_ _) | (with_reducible refine Kd.C_drewN ?_ _) | (with_reducible refine Kd.C_drew ?_))); (case side2 => exact HC0_0.out); rintro e w19 ⟨rfl, hb⟩; refine ⟨_, rfl, ?_⟩; have n0_ := A_ (blk_below (pl_ BK484) hb); have n1_ := A_ (below_step (bl_ HB) hb); clear BK484; clear HB; have BK484 := n0_; have HB := n1_; clear n0_ n1_; (try clear hb); (try clear hb2); (try clear hk); (try clear hi); have hcz20_0 : w19.cell? ⟨gb484, 0, none⟩ = some (.slice A0_0 l0_0.length c0_0) := (blk_cell BK484.out 0).trans rfl; have hcz20_1 : w19.cell? ⟨gb484, 1, none⟩ = some (.int .i16 a0_1) := (blk_cell BK484.out 1).trans rfl; have hcz20_2 : w19.cell? ⟨gb484, 2, none⟩ = some (.int .i16 a0_2) := (blk_cell BK484.out 2).trans rfl; have hcz20_3 : w19.cell? ⟨gb484, 3, none⟩ = some (.int .i16 a0_3) := (blk_cell BK484.out 3).trans rfl; have hcz20_4 : w19.cell? ⟨gb484, 4, none⟩ = some (.int .i16 a0_4) := (blk_cell BK484.out 4).trans rfl; have hcz20_5 : w19.cell? ⟨gb484, 5, none⟩ = some (.bool a0_5) := (blk_cell BK484.out 5).trans rfl; have hfz20_0 := blk_frozen BK484.out 0; have hfz20_1 := blk_frozen BK484.out 1; have hfz20_2 := blk_frozen BK484.out 2; have hfz20_3 := blk_frozen BK484.out 3; have hfz20_4 := blk_frozen BK484.out 4; have hfz20_5 := blk_frozen BK484.out 5) | ((with_reducible refine gate_callee (f := 18) rfl ?_); refine goesL_ (some 22) rfl rfl Try.func18 (by kernel_rfl) rfl #[.agg #[.slice A0_0 l0_0.length c0_0, .int .i16 a0_1, .int .i16 a0_2, .int .i16 a0_3, .int .i16 a0_4, .bool a0_5]] rfl arg_ ?_; (with_reducible refine (laws_toPuzzle.calls k _ _ l0_0 a0_1 a0_2 a0_3 a0_4 a0_5 t486 t489 t490 t491 t492 t493 _ ?side1 ?side2 A10.out).mono ?_); (case side1 => repeat (first | exact (Kd.C_below HR0_0.out HB.out) | (with_reducible refine Kd.C_alloc ?_ _) | (with_reducible refine Kd.C_drewN ?_ _) | (with_reducible refine Kd.C_drew ?_))); (case side2 => exact HC0_0.out); rintro e w21 ⟨v487, rfl, ho0, hb⟩; refine ⟨_, rfl, ?_⟩; have n0_ := A_ (Kd.R_lower ho0 (below_size (bl_ HB))); have n1_ := A_ (blk_below (pl_ BK484) hb); have n2_ := A_ (below_step (bl_ HB) hb); clear BK484; clear HB; have HO488 := n0_; have BK484 := n1_; have HB := n2_; clear n0_ n1_ n2_; (try clear hb); (try clear hb2); (try clear hk); (try clear hi); (try clear ho0)) | ((with_reducible refine gate_callee (f := 19) rfl ?_); refine goesL_ (some 24) rfl rfl Try.func19 (by kernel_rfl) rfl #[.slice A1 l1.length c1] rfl arg_ ?_; (with_reducible refine (laws_toInt16S.calls k _ _ l1 t494 _ ?side1 ?side2 A11.out).mono ?_); (case side1 => repeat (first | exact (Kd.C_below HR1.out HB.out) | (with_reducible refine Kd.C_alloc ?_ _) | (with_reducible refine Kd.C_drewN ?_ _) | (with_reducible refine Kd.C_drew ?_))); (case side2 => exact HC1.out); rintro e w22 ⟨v495, rfl, ho0, hb⟩; refine ⟨_, rfl, ?_⟩; have n0_ := A_ (Kd.R_elder' (pr_ HO488) (Kd.R_base ho0) hb); have n1_ := A_ (Kd.R_lower (Kd.R_new' ho0 (Kd.R_lt (pr_ HO488))) (below_size (bl_ HB))); have n2_ := A_ (blk_below (pl_ BK484) hb); have n3_ := A_ (below_step (bl_ HB) hb); clear HO488; clear BK484; clear HB; have HO488 := n0_; have HO496 := n1_; have BK484 := n2_; have HB := n3_; clear n0_ n1_ n2_ n3_; (try clear hb); (try clear hb2); (try clear hk); (try clear hi); (try clear ho0); obtain ⟨Ao23, co23, eo23⟩ := Kd.R_slice HO488.out; subst eo23; obtain ⟨Ao24, co24, eo24⟩ := Kd.R_slice HO496.out; subst eo24) | ((with_reducible refine gate_callee (f := 54) rfl ?_); refine goesL_ (some 25) rfl rfl Try.func54 (by kernel_rfl) rfl #[.agg #[.slice Ao23 t486.length co23, .int .i16 t489, .int .i16 t490, .int .i16 t491, .int .i16 t492, .bool t493], .slice Ao24 t494.length co24] rfl arg_ ?_; (with_reducible refine (spec_FirstBroken.calls k _ _ t486 t489 t490 t491 t492 t493 _ _ t494 t497 t498 _ ?side1 ?side2 ?side3 ?side4 A12.out).mono ?_); (case side1 => repeat (first | exact (Kd.R_reads' HO488.out).2.2 | (with_reducible refine Kd.C_alloc ?_ _) | (with_reducible refine Kd.C_drewN ?_ _) | (with_reducible refine Kd.C_drew ?_))); (case side2 => exact (Kd.R_reads' HO488.out).2.1); (case side3 => repeat (first | exact (Kd.R_reads' HO496.out).2.2 | (with_reducible refine Kd.C_alloc ?_ _) | (with_reducible refine Kd.C_drewN ?_ _) | (with_reducible refine Kd.C_drew ?_))); (case side4 => exact (Kd.R_reads' HO496.out).2.1); rintro e w25 ⟨rfl, hb⟩; refine ⟨_, rfl, ?_⟩; have n0_ := A_ (Kd.R_below (pr_ HO488) hb); have n1_ := A_ (Kd.R_below (pr_ HO496) hb); have n2_ := A_ (blk_below (pl_ BK484) hb); have n3_ := A_ (below_step (bl_ HB) hb); clear HO488; clear HO496; clear BK484; clear HB; have HO488 := n0_; have HO496 := n1_; have BK484 := n2_; have HB := n3_; clear n0_ n1_ n2_ n3_; (try clear hb); (try clear hb2); (try clear hk); (try clear hi); have hcz26_0 : w25.cell? ⟨gb484, 0, none⟩ = some (.slice A0_0 l0_0.length c0_0) := (blk_cell BK484.out 0).trans rfl; have hcz26_1 : w25.cell? ⟨gb484, 1, none⟩ = some (.int .i16 a0_1) := (blk_cell BK484.out 1).trans rfl; have hcz26_2 : w25.cell? ⟨gb484, 2, none⟩ = some (.int .i16 a0_2) := (blk_cell BK484.out 2).trans rfl; have hcz26_3 : w25.cell? ⟨gb484, 3, none⟩ = some (.int .i16 a0_3) := (blk_cell BK484.out 3).trans rfl; have hcz26_4 : w25.cell? ⟨gb484, 4, none⟩ = some (.int .i16 a0_4) := (blk_cell BK484.out 4).trans rfl; have hcz26_5 : w25.cell? ⟨gb484, 5, none⟩ = some (.bool a0_5) := (blk_cell BK484.out 5).trans rfl; have hfz26_0 := blk_frozen BK484.out 0; have hfz26_1 := blk_frozen BK484.out 1; have hfz26_2 := blk_frozen BK484.out 2; have hfz26_3 := blk_frozen BK484.out 3; have hfz26_4 := blk_frozen BK484.out 4; have hfz26_5 := blk_frozen BK484.out 5) | ((with_reducible refine gate_callee (f := 18) rfl ?_); refine goesL_ (some 29) rfl rfl Try.func18 (by kernel_rfl) rfl #[.agg #[.slice A0_0 l0_0.length c0_0, .int .i16 a0_1, .int .i16 a0_2, .int .i16 a0_3, .int .i16 a0_4, .bool a0_5]] rfl arg_ ?_; (with_reducible refine (laws_toPuzzle.calls k _ _ l0_0 a0_1 a0_2 a0_3 a0_4 a0_5 t499 t502 t503 t504 t505 t506 _ ?side1 ?side2 A13.out).mono ?_); (case side1 => repeat (first | exact (Kd.C_below HR0_0.out HB.out) | (with_reducible refine Kd.C_alloc ?_ _) | (with_reducible refine Kd.C_drewN ?_ _) | (with_reducible refine Kd.C_drew ?_))); (case side2 => exact HC0_0.out); rintro e w27 ⟨v500, rfl, ho0, hb⟩; refine ⟨_, rfl, ?_⟩; have n0_ := A_ (Kd.R_elder' (pr_ HO488) (Kd.R_base ho0) hb); have n1_ := A_ (Kd.R_elder' (pr_ HO496) (Kd.R_base ho0) hb); have n2_ := A_ (Kd.R_lower (Kd.R_new' (Kd.R_new' ho0 (Kd.R_lt (pr_ HO488))) (Kd.R_lt (pr_ HO496))) (below_size (bl_ HB))); have n3_ := A_ (blk_below (pl_ BK484) hb); have n4_ := A_ (below_step (bl_ HB) hb); clear HO488; clear HO496; clear BK484; clear HB; have HO488 := n0_; have HO496 := n1_; have HO501 := n2_; have BK484 := n3_; have HB := n4_; clear n0_ n1_ n2_ n3_ n4_; (try clear hb); (try clear hb2); (try clear hk); (try clear hi); (try clear ho0)) | ((with_reducible refine gate_dst (N := 8) rfl ?_); refine box_event ?hg (N := 8) ?hd (cs := #[.slice none 0 0, .int .i16 0, .int .i16 0, .int .i16 0, .int .i16 0, .bool false]) (t := 32) ?hr ?_; (case hd => rfl); (case hg => rfl); (case hr => first | (go_simp; done) | (go_simp; rfl)); intro gb507 hg w28 hbox hb; have n0_ := A_ (Kd.R_below (pr_ HO488) hb); have n1_ := A_ (Kd.R_below (pr_ HO496) hb); have n2_ := A_ (Kd.R_below (pr_ HO501) hb); have n3_ := A_ (blk_below (pl_ BK484) hb); have n4_ := A_ (below_step (bl_ HB) hb); have n5_ := A_ (hbox); have n6_ := A_ ((by rw [hg]; exact (below_size (bl_ HB)) : w.heap.size ≤ gb507)); have n7_ := n6_; have n8_ := A_ ((by rw [hg]; exact Nat.ne_of_lt (blk_lt (pl_ BK484)) : gb484 ≠ gb507)); have n9_ := Aside0.mk n8_.out.symm; clear HO488; clear HO496; clear HO501; clear BK484; clear HB; have HO488 := n0_; have HO496 := n1_; have HO501 := n2_; have BK484 := n3_; have HB := n4_; have BK507 := n5_; have GW507 := n6_; have GE507 := n7_; have NB484_507 := n8_; have NB507_484 := n9_; clear n0_ n1_ n2_ n3_ n4_ n5_ n6_ n7_ n8_ n9_; clear hb hbox hg; obtain ⟨Ao29, co29, eo29⟩ := Kd.R_slice HO501.out; subst eo29; have hnb30 := NB507_484.out; have hnc30 := NB484_507.out; have hcz31_0 : w28.cell? ⟨gb507, 0, none⟩ = some (.slice none 0 0) := (blk_cell BK507.out 0).trans rfl; have hcz31_1 : w28.cell? ⟨gb507, 1, none⟩ = some (.int .i16 0) := (blk_cell BK507.out 1).trans rfl; have hcz31_2 : w28.cell? ⟨gb507, 2, none⟩ = some (.int .i16 0) := (blk_cell BK507.out 2).trans rfl; have hcz31_3 : w28.cell? ⟨gb507, 3, none⟩ = some (.int .i16 0) := (blk_cell BK507.out 3).trans rfl; have hcz31_4 : w28.cell? ⟨gb507, 4, none⟩ = some (.int .i16 0) := (blk_cell BK507.out 4).trans rfl; have hcz31_5 : w28.cell? ⟨gb507, 5, none⟩ = some (.bool false) := (blk_cell BK507.out 5).trans rfl; have hfz31_0 := blk_frozen BK507.out 0; have hfz31_1 := blk_frozen BK507.out 1; have hfz31_2 := blk_frozen BK507.out 2; have hfz31_3 := blk_frozen BK507.out 3; have hfz31_4 := blk_frozen BK507.out 4; have hfz31_5 := blk_frozen BK507.out 5) | ((with_reducible refine gate_callee (f := 19) rfl ?_); refine goesL_ (some 31) rfl rfl Try.func19 (by kernel_rfl) rfl #[.slice A1 l1.length c1] rfl arg_ ?_; (with_reducible refine (laws_toInt16S.calls k _ _ l1 t508 _ ?side1 ?side2 A14.out).mono ?_); (case side1 => exact Kd.C_below HR1.out (bs_ HB GE507)); (case side2 => exact HC1.out); rintro e w32 ⟨v509, rfl, ho0, hb⟩; refine ⟨_, rfl, ?_⟩; have n0_ := A_ (Kd.R_elder' (by (with_reducible repeat (first | apply Kd.R_alloc | apply Kd.R_drewN | apply Kd.R_drew)); exact (rf6_ HO488 BK507 (by decide))) (Kd.R_base ho0) hb); have n1_ := A_ (Kd.R_elder' (by (with_reducible repeat (first | apply Kd.R_alloc | apply Kd.R_drewN | apply Kd.R_drew)); exact (rf6_ HO496 BK507 (by decide))) (Kd.R_base ho0) hb); have n2_ := A_ (Kd.R_elder' (by (with_reducible repeat (first | apply Kd.R_alloc | apply Kd.R_drewN | apply Kd.R_drew)); exact (rf6_ HO501 BK507 (by decide))) (Kd.R_base ho0) hb); have n3_ := A_ (Kd.R_lower (Kd.R_new' (Kd.R_new' (Kd.R_new' ho0 (Kd.R_lt (by (with_reducible repeat (first | apply Kd.R_alloc | apply Kd.R_drewN | apply Kd.R_drew)); exact (rf6_ HO488 BK507 (by decide))))) (Kd.R_lt (by (with_reducible repeat (first | apply Kd.R_alloc | apply Kd.R_drewN | apply Kd.R_drew)); exact (rf6_ HO496 BK507 (by decide))))) (Kd.R_lt (by (with_reducible repeat (first | apply Kd.R_alloc | apply Kd.R_drewN | apply Kd.R_drew)); exact (rf6_ HO501 BK507 (by decide))))) (below_size (bs_ HB GE507))); have n4_ := A_ (blk_below (g := gb484) (o := .cells #[.slice A0_0 l0_0.length c0_0, .int .i16 a0_1, .int .i16 a0_2, .int .i16 a0_3, .int .i16 a0_4, .bool a0_5] 26 (0, 0)) (pf_ BK484 NB484_507) hb); have n5_ := A_ (blk_below (g := gb507) (o := .cells #[.slice Ao29 t499.length co29, .int .i16 t502, .int .i16 t503, .int .i16 t504, .int .i16 t505, .bool t506] 32 (0, 0)) (by (with_reducible repeat (first | refine blk_drewN ?_ _ | refine blk_drew ?_ | refine blk_alloc ?_ _)); refine blk_put (cs := #[.slice Ao29 t499.length co29, .int .i16 t502, .int .i16 t503, .int .i16 t504, .int .i16 t505, .bool false]) ?_ 5 _ rfl; (with_reducible repeat (first | refine blk_drewN ?_ _ | refine blk_drew ?_ | refine blk_alloc ?_ _)); refine blk_put (cs := #[.slice Ao29 t499.length co29, .int .i16 t502, .int .i16 t503, .int .i16 t504, .int .i16 0, .bool false]) ?_ 4 _ rfl; (with_reducible repeat (first | refine blk_drewN ?_ _ | refine blk_drew ?_ | refine blk_alloc ?_ _)); refine blk_put (cs := #[.slice Ao29 t499.length co29, .int .i16 t502, .int .i16 t503, .int .i16 0, .int .i16 0, .bool false]) ?_ 3 _ rfl; (with_reducible repeat (first | refine blk_drewN ?_ _ | refine blk_drew ?_ | refine blk_alloc ?_ _)); refine blk_put (cs := #[.slice Ao29 t499.length co29, .int .i16 t502, .int .i16 0, .int .i16 0, .int .i16 0, .bool false]) ?_ 2 _ rfl; (with_reducible repeat (first | refine blk_drewN ?_ _ | refine blk_drew ?_ | refine blk_alloc ?_ _)); refine blk_put (cs := #[.slice Ao29 t499.length co29, .int .i16 0, .int .i16 0, .int .i16 0, .int .i16 0, .bool false]) ?_ 1 _ rfl; (with_reducible repeat (first | refine blk_drewN ?_ _ | refine blk_drew ?_ | refine blk_alloc ?_ _)); refine blk_put (cs := #[.slice none 0 0, .int .i16 0, .int .i16 0, .int .i16 0, .int .i16 0, .bool false]) ?_ 0 _ rfl; (with_reducible repeat (first | refine blk_drewN ?_ _ | refine blk_drew ?_ | refine blk_alloc ?_ _)); exact BK507.out) hb); have n6_ := A_ (below_step (bs_ HB GE507) hb); clear HO488; clear HO496; clear HO501; clear BK484; clear BK507; clear HB; have HO488 := n0_; have HO496 := n1_; have HO501 := n2_; have HO510 := n3_; have BK484 := n4_; have BK507 := n5_; have HB := n6_; clear n0_ n1_ n2_ n3_ n4_ n5_ n6_; (try clear hb); (try clear hb2); (try clear hk); (try clear hi); (try clear ho0); have hcz33_0 : w32.cell? ⟨gb507, 0, none⟩ = some (.slice Ao29 t499.length co29) := (blk_cell BK507.out 0).trans rfl; have hcz33_1 : w32.cell? ⟨gb507, 1, none⟩ = some (.int .i16 t502) := (blk_cell BK507.out 1).trans rfl; have hcz33_2 : w32.cell? ⟨gb507, 2, none⟩ = some (.int .i16 t503) := (blk_cell BK507.out 2).trans rfl; have hcz33_3 : w32.cell? ⟨gb507, 3, none⟩ = some (.int .i16 t504) := (blk_cell BK507.out 3).trans rfl; have hcz33_4 : w32.cell? ⟨gb507, 4, none⟩ = some (.int .i16 t505) := (blk_cell BK507.out 4).trans rfl; have hcz33_5 : w32.cell? ⟨gb507, 5, none⟩ = some (.bool t506) := (blk_cell BK507.out 5).trans rfl; have hfz33_0 := blk_frozen BK507.out 0; have hfz33_1 := blk_frozen BK507.out 1; have hfz33_2 := blk_frozen BK507.out 2; have hfz33_3 := blk_frozen BK507.out 3; have hfz33_4 := blk_frozen BK507.out 4; have hfz33_5 := blk_frozen BK507.out 5; obtain ⟨Ao34, co34, eo34⟩ := Kd.R_slice HO510.out; subst eo34) | ((with_reducible refine gate_callee (f := 55) rfl ?_); refine goesL_ (some 35) rfl rfl Try.func55 (by kernel_rfl) rfl #[.agg #[.slice Ao29 t499.length co29, .int .i16 t502, .int .i16 t503, .int .i16 t504, .int .i16 t505, .bool t506], .slice Ao34 t508.length co34] rfl arg_ ?_; (with_reducible refine (impl_FirstBroken.calls k _ _ t499 t502 t503 t504 t505 t506 _ _ t508 t511 t512 _ ?side1 ?side2 ?side3 ?side4 A15.out).mono ?_); (case side1 => repeat (first | exact (Kd.R_reads' HO501.out).2.2 | (with_reducible refine Kd.C_alloc ?_ _) | (with_reducible refine Kd.C_drewN ?_ _) | (with_reducible refine Kd.C_drew ?_))); (case side2 => exact (Kd.R_reads' HO501.out).2.1); (case side3 => repeat (first | exact (Kd.R_reads' HO510.out).2.2 | (with_reducible refine Kd.C_alloc ?_ _) | (with_reducible refine Kd.C_drewN ?_ _) | (with_reducible refine Kd.C_drew ?_))); (case side4 => exact (Kd.R_reads' HO510.out).2.1); rintro e w35 ⟨rfl, hb⟩; refine ⟨_, rfl, ?_⟩; have n0_ := A_ (Kd.R_below (pr_ HO488) hb); have n1_ := A_ (Kd.R_below (pr_ HO496) hb); have n2_ := A_ (Kd.R_below (pr_ HO501) hb); have n3_ := A_ (Kd.R_below (pr_ HO510) hb); have n4_ := A_ (blk_below (pl_ BK484) hb); have n5_ := A_ (blk_below (pl_ BK507) hb); have n6_ := A_ (below_step (bl_ HB) hb); clear HO488; clear HO496; clear HO501; clear HO510; clear BK484; clear BK507; clear HB; have HO488 := n0_; have HO496 := n1_; have HO501 := n2_; have HO510 := n3_; have BK484 := n4_; have BK507 := n5_; have HB := n6_; clear n0_ n1_ n2_ n3_ n4_ n5_ n6_; (try clear hb); (try clear hb2); (try clear hk); (try clear hi)))
   (try simp only [Act.put, List.setIfInBounds_toArray, List.set_cons_zero, List.set_cons_succ])
   go_cut [45] (fun v45 wc => ∃ (kq : Nat) (x45_15 : Bool), v45 = .bool x45_15 ∧ Aside0 (laws_FnExactFirstBroken.j0 kq l1 t508 x45_15 l0_0 a0_1 a0_2 a0_3 a0_4 a0_5 t499 t502 t503 t504 t505 t506 = some r) ∧ Aside0 (kq ≤ k) ∧ Aside0 (Kd.R (Kd.int .i16) 23 wc w.heap.size (fun k_ => some k_ ≠ ((.slice Ao29 t499.length co29) : Value).ownBlock) (.slice Ao34 t508.length co34) t508) ∧ Aside0 (Kd.R (Kd.int .i16) 23 wc w.heap.size (fun k_ => some k_ ≠ ((.slice Ao34 t508.length co34) : Value).ownBlock) (.slice Ao29 t499.length co29) t499) ∧ Aside0 (wc.heap[gb484]? = some (.cells #[(.slice A0_0 l0_0.length c0_0), .int .i16 a0_1, .int .i16 a0_2, .int .i16 a0_3, .int .i16 a0_4, .bool a0_5] 26 (0, 0))) ∧ Aside0 (wc.heap[gb507]? = some (.cells #[(.slice Ao29 t499.length co29), .int .i16 t502, .int .i16 t503, .int .i16 t504, .int .i16 t505, .bool t506] 32 (0, 0))) ∧ Aside0 (Below w.heap.size w wc))
   case first =>
    have H := HC16.out
    clear HC16
    by_cases c36 : t511 = t497
    ·rw [if_pos c36] at H
     have c36b0 : (t511 == t497) = true := beq_iff_eq.mpr c36
     have c36b1 : (t511 != t497) = false := bne_eq_false_iff_eq.mpr c36
     clear c36
     (first | rw [c36b0] | (simp only [i64_w, i32_w]; rw [c36b0]) | skip)
     have H' := Aside0.mk H
     clear H
     go_wp2
     go_meet
     case rel => exact ⟨_, ((t512 != t498)), rs_, H', ⟨by first | omega | exact Nat.le_refl _⟩, ⟨by (with_reducible repeat (first | apply Kd.R_alloc | apply Kd.R_drewN | apply Kd.R_drew)); exact Kd.R_mono HO510.out (fun _ hk => hk.2)⟩, ⟨by (with_reducible repeat (first | apply Kd.R_alloc | apply Kd.R_drewN | apply Kd.R_drew)); exact Kd.R_mono HO501.out (fun _ hk => hk.2)⟩, ⟨pl_ BK484⟩, ⟨pl_ BK507⟩, ⟨bl_ HB⟩⟩
    ·rw [if_neg c36] at H
     have c36b0 : (t511 == t497) = false := beq_eq_false_iff_ne.mpr c36
     have c36b1 : (t511 != t497) = true := bne_iff_ne.mpr c36
     (first | rw [c36b0] | (simp only [i64_w, i32_w]; rw [c36b0]) | skip)
     have H' := Aside0.mk H
     clear H
     go_wp2
     go_meet
     case rel => exact ⟨_, (true), rs_, H', ⟨by first | omega | exact Nat.le_refl _⟩, ⟨by (with_reducible repeat (first | apply Kd.R_alloc | apply Kd.R_drewN | apply Kd.R_drew)); exact Kd.R_mono HO510.out (fun _ hk => hk.2)⟩, ⟨by (with_reducible repeat (first | apply Kd.R_alloc | apply Kd.R_drewN | apply Kd.R_drew)); exact Kd.R_mono HO501.out (fun _ hk => hk.2)⟩, ⟨pl_ BK484⟩, ⟨pl_ BK507⟩, ⟨bl_ HB⟩⟩
   case rest =>
    clear HC16
    try clear c1
    try clear p2
    try clear c3
    try clear c3b0
    try clear c3b1
    try clear c5
    try clear c6
    try clear c6b0
    try clear c15
    try clear c16
    try clear c18
    try clear c19
    try clear c30
    try clear c36
    try clear c36b0
    try clear c36b1
    try clear hcz18_0
    try clear hcz18_1
    try clear hcz18_2
    try clear hcz18_3
    try clear hcz18_4
    try clear hcz18_5
    try clear hcz20_0
    try clear hcz20_1
    try clear hcz20_2
    try clear hcz20_3
    try clear hcz20_4
    try clear hcz20_5
    try clear hcz26_0
    try clear hcz26_1
    try clear hcz26_2
    try clear hcz26_3
    try clear hcz26_4
    try clear hcz26_5
    try clear hcz31_0
    try clear hcz31_1
    try clear hcz31_2
    try clear hcz31_3
    try clear hcz31_4
    try clear hcz31_5
    try clear hcz33_0
    try clear hcz33_1
    try clear hcz33_2
    try clear hcz33_3
    try clear hcz33_4
    try clear hcz33_5
    try clear hcz8_0
    try clear hcz8_1
    try clear hcz8_2
    try clear hcz8_3
    try clear hcz8_4
    try clear hcz8_5
    try clear hfz18_0
    try clear hfz18_1
    try clear hfz18_2
    try clear hfz18_3
    try clear hfz18_4
    try clear hfz18_5
    try clear hfz20_0
    try clear hfz20_1
    try clear hfz20_2
    try clear hfz20_3
    try clear hfz20_4
    try clear hfz20_5
    try clear hfz26_0
    try clear hfz26_1
    try clear hfz26_2
    try clear hfz26_3
    try clear hfz26_4
    try clear hfz26_5
    try clear hfz31_0
    try clear hfz31_1
    try clear hfz31_2
    try clear hfz31_3
    try clear hfz31_4
    try clear hfz31_5
    try clear hfz33_0
    try clear hfz33_1
    try clear hfz33_2
    try clear hfz33_3
    try clear hfz33_4
    try clear hfz33_5
    try clear hfz8_0
    try clear hfz8_1
    try clear hfz8_2
    try clear hfz8_3
    try clear hfz8_4
    try clear hfz8_5
    obtain ⟨kq, x45_15, rfl, HA, HJ15, HO_9, HO_508000, BK484, BK507, HB⟩ := hcut
    cases kq with
    | zero => exact absurd HA.out (by simp [laws_FnExactFirstBroken.j0])
    | succ kj15 =>
     have H := HA.out
     clear HA
     simp only [laws_FnExactFirstBroken.j0] at H
     by_cases c37 : x45_15 = true
     ·subst c37
      have H1 : (some false) = some r := by rw [if_pos rfl] at H; exact H
      clear H
      have H := H1
      clear H1
      obtain rfl := Option.some.inj H
      go_wp2
      go_ret
      exact ⟨by first | rfl | (simp [errW_none, errW_some] <;> rfl) | (simp [*, errW_none, errW_some] <;> rfl), bl_ HB⟩
     ·replace c37 := Bool.eq_false_iff.mpr c37
      subst c37
      have H1 : ((laws_toPuzzle.f kj15 l0_0 a0_1 a0_2 a0_3 a0_4 a0_5).bind fun bt513 => ((laws_eqPuzzle.f kj15 t499 t502 t503 t504 t505 t506 bt513.1 bt513.2.1 bt513.2.2.1 bt513.2.2.2.1 bt513.2.2.2.2.1 bt513.2.2.2.2.2).bind fun t521 => (if t521 = true then ((laws_toInt16S.f kj15 l1).bind fun t522 => ((laws_eqInt16S.f kj15 t508 t522).bind fun t525 => (if t525 = true then (some true) else (some false)))) else (some false)))) = some r := by rw [if_neg (show ¬ (false = true) by decide)] at H; exact H
      clear H
      have H := H1
      clear H1
      replace H := Option.bind_eq_some_iff.mp H
      obtain ⟨⟨t513, t516, t517, t518, t519, t520⟩, A380, H⟩ := H
      replace H : ((laws_eqPuzzle.f kj15 t499 t502 t503 t504 t505 t506 t513 t516 t517 t518 t519 t520).bind fun t521 => (if t521 = true then ((laws_toInt16S.f kj15 l1).bind fun t522 => ((laws_eqInt16S.f kj15 t508 t522).bind fun t525 => (if t525 = true then (some true) else (some false)))) else (some false))) = some r := H
      have A38 := Aside0.mk A380
      clear A380
      replace H := Option.bind_eq_some_iff.mp H
      obtain ⟨t521, A390, H⟩ := H
      replace H : (if t521 = true then ((laws_toInt16S.f kj15 l1).bind fun t522 => ((laws_eqInt16S.f kj15 t508 t522).bind fun t525 => (if t525 = true then (some true) else (some false)))) else (some false)) = some r := H
      have A39 := Aside0.mk A390
      clear A390
      by_cases c40 : t521 = true
      ·subst c40
       have H1 : ((laws_toInt16S.f kj15 l1).bind fun t522 => ((laws_eqInt16S.f kj15 t508 t522).bind fun t525 => (if t525 = true then (some true) else (some false)))) = some r := by rw [if_pos rfl] at H; exact H
       clear H
       have H := H1
       clear H1
       replace H := Option.bind_eq_some_iff.mp H
       obtain ⟨t522, A410, H⟩ := H
       replace H : ((laws_eqInt16S.f kj15 t508 t522).bind fun t525 => (if t525 = true then (some true) else (some false))) = some r := H
       have A41 := Aside0.mk A410
       clear A410
       replace H := Option.bind_eq_some_iff.mp H
       obtain ⟨t525, A420, H⟩ := H
       replace H : (if t525 = true then (some true) else (some false)) = some r := H
       have A42 := Aside0.mk A420
       clear A420
       by_cases c43 : t525 = true
       ·subst c43
        have H1 : (some true) = some r := by rw [if_pos rfl] at H; exact H
        clear H
        have H := H1
        clear H1
        obtain rfl := Option.some.inj H
        try go_wp2
        have n0_ := A_ (Kd.R_drew HO_9.out)
        have n1_ := A_ (Kd.R_drew HO_508000.out)
        have n2_ := A_ (blk_drew BK484.out)
        have n3_ := A_ (blk_drew BK507.out)
        have n4_ := A_ (below_drew1 HB.out)
        clear HO_9
        clear HO_508000
        clear BK484
        clear BK507
        clear HB
        have HO_9 := n0_
        have HO_508000 := n1_
        have BK484 := n2_
        have BK507 := n3_
        have HB := n4_
        clear n0_ n1_ n2_ n3_ n4_
        refine start_ (n := 5) (S := fun w' => w'.cell? ⟨gb507, 0, none⟩ = some (.slice Ao29 t499.length co29) ∧ w'.cell? ⟨gb507, 1, none⟩ = some (.int .i16 t502) ∧ w'.cell? ⟨gb507, 2, none⟩ = some (.int .i16 t503) ∧ w'.cell? ⟨gb507, 3, none⟩ = some (.int .i16 t504) ∧ w'.cell? ⟨gb507, 4, none⟩ = some (.int .i16 t505) ∧ w'.cell? ⟨gb507, 5, none⟩ = some (.bool t506) ∧ w'.cell? ⟨gb484, 0, none⟩ = some (.slice A0_0 l0_0.length c0_0) ∧ w'.cell? ⟨gb484, 1, none⟩ = some (.int .i16 a0_1) ∧ w'.cell? ⟨gb484, 2, none⟩ = some (.int .i16 a0_2) ∧ w'.cell? ⟨gb484, 3, none⟩ = some (.int .i16 a0_3) ∧ w'.cell? ⟨gb484, 4, none⟩ = some (.int .i16 a0_4) ∧ w'.cell? ⟨gb484, 5, none⟩ = some (.bool a0_5)) (ds := []) #[false, false, false, false, false] (by kernel_rfl) rfl rfl ⟨(blk_cell BK507.out 0).trans rfl, (blk_cell BK507.out 1).trans rfl, (blk_cell BK507.out 2).trans rfl, (blk_cell BK507.out 3).trans rfl, (blk_cell BK507.out 4).trans rfl, (blk_cell BK507.out 5).trans rfl, (blk_cell BK484.out 0).trans rfl, (blk_cell BK484.out 1).trans rfl, (blk_cell BK484.out 2).trans rfl, (blk_cell BK484.out 3).trans rfl, (blk_cell BK484.out 4).trans rfl, (blk_cell BK484.out 5).trans rfl⟩ (fun hHeld => ?_)
        generalize wc.drew = w44 at HO_9 HO_508000 BK484 BK507 HB hHeld ⊢
        refine take_ (i := 0) (N := some 46) (v := ?_) (a' := ?_) #[true, false, false, false, false] rfl rfl (by kernel_rfl) (fun _ _ _ h => h) (Or.inl ⟨by rfl, ?_⟩) hHeld ?_ ?_
        rotate_left
        ·rintro w' ⟨s0, s1, s2, s3, s4, s5, s6, s7, s8, s9, s10, s11⟩
         go_simp
         with_reducible rfl
        rotate_left
        ·simp only [Act.put, List.setIfInBounds_toArray, List.set_cons_zero, List.set_cons_succ, i64_w, i32_w]
         rfl
        refine take_ (i := 1) (N := some 47) (v := ?_) (a' := ?_) #[true, true, false, false, false] rfl rfl (by kernel_rfl) (fun _ _ _ h => h) (Or.inl ⟨by rfl, ?_⟩) hHeld ?_ ?_
        rotate_left
        ·rintro w' ⟨s0, s1, s2, s3, s4, s5, s6, s7, s8, s9, s10, s11⟩
         go_simp
         with_reducible rfl
        rotate_left
        ·simp only [Act.put, List.setIfInBounds_toArray, List.set_cons_zero, List.set_cons_succ, i64_w, i32_w]
         rfl
        refine one_ (i := 2) (N := some 48) #[true, true, true, false, false] rfl rfl (by kernel_rfl) (by decide) (fun K hK => ?_)
        refine goes_ Try.func18 (by kernel_rfl) rfl #[.agg #[.slice A0_0 l0_0.length c0_0, .int .i16 a0_1, .int .i16 a0_2, .int .i16 a0_3, .int .i16 a0_4, .bool a0_5]] (by rfl) rfl rfl arg_ ?_
        with_reducible refine (laws_toPuzzle.calls kj15 _ _ l0_0 a0_1 a0_2 a0_3 a0_4 a0_5 t513 t516 t517 t518 t519 t520 _ ?side1 ?side2 A38.out).mono ?_
        (case side1 => repeat (first | exact (Kd.C_below HR0_0.out HB.out) | (with_reducible refine Kd.C_alloc ?_ _) | (with_reducible refine Kd.C_drewN ?_ _) | (with_reducible refine Kd.C_drew ?_)))
        (case side2 => exact HC0_0.out)
        rintro e w45 ⟨v514, rfl, ho0, hb⟩
        refine ⟨_, rfl, ?_⟩
        have n0_ := A_ (Kd.R_elder' (pr_ HO_9) (Kd.R_base ho0) hb)
        have n1_ := A_ (Kd.R_elder' (pr_ HO_508000) (Kd.R_base ho0) hb)
        have n2_ := A_ (Kd.R_lower (Kd.R_new' (Kd.R_new' ho0 (Kd.R_lt (pr_ HO_9))) (Kd.R_lt (pr_ HO_508000))) (below_size (bl_ HB)))
        have n3_ := A_ (blk_below (pl_ BK484) hb)
        have n4_ := A_ (blk_below (pl_ BK507) hb)
        have n5_ := A_ (below_step (bl_ HB) hb)
        clear HO_9
        clear HO_508000
        clear BK484
        clear BK507
        clear HB
        have HO_9 := n0_
        have HO_508000 := n1_
        have HO515 := n2_
        have BK484 := n3_
        have BK507 := n4_
        have HB := n5_
        clear n0_ n1_ n2_ n3_ n4_ n5_
        (try clear hb)
        (try clear hb2)
        (try clear hk)
        (try clear hi)
        (try clear ho0)
        obtain ⟨Ao46, co46, eo46⟩ := Kd.R_slice HO515.out
        (first | subst eo46 | (injection eo46 with f1_ f2_ f3_; have f4_ := f1_.symm; have f5_ := f3_.symm; clear f1_ f2_ f3_; subst f4_; subst f5_))
        refine hK.out _ _ ⟨(blk_cell BK507.out 0).trans rfl, (blk_cell BK507.out 1).trans rfl, (blk_cell BK507.out 2).trans rfl, (blk_cell BK507.out 3).trans rfl, (blk_cell BK507.out 4).trans rfl, (blk_cell BK507.out 5).trans rfl, (blk_cell BK484.out 0).trans rfl, (blk_cell BK484.out 1).trans rfl, (blk_cell BK484.out 2).trans rfl, (blk_cell BK484.out 3).trans rfl, (blk_cell BK484.out 4).trans rfl, (blk_cell BK484.out 5).trans rfl⟩ (fun hHeld => ?_)
        clear hK K
        refine norm_ (a' := ?_) ?_ ?_
        rotate_left
        ·show Act.put _ (some 48) _ = _
         simp only [Act.put, List.setIfInBounds_toArray, List.set_cons_zero, List.set_cons_succ, i64_w, i32_w]
         rfl
        refine one_ (i := 3) (N := some 49) #[true, true, true, true, false] rfl rfl (by kernel_rfl) (by decide) (fun K hK => ?_)
        refine goes_ Try.func21 (by kernel_rfl) rfl #[.agg #[.slice Ao29 t499.length co29, .int .i16 t502, .int .i16 t503, .int .i16 t504, .int .i16 t505, .bool t506], .agg #[.slice Ao46 t513.length co46, .int .i16 t516, .int .i16 t517, .int .i16 t518, .int .i16 t519, .bool t520]] (by rfl) rfl rfl arg_ ?_
        with_reducible refine (laws_eqPuzzle.calls kj15 _ _ t499 t502 t503 t504 t505 t506 _ _ t513 t516 t517 t518 t519 t520 true _ ?side1 ?side2 ?side3 ?side4 A39.out).mono ?_
        (case side1 => repeat (first | exact (Kd.R_reads' HO_508000.out).2.2 | (with_reducible refine Kd.C_alloc ?_ _) | (with_reducible refine Kd.C_drewN ?_ _) | (with_reducible refine Kd.C_drew ?_)))
        (case side2 => exact (Kd.R_reads' HO_508000.out).2.1)
        (case side3 => repeat (first | exact (Kd.R_reads' HO515.out).2.2 | (with_reducible refine Kd.C_alloc ?_ _) | (with_reducible refine Kd.C_drewN ?_ _) | (with_reducible refine Kd.C_drew ?_)))
        (case side4 => exact (Kd.R_reads' HO515.out).2.1)
        rintro e w47 ⟨rfl, hb⟩
        refine ⟨_, rfl, ?_⟩
        have n0_ := A_ (Kd.R_below (pr_ HO_9) hb)
        have n1_ := A_ (Kd.R_below (pr_ HO_508000) hb)
        have n2_ := A_ (Kd.R_below (pr_ HO515) hb)
        have n3_ := A_ (blk_below (pl_ BK484) hb)
        have n4_ := A_ (blk_below (pl_ BK507) hb)
        have n5_ := A_ (below_step (bl_ HB) hb)
        clear HO_9
        clear HO_508000
        clear HO515
        clear BK484
        clear BK507
        clear HB
        have HO_9 := n0_
        have HO_508000 := n1_
        have HO515 := n2_
        have BK484 := n3_
        have BK507 := n4_
        have HB := n5_
        clear n0_ n1_ n2_ n3_ n4_ n5_
        (try clear hb)
        (try clear hb2)
        (try clear hk)
        (try clear hi)
        refine hK.out _ _ ⟨(blk_cell BK507.out 0).trans rfl, (blk_cell BK507.out 1).trans rfl, (blk_cell BK507.out 2).trans rfl, (blk_cell BK507.out 3).trans rfl, (blk_cell BK507.out 4).trans rfl, (blk_cell BK507.out 5).trans rfl, (blk_cell BK484.out 0).trans rfl, (blk_cell BK484.out 1).trans rfl, (blk_cell BK484.out 2).trans rfl, (blk_cell BK484.out 3).trans rfl, (blk_cell BK484.out 4).trans rfl, (blk_cell BK484.out 5).trans rfl⟩ (fun hHeld => ?_)
        clear hK K
        refine norm_ (a' := ?_) ?_ ?_
        rotate_left
        ·show Act.put _ (some 49) _ = _
         simp only [Act.put, List.setIfInBounds_toArray, List.set_cons_zero, List.set_cons_succ, i64_w, i32_w]
         rfl
        refine pure_ (i := 4) (N := some 50) (v := ?_) (a' := ?_) #[true, true, true, true, true] rfl rfl (by kernel_rfl) (fun _ _ _ h => h) (Or.inl ⟨by rfl, ?_⟩) ?_ ?_
        rotate_left
        ·intro w'
         go_simp
         with_reducible rfl
        rotate_left
        ·simp only [Act.put, List.setIfInBounds_toArray, List.set_cons_zero, List.set_cons_succ, i64_w, i32_w]
         rfl
        refine done_ (by kernel_rfl) ?_
        try go_wp2_with (first | ((with_reducible refine gate_callee (f := 19) rfl ?_); refine goesL_ (some 53) rfl rfl Try.func19 (by kernel_rfl) rfl #[.slice A1 l1.length c1] rfl arg_ ?_; (with_reducible refine (laws_toInt16S.calls kj15 _ _ l1 t522 _ ?side1 ?side2 A41.out).mono ?_); (case side1 => repeat (first | exact (Kd.C_below HR1.out HB.out) | (with_reducible refine Kd.C_alloc ?_ _) | (with_reducible refine Kd.C_drewN ?_ _) | (with_reducible refine Kd.C_drew ?_))); (case side2 => exact HC1.out); rintro e w48 ⟨v523, rfl, ho0, hb⟩; refine ⟨_, rfl, ?_⟩; have n0_ := A_ (Kd.R_elder' (pr_ HO_9) (Kd.R_base ho0) hb); have n1_ := A_ (Kd.R_elder' (pr_ HO_508000) (Kd.R_base ho0) hb); have n2_ := A_ (Kd.R_elder' (pr_ HO515) (Kd.R_base ho0) hb); have n3_ := A_ (Kd.R_lower (Kd.R_new' (Kd.R_new' (Kd.R_new' ho0 (Kd.R_lt (pr_ HO_9))) (Kd.R_lt (pr_ HO_508000))) (Kd.R_lt (pr_ HO515))) (below_size (bl_ HB))); have n4_ := A_ (blk_below (pl_ BK484) hb); have n5_ := A_ (blk_below (pl_ BK507) hb); have n6_ := A_ (below_step (bl_ HB) hb); clear HO_9; clear HO_508000; clear HO515; clear BK484; clear BK507; clear HB; have HO_9 := n0_; have HO_508000 := n1_; have HO515 := n2_; have HO524 := n3_; have BK484 := n4_; have BK507 := n5_; have HB := n6_; clear n0_ n1_ n2_ n3_ n4_ n5_ n6_; (try clear hb); (try clear hb2); (try clear hk); (try clear hi); (try clear ho0); obtain ⟨Ao49, co49, eo49⟩ := Kd.R_slice HO524.out; subst eo49) | ((with_reducible refine gate_callee (f := 22) rfl ?_); refine goesL_ (some 54) rfl rfl Try.func22 (by kernel_rfl) rfl #[.slice Ao34 t508.length co34, .slice Ao49 t522.length co49] rfl arg_ ?_; (with_reducible refine (laws_eqInt16S.calls kj15 _ _ t508 _ _ t522 true _ ?side1 ?side2 ?side3 ?side4 A42.out).mono ?_); (case side1 => repeat (first | exact (Kd.R_reads' HO_9.out).2.2 | (with_reducible refine Kd.C_alloc ?_ _) | (with_reducible refine Kd.C_drewN ?_ _) | (with_reducible refine Kd.C_drew ?_))); (case side2 => exact (Kd.R_reads' HO_9.out).2.1); (case side3 => repeat (first | exact (Kd.R_reads' HO524.out).2.2 | (with_reducible refine Kd.C_alloc ?_ _) | (with_reducible refine Kd.C_drewN ?_ _) | (with_reducible refine Kd.C_drew ?_))); (case side4 => exact (Kd.R_reads' HO524.out).2.1); rintro e w' ⟨rfl, ⟨nd, rfl⟩⟩; refine ⟨_, rfl, ?_⟩))
        go_ret
        exact ⟨by first | rfl | (simp [errW_none, errW_some] <;> rfl) | (simp [*, errW_none, errW_some] <;> rfl), bl_ HB⟩
       ·replace c43 := Bool.eq_false_iff.mpr c43
        subst c43
        have H1 : (some false) = some r := by rw [if_neg (show ¬ (false = true) by decide)] at H; exact H
        clear H
        have H := H1
        clear H1
        obtain rfl := Option.some.inj H
        try go_wp2
        have n0_ := A_ (Kd.R_drew HO_9.out)
        have n1_ := A_ (Kd.R_drew HO_508000.out)
        have n2_ := A_ (blk_drew BK484.out)
        have n3_ := A_ (blk_drew BK507.out)
        have n4_ := A_ (below_drew1 HB.out)
        clear HO_9
        clear HO_508000
        clear BK484
        clear BK507
        clear HB
        have HO_9 := n0_
        have HO_508000 := n1_
        have BK484 := n2_
        have BK507 := n3_
        have HB := n4_
        clear n0_ n1_ n2_ n3_ n4_
        refine start_ (n := 5) (S := fun w' => w'.cell? ⟨gb507, 0, none⟩ = some (.slice Ao29 t499.length co29) ∧ w'.cell? ⟨gb507, 1, none⟩ = some (.int .i16 t502) ∧ w'.cell? ⟨gb507, 2, none⟩ = some (.int .i16 t503) ∧ w'.cell? ⟨gb507, 3, none⟩ = some (.int .i16 t504) ∧ w'.cell? ⟨gb507, 4, none⟩ = some (.int .i16 t505) ∧ w'.cell? ⟨gb507, 5, none⟩ = some (.bool t506) ∧ w'.cell? ⟨gb484, 0, none⟩ = some (.slice A0_0 l0_0.length c0_0) ∧ w'.cell? ⟨gb484, 1, none⟩ = some (.int .i16 a0_1) ∧ w'.cell? ⟨gb484, 2, none⟩ = some (.int .i16 a0_2) ∧ w'.cell? ⟨gb484, 3, none⟩ = some (.int .i16 a0_3) ∧ w'.cell? ⟨gb484, 4, none⟩ = some (.int .i16 a0_4) ∧ w'.cell? ⟨gb484, 5, none⟩ = some (.bool a0_5)) (ds := []) #[false, false, false, false, false] (by kernel_rfl) rfl rfl ⟨(blk_cell BK507.out 0).trans rfl, (blk_cell BK507.out 1).trans rfl, (blk_cell BK507.out 2).trans rfl, (blk_cell BK507.out 3).trans rfl, (blk_cell BK507.out 4).trans rfl, (blk_cell BK507.out 5).trans rfl, (blk_cell BK484.out 0).trans rfl, (blk_cell BK484.out 1).trans rfl, (blk_cell BK484.out 2).trans rfl, (blk_cell BK484.out 3).trans rfl, (blk_cell BK484.out 4).trans rfl, (blk_cell BK484.out 5).trans rfl⟩ (fun hHeld => ?_)
        generalize wc.drew = w50 at HO_9 HO_508000 BK484 BK507 HB hHeld ⊢
        refine take_ (i := 0) (N := some 46) (v := ?_) (a' := ?_) #[true, false, false, false, false] rfl rfl (by kernel_rfl) (fun _ _ _ h => h) (Or.inl ⟨by rfl, ?_⟩) hHeld ?_ ?_
        rotate_left
        ·rintro w' ⟨s0, s1, s2, s3, s4, s5, s6, s7, s8, s9, s10, s11⟩
         go_simp
         with_reducible rfl
        rotate_left
        ·simp only [Act.put, List.setIfInBounds_toArray, List.set_cons_zero, List.set_cons_succ, i64_w, i32_w]
         rfl
        refine take_ (i := 1) (N := some 47) (v := ?_) (a' := ?_) #[true, true, false, false, false] rfl rfl (by kernel_rfl) (fun _ _ _ h => h) (Or.inl ⟨by rfl, ?_⟩) hHeld ?_ ?_
        rotate_left
        ·rintro w' ⟨s0, s1, s2, s3, s4, s5, s6, s7, s8, s9, s10, s11⟩
         go_simp
         with_reducible rfl
        rotate_left
        ·simp only [Act.put, List.setIfInBounds_toArray, List.set_cons_zero, List.set_cons_succ, i64_w, i32_w]
         rfl
        refine one_ (i := 2) (N := some 48) #[true, true, true, false, false] rfl rfl (by kernel_rfl) (by decide) (fun K hK => ?_)
        refine goes_ Try.func18 (by kernel_rfl) rfl #[.agg #[.slice A0_0 l0_0.length c0_0, .int .i16 a0_1, .int .i16 a0_2, .int .i16 a0_3, .int .i16 a0_4, .bool a0_5]] (by rfl) rfl rfl arg_ ?_
        with_reducible refine (laws_toPuzzle.calls kj15 _ _ l0_0 a0_1 a0_2 a0_3 a0_4 a0_5 t513 t516 t517 t518 t519 t520 _ ?side1 ?side2 A38.out).mono ?_
        (case side1 => repeat (first | exact (Kd.C_below HR0_0.out HB.out) | (with_reducible refine Kd.C_alloc ?_ _) | (with_reducible refine Kd.C_drewN ?_ _) | (with_reducible refine Kd.C_drew ?_)))
        (case side2 => exact HC0_0.out)
        rintro e w51 ⟨v514, rfl, ho0, hb⟩
        refine ⟨_, rfl, ?_⟩
        have n0_ := A_ (Kd.R_elder' (pr_ HO_9) (Kd.R_base ho0) hb)
        have n1_ := A_ (Kd.R_elder' (pr_ HO_508000) (Kd.R_base ho0) hb)
        have n2_ := A_ (Kd.R_lower (Kd.R_new' (Kd.R_new' ho0 (Kd.R_lt (pr_ HO_9))) (Kd.R_lt (pr_ HO_508000))) (below_size (bl_ HB)))
        have n3_ := A_ (blk_below (pl_ BK484) hb)
        have n4_ := A_ (blk_below (pl_ BK507) hb)
        have n5_ := A_ (below_step (bl_ HB) hb)
        clear HO_9
        clear HO_508000
        clear BK484
        clear BK507
        clear HB
        have HO_9 := n0_
        have HO_508000 := n1_
        have HO515 := n2_
        have BK484 := n3_
        have BK507 := n4_
        have HB := n5_
        clear n0_ n1_ n2_ n3_ n4_ n5_
        (try clear hb)
        (try clear hb2)
        (try clear hk)
        (try clear hi)
        (try clear ho0)
        obtain ⟨Ao52, co52, eo52⟩ := Kd.R_slice HO515.out
        (first | subst eo52 | (injection eo52 with f1_ f2_ f3_; have f4_ := f1_.symm; have f5_ := f3_.symm; clear f1_ f2_ f3_; subst f4_; subst f5_))
        refine hK.out _ _ ⟨(blk_cell BK507.out 0).trans rfl, (blk_cell BK507.out 1).trans rfl, (blk_cell BK507.out 2).trans rfl, (blk_cell BK507.out 3).trans rfl, (blk_cell BK507.out 4).trans rfl, (blk_cell BK507.out 5).trans rfl, (blk_cell BK484.out 0).trans rfl, (blk_cell BK484.out 1).trans rfl, (blk_cell BK484.out 2).trans rfl, (blk_cell BK484.out 3).trans rfl, (blk_cell BK484.out 4).trans rfl, (blk_cell BK484.out 5).trans rfl⟩ (fun hHeld => ?_)
        clear hK K
        refine norm_ (a' := ?_) ?_ ?_
        rotate_left
        ·show Act.put _ (some 48) _ = _
         simp only [Act.put, List.setIfInBounds_toArray, List.set_cons_zero, List.set_cons_succ, i64_w, i32_w]
         rfl
        refine one_ (i := 3) (N := some 49) #[true, true, true, true, false] rfl rfl (by kernel_rfl) (by decide) (fun K hK => ?_)
        refine goes_ Try.func21 (by kernel_rfl) rfl #[.agg #[.slice Ao29 t499.length co29, .int .i16 t502, .int .i16 t503, .int .i16 t504, .int .i16 t505, .bool t506], .agg #[.slice Ao52 t513.length co52, .int .i16 t516, .int .i16 t517, .int .i16 t518, .int .i16 t519, .bool t520]] (by rfl) rfl rfl arg_ ?_
        with_reducible refine (laws_eqPuzzle.calls kj15 _ _ t499 t502 t503 t504 t505 t506 _ _ t513 t516 t517 t518 t519 t520 true _ ?side1 ?side2 ?side3 ?side4 A39.out).mono ?_
        (case side1 => repeat (first | exact (Kd.R_reads' HO_508000.out).2.2 | (with_reducible refine Kd.C_alloc ?_ _) | (with_reducible refine Kd.C_drewN ?_ _) | (with_reducible refine Kd.C_drew ?_)))
        (case side2 => exact (Kd.R_reads' HO_508000.out).2.1)
        (case side3 => repeat (first | exact (Kd.R_reads' HO515.out).2.2 | (with_reducible refine Kd.C_alloc ?_ _) | (with_reducible refine Kd.C_drewN ?_ _) | (with_reducible refine Kd.C_drew ?_)))
        (case side4 => exact (Kd.R_reads' HO515.out).2.1)
        rintro e w53 ⟨rfl, hb⟩
        refine ⟨_, rfl, ?_⟩
        have n0_ := A_ (Kd.R_below (pr_ HO_9) hb)
        have n1_ := A_ (Kd.R_below (pr_ HO_508000) hb)
        have n2_ := A_ (Kd.R_below (pr_ HO515) hb)
        have n3_ := A_ (blk_below (pl_ BK484) hb)
        have n4_ := A_ (blk_below (pl_ BK507) hb)
        have n5_ := A_ (below_step (bl_ HB) hb)
        clear HO_9
        clear HO_508000
        clear HO515
        clear BK484
        clear BK507
        clear HB
        have HO_9 := n0_
        have HO_508000 := n1_
        have HO515 := n2_
        have BK484 := n3_
        have BK507 := n4_
        have HB := n5_
        clear n0_ n1_ n2_ n3_ n4_ n5_
        (try clear hb)
        (try clear hb2)
        (try clear hk)
        (try clear hi)
        refine hK.out _ _ ⟨(blk_cell BK507.out 0).trans rfl, (blk_cell BK507.out 1).trans rfl, (blk_cell BK507.out 2).trans rfl, (blk_cell BK507.out 3).trans rfl, (blk_cell BK507.out 4).trans rfl, (blk_cell BK507.out 5).trans rfl, (blk_cell BK484.out 0).trans rfl, (blk_cell BK484.out 1).trans rfl, (blk_cell BK484.out 2).trans rfl, (blk_cell BK484.out 3).trans rfl, (blk_cell BK484.out 4).trans rfl, (blk_cell BK484.out 5).trans rfl⟩ (fun hHeld => ?_)
        clear hK K
        refine norm_ (a' := ?_) ?_ ?_
        rotate_left
        ·show Act.put _ (some 49) _ = _
         simp only [Act.put, List.setIfInBounds_toArray, List.set_cons_zero, List.set_cons_succ, i64_w, i32_w]
         rfl
        refine pure_ (i := 4) (N := some 50) (v := ?_) (a' := ?_) #[true, true, true, true, true] rfl rfl (by kernel_rfl) (fun _ _ _ h => h) (Or.inl ⟨by rfl, ?_⟩) ?_ ?_
        rotate_left
        ·intro w'
         go_simp
         with_reducible rfl
        rotate_left
        ·simp only [Act.put, List.setIfInBounds_toArray, List.set_cons_zero, List.set_cons_succ, i64_w, i32_w]
         rfl
        refine done_ (by kernel_rfl) ?_
        try go_wp2_with (first | ((with_reducible refine gate_callee (f := 19) rfl ?_); refine goesL_ (some 53) rfl rfl Try.func19 (by kernel_rfl) rfl #[.slice A1 l1.length c1] rfl arg_ ?_; (with_reducible refine (laws_toInt16S.calls kj15 _ _ l1 t522 _ ?side1 ?side2 A41.out).mono ?_); (case side1 => repeat (first | exact (Kd.C_below HR1.out HB.out) | (with_reducible refine Kd.C_alloc ?_ _) | (with_reducible refine Kd.C_drewN ?_ _) | (with_reducible refine Kd.C_drew ?_))); (case side2 => exact HC1.out); rintro e w54 ⟨v523, rfl, ho0, hb⟩; refine ⟨_, rfl, ?_⟩; have n0_ := A_ (Kd.R_elder' (pr_ HO_9) (Kd.R_base ho0) hb); have n1_ := A_ (Kd.R_elder' (pr_ HO_508000) (Kd.R_base ho0) hb); have n2_ := A_ (Kd.R_elder' (pr_ HO515) (Kd.R_base ho0) hb); have n3_ := A_ (Kd.R_lower (Kd.R_new' (Kd.R_new' (Kd.R_new' ho0 (Kd.R_lt (pr_ HO_9))) (Kd.R_lt (pr_ HO_508000))) (Kd.R_lt (pr_ HO515))) (below_size (bl_ HB))); have n4_ := A_ (blk_below (pl_ BK484) hb); have n5_ := A_ (blk_below (pl_ BK507) hb); have n6_ := A_ (below_step (bl_ HB) hb); clear HO_9; clear HO_508000; clear HO515; clear BK484; clear BK507; clear HB; have HO_9 := n0_; have HO_508000 := n1_; have HO515 := n2_; have HO524 := n3_; have BK484 := n4_; have BK507 := n5_; have HB := n6_; clear n0_ n1_ n2_ n3_ n4_ n5_ n6_; (try clear hb); (try clear hb2); (try clear hk); (try clear hi); (try clear ho0); obtain ⟨Ao55, co55, eo55⟩ := Kd.R_slice HO524.out; subst eo55) | ((with_reducible refine gate_callee (f := 22) rfl ?_); refine goesL_ (some 54) rfl rfl Try.func22 (by kernel_rfl) rfl #[.slice Ao34 t508.length co34, .slice Ao55 t522.length co55] rfl arg_ ?_; (with_reducible refine (laws_eqInt16S.calls kj15 _ _ t508 _ _ t522 false _ ?side1 ?side2 ?side3 ?side4 A42.out).mono ?_); (case side1 => repeat (first | exact (Kd.R_reads' HO_9.out).2.2 | (with_reducible refine Kd.C_alloc ?_ _) | (with_reducible refine Kd.C_drewN ?_ _) | (with_reducible refine Kd.C_drew ?_))); (case side2 => exact (Kd.R_reads' HO_9.out).2.1); (case side3 => repeat (first | exact (Kd.R_reads' HO524.out).2.2 | (with_reducible refine Kd.C_alloc ?_ _) | (with_reducible refine Kd.C_drewN ?_ _) | (with_reducible refine Kd.C_drew ?_))); (case side4 => exact (Kd.R_reads' HO524.out).2.1); rintro e w' ⟨rfl, ⟨nd, rfl⟩⟩; refine ⟨_, rfl, ?_⟩))
        go_ret
        exact ⟨by first | rfl | (simp [errW_none, errW_some] <;> rfl) | (simp [*, errW_none, errW_some] <;> rfl), bl_ HB⟩
      ·replace c40 := Bool.eq_false_iff.mpr c40
       subst c40
       have H1 : (some false) = some r := by rw [if_neg (show ¬ (false = true) by decide)] at H; exact H
       clear H
       have H := H1
       clear H1
       obtain rfl := Option.some.inj H
       try go_wp2
       have n0_ := A_ (Kd.R_drew HO_9.out)
       have n1_ := A_ (Kd.R_drew HO_508000.out)
       have n2_ := A_ (blk_drew BK484.out)
       have n3_ := A_ (blk_drew BK507.out)
       have n4_ := A_ (below_drew1 HB.out)
       clear HO_9
       clear HO_508000
       clear BK484
       clear BK507
       clear HB
       have HO_9 := n0_
       have HO_508000 := n1_
       have BK484 := n2_
       have BK507 := n3_
       have HB := n4_
       clear n0_ n1_ n2_ n3_ n4_
       refine start_ (n := 5) (S := fun w' => w'.cell? ⟨gb507, 0, none⟩ = some (.slice Ao29 t499.length co29) ∧ w'.cell? ⟨gb507, 1, none⟩ = some (.int .i16 t502) ∧ w'.cell? ⟨gb507, 2, none⟩ = some (.int .i16 t503) ∧ w'.cell? ⟨gb507, 3, none⟩ = some (.int .i16 t504) ∧ w'.cell? ⟨gb507, 4, none⟩ = some (.int .i16 t505) ∧ w'.cell? ⟨gb507, 5, none⟩ = some (.bool t506) ∧ w'.cell? ⟨gb484, 0, none⟩ = some (.slice A0_0 l0_0.length c0_0) ∧ w'.cell? ⟨gb484, 1, none⟩ = some (.int .i16 a0_1) ∧ w'.cell? ⟨gb484, 2, none⟩ = some (.int .i16 a0_2) ∧ w'.cell? ⟨gb484, 3, none⟩ = some (.int .i16 a0_3) ∧ w'.cell? ⟨gb484, 4, none⟩ = some (.int .i16 a0_4) ∧ w'.cell? ⟨gb484, 5, none⟩ = some (.bool a0_5)) (ds := []) #[false, false, false, false, false] (by kernel_rfl) rfl rfl ⟨(blk_cell BK507.out 0).trans rfl, (blk_cell BK507.out 1).trans rfl, (blk_cell BK507.out 2).trans rfl, (blk_cell BK507.out 3).trans rfl, (blk_cell BK507.out 4).trans rfl, (blk_cell BK507.out 5).trans rfl, (blk_cell BK484.out 0).trans rfl, (blk_cell BK484.out 1).trans rfl, (blk_cell BK484.out 2).trans rfl, (blk_cell BK484.out 3).trans rfl, (blk_cell BK484.out 4).trans rfl, (blk_cell BK484.out 5).trans rfl⟩ (fun hHeld => ?_)
       generalize wc.drew = w56 at HO_9 HO_508000 BK484 BK507 HB hHeld ⊢
       refine take_ (i := 0) (N := some 46) (v := ?_) (a' := ?_) #[true, false, false, false, false] rfl rfl (by kernel_rfl) (fun _ _ _ h => h) (Or.inl ⟨by rfl, ?_⟩) hHeld ?_ ?_
       rotate_left
       ·rintro w' ⟨s0, s1, s2, s3, s4, s5, s6, s7, s8, s9, s10, s11⟩
        go_simp
        with_reducible rfl
       rotate_left
       ·simp only [Act.put, List.setIfInBounds_toArray, List.set_cons_zero, List.set_cons_succ, i64_w, i32_w]
        rfl
       refine take_ (i := 1) (N := some 47) (v := ?_) (a' := ?_) #[true, true, false, false, false] rfl rfl (by kernel_rfl) (fun _ _ _ h => h) (Or.inl ⟨by rfl, ?_⟩) hHeld ?_ ?_
       rotate_left
       ·rintro w' ⟨s0, s1, s2, s3, s4, s5, s6, s7, s8, s9, s10, s11⟩
        go_simp
        with_reducible rfl
       rotate_left
       ·simp only [Act.put, List.setIfInBounds_toArray, List.set_cons_zero, List.set_cons_succ, i64_w, i32_w]
        rfl
       refine one_ (i := 2) (N := some 48) #[true, true, true, false, false] rfl rfl (by kernel_rfl) (by decide) (fun K hK => ?_)
       refine goes_ Try.func18 (by kernel_rfl) rfl #[.agg #[.slice A0_0 l0_0.length c0_0, .int .i16 a0_1, .int .i16 a0_2, .int .i16 a0_3, .int .i16 a0_4, .bool a0_5]] (by rfl) rfl rfl arg_ ?_
       with_reducible refine (laws_toPuzzle.calls kj15 _ _ l0_0 a0_1 a0_2 a0_3 a0_4 a0_5 t513 t516 t517 t518 t519 t520 _ ?side1 ?side2 A38.out).mono ?_
       (case side1 => repeat (first | exact (Kd.C_below HR0_0.out HB.out) | (with_reducible refine Kd.C_alloc ?_ _) | (with_reducible refine Kd.C_drewN ?_ _) | (with_reducible refine Kd.C_drew ?_)))
       (case side2 => exact HC0_0.out)
       rintro e w57 ⟨v514, rfl, ho0, hb⟩
       refine ⟨_, rfl, ?_⟩
       have n0_ := A_ (Kd.R_elder' (pr_ HO_9) (Kd.R_base ho0) hb)
       have n1_ := A_ (Kd.R_elder' (pr_ HO_508000) (Kd.R_base ho0) hb)
       have n2_ := A_ (Kd.R_lower (Kd.R_new' (Kd.R_new' ho0 (Kd.R_lt (pr_ HO_9))) (Kd.R_lt (pr_ HO_508000))) (below_size (bl_ HB)))
       have n3_ := A_ (blk_below (pl_ BK484) hb)
       have n4_ := A_ (blk_below (pl_ BK507) hb)
       have n5_ := A_ (below_step (bl_ HB) hb)
       clear HO_9
       clear HO_508000
       clear BK484
       clear BK507
       clear HB
       have HO_9 := n0_
       have HO_508000 := n1_
       have HO515 := n2_
       have BK484 := n3_
       have BK507 := n4_
       have HB := n5_
       clear n0_ n1_ n2_ n3_ n4_ n5_
       (try clear hb)
       (try clear hb2)
       (try clear hk)
       (try clear hi)
       (try clear ho0)
       obtain ⟨Ao58, co58, eo58⟩ := Kd.R_slice HO515.out
       (first | subst eo58 | (injection eo58 with f1_ f2_ f3_; have f4_ := f1_.symm; have f5_ := f3_.symm; clear f1_ f2_ f3_; subst f4_; subst f5_))
       refine hK.out _ _ ⟨(blk_cell BK507.out 0).trans rfl, (blk_cell BK507.out 1).trans rfl, (blk_cell BK507.out 2).trans rfl, (blk_cell BK507.out 3).trans rfl, (blk_cell BK507.out 4).trans rfl, (blk_cell BK507.out 5).trans rfl, (blk_cell BK484.out 0).trans rfl, (blk_cell BK484.out 1).trans rfl, (blk_cell BK484.out 2).trans rfl, (blk_cell BK484.out 3).trans rfl, (blk_cell BK484.out 4).trans rfl, (blk_cell BK484.out 5).trans rfl⟩ (fun hHeld => ?_)
       clear hK K
       refine norm_ (a' := ?_) ?_ ?_
       rotate_left
       ·show Act.put _ (some 48) _ = _
        simp only [Act.put, List.setIfInBounds_toArray, List.set_cons_zero, List.set_cons_succ, i64_w, i32_w]
        rfl
       refine one_ (i := 3) (N := some 49) #[true, true, true, true, false] rfl rfl (by kernel_rfl) (by decide) (fun K hK => ?_)
       refine goes_ Try.func21 (by kernel_rfl) rfl #[.agg #[.slice Ao29 t499.length co29, .int .i16 t502, .int .i16 t503, .int .i16 t504, .int .i16 t505, .bool t506], .agg #[.slice Ao58 t513.length co58, .int .i16 t516, .int .i16 t517, .int .i16 t518, .int .i16 t519, .bool t520]] (by rfl) rfl rfl arg_ ?_
       with_reducible refine (laws_eqPuzzle.calls kj15 _ _ t499 t502 t503 t504 t505 t506 _ _ t513 t516 t517 t518 t519 t520 false _ ?side1 ?side2 ?side3 ?side4 A39.out).mono ?_
       (case side1 => repeat (first | exact (Kd.R_reads' HO_508000.out).2.2 | (with_reducible refine Kd.C_alloc ?_ _) | (with_reducible refine Kd.C_drewN ?_ _) | (with_reducible refine Kd.C_drew ?_)))
       (case side2 => exact (Kd.R_reads' HO_508000.out).2.1)
       (case side3 => repeat (first | exact (Kd.R_reads' HO515.out).2.2 | (with_reducible refine Kd.C_alloc ?_ _) | (with_reducible refine Kd.C_drewN ?_ _) | (with_reducible refine Kd.C_drew ?_)))
       (case side4 => exact (Kd.R_reads' HO515.out).2.1)
       rintro e w59 ⟨rfl, hb⟩
       refine ⟨_, rfl, ?_⟩
       have n0_ := A_ (Kd.R_below (pr_ HO_9) hb)
       have n1_ := A_ (Kd.R_below (pr_ HO_508000) hb)
       have n2_ := A_ (Kd.R_below (pr_ HO515) hb)
       have n3_ := A_ (blk_below (pl_ BK484) hb)
       have n4_ := A_ (blk_below (pl_ BK507) hb)
       have n5_ := A_ (below_step (bl_ HB) hb)
       clear HO_9
       clear HO_508000
       clear HO515
       clear BK484
       clear BK507
       clear HB
       have HO_9 := n0_
       have HO_508000 := n1_
       have HO515 := n2_
       have BK484 := n3_
       have BK507 := n4_
       have HB := n5_
       clear n0_ n1_ n2_ n3_ n4_ n5_
       (try clear hb)
       (try clear hb2)
       (try clear hk)
       (try clear hi)
       refine hK.out _ _ ⟨(blk_cell BK507.out 0).trans rfl, (blk_cell BK507.out 1).trans rfl, (blk_cell BK507.out 2).trans rfl, (blk_cell BK507.out 3).trans rfl, (blk_cell BK507.out 4).trans rfl, (blk_cell BK507.out 5).trans rfl, (blk_cell BK484.out 0).trans rfl, (blk_cell BK484.out 1).trans rfl, (blk_cell BK484.out 2).trans rfl, (blk_cell BK484.out 3).trans rfl, (blk_cell BK484.out 4).trans rfl, (blk_cell BK484.out 5).trans rfl⟩ (fun hHeld => ?_)
       clear hK K
       refine norm_ (a' := ?_) ?_ ?_
       rotate_left
       ·show Act.put _ (some 49) _ = _
        simp only [Act.put, List.setIfInBounds_toArray, List.set_cons_zero, List.set_cons_succ, i64_w, i32_w]
        rfl
       refine pure_ (i := 4) (N := some 50) (v := ?_) (a' := ?_) #[true, true, true, true, true] rfl rfl (by kernel_rfl) (fun _ _ _ h => h) (Or.inl ⟨by rfl, ?_⟩) ?_ ?_
       rotate_left
       ·intro w'
        go_simp
        with_reducible rfl
       rotate_left
       ·simp only [Act.put, List.setIfInBounds_toArray, List.set_cons_zero, List.set_cons_succ, i64_w, i32_w]
        rfl
       refine done_ (by kernel_rfl) ?_
       try go_wp2
       go_ret
       exact ⟨by first | rfl | (simp [errW_none, errW_some] <;> rfl) | (simp [*, errW_none, errW_some] <;> rfl), bl_ HB⟩

end Go.Proofs.Ytodmfjophjhbeaa.M
