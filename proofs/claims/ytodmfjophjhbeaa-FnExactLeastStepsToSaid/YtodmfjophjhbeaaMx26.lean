-- By this seat's own program over the kit's printer (arrays, functions told by hand); nothing of it is trusted: the kernel checks it.
import Derived.Test.YtodmfjophjhbeaaMx0
import Derived.Test.YtodmfjophjhbeaaMx3
import Derived.Test.YtodmfjophjhbeaaMx12
import Derived.Test.YtodmfjophjhbeaaMx13
import Derived.Test.YtodmfjophjhbeaaMx23
import Derived.Test.YtodmfjophjhbeaaMx24
import Derived.Test.YtodmfjophjhbeaaMx25
namespace Go.Proofs.Ytodmfjophjhbeaa.M
open Go.RowKit Go.Proofs.YtodmfjophjhbeaaW.PrintWords Go.Proofs.YtodmfjophjhbeaaW.PrintLast Go.Proofs.YtodmfjophjhbeaaW.PrintMore
attribute [local go_sem] max2_int min2_int max_two min_two max_three min_three max_four min_four   -- for this text's walks alone
set_option linter.unusedVariables false
set_option linter.unusedSimpArgs false

/-! ### laws_FnExactLeastStepsTo: function 3 -/
def laws_FnExactLeastStepsTo.j0 : Nat → List Int → List Int → Bool → List Int → Int → Int → Int → Int → Bool → List Int → Int → Int → Int → Int → Bool → Option (Bool)
 | 0, _, _, _, _, _, _, _, _, _, _, _, _, _, _, _ => none
 | k + 1, x1, x11, x49, x307000, x307001, x307002, x307003, x307004, x307005, x330000, x330001, x330002, x330003, x330004, x330005 => if x49 = true then (some false) else ((laws_toPuzzle.f k x307000 x307001 x307002 x307003 x307004 x307005).bind fun bt335 => ((laws_eqPuzzle.f k x330000 x330001 x330002 x330003 x330004 x330005 bt335.1 bt335.2.1 bt335.2.2.1 bt335.2.2.2.1 bt335.2.2.2.2.1 bt335.2.2.2.2.2).bind fun t343 => (if t343 = true then ((laws_toInt16S.f k x1).bind fun t344 => ((laws_eqInt16S.f k x11 t344).bind fun t347 => (if t347 = true then (some true) else (some false)))) else (some false))))
def laws_FnExactLeastStepsTo.f (k : Nat) (l0_0 : List Int) (a0_1 : Int) (a0_2 : Int) (a0_3 : Int) (a0_4 : Int) (a0_5 : Bool) (l1 : List Int) (a2 : Int) : Option (Bool) := if (l1.length : Int) > 1048576 then (some true) else ((laws_szPuzzle.f l0_0 a0_1 a0_2 a0_3 a0_4 a0_5 1048576).bind fun t307 => (if t307 < 0 then (some true) else ((laws_toPuzzle.f k l0_0 a0_1 a0_2 a0_3 a0_4 a0_5).bind fun bt308 => ((laws_toInt16S.f k l1).bind fun t316 => ((spec_LeastStepsTo.f k bt308.1 bt308.2.1 bt308.2.2.1 bt308.2.2.2.1 bt308.2.2.2.2.1 bt308.2.2.2.2.2 t316 a2).bind fun bt319 => ((laws_toPuzzle.f k l0_0 a0_1 a0_2 a0_3 a0_4 a0_5).bind fun bt321 => ((laws_toInt16S.f k l1).bind fun t330 => ((impl_LeastStepsTo.f k bt321.1 bt321.2.1 bt321.2.2.1 bt321.2.2.2.1 bt321.2.2.2.2.1 bt321.2.2.2.2.2 t330 a2).bind fun bt333 => (if bt333.1 = bt319.1 then (laws_FnExactLeastStepsTo.j0 k l1 t330 (bt333.2 != bt319.2) l0_0 a0_1 a0_2 a0_3 a0_4 a0_5 bt321.1 bt321.2.1 bt321.2.2.1 bt321.2.2.2.1 bt321.2.2.2.2.1 bt321.2.2.2.2.2) else (laws_FnExactLeastStepsTo.j0 k l1 t330 true l0_0 a0_1 a0_2 a0_3 a0_4 a0_5 bt321.1 bt321.2.1 bt321.2.2.1 bt321.2.2.2.1 bt321.2.2.2.2.1 bt321.2.2.2.2.2))))))))))
theorem laws_FnExactLeastStepsTo.mono_l : ∀ k, (∀ y0 y1 y2 y3 y4 y5 y6 y7 y8 y9 y10 y11 y12 y13 y14, LeO (laws_FnExactLeastStepsTo.j0 k y0 y1 y2 y3 y4 y5 y6 y7 y8 y9 y10 y11 y12 y13 y14) (laws_FnExactLeastStepsTo.j0 (k + 1) y0 y1 y2 y3 y4 y5 y6 y7 y8 y9 y10 y11 y12 y13 y14))
 | 0 => fun _ _ _ _ _ _ _ _ _ _ _ _ _ _ _ r h => by simp [laws_FnExactLeastStepsTo.j0] at h
 | k + 1 => by
  have ih0 := laws_FnExactLeastStepsTo.mono_l k
  ·intro y0 y1 y2 y3 y4 y5 y6 y7 y8 y9 y10 y11 y12 y13 y14
   unfold laws_FnExactLeastStepsTo.j0
   repeat' first
   | (with_reducible exact ih0 _ _ _ _ _ _ _ _ _ _ _ _ _ _ _)
   | (with_reducible exact impl_LeastStepsTo.mono _ _ _ _ _ _ _ _ _)
   | (with_reducible exact laws_eqInt16S.mono _ _ _)
   | (with_reducible exact laws_eqPuzzle.mono _ _ _ _ _ _ _ _ _ _ _ _ _)
   | (with_reducible exact laws_toInt16S.mono _ _)
   | (with_reducible exact laws_toPuzzle.mono _ _ _ _ _ _ _)
   | (with_reducible exact spec_LeastStepsTo.mono _ _ _ _ _ _ _ _ _)
   | (with_reducible exact LeO.refl _)
   | (with_reducible exact LeO.none _)
   | (with_reducible refine LeO.ite ?_ ?_)
   | (with_reducible refine LeO.bind ?_ (fun _ => ?_))
   | exact ih0 _ _ _ _ _ _ _ _ _ _ _ _ _ _ _
   | exact impl_LeastStepsTo.mono _ _ _ _ _ _ _ _ _
   | exact laws_eqInt16S.mono _ _ _
   | exact laws_eqPuzzle.mono _ _ _ _ _ _ _ _ _ _ _ _ _
   | exact laws_toInt16S.mono _ _
   | exact laws_toPuzzle.mono _ _ _ _ _ _ _
   | exact spec_LeastStepsTo.mono _ _ _ _ _ _ _ _ _
   | exact LeO.none _
   | refine LeO.ite ?_ ?_
   | refine LeO.bind ?_ (fun _ => ?_)
theorem laws_FnExactLeastStepsTo.mono : ∀ a0 a1 a2 a3 a4 a5 a6 a7 k, LeO (laws_FnExactLeastStepsTo.f k a0 a1 a2 a3 a4 a5 a6 a7) (laws_FnExactLeastStepsTo.f (k + 1) a0 a1 a2 a3 a4 a5 a6 a7) := by
 intro a0 a1 a2 a3 a4 a5 a6 a7 k
 have ih0 := laws_FnExactLeastStepsTo.mono_l k
 unfold laws_FnExactLeastStepsTo.f
 repeat' first
   | (with_reducible exact ih0 _ _ _ _ _ _ _ _ _ _ _ _ _ _ _)
   | (with_reducible exact impl_LeastStepsTo.mono _ _ _ _ _ _ _ _ _)
   | (with_reducible exact laws_eqInt16S.mono _ _ _)
   | (with_reducible exact laws_eqPuzzle.mono _ _ _ _ _ _ _ _ _ _ _ _ _)
   | (with_reducible exact laws_toInt16S.mono _ _)
   | (with_reducible exact laws_toPuzzle.mono _ _ _ _ _ _ _)
   | (with_reducible exact spec_LeastStepsTo.mono _ _ _ _ _ _ _ _ _)
   | (with_reducible exact LeO.refl _)
   | (with_reducible exact LeO.none _)
   | (with_reducible refine LeO.ite ?_ ?_)
   | (with_reducible refine LeO.bind ?_ (fun _ => ?_))
   | exact ih0 _ _ _ _ _ _ _ _ _ _ _ _ _ _ _
   | exact impl_LeastStepsTo.mono _ _ _ _ _ _ _ _ _
   | exact laws_eqInt16S.mono _ _ _
   | exact laws_eqPuzzle.mono _ _ _ _ _ _ _ _ _ _ _ _ _
   | exact laws_toInt16S.mono _ _
   | exact laws_toPuzzle.mono _ _ _ _ _ _ _
   | exact spec_LeastStepsTo.mono _ _ _ _ _ _ _ _ _
   | exact LeO.none _
   | refine LeO.ite ?_ ?_
   | refine LeO.bind ?_ (fun _ => ?_)
set_option maxHeartbeats 8000000 in
set_option maxRecDepth 100000 in
theorem laws_FnExactLeastStepsTo.calls (k : Nat) (A0_0 : Option Addr) (c0_0 : Nat) (l0_0 : List Int) (a0_1 : Int) (a0_2 : Int) (a0_3 : Int) (a0_4 : Int) (a0_5 : Bool) (A1 : Option Addr) (c1 : Nat) (l1 : List Int) (a2 : Int) (r : Bool) (w : World) (hr0_0 : Kd.C (Kd.int .i16) w A0_0 l0_0.length l0_0) (hc0_0 : l0_0.length ≤ c0_0) (hr1 : Kd.C (Kd.int .i16) w A1 l1.length l1) (hc1 : l1.length ≤ c1) (h : laws_FnExactLeastStepsTo.f k l0_0 a0_1 a0_2 a0_3 a0_4 a0_5 l1 a2 = some r) :
  Calls Try.prog 3 #[.agg #[.slice A0_0 l0_0.length c0_0, .int .i16 a0_1, .int .i16 a0_2, .int .i16 a0_3, .int .i16 a0_4, .bool a0_5], .slice A1 l1.length c1, .int .i64 a2] w fun e w' => e = .returned (.bool r) ∧ Below w.heap.size w w' := by
 have hu26 := Try.underlying26
 have hu32 := Try.underlying32
 have HR0_0 := Aside0.mk hr0_0
 have HC0_0 := Aside0.mk hc0_0
 clear hr0_0 hc0_0
 have HR1 := Aside0.mk hr1
 have HC1 := Aside0.mk hc1
 clear hr1 hc1
 have HB := A_ (Below.refl w.heap.size w)
 have H : (if (l1.length : Int) > 1048576 then (some true) else ((laws_szPuzzle.f l0_0 a0_1 a0_2 a0_3 a0_4 a0_5 1048576).bind fun t307 => (if t307 < 0 then (some true) else ((laws_toPuzzle.f k l0_0 a0_1 a0_2 a0_3 a0_4 a0_5).bind fun bt308 => ((laws_toInt16S.f k l1).bind fun t316 => ((spec_LeastStepsTo.f k bt308.1 bt308.2.1 bt308.2.2.1 bt308.2.2.2.1 bt308.2.2.2.2.1 bt308.2.2.2.2.2 t316 a2).bind fun bt319 => ((laws_toPuzzle.f k l0_0 a0_1 a0_2 a0_3 a0_4 a0_5).bind fun bt321 => ((laws_toInt16S.f k l1).bind fun t330 => ((impl_LeastStepsTo.f k bt321.1 bt321.2.1 bt321.2.2.1 bt321.2.2.2.1 bt321.2.2.2.2.1 bt321.2.2.2.2.2 t330 a2).bind fun bt333 => (if bt333.1 = bt319.1 then (laws_FnExactLeastStepsTo.j0 k l1 t330 (bt333.2 != bt319.2) l0_0 a0_1 a0_2 a0_3 a0_4 a0_5 bt321.1 bt321.2.1 bt321.2.2.1 bt321.2.2.2.1 bt321.2.2.2.2.1 bt321.2.2.2.2.2) else (laws_FnExactLeastStepsTo.j0 k l1 t330 true l0_0 a0_1 a0_2 a0_3 a0_4 a0_5 bt321.1 bt321.2.1 bt321.2.2.1 bt321.2.2.2.1 bt321.2.2.2.2.1 bt321.2.2.2.2.2))))))))))) = some r := h
 clear h
 by_cases c4 : (l1.length : Int) > 1048576
 ·rw [if_pos c4] at H
  have c4b0 : decide (1048576 < (l1.length : Int)) = true := decide_eq_true c4
  have c4b1 : decide (1048576 < l1.length) = true := decide_eq_true (by omega)
  clear c4
  obtain rfl := Option.some.inj H
  go_enter Try.func3, Try.ntmps3
  go_wp2_with (first | ((with_reducible refine gate_dst (N := 3) rfl ?_); refine box_event ?hg (N := 3) ?hd (cs := #[.slice A0_0 l0_0.length c0_0, .int .i16 a0_1, .int .i16 a0_2, .int .i16 a0_3, .int .i16 a0_4, .bool a0_5]) (t := 26) ?hr ?_; (case hd => rfl); (case hg => rfl); (case hr => first | (go_simp; done) | (go_simp; rfl)); intro gb306 hg w5 hbox hb; have n0_ := A_ (below_step (bl_ HB) hb); have n1_ := A_ (hbox); have n2_ := A_ ((by rw [hg]; exact (below_size (bl_ HB)) : w.heap.size ≤ gb306)); have n3_ := n2_; clear HB; have HB := n0_; have BK306 := n1_; have GW306 := n2_; have GE306 := n3_; clear n0_ n1_ n2_ n3_; clear hb hbox hg))
  go_ret
  exact ⟨by first | rfl | (simp [errW_none, errW_some] <;> rfl) | (simp [*, errW_none, errW_some] <;> rfl), bl_ HB⟩
 ·rw [if_neg c4] at H
  have c4b0 : decide (1048576 < (l1.length : Int)) = false := decide_eq_false c4
  have c4b1 : decide (1048576 < l1.length) = false := decide_eq_false (by omega)
  clear c4
  replace H := Option.bind_eq_some_iff.mp H
  obtain ⟨t307, A60, H⟩ := H
  replace H : (if t307 < 0 then (some true) else ((laws_toPuzzle.f k l0_0 a0_1 a0_2 a0_3 a0_4 a0_5).bind fun bt308 => ((laws_toInt16S.f k l1).bind fun t316 => ((spec_LeastStepsTo.f k bt308.1 bt308.2.1 bt308.2.2.1 bt308.2.2.2.1 bt308.2.2.2.2.1 bt308.2.2.2.2.2 t316 a2).bind fun bt319 => ((laws_toPuzzle.f k l0_0 a0_1 a0_2 a0_3 a0_4 a0_5).bind fun bt321 => ((laws_toInt16S.f k l1).bind fun t330 => ((impl_LeastStepsTo.f k bt321.1 bt321.2.1 bt321.2.2.1 bt321.2.2.2.1 bt321.2.2.2.2.1 bt321.2.2.2.2.2 t330 a2).bind fun bt333 => (if bt333.1 = bt319.1 then (laws_FnExactLeastStepsTo.j0 k l1 t330 (bt333.2 != bt319.2) l0_0 a0_1 a0_2 a0_3 a0_4 a0_5 bt321.1 bt321.2.1 bt321.2.2.1 bt321.2.2.2.1 bt321.2.2.2.2.1 bt321.2.2.2.2.2) else (laws_FnExactLeastStepsTo.j0 k l1 t330 true l0_0 a0_1 a0_2 a0_3 a0_4 a0_5 bt321.1 bt321.2.1 bt321.2.2.1 bt321.2.2.2.1 bt321.2.2.2.2.1 bt321.2.2.2.2.2))))))))) = some r := H
  have A6 := Aside0.mk A60
  clear A60
  by_cases c7 : t307 < 0
  ·rw [if_pos c7] at H
   have c7b0 : decide (t307 < 0) = true := decide_eq_true c7
   clear c7
   obtain rfl := Option.some.inj H
   go_enter Try.func3, Try.ntmps3
   go_wp2_with (first | ((with_reducible refine gate_dst (N := 3) rfl ?_); refine box_event ?hg (N := 3) ?hd (cs := #[.slice A0_0 l0_0.length c0_0, .int .i16 a0_1, .int .i16 a0_2, .int .i16 a0_3, .int .i16 a0_4, .bool a0_5]) (t := 26) ?hr ?_; (case hd => rfl); (case hg => rfl); (case hr => first | (go_simp; done) | (go_simp; rfl)); intro gb306 hg w8 hbox hb; have n0_ := A_ (below_step (bl_ HB) hb); have n1_ := A_ (hbox); have n2_ := A_ ((by rw [hg]; exact (below_size (bl_ HB)) : w.heap.size ≤ gb306)); have n3_ := n2_; clear HB; have HB := n0_; have BK306 := n1_; have GW306 := n2_; have GE306 := n3_; clear n0_ n1_ n2_ n3_; clear hb hbox hg; obtain ⟨hcz9_0, hcz9_1, hcz9_2, hcz9_3, hcz9_4, hcz9_5, hfz9_0, hfz9_1, hfz9_2, hfz9_3, hfz9_4, hfz9_5⟩ := cl6_ BK306) | ((with_reducible refine gate_callee (f := 16) rfl ?_); refine goesL_ (some 19) rfl rfl Try.func16 (by kernel_rfl) rfl #[.agg #[.slice A0_0 l0_0.length c0_0, .int .i16 a0_1, .int .i16 a0_2, .int .i16 a0_3, .int .i16 a0_4, .bool a0_5], .int .i64 1048576] rfl arg_ ?_; (with_reducible refine (laws_szPuzzle.calls _ _ l0_0 a0_1 a0_2 a0_3 a0_4 a0_5 1048576 t307 _ ?side1 ?side2 A6.out).mono ?_); (case side1 => exact Kd.C_below HR0_0.out (bl_ HB)); (case side2 => exact HC0_0.out); rintro e w10 ⟨rfl, hb⟩; refine ⟨_, rfl, ?_⟩; have n0_ := A_ (blk_below (pl_ BK306) hb); have n1_ := A_ (below_step (bl_ HB) hb); clear BK306; clear HB; have BK306 := n0_; have HB := n1_; clear n0_ n1_; (try clear hb); (try clear hb2); (try clear hk); (try clear hi)))
   go_ret
   exact ⟨by first | rfl | (simp [errW_none, errW_some] <;> rfl) | (simp [*, errW_none, errW_some] <;> rfl), bl_ HB⟩
  ·rw [if_neg c7] at H
   have c7b0 : decide (t307 < 0) = false := decide_eq_false c7
   clear c7
   replace H := Option.bind_eq_some_iff.mp H
   obtain ⟨⟨t308, t311, t312, t313, t314, t315⟩, A110, H⟩ := H
   replace H : ((laws_toInt16S.f k l1).bind fun t316 => ((spec_LeastStepsTo.f k t308 t311 t312 t313 t314 t315 t316 a2).bind fun bt319 => ((laws_toPuzzle.f k l0_0 a0_1 a0_2 a0_3 a0_4 a0_5).bind fun bt321 => ((laws_toInt16S.f k l1).bind fun t330 => ((impl_LeastStepsTo.f k bt321.1 bt321.2.1 bt321.2.2.1 bt321.2.2.2.1 bt321.2.2.2.2.1 bt321.2.2.2.2.2 t330 a2).bind fun bt333 => (if bt333.1 = bt319.1 then (laws_FnExactLeastStepsTo.j0 k l1 t330 (bt333.2 != bt319.2) l0_0 a0_1 a0_2 a0_3 a0_4 a0_5 bt321.1 bt321.2.1 bt321.2.2.1 bt321.2.2.2.1 bt321.2.2.2.2.1 bt321.2.2.2.2.2) else (laws_FnExactLeastStepsTo.j0 k l1 t330 true l0_0 a0_1 a0_2 a0_3 a0_4 a0_5 bt321.1 bt321.2.1 bt321.2.2.1 bt321.2.2.2.1 bt321.2.2.2.2.1 bt321.2.2.2.2.2))))))) = some r := H
   have A11 := Aside0.mk A110
   clear A110
   replace H := Option.bind_eq_some_iff.mp H
   obtain ⟨t316, A120, H⟩ := H
   replace H : ((spec_LeastStepsTo.f k t308 t311 t312 t313 t314 t315 t316 a2).bind fun bt319 => ((laws_toPuzzle.f k l0_0 a0_1 a0_2 a0_3 a0_4 a0_5).bind fun bt321 => ((laws_toInt16S.f k l1).bind fun t330 => ((impl_LeastStepsTo.f k bt321.1 bt321.2.1 bt321.2.2.1 bt321.2.2.2.1 bt321.2.2.2.2.1 bt321.2.2.2.2.2 t330 a2).bind fun bt333 => (if bt333.1 = bt319.1 then (laws_FnExactLeastStepsTo.j0 k l1 t330 (bt333.2 != bt319.2) l0_0 a0_1 a0_2 a0_3 a0_4 a0_5 bt321.1 bt321.2.1 bt321.2.2.1 bt321.2.2.2.1 bt321.2.2.2.2.1 bt321.2.2.2.2.2) else (laws_FnExactLeastStepsTo.j0 k l1 t330 true l0_0 a0_1 a0_2 a0_3 a0_4 a0_5 bt321.1 bt321.2.1 bt321.2.2.1 bt321.2.2.2.1 bt321.2.2.2.2.1 bt321.2.2.2.2.2)))))) = some r := H
   have A12 := Aside0.mk A120
   clear A120
   replace H := Option.bind_eq_some_iff.mp H
   obtain ⟨⟨t319, t320⟩, A130, H⟩ := H
   replace H : ((laws_toPuzzle.f k l0_0 a0_1 a0_2 a0_3 a0_4 a0_5).bind fun bt321 => ((laws_toInt16S.f k l1).bind fun t330 => ((impl_LeastStepsTo.f k bt321.1 bt321.2.1 bt321.2.2.1 bt321.2.2.2.1 bt321.2.2.2.2.1 bt321.2.2.2.2.2 t330 a2).bind fun bt333 => (if bt333.1 = t319 then (laws_FnExactLeastStepsTo.j0 k l1 t330 (bt333.2 != t320) l0_0 a0_1 a0_2 a0_3 a0_4 a0_5 bt321.1 bt321.2.1 bt321.2.2.1 bt321.2.2.2.1 bt321.2.2.2.2.1 bt321.2.2.2.2.2) else (laws_FnExactLeastStepsTo.j0 k l1 t330 true l0_0 a0_1 a0_2 a0_3 a0_4 a0_5 bt321.1 bt321.2.1 bt321.2.2.1 bt321.2.2.2.1 bt321.2.2.2.2.1 bt321.2.2.2.2.2))))) = some r := H
   have A13 := Aside0.mk A130
   clear A130
   replace H := Option.bind_eq_some_iff.mp H
   obtain ⟨⟨t321, t324, t325, t326, t327, t328⟩, A140, H⟩ := H
   replace H : ((laws_toInt16S.f k l1).bind fun t330 => ((impl_LeastStepsTo.f k t321 t324 t325 t326 t327 t328 t330 a2).bind fun bt333 => (if bt333.1 = t319 then (laws_FnExactLeastStepsTo.j0 k l1 t330 (bt333.2 != t320) l0_0 a0_1 a0_2 a0_3 a0_4 a0_5 t321 t324 t325 t326 t327 t328) else (laws_FnExactLeastStepsTo.j0 k l1 t330 true l0_0 a0_1 a0_2 a0_3 a0_4 a0_5 t321 t324 t325 t326 t327 t328)))) = some r := H
   have A14 := Aside0.mk A140
   clear A140
   replace H := Option.bind_eq_some_iff.mp H
   obtain ⟨t330, A150, H⟩ := H
   replace H : ((impl_LeastStepsTo.f k t321 t324 t325 t326 t327 t328 t330 a2).bind fun bt333 => (if bt333.1 = t319 then (laws_FnExactLeastStepsTo.j0 k l1 t330 (bt333.2 != t320) l0_0 a0_1 a0_2 a0_3 a0_4 a0_5 t321 t324 t325 t326 t327 t328) else (laws_FnExactLeastStepsTo.j0 k l1 t330 true l0_0 a0_1 a0_2 a0_3 a0_4 a0_5 t321 t324 t325 t326 t327 t328))) = some r := H
   have A15 := Aside0.mk A150
   clear A150
   replace H := Option.bind_eq_some_iff.mp H
   obtain ⟨⟨t333, t334⟩, A160, H⟩ := H
   replace H : (if t333 = t319 then (laws_FnExactLeastStepsTo.j0 k l1 t330 (t334 != t320) l0_0 a0_1 a0_2 a0_3 a0_4 a0_5 t321 t324 t325 t326 t327 t328) else (laws_FnExactLeastStepsTo.j0 k l1 t330 true l0_0 a0_1 a0_2 a0_3 a0_4 a0_5 t321 t324 t325 t326 t327 t328)) = some r := H
   have A16 := Aside0.mk A160
   clear A160
   have HC17 := Aside0.mk H
   clear H
   go_enter Try.func3, Try.ntmps3
   go_upto_region 11 with (first | ((with_reducible refine gate_dst (N := 3) rfl ?_); refine box_event ?hg (N := 3) ?hd (cs := #[.slice A0_0 l0_0.length c0_0, .int .i16 a0_1, .int .i16 a0_2, .int .i16 a0_3, .int .i16 a0_4, .bool a0_5]) (t := 26) ?hr ?_; (case hd => rfl); (case hg => rfl); (case hr => first | (go_simp; done) | (go_simp; rfl)); intro gb306 hg w18 hbox hb; have n0_ := A_ (below_step (bl_ HB) hb); have n1_ := A_ (hbox); have n2_ := A_ ((by rw [hg]; exact (below_size (bl_ HB)) : w.heap.size ≤ gb306)); have n3_ := n2_; clear HB; have HB := n0_; have BK306 := n1_; have GW306 := n2_; have GE306 := n3_; clear n0_ n1_ n2_ n3_; clear hb hbox hg; obtain ⟨hcz19_0, hcz19_1, hcz19_2, hcz19_3, hcz19_4, hcz19_5, hfz19_0, hfz19_1, hfz19_2, hfz19_3, hfz19_4, hfz19_5⟩ := cl6_ BK306) | ((with_reducible refine gate_callee (f := 16) rfl ?_); refine goesL_ (some 19) rfl rfl Try.func16 (by kernel_rfl) rfl #[.agg #[.slice A0_0 l0_0.length c0_0, .int .i16 a0_1, .int .i16 a0_2, .int .i16 a0_3, .int .i16 a0_4, .bool a0_5], .int .i64 1048576] rfl arg_ ?_; (with_reducible refine (laws_szPuzzle.calls _ _ l0_0 a0_1 a0_2 a0_3 a0_4 a0_5 1048576 t307 _ ?side1 ?side2 A6.out).mono ?_); (case side1 => exact Kd.C_below HR0_0.out (bl_ HB)); (case side2 => exact HC0_0.out); rintro e w20 ⟨rfl, hb⟩; refine ⟨_, rfl, ?_⟩; have n0_ := A_ (blk_below (pl_ BK306) hb); have n1_ := A_ (below_step (bl_ HB) hb); clear BK306; clear HB; have BK306 := n0_; have HB := n1_; clear n0_ n1_; (try clear hb); (try clear hb2); (try clear hk); (try clear hi); obtain ⟨hcz21_0, hcz21_1, hcz21_2, hcz21_3, hcz21_4, hcz21_5, hfz21_0, hfz21_1, hfz21_2, hfz21_3, hfz21_4, hfz21_5⟩ := cl6_ BK306) | ((with_reducible refine gate_callee (f := 18) rfl ?_); refine goesL_ (some 24) rfl rfl Try.func18 (by kernel_rfl) rfl #[.agg #[.slice A0_0 l0_0.length c0_0, .int .i16 a0_1, .int .i16 a0_2, .int .i16 a0_3, .int .i16 a0_4, .bool a0_5]] rfl arg_ ?_; (with_reducible refine (laws_toPuzzle.calls k _ _ l0_0 a0_1 a0_2 a0_3 a0_4 a0_5 t308 t311 t312 t313 t314 t315 _ ?side1 ?side2 A11.out).mono ?_); (case side1 => exact Kd.C_below HR0_0.out (bl_ HB)); (case side2 => exact HC0_0.out); rintro e w22 ⟨v309, rfl, ho0, hb⟩; refine ⟨_, rfl, ?_⟩; have n0_ := A_ (Kd.R_lower ho0 (below_size (bl_ HB))); have n1_ := A_ (blk_below (pl_ BK306) hb); have n2_ := A_ (below_step (bl_ HB) hb); clear BK306; clear HB; have HO310 := n0_; have BK306 := n1_; have HB := n2_; clear n0_ n1_ n2_; (try clear hb); (try clear hb2); (try clear hk); (try clear hi); (try clear ho0)) | ((with_reducible refine gate_callee (f := 19) rfl ?_); refine goesL_ (some 26) rfl rfl Try.func19 (by kernel_rfl) rfl #[.slice A1 l1.length c1] rfl arg_ ?_; (with_reducible refine (laws_toInt16S.calls k _ _ l1 t316 _ ?side1 ?side2 A12.out).mono ?_); (case side1 => exact Kd.C_below HR1.out (bl_ HB)); (case side2 => exact HC1.out); rintro e w23 ⟨v317, rfl, ho0, hb⟩; refine ⟨_, rfl, ?_⟩; have n0_ := A_ (Kd.R_elder' (pr_ HO310) (Kd.R_base ho0) hb); have n1_ := A_ (Kd.R_lower (Kd.R_new' ho0 (Kd.R_lt (pr_ HO310))) (below_size (bl_ HB))); have n2_ := A_ (blk_below (pl_ BK306) hb); have n3_ := A_ (below_step (bl_ HB) hb); clear HO310; clear BK306; clear HB; have HO310 := n0_; have HO318 := n1_; have BK306 := n2_; have HB := n3_; clear n0_ n1_ n2_ n3_; (try clear hb); (try clear hb2); (try clear hk); (try clear hi); (try clear ho0); obtain ⟨Ao24, co24, eo24⟩ := Kd.R_slice HO310.out; subst eo24; obtain ⟨Ao25, co25, eo25⟩ := Kd.R_slice HO318.out; subst eo25) | ((with_reducible refine gate_callee (f := 17) rfl ?_); refine goesL_ (some 28) rfl rfl Try.func17 (by kernel_rfl) rfl #[.agg #[.slice Ao24 t308.length co24, .int .i16 t311, .int .i16 t312, .int .i16 t313, .int .i16 t314, .bool t315], .slice Ao25 t316.length co25, .int .i64 a2] rfl arg_ ?_; (with_reducible refine (spec_LeastStepsTo.calls k _ _ t308 t311 t312 t313 t314 t315 _ _ t316 a2 t319 t320 _ ?side1 ?side2 ?side3 ?side4 A13.out).mono ?_); (case side1 => repeat (first | exact (Kd.R_reads' HO310.out).2.2 | (with_reducible refine Kd.C_alloc ?_ _) | (with_reducible refine Kd.C_drewN ?_ _) | (with_reducible refine Kd.C_drew ?_))); (case side2 => exact (Kd.R_reads' HO310.out).2.1); (case side3 => repeat (first | exact (Kd.R_reads' HO318.out).2.2 | (with_reducible refine Kd.C_alloc ?_ _) | (with_reducible refine Kd.C_drewN ?_ _) | (with_reducible refine Kd.C_drew ?_))); (case side4 => exact (Kd.R_reads' HO318.out).2.1); rintro e w26 ⟨rfl, hb⟩; refine ⟨_, rfl, ?_⟩; have n0_ := A_ (Kd.R_below (pr_ HO310) hb); have n1_ := A_ (Kd.R_below (pr_ HO318) hb); have n2_ := A_ (blk_below (pl_ BK306) hb); have n3_ := A_ (below_step (bl_ HB) hb); clear HO310; clear HO318; clear BK306; clear HB; have HO310 := n0_; have HO318 := n1_; have BK306 := n2_; have HB := n3_; clear n0_ n1_ n2_ n3_; (try clear hb); (try clear hb2); (try clear hk); (try clear hi); obtain ⟨hcz27_0, hcz27_1, hcz27_2, hcz27_3, hcz27_4, hcz27_5, hfz27_0, hfz27_1, hfz27_2, hfz27_3, hfz27_4, hfz27_5⟩ := cl6_ BK306) | ((with_reducible refine gate_callee (f := 18) rfl ?_); refine goesL_ (some 32) rfl rfl Try.func18 (by kernel_rfl) rfl #[.agg #[.slice A0_0 l0_0.length c0_0, .int .i16 a0_1, .int .i16 a0_2, .int .i16 a0_3, .int .i16 a0_4, .bool a0_5]] rfl arg_ ?_; (with_reducible refine (laws_toPuzzle.calls k _ _ l0_0 a0_1 a0_2 a0_3 a0_4 a0_5 t321 t324 t325 t326 t327 t328 _ ?side1 ?side2 A14.out).mono ?_); (case side1 => exact Kd.C_below HR0_0.out (bl_ HB)); (case side2 => exact HC0_0.out); rintro e w28 ⟨v322, rfl, ho0, hb⟩; refine ⟨_, rfl, ?_⟩; have n0_ := A_ (Kd.R_elder' (pr_ HO310) (Kd.R_base ho0) hb); have n1_ := A_ (Kd.R_elder' (pr_ HO318) (Kd.R_base ho0) hb); have n2_ := A_ (Kd.R_lower (Kd.R_new' (Kd.R_new' ho0 (Kd.R_lt (pr_ HO310))) (Kd.R_lt (pr_ HO318))) (below_size (bl_ HB))); have n3_ := A_ (blk_below (pl_ BK306) hb); have n4_ := A_ (below_step (bl_ HB) hb); clear HO310; clear HO318; clear BK306; clear HB; have HO310 := n0_; have HO318 := n1_; have HO323 := n2_; have BK306 := n3_; have HB := n4_; clear n0_ n1_ n2_ n3_ n4_; (try clear hb); (try clear hb2); (try clear hk); (try clear hi); (try clear ho0)) | ((with_reducible refine gate_dst (N := 10) rfl ?_); refine box_event ?hg (N := 10) ?hd (cs := #[.slice none 0 0, .int .i16 0, .int .i16 0, .int .i16 0, .int .i16 0, .bool false]) (t := 32) ?hr ?_; (case hd => rfl); (case hg => rfl); (case hr => first | (go_simp; done) | (go_simp; rfl)); intro gb329 hg w29 hbox hb; have n0_ := A_ (Kd.R_below (pr_ HO310) hb); have n1_ := A_ (Kd.R_below (pr_ HO318) hb); have n2_ := A_ (Kd.R_below (pr_ HO323) hb); have n3_ := A_ (blk_below (pl_ BK306) hb); have n4_ := A_ (below_step (bl_ HB) hb); have n5_ := A_ (hbox); have n6_ := A_ ((by rw [hg]; exact (below_size (bl_ HB)) : w.heap.size ≤ gb329)); have n7_ := n6_; have n8_ := A_ ((by rw [hg]; exact Nat.ne_of_lt (blk_lt (pl_ BK306)) : gb306 ≠ gb329)); have n9_ := Aside0.mk n8_.out.symm; clear HO310; clear HO318; clear HO323; clear BK306; clear HB; have HO310 := n0_; have HO318 := n1_; have HO323 := n2_; have BK306 := n3_; have HB := n4_; have BK329 := n5_; have GW329 := n6_; have GE329 := n7_; have NB306_329 := n8_; have NB329_306 := n9_; clear n0_ n1_ n2_ n3_ n4_ n5_ n6_ n7_ n8_ n9_; clear hb hbox hg; obtain ⟨Ao30, co30, eo30⟩ := Kd.R_slice HO323.out; subst eo30; have hnb31 := NB329_306.out; have hnc31 := NB306_329.out; obtain ⟨hcz32_0, hcz32_1, hcz32_2, hcz32_3, hcz32_4, hcz32_5, hfz32_0, hfz32_1, hfz32_2, hfz32_3, hfz32_4, hfz32_5⟩ := cl6_ BK329) | ((with_reducible refine gate_callee (f := 19) rfl ?_); refine goesL_ (some 34) rfl rfl Try.func19 (by kernel_rfl) rfl #[.slice A1 l1.length c1] rfl arg_ ?_; (with_reducible refine (laws_toInt16S.calls k _ _ l1 t330 _ ?side1 ?side2 A15.out).mono ?_); (case side1 => exact Kd.C_below HR1.out (bs_ HB GE329)); (case side2 => exact HC1.out); rintro e w33 ⟨v331, rfl, ho0, hb⟩; refine ⟨_, rfl, ?_⟩; have n0_ := A_ (Kd.R_elder' (by (with_reducible repeat (first | apply Kd.R_alloc | apply Kd.R_drewN | apply Kd.R_drew)); exact (rf6_ HO310 BK329 (by decide))) (Kd.R_base ho0) hb); have n1_ := A_ (Kd.R_elder' (by (with_reducible repeat (first | apply Kd.R_alloc | apply Kd.R_drewN | apply Kd.R_drew)); exact (rf6_ HO318 BK329 (by decide))) (Kd.R_base ho0) hb); have n2_ := A_ (Kd.R_elder' (by (with_reducible repeat (first | apply Kd.R_alloc | apply Kd.R_drewN | apply Kd.R_drew)); exact (rf6_ HO323 BK329 (by decide))) (Kd.R_base ho0) hb); have n3_ := A_ (Kd.R_lower (Kd.R_new' (Kd.R_new' (Kd.R_new' ho0 (Kd.R_lt (by (with_reducible repeat (first | apply Kd.R_alloc | apply Kd.R_drewN | apply Kd.R_drew)); exact (rf6_ HO310 BK329 (by decide))))) (Kd.R_lt (by (with_reducible repeat (first | apply Kd.R_alloc | apply Kd.R_drewN | apply Kd.R_drew)); exact (rf6_ HO318 BK329 (by decide))))) (Kd.R_lt (by (with_reducible repeat (first | apply Kd.R_alloc | apply Kd.R_drewN | apply Kd.R_drew)); exact (rf6_ HO323 BK329 (by decide))))) (below_size (bs_ HB GE329))); have n4_ := A_ (blk_below (g := gb306) (o := .cells #[.slice A0_0 l0_0.length c0_0, .int .i16 a0_1, .int .i16 a0_2, .int .i16 a0_3, .int .i16 a0_4, .bool a0_5] 26 (0, 0)) (pf_ BK306 NB306_329) hb); have n5_ := A_ (blk_below (g := gb329) (o := .cells #[.slice Ao30 t321.length co30, .int .i16 t324, .int .i16 t325, .int .i16 t326, .int .i16 t327, .bool t328] 32 (0, 0)) (by (with_reducible repeat (first | refine blk_drewN ?_ _ | refine blk_drew ?_ | refine blk_alloc ?_ _)); refine blk_put (cs := #[.slice Ao30 t321.length co30, .int .i16 t324, .int .i16 t325, .int .i16 t326, .int .i16 t327, .bool false]) ?_ 5 _ rfl; (with_reducible repeat (first | refine blk_drewN ?_ _ | refine blk_drew ?_ | refine blk_alloc ?_ _)); refine blk_put (cs := #[.slice Ao30 t321.length co30, .int .i16 t324, .int .i16 t325, .int .i16 t326, .int .i16 0, .bool false]) ?_ 4 _ rfl; (with_reducible repeat (first | refine blk_drewN ?_ _ | refine blk_drew ?_ | refine blk_alloc ?_ _)); refine blk_put (cs := #[.slice Ao30 t321.length co30, .int .i16 t324, .int .i16 t325, .int .i16 0, .int .i16 0, .bool false]) ?_ 3 _ rfl; (with_reducible repeat (first | refine blk_drewN ?_ _ | refine blk_drew ?_ | refine blk_alloc ?_ _)); refine blk_put (cs := #[.slice Ao30 t321.length co30, .int .i16 t324, .int .i16 0, .int .i16 0, .int .i16 0, .bool false]) ?_ 2 _ rfl; (with_reducible repeat (first | refine blk_drewN ?_ _ | refine blk_drew ?_ | refine blk_alloc ?_ _)); refine blk_put (cs := #[.slice Ao30 t321.length co30, .int .i16 0, .int .i16 0, .int .i16 0, .int .i16 0, .bool false]) ?_ 1 _ rfl; (with_reducible repeat (first | refine blk_drewN ?_ _ | refine blk_drew ?_ | refine blk_alloc ?_ _)); refine blk_put (cs := #[.slice none 0 0, .int .i16 0, .int .i16 0, .int .i16 0, .int .i16 0, .bool false]) ?_ 0 _ rfl; (with_reducible repeat (first | refine blk_drewN ?_ _ | refine blk_drew ?_ | refine blk_alloc ?_ _)); exact BK329.out) hb); have n6_ := A_ (below_step (bs_ HB GE329) hb); clear HO310; clear HO318; clear HO323; clear BK306; clear BK329; clear HB; have HO310 := n0_; have HO318 := n1_; have HO323 := n2_; have HO332 := n3_; have BK306 := n4_; have BK329 := n5_; have HB := n6_; clear n0_ n1_ n2_ n3_ n4_ n5_ n6_; (try clear hb); (try clear hb2); (try clear hk); (try clear hi); (try clear ho0); obtain ⟨hcz34_0, hcz34_1, hcz34_2, hcz34_3, hcz34_4, hcz34_5, hfz34_0, hfz34_1, hfz34_2, hfz34_3, hfz34_4, hfz34_5⟩ := cl6_ BK329; obtain ⟨Ao35, co35, eo35⟩ := Kd.R_slice HO332.out; subst eo35) | ((with_reducible refine gate_callee (f := 20) rfl ?_); refine goesL_ (some 39) rfl rfl Try.func20 (by kernel_rfl) rfl #[.agg #[.slice Ao30 t321.length co30, .int .i16 t324, .int .i16 t325, .int .i16 t326, .int .i16 t327, .bool t328], .slice Ao35 t330.length co35, .int .i64 a2] rfl arg_ ?_; (with_reducible refine (impl_LeastStepsTo.calls k _ _ t321 t324 t325 t326 t327 t328 _ _ t330 a2 t333 t334 _ ?side1 ?side2 ?side3 ?side4 A16.out).mono ?_); (case side1 => repeat (first | exact (Kd.R_reads' HO323.out).2.2 | (with_reducible refine Kd.C_alloc ?_ _) | (with_reducible refine Kd.C_drewN ?_ _) | (with_reducible refine Kd.C_drew ?_))); (case side2 => exact (Kd.R_reads' HO323.out).2.1); (case side3 => repeat (first | exact (Kd.R_reads' HO332.out).2.2 | (with_reducible refine Kd.C_alloc ?_ _) | (with_reducible refine Kd.C_drewN ?_ _) | (with_reducible refine Kd.C_drew ?_))); (case side4 => exact (Kd.R_reads' HO332.out).2.1); rintro e w36 ⟨rfl, hb⟩; refine ⟨_, rfl, ?_⟩; have n0_ := A_ (Kd.R_below (pr_ HO310) hb); have n1_ := A_ (Kd.R_below (pr_ HO318) hb); have n2_ := A_ (Kd.R_below (pr_ HO323) hb); have n3_ := A_ (Kd.R_below (pr_ HO332) hb); have n4_ := A_ (blk_below (pl_ BK306) hb); have n5_ := A_ (blk_below (pl_ BK329) hb); have n6_ := A_ (below_step (bl_ HB) hb); clear HO310; clear HO318; clear HO323; clear HO332; clear BK306; clear BK329; clear HB; have HO310 := n0_; have HO318 := n1_; have HO323 := n2_; have HO332 := n3_; have BK306 := n4_; have BK329 := n5_; have HB := n6_; clear n0_ n1_ n2_ n3_ n4_ n5_ n6_; (try clear hb); (try clear hb2); (try clear hk); (try clear hi)))
   (try simp only [Act.put, List.setIfInBounds_toArray, List.set_cons_zero, List.set_cons_succ])
   go_cut [49] (fun v49 wc => ∃ (kq : Nat) (x49_16 : Bool), v49 = .bool x49_16 ∧ Aside0 (laws_FnExactLeastStepsTo.j0 kq l1 t330 x49_16 l0_0 a0_1 a0_2 a0_3 a0_4 a0_5 t321 t324 t325 t326 t327 t328 = some r) ∧ Aside0 (kq ≤ k) ∧ Aside0 (Kd.R (Kd.int .i16) 23 wc w.heap.size (fun k_ => some k_ ≠ ((.slice Ao30 t321.length co30) : Value).ownBlock) (.slice Ao35 t330.length co35) t330) ∧ Aside0 (Kd.R (Kd.int .i16) 23 wc w.heap.size (fun k_ => some k_ ≠ ((.slice Ao35 t330.length co35) : Value).ownBlock) (.slice Ao30 t321.length co30) t321) ∧ Aside0 (wc.heap[gb306]? = some (.cells #[(.slice A0_0 l0_0.length c0_0), .int .i16 a0_1, .int .i16 a0_2, .int .i16 a0_3, .int .i16 a0_4, .bool a0_5] 26 (0, 0))) ∧ Aside0 (wc.heap[gb329]? = some (.cells #[(.slice Ao30 t321.length co30), .int .i16 t324, .int .i16 t325, .int .i16 t326, .int .i16 t327, .bool t328] 32 (0, 0))) ∧ Aside0 (Below w.heap.size w wc))
   case first =>
    have H := HC17.out
    clear HC17
    by_cases c37 : t333 = t319
    ·rw [if_pos c37] at H
     have c37b0 : (t333 == t319) = true := beq_iff_eq.mpr c37
     have c37b1 : (t333 != t319) = false := bne_eq_false_iff_eq.mpr c37
     clear c37
     (first | rw [c37b0] | (simp only [i64_w, i32_w]; rw [c37b0]) | skip)
     have H' := Aside0.mk H
     clear H
     go_wp2
     go_meet
     case rel => exact ⟨_, ((t334 != t320)), rs_, H', ⟨by first | omega | exact Nat.le_refl _⟩, ⟨by (with_reducible repeat (first | apply Kd.R_alloc | apply Kd.R_drewN | apply Kd.R_drew)); exact Kd.R_mono HO332.out (fun _ hk => hk.2)⟩, ⟨by (with_reducible repeat (first | apply Kd.R_alloc | apply Kd.R_drewN | apply Kd.R_drew)); exact Kd.R_mono HO323.out (fun _ hk => hk.2)⟩, ⟨pl_ BK306⟩, ⟨pl_ BK329⟩, ⟨bl_ HB⟩⟩
    ·rw [if_neg c37] at H
     have c37b0 : (t333 == t319) = false := beq_eq_false_iff_ne.mpr c37
     have c37b1 : (t333 != t319) = true := bne_iff_ne.mpr c37
     (first | rw [c37b0] | (simp only [i64_w, i32_w]; rw [c37b0]) | skip)
     have H' := Aside0.mk H
     clear H
     go_wp2
     go_meet
     case rel => exact ⟨_, (true), rs_, H', ⟨by first | omega | exact Nat.le_refl _⟩, ⟨by (with_reducible repeat (first | apply Kd.R_alloc | apply Kd.R_drewN | apply Kd.R_drew)); exact Kd.R_mono HO332.out (fun _ hk => hk.2)⟩, ⟨by (with_reducible repeat (first | apply Kd.R_alloc | apply Kd.R_drewN | apply Kd.R_drew)); exact Kd.R_mono HO323.out (fun _ hk => hk.2)⟩, ⟨pl_ BK306⟩, ⟨pl_ BK329⟩, ⟨bl_ HB⟩⟩
   case rest =>
    clear HC17
    try clear c1
    try clear c2
    try clear p2
    try clear c3
    try clear c4
    try clear c4b0
    try clear c4b1
    try clear c7
    try clear c7b0
    try clear c16
    try clear c17
    try clear c18
    try clear c19
    try clear c20
    try clear c31
    try clear c37
    try clear c37b0
    try clear c37b1
    try clear hcz19_0
    try clear hcz19_1
    try clear hcz19_2
    try clear hcz19_3
    try clear hcz19_4
    try clear hcz19_5
    try clear hcz21_0
    try clear hcz21_1
    try clear hcz21_2
    try clear hcz21_3
    try clear hcz21_4
    try clear hcz21_5
    try clear hcz27_0
    try clear hcz27_1
    try clear hcz27_2
    try clear hcz27_3
    try clear hcz27_4
    try clear hcz27_5
    try clear hcz32_0
    try clear hcz32_1
    try clear hcz32_2
    try clear hcz32_3
    try clear hcz32_4
    try clear hcz32_5
    try clear hcz34_0
    try clear hcz34_1
    try clear hcz34_2
    try clear hcz34_3
    try clear hcz34_4
    try clear hcz34_5
    try clear hcz9_0
    try clear hcz9_1
    try clear hcz9_2
    try clear hcz9_3
    try clear hcz9_4
    try clear hcz9_5
    try clear hfz19_0
    try clear hfz19_1
    try clear hfz19_2
    try clear hfz19_3
    try clear hfz19_4
    try clear hfz19_5
    try clear hfz21_0
    try clear hfz21_1
    try clear hfz21_2
    try clear hfz21_3
    try clear hfz21_4
    try clear hfz21_5
    try clear hfz27_0
    try clear hfz27_1
    try clear hfz27_2
    try clear hfz27_3
    try clear hfz27_4
    try clear hfz27_5
    try clear hfz32_0
    try clear hfz32_1
    try clear hfz32_2
    try clear hfz32_3
    try clear hfz32_4
    try clear hfz32_5
    try clear hfz34_0
    try clear hfz34_1
    try clear hfz34_2
    try clear hfz34_3
    try clear hfz34_4
    try clear hfz34_5
    try clear hfz9_0
    try clear hfz9_1
    try clear hfz9_2
    try clear hfz9_3
    try clear hfz9_4
    try clear hfz9_5
    obtain ⟨kq, x49_16, rfl, HA, HJ16, HO_11, HO_330000, BK306, BK329, HB⟩ := hcut
    cases kq with
    | zero => exact absurd HA.out (by simp [laws_FnExactLeastStepsTo.j0])
    | succ kj16 =>
     have H := HA.out
     clear HA
     simp only [laws_FnExactLeastStepsTo.j0] at H
     by_cases c38 : x49_16 = true
     ·subst c38
      have H1 : (some false) = some r := by rw [if_pos rfl] at H; exact H
      clear H
      have H := H1
      clear H1
      obtain rfl := Option.some.inj H
      go_wp2
      go_ret
      exact ⟨by first | rfl | (simp [errW_none, errW_some] <;> rfl) | (simp [*, errW_none, errW_some] <;> rfl), bl_ HB⟩
     ·replace c38 := Bool.eq_false_iff.mpr c38
      subst c38
      have H1 : ((laws_toPuzzle.f kj16 l0_0 a0_1 a0_2 a0_3 a0_4 a0_5).bind fun bt335 => ((laws_eqPuzzle.f kj16 t321 t324 t325 t326 t327 t328 bt335.1 bt335.2.1 bt335.2.2.1 bt335.2.2.2.1 bt335.2.2.2.2.1 bt335.2.2.2.2.2).bind fun t343 => (if t343 = true then ((laws_toInt16S.f kj16 l1).bind fun t344 => ((laws_eqInt16S.f kj16 t330 t344).bind fun t347 => (if t347 = true then (some true) else (some false)))) else (some false)))) = some r := by rw [if_neg (show ¬ (false = true) by decide)] at H; exact H
      clear H
      have H := H1
      clear H1
      replace H := Option.bind_eq_some_iff.mp H
      obtain ⟨⟨t335, t338, t339, t340, t341, t342⟩, A390, H⟩ := H
      replace H : ((laws_eqPuzzle.f kj16 t321 t324 t325 t326 t327 t328 t335 t338 t339 t340 t341 t342).bind fun t343 => (if t343 = true then ((laws_toInt16S.f kj16 l1).bind fun t344 => ((laws_eqInt16S.f kj16 t330 t344).bind fun t347 => (if t347 = true then (some true) else (some false)))) else (some false))) = some r := H
      have A39 := Aside0.mk A390
      clear A390
      replace H := Option.bind_eq_some_iff.mp H
      obtain ⟨t343, A400, H⟩ := H
      replace H : (if t343 = true then ((laws_toInt16S.f kj16 l1).bind fun t344 => ((laws_eqInt16S.f kj16 t330 t344).bind fun t347 => (if t347 = true then (some true) else (some false)))) else (some false)) = some r := H
      have A40 := Aside0.mk A400
      clear A400
      by_cases c41 : t343 = true
      ·subst c41
       have H1 : ((laws_toInt16S.f kj16 l1).bind fun t344 => ((laws_eqInt16S.f kj16 t330 t344).bind fun t347 => (if t347 = true then (some true) else (some false)))) = some r := by rw [if_pos rfl] at H; exact H
       clear H
       have H := H1
       clear H1
       replace H := Option.bind_eq_some_iff.mp H
       obtain ⟨t344, A420, H⟩ := H
       replace H : ((laws_eqInt16S.f kj16 t330 t344).bind fun t347 => (if t347 = true then (some true) else (some false))) = some r := H
       have A42 := Aside0.mk A420
       clear A420
       replace H := Option.bind_eq_some_iff.mp H
       obtain ⟨t347, A430, H⟩ := H
       replace H : (if t347 = true then (some true) else (some false)) = some r := H
       have A43 := Aside0.mk A430
       clear A430
       by_cases c44 : t347 = true
       ·subst c44
        have H1 : (some true) = some r := by rw [if_pos rfl] at H; exact H
        clear H
        have H := H1
        clear H1
        obtain rfl := Option.some.inj H
        try go_wp2
        have n0_ := A_ (Kd.R_drew HO_11.out)
        have n1_ := A_ (Kd.R_drew HO_330000.out)
        have n2_ := A_ (blk_drew BK306.out)
        have n3_ := A_ (blk_drew BK329.out)
        have n4_ := A_ (below_drew1 HB.out)
        clear HO_11
        clear HO_330000
        clear BK306
        clear BK329
        clear HB
        have HO_11 := n0_
        have HO_330000 := n1_
        have BK306 := n2_
        have BK329 := n3_
        have HB := n4_
        clear n0_ n1_ n2_ n3_ n4_
        refine start_ (n := 5) (S := fun w' => w'.cell? ⟨gb329, 0, none⟩ = some (.slice Ao30 t321.length co30) ∧ w'.cell? ⟨gb329, 1, none⟩ = some (.int .i16 t324) ∧ w'.cell? ⟨gb329, 2, none⟩ = some (.int .i16 t325) ∧ w'.cell? ⟨gb329, 3, none⟩ = some (.int .i16 t326) ∧ w'.cell? ⟨gb329, 4, none⟩ = some (.int .i16 t327) ∧ w'.cell? ⟨gb329, 5, none⟩ = some (.bool t328) ∧ w'.cell? ⟨gb306, 0, none⟩ = some (.slice A0_0 l0_0.length c0_0) ∧ w'.cell? ⟨gb306, 1, none⟩ = some (.int .i16 a0_1) ∧ w'.cell? ⟨gb306, 2, none⟩ = some (.int .i16 a0_2) ∧ w'.cell? ⟨gb306, 3, none⟩ = some (.int .i16 a0_3) ∧ w'.cell? ⟨gb306, 4, none⟩ = some (.int .i16 a0_4) ∧ w'.cell? ⟨gb306, 5, none⟩ = some (.bool a0_5)) (ds := []) #[false, false, false, false, false] (by kernel_rfl) rfl rfl ⟨(blk_cell BK329.out 0).trans rfl, (blk_cell BK329.out 1).trans rfl, (blk_cell BK329.out 2).trans rfl, (blk_cell BK329.out 3).trans rfl, (blk_cell BK329.out 4).trans rfl, (blk_cell BK329.out 5).trans rfl, (blk_cell BK306.out 0).trans rfl, (blk_cell BK306.out 1).trans rfl, (blk_cell BK306.out 2).trans rfl, (blk_cell BK306.out 3).trans rfl, (blk_cell BK306.out 4).trans rfl, (blk_cell BK306.out 5).trans rfl⟩ (fun hHeld => ?_)
        generalize wc.drew = w45 at HO_11 HO_330000 BK306 BK329 HB hHeld ⊢
        refine take_ (i := 0) (N := some 50) (v := ?_) (a' := ?_) #[true, false, false, false, false] rfl rfl (by kernel_rfl) (fun _ _ _ h => h) (Or.inl ⟨by rfl, ?_⟩) hHeld ?_ ?_
        rotate_left
        ·rintro w' ⟨s0, s1, s2, s3, s4, s5, s6, s7, s8, s9, s10, s11⟩
         go_simp
         with_reducible rfl
        rotate_left
        ·simp only [Act.put, sp_]
         rfl
        refine take_ (i := 1) (N := some 51) (v := ?_) (a' := ?_) #[true, true, false, false, false] rfl rfl (by kernel_rfl) (fun _ _ _ h => h) (Or.inl ⟨by rfl, ?_⟩) hHeld ?_ ?_
        rotate_left
        ·rintro w' ⟨s0, s1, s2, s3, s4, s5, s6, s7, s8, s9, s10, s11⟩
         go_simp
         with_reducible rfl
        rotate_left
        ·simp only [Act.put, sp_]
         rfl
        refine one_ (i := 2) (N := some 52) #[true, true, true, false, false] rfl rfl (by kernel_rfl) (by decide) (fun K hK => ?_)
        refine goes_ Try.func18 (by kernel_rfl) rfl #[.agg #[.slice A0_0 l0_0.length c0_0, .int .i16 a0_1, .int .i16 a0_2, .int .i16 a0_3, .int .i16 a0_4, .bool a0_5]] (by rfl) rfl rfl arg_ ?_
        with_reducible refine (laws_toPuzzle.calls kj16 _ _ l0_0 a0_1 a0_2 a0_3 a0_4 a0_5 t335 t338 t339 t340 t341 t342 _ ?side1 ?side2 A39.out).mono ?_
        (case side1 => exact Kd.C_below HR0_0.out (bl_ HB))
        (case side2 => exact HC0_0.out)
        rintro e w46 ⟨v336, rfl, ho0, hb⟩
        refine ⟨_, rfl, ?_⟩
        have n0_ := A_ (Kd.R_elder' (pr_ HO_11) (Kd.R_base ho0) hb)
        have n1_ := A_ (Kd.R_elder' (pr_ HO_330000) (Kd.R_base ho0) hb)
        have n2_ := A_ (Kd.R_lower (Kd.R_new' (Kd.R_new' ho0 (Kd.R_lt (pr_ HO_11))) (Kd.R_lt (pr_ HO_330000))) (below_size (bl_ HB)))
        have n3_ := A_ (blk_below (pl_ BK306) hb)
        have n4_ := A_ (blk_below (pl_ BK329) hb)
        have n5_ := A_ (below_step (bl_ HB) hb)
        clear HO_11
        clear HO_330000
        clear BK306
        clear BK329
        clear HB
        have HO_11 := n0_
        have HO_330000 := n1_
        have HO337 := n2_
        have BK306 := n3_
        have BK329 := n4_
        have HB := n5_
        clear n0_ n1_ n2_ n3_ n4_ n5_
        (try clear hb)
        (try clear hb2)
        (try clear hk)
        (try clear hi)
        (try clear ho0)
        obtain ⟨Ao47, co47, eo47⟩ := Kd.R_slice HO337.out
        (first | subst eo47 | (injection eo47 with f1_ f2_ f3_; have f4_ := f1_.symm; have f5_ := f3_.symm; clear f1_ f2_ f3_; subst f4_; subst f5_))
        refine hK.out _ _ ⟨(blk_cell BK329.out 0).trans rfl, (blk_cell BK329.out 1).trans rfl, (blk_cell BK329.out 2).trans rfl, (blk_cell BK329.out 3).trans rfl, (blk_cell BK329.out 4).trans rfl, (blk_cell BK329.out 5).trans rfl, (blk_cell BK306.out 0).trans rfl, (blk_cell BK306.out 1).trans rfl, (blk_cell BK306.out 2).trans rfl, (blk_cell BK306.out 3).trans rfl, (blk_cell BK306.out 4).trans rfl, (blk_cell BK306.out 5).trans rfl⟩ (fun hHeld => ?_)
        clear hK K
        refine norm_ (a' := ?_) ?_ ?_
        rotate_left
        ·show Act.put _ (some 52) _ = _
         simp only [Act.put, sp_]
         rfl
        refine one_ (i := 3) (N := some 53) #[true, true, true, true, false] rfl rfl (by kernel_rfl) (by decide) (fun K hK => ?_)
        refine goes_ Try.func21 (by kernel_rfl) rfl #[.agg #[.slice Ao30 t321.length co30, .int .i16 t324, .int .i16 t325, .int .i16 t326, .int .i16 t327, .bool t328], .agg #[.slice Ao47 t335.length co47, .int .i16 t338, .int .i16 t339, .int .i16 t340, .int .i16 t341, .bool t342]] (by rfl) rfl rfl arg_ ?_
        with_reducible refine (laws_eqPuzzle.calls kj16 _ _ t321 t324 t325 t326 t327 t328 _ _ t335 t338 t339 t340 t341 t342 true _ ?side1 ?side2 ?side3 ?side4 A40.out).mono ?_
        (case side1 => repeat (first | exact (Kd.R_reads' HO_330000.out).2.2 | (with_reducible refine Kd.C_alloc ?_ _) | (with_reducible refine Kd.C_drewN ?_ _) | (with_reducible refine Kd.C_drew ?_)))
        (case side2 => exact (Kd.R_reads' HO_330000.out).2.1)
        (case side3 => repeat (first | exact (Kd.R_reads' HO337.out).2.2 | (with_reducible refine Kd.C_alloc ?_ _) | (with_reducible refine Kd.C_drewN ?_ _) | (with_reducible refine Kd.C_drew ?_)))
        (case side4 => exact (Kd.R_reads' HO337.out).2.1)
        rintro e w48 ⟨rfl, hb⟩
        refine ⟨_, rfl, ?_⟩
        have n0_ := A_ (Kd.R_below (pr_ HO_11) hb)
        have n1_ := A_ (Kd.R_below (pr_ HO_330000) hb)
        have n2_ := A_ (Kd.R_below (pr_ HO337) hb)
        have n3_ := A_ (blk_below (pl_ BK306) hb)
        have n4_ := A_ (blk_below (pl_ BK329) hb)
        have n5_ := A_ (below_step (bl_ HB) hb)
        clear HO_11
        clear HO_330000
        clear HO337
        clear BK306
        clear BK329
        clear HB
        have HO_11 := n0_
        have HO_330000 := n1_
        have HO337 := n2_
        have BK306 := n3_
        have BK329 := n4_
        have HB := n5_
        clear n0_ n1_ n2_ n3_ n4_ n5_
        (try clear hb)
        (try clear hb2)
        (try clear hk)
        (try clear hi)
        refine hK.out _ _ ⟨(blk_cell BK329.out 0).trans rfl, (blk_cell BK329.out 1).trans rfl, (blk_cell BK329.out 2).trans rfl, (blk_cell BK329.out 3).trans rfl, (blk_cell BK329.out 4).trans rfl, (blk_cell BK329.out 5).trans rfl, (blk_cell BK306.out 0).trans rfl, (blk_cell BK306.out 1).trans rfl, (blk_cell BK306.out 2).trans rfl, (blk_cell BK306.out 3).trans rfl, (blk_cell BK306.out 4).trans rfl, (blk_cell BK306.out 5).trans rfl⟩ (fun hHeld => ?_)
        clear hK K
        refine norm_ (a' := ?_) ?_ ?_
        rotate_left
        ·show Act.put _ (some 53) _ = _
         simp only [Act.put, sp_]
         rfl
        refine pure_ (i := 4) (N := some 54) (v := ?_) (a' := ?_) #[true, true, true, true, true] rfl rfl (by kernel_rfl) (fun _ _ _ h => h) (Or.inl ⟨by rfl, ?_⟩) ?_ ?_
        rotate_left
        ·intro w'
         go_simp
         with_reducible rfl
        rotate_left
        ·simp only [Act.put, sp_]
         rfl
        refine done_ (by kernel_rfl) ?_
        try go_wp2_with (first | ((with_reducible refine gate_callee (f := 19) rfl ?_); refine goesL_ (some 57) rfl rfl Try.func19 (by kernel_rfl) rfl #[.slice A1 l1.length c1] rfl arg_ ?_; (with_reducible refine (laws_toInt16S.calls kj16 _ _ l1 t344 _ ?side1 ?side2 A42.out).mono ?_); (case side1 => exact Kd.C_below HR1.out (bl_ HB)); (case side2 => exact HC1.out); rintro e w49 ⟨v345, rfl, ho0, hb⟩; refine ⟨_, rfl, ?_⟩; have n0_ := A_ (Kd.R_elder' (pr_ HO_11) (Kd.R_base ho0) hb); have n1_ := A_ (Kd.R_elder' (pr_ HO_330000) (Kd.R_base ho0) hb); have n2_ := A_ (Kd.R_elder' (pr_ HO337) (Kd.R_base ho0) hb); have n3_ := A_ (Kd.R_lower (Kd.R_new' (Kd.R_new' (Kd.R_new' ho0 (Kd.R_lt (pr_ HO_11))) (Kd.R_lt (pr_ HO_330000))) (Kd.R_lt (pr_ HO337))) (below_size (bl_ HB))); have n4_ := A_ (blk_below (pl_ BK306) hb); have n5_ := A_ (blk_below (pl_ BK329) hb); have n6_ := A_ (below_step (bl_ HB) hb); clear HO_11; clear HO_330000; clear HO337; clear BK306; clear BK329; clear HB; have HO_11 := n0_; have HO_330000 := n1_; have HO337 := n2_; have HO346 := n3_; have BK306 := n4_; have BK329 := n5_; have HB := n6_; clear n0_ n1_ n2_ n3_ n4_ n5_ n6_; (try clear hb); (try clear hb2); (try clear hk); (try clear hi); (try clear ho0); obtain ⟨Ao50, co50, eo50⟩ := Kd.R_slice HO346.out; subst eo50) | ((with_reducible refine gate_callee (f := 22) rfl ?_); refine goesL_ (some 58) rfl rfl Try.func22 (by kernel_rfl) rfl #[.slice Ao35 t330.length co35, .slice Ao50 t344.length co50] rfl arg_ ?_; (with_reducible refine (laws_eqInt16S.calls kj16 _ _ t330 _ _ t344 true _ ?side1 ?side2 ?side3 ?side4 A43.out).mono ?_); (case side1 => repeat (first | exact (Kd.R_reads' HO_11.out).2.2 | (with_reducible refine Kd.C_alloc ?_ _) | (with_reducible refine Kd.C_drewN ?_ _) | (with_reducible refine Kd.C_drew ?_))); (case side2 => exact (Kd.R_reads' HO_11.out).2.1); (case side3 => repeat (first | exact (Kd.R_reads' HO346.out).2.2 | (with_reducible refine Kd.C_alloc ?_ _) | (with_reducible refine Kd.C_drewN ?_ _) | (with_reducible refine Kd.C_drew ?_))); (case side4 => exact (Kd.R_reads' HO346.out).2.1); rintro e w' ⟨rfl, ⟨nd, rfl⟩⟩; refine ⟨_, rfl, ?_⟩))
        go_ret
        exact ⟨by first | rfl | (simp [errW_none, errW_some] <;> rfl) | (simp [*, errW_none, errW_some] <;> rfl), bl_ HB⟩
       ·replace c44 := Bool.eq_false_iff.mpr c44
        subst c44
        have H1 : (some false) = some r := by rw [if_neg (show ¬ (false = true) by decide)] at H; exact H
        clear H
        have H := H1
        clear H1
        obtain rfl := Option.some.inj H
        try go_wp2
        have n0_ := A_ (Kd.R_drew HO_11.out)
        have n1_ := A_ (Kd.R_drew HO_330000.out)
        have n2_ := A_ (blk_drew BK306.out)
        have n3_ := A_ (blk_drew BK329.out)
        have n4_ := A_ (below_drew1 HB.out)
        clear HO_11
        clear HO_330000
        clear BK306
        clear BK329
        clear HB
        have HO_11 := n0_
        have HO_330000 := n1_
        have BK306 := n2_
        have BK329 := n3_
        have HB := n4_
        clear n0_ n1_ n2_ n3_ n4_
        refine start_ (n := 5) (S := fun w' => w'.cell? ⟨gb329, 0, none⟩ = some (.slice Ao30 t321.length co30) ∧ w'.cell? ⟨gb329, 1, none⟩ = some (.int .i16 t324) ∧ w'.cell? ⟨gb329, 2, none⟩ = some (.int .i16 t325) ∧ w'.cell? ⟨gb329, 3, none⟩ = some (.int .i16 t326) ∧ w'.cell? ⟨gb329, 4, none⟩ = some (.int .i16 t327) ∧ w'.cell? ⟨gb329, 5, none⟩ = some (.bool t328) ∧ w'.cell? ⟨gb306, 0, none⟩ = some (.slice A0_0 l0_0.length c0_0) ∧ w'.cell? ⟨gb306, 1, none⟩ = some (.int .i16 a0_1) ∧ w'.cell? ⟨gb306, 2, none⟩ = some (.int .i16 a0_2) ∧ w'.cell? ⟨gb306, 3, none⟩ = some (.int .i16 a0_3) ∧ w'.cell? ⟨gb306, 4, none⟩ = some (.int .i16 a0_4) ∧ w'.cell? ⟨gb306, 5, none⟩ = some (.bool a0_5)) (ds := []) #[false, false, false, false, false] (by kernel_rfl) rfl rfl ⟨(blk_cell BK329.out 0).trans rfl, (blk_cell BK329.out 1).trans rfl, (blk_cell BK329.out 2).trans rfl, (blk_cell BK329.out 3).trans rfl, (blk_cell BK329.out 4).trans rfl, (blk_cell BK329.out 5).trans rfl, (blk_cell BK306.out 0).trans rfl, (blk_cell BK306.out 1).trans rfl, (blk_cell BK306.out 2).trans rfl, (blk_cell BK306.out 3).trans rfl, (blk_cell BK306.out 4).trans rfl, (blk_cell BK306.out 5).trans rfl⟩ (fun hHeld => ?_)
        generalize wc.drew = w51 at HO_11 HO_330000 BK306 BK329 HB hHeld ⊢
        refine take_ (i := 0) (N := some 50) (v := ?_) (a' := ?_) #[true, false, false, false, false] rfl rfl (by kernel_rfl) (fun _ _ _ h => h) (Or.inl ⟨by rfl, ?_⟩) hHeld ?_ ?_
        rotate_left
        ·rintro w' ⟨s0, s1, s2, s3, s4, s5, s6, s7, s8, s9, s10, s11⟩
         go_simp
         with_reducible rfl
        rotate_left
        ·simp only [Act.put, sp_]
         rfl
        refine take_ (i := 1) (N := some 51) (v := ?_) (a' := ?_) #[true, true, false, false, false] rfl rfl (by kernel_rfl) (fun _ _ _ h => h) (Or.inl ⟨by rfl, ?_⟩) hHeld ?_ ?_
        rotate_left
        ·rintro w' ⟨s0, s1, s2, s3, s4, s5, s6, s7, s8, s9, s10, s11⟩
         go_simp
         with_reducible rfl
        rotate_left
        ·simp only [Act.put, sp_]
         rfl
        refine one_ (i := 2) (N := some 52) #[true, true, true, false, false] rfl rfl (by kernel_rfl) (by decide) (fun K hK => ?_)
        refine goes_ Try.func18 (by kernel_rfl) rfl #[.agg #[.slice A0_0 l0_0.length c0_0, .int .i16 a0_1, .int .i16 a0_2, .int .i16 a0_3, .int .i16 a0_4, .bool a0_5]] (by rfl) rfl rfl arg_ ?_
        with_reducible refine (laws_toPuzzle.calls kj16 _ _ l0_0 a0_1 a0_2 a0_3 a0_4 a0_5 t335 t338 t339 t340 t341 t342 _ ?side1 ?side2 A39.out).mono ?_
        (case side1 => exact Kd.C_below HR0_0.out (bl_ HB))
        (case side2 => exact HC0_0.out)
        rintro e w52 ⟨v336, rfl, ho0, hb⟩
        refine ⟨_, rfl, ?_⟩
        have n0_ := A_ (Kd.R_elder' (pr_ HO_11) (Kd.R_base ho0) hb)
        have n1_ := A_ (Kd.R_elder' (pr_ HO_330000) (Kd.R_base ho0) hb)
        have n2_ := A_ (Kd.R_lower (Kd.R_new' (Kd.R_new' ho0 (Kd.R_lt (pr_ HO_11))) (Kd.R_lt (pr_ HO_330000))) (below_size (bl_ HB)))
        have n3_ := A_ (blk_below (pl_ BK306) hb)
        have n4_ := A_ (blk_below (pl_ BK329) hb)
        have n5_ := A_ (below_step (bl_ HB) hb)
        clear HO_11
        clear HO_330000
        clear BK306
        clear BK329
        clear HB
        have HO_11 := n0_
        have HO_330000 := n1_
        have HO337 := n2_
        have BK306 := n3_
        have BK329 := n4_
        have HB := n5_
        clear n0_ n1_ n2_ n3_ n4_ n5_
        (try clear hb)
        (try clear hb2)
        (try clear hk)
        (try clear hi)
        (try clear ho0)
        obtain ⟨Ao53, co53, eo53⟩ := Kd.R_slice HO337.out
        (first | subst eo53 | (injection eo53 with f1_ f2_ f3_; have f4_ := f1_.symm; have f5_ := f3_.symm; clear f1_ f2_ f3_; subst f4_; subst f5_))
        refine hK.out _ _ ⟨(blk_cell BK329.out 0).trans rfl, (blk_cell BK329.out 1).trans rfl, (blk_cell BK329.out 2).trans rfl, (blk_cell BK329.out 3).trans rfl, (blk_cell BK329.out 4).trans rfl, (blk_cell BK329.out 5).trans rfl, (blk_cell BK306.out 0).trans rfl, (blk_cell BK306.out 1).trans rfl, (blk_cell BK306.out 2).trans rfl, (blk_cell BK306.out 3).trans rfl, (blk_cell BK306.out 4).trans rfl, (blk_cell BK306.out 5).trans rfl⟩ (fun hHeld => ?_)
        clear hK K
        refine norm_ (a' := ?_) ?_ ?_
        rotate_left
        ·show Act.put _ (some 52) _ = _
         simp only [Act.put, sp_]
         rfl
        refine one_ (i := 3) (N := some 53) #[true, true, true, true, false] rfl rfl (by kernel_rfl) (by decide) (fun K hK => ?_)
        refine goes_ Try.func21 (by kernel_rfl) rfl #[.agg #[.slice Ao30 t321.length co30, .int .i16 t324, .int .i16 t325, .int .i16 t326, .int .i16 t327, .bool t328], .agg #[.slice Ao53 t335.length co53, .int .i16 t338, .int .i16 t339, .int .i16 t340, .int .i16 t341, .bool t342]] (by rfl) rfl rfl arg_ ?_
        with_reducible refine (laws_eqPuzzle.calls kj16 _ _ t321 t324 t325 t326 t327 t328 _ _ t335 t338 t339 t340 t341 t342 true _ ?side1 ?side2 ?side3 ?side4 A40.out).mono ?_
        (case side1 => repeat (first | exact (Kd.R_reads' HO_330000.out).2.2 | (with_reducible refine Kd.C_alloc ?_ _) | (with_reducible refine Kd.C_drewN ?_ _) | (with_reducible refine Kd.C_drew ?_)))
        (case side2 => exact (Kd.R_reads' HO_330000.out).2.1)
        (case side3 => repeat (first | exact (Kd.R_reads' HO337.out).2.2 | (with_reducible refine Kd.C_alloc ?_ _) | (with_reducible refine Kd.C_drewN ?_ _) | (with_reducible refine Kd.C_drew ?_)))
        (case side4 => exact (Kd.R_reads' HO337.out).2.1)
        rintro e w54 ⟨rfl, hb⟩
        refine ⟨_, rfl, ?_⟩
        have n0_ := A_ (Kd.R_below (pr_ HO_11) hb)
        have n1_ := A_ (Kd.R_below (pr_ HO_330000) hb)
        have n2_ := A_ (Kd.R_below (pr_ HO337) hb)
        have n3_ := A_ (blk_below (pl_ BK306) hb)
        have n4_ := A_ (blk_below (pl_ BK329) hb)
        have n5_ := A_ (below_step (bl_ HB) hb)
        clear HO_11
        clear HO_330000
        clear HO337
        clear BK306
        clear BK329
        clear HB
        have HO_11 := n0_
        have HO_330000 := n1_
        have HO337 := n2_
        have BK306 := n3_
        have BK329 := n4_
        have HB := n5_
        clear n0_ n1_ n2_ n3_ n4_ n5_
        (try clear hb)
        (try clear hb2)
        (try clear hk)
        (try clear hi)
        refine hK.out _ _ ⟨(blk_cell BK329.out 0).trans rfl, (blk_cell BK329.out 1).trans rfl, (blk_cell BK329.out 2).trans rfl, (blk_cell BK329.out 3).trans rfl, (blk_cell BK329.out 4).trans rfl, (blk_cell BK329.out 5).trans rfl, (blk_cell BK306.out 0).trans rfl, (blk_cell BK306.out 1).trans rfl, (blk_cell BK306.out 2).trans rfl, (blk_cell BK306.out 3).trans rfl, (blk_cell BK306.out 4).trans rfl, (blk_cell BK306.out 5).trans rfl⟩ (fun hHeld => ?_)
        clear hK K
        refine norm_ (a' := ?_) ?_ ?_
        rotate_left
        ·show Act.put _ (some 53) _ = _
         simp only [Act.put, sp_]
         rfl
        refine pure_ (i := 4) (N := some 54) (v := ?_) (a' := ?_) #[true, true, true, true, true] rfl rfl (by kernel_rfl) (fun _ _ _ h => h) (Or.inl ⟨by rfl, ?_⟩) ?_ ?_
        rotate_left
        ·intro w'
         go_simp
         with_reducible rfl
        rotate_left
        ·simp only [Act.put, sp_]
         rfl
        refine done_ (by kernel_rfl) ?_
        try go_wp2_with (first | ((with_reducible refine gate_callee (f := 19) rfl ?_); refine goesL_ (some 57) rfl rfl Try.func19 (by kernel_rfl) rfl #[.slice A1 l1.length c1] rfl arg_ ?_; (with_reducible refine (laws_toInt16S.calls kj16 _ _ l1 t344 _ ?side1 ?side2 A42.out).mono ?_); (case side1 => exact Kd.C_below HR1.out (bl_ HB)); (case side2 => exact HC1.out); rintro e w55 ⟨v345, rfl, ho0, hb⟩; refine ⟨_, rfl, ?_⟩; have n0_ := A_ (Kd.R_elder' (pr_ HO_11) (Kd.R_base ho0) hb); have n1_ := A_ (Kd.R_elder' (pr_ HO_330000) (Kd.R_base ho0) hb); have n2_ := A_ (Kd.R_elder' (pr_ HO337) (Kd.R_base ho0) hb); have n3_ := A_ (Kd.R_lower (Kd.R_new' (Kd.R_new' (Kd.R_new' ho0 (Kd.R_lt (pr_ HO_11))) (Kd.R_lt (pr_ HO_330000))) (Kd.R_lt (pr_ HO337))) (below_size (bl_ HB))); have n4_ := A_ (blk_below (pl_ BK306) hb); have n5_ := A_ (blk_below (pl_ BK329) hb); have n6_ := A_ (below_step (bl_ HB) hb); clear HO_11; clear HO_330000; clear HO337; clear BK306; clear BK329; clear HB; have HO_11 := n0_; have HO_330000 := n1_; have HO337 := n2_; have HO346 := n3_; have BK306 := n4_; have BK329 := n5_; have HB := n6_; clear n0_ n1_ n2_ n3_ n4_ n5_ n6_; (try clear hb); (try clear hb2); (try clear hk); (try clear hi); (try clear ho0); obtain ⟨Ao56, co56, eo56⟩ := Kd.R_slice HO346.out; subst eo56) | ((with_reducible refine gate_callee (f := 22) rfl ?_); refine goesL_ (some 58) rfl rfl Try.func22 (by kernel_rfl) rfl #[.slice Ao35 t330.length co35, .slice Ao56 t344.length co56] rfl arg_ ?_; (with_reducible refine (laws_eqInt16S.calls kj16 _ _ t330 _ _ t344 false _ ?side1 ?side2 ?side3 ?side4 A43.out).mono ?_); (case side1 => repeat (first | exact (Kd.R_reads' HO_11.out).2.2 | (with_reducible refine Kd.C_alloc ?_ _) | (with_reducible refine Kd.C_drewN ?_ _) | (with_reducible refine Kd.C_drew ?_))); (case side2 => exact (Kd.R_reads' HO_11.out).2.1); (case side3 => repeat (first | exact (Kd.R_reads' HO346.out).2.2 | (with_reducible refine Kd.C_alloc ?_ _) | (with_reducible refine Kd.C_drewN ?_ _) | (with_reducible refine Kd.C_drew ?_))); (case side4 => exact (Kd.R_reads' HO346.out).2.1); rintro e w' ⟨rfl, ⟨nd, rfl⟩⟩; refine ⟨_, rfl, ?_⟩))
        go_ret
        exact ⟨by first | rfl | (simp [errW_none, errW_some] <;> rfl) | (simp [*, errW_none, errW_some] <;> rfl), bl_ HB⟩
      ·replace c41 := Bool.eq_false_iff.mpr c41
       subst c41
       have H1 : (some false) = some r := by rw [if_neg (show ¬ (false = true) by decide)] at H; exact H
       clear H
       have H := H1
       clear H1
       obtain rfl := Option.some.inj H
       try go_wp2
       have n0_ := A_ (Kd.R_drew HO_11.out)
       have n1_ := A_ (Kd.R_drew HO_330000.out)
       have n2_ := A_ (blk_drew BK306.out)
       have n3_ := A_ (blk_drew BK329.out)
       have n4_ := A_ (below_drew1 HB.out)
       clear HO_11
       clear HO_330000
       clear BK306
       clear BK329
       clear HB
       have HO_11 := n0_
       have HO_330000 := n1_
       have BK306 := n2_
       have BK329 := n3_
       have HB := n4_
       clear n0_ n1_ n2_ n3_ n4_
       refine start_ (n := 5) (S := fun w' => w'.cell? ⟨gb329, 0, none⟩ = some (.slice Ao30 t321.length co30) ∧ w'.cell? ⟨gb329, 1, none⟩ = some (.int .i16 t324) ∧ w'.cell? ⟨gb329, 2, none⟩ = some (.int .i16 t325) ∧ w'.cell? ⟨gb329, 3, none⟩ = some (.int .i16 t326) ∧ w'.cell? ⟨gb329, 4, none⟩ = some (.int .i16 t327) ∧ w'.cell? ⟨gb329, 5, none⟩ = some (.bool t328) ∧ w'.cell? ⟨gb306, 0, none⟩ = some (.slice A0_0 l0_0.length c0_0) ∧ w'.cell? ⟨gb306, 1, none⟩ = some (.int .i16 a0_1) ∧ w'.cell? ⟨gb306, 2, none⟩ = some (.int .i16 a0_2) ∧ w'.cell? ⟨gb306, 3, none⟩ = some (.int .i16 a0_3) ∧ w'.cell? ⟨gb306, 4, none⟩ = some (.int .i16 a0_4) ∧ w'.cell? ⟨gb306, 5, none⟩ = some (.bool a0_5)) (ds := []) #[false, false, false, false, false] (by kernel_rfl) rfl rfl ⟨(blk_cell BK329.out 0).trans rfl, (blk_cell BK329.out 1).trans rfl, (blk_cell BK329.out 2).trans rfl, (blk_cell BK329.out 3).trans rfl, (blk_cell BK329.out 4).trans rfl, (blk_cell BK329.out 5).trans rfl, (blk_cell BK306.out 0).trans rfl, (blk_cell BK306.out 1).trans rfl, (blk_cell BK306.out 2).trans rfl, (blk_cell BK306.out 3).trans rfl, (blk_cell BK306.out 4).trans rfl, (blk_cell BK306.out 5).trans rfl⟩ (fun hHeld => ?_)
       generalize wc.drew = w57 at HO_11 HO_330000 BK306 BK329 HB hHeld ⊢
       refine take_ (i := 0) (N := some 50) (v := ?_) (a' := ?_) #[true, false, false, false, false] rfl rfl (by kernel_rfl) (fun _ _ _ h => h) (Or.inl ⟨by rfl, ?_⟩) hHeld ?_ ?_
       rotate_left
       ·rintro w' ⟨s0, s1, s2, s3, s4, s5, s6, s7, s8, s9, s10, s11⟩
        go_simp
        with_reducible rfl
       rotate_left
       ·simp only [Act.put, sp_]
        rfl
       refine take_ (i := 1) (N := some 51) (v := ?_) (a' := ?_) #[true, true, false, false, false] rfl rfl (by kernel_rfl) (fun _ _ _ h => h) (Or.inl ⟨by rfl, ?_⟩) hHeld ?_ ?_
       rotate_left
       ·rintro w' ⟨s0, s1, s2, s3, s4, s5, s6, s7, s8, s9, s10, s11⟩
        go_simp
        with_reducible rfl
       rotate_left
       ·simp only [Act.put, sp_]
        rfl
       refine one_ (i := 2) (N := some 52) #[true, true, true, false, false] rfl rfl (by kernel_rfl) (by decide) (fun K hK => ?_)
       refine goes_ Try.func18 (by kernel_rfl) rfl #[.agg #[.slice A0_0 l0_0.length c0_0, .int .i16 a0_1, .int .i16 a0_2, .int .i16 a0_3, .int .i16 a0_4, .bool a0_5]] (by rfl) rfl rfl arg_ ?_
       with_reducible refine (laws_toPuzzle.calls kj16 _ _ l0_0 a0_1 a0_2 a0_3 a0_4 a0_5 t335 t338 t339 t340 t341 t342 _ ?side1 ?side2 A39.out).mono ?_
       (case side1 => exact Kd.C_below HR0_0.out (bl_ HB))
       (case side2 => exact HC0_0.out)
       rintro e w58 ⟨v336, rfl, ho0, hb⟩
       refine ⟨_, rfl, ?_⟩
       have n0_ := A_ (Kd.R_elder' (pr_ HO_11) (Kd.R_base ho0) hb)
       have n1_ := A_ (Kd.R_elder' (pr_ HO_330000) (Kd.R_base ho0) hb)
       have n2_ := A_ (Kd.R_lower (Kd.R_new' (Kd.R_new' ho0 (Kd.R_lt (pr_ HO_11))) (Kd.R_lt (pr_ HO_330000))) (below_size (bl_ HB)))
       have n3_ := A_ (blk_below (pl_ BK306) hb)
       have n4_ := A_ (blk_below (pl_ BK329) hb)
       have n5_ := A_ (below_step (bl_ HB) hb)
       clear HO_11
       clear HO_330000
       clear BK306
       clear BK329
       clear HB
       have HO_11 := n0_
       have HO_330000 := n1_
       have HO337 := n2_
       have BK306 := n3_
       have BK329 := n4_
       have HB := n5_
       clear n0_ n1_ n2_ n3_ n4_ n5_
       (try clear hb)
       (try clear hb2)
       (try clear hk)
       (try clear hi)
       (try clear ho0)
       obtain ⟨Ao59, co59, eo59⟩ := Kd.R_slice HO337.out
       (first | subst eo59 | (injection eo59 with f1_ f2_ f3_; have f4_ := f1_.symm; have f5_ := f3_.symm; clear f1_ f2_ f3_; subst f4_; subst f5_))
       refine hK.out _ _ ⟨(blk_cell BK329.out 0).trans rfl, (blk_cell BK329.out 1).trans rfl, (blk_cell BK329.out 2).trans rfl, (blk_cell BK329.out 3).trans rfl, (blk_cell BK329.out 4).trans rfl, (blk_cell BK329.out 5).trans rfl, (blk_cell BK306.out 0).trans rfl, (blk_cell BK306.out 1).trans rfl, (blk_cell BK306.out 2).trans rfl, (blk_cell BK306.out 3).trans rfl, (blk_cell BK306.out 4).trans rfl, (blk_cell BK306.out 5).trans rfl⟩ (fun hHeld => ?_)
       clear hK K
       refine norm_ (a' := ?_) ?_ ?_
       rotate_left
       ·show Act.put _ (some 52) _ = _
        simp only [Act.put, sp_]
        rfl
       refine one_ (i := 3) (N := some 53) #[true, true, true, true, false] rfl rfl (by kernel_rfl) (by decide) (fun K hK => ?_)
       refine goes_ Try.func21 (by kernel_rfl) rfl #[.agg #[.slice Ao30 t321.length co30, .int .i16 t324, .int .i16 t325, .int .i16 t326, .int .i16 t327, .bool t328], .agg #[.slice Ao59 t335.length co59, .int .i16 t338, .int .i16 t339, .int .i16 t340, .int .i16 t341, .bool t342]] (by rfl) rfl rfl arg_ ?_
       with_reducible refine (laws_eqPuzzle.calls kj16 _ _ t321 t324 t325 t326 t327 t328 _ _ t335 t338 t339 t340 t341 t342 false _ ?side1 ?side2 ?side3 ?side4 A40.out).mono ?_
       (case side1 => repeat (first | exact (Kd.R_reads' HO_330000.out).2.2 | (with_reducible refine Kd.C_alloc ?_ _) | (with_reducible refine Kd.C_drewN ?_ _) | (with_reducible refine Kd.C_drew ?_)))
       (case side2 => exact (Kd.R_reads' HO_330000.out).2.1)
       (case side3 => repeat (first | exact (Kd.R_reads' HO337.out).2.2 | (with_reducible refine Kd.C_alloc ?_ _) | (with_reducible refine Kd.C_drewN ?_ _) | (with_reducible refine Kd.C_drew ?_)))
       (case side4 => exact (Kd.R_reads' HO337.out).2.1)
       rintro e w60 ⟨rfl, hb⟩
       refine ⟨_, rfl, ?_⟩
       have n0_ := A_ (Kd.R_below (pr_ HO_11) hb)
       have n1_ := A_ (Kd.R_below (pr_ HO_330000) hb)
       have n2_ := A_ (Kd.R_below (pr_ HO337) hb)
       have n3_ := A_ (blk_below (pl_ BK306) hb)
       have n4_ := A_ (blk_below (pl_ BK329) hb)
       have n5_ := A_ (below_step (bl_ HB) hb)
       clear HO_11
       clear HO_330000
       clear HO337
       clear BK306
       clear BK329
       clear HB
       have HO_11 := n0_
       have HO_330000 := n1_
       have HO337 := n2_
       have BK306 := n3_
       have BK329 := n4_
       have HB := n5_
       clear n0_ n1_ n2_ n3_ n4_ n5_
       (try clear hb)
       (try clear hb2)
       (try clear hk)
       (try clear hi)
       refine hK.out _ _ ⟨(blk_cell BK329.out 0).trans rfl, (blk_cell BK329.out 1).trans rfl, (blk_cell BK329.out 2).trans rfl, (blk_cell BK329.out 3).trans rfl, (blk_cell BK329.out 4).trans rfl, (blk_cell BK329.out 5).trans rfl, (blk_cell BK306.out 0).trans rfl, (blk_cell BK306.out 1).trans rfl, (blk_cell BK306.out 2).trans rfl, (blk_cell BK306.out 3).trans rfl, (blk_cell BK306.out 4).trans rfl, (blk_cell BK306.out 5).trans rfl⟩ (fun hHeld => ?_)
       clear hK K
       refine norm_ (a' := ?_) ?_ ?_
       rotate_left
       ·show Act.put _ (some 53) _ = _
        simp only [Act.put, sp_]
        rfl
       refine pure_ (i := 4) (N := some 54) (v := ?_) (a' := ?_) #[true, true, true, true, true] rfl rfl (by kernel_rfl) (fun _ _ _ h => h) (Or.inl ⟨by rfl, ?_⟩) ?_ ?_
       rotate_left
       ·intro w'
        go_simp
        with_reducible rfl
       rotate_left
       ·simp only [Act.put, sp_]
        rfl
       refine done_ (by kernel_rfl) ?_
       try go_wp2
       go_ret
       exact ⟨by first | rfl | (simp [errW_none, errW_some] <;> rfl) | (simp [*, errW_none, errW_some] <;> rfl), bl_ HB⟩

end Go.Proofs.Ytodmfjophjhbeaa.M
