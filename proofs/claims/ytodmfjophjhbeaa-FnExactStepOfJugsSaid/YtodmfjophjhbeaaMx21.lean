-- By this seat's own program over the kit's printer (arrays, functions told by hand); nothing of it is trusted: the kernel checks it.
import Derived.Test.YtodmfjophjhbeaaMx0
import Derived.Test.YtodmfjophjhbeaaMx2
import Derived.Test.YtodmfjophjhbeaaMx3
import Derived.Test.YtodmfjophjhbeaaMx5
import Derived.Test.YtodmfjophjhbeaaMx19
import Derived.Test.YtodmfjophjhbeaaMx20
namespace Go.Proofs.Ytodmfjophjhbeaa.M
open Go.RowKit Go.Proofs.YtodmfjophjhbeaaW.PrintWords Go.Proofs.YtodmfjophjhbeaaW.PrintLast Go.Proofs.YtodmfjophjhbeaaW.PrintMore
attribute [local go_sem] max2_int min2_int max_two min_two max_three min_three max_four min_four   -- for this text's walks alone
set_option linter.unusedVariables false
set_option linter.unusedSimpArgs false

/-! ### laws_FnExactStepOfJugs: function 7 -/
def laws_FnExactStepOfJugs.j0 : Nat → Bool → List Int → Int → Int → Int → Int → Bool → List Int → Int → Int → Int → Int → Bool → Option (Bool)
 | 0, _, _, _, _, _, _, _, _, _, _, _, _, _ => none
 | k + 1, x34, x164000, x164001, x164002, x164003, x164004, x164005, x184000, x184001, x184002, x184003, x184004, x184005 => if x34 = true then (some false) else ((laws_toPuzzle.f k x164000 x164001 x164002 x164003 x164004 x164005).bind fun bt186 => ((laws_eqPuzzle.f k x184000 x184001 x184002 x184003 x184004 x184005 bt186.1 bt186.2.1 bt186.2.2.1 bt186.2.2.2.1 bt186.2.2.2.2.1 bt186.2.2.2.2.2).bind fun t194 => (if t194 = true then (some true) else (some false))))
def laws_FnExactStepOfJugs.f (k : Nat) (l0_0 : List Int) (a0_1 : Int) (a0_2 : Int) (a0_3 : Int) (a0_4 : Int) (a0_5 : Bool) : Option (Bool) := (laws_szPuzzle.f l0_0 a0_1 a0_2 a0_3 a0_4 a0_5 1048576).bind fun t164 => (if t164 < 0 then (some true) else ((laws_toPuzzle.f k l0_0 a0_1 a0_2 a0_3 a0_4 a0_5).bind fun bt165 => ((spec_StepOfJugs.f k bt165.1 bt165.2.1 bt165.2.2.1 bt165.2.2.2.1 bt165.2.2.2.2.1 bt165.2.2.2.2.2).bind fun bt173 => ((laws_toPuzzle.f k l0_0 a0_1 a0_2 a0_3 a0_4 a0_5).bind fun bt175 => ((impl_StepOfJugs.f k bt175.1 bt175.2.1 bt175.2.2.1 bt175.2.2.2.1 bt175.2.2.2.2.1 bt175.2.2.2.2.2).bind fun bt184 => (if bt184.1 = bt173.1 then (laws_FnExactStepOfJugs.j0 k (bt184.2 != bt173.2) l0_0 a0_1 a0_2 a0_3 a0_4 a0_5 bt175.1 bt175.2.1 bt175.2.2.1 bt175.2.2.2.1 bt175.2.2.2.2.1 bt175.2.2.2.2.2) else (laws_FnExactStepOfJugs.j0 k true l0_0 a0_1 a0_2 a0_3 a0_4 a0_5 bt175.1 bt175.2.1 bt175.2.2.1 bt175.2.2.2.1 bt175.2.2.2.2.1 bt175.2.2.2.2.2)))))))
theorem laws_FnExactStepOfJugs.mono_l : ∀ k, (∀ y0 y1 y2 y3 y4 y5 y6 y7 y8 y9 y10 y11 y12, LeO (laws_FnExactStepOfJugs.j0 k y0 y1 y2 y3 y4 y5 y6 y7 y8 y9 y10 y11 y12) (laws_FnExactStepOfJugs.j0 (k + 1) y0 y1 y2 y3 y4 y5 y6 y7 y8 y9 y10 y11 y12))
 | 0 => fun _ _ _ _ _ _ _ _ _ _ _ _ _ r h => by simp [laws_FnExactStepOfJugs.j0] at h
 | k + 1 => by
  have ih0 := laws_FnExactStepOfJugs.mono_l k
  ·intro y0 y1 y2 y3 y4 y5 y6 y7 y8 y9 y10 y11 y12
   unfold laws_FnExactStepOfJugs.j0
   repeat' first
   | (with_reducible exact ih0 _ _ _ _ _ _ _ _ _ _ _ _ _)
   | (with_reducible exact impl_StepOfJugs.mono _ _ _ _ _ _ _)
   | (with_reducible exact laws_eqPuzzle.mono _ _ _ _ _ _ _ _ _ _ _ _ _)
   | (with_reducible exact laws_toPuzzle.mono _ _ _ _ _ _ _)
   | (with_reducible exact spec_StepOfJugs.mono _ _ _ _ _ _ _)
   | (with_reducible exact LeO.refl _)
   | (with_reducible exact LeO.none _)
   | (with_reducible refine LeO.ite ?_ ?_)
   | (with_reducible refine LeO.bind ?_ (fun _ => ?_))
   | exact ih0 _ _ _ _ _ _ _ _ _ _ _ _ _
   | exact impl_StepOfJugs.mono _ _ _ _ _ _ _
   | exact laws_eqPuzzle.mono _ _ _ _ _ _ _ _ _ _ _ _ _
   | exact laws_toPuzzle.mono _ _ _ _ _ _ _
   | exact spec_StepOfJugs.mono _ _ _ _ _ _ _
   | exact LeO.none _
   | refine LeO.ite ?_ ?_
   | refine LeO.bind ?_ (fun _ => ?_)
theorem laws_FnExactStepOfJugs.mono : ∀ a0 a1 a2 a3 a4 a5 k, LeO (laws_FnExactStepOfJugs.f k a0 a1 a2 a3 a4 a5) (laws_FnExactStepOfJugs.f (k + 1) a0 a1 a2 a3 a4 a5) := by
 intro a0 a1 a2 a3 a4 a5 k
 have ih0 := laws_FnExactStepOfJugs.mono_l k
 unfold laws_FnExactStepOfJugs.f
 repeat' first
   | (with_reducible exact ih0 _ _ _ _ _ _ _ _ _ _ _ _ _)
   | (with_reducible exact impl_StepOfJugs.mono _ _ _ _ _ _ _)
   | (with_reducible exact laws_eqPuzzle.mono _ _ _ _ _ _ _ _ _ _ _ _ _)
   | (with_reducible exact laws_toPuzzle.mono _ _ _ _ _ _ _)
   | (with_reducible exact spec_StepOfJugs.mono _ _ _ _ _ _ _)
   | (with_reducible exact LeO.refl _)
   | (with_reducible exact LeO.none _)
   | (with_reducible refine LeO.ite ?_ ?_)
   | (with_reducible refine LeO.bind ?_ (fun _ => ?_))
   | exact ih0 _ _ _ _ _ _ _ _ _ _ _ _ _
   | exact impl_StepOfJugs.mono _ _ _ _ _ _ _
   | exact laws_eqPuzzle.mono _ _ _ _ _ _ _ _ _ _ _ _ _
   | exact laws_toPuzzle.mono _ _ _ _ _ _ _
   | exact spec_StepOfJugs.mono _ _ _ _ _ _ _
   | exact LeO.none _
   | refine LeO.ite ?_ ?_
   | refine LeO.bind ?_ (fun _ => ?_)
set_option maxHeartbeats 8000000 in
set_option maxRecDepth 100000 in
theorem laws_FnExactStepOfJugs.calls (k : Nat) (A0_0 : Option Addr) (c0_0 : Nat) (l0_0 : List Int) (a0_1 : Int) (a0_2 : Int) (a0_3 : Int) (a0_4 : Int) (a0_5 : Bool) (r : Bool) (w : World) (hr0_0 : Kd.C (Kd.int .i16) w A0_0 l0_0.length l0_0) (hc0_0 : l0_0.length ≤ c0_0) (h : laws_FnExactStepOfJugs.f k l0_0 a0_1 a0_2 a0_3 a0_4 a0_5 = some r) :
  Calls Try.prog 7 #[.agg #[.slice A0_0 l0_0.length c0_0, .int .i16 a0_1, .int .i16 a0_2, .int .i16 a0_3, .int .i16 a0_4, .bool a0_5]] w fun e w' => e = .returned (.bool r) ∧ Below w.heap.size w w' := by
 have hu26 := Try.underlying26
 have hu32 := Try.underlying32
 have HR0_0 := Aside0.mk hr0_0
 have HC0_0 := Aside0.mk hc0_0
 clear hr0_0 hc0_0
 have HB := A_ (Below.refl w.heap.size w)
 have H : ((laws_szPuzzle.f l0_0 a0_1 a0_2 a0_3 a0_4 a0_5 1048576).bind fun t164 => (if t164 < 0 then (some true) else ((laws_toPuzzle.f k l0_0 a0_1 a0_2 a0_3 a0_4 a0_5).bind fun bt165 => ((spec_StepOfJugs.f k bt165.1 bt165.2.1 bt165.2.2.1 bt165.2.2.2.1 bt165.2.2.2.2.1 bt165.2.2.2.2.2).bind fun bt173 => ((laws_toPuzzle.f k l0_0 a0_1 a0_2 a0_3 a0_4 a0_5).bind fun bt175 => ((impl_StepOfJugs.f k bt175.1 bt175.2.1 bt175.2.2.1 bt175.2.2.2.1 bt175.2.2.2.2.1 bt175.2.2.2.2.2).bind fun bt184 => (if bt184.1 = bt173.1 then (laws_FnExactStepOfJugs.j0 k (bt184.2 != bt173.2) l0_0 a0_1 a0_2 a0_3 a0_4 a0_5 bt175.1 bt175.2.1 bt175.2.2.1 bt175.2.2.2.1 bt175.2.2.2.2.1 bt175.2.2.2.2.2) else (laws_FnExactStepOfJugs.j0 k true l0_0 a0_1 a0_2 a0_3 a0_4 a0_5 bt175.1 bt175.2.1 bt175.2.2.1 bt175.2.2.2.1 bt175.2.2.2.2.1 bt175.2.2.2.2.2)))))))) = some r := h
 clear h
 replace H := Option.bind_eq_some_iff.mp H
 obtain ⟨t164, A20, H⟩ := H
 replace H : (if t164 < 0 then (some true) else ((laws_toPuzzle.f k l0_0 a0_1 a0_2 a0_3 a0_4 a0_5).bind fun bt165 => ((spec_StepOfJugs.f k bt165.1 bt165.2.1 bt165.2.2.1 bt165.2.2.2.1 bt165.2.2.2.2.1 bt165.2.2.2.2.2).bind fun bt173 => ((laws_toPuzzle.f k l0_0 a0_1 a0_2 a0_3 a0_4 a0_5).bind fun bt175 => ((impl_StepOfJugs.f k bt175.1 bt175.2.1 bt175.2.2.1 bt175.2.2.2.1 bt175.2.2.2.2.1 bt175.2.2.2.2.2).bind fun bt184 => (if bt184.1 = bt173.1 then (laws_FnExactStepOfJugs.j0 k (bt184.2 != bt173.2) l0_0 a0_1 a0_2 a0_3 a0_4 a0_5 bt175.1 bt175.2.1 bt175.2.2.1 bt175.2.2.2.1 bt175.2.2.2.2.1 bt175.2.2.2.2.2) else (laws_FnExactStepOfJugs.j0 k true l0_0 a0_1 a0_2 a0_3 a0_4 a0_5 bt175.1 bt175.2.1 bt175.2.2.1 bt175.2.2.2.1 bt175.2.2.2.2.1 bt175.2.2.2.2.2))))))) = some r := H
 have A2 := Aside0.mk A20
 clear A20
 by_cases c3 : t164 < 0
 ·rw [if_pos c3] at H
  have c3b0 : decide (t164 < 0) = true := decide_eq_true c3
  clear c3
  obtain rfl := Option.some.inj H
  go_enter Try.func7, Try.ntmps7
  go_wp2_with (first | ((with_reducible refine gate_dst (N := 1) rfl ?_); refine box_event ?hg (N := 1) ?hd (cs := #[.slice A0_0 l0_0.length c0_0, .int .i16 a0_1, .int .i16 a0_2, .int .i16 a0_3, .int .i16 a0_4, .bool a0_5]) (t := 26) ?hr ?_; (case hd => rfl); (case hg => rfl); (case hr => first | (go_simp; done) | (go_simp; rfl)); intro gb163 hg w4 hbox hb; have n0_ := A_ (below_step (bl_ HB) hb); have n1_ := A_ (hbox); have n2_ := A_ ((by rw [hg]; exact (below_size (bl_ HB)) : w.heap.size ≤ gb163)); have n3_ := n2_; clear HB; have HB := n0_; have BK163 := n1_; have GW163 := n2_; have GE163 := n3_; clear n0_ n1_ n2_ n3_; clear hb hbox hg; have hcz5_0 : w4.cell? ⟨gb163, 0, none⟩ = some (.slice A0_0 l0_0.length c0_0) := (blk_cell BK163.out 0).trans rfl; have hcz5_1 : w4.cell? ⟨gb163, 1, none⟩ = some (.int .i16 a0_1) := (blk_cell BK163.out 1).trans rfl; have hcz5_2 : w4.cell? ⟨gb163, 2, none⟩ = some (.int .i16 a0_2) := (blk_cell BK163.out 2).trans rfl; have hcz5_3 : w4.cell? ⟨gb163, 3, none⟩ = some (.int .i16 a0_3) := (blk_cell BK163.out 3).trans rfl; have hcz5_4 : w4.cell? ⟨gb163, 4, none⟩ = some (.int .i16 a0_4) := (blk_cell BK163.out 4).trans rfl; have hcz5_5 : w4.cell? ⟨gb163, 5, none⟩ = some (.bool a0_5) := (blk_cell BK163.out 5).trans rfl; have hfz5_0 := blk_frozen BK163.out 0; have hfz5_1 := blk_frozen BK163.out 1; have hfz5_2 := blk_frozen BK163.out 2; have hfz5_3 := blk_frozen BK163.out 3; have hfz5_4 := blk_frozen BK163.out 4; have hfz5_5 := blk_frozen BK163.out 5) | ((with_reducible refine gate_callee (f := 16) rfl ?_); refine goesL_ (some 11) rfl rfl Try.func16 (by kernel_rfl) rfl #[.agg #[.slice A0_0 l0_0.length c0_0, .int .i16 a0_1, .int .i16 a0_2, .int .i16 a0_3, .int .i16 a0_4, .bool a0_5], .int .i64 1048576] rfl arg_ ?_; (with_reducible refine (laws_szPuzzle.calls _ _ l0_0 a0_1 a0_2 a0_3 a0_4 a0_5 1048576 t164 _ ?side1 ?side2 A2.out).mono ?_); (case side1 => repeat (first | exact (Kd.C_below HR0_0.out HB.out) | (with_reducible refine Kd.C_alloc ?_ _) | (with_reducible refine Kd.C_drewN ?_ _) | (with_reducible refine Kd.C_drew ?_))); (case side2 => exact HC0_0.out); rintro e w6 ⟨rfl, hb⟩; refine ⟨_, rfl, ?_⟩; have n0_ := A_ (blk_below (pl_ BK163) hb); have n1_ := A_ (below_step (bl_ HB) hb); clear BK163; clear HB; have BK163 := n0_; have HB := n1_; clear n0_ n1_; (try clear hb); (try clear hb2); (try clear hk); (try clear hi)))
  go_ret
  exact ⟨by first | rfl | (simp [errW_none, errW_some] <;> rfl) | (simp [*, errW_none, errW_some] <;> rfl), bl_ HB⟩
 ·rw [if_neg c3] at H
  have c3b0 : decide (t164 < 0) = false := decide_eq_false c3
  clear c3
  replace H := Option.bind_eq_some_iff.mp H
  obtain ⟨⟨t165, t168, t169, t170, t171, t172⟩, A70, H⟩ := H
  replace H : ((spec_StepOfJugs.f k t165 t168 t169 t170 t171 t172).bind fun bt173 => ((laws_toPuzzle.f k l0_0 a0_1 a0_2 a0_3 a0_4 a0_5).bind fun bt175 => ((impl_StepOfJugs.f k bt175.1 bt175.2.1 bt175.2.2.1 bt175.2.2.2.1 bt175.2.2.2.2.1 bt175.2.2.2.2.2).bind fun bt184 => (if bt184.1 = bt173.1 then (laws_FnExactStepOfJugs.j0 k (bt184.2 != bt173.2) l0_0 a0_1 a0_2 a0_3 a0_4 a0_5 bt175.1 bt175.2.1 bt175.2.2.1 bt175.2.2.2.1 bt175.2.2.2.2.1 bt175.2.2.2.2.2) else (laws_FnExactStepOfJugs.j0 k true l0_0 a0_1 a0_2 a0_3 a0_4 a0_5 bt175.1 bt175.2.1 bt175.2.2.1 bt175.2.2.2.1 bt175.2.2.2.2.1 bt175.2.2.2.2.2))))) = some r := H
  have A7 := Aside0.mk A70
  clear A70
  replace H := Option.bind_eq_some_iff.mp H
  obtain ⟨⟨t173, t174⟩, A80, H⟩ := H
  replace H : ((laws_toPuzzle.f k l0_0 a0_1 a0_2 a0_3 a0_4 a0_5).bind fun bt175 => ((impl_StepOfJugs.f k bt175.1 bt175.2.1 bt175.2.2.1 bt175.2.2.2.1 bt175.2.2.2.2.1 bt175.2.2.2.2.2).bind fun bt184 => (if bt184.1 = t173 then (laws_FnExactStepOfJugs.j0 k (bt184.2 != t174) l0_0 a0_1 a0_2 a0_3 a0_4 a0_5 bt175.1 bt175.2.1 bt175.2.2.1 bt175.2.2.2.1 bt175.2.2.2.2.1 bt175.2.2.2.2.2) else (laws_FnExactStepOfJugs.j0 k true l0_0 a0_1 a0_2 a0_3 a0_4 a0_5 bt175.1 bt175.2.1 bt175.2.2.1 bt175.2.2.2.1 bt175.2.2.2.2.1 bt175.2.2.2.2.2)))) = some r := H
  have A8 := Aside0.mk A80
  clear A80
  replace H := Option.bind_eq_some_iff.mp H
  obtain ⟨⟨t175, t178, t179, t180, t181, t182⟩, A90, H⟩ := H
  replace H : ((impl_StepOfJugs.f k t175 t178 t179 t180 t181 t182).bind fun bt184 => (if bt184.1 = t173 then (laws_FnExactStepOfJugs.j0 k (bt184.2 != t174) l0_0 a0_1 a0_2 a0_3 a0_4 a0_5 t175 t178 t179 t180 t181 t182) else (laws_FnExactStepOfJugs.j0 k true l0_0 a0_1 a0_2 a0_3 a0_4 a0_5 t175 t178 t179 t180 t181 t182))) = some r := H
  have A9 := Aside0.mk A90
  clear A90
  replace H := Option.bind_eq_some_iff.mp H
  obtain ⟨⟨t184, t185⟩, A100, H⟩ := H
  replace H : (if t184 = t173 then (laws_FnExactStepOfJugs.j0 k (t185 != t174) l0_0 a0_1 a0_2 a0_3 a0_4 a0_5 t175 t178 t179 t180 t181 t182) else (laws_FnExactStepOfJugs.j0 k true l0_0 a0_1 a0_2 a0_3 a0_4 a0_5 t175 t178 t179 t180 t181 t182)) = some r := H
  have A10 := Aside0.mk A100
  clear A100
  have HC11 := Aside0.mk H
  clear H
  go_enter Try.func7, Try.ntmps7
  go_upto_region 8 with (first | ((with_reducible refine gate_dst (N := 1) rfl ?_); refine box_event ?hg (N := 1) ?hd (cs := #[.slice A0_0 l0_0.length c0_0, .int .i16 a0_1, .int .i16 a0_2, .int .i16 a0_3, .int .i16 a0_4, .bool a0_5]) (t := 26) ?hr ?_; (case hd => rfl); (case hg => rfl); (case hr => first | (go_simp; done) | (go_simp; rfl)); intro gb163 hg w12 hbox hb; have n0_ := A_ (below_step (bl_ HB) hb); have n1_ := A_ (hbox); have n2_ := A_ ((by rw [hg]; exact (below_size (bl_ HB)) : w.heap.size ≤ gb163)); have n3_ := n2_; clear HB; have HB := n0_; have BK163 := n1_; have GW163 := n2_; have GE163 := n3_; clear n0_ n1_ n2_ n3_; clear hb hbox hg; have hcz13_0 : w12.cell? ⟨gb163, 0, none⟩ = some (.slice A0_0 l0_0.length c0_0) := (blk_cell BK163.out 0).trans rfl; have hcz13_1 : w12.cell? ⟨gb163, 1, none⟩ = some (.int .i16 a0_1) := (blk_cell BK163.out 1).trans rfl; have hcz13_2 : w12.cell? ⟨gb163, 2, none⟩ = some (.int .i16 a0_2) := (blk_cell BK163.out 2).trans rfl; have hcz13_3 : w12.cell? ⟨gb163, 3, none⟩ = some (.int .i16 a0_3) := (blk_cell BK163.out 3).trans rfl; have hcz13_4 : w12.cell? ⟨gb163, 4, none⟩ = some (.int .i16 a0_4) := (blk_cell BK163.out 4).trans rfl; have hcz13_5 : w12.cell? ⟨gb163, 5, none⟩ = some (.bool a0_5) := (blk_cell BK163.out 5).trans rfl; have hfz13_0 := blk_frozen BK163.out 0; have hfz13_1 := blk_frozen BK163.out 1; have hfz13_2 := blk_frozen BK163.out 2; have hfz13_3 := blk_frozen BK163.out 3; have hfz13_4 := blk_frozen BK163.out 4; have hfz13_5 := blk_frozen BK163.out 5) | ((with_reducible refine gate_callee (f := 16) rfl ?_); refine goesL_ (some 11) rfl rfl Try.func16 (by kernel_rfl) rfl #[.agg #[.slice A0_0 l0_0.length c0_0, .int .i16 a0_1, .int .i16 a0_2, .int .i16 a0_3, .int .i16 a0_4, .bool a0_5], .int .i64 1048576] rfl arg_ ?_; (with_reducible refine (laws_szPuzzle.calls _ _ l0_0 a0_1 a0_2 a0_3 a0_4 a0_5 1048576 t164 _ ?side1 ?side2 A2.out).mono ?_); (case side1 => repeat (first | exact (Kd.C_below HR0_0.out HB.out) | (with_reducible refine Kd.C_alloc ?_ _) | (with_reducible refine Kd.C_drewN ?_ _) | (with_reducible refine Kd.C_drew ?_))); (case side2 => exact HC0_0.out); rintro e w14 ⟨rfl, hb⟩; refine ⟨_, rfl, ?_⟩; have n0_ := A_ (blk_below (pl_ BK163) hb); have n1_ := A_ (below_step (bl_ HB) hb); clear BK163; clear HB; have BK163 := n0_; have HB := n1_; clear n0_ n1_; (try clear hb); (try clear hb2); (try clear hk); (try clear hi); have hcz15_0 : w14.cell? ⟨gb163, 0, none⟩ = some (.slice A0_0 l0_0.length c0_0) := (blk_cell BK163.out 0).trans rfl; have hcz15_1 : w14.cell? ⟨gb163, 1, none⟩ = some (.int .i16 a0_1) := (blk_cell BK163.out 1).trans rfl; have hcz15_2 : w14.cell? ⟨gb163, 2, none⟩ = some (.int .i16 a0_2) := (blk_cell BK163.out 2).trans rfl; have hcz15_3 : w14.cell? ⟨gb163, 3, none⟩ = some (.int .i16 a0_3) := (blk_cell BK163.out 3).trans rfl; have hcz15_4 : w14.cell? ⟨gb163, 4, none⟩ = some (.int .i16 a0_4) := (blk_cell BK163.out 4).trans rfl; have hcz15_5 : w14.cell? ⟨gb163, 5, none⟩ = some (.bool a0_5) := (blk_cell BK163.out 5).trans rfl; have hfz15_0 := blk_frozen BK163.out 0; have hfz15_1 := blk_frozen BK163.out 1; have hfz15_2 := blk_frozen BK163.out 2; have hfz15_3 := blk_frozen BK163.out 3; have hfz15_4 := blk_frozen BK163.out 4; have hfz15_5 := blk_frozen BK163.out 5) | ((with_reducible refine gate_callee (f := 18) rfl ?_); refine goesL_ (some 16) rfl rfl Try.func18 (by kernel_rfl) rfl #[.agg #[.slice A0_0 l0_0.length c0_0, .int .i16 a0_1, .int .i16 a0_2, .int .i16 a0_3, .int .i16 a0_4, .bool a0_5]] rfl arg_ ?_; (with_reducible refine (laws_toPuzzle.calls k _ _ l0_0 a0_1 a0_2 a0_3 a0_4 a0_5 t165 t168 t169 t170 t171 t172 _ ?side1 ?side2 A7.out).mono ?_); (case side1 => repeat (first | exact (Kd.C_below HR0_0.out HB.out) | (with_reducible refine Kd.C_alloc ?_ _) | (with_reducible refine Kd.C_drewN ?_ _) | (with_reducible refine Kd.C_drew ?_))); (case side2 => exact HC0_0.out); rintro e w16 ⟨v166, rfl, ho0, hb⟩; refine ⟨_, rfl, ?_⟩; have n0_ := A_ (Kd.R_lower ho0 (below_size (bl_ HB))); have n1_ := A_ (blk_below (pl_ BK163) hb); have n2_ := A_ (below_step (bl_ HB) hb); clear BK163; clear HB; have HO167 := n0_; have BK163 := n1_; have HB := n2_; clear n0_ n1_ n2_; (try clear hb); (try clear hb2); (try clear hk); (try clear hi); (try clear ho0); obtain ⟨Ao17, co17, eo17⟩ := Kd.R_slice HO167.out; subst eo17) | ((with_reducible refine gate_callee (f := 30) rfl ?_); refine goesL_ (some 17) rfl rfl Try.func30 (by kernel_rfl) rfl #[.agg #[.slice Ao17 t165.length co17, .int .i16 t168, .int .i16 t169, .int .i16 t170, .int .i16 t171, .bool t172]] rfl arg_ ?_; (with_reducible refine (spec_StepOfJugs.calls k _ _ t165 t168 t169 t170 t171 t172 t173 t174 _ ?side1 ?side2 A8.out).mono ?_); (case side1 => repeat (first | exact (Kd.R_reads' HO167.out).2.2 | (with_reducible refine Kd.C_alloc ?_ _) | (with_reducible refine Kd.C_drewN ?_ _) | (with_reducible refine Kd.C_drew ?_))); (case side2 => exact (Kd.R_reads' HO167.out).2.1); rintro e w18 ⟨rfl, hb⟩; refine ⟨_, rfl, ?_⟩; have n0_ := A_ (Kd.R_below (pr_ HO167) hb); have n1_ := A_ (blk_below (pl_ BK163) hb); have n2_ := A_ (below_step (bl_ HB) hb); clear HO167; clear BK163; clear HB; have HO167 := n0_; have BK163 := n1_; have HB := n2_; clear n0_ n1_ n2_; (try clear hb); (try clear hb2); (try clear hk); (try clear hi); have hcz19_0 : w18.cell? ⟨gb163, 0, none⟩ = some (.slice A0_0 l0_0.length c0_0) := (blk_cell BK163.out 0).trans rfl; have hcz19_1 : w18.cell? ⟨gb163, 1, none⟩ = some (.int .i16 a0_1) := (blk_cell BK163.out 1).trans rfl; have hcz19_2 : w18.cell? ⟨gb163, 2, none⟩ = some (.int .i16 a0_2) := (blk_cell BK163.out 2).trans rfl; have hcz19_3 : w18.cell? ⟨gb163, 3, none⟩ = some (.int .i16 a0_3) := (blk_cell BK163.out 3).trans rfl; have hcz19_4 : w18.cell? ⟨gb163, 4, none⟩ = some (.int .i16 a0_4) := (blk_cell BK163.out 4).trans rfl; have hcz19_5 : w18.cell? ⟨gb163, 5, none⟩ = some (.bool a0_5) := (blk_cell BK163.out 5).trans rfl; have hfz19_0 := blk_frozen BK163.out 0; have hfz19_1 := blk_frozen BK163.out 1; have hfz19_2 := blk_frozen BK163.out 2; have hfz19_3 := blk_frozen BK163.out 3; have hfz19_4 := blk_frozen BK163.out 4; have hfz19_5 := blk_frozen BK163.out 5) | ((with_reducible refine gate_callee (f := 18) rfl ?_); refine goesL_ (some 21) rfl rfl Try.func18 (by kernel_rfl) rfl #[.agg #[.slice A0_0 l0_0.length c0_0, .int .i16 a0_1, .int .i16 a0_2, .int .i16 a0_3, .int .i16 a0_4, .bool a0_5]] rfl arg_ ?_; (with_reducible refine (laws_toPuzzle.calls k _ _ l0_0 a0_1 a0_2 a0_3 a0_4 a0_5 t175 t178 t179 t180 t181 t182 _ ?side1 ?side2 A9.out).mono ?_); (case side1 => repeat (first | exact (Kd.C_below HR0_0.out HB.out) | (with_reducible refine Kd.C_alloc ?_ _) | (with_reducible refine Kd.C_drewN ?_ _) | (with_reducible refine Kd.C_drew ?_))); (case side2 => exact HC0_0.out); rintro e w20 ⟨v176, rfl, ho0, hb⟩; refine ⟨_, rfl, ?_⟩; have n0_ := A_ (Kd.R_elder' (pr_ HO167) (Kd.R_base ho0) hb); have n1_ := A_ (Kd.R_lower (Kd.R_new' ho0 (Kd.R_lt (pr_ HO167))) (below_size (bl_ HB))); have n2_ := A_ (blk_below (pl_ BK163) hb); have n3_ := A_ (below_step (bl_ HB) hb); clear HO167; clear BK163; clear HB; have HO167 := n0_; have HO177 := n1_; have BK163 := n2_; have HB := n3_; clear n0_ n1_ n2_ n3_; (try clear hb); (try clear hb2); (try clear hk); (try clear hi); (try clear ho0)) | ((with_reducible refine gate_dst (N := 6) rfl ?_); refine box_event ?hg (N := 6) ?hd (cs := #[.slice none 0 0, .int .i16 0, .int .i16 0, .int .i16 0, .int .i16 0, .bool false]) (t := 32) ?hr ?_; (case hd => rfl); (case hg => rfl); (case hr => first | (go_simp; done) | (go_simp; rfl)); intro gb183 hg w21 hbox hb; have n0_ := A_ (Kd.R_below (pr_ HO167) hb); have n1_ := A_ (Kd.R_below (pr_ HO177) hb); have n2_ := A_ (blk_below (pl_ BK163) hb); have n3_ := A_ (below_step (bl_ HB) hb); have n4_ := A_ (hbox); have n5_ := A_ ((by rw [hg]; exact (below_size (bl_ HB)) : w.heap.size ≤ gb183)); have n6_ := n5_; have n7_ := A_ ((by rw [hg]; exact Nat.ne_of_lt (blk_lt (pl_ BK163)) : gb163 ≠ gb183)); have n8_ := Aside0.mk n7_.out.symm; clear HO167; clear HO177; clear BK163; clear HB; have HO167 := n0_; have HO177 := n1_; have BK163 := n2_; have HB := n3_; have BK183 := n4_; have GW183 := n5_; have GE183 := n6_; have NB163_183 := n7_; have NB183_163 := n8_; clear n0_ n1_ n2_ n3_ n4_ n5_ n6_ n7_ n8_; clear hb hbox hg; obtain ⟨Ao22, co22, eo22⟩ := Kd.R_slice HO177.out; subst eo22; have hnb23 := NB183_163.out; have hnc23 := NB163_183.out; have hcz24_0 : w21.cell? ⟨gb183, 0, none⟩ = some (.slice none 0 0) := (blk_cell BK183.out 0).trans rfl; have hcz24_1 : w21.cell? ⟨gb183, 1, none⟩ = some (.int .i16 0) := (blk_cell BK183.out 1).trans rfl; have hcz24_2 : w21.cell? ⟨gb183, 2, none⟩ = some (.int .i16 0) := (blk_cell BK183.out 2).trans rfl; have hcz24_3 : w21.cell? ⟨gb183, 3, none⟩ = some (.int .i16 0) := (blk_cell BK183.out 3).trans rfl; have hcz24_4 : w21.cell? ⟨gb183, 4, none⟩ = some (.int .i16 0) := (blk_cell BK183.out 4).trans rfl; have hcz24_5 : w21.cell? ⟨gb183, 5, none⟩ = some (.bool false) := (blk_cell BK183.out 5).trans rfl; have hfz24_0 := blk_frozen BK183.out 0; have hfz24_1 := blk_frozen BK183.out 1; have hfz24_2 := blk_frozen BK183.out 2; have hfz24_3 := blk_frozen BK183.out 3; have hfz24_4 := blk_frozen BK183.out 4; have hfz24_5 := blk_frozen BK183.out 5) | ((with_reducible refine gate_callee (f := 31) rfl ?_); refine goesL_ (some 24) rfl rfl Try.func31 (by kernel_rfl) rfl #[.agg #[.slice Ao22 t175.length co22, .int .i16 t178, .int .i16 t179, .int .i16 t180, .int .i16 t181, .bool t182]] rfl arg_ ?_; (with_reducible refine (impl_StepOfJugs.calls k _ _ t175 t178 t179 t180 t181 t182 t184 t185 _ ?side1 ?side2 A10.out).mono ?_); (case side1 => refine (Kd.R_reads' (e := 23) (base := w.heap.size) (ok := fun k_ => (True ∧ some k_ ≠ (.slice Ao17 t165.length co17 : Value).ownBlock)) (n := t175.length) (c := co22) ?_).2.2; exact (by (with_reducible repeat (first | apply Kd.R_alloc | apply Kd.R_drewN | apply Kd.R_drew)); exact (rf6_ HO177 BK183 (by decide)))); (case side2 => exact (Kd.R_reads' HO177.out).2.1); rintro e w25 ⟨rfl, hb⟩; refine ⟨_, rfl, ?_⟩; have n0_ := A_ (Kd.R_below (by (with_reducible repeat (first | apply Kd.R_alloc | apply Kd.R_drewN | apply Kd.R_drew)); exact (rf6_ HO167 BK183 (by decide))) hb); have n1_ := A_ (Kd.R_below (by (with_reducible repeat (first | apply Kd.R_alloc | apply Kd.R_drewN | apply Kd.R_drew)); exact (rf6_ HO177 BK183 (by decide))) hb); have n2_ := A_ (blk_below (g := gb163) (o := .cells #[.slice A0_0 l0_0.length c0_0, .int .i16 a0_1, .int .i16 a0_2, .int .i16 a0_3, .int .i16 a0_4, .bool a0_5] 26 (0, 0)) (pf_ BK163 NB163_183) hb); have n3_ := A_ (blk_below (g := gb183) (o := .cells #[.slice Ao22 t175.length co22, .int .i16 t178, .int .i16 t179, .int .i16 t180, .int .i16 t181, .bool t182] 32 (0, 0)) (by (with_reducible repeat (first | refine blk_drewN ?_ _ | refine blk_drew ?_ | refine blk_alloc ?_ _)); refine blk_put (cs := #[.slice Ao22 t175.length co22, .int .i16 t178, .int .i16 t179, .int .i16 t180, .int .i16 t181, .bool false]) ?_ 5 _ rfl; (with_reducible repeat (first | refine blk_drewN ?_ _ | refine blk_drew ?_ | refine blk_alloc ?_ _)); refine blk_put (cs := #[.slice Ao22 t175.length co22, .int .i16 t178, .int .i16 t179, .int .i16 t180, .int .i16 0, .bool false]) ?_ 4 _ rfl; (with_reducible repeat (first | refine blk_drewN ?_ _ | refine blk_drew ?_ | refine blk_alloc ?_ _)); refine blk_put (cs := #[.slice Ao22 t175.length co22, .int .i16 t178, .int .i16 t179, .int .i16 0, .int .i16 0, .bool false]) ?_ 3 _ rfl; (with_reducible repeat (first | refine blk_drewN ?_ _ | refine blk_drew ?_ | refine blk_alloc ?_ _)); refine blk_put (cs := #[.slice Ao22 t175.length co22, .int .i16 t178, .int .i16 0, .int .i16 0, .int .i16 0, .bool false]) ?_ 2 _ rfl; (with_reducible repeat (first | refine blk_drewN ?_ _ | refine blk_drew ?_ | refine blk_alloc ?_ _)); refine blk_put (cs := #[.slice Ao22 t175.length co22, .int .i16 0, .int .i16 0, .int .i16 0, .int .i16 0, .bool false]) ?_ 1 _ rfl; (with_reducible repeat (first | refine blk_drewN ?_ _ | refine blk_drew ?_ | refine blk_alloc ?_ _)); refine blk_put (cs := #[.slice none 0 0, .int .i16 0, .int .i16 0, .int .i16 0, .int .i16 0, .bool false]) ?_ 0 _ rfl; (with_reducible repeat (first | refine blk_drewN ?_ _ | refine blk_drew ?_ | refine blk_alloc ?_ _)); exact BK183.out) hb); have n4_ := A_ (below_step (bs_ HB GE183) hb); clear HO167; clear HO177; clear BK163; clear BK183; clear HB; have HO167 := n0_; have HO177 := n1_; have BK163 := n2_; have BK183 := n3_; have HB := n4_; clear n0_ n1_ n2_ n3_ n4_; (try clear hb); (try clear hb2); (try clear hk); (try clear hi)))
  (try simp only [Act.put, List.setIfInBounds_toArray, List.set_cons_zero, List.set_cons_succ])
  go_cut [34] (fun v34 wc => ∃ (kq : Nat) (x34_10 : Bool), v34 = .bool x34_10 ∧ Aside0 (laws_FnExactStepOfJugs.j0 kq x34_10 l0_0 a0_1 a0_2 a0_3 a0_4 a0_5 t175 t178 t179 t180 t181 t182 = some r) ∧ Aside0 (kq ≤ k) ∧ Aside0 (Kd.R (Kd.int .i16) 23 wc w.heap.size (fun _ => True) (.slice Ao22 t175.length co22) t175) ∧ Aside0 (wc.heap[gb163]? = some (.cells #[(.slice A0_0 l0_0.length c0_0), .int .i16 a0_1, .int .i16 a0_2, .int .i16 a0_3, .int .i16 a0_4, .bool a0_5] 26 (0, 0))) ∧ Aside0 (wc.heap[gb183]? = some (.cells #[(.slice Ao22 t175.length co22), .int .i16 t178, .int .i16 t179, .int .i16 t180, .int .i16 t181, .bool t182] 32 (0, 0))) ∧ Aside0 (Below w.heap.size w wc))
  case first =>
   have H := HC11.out
   clear HC11
   by_cases c26 : t184 = t173
   ·rw [if_pos c26] at H
    have c26b0 : (t184 == t173) = true := beq_iff_eq.mpr c26
    have c26b1 : (t184 != t173) = false := bne_eq_false_iff_eq.mpr c26
    clear c26
    (first | rw [c26b0] | (simp only [i64_w, i32_w]; rw [c26b0]) | skip)
    have H' := Aside0.mk H
    clear H
    go_wp2
    go_meet
    case rel => exact ⟨_, ((t185 != t174)), rs_, H', ⟨by first | omega | exact Nat.le_refl _⟩, ⟨by (with_reducible repeat (first | apply Kd.R_alloc | apply Kd.R_drewN | apply Kd.R_drew)); exact Kd.R_mono HO177.out (fun _ hk => trivial)⟩, ⟨pl_ BK163⟩, ⟨pl_ BK183⟩, ⟨bl_ HB⟩⟩
   ·rw [if_neg c26] at H
    have c26b0 : (t184 == t173) = false := beq_eq_false_iff_ne.mpr c26
    have c26b1 : (t184 != t173) = true := bne_iff_ne.mpr c26
    (first | rw [c26b0] | (simp only [i64_w, i32_w]; rw [c26b0]) | skip)
    have H' := Aside0.mk H
    clear H
    go_wp2
    go_meet
    case rel => exact ⟨_, (true), rs_, H', ⟨by first | omega | exact Nat.le_refl _⟩, ⟨by (with_reducible repeat (first | apply Kd.R_alloc | apply Kd.R_drewN | apply Kd.R_drew)); exact Kd.R_mono HO177.out (fun _ hk => trivial)⟩, ⟨pl_ BK163⟩, ⟨pl_ BK183⟩, ⟨bl_ HB⟩⟩
  case rest =>
   clear HC11
   try clear c1
   try clear c2
   try clear p2
   try clear c3
   try clear c3b0
   try clear c7
   try clear c16
   try clear c18
   try clear c23
   try clear c26
   try clear c26b0
   try clear c26b1
   try clear hcz13_0
   try clear hcz13_1
   try clear hcz13_2
   try clear hcz13_3
   try clear hcz13_4
   try clear hcz13_5
   try clear hcz15_0
   try clear hcz15_1
   try clear hcz15_2
   try clear hcz15_3
   try clear hcz15_4
   try clear hcz15_5
   try clear hcz19_0
   try clear hcz19_1
   try clear hcz19_2
   try clear hcz19_3
   try clear hcz19_4
   try clear hcz19_5
   try clear hcz24_0
   try clear hcz24_1
   try clear hcz24_2
   try clear hcz24_3
   try clear hcz24_4
   try clear hcz24_5
   try clear hcz5_0
   try clear hcz5_1
   try clear hcz5_2
   try clear hcz5_3
   try clear hcz5_4
   try clear hcz5_5
   try clear hfz13_0
   try clear hfz13_1
   try clear hfz13_2
   try clear hfz13_3
   try clear hfz13_4
   try clear hfz13_5
   try clear hfz15_0
   try clear hfz15_1
   try clear hfz15_2
   try clear hfz15_3
   try clear hfz15_4
   try clear hfz15_5
   try clear hfz19_0
   try clear hfz19_1
   try clear hfz19_2
   try clear hfz19_3
   try clear hfz19_4
   try clear hfz19_5
   try clear hfz24_0
   try clear hfz24_1
   try clear hfz24_2
   try clear hfz24_3
   try clear hfz24_4
   try clear hfz24_5
   try clear hfz5_0
   try clear hfz5_1
   try clear hfz5_2
   try clear hfz5_3
   try clear hfz5_4
   try clear hfz5_5
   obtain ⟨kq, x34_10, rfl, HA, HJ10, HO_184000, BK163, BK183, HB⟩ := hcut
   cases kq with
   | zero => exact absurd HA.out (by simp [laws_FnExactStepOfJugs.j0])
   | succ kj10 =>
    have H := HA.out
    clear HA
    simp only [laws_FnExactStepOfJugs.j0] at H
    by_cases c27 : x34_10 = true
    ·subst c27
     have H1 : (some false) = some r := by rw [if_pos rfl] at H; exact H
     clear H
     have H := H1
     clear H1
     obtain rfl := Option.some.inj H
     go_wp2
     go_ret
     exact ⟨by first | rfl | (simp [errW_none, errW_some] <;> rfl) | (simp [*, errW_none, errW_some] <;> rfl), bl_ HB⟩
    ·replace c27 := Bool.eq_false_iff.mpr c27
     subst c27
     have H1 : ((laws_toPuzzle.f kj10 l0_0 a0_1 a0_2 a0_3 a0_4 a0_5).bind fun bt186 => ((laws_eqPuzzle.f kj10 t175 t178 t179 t180 t181 t182 bt186.1 bt186.2.1 bt186.2.2.1 bt186.2.2.2.1 bt186.2.2.2.2.1 bt186.2.2.2.2.2).bind fun t194 => (if t194 = true then (some true) else (some false)))) = some r := by rw [if_neg (show ¬ (false = true) by decide)] at H; exact H
     clear H
     have H := H1
     clear H1
     replace H := Option.bind_eq_some_iff.mp H
     obtain ⟨⟨t186, t189, t190, t191, t192, t193⟩, A280, H⟩ := H
     replace H : ((laws_eqPuzzle.f kj10 t175 t178 t179 t180 t181 t182 t186 t189 t190 t191 t192 t193).bind fun t194 => (if t194 = true then (some true) else (some false))) = some r := H
     have A28 := Aside0.mk A280
     clear A280
     replace H := Option.bind_eq_some_iff.mp H
     obtain ⟨t194, A290, H⟩ := H
     replace H : (if t194 = true then (some true) else (some false)) = some r := H
     have A29 := Aside0.mk A290
     clear A290
     by_cases c30 : t194 = true
     ·subst c30
      have H1 : (some true) = some r := by rw [if_pos rfl] at H; exact H
      clear H
      have H := H1
      clear H1
      obtain rfl := Option.some.inj H
      try go_wp2
      have n0_ := A_ (Kd.R_drew HO_184000.out)
      have n1_ := A_ (blk_drew BK163.out)
      have n2_ := A_ (blk_drew BK183.out)
      have n3_ := A_ (below_drew1 HB.out)
      clear HO_184000
      clear BK163
      clear BK183
      clear HB
      have HO_184000 := n0_
      have BK163 := n1_
      have BK183 := n2_
      have HB := n3_
      clear n0_ n1_ n2_ n3_
      refine start_ (n := 5) (S := fun w' => w'.cell? ⟨gb183, 0, none⟩ = some (.slice Ao22 t175.length co22) ∧ w'.cell? ⟨gb183, 1, none⟩ = some (.int .i16 t178) ∧ w'.cell? ⟨gb183, 2, none⟩ = some (.int .i16 t179) ∧ w'.cell? ⟨gb183, 3, none⟩ = some (.int .i16 t180) ∧ w'.cell? ⟨gb183, 4, none⟩ = some (.int .i16 t181) ∧ w'.cell? ⟨gb183, 5, none⟩ = some (.bool t182) ∧ w'.cell? ⟨gb163, 0, none⟩ = some (.slice A0_0 l0_0.length c0_0) ∧ w'.cell? ⟨gb163, 1, none⟩ = some (.int .i16 a0_1) ∧ w'.cell? ⟨gb163, 2, none⟩ = some (.int .i16 a0_2) ∧ w'.cell? ⟨gb163, 3, none⟩ = some (.int .i16 a0_3) ∧ w'.cell? ⟨gb163, 4, none⟩ = some (.int .i16 a0_4) ∧ w'.cell? ⟨gb163, 5, none⟩ = some (.bool a0_5)) (ds := []) #[false, false, false, false, false] (by kernel_rfl) rfl rfl ⟨(blk_cell BK183.out 0).trans rfl, (blk_cell BK183.out 1).trans rfl, (blk_cell BK183.out 2).trans rfl, (blk_cell BK183.out 3).trans rfl, (blk_cell BK183.out 4).trans rfl, (blk_cell BK183.out 5).trans rfl, (blk_cell BK163.out 0).trans rfl, (blk_cell BK163.out 1).trans rfl, (blk_cell BK163.out 2).trans rfl, (blk_cell BK163.out 3).trans rfl, (blk_cell BK163.out 4).trans rfl, (blk_cell BK163.out 5).trans rfl⟩ (fun hHeld => ?_)
      generalize wc.drew = w31 at HO_184000 BK163 BK183 HB hHeld ⊢
      refine take_ (i := 0) (N := some 35) (v := ?_) (a' := ?_) #[true, false, false, false, false] rfl rfl (by kernel_rfl) (fun _ _ _ h => h) (Or.inl ⟨by rfl, ?_⟩) hHeld ?_ ?_
      rotate_left
      ·rintro w' ⟨s0, s1, s2, s3, s4, s5, s6, s7, s8, s9, s10, s11⟩
       go_simp
       with_reducible rfl
      rotate_left
      ·simp only [Act.put, List.setIfInBounds_toArray, List.set_cons_zero, List.set_cons_succ, i64_w, i32_w]
       rfl
      refine take_ (i := 1) (N := some 36) (v := ?_) (a' := ?_) #[true, true, false, false, false] rfl rfl (by kernel_rfl) (fun _ _ _ h => h) (Or.inl ⟨by rfl, ?_⟩) hHeld ?_ ?_
      rotate_left
      ·rintro w' ⟨s0, s1, s2, s3, s4, s5, s6, s7, s8, s9, s10, s11⟩
       go_simp
       with_reducible rfl
      rotate_left
      ·simp only [Act.put, List.setIfInBounds_toArray, List.set_cons_zero, List.set_cons_succ, i64_w, i32_w]
       rfl
      refine one_ (i := 2) (N := some 37) #[true, true, true, false, false] rfl rfl (by kernel_rfl) (by decide) (fun K hK => ?_)
      refine goes_ Try.func18 (by kernel_rfl) rfl #[.agg #[.slice A0_0 l0_0.length c0_0, .int .i16 a0_1, .int .i16 a0_2, .int .i16 a0_3, .int .i16 a0_4, .bool a0_5]] (by rfl) rfl rfl arg_ ?_
      with_reducible refine (laws_toPuzzle.calls kj10 _ _ l0_0 a0_1 a0_2 a0_3 a0_4 a0_5 t186 t189 t190 t191 t192 t193 _ ?side1 ?side2 A28.out).mono ?_
      (case side1 => repeat (first | exact (Kd.C_below HR0_0.out HB.out) | (with_reducible refine Kd.C_alloc ?_ _) | (with_reducible refine Kd.C_drewN ?_ _) | (with_reducible refine Kd.C_drew ?_)))
      (case side2 => exact HC0_0.out)
      rintro e w32 ⟨v187, rfl, ho0, hb⟩
      refine ⟨_, rfl, ?_⟩
      have n0_ := A_ (Kd.R_elder' (pr_ HO_184000) (Kd.R_base ho0) hb)
      have n1_ := A_ (Kd.R_lower (Kd.R_new' ho0 (Kd.R_lt (pr_ HO_184000))) (below_size (bl_ HB)))
      have n2_ := A_ (blk_below (pl_ BK163) hb)
      have n3_ := A_ (blk_below (pl_ BK183) hb)
      have n4_ := A_ (below_step (bl_ HB) hb)
      clear HO_184000
      clear BK163
      clear BK183
      clear HB
      have HO_184000 := n0_
      have HO188 := n1_
      have BK163 := n2_
      have BK183 := n3_
      have HB := n4_
      clear n0_ n1_ n2_ n3_ n4_
      (try clear hb)
      (try clear hb2)
      (try clear hk)
      (try clear hi)
      (try clear ho0)
      obtain ⟨Ao33, co33, eo33⟩ := Kd.R_slice HO188.out
      (first | subst eo33 | (injection eo33 with f1_ f2_ f3_; have f4_ := f1_.symm; have f5_ := f3_.symm; clear f1_ f2_ f3_; subst f4_; subst f5_))
      refine hK.out _ _ ⟨(blk_cell BK183.out 0).trans rfl, (blk_cell BK183.out 1).trans rfl, (blk_cell BK183.out 2).trans rfl, (blk_cell BK183.out 3).trans rfl, (blk_cell BK183.out 4).trans rfl, (blk_cell BK183.out 5).trans rfl, (blk_cell BK163.out 0).trans rfl, (blk_cell BK163.out 1).trans rfl, (blk_cell BK163.out 2).trans rfl, (blk_cell BK163.out 3).trans rfl, (blk_cell BK163.out 4).trans rfl, (blk_cell BK163.out 5).trans rfl⟩ (fun hHeld => ?_)
      clear hK K
      refine norm_ (a' := ?_) ?_ ?_
      rotate_left
      ·show Act.put _ (some 37) _ = _
       simp only [Act.put, List.setIfInBounds_toArray, List.set_cons_zero, List.set_cons_succ, i64_w, i32_w]
       rfl
      refine one_ (i := 3) (N := some 38) #[true, true, true, true, false] rfl rfl (by kernel_rfl) (by decide) (fun K hK => ?_)
      refine goes_ Try.func21 (by kernel_rfl) rfl #[.agg #[.slice Ao22 t175.length co22, .int .i16 t178, .int .i16 t179, .int .i16 t180, .int .i16 t181, .bool t182], .agg #[.slice Ao33 t186.length co33, .int .i16 t189, .int .i16 t190, .int .i16 t191, .int .i16 t192, .bool t193]] (by rfl) rfl rfl arg_ ?_
      with_reducible refine (laws_eqPuzzle.calls kj10 _ _ t175 t178 t179 t180 t181 t182 _ _ t186 t189 t190 t191 t192 t193 true _ ?side1 ?side2 ?side3 ?side4 A29.out).mono ?_
      (case side1 => repeat (first | exact (Kd.R_reads' HO_184000.out).2.2 | (with_reducible refine Kd.C_alloc ?_ _) | (with_reducible refine Kd.C_drewN ?_ _) | (with_reducible refine Kd.C_drew ?_)))
      (case side2 => exact (Kd.R_reads' HO_184000.out).2.1)
      (case side3 => repeat (first | exact (Kd.R_reads' HO188.out).2.2 | (with_reducible refine Kd.C_alloc ?_ _) | (with_reducible refine Kd.C_drewN ?_ _) | (with_reducible refine Kd.C_drew ?_)))
      (case side4 => exact (Kd.R_reads' HO188.out).2.1)
      rintro e w34 ⟨rfl, hb⟩
      refine ⟨_, rfl, ?_⟩
      have n0_ := A_ (Kd.R_below (pr_ HO_184000) hb)
      have n1_ := A_ (Kd.R_below (pr_ HO188) hb)
      have n2_ := A_ (blk_below (pl_ BK163) hb)
      have n3_ := A_ (blk_below (pl_ BK183) hb)
      have n4_ := A_ (below_step (bl_ HB) hb)
      clear HO_184000
      clear HO188
      clear BK163
      clear BK183
      clear HB
      have HO_184000 := n0_
      have HO188 := n1_
      have BK163 := n2_
      have BK183 := n3_
      have HB := n4_
      clear n0_ n1_ n2_ n3_ n4_
      (try clear hb)
      (try clear hb2)
      (try clear hk)
      (try clear hi)
      refine hK.out _ _ ⟨(blk_cell BK183.out 0).trans rfl, (blk_cell BK183.out 1).trans rfl, (blk_cell BK183.out 2).trans rfl, (blk_cell BK183.out 3).trans rfl, (blk_cell BK183.out 4).trans rfl, (blk_cell BK183.out 5).trans rfl, (blk_cell BK163.out 0).trans rfl, (blk_cell BK163.out 1).trans rfl, (blk_cell BK163.out 2).trans rfl, (blk_cell BK163.out 3).trans rfl, (blk_cell BK163.out 4).trans rfl, (blk_cell BK163.out 5).trans rfl⟩ (fun hHeld => ?_)
      clear hK K
      refine norm_ (a' := ?_) ?_ ?_
      rotate_left
      ·show Act.put _ (some 38) _ = _
       simp only [Act.put, List.setIfInBounds_toArray, List.set_cons_zero, List.set_cons_succ, i64_w, i32_w]
       rfl
      refine pure_ (i := 4) (N := some 39) (v := ?_) (a' := ?_) #[true, true, true, true, true] rfl rfl (by kernel_rfl) (fun _ _ _ h => h) (Or.inl ⟨by rfl, ?_⟩) ?_ ?_
      rotate_left
      ·intro w'
       go_simp
       with_reducible rfl
      rotate_left
      ·simp only [Act.put, List.setIfInBounds_toArray, List.set_cons_zero, List.set_cons_succ, i64_w, i32_w]
       rfl
      refine done_ (by kernel_rfl) ?_
      try go_wp2
      go_ret
      exact ⟨by first | rfl | (simp [errW_none, errW_some] <;> rfl) | (simp [*, errW_none, errW_some] <;> rfl), bl_ HB⟩
     ·replace c30 := Bool.eq_false_iff.mpr c30
      subst c30
      have H1 : (some false) = some r := by rw [if_neg (show ¬ (false = true) by decide)] at H; exact H
      clear H
      have H := H1
      clear H1
      obtain rfl := Option.some.inj H
      try go_wp2
      have n0_ := A_ (Kd.R_drew HO_184000.out)
      have n1_ := A_ (blk_drew BK163.out)
      have n2_ := A_ (blk_drew BK183.out)
      have n3_ := A_ (below_drew1 HB.out)
      clear HO_184000
      clear BK163
      clear BK183
      clear HB
      have HO_184000 := n0_
      have BK163 := n1_
      have BK183 := n2_
      have HB := n3_
      clear n0_ n1_ n2_ n3_
      refine start_ (n := 5) (S := fun w' => w'.cell? ⟨gb183, 0, none⟩ = some (.slice Ao22 t175.length co22) ∧ w'.cell? ⟨gb183, 1, none⟩ = some (.int .i16 t178) ∧ w'.cell? ⟨gb183, 2, none⟩ = some (.int .i16 t179) ∧ w'.cell? ⟨gb183, 3, none⟩ = some (.int .i16 t180) ∧ w'.cell? ⟨gb183, 4, none⟩ = some (.int .i16 t181) ∧ w'.cell? ⟨gb183, 5, none⟩ = some (.bool t182) ∧ w'.cell? ⟨gb163, 0, none⟩ = some (.slice A0_0 l0_0.length c0_0) ∧ w'.cell? ⟨gb163, 1, none⟩ = some (.int .i16 a0_1) ∧ w'.cell? ⟨gb163, 2, none⟩ = some (.int .i16 a0_2) ∧ w'.cell? ⟨gb163, 3, none⟩ = some (.int .i16 a0_3) ∧ w'.cell? ⟨gb163, 4, none⟩ = some (.int .i16 a0_4) ∧ w'.cell? ⟨gb163, 5, none⟩ = some (.bool a0_5)) (ds := []) #[false, false, false, false, false] (by kernel_rfl) rfl rfl ⟨(blk_cell BK183.out 0).trans rfl, (blk_cell BK183.out 1).trans rfl, (blk_cell BK183.out 2).trans rfl, (blk_cell BK183.out 3).trans rfl, (blk_cell BK183.out 4).trans rfl, (blk_cell BK183.out 5).trans rfl, (blk_cell BK163.out 0).trans rfl, (blk_cell BK163.out 1).trans rfl, (blk_cell BK163.out 2).trans rfl, (blk_cell BK163.out 3).trans rfl, (blk_cell BK163.out 4).trans rfl, (blk_cell BK163.out 5).trans rfl⟩ (fun hHeld => ?_)
      generalize wc.drew = w35 at HO_184000 BK163 BK183 HB hHeld ⊢
      refine take_ (i := 0) (N := some 35) (v := ?_) (a' := ?_) #[true, false, false, false, false] rfl rfl (by kernel_rfl) (fun _ _ _ h => h) (Or.inl ⟨by rfl, ?_⟩) hHeld ?_ ?_
      rotate_left
      ·rintro w' ⟨s0, s1, s2, s3, s4, s5, s6, s7, s8, s9, s10, s11⟩
       go_simp
       with_reducible rfl
      rotate_left
      ·simp only [Act.put, List.setIfInBounds_toArray, List.set_cons_zero, List.set_cons_succ, i64_w, i32_w]
       rfl
      refine take_ (i := 1) (N := some 36) (v := ?_) (a' := ?_) #[true, true, false, false, false] rfl rfl (by kernel_rfl) (fun _ _ _ h => h) (Or.inl ⟨by rfl, ?_⟩) hHeld ?_ ?_
      rotate_left
      ·rintro w' ⟨s0, s1, s2, s3, s4, s5, s6, s7, s8, s9, s10, s11⟩
       go_simp
       with_reducible rfl
      rotate_left
      ·simp only [Act.put, List.setIfInBounds_toArray, List.set_cons_zero, List.set_cons_succ, i64_w, i32_w]
       rfl
      refine one_ (i := 2) (N := some 37) #[true, true, true, false, false] rfl rfl (by kernel_rfl) (by decide) (fun K hK => ?_)
      refine goes_ Try.func18 (by kernel_rfl) rfl #[.agg #[.slice A0_0 l0_0.length c0_0, .int .i16 a0_1, .int .i16 a0_2, .int .i16 a0_3, .int .i16 a0_4, .bool a0_5]] (by rfl) rfl rfl arg_ ?_
      with_reducible refine (laws_toPuzzle.calls kj10 _ _ l0_0 a0_1 a0_2 a0_3 a0_4 a0_5 t186 t189 t190 t191 t192 t193 _ ?side1 ?side2 A28.out).mono ?_
      (case side1 => repeat (first | exact (Kd.C_below HR0_0.out HB.out) | (with_reducible refine Kd.C_alloc ?_ _) | (with_reducible refine Kd.C_drewN ?_ _) | (with_reducible refine Kd.C_drew ?_)))
      (case side2 => exact HC0_0.out)
      rintro e w36 ⟨v187, rfl, ho0, hb⟩
      refine ⟨_, rfl, ?_⟩
      have n0_ := A_ (Kd.R_elder' (pr_ HO_184000) (Kd.R_base ho0) hb)
      have n1_ := A_ (Kd.R_lower (Kd.R_new' ho0 (Kd.R_lt (pr_ HO_184000))) (below_size (bl_ HB)))
      have n2_ := A_ (blk_below (pl_ BK163) hb)
      have n3_ := A_ (blk_below (pl_ BK183) hb)
      have n4_ := A_ (below_step (bl_ HB) hb)
      clear HO_184000
      clear BK163
      clear BK183
      clear HB
      have HO_184000 := n0_
      have HO188 := n1_
      have BK163 := n2_
      have BK183 := n3_
      have HB := n4_
      clear n0_ n1_ n2_ n3_ n4_
      (try clear hb)
      (try clear hb2)
      (try clear hk)
      (try clear hi)
      (try clear ho0)
      obtain ⟨Ao37, co37, eo37⟩ := Kd.R_slice HO188.out
      (first | subst eo37 | (injection eo37 with f1_ f2_ f3_; have f4_ := f1_.symm; have f5_ := f3_.symm; clear f1_ f2_ f3_; subst f4_; subst f5_))
      refine hK.out _ _ ⟨(blk_cell BK183.out 0).trans rfl, (blk_cell BK183.out 1).trans rfl, (blk_cell BK183.out 2).trans rfl, (blk_cell BK183.out 3).trans rfl, (blk_cell BK183.out 4).trans rfl, (blk_cell BK183.out 5).trans rfl, (blk_cell BK163.out 0).trans rfl, (blk_cell BK163.out 1).trans rfl, (blk_cell BK163.out 2).trans rfl, (blk_cell BK163.out 3).trans rfl, (blk_cell BK163.out 4).trans rfl, (blk_cell BK163.out 5).trans rfl⟩ (fun hHeld => ?_)
      clear hK K
      refine norm_ (a' := ?_) ?_ ?_
      rotate_left
      ·show Act.put _ (some 37) _ = _
       simp only [Act.put, List.setIfInBounds_toArray, List.set_cons_zero, List.set_cons_succ, i64_w, i32_w]
       rfl
      refine one_ (i := 3) (N := some 38) #[true, true, true, true, false] rfl rfl (by kernel_rfl) (by decide) (fun K hK => ?_)
      refine goes_ Try.func21 (by kernel_rfl) rfl #[.agg #[.slice Ao22 t175.length co22, .int .i16 t178, .int .i16 t179, .int .i16 t180, .int .i16 t181, .bool t182], .agg #[.slice Ao37 t186.length co37, .int .i16 t189, .int .i16 t190, .int .i16 t191, .int .i16 t192, .bool t193]] (by rfl) rfl rfl arg_ ?_
      with_reducible refine (laws_eqPuzzle.calls kj10 _ _ t175 t178 t179 t180 t181 t182 _ _ t186 t189 t190 t191 t192 t193 false _ ?side1 ?side2 ?side3 ?side4 A29.out).mono ?_
      (case side1 => repeat (first | exact (Kd.R_reads' HO_184000.out).2.2 | (with_reducible refine Kd.C_alloc ?_ _) | (with_reducible refine Kd.C_drewN ?_ _) | (with_reducible refine Kd.C_drew ?_)))
      (case side2 => exact (Kd.R_reads' HO_184000.out).2.1)
      (case side3 => repeat (first | exact (Kd.R_reads' HO188.out).2.2 | (with_reducible refine Kd.C_alloc ?_ _) | (with_reducible refine Kd.C_drewN ?_ _) | (with_reducible refine Kd.C_drew ?_)))
      (case side4 => exact (Kd.R_reads' HO188.out).2.1)
      rintro e w38 ⟨rfl, hb⟩
      refine ⟨_, rfl, ?_⟩
      have n0_ := A_ (Kd.R_below (pr_ HO_184000) hb)
      have n1_ := A_ (Kd.R_below (pr_ HO188) hb)
      have n2_ := A_ (blk_below (pl_ BK163) hb)
      have n3_ := A_ (blk_below (pl_ BK183) hb)
      have n4_ := A_ (below_step (bl_ HB) hb)
      clear HO_184000
      clear HO188
      clear BK163
      clear BK183
      clear HB
      have HO_184000 := n0_
      have HO188 := n1_
      have BK163 := n2_
      have BK183 := n3_
      have HB := n4_
      clear n0_ n1_ n2_ n3_ n4_
      (try clear hb)
      (try clear hb2)
      (try clear hk)
      (try clear hi)
      refine hK.out _ _ ⟨(blk_cell BK183.out 0).trans rfl, (blk_cell BK183.out 1).trans rfl, (blk_cell BK183.out 2).trans rfl, (blk_cell BK183.out 3).trans rfl, (blk_cell BK183.out 4).trans rfl, (blk_cell BK183.out 5).trans rfl, (blk_cell BK163.out 0).trans rfl, (blk_cell BK163.out 1).trans rfl, (blk_cell BK163.out 2).trans rfl, (blk_cell BK163.out 3).trans rfl, (blk_cell BK163.out 4).trans rfl, (blk_cell BK163.out 5).trans rfl⟩ (fun hHeld => ?_)
      clear hK K
      refine norm_ (a' := ?_) ?_ ?_
      rotate_left
      ·show Act.put _ (some 38) _ = _
       simp only [Act.put, List.setIfInBounds_toArray, List.set_cons_zero, List.set_cons_succ, i64_w, i32_w]
       rfl
      refine pure_ (i := 4) (N := some 39) (v := ?_) (a' := ?_) #[true, true, true, true, true] rfl rfl (by kernel_rfl) (fun _ _ _ h => h) (Or.inl ⟨by rfl, ?_⟩) ?_ ?_
      rotate_left
      ·intro w'
       go_simp
       with_reducible rfl
      rotate_left
      ·simp only [Act.put, List.setIfInBounds_toArray, List.set_cons_zero, List.set_cons_succ, i64_w, i32_w]
       rfl
      refine done_ (by kernel_rfl) ?_
      try go_wp2
      go_ret
      exact ⟨by first | rfl | (simp [errW_none, errW_some] <;> rfl) | (simp [*, errW_none, errW_some] <;> rfl), bl_ HB⟩

end Go.Proofs.Ytodmfjophjhbeaa.M
