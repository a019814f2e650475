-- By this seat's own program over the kit's printer (arrays, functions told by hand); nothing of it is trusted: the kernel checks it.
import Derived.Test.YtajbeamkjoeifaaMx0
import Derived.Test.YtajbeamkjoeifaaMx1
import Derived.Test.YtajbeamkjoeifaaMx4
import Derived.Test.YtajbeamkjoeifaaMx7
namespace Go.Proofs.Ytajbeamkjoeifaa.M
open Go.RowKit Go.Proofs.YtajbeamkjoeifaaW.PrintWords Go.Proofs.YtajbeamkjoeifaaW.PrintLast Go.Proofs.YtajbeamkjoeifaaW.PrintMore
attribute [local go_sem] max2_int min2_int max_two min_two max_three min_three max_four min_four   -- for this text's walks alone
set_option linter.unusedVariables false
set_option linter.unusedSimpArgs false

/-! ### laws_FnExactWeighingText: function 6 -/
def laws_FnExactWeighingText.f (k : Nat) (a0_0 : Int) (a0_1 : Int) (a0_2 : Bool) (a0_3 : Bool) (a1_0 : Int) (a1_1 : Int) (a1_2 : Int) (a1_3 : Int) (a1_4 : Int) (a1_5 : Int) (a1_6 : Int) (a1_7 : Int) (a1_8 : Int) (a1_9 : Int) (a1_10 : Int) (a1_11 : Int) (a1_12 : Int) (a1_13 : Int) : Option (Bool) := (laws_toTask.f a0_0 a0_1 a0_2 a0_3).bind fun bt159 => ((laws_toWeighing.f k a1_0 a1_1 a1_2 a1_3 a1_4 a1_5 a1_6 a1_7 a1_8 a1_9 a1_10 a1_11 a1_12 a1_13).bind fun bt163 => ((spec_WeighingText.f k bt159.1 bt159.2.1 bt159.2.2.1 bt159.2.2.2 bt163.1 bt163.2.1 bt163.2.2.1 bt163.2.2.2.1 bt163.2.2.2.2.1 bt163.2.2.2.2.2.1 bt163.2.2.2.2.2.2.1 bt163.2.2.2.2.2.2.2.1 bt163.2.2.2.2.2.2.2.2.1 bt163.2.2.2.2.2.2.2.2.2.1 bt163.2.2.2.2.2.2.2.2.2.2.1 bt163.2.2.2.2.2.2.2.2.2.2.2.1 bt163.2.2.2.2.2.2.2.2.2.2.2.2.1 bt163.2.2.2.2.2.2.2.2.2.2.2.2.2).bind fun t177 => ((laws_toTask.f a0_0 a0_1 a0_2 a0_3).bind fun bt178 => ((laws_toWeighing.f k a1_0 a1_1 a1_2 a1_3 a1_4 a1_5 a1_6 a1_7 a1_8 a1_9 a1_10 a1_11 a1_12 a1_13).bind fun bt182 => ((impl_WeighingText.f k bt178.1 bt178.2.1 bt178.2.2.1 bt178.2.2.2 bt182.1 bt182.2.1 bt182.2.2.1 bt182.2.2.2.1 bt182.2.2.2.2.1 bt182.2.2.2.2.2.1 bt182.2.2.2.2.2.2.1 bt182.2.2.2.2.2.2.2.1 bt182.2.2.2.2.2.2.2.2.1 bt182.2.2.2.2.2.2.2.2.2.1 bt182.2.2.2.2.2.2.2.2.2.2.1 bt182.2.2.2.2.2.2.2.2.2.2.2.1 bt182.2.2.2.2.2.2.2.2.2.2.2.2.1 bt182.2.2.2.2.2.2.2.2.2.2.2.2.2).bind fun t196 => (if t196.toList = t177.toList then (some true) else (some false)))))))
theorem laws_FnExactWeighingText.mono : ∀ a0 a1 a2 a3 a4 a5 a6 a7 a8 a9 a10 a11 a12 a13 a14 a15 a16 a17 k, LeO (laws_FnExactWeighingText.f k a0 a1 a2 a3 a4 a5 a6 a7 a8 a9 a10 a11 a12 a13 a14 a15 a16 a17) (laws_FnExactWeighingText.f (k + 1) a0 a1 a2 a3 a4 a5 a6 a7 a8 a9 a10 a11 a12 a13 a14 a15 a16 a17) := by
 intro a0 a1 a2 a3 a4 a5 a6 a7 a8 a9 a10 a11 a12 a13 a14 a15 a16 a17 k
 unfold laws_FnExactWeighingText.f
 repeat' first
   | (with_reducible exact impl_WeighingText.mono _ _ _ _ _ _ _ _ _ _ _ _ _ _ _ _ _ _ _)
   | (with_reducible exact laws_toWeighing.mono _ _ _ _ _ _ _ _ _ _ _ _ _ _ _)
   | (with_reducible exact spec_WeighingText.mono _ _ _ _ _ _ _ _ _ _ _ _ _ _ _ _ _ _ _)
   | (with_reducible exact LeO.refl _)
   | (with_reducible exact LeO.none _)
   | (with_reducible refine LeO.ite ?_ ?_)
   | (with_reducible refine LeO.bind ?_ (fun _ => ?_))
   | exact impl_WeighingText.mono _ _ _ _ _ _ _ _ _ _ _ _ _ _ _ _ _ _ _
   | exact laws_toWeighing.mono _ _ _ _ _ _ _ _ _ _ _ _ _ _ _
   | exact spec_WeighingText.mono _ _ _ _ _ _ _ _ _ _ _ _ _ _ _ _ _ _ _
   | exact LeO.none _
   | refine LeO.ite ?_ ?_
   | refine LeO.bind ?_ (fun _ => ?_)
set_option maxHeartbeats 8000000 in
set_option maxRecDepth 100000 in
theorem laws_FnExactWeighingText.calls (k : Nat) (a0_0 : Int) (a0_1 : Int) (a0_2 : Bool) (a0_3 : Bool) (a1_0 : Int) (a1_1 : Int) (a1_2 : Int) (a1_3 : Int) (a1_4 : Int) (a1_5 : Int) (a1_6 : Int) (a1_7 : Int) (a1_8 : Int) (a1_9 : Int) (a1_10 : Int) (a1_11 : Int) (a1_12 : Int) (a1_13 : Int) (r : Bool) (w : World) (h : laws_FnExactWeighingText.f k a0_0 a0_1 a0_2 a0_3 a1_0 a1_1 a1_2 a1_3 a1_4 a1_5 a1_6 a1_7 a1_8 a1_9 a1_10 a1_11 a1_12 a1_13 = some r) :
  Calls Try.prog 6 #[.agg #[.int .i8 a0_0, .int .i8 a0_1, .bool a0_2, .bool a0_3], .agg #[.int .i8 a1_0, .int .i8 a1_1, .int .i8 a1_2, .int .i8 a1_3, .int .i8 a1_4, .int .i8 a1_5, .int .i8 a1_6, .int .i8 a1_7, .int .i8 a1_8, .int .i8 a1_9, .int .i8 a1_10, .int .i8 a1_11, .int .i8 a1_12, .int .i8 a1_13]] w fun e w' => e = .returned (.bool r) ∧ Below w.heap.size w w' := by
 have hu24 := Try.underlying24
 have hu29 := Try.underlying29
 have HB := A_ (Below.refl w.heap.size w)
 have H : ((laws_toTask.f a0_0 a0_1 a0_2 a0_3).bind fun bt159 => ((laws_toWeighing.f k a1_0 a1_1 a1_2 a1_3 a1_4 a1_5 a1_6 a1_7 a1_8 a1_9 a1_10 a1_11 a1_12 a1_13).bind fun bt163 => ((spec_WeighingText.f k bt159.1 bt159.2.1 bt159.2.2.1 bt159.2.2.2 bt163.1 bt163.2.1 bt163.2.2.1 bt163.2.2.2.1 bt163.2.2.2.2.1 bt163.2.2.2.2.2.1 bt163.2.2.2.2.2.2.1 bt163.2.2.2.2.2.2.2.1 bt163.2.2.2.2.2.2.2.2.1 bt163.2.2.2.2.2.2.2.2.2.1 bt163.2.2.2.2.2.2.2.2.2.2.1 bt163.2.2.2.2.2.2.2.2.2.2.2.1 bt163.2.2.2.2.2.2.2.2.2.2.2.2.1 bt163.2.2.2.2.2.2.2.2.2.2.2.2.2).bind fun t177 => ((laws_toTask.f a0_0 a0_1 a0_2 a0_3).bind fun bt178 => ((laws_toWeighing.f k a1_0 a1_1 a1_2 a1_3 a1_4 a1_5 a1_6 a1_7 a1_8 a1_9 a1_10 a1_11 a1_12 a1_13).bind fun bt182 => ((impl_WeighingText.f k bt178.1 bt178.2.1 bt178.2.2.1 bt178.2.2.2 bt182.1 bt182.2.1 bt182.2.2.1 bt182.2.2.2.1 bt182.2.2.2.2.1 bt182.2.2.2.2.2.1 bt182.2.2.2.2.2.2.1 bt182.2.2.2.2.2.2.2.1 bt182.2.2.2.2.2.2.2.2.1 bt182.2.2.2.2.2.2.2.2.2.1 bt182.2.2.2.2.2.2.2.2.2.2.1 bt182.2.2.2.2.2.2.2.2.2.2.2.1 bt182.2.2.2.2.2.2.2.2.2.2.2.2.1 bt182.2.2.2.2.2.2.2.2.2.2.2.2.2).bind fun t196 => (if t196.toList = t177.toList then (some true) else (some false)))))))) = some r := h
 clear h
 replace H := Option.bind_eq_some_iff.mp H
 obtain ⟨⟨t159, t160, t161, t162⟩, A30, H⟩ := H
 replace H : ((laws_toWeighing.f k a1_0 a1_1 a1_2 a1_3 a1_4 a1_5 a1_6 a1_7 a1_8 a1_9 a1_10 a1_11 a1_12 a1_13).bind fun bt163 => ((spec_WeighingText.f k t159 t160 t161 t162 bt163.1 bt163.2.1 bt163.2.2.1 bt163.2.2.2.1 bt163.2.2.2.2.1 bt163.2.2.2.2.2.1 bt163.2.2.2.2.2.2.1 bt163.2.2.2.2.2.2.2.1 bt163.2.2.2.2.2.2.2.2.1 bt163.2.2.2.2.2.2.2.2.2.1 bt163.2.2.2.2.2.2.2.2.2.2.1 bt163.2.2.2.2.2.2.2.2.2.2.2.1 bt163.2.2.2.2.2.2.2.2.2.2.2.2.1 bt163.2.2.2.2.2.2.2.2.2.2.2.2.2).bind fun t177 => ((laws_toTask.f a0_0 a0_1 a0_2 a0_3).bind fun bt178 => ((laws_toWeighing.f k a1_0 a1_1 a1_2 a1_3 a1_4 a1_5 a1_6 a1_7 a1_8 a1_9 a1_10 a1_11 a1_12 a1_13).bind fun bt182 => ((impl_WeighingText.f k bt178.1 bt178.2.1 bt178.2.2.1 bt178.2.2.2 bt182.1 bt182.2.1 bt182.2.2.1 bt182.2.2.2.1 bt182.2.2.2.2.1 bt182.2.2.2.2.2.1 bt182.2.2.2.2.2.2.1 bt182.2.2.2.2.2.2.2.1 bt182.2.2.2.2.2.2.2.2.1 bt182.2.2.2.2.2.2.2.2.2.1 bt182.2.2.2.2.2.2.2.2.2.2.1 bt182.2.2.2.2.2.2.2.2.2.2.2.1 bt182.2.2.2.2.2.2.2.2.2.2.2.2.1 bt182.2.2.2.2.2.2.2.2.2.2.2.2.2).bind fun t196 => (if t196.toList = t177.toList then (some true) else (some false))))))) = some r := H
 have A3 := Aside0.mk A30
 clear A30
 replace H := Option.bind_eq_some_iff.mp H
 obtain ⟨⟨t163, t164, t165, t166, t167, t168, t169, t170, t171, t172, t173, t174, t175, t176⟩, A40, H⟩ := H
 replace H : ((spec_WeighingText.f k t159 t160 t161 t162 t163 t164 t165 t166 t167 t168 t169 t170 t171 t172 t173 t174 t175 t176).bind fun t177 => ((laws_toTask.f a0_0 a0_1 a0_2 a0_3).bind fun bt178 => ((laws_toWeighing.f k a1_0 a1_1 a1_2 a1_3 a1_4 a1_5 a1_6 a1_7 a1_8 a1_9 a1_10 a1_11 a1_12 a1_13).bind fun bt182 => ((impl_WeighingText.f k bt178.1 bt178.2.1 bt178.2.2.1 bt178.2.2.2 bt182.1 bt182.2.1 bt182.2.2.1 bt182.2.2.2.1 bt182.2.2.2.2.1 bt182.2.2.2.2.2.1 bt182.2.2.2.2.2.2.1 bt182.2.2.2.2.2.2.2.1 bt182.2.2.2.2.2.2.2.2.1 bt182.2.2.2.2.2.2.2.2.2.1 bt182.2.2.2.2.2.2.2.2.2.2.1 bt182.2.2.2.2.2.2.2.2.2.2.2.1 bt182.2.2.2.2.2.2.2.2.2.2.2.2.1 bt182.2.2.2.2.2.2.2.2.2.2.2.2.2).bind fun t196 => (if t196.toList = t177.toList then (some true) else (some false)))))) = some r := H
 have A4 := Aside0.mk A40
 clear A40
 replace H := Option.bind_eq_some_iff.mp H
 obtain ⟨t177, A50, H⟩ := H
 replace H : ((laws_toTask.f a0_0 a0_1 a0_2 a0_3).bind fun bt178 => ((laws_toWeighing.f k a1_0 a1_1 a1_2 a1_3 a1_4 a1_5 a1_6 a1_7 a1_8 a1_9 a1_10 a1_11 a1_12 a1_13).bind fun bt182 => ((impl_WeighingText.f k bt178.1 bt178.2.1 bt178.2.2.1 bt178.2.2.2 bt182.1 bt182.2.1 bt182.2.2.1 bt182.2.2.2.1 bt182.2.2.2.2.1 bt182.2.2.2.2.2.1 bt182.2.2.2.2.2.2.1 bt182.2.2.2.2.2.2.2.1 bt182.2.2.2.2.2.2.2.2.1 bt182.2.2.2.2.2.2.2.2.2.1 bt182.2.2.2.2.2.2.2.2.2.2.1 bt182.2.2.2.2.2.2.2.2.2.2.2.1 bt182.2.2.2.2.2.2.2.2.2.2.2.2.1 bt182.2.2.2.2.2.2.2.2.2.2.2.2.2).bind fun t196 => (if t196.toList = t177.toList then (some true) else (some false))))) = some r := H
 have A5 := Aside0.mk A50
 clear A50
 replace H := Option.bind_eq_some_iff.mp H
 obtain ⟨⟨t178, t179, t180, t181⟩, A60, H⟩ := H
 replace H : ((laws_toWeighing.f k a1_0 a1_1 a1_2 a1_3 a1_4 a1_5 a1_6 a1_7 a1_8 a1_9 a1_10 a1_11 a1_12 a1_13).bind fun bt182 => ((impl_WeighingText.f k t178 t179 t180 t181 bt182.1 bt182.2.1 bt182.2.2.1 bt182.2.2.2.1 bt182.2.2.2.2.1 bt182.2.2.2.2.2.1 bt182.2.2.2.2.2.2.1 bt182.2.2.2.2.2.2.2.1 bt182.2.2.2.2.2.2.2.2.1 bt182.2.2.2.2.2.2.2.2.2.1 bt182.2.2.2.2.2.2.2.2.2.2.1 bt182.2.2.2.2.2.2.2.2.2.2.2.1 bt182.2.2.2.2.2.2.2.2.2.2.2.2.1 bt182.2.2.2.2.2.2.2.2.2.2.2.2.2).bind fun t196 => (if t196.toList = t177.toList then (some true) else (some false)))) = some r := H
 have A6 := Aside0.mk A60
 clear A60
 replace H := Option.bind_eq_some_iff.mp H
 obtain ⟨⟨t182, t183, t184, t185, t186, t187, t188, t189, t190, t191, t192, t193, t194, t195⟩, A70, H⟩ := H
 replace H : ((impl_WeighingText.f k t178 t179 t180 t181 t182 t183 t184 t185 t186 t187 t188 t189 t190 t191 t192 t193 t194 t195).bind fun t196 => (if t196.toList = t177.toList then (some true) else (some false))) = some r := H
 have A7 := Aside0.mk A70
 clear A70
 replace H := Option.bind_eq_some_iff.mp H
 obtain ⟨t196, A80, H⟩ := H
 replace H : (if t196.toList = t177.toList then (some true) else (some false)) = some r := H
 have A8 := Aside0.mk A80
 clear A80
 by_cases c9 : t196.toList = t177.toList
 ·rw [if_pos c9] at H
  have c9b0 : (t196.toList == t177.toList) = true := beq_iff_eq.mpr c9
  have c9b1 : (t196.toList != t177.toList) = false := bne_eq_false_iff_eq.mpr c9
  clear c9
  obtain rfl := Option.some.inj H
  go_enter Try.func6, Try.ntmps6
  try go_wp2_with (first | ((with_reducible refine gate_dst (N := 2) rfl ?_); refine box_event ?hg (N := 2) ?hd (cs := #[.int .i8 a0_0, .int .i8 a0_1, .bool a0_2, .bool a0_3]) (t := 24) ?hr ?_; (case hd => rfl); (case hg => rfl); (case hr => first | (go_simp; done) | (go_simp; rfl)); intro gb157 hg w10 hbox hb; have n0_ := A_ (below_step (bl_ HB) hb); have n1_ := A_ (hbox); have n2_ := A_ ((by rw [hg]; exact (below_size (bl_ HB)) : w.heap.size ≤ gb157)); have n3_ := n2_; clear HB; have HB := n0_; have BK157 := n1_; have GW157 := n2_; have GE157 := n3_; clear n0_ n1_ n2_ n3_; clear hb hbox hg) | ((with_reducible refine gate_dst (N := 3) rfl ?_); refine box_event ?hg (N := 3) ?hd (cs := #[.int .i8 a1_0, .int .i8 a1_1, .int .i8 a1_2, .int .i8 a1_3, .int .i8 a1_4, .int .i8 a1_5, .int .i8 a1_6, .int .i8 a1_7, .int .i8 a1_8, .int .i8 a1_9, .int .i8 a1_10, .int .i8 a1_11, .int .i8 a1_12, .int .i8 a1_13]) (t := 29) ?hr ?_; (case hd => rfl); (case hg => rfl); (case hr => first | (go_simp; done) | (go_simp; rfl)); intro gb158 hg w11 hbox hb; have n0_ := A_ (blk_below (pl_ BK157) hb); have n1_ := A_ (below_step (bl_ HB) hb); have n2_ := A_ (hbox); have n3_ := A_ ((by rw [hg]; exact (below_size (bl_ HB)) : w.heap.size ≤ gb158)); have n4_ := n3_; have n5_ := A_ ((by rw [hg]; exact Nat.ne_of_lt (blk_lt (pl_ BK157)) : gb157 ≠ gb158)); have n6_ := Aside0.mk n5_.out.symm; clear BK157; clear HB; have BK157 := n0_; have HB := n1_; have BK158 := n2_; have GW158 := n3_; have GE158 := n4_; have NB157_158 := n5_; have NB158_157 := n6_; clear n0_ n1_ n2_ n3_ n4_ n5_ n6_; clear hb hbox hg))
  have n0_ := A_ (blk_drew BK157.out)
  have n1_ := A_ (blk_drew BK158.out)
  have n2_ := A_ (below_drew1 HB.out)
  clear BK157
  clear BK158
  clear HB
  have BK157 := n0_
  have BK158 := n1_
  have HB := n2_
  clear n0_ n1_ n2_
  refine start_ (n := 6) (S := fun w' => w'.cell? ⟨gb157, 0, none⟩ = some (.int .i8 a0_0) ∧ w'.cell? ⟨gb157, 1, none⟩ = some (.int .i8 a0_1) ∧ w'.cell? ⟨gb157, 2, none⟩ = some (.bool a0_2) ∧ w'.cell? ⟨gb157, 3, none⟩ = some (.bool a0_3) ∧ w'.cell? ⟨gb158, 0, none⟩ = some (.int .i8 a1_0) ∧ w'.cell? ⟨gb158, 1, none⟩ = some (.int .i8 a1_1) ∧ w'.cell? ⟨gb158, 2, none⟩ = some (.int .i8 a1_2) ∧ w'.cell? ⟨gb158, 3, none⟩ = some (.int .i8 a1_3) ∧ w'.cell? ⟨gb158, 4, none⟩ = some (.int .i8 a1_4) ∧ w'.cell? ⟨gb158, 5, none⟩ = some (.int .i8 a1_5) ∧ w'.cell? ⟨gb158, 6, none⟩ = some (.int .i8 a1_6) ∧ w'.cell? ⟨gb158, 7, none⟩ = some (.int .i8 a1_7) ∧ w'.cell? ⟨gb158, 8, none⟩ = some (.int .i8 a1_8) ∧ w'.cell? ⟨gb158, 9, none⟩ = some (.int .i8 a1_9) ∧ w'.cell? ⟨gb158, 10, none⟩ = some (.int .i8 a1_10) ∧ w'.cell? ⟨gb158, 11, none⟩ = some (.int .i8 a1_11) ∧ w'.cell? ⟨gb158, 12, none⟩ = some (.int .i8 a1_12) ∧ w'.cell? ⟨gb158, 13, none⟩ = some (.int .i8 a1_13)) (ds := []) #[false, false, false, false, false, false] (by kernel_rfl) rfl rfl ⟨(blk_cell BK157.out 0).trans rfl, (blk_cell BK157.out 1).trans rfl, (blk_cell BK157.out 2).trans rfl, (blk_cell BK157.out 3).trans rfl, (blk_cell BK158.out 0).trans rfl, (blk_cell BK158.out 1).trans rfl, (blk_cell BK158.out 2).trans rfl, (blk_cell BK158.out 3).trans rfl, (blk_cell BK158.out 4).trans rfl, (blk_cell BK158.out 5).trans rfl, (blk_cell BK158.out 6).trans rfl, (blk_cell BK158.out 7).trans rfl, (blk_cell BK158.out 8).trans rfl, (blk_cell BK158.out 9).trans rfl, (blk_cell BK158.out 10).trans rfl, (blk_cell BK158.out 11).trans rfl, (blk_cell BK158.out 12).trans rfl, (blk_cell BK158.out 13).trans rfl⟩ (fun hHeld => ?_)
  generalize w11.drew = w12 at BK157 BK158 HB hHeld ⊢
  refine take_ (i := 0) (N := some 7) (v := ?_) (a' := ?_) #[true, false, false, false, false, false] rfl rfl (by kernel_rfl) (fun _ _ _ h => h) (Or.inl ⟨by rfl, ?_⟩) hHeld ?_ ?_
  rotate_left
  ·rintro w' ⟨s0, s1, s2, s3, s4, s5, s6, s7, s8, s9, s10, s11, s12, s13, s14, s15, s16, s17⟩
   go_simp
   with_reducible rfl
  rotate_left
  ·simp only [Act.put, List.setIfInBounds_toArray, List.set_cons_zero, List.set_cons_succ, i64_w, i32_w]
   rfl
  refine take_ (i := 2) (N := some 9) (v := ?_) (a' := ?_) #[true, false, true, false, false, false] rfl rfl (by kernel_rfl) (fun _ _ _ h => h) (Or.inl ⟨by rfl, ?_⟩) hHeld ?_ ?_
  rotate_left
  ·rintro w' ⟨s0, s1, s2, s3, s4, s5, s6, s7, s8, s9, s10, s11, s12, s13, s14, s15, s16, s17⟩
   go_simp
   with_reducible rfl
  rotate_left
  ·simp only [Act.put, List.setIfInBounds_toArray, List.set_cons_zero, List.set_cons_succ, i64_w, i32_w]
   rfl
  refine one_ (i := 1) (N := some 8) #[true, true, true, false, false, false] rfl rfl (by kernel_rfl) (by decide) (fun K hK => ?_)
  refine goes_ Try.func15 (by kernel_rfl) rfl #[.agg #[.int .i8 a0_0, .int .i8 a0_1, .bool a0_2, .bool a0_3]] (by rfl) rfl rfl arg_ ?_
  with_reducible refine (laws_toTask.calls a0_0 a0_1 a0_2 a0_3 t159 t160 t161 t162 _ A3.out).mono ?_
  rintro e w13 ⟨rfl, hb⟩
  refine ⟨_, rfl, ?_⟩
  have n0_ := A_ (blk_below (pl_ BK157) hb)
  have n1_ := A_ (blk_below (pl_ BK158) hb)
  have n2_ := A_ (below_step (bl_ HB) hb)
  clear BK157
  clear BK158
  clear HB
  have BK157 := n0_
  have BK158 := n1_
  have HB := n2_
  clear n0_ n1_ n2_
  (try clear hb)
  (try clear hb2)
  (try clear hk)
  (try clear hi)
  refine hK.out _ _ ⟨(blk_cell BK157.out 0).trans rfl, (blk_cell BK157.out 1).trans rfl, (blk_cell BK157.out 2).trans rfl, (blk_cell BK157.out 3).trans rfl, (blk_cell BK158.out 0).trans rfl, (blk_cell BK158.out 1).trans rfl, (blk_cell BK158.out 2).trans rfl, (blk_cell BK158.out 3).trans rfl, (blk_cell BK158.out 4).trans rfl, (blk_cell BK158.out 5).trans rfl, (blk_cell BK158.out 6).trans rfl, (blk_cell BK158.out 7).trans rfl, (blk_cell BK158.out 8).trans rfl, (blk_cell BK158.out 9).trans rfl, (blk_cell BK158.out 10).trans rfl, (blk_cell BK158.out 11).trans rfl, (blk_cell BK158.out 12).trans rfl, (blk_cell BK158.out 13).trans rfl⟩ (fun hHeld => ?_)
  clear hK K
  refine norm_ (a' := ?_) ?_ ?_
  rotate_left
  ·show Act.put _ (some 8) _ = _
   simp only [Act.put, List.setIfInBounds_toArray, List.set_cons_zero, List.set_cons_succ, i64_w, i32_w]
   rfl
  refine one_ (i := 3) (N := some 10) #[true, true, true, true, false, false] rfl rfl (by kernel_rfl) (by decide) (fun K hK => ?_)
  refine goes_ Try.func18 (by kernel_rfl) rfl #[.agg #[.int .i8 a1_0, .int .i8 a1_1, .int .i8 a1_2, .int .i8 a1_3, .int .i8 a1_4, .int .i8 a1_5, .int .i8 a1_6, .int .i8 a1_7, .int .i8 a1_8, .int .i8 a1_9, .int .i8 a1_10, .int .i8 a1_11, .int .i8 a1_12, .int .i8 a1_13]] (by rfl) rfl rfl arg_ ?_
  with_reducible refine (laws_toWeighing.calls k a1_0 a1_1 a1_2 a1_3 a1_4 a1_5 a1_6 a1_7 a1_8 a1_9 a1_10 a1_11 a1_12 a1_13 t163 t164 t165 t166 t167 t168 t169 t170 t171 t172 t173 t174 t175 t176 _ A4.out).mono ?_
  rintro e w14 ⟨rfl, hb⟩
  refine ⟨_, rfl, ?_⟩
  have n0_ := A_ (blk_below (pl_ BK157) hb)
  have n1_ := A_ (blk_below (pl_ BK158) hb)
  have n2_ := A_ (below_step (bl_ HB) hb)
  clear BK157
  clear BK158
  clear HB
  have BK157 := n0_
  have BK158 := n1_
  have HB := n2_
  clear n0_ n1_ n2_
  (try clear hb)
  (try clear hb2)
  (try clear hk)
  (try clear hi)
  refine hK.out _ _ ⟨(blk_cell BK157.out 0).trans rfl, (blk_cell BK157.out 1).trans rfl, (blk_cell BK157.out 2).trans rfl, (blk_cell BK157.out 3).trans rfl, (blk_cell BK158.out 0).trans rfl, (blk_cell BK158.out 1).trans rfl, (blk_cell BK158.out 2).trans rfl, (blk_cell BK158.out 3).trans rfl, (blk_cell BK158.out 4).trans rfl, (blk_cell BK158.out 5).trans rfl, (blk_cell BK158.out 6).trans rfl, (blk_cell BK158.out 7).trans rfl, (blk_cell BK158.out 8).trans rfl, (blk_cell BK158.out 9).trans rfl, (blk_cell BK158.out 10).trans rfl, (blk_cell BK158.out 11).trans rfl, (blk_cell BK158.out 12).trans rfl, (blk_cell BK158.out 13).trans rfl⟩ (fun hHeld => ?_)
  clear hK K
  refine norm_ (a' := ?_) ?_ ?_
  rotate_left
  ·show Act.put _ (some 10) _ = _
   simp only [Act.put, List.setIfInBounds_toArray, List.set_cons_zero, List.set_cons_succ, i64_w, i32_w]
   rfl
  refine one_ (i := 4) (N := some 11) #[true, true, true, true, true, false] rfl rfl (by kernel_rfl) (by decide) (fun K hK => ?_)
  refine goes_ Try.func22 (by kernel_rfl) rfl #[.agg #[.int .i8 t159, .int .i8 t160, .bool t161, .bool t162], .agg #[.int .i8 t163, .int .i8 t164, .int .i8 t165, .int .i8 t166, .int .i8 t167, .int .i8 t168, .int .i8 t169, .int .i8 t170, .int .i8 t171, .int .i8 t172, .int .i8 t173, .int .i8 t174, .int .i8 t175, .int .i8 t176]] (by rfl) rfl rfl arg_ ?_
  with_reducible refine (spec_WeighingText.calls k t159 t160 t161 t162 t163 t164 t165 t166 t167 t168 t169 t170 t171 t172 t173 t174 t175 t176 t177 _ A5.out).mono ?_
  rintro e w15 ⟨rfl, hb⟩
  refine ⟨_, rfl, ?_⟩
  have n0_ := A_ (blk_below (pl_ BK157) hb)
  have n1_ := A_ (blk_below (pl_ BK158) hb)
  have n2_ := A_ (below_step (bl_ HB) hb)
  clear BK157
  clear BK158
  clear HB
  have BK157 := n0_
  have BK158 := n1_
  have HB := n2_
  clear n0_ n1_ n2_
  (try clear hb)
  (try clear hb2)
  (try clear hk)
  (try clear hi)
  refine hK.out _ _ ⟨(blk_cell BK157.out 0).trans rfl, (blk_cell BK157.out 1).trans rfl, (blk_cell BK157.out 2).trans rfl, (blk_cell BK157.out 3).trans rfl, (blk_cell BK158.out 0).trans rfl, (blk_cell BK158.out 1).trans rfl, (blk_cell BK158.out 2).trans rfl, (blk_cell BK158.out 3).trans rfl, (blk_cell BK158.out 4).trans rfl, (blk_cell BK158.out 5).trans rfl, (blk_cell BK158.out 6).trans rfl, (blk_cell BK158.out 7).trans rfl, (blk_cell BK158.out 8).trans rfl, (blk_cell BK158.out 9).trans rfl, (blk_cell BK158.out 10).trans rfl, (blk_cell BK158.out 11).trans rfl, (blk_cell BK158.out 12).trans rfl, (blk_cell BK158.out 13).trans rfl⟩ (fun hHeld => ?_)
  clear hK K
  refine norm_ (a' := ?_) ?_ ?_
  rotate_left
  ·show Act.put _ (some 11) _ = _
   simp only [Act.put, List.setIfInBounds_toArray, List.set_cons_zero, List.set_cons_succ, i64_w, i32_w]
   rfl
  refine pure_ (i := 5) (N := some 5) (v := ?_) (a' := ?_) #[true, true, true, true, true, true] rfl rfl (by kernel_rfl) (fun _ _ _ h => h) (Or.inl ⟨by rfl, ?_⟩) ?_ ?_
  rotate_left
  ·intro w'
   go_simp
   with_reducible rfl
  rotate_left
  ·simp only [Act.put, List.setIfInBounds_toArray, List.set_cons_zero, List.set_cons_succ, i64_w, i32_w]
   rfl
  refine done_ (by kernel_rfl) ?_
  try go_wp2
  have n0_ := A_ (blk_drew BK157.out)
  have n1_ := A_ (blk_drew BK158.out)
  have n2_ := A_ (below_drew1 HB.out)
  clear BK157
  clear BK158
  clear HB
  have BK157 := n0_
  have BK158 := n1_
  have HB := n2_
  clear n0_ n1_ n2_
  refine start_ (n := 6) (S := fun w' => w'.cell? ⟨gb157, 0, none⟩ = some (.int .i8 a0_0) ∧ w'.cell? ⟨gb157, 1, none⟩ = some (.int .i8 a0_1) ∧ w'.cell? ⟨gb157, 2, none⟩ = some (.bool a0_2) ∧ w'.cell? ⟨gb157, 3, none⟩ = some (.bool a0_3) ∧ w'.cell? ⟨gb158, 0, none⟩ = some (.int .i8 a1_0) ∧ w'.cell? ⟨gb158, 1, none⟩ = some (.int .i8 a1_1) ∧ w'.cell? ⟨gb158, 2, none⟩ = some (.int .i8 a1_2) ∧ w'.cell? ⟨gb158, 3, none⟩ = some (.int .i8 a1_3) ∧ w'.cell? ⟨gb158, 4, none⟩ = some (.int .i8 a1_4) ∧ w'.cell? ⟨gb158, 5, none⟩ = some (.int .i8 a1_5) ∧ w'.cell? ⟨gb158, 6, none⟩ = some (.int .i8 a1_6) ∧ w'.cell? ⟨gb158, 7, none⟩ = some (.int .i8 a1_7) ∧ w'.cell? ⟨gb158, 8, none⟩ = some (.int .i8 a1_8) ∧ w'.cell? ⟨gb158, 9, none⟩ = some (.int .i8 a1_9) ∧ w'.cell? ⟨gb158, 10, none⟩ = some (.int .i8 a1_10) ∧ w'.cell? ⟨gb158, 11, none⟩ = some (.int .i8 a1_11) ∧ w'.cell? ⟨gb158, 12, none⟩ = some (.int .i8 a1_12) ∧ w'.cell? ⟨gb158, 13, none⟩ = some (.int .i8 a1_13)) (ds := []) #[false, false, false, false, false, false] (by kernel_rfl) rfl rfl ⟨(blk_cell BK157.out 0).trans rfl, (blk_cell BK157.out 1).trans rfl, (blk_cell BK157.out 2).trans rfl, (blk_cell BK157.out 3).trans rfl, (blk_cell BK158.out 0).trans rfl, (blk_cell BK158.out 1).trans rfl, (blk_cell BK158.out 2).trans rfl, (blk_cell BK158.out 3).trans rfl, (blk_cell BK158.out 4).trans rfl, (blk_cell BK158.out 5).trans rfl, (blk_cell BK158.out 6).trans rfl, (blk_cell BK158.out 7).trans rfl, (blk_cell BK158.out 8).trans rfl, (blk_cell BK158.out 9).trans rfl, (blk_cell BK158.out 10).trans rfl, (blk_cell BK158.out 11).trans rfl, (blk_cell BK158.out 12).trans rfl, (blk_cell BK158.out 13).trans rfl⟩ (fun hHeld => ?_)
  generalize w15.drew = w16 at BK157 BK158 HB hHeld ⊢
  refine take_ (i := 0) (N := some 12) (v := ?_) (a' := ?_) #[true, false, false, false, false, false] rfl rfl (by kernel_rfl) (fun _ _ _ h => h) (Or.inl ⟨by rfl, ?_⟩) hHeld ?_ ?_
  rotate_left
  ·rintro w' ⟨s0, s1, s2, s3, s4, s5, s6, s7, s8, s9, s10, s11, s12, s13, s14, s15, s16, s17⟩
   go_simp
   with_reducible rfl
  rotate_left
  ·simp only [Act.put, List.setIfInBounds_toArray, List.set_cons_zero, List.set_cons_succ, i64_w, i32_w]
   rfl
  refine take_ (i := 2) (N := some 14) (v := ?_) (a' := ?_) #[true, false, true, false, false, false] rfl rfl (by kernel_rfl) (fun _ _ _ h => h) (Or.inl ⟨by rfl, ?_⟩) hHeld ?_ ?_
  rotate_left
  ·rintro w' ⟨s0, s1, s2, s3, s4, s5, s6, s7, s8, s9, s10, s11, s12, s13, s14, s15, s16, s17⟩
   go_simp
   with_reducible rfl
  rotate_left
  ·simp only [Act.put, List.setIfInBounds_toArray, List.set_cons_zero, List.set_cons_succ, i64_w, i32_w]
   rfl
  refine one_ (i := 1) (N := some 13) #[true, true, true, false, false, false] rfl rfl (by kernel_rfl) (by decide) (fun K hK => ?_)
  refine goes_ Try.func15 (by kernel_rfl) rfl #[.agg #[.int .i8 a0_0, .int .i8 a0_1, .bool a0_2, .bool a0_3]] (by rfl) rfl rfl arg_ ?_
  with_reducible refine (laws_toTask.calls a0_0 a0_1 a0_2 a0_3 t178 t179 t180 t181 _ A6.out).mono ?_
  rintro e w17 ⟨rfl, hb⟩
  refine ⟨_, rfl, ?_⟩
  have n0_ := A_ (blk_below (pl_ BK157) hb)
  have n1_ := A_ (blk_below (pl_ BK158) hb)
  have n2_ := A_ (below_step (bl_ HB) hb)
  clear BK157
  clear BK158
  clear HB
  have BK157 := n0_
  have BK158 := n1_
  have HB := n2_
  clear n0_ n1_ n2_
  (try clear hb)
  (try clear hb2)
  (try clear hk)
  (try clear hi)
  refine hK.out _ _ ⟨(blk_cell BK157.out 0).trans rfl, (blk_cell BK157.out 1).trans rfl, (blk_cell BK157.out 2).trans rfl, (blk_cell BK157.out 3).trans rfl, (blk_cell BK158.out 0).trans rfl, (blk_cell BK158.out 1).trans rfl, (blk_cell BK158.out 2).trans rfl, (blk_cell BK158.out 3).trans rfl, (blk_cell BK158.out 4).trans rfl, (blk_cell BK158.out 5).trans rfl, (blk_cell BK158.out 6).trans rfl, (blk_cell BK158.out 7).trans rfl, (blk_cell BK158.out 8).trans rfl, (blk_cell BK158.out 9).trans rfl, (blk_cell BK158.out 10).trans rfl, (blk_cell BK158.out 11).trans rfl, (blk_cell BK158.out 12).trans rfl, (blk_cell BK158.out 13).trans rfl⟩ (fun hHeld => ?_)
  clear hK K
  refine norm_ (a' := ?_) ?_ ?_
  rotate_left
  ·show Act.put _ (some 13) _ = _
   simp only [Act.put, List.setIfInBounds_toArray, List.set_cons_zero, List.set_cons_succ, i64_w, i32_w]
   rfl
  refine one_ (i := 3) (N := some 15) #[true, true, true, true, false, false] rfl rfl (by kernel_rfl) (by decide) (fun K hK => ?_)
  refine goes_ Try.func18 (by kernel_rfl) rfl #[.agg #[.int .i8 a1_0, .int .i8 a1_1, .int .i8 a1_2, .int .i8 a1_3, .int .i8 a1_4, .int .i8 a1_5, .int .i8 a1_6, .int .i8 a1_7, .int .i8 a1_8, .int .i8 a1_9, .int .i8 a1_10, .int .i8 a1_11, .int .i8 a1_12, .int .i8 a1_13]] (by rfl) rfl rfl arg_ ?_
  with_reducible refine (laws_toWeighing.calls k a1_0 a1_1 a1_2 a1_3 a1_4 a1_5 a1_6 a1_7 a1_8 a1_9 a1_10 a1_11 a1_12 a1_13 t182 t183 t184 t185 t186 t187 t188 t189 t190 t191 t192 t193 t194 t195 _ A7.out).mono ?_
  rintro e w18 ⟨rfl, hb⟩
  refine ⟨_, rfl, ?_⟩
  have n0_ := A_ (blk_below (pl_ BK157) hb)
  have n1_ := A_ (blk_below (pl_ BK158) hb)
  have n2_ := A_ (below_step (bl_ HB) hb)
  clear BK157
  clear BK158
  clear HB
  have BK157 := n0_
  have BK158 := n1_
  have HB := n2_
  clear n0_ n1_ n2_
  (try clear hb)
  (try clear hb2)
  (try clear hk)
  (try clear hi)
  refine hK.out _ _ ⟨(blk_cell BK157.out 0).trans rfl, (blk_cell BK157.out 1).trans rfl, (blk_cell BK157.out 2).trans rfl, (blk_cell BK157.out 3).trans rfl, (blk_cell BK158.out 0).trans rfl, (blk_cell BK158.out 1).trans rfl, (blk_cell BK158.out 2).trans rfl, (blk_cell BK158.out 3).trans rfl, (blk_cell BK158.out 4).trans rfl, (blk_cell BK158.out 5).trans rfl, (blk_cell BK158.out 6).trans rfl, (blk_cell BK158.out 7).trans rfl, (blk_cell BK158.out 8).trans rfl, (blk_cell BK158.out 9).trans rfl, (blk_cell BK158.out 10).trans rfl, (blk_cell BK158.out 11).trans rfl, (blk_cell BK158.out 12).trans rfl, (blk_cell BK158.out 13).trans rfl⟩ (fun hHeld => ?_)
  clear hK K
  refine norm_ (a' := ?_) ?_ ?_
  rotate_left
  ·show Act.put _ (some 15) _ = _
   simp only [Act.put, List.setIfInBounds_toArray, List.set_cons_zero, List.set_cons_succ, i64_w, i32_w]
   rfl
  refine one_ (i := 4) (N := some 16) #[true, true, true, true, true, false] rfl rfl (by kernel_rfl) (by decide) (fun K hK => ?_)
  refine goes_ Try.func23 (by kernel_rfl) rfl #[.agg #[.int .i8 t178, .int .i8 t179, .bool t180, .bool t181], .agg #[.int .i8 t182, .int .i8 t183, .int .i8 t184, .int .i8 t185, .int .i8 t186, .int .i8 t187, .int .i8 t188, .int .i8 t189, .int .i8 t190, .int .i8 t191, .int .i8 t192, .int .i8 t193, .int .i8 t194, .int .i8 t195]] (by rfl) rfl rfl arg_ ?_
  with_reducible refine (impl_WeighingText.calls k t178 t179 t180 t181 t182 t183 t184 t185 t186 t187 t188 t189 t190 t191 t192 t193 t194 t195 t196 _ A8.out).mono ?_
  rintro e w19 ⟨rfl, hb⟩
  refine ⟨_, rfl, ?_⟩
  have n0_ := A_ (blk_below (pl_ BK157) hb)
  have n1_ := A_ (blk_below (pl_ BK158) hb)
  have n2_ := A_ (below_step (bl_ HB) hb)
  clear BK157
  clear BK158
  clear HB
  have BK157 := n0_
  have BK158 := n1_
  have HB := n2_
  clear n0_ n1_ n2_
  (try clear hb)
  (try clear hb2)
  (try clear hk)
  (try clear hi)
  refine hK.out _ _ ⟨(blk_cell BK157.out 0).trans rfl, (blk_cell BK157.out 1).trans rfl, (blk_cell BK157.out 2).trans rfl, (blk_cell BK157.out 3).trans rfl, (blk_cell BK158.out 0).trans rfl, (blk_cell BK158.out 1).trans rfl, (blk_cell BK158.out 2).trans rfl, (blk_cell BK158.out 3).trans rfl, (blk_cell BK158.out 4).trans rfl, (blk_cell BK158.out 5).trans rfl, (blk_cell BK158.out 6).trans rfl, (blk_cell BK158.out 7).trans rfl, (blk_cell BK158.out 8).trans rfl, (blk_cell BK158.out 9).trans rfl, (blk_cell BK158.out 10).trans rfl, (blk_cell BK158.out 11).trans rfl, (blk_cell BK158.out 12).trans rfl, (blk_cell BK158.out 13).trans rfl⟩ (fun hHeld => ?_)
  clear hK K
  refine norm_ (a' := ?_) ?_ ?_
  rotate_left
  ·show Act.put _ (some 16) _ = _
   simp only [Act.put, List.setIfInBounds_toArray, List.set_cons_zero, List.set_cons_succ, i64_w, i32_w]
   rfl
  refine pure_ (i := 5) (N := some 6) (v := ?_) (a' := ?_) #[true, true, true, true, true, true] rfl rfl (by kernel_rfl) (fun _ _ _ h => h) (Or.inl ⟨by rfl, ?_⟩) ?_ ?_
  rotate_left
  ·intro w'
   go_simp
   with_reducible rfl
  rotate_left
  ·simp only [Act.put, List.setIfInBounds_toArray, List.set_cons_zero, List.set_cons_succ, i64_w, i32_w]
   rfl
  refine done_ (by kernel_rfl) ?_
  try go_wp2
  go_ret
  exact ⟨by first | rfl | (simp [errW_none, errW_some] <;> rfl) | (simp [*, errW_none, errW_some] <;> rfl), bl_ HB⟩
 ·rw [if_neg c9] at H
  have c9b0 : (t196.toList == t177.toList) = false := beq_eq_false_iff_ne.mpr c9
  have c9b1 : (t196.toList != t177.toList) = true := bne_iff_ne.mpr c9
  obtain rfl := Option.some.inj H
  go_enter Try.func6, Try.ntmps6
  try go_wp2_with (first | ((with_reducible refine gate_dst (N := 2) rfl ?_); refine box_event ?hg (N := 2) ?hd (cs := #[.int .i8 a0_0, .int .i8 a0_1, .bool a0_2, .bool a0_3]) (t := 24) ?hr ?_; (case hd => rfl); (case hg => rfl); (case hr => first | (go_simp; done) | (go_simp; rfl)); intro gb157 hg w20 hbox hb; have n0_ := A_ (below_step (bl_ HB) hb); have n1_ := A_ (hbox); have n2_ := A_ ((by rw [hg]; exact (below_size (bl_ HB)) : w.heap.size ≤ gb157)); have n3_ := n2_; clear HB; have HB := n0_; have BK157 := n1_; have GW157 := n2_; have GE157 := n3_; clear n0_ n1_ n2_ n3_; clear hb hbox hg) | ((with_reducible refine gate_dst (N := 3) rfl ?_); refine box_event ?hg (N := 3) ?hd (cs := #[.int .i8 a1_0, .int .i8 a1_1, .int .i8 a1_2, .int .i8 a1_3, .int .i8 a1_4, .int .i8 a1_5, .int .i8 a1_6, .int .i8 a1_7, .int .i8 a1_8, .int .i8 a1_9, .int .i8 a1_10, .int .i8 a1_11, .int .i8 a1_12, .int .i8 a1_13]) (t := 29) ?hr ?_; (case hd => rfl); (case hg => rfl); (case hr => first | (go_simp; done) | (go_simp; rfl)); intro gb158 hg w21 hbox hb; have n0_ := A_ (blk_below (pl_ BK157) hb); have n1_ := A_ (below_step (bl_ HB) hb); have n2_ := A_ (hbox); have n3_ := A_ ((by rw [hg]; exact (below_size (bl_ HB)) : w.heap.size ≤ gb158)); have n4_ := n3_; have n5_ := A_ ((by rw [hg]; exact Nat.ne_of_lt (blk_lt (pl_ BK157)) : gb157 ≠ gb158)); have n6_ := Aside0.mk n5_.out.symm; clear BK157; clear HB; have BK157 := n0_; have HB := n1_; have BK158 := n2_; have GW158 := n3_; have GE158 := n4_; have NB157_158 := n5_; have NB158_157 := n6_; clear n0_ n1_ n2_ n3_ n4_ n5_ n6_; clear hb hbox hg))
  have n0_ := A_ (blk_drew BK157.out)
  have n1_ := A_ (blk_drew BK158.out)
  have n2_ := A_ (below_drew1 HB.out)
  clear BK157
  clear BK158
  clear HB
  have BK157 := n0_
  have BK158 := n1_
  have HB := n2_
  clear n0_ n1_ n2_
  refine start_ (n := 6) (S := fun w' => w'.cell? ⟨gb157, 0, none⟩ = some (.int .i8 a0_0) ∧ w'.cell? ⟨gb157, 1, none⟩ = some (.int .i8 a0_1) ∧ w'.cell? ⟨gb157, 2, none⟩ = some (.bool a0_2) ∧ w'.cell? ⟨gb157, 3, none⟩ = some (.bool a0_3) ∧ w'.cell? ⟨gb158, 0, none⟩ = some (.int .i8 a1_0) ∧ w'.cell? ⟨gb158, 1, none⟩ = some (.int .i8 a1_1) ∧ w'.cell? ⟨gb158, 2, none⟩ = some (.int .i8 a1_2) ∧ w'.cell? ⟨gb158, 3, none⟩ = some (.int .i8 a1_3) ∧ w'.cell? ⟨gb158, 4, none⟩ = some (.int .i8 a1_4) ∧ w'.cell? ⟨gb158, 5, none⟩ = some (.int .i8 a1_5) ∧ w'.cell? ⟨gb158, 6, none⟩ = some (.int .i8 a1_6) ∧ w'.cell? ⟨gb158, 7, none⟩ = some (.int .i8 a1_7) ∧ w'.cell? ⟨gb158, 8, none⟩ = some (.int .i8 a1_8) ∧ w'.cell? ⟨gb158, 9, none⟩ = some (.int .i8 a1_9) ∧ w'.cell? ⟨gb158, 10, none⟩ = some (.int .i8 a1_10) ∧ w'.cell? ⟨gb158, 11, none⟩ = some (.int .i8 a1_11) ∧ w'.cell? ⟨gb158, 12, none⟩ = some (.int .i8 a1_12) ∧ w'.cell? ⟨gb158, 13, none⟩ = some (.int .i8 a1_13)) (ds := []) #[false, false, false, false, false, false] (by kernel_rfl) rfl rfl ⟨(blk_cell BK157.out 0).trans rfl, (blk_cell BK157.out 1).trans rfl, (blk_cell BK157.out 2).trans rfl, (blk_cell BK157.out 3).trans rfl, (blk_cell BK158.out 0).trans rfl, (blk_cell BK158.out 1).trans rfl, (blk_cell BK158.out 2).trans rfl, (blk_cell BK158.out 3).trans rfl, (blk_cell BK158.out 4).trans rfl, (blk_cell BK158.out 5).trans rfl, (blk_cell BK158.out 6).trans rfl, (blk_cell BK158.out 7).trans rfl, (blk_cell BK158.out 8).trans rfl, (blk_cell BK158.out 9).trans rfl, (blk_cell BK158.out 10).trans rfl, (blk_cell BK158.out 11).trans rfl, (blk_cell BK158.out 12).trans rfl, (blk_cell BK158.out 13).trans rfl⟩ (fun hHeld => ?_)
  generalize w21.drew = w22 at BK157 BK158 HB hHeld ⊢
  refine take_ (i := 0) (N := some 7) (v := ?_) (a' := ?_) #[true, false, false, false, false, false] rfl rfl (by kernel_rfl) (fun _ _ _ h => h) (Or.inl ⟨by rfl, ?_⟩) hHeld ?_ ?_
  rotate_left
  ·rintro w' ⟨s0, s1, s2, s3, s4, s5, s6, s7, s8, s9, s10, s11, s12, s13, s14, s15, s16, s17⟩
   go_simp
   with_reducible rfl
  rotate_left
  ·simp only [Act.put, List.setIfInBounds_toArray, List.set_cons_zero, List.set_cons_succ, i64_w, i32_w]
   rfl
  refine take_ (i := 2) (N := some 9) (v := ?_) (a' := ?_) #[true, false, true, false, false, false] rfl rfl (by kernel_rfl) (fun _ _ _ h => h) (Or.inl ⟨by rfl, ?_⟩) hHeld ?_ ?_
  rotate_left
  ·rintro w' ⟨s0, s1, s2, s3, s4, s5, s6, s7, s8, s9, s10, s11, s12, s13, s14, s15, s16, s17⟩
   go_simp
   with_reducible rfl
  rotate_left
  ·simp only [Act.put, List.setIfInBounds_toArray, List.set_cons_zero, List.set_cons_succ, i64_w, i32_w]
   rfl
  refine one_ (i := 1) (N := some 8) #[true, true, true, false, false, false] rfl rfl (by kernel_rfl) (by decide) (fun K hK => ?_)
  refine goes_ Try.func15 (by kernel_rfl) rfl #[.agg #[.int .i8 a0_0, .int .i8 a0_1, .bool a0_2, .bool a0_3]] (by rfl) rfl rfl arg_ ?_
  with_reducible refine (laws_toTask.calls a0_0 a0_1 a0_2 a0_3 t159 t160 t161 t162 _ A3.out).mono ?_
  rintro e w23 ⟨rfl, hb⟩
  refine ⟨_, rfl, ?_⟩
  have n0_ := A_ (blk_below (pl_ BK157) hb)
  have n1_ := A_ (blk_below (pl_ BK158) hb)
  have n2_ := A_ (below_step (bl_ HB) hb)
  clear BK157
  clear BK158
  clear HB
  have BK157 := n0_
  have BK158 := n1_
  have HB := n2_
  clear n0_ n1_ n2_
  (try clear hb)
  (try clear hb2)
  (try clear hk)
  (try clear hi)
  refine hK.out _ _ ⟨(blk_cell BK157.out 0).trans rfl, (blk_cell BK157.out 1).trans rfl, (blk_cell BK157.out 2).trans rfl, (blk_cell BK157.out 3).trans rfl, (blk_cell BK158.out 0).trans rfl, (blk_cell BK158.out 1).trans rfl, (blk_cell BK158.out 2).trans rfl, (blk_cell BK158.out 3).trans rfl, (blk_cell BK158.out 4).trans rfl, (blk_cell BK158.out 5).trans rfl, (blk_cell BK158.out 6).trans rfl, (blk_cell BK158.out 7).trans rfl, (blk_cell BK158.out 8).trans rfl, (blk_cell BK158.out 9).trans rfl, (blk_cell BK158.out 10).trans rfl, (blk_cell BK158.out 11).trans rfl, (blk_cell BK158.out 12).trans rfl, (blk_cell BK158.out 13).trans rfl⟩ (fun hHeld => ?_)
  clear hK K
  refine norm_ (a' := ?_) ?_ ?_
  rotate_left
  ·show Act.put _ (some 8) _ = _
   simp only [Act.put, List.setIfInBounds_toArray, List.set_cons_zero, List.set_cons_succ, i64_w, i32_w]
   rfl
  refine one_ (i := 3) (N := some 10) #[true, true, true, true, false, false] rfl rfl (by kernel_rfl) (by decide) (fun K hK => ?_)
  refine goes_ Try.func18 (by kernel_rfl) rfl #[.agg #[.int .i8 a1_0, .int .i8 a1_1, .int .i8 a1_2, .int .i8 a1_3, .int .i8 a1_4, .int .i8 a1_5, .int .i8 a1_6, .int .i8 a1_7, .int .i8 a1_8, .int .i8 a1_9, .int .i8 a1_10, .int .i8 a1_11, .int .i8 a1_12, .int .i8 a1_13]] (by rfl) rfl rfl arg_ ?_
  with_reducible refine (laws_toWeighing.calls k a1_0 a1_1 a1_2 a1_3 a1_4 a1_5 a1_6 a1_7 a1_8 a1_9 a1_10 a1_11 a1_12 a1_13 t163 t164 t165 t166 t167 t168 t169 t170 t171 t172 t173 t174 t175 t176 _ A4.out).mono ?_
  rintro e w24 ⟨rfl, hb⟩
  refine ⟨_, rfl, ?_⟩
  have n0_ := A_ (blk_below (pl_ BK157) hb)
  have n1_ := A_ (blk_below (pl_ BK158) hb)
  have n2_ := A_ (below_step (bl_ HB) hb)
  clear BK157
  clear BK158
  clear HB
  have BK157 := n0_
  have BK158 := n1_
  have HB := n2_
  clear n0_ n1_ n2_
  (try clear hb)
  (try clear hb2)
  (try clear hk)
  (try clear hi)
  refine hK.out _ _ ⟨(blk_cell BK157.out 0).trans rfl, (blk_cell BK157.out 1).trans rfl, (blk_cell BK157.out 2).trans rfl, (blk_cell BK157.out 3).trans rfl, (blk_cell BK158.out 0).trans rfl, (blk_cell BK158.out 1).trans rfl, (blk_cell BK158.out 2).trans rfl, (blk_cell BK158.out 3).trans rfl, (blk_cell BK158.out 4).trans rfl, (blk_cell BK158.out 5).trans rfl, (blk_cell BK158.out 6).trans rfl, (blk_cell BK158.out 7).trans rfl, (blk_cell BK158.out 8).trans rfl, (blk_cell BK158.out 9).trans rfl, (blk_cell BK158.out 10).trans rfl, (blk_cell BK158.out 11).trans rfl, (blk_cell BK158.out 12).trans rfl, (blk_cell BK158.out 13).trans rfl⟩ (fun hHeld => ?_)
  clear hK K
  refine norm_ (a' := ?_) ?_ ?_
  rotate_left
  ·show Act.put _ (some 10) _ = _
   simp only [Act.put, List.setIfInBounds_toArray, List.set_cons_zero, List.set_cons_succ, i64_w, i32_w]
   rfl
  refine one_ (i := 4) (N := some 11) #[true, true, true, true, true, false] rfl rfl (by kernel_rfl) (by decide) (fun K hK => ?_)
  refine goes_ Try.func22 (by kernel_rfl) rfl #[.agg #[.int .i8 t159, .int .i8 t160, .bool t161, .bool t162], .agg #[.int .i8 t163, .int .i8 t164, .int .i8 t165, .int .i8 t166, .int .i8 t167, .int .i8 t168, .int .i8 t169, .int .i8 t170, .int .i8 t171, .int .i8 t172, .int .i8 t173, .int .i8 t174, .int .i8 t175, .int .i8 t176]] (by rfl) rfl rfl arg_ ?_
  with_reducible refine (spec_WeighingText.calls k t159 t160 t161 t162 t163 t164 t165 t166 t167 t168 t169 t170 t171 t172 t173 t174 t175 t176 t177 _ A5.out).mono ?_
  rintro e w25 ⟨rfl, hb⟩
  refine ⟨_, rfl, ?_⟩
  have n0_ := A_ (blk_below (pl_ BK157) hb)
  have n1_ := A_ (blk_below (pl_ BK158) hb)
  have n2_ := A_ (below_step (bl_ HB) hb)
  clear BK157
  clear BK158
  clear HB
  have BK157 := n0_
  have BK158 := n1_
  have HB := n2_
  clear n0_ n1_ n2_
  (try clear hb)
  (try clear hb2)
  (try clear hk)
  (try clear hi)
  refine hK.out _ _ ⟨(blk_cell BK157.out 0).trans rfl, (blk_cell BK157.out 1).trans rfl, (blk_cell BK157.out 2).trans rfl, (blk_cell BK157.out 3).trans rfl, (blk_cell BK158.out 0).trans rfl, (blk_cell BK158.out 1).trans rfl, (blk_cell BK158.out 2).trans rfl, (blk_cell BK158.out 3).trans rfl, (blk_cell BK158.out 4).trans rfl, (blk_cell BK158.out 5).trans rfl, (blk_cell BK158.out 6).trans rfl, (blk_cell BK158.out 7).trans rfl, (blk_cell BK158.out 8).trans rfl, (blk_cell BK158.out 9).trans rfl, (blk_cell BK158.out 10).trans rfl, (blk_cell BK158.out 11).trans rfl, (blk_cell BK158.out 12).trans rfl, (blk_cell BK158.out 13).trans rfl⟩ (fun hHeld => ?_)
  clear hK K
  refine norm_ (a' := ?_) ?_ ?_
  rotate_left
  ·show Act.put _ (some 11) _ = _
   simp only [Act.put, List.setIfInBounds_toArray, List.set_cons_zero, List.set_cons_succ, i64_w, i32_w]
   rfl
  refine pure_ (i := 5) (N := some 5) (v := ?_) (a' := ?_) #[true, true, true, true, true, true] rfl rfl (by kernel_rfl) (fun _ _ _ h => h) (Or.inl ⟨by rfl, ?_⟩) ?_ ?_
  rotate_left
  ·intro w'
   go_simp
   with_reducible rfl
  rotate_left
  ·simp only [Act.put, List.setIfInBounds_toArray, List.set_cons_zero, List.set_cons_succ, i64_w, i32_w]
   rfl
  refine done_ (by kernel_rfl) ?_
  try go_wp2
  have n0_ := A_ (blk_drew BK157.out)
  have n1_ := A_ (blk_drew BK158.out)
  have n2_ := A_ (below_drew1 HB.out)
  clear BK157
  clear BK158
  clear HB
  have BK157 := n0_
  have BK158 := n1_
  have HB := n2_
  clear n0_ n1_ n2_
  refine start_ (n := 6) (S := fun w' => w'.cell? ⟨gb157, 0, none⟩ = some (.int .i8 a0_0) ∧ w'.cell? ⟨gb157, 1, none⟩ = some (.int .i8 a0_1) ∧ w'.cell? ⟨gb157, 2, none⟩ = some (.bool a0_2) ∧ w'.cell? ⟨gb157, 3, none⟩ = some (.bool a0_3) ∧ w'.cell? ⟨gb158, 0, none⟩ = some (.int .i8 a1_0) ∧ w'.cell? ⟨gb158, 1, none⟩ = some (.int .i8 a1_1) ∧ w'.cell? ⟨gb158, 2, none⟩ = some (.int .i8 a1_2) ∧ w'.cell? ⟨gb158, 3, none⟩ = some (.int .i8 a1_3) ∧ w'.cell? ⟨gb158, 4, none⟩ = some (.int .i8 a1_4) ∧ w'.cell? ⟨gb158, 5, none⟩ = some (.int .i8 a1_5) ∧ w'.cell? ⟨gb158, 6, none⟩ = some (.int .i8 a1_6) ∧ w'.cell? ⟨gb158, 7, none⟩ = some (.int .i8 a1_7) ∧ w'.cell? ⟨gb158, 8, none⟩ = some (.int .i8 a1_8) ∧ w'.cell? ⟨gb158, 9, none⟩ = some (.int .i8 a1_9) ∧ w'.cell? ⟨gb158, 10, none⟩ = some (.int .i8 a1_10) ∧ w'.cell? ⟨gb158, 11, none⟩ = some (.int .i8 a1_11) ∧ w'.cell? ⟨gb158, 12, none⟩ = some (.int .i8 a1_12) ∧ w'.cell? ⟨gb158, 13, none⟩ = some (.int .i8 a1_13)) (ds := []) #[false, false, false, false, false, false] (by kernel_rfl) rfl rfl ⟨(blk_cell BK157.out 0).trans rfl, (blk_cell BK157.out 1).trans rfl, (blk_cell BK157.out 2).trans rfl, (blk_cell BK157.out 3).trans rfl, (blk_cell BK158.out 0).trans rfl, (blk_cell BK158.out 1).trans rfl, (blk_cell BK158.out 2).trans rfl, (blk_cell BK158.out 3).trans rfl, (blk_cell BK158.out 4).trans rfl, (blk_cell BK158.out 5).trans rfl, (blk_cell BK158.out 6).trans rfl, (blk_cell BK158.out 7).trans rfl, (blk_cell BK158.out 8).trans rfl, (blk_cell BK158.out 9).trans rfl, (blk_cell BK158.out 10).trans rfl, (blk_cell BK158.out 11).trans rfl, (blk_cell BK158.out 12).trans rfl, (blk_cell BK158.out 13).trans rfl⟩ (fun hHeld => ?_)
  generalize w25.drew = w26 at BK157 BK158 HB hHeld ⊢
  refine take_ (i := 0) (N := some 12) (v := ?_) (a' := ?_) #[true, false, false, false, false, false] rfl rfl (by kernel_rfl) (fun _ _ _ h => h) (Or.inl ⟨by rfl, ?_⟩) hHeld ?_ ?_
  rotate_left
  ·rintro w' ⟨s0, s1, s2, s3, s4, s5, s6, s7, s8, s9, s10, s11, s12, s13, s14, s15, s16, s17⟩
   go_simp
   with_reducible rfl
  rotate_left
  ·simp only [Act.put, List.setIfInBounds_toArray, List.set_cons_zero, List.set_cons_succ, i64_w, i32_w]
   rfl
  refine take_ (i := 2) (N := some 14) (v := ?_) (a' := ?_) #[true, false, true, false, false, false] rfl rfl (by kernel_rfl) (fun _ _ _ h => h) (Or.inl ⟨by rfl, ?_⟩) hHeld ?_ ?_
  rotate_left
  ·rintro w' ⟨s0, s1, s2, s3, s4, s5, s6, s7, s8, s9, s10, s11, s12, s13, s14, s15, s16, s17⟩
   go_simp
   with_reducible rfl
  rotate_left
  ·simp only [Act.put, List.setIfInBounds_toArray, List.set_cons_zero, List.set_cons_succ, i64_w, i32_w]
   rfl
  refine one_ (i := 1) (N := some 13) #[true, true, true, false, false, false] rfl rfl (by kernel_rfl) (by decide) (fun K hK => ?_)
  refine goes_ Try.func15 (by kernel_rfl) rfl #[.agg #[.int .i8 a0_0, .int .i8 a0_1, .bool a0_2, .bool a0_3]] (by rfl) rfl rfl arg_ ?_
  with_reducible refine (laws_toTask.calls a0_0 a0_1 a0_2 a0_3 t178 t179 t180 t181 _ A6.out).mono ?_
  rintro e w27 ⟨rfl, hb⟩
  refine ⟨_, rfl, ?_⟩
  have n0_ := A_ (blk_below (pl_ BK157) hb)
  have n1_ := A_ (blk_below (pl_ BK158) hb)
  have n2_ := A_ (below_step (bl_ HB) hb)
  clear BK157
  clear BK158
  clear HB
  have BK157 := n0_
  have BK158 := n1_
  have HB := n2_
  clear n0_ n1_ n2_
  (try clear hb)
  (try clear hb2)
  (try clear hk)
  (try clear hi)
  refine hK.out _ _ ⟨(blk_cell BK157.out 0).trans rfl, (blk_cell BK157.out 1).trans rfl, (blk_cell BK157.out 2).trans rfl, (blk_cell BK157.out 3).trans rfl, (blk_cell BK158.out 0).trans rfl, (blk_cell BK158.out 1).trans rfl, (blk_cell BK158.out 2).trans rfl, (blk_cell BK158.out 3).trans rfl, (blk_cell BK158.out 4).trans rfl, (blk_cell BK158.out 5).trans rfl, (blk_cell BK158.out 6).trans rfl, (blk_cell BK158.out 7).trans rfl, (blk_cell BK158.out 8).trans rfl, (blk_cell BK158.out 9).trans rfl, (blk_cell BK158.out 10).trans rfl, (blk_cell BK158.out 11).trans rfl, (blk_cell BK158.out 12).trans rfl, (blk_cell BK158.out 13).trans rfl⟩ (fun hHeld => ?_)
  clear hK K
  refine norm_ (a' := ?_) ?_ ?_
  rotate_left
  ·show Act.put _ (some 13) _ = _
   simp only [Act.put, List.setIfInBounds_toArray, List.set_cons_zero, List.set_cons_succ, i64_w, i32_w]
   rfl
  refine one_ (i := 3) (N := some 15) #[true, true, true, true, false, false] rfl rfl (by kernel_rfl) (by decide) (fun K hK => ?_)
  refine goes_ Try.func18 (by kernel_rfl) rfl #[.agg #[.int .i8 a1_0, .int .i8 a1_1, .int .i8 a1_2, .int .i8 a1_3, .int .i8 a1_4, .int .i8 a1_5, .int .i8 a1_6, .int .i8 a1_7, .int .i8 a1_8, .int .i8 a1_9, .int .i8 a1_10, .int .i8 a1_11, .int .i8 a1_12, .int .i8 a1_13]] (by rfl) rfl rfl arg_ ?_
  with_reducible refine (laws_toWeighing.calls k a1_0 a1_1 a1_2 a1_3 a1_4 a1_5 a1_6 a1_7 a1_8 a1_9 a1_10 a1_11 a1_12 a1_13 t182 t183 t184 t185 t186 t187 t188 t189 t190 t191 t192 t193 t194 t195 _ A7.out).mono ?_
  rintro e w28 ⟨rfl, hb⟩
  refine ⟨_, rfl, ?_⟩
  have n0_ := A_ (blk_below (pl_ BK157) hb)
  have n1_ := A_ (blk_below (pl_ BK158) hb)
  have n2_ := A_ (below_step (bl_ HB) hb)
  clear BK157
  clear BK158
  clear HB
  have BK157 := n0_
  have BK158 := n1_
  have HB := n2_
  clear n0_ n1_ n2_
  (try clear hb)
  (try clear hb2)
  (try clear hk)
  (try clear hi)
  refine hK.out _ _ ⟨(blk_cell BK157.out 0).trans rfl, (blk_cell BK157.out 1).trans rfl, (blk_cell BK157.out 2).trans rfl, (blk_cell BK157.out 3).trans rfl, (blk_cell BK158.out 0).trans rfl, (blk_cell BK158.out 1).trans rfl, (blk_cell BK158.out 2).trans rfl, (blk_cell BK158.out 3).trans rfl, (blk_cell BK158.out 4).trans rfl, (blk_cell BK158.out 5).trans rfl, (blk_cell BK158.out 6).trans rfl, (blk_cell BK158.out 7).trans rfl, (blk_cell BK158.out 8).trans rfl, (blk_cell BK158.out 9).trans rfl, (blk_cell BK158.out 10).trans rfl, (blk_cell BK158.out 11).trans rfl, (blk_cell BK158.out 12).trans rfl, (blk_cell BK158.out 13).trans rfl⟩ (fun hHeld => ?_)
  clear hK K
  refine norm_ (a' := ?_) ?_ ?_
  rotate_left
  ·show Act.put _ (some 15) _ = _
   simp only [Act.put, List.setIfInBounds_toArray, List.set_cons_zero, List.set_cons_succ, i64_w, i32_w]
   rfl
  refine one_ (i := 4) (N := some 16) #[true, true, true, true, true, false] rfl rfl (by kernel_rfl) (by decide) (fun K hK => ?_)
  refine goes_ Try.func23 (by kernel_rfl) rfl #[.agg #[.int .i8 t178, .int .i8 t179, .bool t180, .bool t181], .agg #[.int .i8 t182, .int .i8 t183, .int .i8 t184, .int .i8 t185, .int .i8 t186, .int .i8 t187, .int .i8 t188, .int .i8 t189, .int .i8 t190, .int .i8 t191, .int .i8 t192, .int .i8 t193, .int .i8 t194, .int .i8 t195]] (by rfl) rfl rfl arg_ ?_
  with_reducible refine (impl_WeighingText.calls k t178 t179 t180 t181 t182 t183 t184 t185 t186 t187 t188 t189 t190 t191 t192 t193 t194 t195 t196 _ A8.out).mono ?_
  rintro e w29 ⟨rfl, hb⟩
  refine ⟨_, rfl, ?_⟩
  have n0_ := A_ (blk_below (pl_ BK157) hb)
  have n1_ := A_ (blk_below (pl_ BK158) hb)
  have n2_ := A_ (below_step (bl_ HB) hb)
  clear BK157
  clear BK158
  clear HB
  have BK157 := n0_
  have BK158 := n1_
  have HB := n2_
  clear n0_ n1_ n2_
  (try clear hb)
  (try clear hb2)
  (try clear hk)
  (try clear hi)
  refine hK.out _ _ ⟨(blk_cell BK157.out 0).trans rfl, (blk_cell BK157.out 1).trans rfl, (blk_cell BK157.out 2).trans rfl, (blk_cell BK157.out 3).trans rfl, (blk_cell BK158.out 0).trans rfl, (blk_cell BK158.out 1).trans rfl, (blk_cell BK158.out 2).trans rfl, (blk_cell BK158.out 3).trans rfl, (blk_cell BK158.out 4).trans rfl, (blk_cell BK158.out 5).trans rfl, (blk_cell BK158.out 6).trans rfl, (blk_cell BK158.out 7).trans rfl, (blk_cell BK158.out 8).trans rfl, (blk_cell BK158.out 9).trans rfl, (blk_cell BK158.out 10).trans rfl, (blk_cell BK158.out 11).trans rfl, (blk_cell BK158.out 12).trans rfl, (blk_cell BK158.out 13).trans rfl⟩ (fun hHeld => ?_)
  clear hK K
  refine norm_ (a' := ?_) ?_ ?_
  rotate_left
  ·show Act.put _ (some 16) _ = _
   simp only [Act.put, List.setIfInBounds_toArray, List.set_cons_zero, List.set_cons_succ, i64_w, i32_w]
   rfl
  refine pure_ (i := 5) (N := some 6) (v := ?_) (a' := ?_) #[true, true, true, true, true, true] rfl rfl (by kernel_rfl) (fun _ _ _ h => h) (Or.inl ⟨by rfl, ?_⟩) ?_ ?_
  rotate_left
  ·intro w'
   go_simp
   with_reducible rfl
  rotate_left
  ·simp only [Act.put, List.setIfInBounds_toArray, List.set_cons_zero, List.set_cons_succ, i64_w, i32_w]
   rfl
  refine done_ (by kernel_rfl) ?_
  try go_wp2
  go_ret
  exact ⟨by first | rfl | (simp [errW_none, errW_some] <;> rfl) | (simp [*, errW_none, errW_some] <;> rfl), bl_ HB⟩

end Go.Proofs.Ytajbeamkjoeifaa.M
