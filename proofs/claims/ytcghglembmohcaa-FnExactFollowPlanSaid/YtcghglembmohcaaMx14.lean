-- By this seat's own program over the kit's printer (arrays, functions told by hand); nothing of it is trusted: the kernel checks it.
import Derived.Test.YtcghglembmohcaaMx0
import Derived.Test.YtcghglembmohcaaMx12
import Derived.Test.YtcghglembmohcaaMx13
import Derived.Test.YtcghglembmohcaaHRun
import Derived.Test.YtcghglembmohcaaHVPlan
namespace Go.Proofs.Ytcghglembmohcaa.M
open Go.RowKit Go.Proofs.YtcghglembmohcaaW.PrintWords Go.Proofs.YtcghglembmohcaaW.PrintLast Go.Proofs.YtcghglembmohcaaW.PrintMore
attribute [local go_sem] max2_int min2_int max_two min_two max_three min_three max_four min_four   -- for this text's walks alone
set_option linter.unusedVariables false
set_option linter.unusedSimpArgs false

/-! ### impl_FollowPlan: function 20 -/
def impl_FollowPlan.f (k : Nat) (a0_0 : Int) (a0_1 : Int) (a0_2 : Bool) (a0_3 : Bool) (l1 : List (S58)) (a2_0 : Int) (a2_1 : Bool) : Option (Int × Bool × Int × Int) := (impl_ValidPlan.f k a0_0 a0_1 a0_2 a0_3 l1).bind fun t284 => (if t284 = true then ((impl_Task_cases.f k a0_0 a0_1 a0_2 a0_3).bind fun t285 => ((impl_Case_35.f k t285 a2_0 a2_1).bind fun t288 => (if t288 = true then ((impl_follow.f k l1 a2_0 a2_1).bind fun bt289 => (some (bt289.1, bt289.2.1, bt289.2.2, 0))) else (some (0, false, 0, 6))))) else (some (0, false, 0, 1)))
theorem impl_FollowPlan.mono : ∀ a0 a1 a2 a3 a4 a5 a6 k, LeO (impl_FollowPlan.f k a0 a1 a2 a3 a4 a5 a6) (impl_FollowPlan.f (k + 1) a0 a1 a2 a3 a4 a5 a6) := by
 intro a0 a1 a2 a3 a4 a5 a6 k
 unfold impl_FollowPlan.f
 repeat' first
   | (with_reducible exact impl_Case_35.mono _ _ _ _)
   | (with_reducible exact impl_Task_cases.mono _ _ _ _ _)
   | (with_reducible exact impl_ValidPlan.mono _ _ _ _ _ _)
   | (with_reducible exact impl_follow.mono _ _ _ _)
   | (with_reducible exact LeO.refl _)
   | (with_reducible exact LeO.none _)
   | (with_reducible refine LeO.ite ?_ ?_)
   | (with_reducible refine LeO.bind ?_ (fun _ => ?_))
   | exact impl_Case_35.mono _ _ _ _
   | exact impl_Task_cases.mono _ _ _ _ _
   | exact impl_ValidPlan.mono _ _ _ _ _ _
   | exact impl_follow.mono _ _ _ _
   | exact LeO.none _
   | refine LeO.ite ?_ ?_
   | refine LeO.bind ?_ (fun _ => ?_)
set_option maxHeartbeats 8000000 in
set_option maxRecDepth 100000 in
theorem impl_FollowPlan.calls (k : Nat) (a0_0 : Int) (a0_1 : Int) (a0_2 : Bool) (a0_3 : Bool) (A1 : Option Addr) (c1 : Nat) (l1 : List (S58)) (a2_0 : Int) (a2_1 : Bool) (r1 : Int) (r2 : Bool) (r3 : Int) (r4 : Int) (w : World) (hr1 : Kd.C k58 w A1 l1.length l1) (hc1 : l1.length ≤ c1) (h : impl_FollowPlan.f k a0_0 a0_1 a0_2 a0_3 l1 a2_0 a2_1 = some (r1, r2, r3, r4)) :
  Calls Try.prog 20 #[.agg #[.int .i8 a0_0, .int .i8 a0_1, .bool a0_2, .bool a0_3], .slice A1 l1.length c1, .agg #[.int .i8 a2_0, .bool a2_1]] w fun e w' => e = .returned (.tuple #[.agg #[.int .i8 r1, .bool r2], .int .i64 r3, .int .i64 r4]) ∧ Below w.heap.size w w' := by
 have hu29 := Try.underlying29
 have hu43 := Try.underlying43
 have HR1 := Aside0.mk hr1
 have HC1 := Aside0.mk hc1
 clear hr1 hc1
 have HB := A_ (Below.refl w.heap.size w)
 have H : ((impl_ValidPlan.f k a0_0 a0_1 a0_2 a0_3 l1).bind fun t284 => (if t284 = true then ((impl_Task_cases.f k a0_0 a0_1 a0_2 a0_3).bind fun t285 => ((impl_Case_35.f k t285 a2_0 a2_1).bind fun t288 => (if t288 = true then ((impl_follow.f k l1 a2_0 a2_1).bind fun bt289 => (some (bt289.1, bt289.2.1, bt289.2.2, 0))) else (some (0, false, 0, 6))))) else (some (0, false, 0, 1)))) = some (r1, r2, r3, r4) := h
 clear h
 replace H := Option.bind_eq_some_iff.mp H
 obtain ⟨t284, A40, H⟩ := H
 replace H : (if t284 = true then ((impl_Task_cases.f k a0_0 a0_1 a0_2 a0_3).bind fun t285 => ((impl_Case_35.f k t285 a2_0 a2_1).bind fun t288 => (if t288 = true then ((impl_follow.f k l1 a2_0 a2_1).bind fun bt289 => (some (bt289.1, bt289.2.1, bt289.2.2, 0))) else (some (0, false, 0, 6))))) else (some (0, false, 0, 1))) = some (r1, r2, r3, r4) := H
 have A4 := Aside0.mk A40
 clear A40
 by_cases c5 : t284 = true
 ·subst c5
  have H1 : ((impl_Task_cases.f k a0_0 a0_1 a0_2 a0_3).bind fun t285 => ((impl_Case_35.f k t285 a2_0 a2_1).bind fun t288 => (if t288 = true then ((impl_follow.f k l1 a2_0 a2_1).bind fun bt289 => (some (bt289.1, bt289.2.1, bt289.2.2, 0))) else (some (0, false, 0, 6))))) = some (r1, r2, r3, r4) := by rw [if_pos rfl] at H; exact H
  clear H
  have H := H1
  clear H1
  replace H := Option.bind_eq_some_iff.mp H
  obtain ⟨t285, A60, H⟩ := H
  replace H : ((impl_Case_35.f k t285 a2_0 a2_1).bind fun t288 => (if t288 = true then ((impl_follow.f k l1 a2_0 a2_1).bind fun bt289 => (some (bt289.1, bt289.2.1, bt289.2.2, 0))) else (some (0, false, 0, 6)))) = some (r1, r2, r3, r4) := H
  have A6 := Aside0.mk A60
  clear A60
  replace H := Option.bind_eq_some_iff.mp H
  obtain ⟨t288, A70, H⟩ := H
  replace H : (if t288 = true then ((impl_follow.f k l1 a2_0 a2_1).bind fun bt289 => (some (bt289.1, bt289.2.1, bt289.2.2, 0))) else (some (0, false, 0, 6))) = some (r1, r2, r3, r4) := H
  have A7 := Aside0.mk A70
  clear A70
  by_cases c8 : t288 = true
  ·subst c8
   have H1 : ((impl_follow.f k l1 a2_0 a2_1).bind fun bt289 => (some (bt289.1, bt289.2.1, bt289.2.2, 0))) = some (r1, r2, r3, r4) := by rw [if_pos rfl] at H; exact H
   clear H
   have H := H1
   clear H1
   replace H := Option.bind_eq_some_iff.mp H
   obtain ⟨⟨t289, t290, t291⟩, A90, H⟩ := H
   replace H : (some (t289, t290, t291, 0)) = some (r1, r2, r3, r4) := H
   have A9 := Aside0.mk A90
   clear A90
   simp only [Option.some.injEq, Prod.mk.injEq] at H
   obtain ⟨rfl, rfl, rfl, rfl⟩ := H
   go_enter Try.func20, Try.ntmps20
   try go_wp2_with (first | ((with_reducible refine gate_dst (N := 3) rfl ?_); refine box_event ?hg (N := 3) ?hd (cs := #[.int .i8 a0_0, .int .i8 a0_1, .bool a0_2, .bool a0_3]) (t := 29) ?hr ?_; (case hd => rfl); (case hg => rfl); (case hr => first | (go_simp; done) | (go_simp; rfl)); intro gb281 hg w10 hbox hb; have n0_ := A_ (below_step (bl_ HB) hb); have n1_ := A_ (hbox); have n2_ := A_ ((by rw [hg]; exact (below_size (bl_ HB)) : w.heap.size ≤ gb281)); have n3_ := n2_; clear HB; have HB := n0_; have BK281 := n1_; have GW281 := n2_; have GE281 := n3_; clear n0_ n1_ n2_ n3_; clear hb hbox hg) | ((with_reducible refine gate_dst (N := 5) rfl ?_); refine box_event ?hg (N := 5) ?hd (cs := #[.int .i8 a2_0, .bool a2_1]) (t := 43) ?hr ?_; (case hd => rfl); (case hg => rfl); (case hr => first | (go_simp; done) | (go_simp; rfl)); intro gb282 hg w11 hbox hb; have n0_ := A_ (blk_below (pl_ BK281) hb); have n1_ := A_ (below_step (bl_ HB) hb); have n2_ := A_ (hbox); have n3_ := A_ ((by rw [hg]; exact (below_size (bl_ HB)) : w.heap.size ≤ gb282)); have n4_ := n3_; have n5_ := A_ ((by rw [hg]; exact Nat.ne_of_lt (blk_lt (pl_ BK281)) : gb281 ≠ gb282)); have n6_ := Aside0.mk n5_.out.symm; clear BK281; clear HB; have BK281 := n0_; have HB := n1_; have BK282 := n2_; have GW282 := n3_; have GE282 := n4_; have NB281_282 := n5_; have NB282_281 := n6_; clear n0_ n1_ n2_ n3_ n4_ n5_ n6_; clear hb hbox hg) | ((with_reducible refine gate_dst (N := 6) rfl ?_); refine box_event ?hg (N := 6) ?hd (cs := #[.int .i8 0, .bool false]) (t := 43) ?hr ?_; (case hd => rfl); (case hg => rfl); (case hr => first | (go_simp; done) | (go_simp; rfl)); intro gb283 hg w12 hbox hb; have n0_ := A_ (blk_below (pl_ BK281) hb); have n1_ := A_ (blk_below (pl_ BK282) hb); have n2_ := A_ (below_step (bl_ HB) hb); have n3_ := A_ (hbox); have n4_ := A_ ((by rw [hg]; exact (below_size (bl_ HB)) : w.heap.size ≤ gb283)); have n5_ := n4_; have n6_ := A_ ((by rw [hg]; exact Nat.ne_of_lt (blk_lt (pl_ BK281)) : gb281 ≠ gb283)); have n7_ := Aside0.mk n6_.out.symm; have n8_ := A_ ((by rw [hg]; exact Nat.ne_of_lt (blk_lt (pl_ BK282)) : gb282 ≠ gb283)); have n9_ := Aside0.mk n8_.out.symm; clear BK281; clear BK282; clear HB; have BK281 := n0_; have BK282 := n1_; have HB := n2_; have BK283 := n3_; have GW283 := n4_; have GE283 := n5_; have NB281_283 := n6_; have NB283_281 := n7_; have NB282_283 := n8_; have NB283_282 := n9_; clear n0_ n1_ n2_ n3_ n4_ n5_ n6_ n7_ n8_ n9_; clear hb hbox hg; have hnb13 := NB281_282.out; have hnc13 := NB282_281.out; have hnb14 := NB281_283.out; have hnc14 := NB283_281.out; obtain ⟨hcz15_0, hcz15_1, hcz15_2, hcz15_3, hfz15_0, hfz15_1, hfz15_2, hfz15_3⟩ := cl4_ BK281) | ((with_reducible refine gate_callee (f := 17) rfl ?_); refine goesL_ (some 14) rfl rfl Try.func17 (by kernel_rfl) rfl #[.agg #[.int .i8 a0_0, .int .i8 a0_1, .bool a0_2, .bool a0_3], .slice A1 l1.length c1] rfl arg_ ?_; (with_reducible refine (impl_ValidPlan.calls k a0_0 a0_1 a0_2 a0_3 _ _ l1 true _ ?side1 ?side2 A4.out).mono ?_); (case side1 => exact Kd.C_below HR1.out (bl_ HB)); (case side2 => exact HC1.out); rintro e w16 ⟨rfl, hb⟩; refine ⟨_, rfl, ?_⟩; have n0_ := A_ (blk_below (pl_ BK281) hb); have n1_ := A_ (blk_below (pl_ BK282) hb); have n2_ := A_ (blk_below (pl_ BK283) hb); have n3_ := A_ (below_step (bl_ HB) hb); clear BK281; clear BK282; clear BK283; clear HB; have BK281 := n0_; have BK282 := n1_; have BK283 := n2_; have HB := n3_; clear n0_ n1_ n2_ n3_; (try clear hb); (try clear hb2); (try clear hk); (try clear hi)))
   have n0_ := A_ (blk_drew BK281.out)
   have n1_ := A_ (blk_drew BK282.out)
   have n2_ := A_ (blk_drew BK283.out)
   have n3_ := A_ (below_drew1 HB.out)
   clear BK281
   clear BK282
   clear BK283
   clear HB
   have BK281 := n0_
   have BK282 := n1_
   have BK283 := n2_
   have HB := n3_
   clear n0_ n1_ n2_ n3_
   refine start_ (n := 6) (S := fun w' => w'.cell? ⟨gb281, 0, none⟩ = some (.int .i8 a0_0) ∧ w'.cell? ⟨gb281, 1, none⟩ = some (.int .i8 a0_1) ∧ w'.cell? ⟨gb281, 2, none⟩ = some (.bool a0_2) ∧ w'.cell? ⟨gb281, 3, none⟩ = some (.bool a0_3) ∧ w'.cell? ⟨gb282, 0, none⟩ = some (.int .i8 a2_0) ∧ w'.cell? ⟨gb282, 1, none⟩ = some (.bool a2_1)) (ds := []) #[false, false, false, false, false, false] (by kernel_rfl) rfl rfl ⟨(blk_cell BK281.out 0).trans rfl, (blk_cell BK281.out 1).trans rfl, (blk_cell BK281.out 2).trans rfl, (blk_cell BK281.out 3).trans rfl, (blk_cell BK282.out 0).trans rfl, (blk_cell BK282.out 1).trans rfl⟩ (fun hHeld => ?_)
   generalize w16.drew = w17 at BK281 BK282 BK283 HB hHeld ⊢
   refine take_ (i := 0) (N := some 18) (v := ?_) (a' := ?_) #[true, false, false, false, false, false] rfl rfl (by kernel_rfl) (fun _ _ _ h => h) (Or.inl ⟨by rfl, ?_⟩) hHeld ?_ ?_
   rotate_left
   ·rintro w' ⟨s0, s1, s2, s3, s4, s5⟩
    go_simp
    with_reducible rfl
   rotate_left
   ·simp only [Act.put, sp_]
    rfl
   refine take_ (i := 2) (N := some 20) (v := ?_) (a' := ?_) #[true, false, true, false, false, false] rfl rfl (by kernel_rfl) (fun _ _ _ h => h) (Or.inl ⟨by rfl, ?_⟩) hHeld ?_ ?_
   rotate_left
   ·rintro w' ⟨s0, s1, s2, s3, s4, s5⟩
    go_simp
    with_reducible rfl
   rotate_left
   ·simp only [Act.put, sp_]
    rfl
   refine one_ (i := 1) (N := some 19) #[true, true, true, false, false, false] rfl rfl (by kernel_rfl) (by decide) (fun K hK => ?_)
   refine goes_ Try.func34 (by kernel_rfl) rfl #[.agg #[.int .i8 a0_0, .int .i8 a0_1, .bool a0_2, .bool a0_3]] (by rfl) rfl rfl arg_ ?_
   with_reducible refine (impl_Task_cases.calls k a0_0 a0_1 a0_2 a0_3 t285 _ A6.out).mono ?_
   rintro e w18 ⟨v286, rfl, ho0, hb⟩
   refine ⟨_, rfl, ?_⟩
   have n0_ := A_ (Kd.R_lower (Kd.R_newB (Kd.R_newB ho0 (pl_ BK282)) (pl_ BK283)) (below_size (bl_ HB)))
   have n1_ := A_ (blk_below (pl_ BK281) hb)
   have n2_ := A_ (blk_below (pl_ BK282) hb)
   have n3_ := A_ (blk_below (pl_ BK283) hb)
   have n4_ := A_ (below_step (bl_ HB) hb)
   clear BK281
   clear BK282
   clear BK283
   clear HB
   have HO287 := n0_
   have BK281 := n1_
   have BK282 := n2_
   have BK283 := n3_
   have HB := n4_
   clear n0_ n1_ n2_ n3_ n4_
   (try clear hb)
   (try clear hb2)
   (try clear hk)
   (try clear hi)
   (try clear ho0)
   obtain ⟨Ao19, co19, eo19⟩ := Kd.R_slice HO287.out
   (first | subst eo19 | (injection eo19 with f1_ f2_ f3_; have f4_ := f1_.symm; have f5_ := f3_.symm; clear f1_ f2_ f3_; subst f4_; subst f5_))
   refine hK.out _ _ ⟨(blk_cell BK281.out 0).trans rfl, (blk_cell BK281.out 1).trans rfl, (blk_cell BK281.out 2).trans rfl, (blk_cell BK281.out 3).trans rfl, (blk_cell BK282.out 0).trans rfl, (blk_cell BK282.out 1).trans rfl⟩ (fun hHeld => ?_)
   clear hK K
   refine norm_ (a' := ?_) ?_ ?_
   rotate_left
   ·show Act.put _ (some 19) _ = _
    simp only [Act.put, sp_]
    rfl
   refine one_ (i := 3) (N := some 21) #[true, true, true, true, false, false] rfl rfl (by kernel_rfl) (by decide) (fun K hK => ?_)
   refine goes_ Try.func35 (by kernel_rfl) rfl #[.slice Ao19 t285.length co19, .agg #[.int .i8 a2_0, .bool a2_1]] (by rfl) rfl rfl arg_ ?_
   with_reducible refine (impl_Case_35.calls k _ _ t285 a2_0 a2_1 true _ ?side1 ?side2 A7.out).mono ?_
   (case side1 => repeat (first | exact (Kd.R_reads' HO287.out).2.2 | (with_reducible refine Kd.C_alloc ?_ _) | (with_reducible refine Kd.C_drewN ?_ _) | (with_reducible refine Kd.C_drew ?_)))
   (case side2 => exact (Kd.R_reads' HO287.out).2.1)
   rintro e w20 ⟨rfl, hb⟩
   refine ⟨_, rfl, ?_⟩
   have n0_ := A_ (Kd.R_below (pr_ HO287) hb)
   have n1_ := A_ (blk_below (pl_ BK281) hb)
   have n2_ := A_ (blk_below (pl_ BK282) hb)
   have n3_ := A_ (blk_below (pl_ BK283) hb)
   have n4_ := A_ (below_step (bl_ HB) hb)
   clear HO287
   clear BK281
   clear BK282
   clear BK283
   clear HB
   have HO287 := n0_
   have BK281 := n1_
   have BK282 := n2_
   have BK283 := n3_
   have HB := n4_
   clear n0_ n1_ n2_ n3_ n4_
   (try clear hb)
   (try clear hb2)
   (try clear hk)
   (try clear hi)
   refine hK.out _ _ ⟨(blk_cell BK281.out 0).trans rfl, (blk_cell BK281.out 1).trans rfl, (blk_cell BK281.out 2).trans rfl, (blk_cell BK281.out 3).trans rfl, (blk_cell BK282.out 0).trans rfl, (blk_cell BK282.out 1).trans rfl⟩ (fun hHeld => ?_)
   clear hK K
   refine norm_ (a' := ?_) ?_ ?_
   rotate_left
   ·show Act.put _ (some 21) _ = _
    simp only [Act.put, sp_]
    rfl
   refine pure_ (i := 4) (N := some 22) (v := ?_) (a' := ?_) #[true, true, true, true, true, false] rfl rfl (by kernel_rfl) (fun _ _ _ h => h) (Or.inl ⟨by rfl, ?_⟩) ?_ ?_
   rotate_left
   ·intro w'
    go_simp
    with_reducible rfl
   rotate_left
   ·simp only [Act.put, sp_]
    rfl
   refine pure_ (i := 5) (N := some 17) (v := ?_) (a' := ?_) #[true, true, true, true, true, true] rfl rfl (by kernel_rfl) (fun _ _ _ h => h) (Or.inl ⟨by rfl, ?_⟩) ?_ ?_
   rotate_left
   ·intro w'
    go_simp
    with_reducible rfl
   rotate_left
   ·simp only [Act.put, sp_]
    rfl
   refine done_ (by kernel_rfl) ?_
   have hnb21 := NB282_283.out
   have hnc21 := NB283_282.out
   obtain ⟨hcz22_0, hcz22_1, hfz22_0, hfz22_1⟩ := cl2_ BK282
   try go_wp2_with (first | ((with_reducible refine gate_callee (f := 38) rfl ?_); refine goesL_ (some 27) rfl rfl Try.func38 (by kernel_rfl) rfl #[.slice A1 l1.length c1, .agg #[.int .i8 a2_0, .bool a2_1]] rfl arg_ ?_; (with_reducible refine (impl_follow.calls k _ _ l1 a2_0 a2_1 t289 t290 t291 _ ?side1 ?side2 A9.out).mono ?_); (case side1 => exact Kd.C_below HR1.out (bl_ HB)); (case side2 => exact HC1.out); rintro e w23 ⟨rfl, hb⟩; refine ⟨_, rfl, ?_⟩; have n0_ := A_ (Kd.R_below (pr_ HO287) hb); have n1_ := A_ (blk_below (pl_ BK281) hb); have n2_ := A_ (blk_below (pl_ BK282) hb); have n3_ := A_ (blk_below (pl_ BK283) hb); have n4_ := A_ (below_step (bl_ HB) hb); clear HO287; clear BK281; clear BK282; clear BK283; clear HB; have HO287 := n0_; have BK281 := n1_; have BK282 := n2_; have BK283 := n3_; have HB := n4_; clear n0_ n1_ n2_ n3_ n4_; (try clear hb); (try clear hb2); (try clear hk); (try clear hi)) | ((with_reducible refine gate_dst (N := 9) rfl ?_); refine box_event ?hg (N := 9) ?hd (cs := #[.int .i8 0, .bool false]) (t := 43) ?hr ?_; (case hd => rfl); (case hg => rfl); (case hr => first | (go_simp; done) | (go_simp; rfl)); intro gb292 hg w24 hbox hb; have n0_ := A_ (Kd.R_below (Kd.R_elderB (pr_ HO287) gb292 (Nat.le_of_eq hg.symm)) hb); have n1_ := A_ (blk_below (pl_ BK281) hb); have n2_ := A_ (blk_below (pl_ BK282) hb); have n3_ := A_ (blk_below (pl_ BK283) hb); have n4_ := A_ (below_step (bl_ HB) hb); have n5_ := A_ (hbox); have n6_ := A_ ((by rw [hg]; exact (below_size (bl_ HB)) : w.heap.size ≤ gb292)); have n7_ := n6_; have n8_ := A_ ((by rw [hg]; exact Nat.ne_of_lt (blk_lt (pl_ BK281)) : gb281 ≠ gb292)); have n9_ := Aside0.mk n8_.out.symm; have n10_ := A_ ((by rw [hg]; exact Nat.ne_of_lt (blk_lt (pl_ BK282)) : gb282 ≠ gb292)); have n11_ := Aside0.mk n10_.out.symm; have n12_ := A_ ((by rw [hg]; exact Nat.ne_of_lt (blk_lt (pl_ BK283)) : gb283 ≠ gb292)); have n13_ := Aside0.mk n12_.out.symm; clear HO287; clear BK281; clear BK282; clear BK283; clear HB; have HO287 := n0_; have BK281 := n1_; have BK282 := n2_; have BK283 := n3_; have HB := n4_; have BK292 := n5_; have GW292 := n6_; have GE292 := n7_; have NB281_292 := n8_; have NB292_281 := n9_; have NB282_292 := n10_; have NB292_282 := n11_; have NB283_292 := n12_; have NB292_283 := n13_; clear n0_ n1_ n2_ n3_ n4_ n5_ n6_ n7_ n8_ n9_ n10_ n11_ n12_ n13_; clear hb hbox hg; have hnb25 := NB292_281.out; have hnc25 := NB281_292.out; have hnb26 := NB292_282.out; have hnc26 := NB282_292.out; have hnb27 := NB292_283.out; have hnc27 := NB283_292.out; obtain ⟨hcz28_0, hcz28_1, hfz28_0, hfz28_1⟩ := cl2_ BK292; obtain ⟨hcz29_0, hcz29_1, hfz29_0, hfz29_1⟩ := cl2_ BK283))
   refine bodyPost_ret (results_ctt rfl _ _ gb283 43 #[.int .i8 t289, .bool t290] (0, 0) _ rfl (by (with_reducible repeat (first | refine blk_drewN ?_ _ | refine blk_drew ?_ | refine blk_alloc ?_ _)); refine blk_put (cs := #[.int .i8 t289, .bool false]) ?_ 1 _ rfl; (with_reducible repeat (first | refine blk_drewN ?_ _ | refine blk_drew ?_ | refine blk_alloc ?_ _)); refine blk_put (cs := #[.int .i8 0, .bool false]) ?_ 0 _ rfl; (with_reducible repeat (first | refine blk_drewN ?_ _ | refine blk_drew ?_ | refine blk_alloc ?_ _)); refine blk_far ?_ NB283_292.out _; (with_reducible repeat (first | refine blk_drewN ?_ _ | refine blk_drew ?_ | refine blk_alloc ?_ _)); refine blk_far ?_ NB283_292.out _; (with_reducible repeat (first | refine blk_drewN ?_ _ | refine blk_drew ?_ | refine blk_alloc ?_ _)); exact BK283.out) Try.underlying43 rfl (by kernel_rfl)) rfl ?_
   exact ⟨by first | rfl | (simp [errW_none, errW_some] <;> rfl) | (simp [*, errW_none, errW_some] <;> rfl), by repeat (first | (with_reducible first | exact HB.out | apply below_alloc | apply pw_below_drewN | apply below_drew1 | refine below_set ?_ GE283.out | refine below_set ?_ GE292.out) | exact HB.out)⟩
  ·replace c8 := Bool.eq_false_iff.mpr c8
   subst c8
   have H1 : (some (0, false, 0, 6)) = some (r1, r2, r3, r4) := by rw [if_neg (show ¬ (false = true) by decide)] at H; exact H
   clear H
   have H := H1
   clear H1
   simp only [Option.some.injEq, Prod.mk.injEq] at H
   obtain ⟨rfl, rfl, rfl, rfl⟩ := H
   go_enter Try.func20, Try.ntmps20
   try go_wp2_with (first | ((with_reducible refine gate_dst (N := 3) rfl ?_); refine box_event ?hg (N := 3) ?hd (cs := #[.int .i8 a0_0, .int .i8 a0_1, .bool a0_2, .bool a0_3]) (t := 29) ?hr ?_; (case hd => rfl); (case hg => rfl); (case hr => first | (go_simp; done) | (go_simp; rfl)); intro gb281 hg w30 hbox hb; have n0_ := A_ (below_step (bl_ HB) hb); have n1_ := A_ (hbox); have n2_ := A_ ((by rw [hg]; exact (below_size (bl_ HB)) : w.heap.size ≤ gb281)); have n3_ := n2_; clear HB; have HB := n0_; have BK281 := n1_; have GW281 := n2_; have GE281 := n3_; clear n0_ n1_ n2_ n3_; clear hb hbox hg) | ((with_reducible refine gate_dst (N := 5) rfl ?_); refine box_event ?hg (N := 5) ?hd (cs := #[.int .i8 a2_0, .bool a2_1]) (t := 43) ?hr ?_; (case hd => rfl); (case hg => rfl); (case hr => first | (go_simp; done) | (go_simp; rfl)); intro gb282 hg w31 hbox hb; have n0_ := A_ (blk_below (pl_ BK281) hb); have n1_ := A_ (below_step (bl_ HB) hb); have n2_ := A_ (hbox); have n3_ := A_ ((by rw [hg]; exact (below_size (bl_ HB)) : w.heap.size ≤ gb282)); have n4_ := n3_; have n5_ := A_ ((by rw [hg]; exact Nat.ne_of_lt (blk_lt (pl_ BK281)) : gb281 ≠ gb282)); have n6_ := Aside0.mk n5_.out.symm; clear BK281; clear HB; have BK281 := n0_; have HB := n1_; have BK282 := n2_; have GW282 := n3_; have GE282 := n4_; have NB281_282 := n5_; have NB282_281 := n6_; clear n0_ n1_ n2_ n3_ n4_ n5_ n6_; clear hb hbox hg) | ((with_reducible refine gate_dst (N := 6) rfl ?_); refine box_event ?hg (N := 6) ?hd (cs := #[.int .i8 0, .bool false]) (t := 43) ?hr ?_; (case hd => rfl); (case hg => rfl); (case hr => first | (go_simp; done) | (go_simp; rfl)); intro gb283 hg w32 hbox hb; have n0_ := A_ (blk_below (pl_ BK281) hb); have n1_ := A_ (blk_below (pl_ BK282) hb); have n2_ := A_ (below_step (bl_ HB) hb); have n3_ := A_ (hbox); have n4_ := A_ ((by rw [hg]; exact (below_size (bl_ HB)) : w.heap.size ≤ gb283)); have n5_ := n4_; have n6_ := A_ ((by rw [hg]; exact Nat.ne_of_lt (blk_lt (pl_ BK281)) : gb281 ≠ gb283)); have n7_ := Aside0.mk n6_.out.symm; have n8_ := A_ ((by rw [hg]; exact Nat.ne_of_lt (blk_lt (pl_ BK282)) : gb282 ≠ gb283)); have n9_ := Aside0.mk n8_.out.symm; clear BK281; clear BK282; clear HB; have BK281 := n0_; have BK282 := n1_; have HB := n2_; have BK283 := n3_; have GW283 := n4_; have GE283 := n5_; have NB281_283 := n6_; have NB283_281 := n7_; have NB282_283 := n8_; have NB283_282 := n9_; clear n0_ n1_ n2_ n3_ n4_ n5_ n6_ n7_ n8_ n9_; clear hb hbox hg; have hnb33 := NB281_282.out; have hnc33 := NB282_281.out; have hnb34 := NB281_283.out; have hnc34 := NB283_281.out; obtain ⟨hcz35_0, hcz35_1, hcz35_2, hcz35_3, hfz35_0, hfz35_1, hfz35_2, hfz35_3⟩ := cl4_ BK281) | ((with_reducible refine gate_callee (f := 17) rfl ?_); refine goesL_ (some 14) rfl rfl Try.func17 (by kernel_rfl) rfl #[.agg #[.int .i8 a0_0, .int .i8 a0_1, .bool a0_2, .bool a0_3], .slice A1 l1.length c1] rfl arg_ ?_; (with_reducible refine (impl_ValidPlan.calls k a0_0 a0_1 a0_2 a0_3 _ _ l1 true _ ?side1 ?side2 A4.out).mono ?_); (case side1 => exact Kd.C_below HR1.out (bl_ HB)); (case side2 => exact HC1.out); rintro e w36 ⟨rfl, hb⟩; refine ⟨_, rfl, ?_⟩; have n0_ := A_ (blk_below (pl_ BK281) hb); have n1_ := A_ (blk_below (pl_ BK282) hb); have n2_ := A_ (blk_below (pl_ BK283) hb); have n3_ := A_ (below_step (bl_ HB) hb); clear BK281; clear BK282; clear BK283; clear HB; have BK281 := n0_; have BK282 := n1_; have BK283 := n2_; have HB := n3_; clear n0_ n1_ n2_ n3_; (try clear hb); (try clear hb2); (try clear hk); (try clear hi)))
   have n0_ := A_ (blk_drew BK281.out)
   have n1_ := A_ (blk_drew BK282.out)
   have n2_ := A_ (blk_drew BK283.out)
   have n3_ := A_ (below_drew1 HB.out)
   clear BK281
   clear BK282
   clear BK283
   clear HB
   have BK281 := n0_
   have BK282 := n1_
   have BK283 := n2_
   have HB := n3_
   clear n0_ n1_ n2_ n3_
   refine start_ (n := 6) (S := fun w' => w'.cell? ⟨gb281, 0, none⟩ = some (.int .i8 a0_0) ∧ w'.cell? ⟨gb281, 1, none⟩ = some (.int .i8 a0_1) ∧ w'.cell? ⟨gb281, 2, none⟩ = some (.bool a0_2) ∧ w'.cell? ⟨gb281, 3, none⟩ = some (.bool a0_3) ∧ w'.cell? ⟨gb282, 0, none⟩ = some (.int .i8 a2_0) ∧ w'.cell? ⟨gb282, 1, none⟩ = some (.bool a2_1)) (ds := []) #[false, false, false, false, false, false] (by kernel_rfl) rfl rfl ⟨(blk_cell BK281.out 0).trans rfl, (blk_cell BK281.out 1).trans rfl, (blk_cell BK281.out 2).trans rfl, (blk_cell BK281.out 3).trans rfl, (blk_cell BK282.out 0).trans rfl, (blk_cell BK282.out 1).trans rfl⟩ (fun hHeld => ?_)
   generalize w36.drew = w37 at BK281 BK282 BK283 HB hHeld ⊢
   refine take_ (i := 0) (N := some 18) (v := ?_) (a' := ?_) #[true, false, false, false, false, false] rfl rfl (by kernel_rfl) (fun _ _ _ h => h) (Or.inl ⟨by rfl, ?_⟩) hHeld ?_ ?_
   rotate_left
   ·rintro w' ⟨s0, s1, s2, s3, s4, s5⟩
    go_simp
    with_reducible rfl
   rotate_left
   ·simp only [Act.put, sp_]
    rfl
   refine take_ (i := 2) (N := some 20) (v := ?_) (a' := ?_) #[true, false, true, false, false, false] rfl rfl (by kernel_rfl) (fun _ _ _ h => h) (Or.inl ⟨by rfl, ?_⟩) hHeld ?_ ?_
   rotate_left
   ·rintro w' ⟨s0, s1, s2, s3, s4, s5⟩
    go_simp
    with_reducible rfl
   rotate_left
   ·simp only [Act.put, sp_]
    rfl
   refine one_ (i := 1) (N := some 19) #[true, true, true, false, false, false] rfl rfl (by kernel_rfl) (by decide) (fun K hK => ?_)
   refine goes_ Try.func34 (by kernel_rfl) rfl #[.agg #[.int .i8 a0_0, .int .i8 a0_1, .bool a0_2, .bool a0_3]] (by rfl) rfl rfl arg_ ?_
   with_reducible refine (impl_Task_cases.calls k a0_0 a0_1 a0_2 a0_3 t285 _ A6.out).mono ?_
   rintro e w38 ⟨v286, rfl, ho0, hb⟩
   refine ⟨_, rfl, ?_⟩
   have n0_ := A_ (Kd.R_lower (Kd.R_newB (Kd.R_newB ho0 (pl_ BK282)) (pl_ BK283)) (below_size (bl_ HB)))
   have n1_ := A_ (blk_below (pl_ BK281) hb)
   have n2_ := A_ (blk_below (pl_ BK282) hb)
   have n3_ := A_ (blk_below (pl_ BK283) hb)
   have n4_ := A_ (below_step (bl_ HB) hb)
   clear BK281
   clear BK282
   clear BK283
   clear HB
   have HO287 := n0_
   have BK281 := n1_
   have BK282 := n2_
   have BK283 := n3_
   have HB := n4_
   clear n0_ n1_ n2_ n3_ n4_
   (try clear hb)
   (try clear hb2)
   (try clear hk)
   (try clear hi)
   (try clear ho0)
   obtain ⟨Ao39, co39, eo39⟩ := Kd.R_slice HO287.out
   (first | subst eo39 | (injection eo39 with f1_ f2_ f3_; have f4_ := f1_.symm; have f5_ := f3_.symm; clear f1_ f2_ f3_; subst f4_; subst f5_))
   refine hK.out _ _ ⟨(blk_cell BK281.out 0).trans rfl, (blk_cell BK281.out 1).trans rfl, (blk_cell BK281.out 2).trans rfl, (blk_cell BK281.out 3).trans rfl, (blk_cell BK282.out 0).trans rfl, (blk_cell BK282.out 1).trans rfl⟩ (fun hHeld => ?_)
   clear hK K
   refine norm_ (a' := ?_) ?_ ?_
   rotate_left
   ·show Act.put _ (some 19) _ = _
    simp only [Act.put, sp_]
    rfl
   refine one_ (i := 3) (N := some 21) #[true, true, true, true, false, false] rfl rfl (by kernel_rfl) (by decide) (fun K hK => ?_)
   refine goes_ Try.func35 (by kernel_rfl) rfl #[.slice Ao39 t285.length co39, .agg #[.int .i8 a2_0, .bool a2_1]] (by rfl) rfl rfl arg_ ?_
   with_reducible refine (impl_Case_35.calls k _ _ t285 a2_0 a2_1 false _ ?side1 ?side2 A7.out).mono ?_
   (case side1 => repeat (first | exact (Kd.R_reads' HO287.out).2.2 | (with_reducible refine Kd.C_alloc ?_ _) | (with_reducible refine Kd.C_drewN ?_ _) | (with_reducible refine Kd.C_drew ?_)))
   (case side2 => exact (Kd.R_reads' HO287.out).2.1)
   rintro e w40 ⟨rfl, hb⟩
   refine ⟨_, rfl, ?_⟩
   have n0_ := A_ (Kd.R_below (pr_ HO287) hb)
   have n1_ := A_ (blk_below (pl_ BK281) hb)
   have n2_ := A_ (blk_below (pl_ BK282) hb)
   have n3_ := A_ (blk_below (pl_ BK283) hb)
   have n4_ := A_ (below_step (bl_ HB) hb)
   clear HO287
   clear BK281
   clear BK282
   clear BK283
   clear HB
   have HO287 := n0_
   have BK281 := n1_
   have BK282 := n2_
   have BK283 := n3_
   have HB := n4_
   clear n0_ n1_ n2_ n3_ n4_
   (try clear hb)
   (try clear hb2)
   (try clear hk)
   (try clear hi)
   refine hK.out _ _ ⟨(blk_cell BK281.out 0).trans rfl, (blk_cell BK281.out 1).trans rfl, (blk_cell BK281.out 2).trans rfl, (blk_cell BK281.out 3).trans rfl, (blk_cell BK282.out 0).trans rfl, (blk_cell BK282.out 1).trans rfl⟩ (fun hHeld => ?_)
   clear hK K
   refine norm_ (a' := ?_) ?_ ?_
   rotate_left
   ·show Act.put _ (some 21) _ = _
    simp only [Act.put, sp_]
    rfl
   refine pure_ (i := 4) (N := some 22) (v := ?_) (a' := ?_) #[true, true, true, true, true, false] rfl rfl (by kernel_rfl) (fun _ _ _ h => h) (Or.inl ⟨by rfl, ?_⟩) ?_ ?_
   rotate_left
   ·intro w'
    go_simp
    with_reducible rfl
   rotate_left
   ·simp only [Act.put, sp_]
    rfl
   refine pure_ (i := 5) (N := some 17) (v := ?_) (a' := ?_) #[true, true, true, true, true, true] rfl rfl (by kernel_rfl) (fun _ _ _ h => h) (Or.inl ⟨by rfl, ?_⟩) ?_ ?_
   rotate_left
   ·intro w'
    go_simp
    with_reducible rfl
   rotate_left
   ·simp only [Act.put, sp_]
    rfl
   refine done_ (by kernel_rfl) ?_
   have hnb41 := NB283_282.out
   have hnc41 := NB282_283.out
   obtain ⟨hcz42_0, hcz42_1, hfz42_0, hfz42_1⟩ := cl2_ BK283
   try go_wp2
   refine bodyPost_ret (results_ctt rfl _ _ gb283 43 #[.int .i8 0, .bool false] (0, 0) _ rfl (by (with_reducible repeat (first | refine blk_drewN ?_ _ | refine blk_drew ?_ | refine blk_alloc ?_ _)); refine blk_put (cs := #[.int .i8 0, .bool false]) ?_ 1 _ rfl; (with_reducible repeat (first | refine blk_drewN ?_ _ | refine blk_drew ?_ | refine blk_alloc ?_ _)); refine blk_put (cs := #[.int .i8 0, .bool false]) ?_ 0 _ rfl; (with_reducible repeat (first | refine blk_drewN ?_ _ | refine blk_drew ?_ | refine blk_alloc ?_ _)); exact BK283.out) Try.underlying43 rfl (by kernel_rfl)) rfl ?_
   exact ⟨by first | rfl | (simp [errW_none, errW_some] <;> rfl) | (simp [*, errW_none, errW_some] <;> rfl), bs_ HB GE283⟩
 ·replace c5 := Bool.eq_false_iff.mpr c5
  subst c5
  have H1 : (some (0, false, 0, 1)) = some (r1, r2, r3, r4) := by rw [if_neg (show ¬ (false = true) by decide)] at H; exact H
  clear H
  have H := H1
  clear H1
  simp only [Option.some.injEq, Prod.mk.injEq] at H
  obtain ⟨rfl, rfl, rfl, rfl⟩ := H
  go_enter Try.func20, Try.ntmps20
  go_wp2_with (first | ((with_reducible refine gate_dst (N := 3) rfl ?_); refine box_event ?hg (N := 3) ?hd (cs := #[.int .i8 a0_0, .int .i8 a0_1, .bool a0_2, .bool a0_3]) (t := 29) ?hr ?_; (case hd => rfl); (case hg => rfl); (case hr => first | (go_simp; done) | (go_simp; rfl)); intro gb281 hg w43 hbox hb; have n0_ := A_ (below_step (bl_ HB) hb); have n1_ := A_ (hbox); have n2_ := A_ ((by rw [hg]; exact (below_size (bl_ HB)) : w.heap.size ≤ gb281)); have n3_ := n2_; clear HB; have HB := n0_; have BK281 := n1_; have GW281 := n2_; have GE281 := n3_; clear n0_ n1_ n2_ n3_; clear hb hbox hg) | ((with_reducible refine gate_dst (N := 5) rfl ?_); refine box_event ?hg (N := 5) ?hd (cs := #[.int .i8 a2_0, .bool a2_1]) (t := 43) ?hr ?_; (case hd => rfl); (case hg => rfl); (case hr => first | (go_simp; done) | (go_simp; rfl)); intro gb282 hg w44 hbox hb; have n0_ := A_ (blk_below (pl_ BK281) hb); have n1_ := A_ (below_step (bl_ HB) hb); have n2_ := A_ (hbox); have n3_ := A_ ((by rw [hg]; exact (below_size (bl_ HB)) : w.heap.size ≤ gb282)); have n4_ := n3_; have n5_ := A_ ((by rw [hg]; exact Nat.ne_of_lt (blk_lt (pl_ BK281)) : gb281 ≠ gb282)); have n6_ := Aside0.mk n5_.out.symm; clear BK281; clear HB; have BK281 := n0_; have HB := n1_; have BK282 := n2_; have GW282 := n3_; have GE282 := n4_; have NB281_282 := n5_; have NB282_281 := n6_; clear n0_ n1_ n2_ n3_ n4_ n5_ n6_; clear hb hbox hg) | ((with_reducible refine gate_dst (N := 6) rfl ?_); refine box_event ?hg (N := 6) ?hd (cs := #[.int .i8 0, .bool false]) (t := 43) ?hr ?_; (case hd => rfl); (case hg => rfl); (case hr => first | (go_simp; done) | (go_simp; rfl)); intro gb283 hg w45 hbox hb; have n0_ := A_ (blk_below (pl_ BK281) hb); have n1_ := A_ (blk_below (pl_ BK282) hb); have n2_ := A_ (below_step (bl_ HB) hb); have n3_ := A_ (hbox); have n4_ := A_ ((by rw [hg]; exact (below_size (bl_ HB)) : w.heap.size ≤ gb283)); have n5_ := n4_; have n6_ := A_ ((by rw [hg]; exact Nat.ne_of_lt (blk_lt (pl_ BK281)) : gb281 ≠ gb283)); have n7_ := Aside0.mk n6_.out.symm; have n8_ := A_ ((by rw [hg]; exact Nat.ne_of_lt (blk_lt (pl_ BK282)) : gb282 ≠ gb283)); have n9_ := Aside0.mk n8_.out.symm; clear BK281; clear BK282; clear HB; have BK281 := n0_; have BK282 := n1_; have HB := n2_; have BK283 := n3_; have GW283 := n4_; have GE283 := n5_; have NB281_283 := n6_; have NB283_281 := n7_; have NB282_283 := n8_; have NB283_282 := n9_; clear n0_ n1_ n2_ n3_ n4_ n5_ n6_ n7_ n8_ n9_; clear hb hbox hg; have hnb46 := NB281_282.out; have hnc46 := NB282_281.out; have hnb47 := NB281_283.out; have hnc47 := NB283_281.out; obtain ⟨hcz48_0, hcz48_1, hcz48_2, hcz48_3, hfz48_0, hfz48_1, hfz48_2, hfz48_3⟩ := cl4_ BK281) | ((with_reducible refine gate_callee (f := 17) rfl ?_); refine goesL_ (some 14) rfl rfl Try.func17 (by kernel_rfl) rfl #[.agg #[.int .i8 a0_0, .int .i8 a0_1, .bool a0_2, .bool a0_3], .slice A1 l1.length c1] rfl arg_ ?_; (with_reducible refine (impl_ValidPlan.calls k a0_0 a0_1 a0_2 a0_3 _ _ l1 false _ ?side1 ?side2 A4.out).mono ?_); (case side1 => exact Kd.C_below HR1.out (bl_ HB)); (case side2 => exact HC1.out); rintro e w49 ⟨rfl, hb⟩; refine ⟨_, rfl, ?_⟩; have n0_ := A_ (blk_below (pl_ BK281) hb); have n1_ := A_ (blk_below (pl_ BK282) hb); have n2_ := A_ (blk_below (pl_ BK283) hb); have n3_ := A_ (below_step (bl_ HB) hb); clear BK281; clear BK282; clear BK283; clear HB; have BK281 := n0_; have BK282 := n1_; have BK283 := n2_; have HB := n3_; clear n0_ n1_ n2_ n3_; (try clear hb); (try clear hb2); (try clear hk); (try clear hi); have hnb50 := NB283_282.out; have hnc50 := NB282_283.out; obtain ⟨hcz51_0, hcz51_1, hfz51_0, hfz51_1⟩ := cl2_ BK283))
  refine bodyPost_ret (results_ctt rfl _ _ gb283 43 #[.int .i8 0, .bool false] (0, 0) _ rfl (by (with_reducible repeat (first | refine blk_drewN ?_ _ | refine blk_drew ?_ | refine blk_alloc ?_ _)); refine blk_put (cs := #[.int .i8 0, .bool false]) ?_ 1 _ rfl; (with_reducible repeat (first | refine blk_drewN ?_ _ | refine blk_drew ?_ | refine blk_alloc ?_ _)); refine blk_put (cs := #[.int .i8 0, .bool false]) ?_ 0 _ rfl; (with_reducible repeat (first | refine blk_drewN ?_ _ | refine blk_drew ?_ | refine blk_alloc ?_ _)); exact BK283.out) Try.underlying43 rfl (by kernel_rfl)) rfl ?_
  exact ⟨by first | rfl | (simp [errW_none, errW_some] <;> rfl) | (simp [*, errW_none, errW_some] <;> rfl), bs_ HB GE283⟩

end Go.Proofs.Ytcghglembmohcaa.M
