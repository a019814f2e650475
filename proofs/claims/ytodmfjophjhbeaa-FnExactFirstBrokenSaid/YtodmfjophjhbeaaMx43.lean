-- By this seat's own program over the kit's printer (arrays, functions told by hand); nothing of it is trusted: the kernel checks it.
import Derived.Test.YtodmfjophjhbeaaMx0
import Derived.Test.YtodmfjophjhbeaaMx18
import Derived.Test.YtodmfjophjhbeaaMx19
import Derived.Test.YtodmfjophjhbeaaMx20
import Derived.Test.YtodmfjophjhbeaaMx21
namespace Go.Proofs.Ytodmfjophjhbeaa.M
open Go.RowKit Go.Proofs.YtodmfjophjhbeaaW.PrintWords Go.Proofs.YtodmfjophjhbeaaW.PrintLast Go.Proofs.YtodmfjophjhbeaaW.PrintMore
attribute [local go_sem] max2_int min2_int max_two min_two max_three min_three max_four min_four   -- for this text's walks alone
set_option linter.unusedVariables false
set_option linter.unusedSimpArgs false

/-! ### spec_FirstBroken: function 54 -/
def spec_FirstBroken.f (k : Nat) (l0_0 : List Int) (a0_1 : Int) (a0_2 : Int) (a0_3 : Int) (a0_4 : Int) (a0_5 : Bool) (l1 : List Int) : Option (Int × Int) := (spec_l02Tabled.f k l0_0 a0_1 a0_2 a0_3 a0_4 a0_5 l1).bind fun t479 => (if t479 = 0 then ((spec_l02Broken.f k l0_0 a0_1 a0_2 a0_3 a0_4 a0_5 l1).bind fun t480 => (if t480 < 0 then (some (0, 6)) else (some (t480, 0)))) else (some (0, t479)))
theorem spec_FirstBroken.mono : ∀ a0 a1 a2 a3 a4 a5 a6 k, LeO (spec_FirstBroken.f k a0 a1 a2 a3 a4 a5 a6) (spec_FirstBroken.f (k + 1) a0 a1 a2 a3 a4 a5 a6) := by
 intro a0 a1 a2 a3 a4 a5 a6 k
 unfold spec_FirstBroken.f
 repeat' first
   | (with_reducible exact spec_l02Broken.mono _ _ _ _ _ _ _ _)
   | (with_reducible exact spec_l02Tabled.mono _ _ _ _ _ _ _ _)
   | (with_reducible exact LeO.refl _)
   | (with_reducible exact LeO.none _)
   | (with_reducible refine LeO.ite ?_ ?_)
   | (with_reducible refine LeO.bind ?_ (fun _ => ?_))
   | exact spec_l02Broken.mono _ _ _ _ _ _ _ _
   | exact spec_l02Tabled.mono _ _ _ _ _ _ _ _
   | exact LeO.none _
   | refine LeO.ite ?_ ?_
   | refine LeO.bind ?_ (fun _ => ?_)
set_option maxHeartbeats 8000000 in
set_option maxRecDepth 100000 in
theorem spec_FirstBroken.calls (k : Nat) (A0_0 : Option Addr) (c0_0 : Nat) (l0_0 : List Int) (a0_1 : Int) (a0_2 : Int) (a0_3 : Int) (a0_4 : Int) (a0_5 : Bool) (A1 : Option Addr) (c1 : Nat) (l1 : List Int) (r1 : Int) (r2 : Int) (w : World) (hr0_0 : Kd.C (Kd.int .i16) w A0_0 l0_0.length l0_0) (hc0_0 : l0_0.length ≤ c0_0) (hr1 : Kd.C (Kd.int .i16) w A1 l1.length l1) (hc1 : l1.length ≤ c1) (h : spec_FirstBroken.f k l0_0 a0_1 a0_2 a0_3 a0_4 a0_5 l1 = some (r1, r2)) :
  Calls Try.prog 54 #[.agg #[.slice A0_0 l0_0.length c0_0, .int .i16 a0_1, .int .i16 a0_2, .int .i16 a0_3, .int .i16 a0_4, .bool a0_5], .slice A1 l1.length c1] w fun e w' => e = .returned (.tuple #[.int .i64 r1, .int .i64 r2]) ∧ Below w.heap.size w w' := by
 have hu32 := Try.underlying32
 have HR0_0 := Aside0.mk hr0_0
 have HC0_0 := Aside0.mk hc0_0
 clear hr0_0 hc0_0
 have HR1 := Aside0.mk hr1
 have HC1 := Aside0.mk hc1
 clear hr1 hc1
 have HB := A_ (Below.refl w.heap.size w)
 have H : ((spec_l02Tabled.f k l0_0 a0_1 a0_2 a0_3 a0_4 a0_5 l1).bind fun t479 => (if t479 = 0 then ((spec_l02Broken.f k l0_0 a0_1 a0_2 a0_3 a0_4 a0_5 l1).bind fun t480 => (if t480 < 0 then (some (0, 6)) else (some (t480, 0)))) else (some (0, t479)))) = some (r1, r2) := h
 clear h
 replace H := Option.bind_eq_some_iff.mp H
 obtain ⟨t479, A30, H⟩ := H
 replace H : (if t479 = 0 then ((spec_l02Broken.f k l0_0 a0_1 a0_2 a0_3 a0_4 a0_5 l1).bind fun t480 => (if t480 < 0 then (some (0, 6)) else (some (t480, 0)))) else (some (0, t479))) = some (r1, r2) := H
 have A3 := Aside0.mk A30
 clear A30
 by_cases c4 : t479 = 0
 ·rw [if_pos c4] at H
  have c4b0 : (t479 == 0) = true := beq_iff_eq.mpr c4
  have c4b1 : (t479 != 0) = false := bne_eq_false_iff_eq.mpr c4
  clear c4
  replace H := Option.bind_eq_some_iff.mp H
  obtain ⟨t480, A50, H⟩ := H
  replace H : (if t480 < 0 then (some (0, 6)) else (some (t480, 0))) = some (r1, r2) := H
  have A5 := Aside0.mk A50
  clear A50
  by_cases c6 : t480 < 0
  ·rw [if_pos c6] at H
   have c6b0 : decide (t480 < 0) = true := decide_eq_true c6
   clear c6
   simp only [Option.some.injEq, Prod.mk.injEq] at H
   obtain ⟨rfl, rfl⟩ := H
   go_enter Try.func54, Try.ntmps54
   go_wp2_with (first | ((with_reducible refine gate_dst (N := 2) rfl ?_); refine box_event ?hg (N := 2) ?hd (cs := #[.slice A0_0 l0_0.length c0_0, .int .i16 a0_1, .int .i16 a0_2, .int .i16 a0_3, .int .i16 a0_4, .bool a0_5]) (t := 32) ?hr ?_; (case hd => rfl); (case hg => rfl); (case hr => first | (go_simp; done) | (go_simp; rfl)); intro gb478 hg w7 hbox hb; have n0_ := A_ (below_step (bl_ HB) hb); have n1_ := A_ (hbox); have n2_ := A_ ((by rw [hg]; exact (below_size (bl_ HB)) : w.heap.size ≤ gb478)); have n3_ := n2_; clear HB; have HB := n0_; have BK478 := n1_; have GW478 := n2_; have GE478 := n3_; clear n0_ n1_ n2_ n3_; clear hb hbox hg) | ((with_reducible refine gate_callee (f := 57) rfl ?_); refine goesL_ (some 9) rfl rfl Try.func57 (by kernel_rfl) rfl #[.pointer (some ⟨gb478, 0, none⟩), .slice A1 l1.length c1] rfl arg_ ?_; (with_reducible refine (spec_l02Tabled.calls k gb478 A0_0 c0_0 l0_0 a0_1 a0_2 a0_3 a0_4 a0_5 _ _ l1 t479 _ ?side1 ?side2 ?side3 ?side4 ?side5 A3.out).mono ?_); (case side1 => exact (pl_ BK478)); (case side2 => repeat (first | exact (Kd.C_below HR0_0.out HB.out) | (with_reducible refine Kd.C_alloc ?_ _) | (with_reducible refine Kd.C_drewN ?_ _) | (with_reducible refine Kd.C_drew ?_))); (case side3 => exact HC0_0.out); (case side4 => repeat (first | exact (Kd.C_below HR1.out HB.out) | (with_reducible refine Kd.C_alloc ?_ _) | (with_reducible refine Kd.C_drewN ?_ _) | (with_reducible refine Kd.C_drew ?_))); (case side5 => exact HC1.out); rintro e w8 ⟨rfl, hb⟩; refine ⟨_, rfl, ?_⟩; have n0_ := A_ (blk_below (pl_ BK478) hb); have n1_ := A_ (below_step (bl_ HB) hb); clear BK478; clear HB; have BK478 := n0_; have HB := n1_; clear n0_ n1_; (try clear hb); (try clear hb2); (try clear hk); (try clear hi)) | ((with_reducible refine gate_callee (f := 59) rfl ?_); refine goesL_ (some 14) rfl rfl Try.func59 (by kernel_rfl) rfl #[.pointer (some ⟨gb478, 0, none⟩), .slice A1 l1.length c1] rfl arg_ ?_; (with_reducible refine (spec_l02Broken.calls k gb478 A0_0 c0_0 l0_0 a0_1 a0_2 a0_3 a0_4 a0_5 _ _ l1 t480 _ ?side1 ?side2 ?side3 ?side4 ?side5 A5.out).mono ?_); (case side1 => exact (pl_ BK478)); (case side2 => repeat (first | exact (Kd.C_below HR0_0.out HB.out) | (with_reducible refine Kd.C_alloc ?_ _) | (with_reducible refine Kd.C_drewN ?_ _) | (with_reducible refine Kd.C_drew ?_))); (case side3 => exact HC0_0.out); (case side4 => repeat (first | exact (Kd.C_below HR1.out HB.out) | (with_reducible refine Kd.C_alloc ?_ _) | (with_reducible refine Kd.C_drewN ?_ _) | (with_reducible refine Kd.C_drew ?_))); (case side5 => exact HC1.out); rintro e w9 ⟨rfl, hb⟩; refine ⟨_, rfl, ?_⟩; have n0_ := A_ (blk_below (pl_ BK478) hb); have n1_ := A_ (below_step (bl_ HB) hb); clear BK478; clear HB; have BK478 := n0_; have HB := n1_; clear n0_ n1_; (try clear hb); (try clear hb2); (try clear hk); (try clear hi)))
   go_ret2
   exact ⟨by first | rfl | (simp [errW_none, errW_some] <;> rfl) | (simp [*, errW_none, errW_some] <;> rfl), bl_ HB⟩
  ·rw [if_neg c6] at H
   have c6b0 : decide (t480 < 0) = false := decide_eq_false c6
   clear c6
   simp only [Option.some.injEq, Prod.mk.injEq] at H
   obtain ⟨rfl, rfl⟩ := H
   go_enter Try.func54, Try.ntmps54
   go_wp2_with (first | ((with_reducible refine gate_dst (N := 2) rfl ?_); refine box_event ?hg (N := 2) ?hd (cs := #[.slice A0_0 l0_0.length c0_0, .int .i16 a0_1, .int .i16 a0_2, .int .i16 a0_3, .int .i16 a0_4, .bool a0_5]) (t := 32) ?hr ?_; (case hd => rfl); (case hg => rfl); (case hr => first | (go_simp; done) | (go_simp; rfl)); intro gb478 hg w10 hbox hb; have n0_ := A_ (below_step (bl_ HB) hb); have n1_ := A_ (hbox); have n2_ := A_ ((by rw [hg]; exact (below_size (bl_ HB)) : w.heap.size ≤ gb478)); have n3_ := n2_; clear HB; have HB := n0_; have BK478 := n1_; have GW478 := n2_; have GE478 := n3_; clear n0_ n1_ n2_ n3_; clear hb hbox hg) | ((with_reducible refine gate_callee (f := 57) rfl ?_); refine goesL_ (some 9) rfl rfl Try.func57 (by kernel_rfl) rfl #[.pointer (some ⟨gb478, 0, none⟩), .slice A1 l1.length c1] rfl arg_ ?_; (with_reducible refine (spec_l02Tabled.calls k gb478 A0_0 c0_0 l0_0 a0_1 a0_2 a0_3 a0_4 a0_5 _ _ l1 t479 _ ?side1 ?side2 ?side3 ?side4 ?side5 A3.out).mono ?_); (case side1 => exact (pl_ BK478)); (case side2 => repeat (first | exact (Kd.C_below HR0_0.out HB.out) | (with_reducible refine Kd.C_alloc ?_ _) | (with_reducible refine Kd.C_drewN ?_ _) | (with_reducible refine Kd.C_drew ?_))); (case side3 => exact HC0_0.out); (case side4 => repeat (first | exact (Kd.C_below HR1.out HB.out) | (with_reducible refine Kd.C_alloc ?_ _) | (with_reducible refine Kd.C_drewN ?_ _) | (with_reducible refine Kd.C_drew ?_))); (case side5 => exact HC1.out); rintro e w11 ⟨rfl, hb⟩; refine ⟨_, rfl, ?_⟩; have n0_ := A_ (blk_below (pl_ BK478) hb); have n1_ := A_ (below_step (bl_ HB) hb); clear BK478; clear HB; have BK478 := n0_; have HB := n1_; clear n0_ n1_; (try clear hb); (try clear hb2); (try clear hk); (try clear hi)) | ((with_reducible refine gate_callee (f := 59) rfl ?_); refine goesL_ (some 14) rfl rfl Try.func59 (by kernel_rfl) rfl #[.pointer (some ⟨gb478, 0, none⟩), .slice A1 l1.length c1] rfl arg_ ?_; (with_reducible refine (spec_l02Broken.calls k gb478 A0_0 c0_0 l0_0 a0_1 a0_2 a0_3 a0_4 a0_5 _ _ l1 t480 _ ?side1 ?side2 ?side3 ?side4 ?side5 A5.out).mono ?_); (case side1 => exact (pl_ BK478)); (case side2 => repeat (first | exact (Kd.C_below HR0_0.out HB.out) | (with_reducible refine Kd.C_alloc ?_ _) | (with_reducible refine Kd.C_drewN ?_ _) | (with_reducible refine Kd.C_drew ?_))); (case side3 => exact HC0_0.out); (case side4 => repeat (first | exact (Kd.C_below HR1.out HB.out) | (with_reducible refine Kd.C_alloc ?_ _) | (with_reducible refine Kd.C_drewN ?_ _) | (with_reducible refine Kd.C_drew ?_))); (case side5 => exact HC1.out); rintro e w12 ⟨rfl, hb⟩; refine ⟨_, rfl, ?_⟩; have n0_ := A_ (blk_below (pl_ BK478) hb); have n1_ := A_ (below_step (bl_ HB) hb); clear BK478; clear HB; have BK478 := n0_; have HB := n1_; clear n0_ n1_; (try clear hb); (try clear hb2); (try clear hk); (try clear hi)))
   go_ret2
   exact ⟨by first | rfl | (simp [errW_none, errW_some] <;> rfl) | (simp [*, errW_none, errW_some] <;> rfl), bl_ HB⟩
 ·rw [if_neg c4] at H
  have c4b0 : (t479 == 0) = false := beq_eq_false_iff_ne.mpr c4
  have c4b1 : (t479 != 0) = true := bne_iff_ne.mpr c4
  simp only [Option.some.injEq, Prod.mk.injEq] at H
  obtain ⟨rfl, rfl⟩ := H
  go_enter Try.func54, Try.ntmps54
  go_wp2_with (first | ((with_reducible refine gate_dst (N := 2) rfl ?_); refine box_event ?hg (N := 2) ?hd (cs := #[.slice A0_0 l0_0.length c0_0, .int .i16 a0_1, .int .i16 a0_2, .int .i16 a0_3, .int .i16 a0_4, .bool a0_5]) (t := 32) ?hr ?_; (case hd => rfl); (case hg => rfl); (case hr => first | (go_simp; done) | (go_simp; rfl)); intro gb478 hg w13 hbox hb; have n0_ := A_ (below_step (bl_ HB) hb); have n1_ := A_ (hbox); have n2_ := A_ ((by rw [hg]; exact (below_size (bl_ HB)) : w.heap.size ≤ gb478)); have n3_ := n2_; clear HB; have HB := n0_; have BK478 := n1_; have GW478 := n2_; have GE478 := n3_; clear n0_ n1_ n2_ n3_; clear hb hbox hg) | ((with_reducible refine gate_callee (f := 57) rfl ?_); refine goesL_ (some 9) rfl rfl Try.func57 (by kernel_rfl) rfl #[.pointer (some ⟨gb478, 0, none⟩), .slice A1 l1.length c1] rfl arg_ ?_; (with_reducible refine (spec_l02Tabled.calls k gb478 A0_0 c0_0 l0_0 a0_1 a0_2 a0_3 a0_4 a0_5 _ _ l1 t479 _ ?side1 ?side2 ?side3 ?side4 ?side5 A3.out).mono ?_); (case side1 => exact (pl_ BK478)); (case side2 => repeat (first | exact (Kd.C_below HR0_0.out HB.out) | (with_reducible refine Kd.C_alloc ?_ _) | (with_reducible refine Kd.C_drewN ?_ _) | (with_reducible refine Kd.C_drew ?_))); (case side3 => exact HC0_0.out); (case side4 => repeat (first | exact (Kd.C_below HR1.out HB.out) | (with_reducible refine Kd.C_alloc ?_ _) | (with_reducible refine Kd.C_drewN ?_ _) | (with_reducible refine Kd.C_drew ?_))); (case side5 => exact HC1.out); rintro e w14 ⟨rfl, hb⟩; refine ⟨_, rfl, ?_⟩; have n0_ := A_ (blk_below (pl_ BK478) hb); have n1_ := A_ (below_step (bl_ HB) hb); clear BK478; clear HB; have BK478 := n0_; have HB := n1_; clear n0_ n1_; (try clear hb); (try clear hb2); (try clear hk); (try clear hi)))
  go_ret2
  exact ⟨by first | rfl | (simp [errW_none, errW_some] <;> rfl) | (simp [*, errW_none, errW_some] <;> rfl), bl_ HB⟩

/-! ### impl_FirstBroken: function 55 -/
def impl_FirstBroken.f (k : Nat) (l0_0 : List Int) (a0_1 : Int) (a0_2 : Int) (a0_3 : Int) (a0_4 : Int) (a0_5 : Bool) (l1 : List Int) : Option (Int × Int) := (impl_tableCode.f k l0_0 a0_1 a0_2 a0_3 a0_4 a0_5 l1).bind fun t482 => (if t482 = 0 then ((impl_Puzzle_broken.f k l0_0 a0_1 a0_2 a0_3 a0_4 a0_5 l1).bind fun t483 => (if t483 < 0 then (some (0, 6)) else (some (t483, 0)))) else (some (0, t482)))
theorem impl_FirstBroken.mono : ∀ a0 a1 a2 a3 a4 a5 a6 k, LeO (impl_FirstBroken.f k a0 a1 a2 a3 a4 a5 a6) (impl_FirstBroken.f (k + 1) a0 a1 a2 a3 a4 a5 a6) := by
 intro a0 a1 a2 a3 a4 a5 a6 k
 unfold impl_FirstBroken.f
 repeat' first
   | (with_reducible exact impl_Puzzle_broken.mono _ _ _ _ _ _ _ _)
   | (with_reducible exact impl_tableCode.mono _ _ _ _ _ _ _ _)
   | (with_reducible exact LeO.refl _)
   | (with_reducible exact LeO.none _)
   | (with_reducible refine LeO.ite ?_ ?_)
   | (with_reducible refine LeO.bind ?_ (fun _ => ?_))
   | exact impl_Puzzle_broken.mono _ _ _ _ _ _ _ _
   | exact impl_tableCode.mono _ _ _ _ _ _ _ _
   | exact LeO.none _
   | refine LeO.ite ?_ ?_
   | refine LeO.bind ?_ (fun _ => ?_)
set_option maxHeartbeats 8000000 in
set_option maxRecDepth 100000 in
theorem impl_FirstBroken.calls (k : Nat) (A0_0 : Option Addr) (c0_0 : Nat) (l0_0 : List Int) (a0_1 : Int) (a0_2 : Int) (a0_3 : Int) (a0_4 : Int) (a0_5 : Bool) (A1 : Option Addr) (c1 : Nat) (l1 : List Int) (r1 : Int) (r2 : Int) (w : World) (hr0_0 : Kd.C (Kd.int .i16) w A0_0 l0_0.length l0_0) (hc0_0 : l0_0.length ≤ c0_0) (hr1 : Kd.C (Kd.int .i16) w A1 l1.length l1) (hc1 : l1.length ≤ c1) (h : impl_FirstBroken.f k l0_0 a0_1 a0_2 a0_3 a0_4 a0_5 l1 = some (r1, r2)) :
  Calls Try.prog 55 #[.agg #[.slice A0_0 l0_0.length c0_0, .int .i16 a0_1, .int .i16 a0_2, .int .i16 a0_3, .int .i16 a0_4, .bool a0_5], .slice A1 l1.length c1] w fun e w' => e = .returned (.tuple #[.int .i64 r1, .int .i64 r2]) ∧ Below w.heap.size w w' := by
 have hu32 := Try.underlying32
 have HR0_0 := Aside0.mk hr0_0
 have HC0_0 := Aside0.mk hc0_0
 clear hr0_0 hc0_0
 have HR1 := Aside0.mk hr1
 have HC1 := Aside0.mk hc1
 clear hr1 hc1
 have HB := A_ (Below.refl w.heap.size w)
 have H : ((impl_tableCode.f k l0_0 a0_1 a0_2 a0_3 a0_4 a0_5 l1).bind fun t482 => (if t482 = 0 then ((impl_Puzzle_broken.f k l0_0 a0_1 a0_2 a0_3 a0_4 a0_5 l1).bind fun t483 => (if t483 < 0 then (some (0, 6)) else (some (t483, 0)))) else (some (0, t482)))) = some (r1, r2) := h
 clear h
 replace H := Option.bind_eq_some_iff.mp H
 obtain ⟨t482, A30, H⟩ := H
 replace H : (if t482 = 0 then ((impl_Puzzle_broken.f k l0_0 a0_1 a0_2 a0_3 a0_4 a0_5 l1).bind fun t483 => (if t483 < 0 then (some (0, 6)) else (some (t483, 0)))) else (some (0, t482))) = some (r1, r2) := H
 have A3 := Aside0.mk A30
 clear A30
 by_cases c4 : t482 = 0
 ·rw [if_pos c4] at H
  have c4b0 : (t482 == 0) = true := beq_iff_eq.mpr c4
  have c4b1 : (t482 != 0) = false := bne_eq_false_iff_eq.mpr c4
  clear c4
  replace H := Option.bind_eq_some_iff.mp H
  obtain ⟨t483, A50, H⟩ := H
  replace H : (if t483 < 0 then (some (0, 6)) else (some (t483, 0))) = some (r1, r2) := H
  have A5 := Aside0.mk A50
  clear A50
  by_cases c6 : t483 < 0
  ·rw [if_pos c6] at H
   have c6b0 : decide (t483 < 0) = true := decide_eq_true c6
   clear c6
   simp only [Option.some.injEq, Prod.mk.injEq] at H
   obtain ⟨rfl, rfl⟩ := H
   go_enter Try.func55, Try.ntmps55
   go_wp2_with (first | ((with_reducible refine gate_dst (N := 2) rfl ?_); refine box_event ?hg (N := 2) ?hd (cs := #[.slice A0_0 l0_0.length c0_0, .int .i16 a0_1, .int .i16 a0_2, .int .i16 a0_3, .int .i16 a0_4, .bool a0_5]) (t := 32) ?hr ?_; (case hd => rfl); (case hg => rfl); (case hr => first | (go_simp; done) | (go_simp; rfl)); intro gb481 hg w7 hbox hb; have n0_ := A_ (below_step (bl_ HB) hb); have n1_ := A_ (hbox); have n2_ := A_ ((by rw [hg]; exact (below_size (bl_ HB)) : w.heap.size ≤ gb481)); have n3_ := n2_; clear HB; have HB := n0_; have BK481 := n1_; have GW481 := n2_; have GE481 := n3_; clear n0_ n1_ n2_ n3_; clear hb hbox hg; have hcz8_0 : w7.cell? ⟨gb481, 0, none⟩ = some (.slice A0_0 l0_0.length c0_0) := (blk_cell BK481.out 0).trans rfl; have hcz8_1 : w7.cell? ⟨gb481, 1, none⟩ = some (.int .i16 a0_1) := (blk_cell BK481.out 1).trans rfl; have hcz8_2 : w7.cell? ⟨gb481, 2, none⟩ = some (.int .i16 a0_2) := (blk_cell BK481.out 2).trans rfl; have hcz8_3 : w7.cell? ⟨gb481, 3, none⟩ = some (.int .i16 a0_3) := (blk_cell BK481.out 3).trans rfl; have hcz8_4 : w7.cell? ⟨gb481, 4, none⟩ = some (.int .i16 a0_4) := (blk_cell BK481.out 4).trans rfl; have hcz8_5 : w7.cell? ⟨gb481, 5, none⟩ = some (.bool a0_5) := (blk_cell BK481.out 5).trans rfl; have hfz8_0 := blk_frozen BK481.out 0; have hfz8_1 := blk_frozen BK481.out 1; have hfz8_2 := blk_frozen BK481.out 2; have hfz8_3 := blk_frozen BK481.out 3; have hfz8_4 := blk_frozen BK481.out 4; have hfz8_5 := blk_frozen BK481.out 5) | ((with_reducible refine gate_callee (f := 62) rfl ?_); refine goesL_ (some 10) rfl rfl Try.func62 (by kernel_rfl) rfl #[.agg #[.slice A0_0 l0_0.length c0_0, .int .i16 a0_1, .int .i16 a0_2, .int .i16 a0_3, .int .i16 a0_4, .bool a0_5], .slice A1 l1.length c1] rfl arg_ ?_; (with_reducible refine (impl_tableCode.calls k _ _ l0_0 a0_1 a0_2 a0_3 a0_4 a0_5 _ _ l1 t482 _ ?side1 ?side2 ?side3 ?side4 A3.out).mono ?_); (case side1 => repeat (first | exact (Kd.C_below HR0_0.out HB.out) | (with_reducible refine Kd.C_alloc ?_ _) | (with_reducible refine Kd.C_drewN ?_ _) | (with_reducible refine Kd.C_drew ?_))); (case side2 => exact HC0_0.out); (case side3 => repeat (first | exact (Kd.C_below HR1.out HB.out) | (with_reducible refine Kd.C_alloc ?_ _) | (with_reducible refine Kd.C_drewN ?_ _) | (with_reducible refine Kd.C_drew ?_))); (case side4 => exact HC1.out); rintro e w9 ⟨rfl, hb⟩; refine ⟨_, rfl, ?_⟩; have n0_ := A_ (blk_below (pl_ BK481) hb); have n1_ := A_ (below_step (bl_ HB) hb); clear BK481; clear HB; have BK481 := n0_; have HB := n1_; clear n0_ n1_; (try clear hb); (try clear hb2); (try clear hk); (try clear hi); have hcz10_0 : w9.cell? ⟨gb481, 0, none⟩ = some (.slice A0_0 l0_0.length c0_0) := (blk_cell BK481.out 0).trans rfl; have hcz10_1 : w9.cell? ⟨gb481, 1, none⟩ = some (.int .i16 a0_1) := (blk_cell BK481.out 1).trans rfl; have hcz10_2 : w9.cell? ⟨gb481, 2, none⟩ = some (.int .i16 a0_2) := (blk_cell BK481.out 2).trans rfl; have hcz10_3 : w9.cell? ⟨gb481, 3, none⟩ = some (.int .i16 a0_3) := (blk_cell BK481.out 3).trans rfl; have hcz10_4 : w9.cell? ⟨gb481, 4, none⟩ = some (.int .i16 a0_4) := (blk_cell BK481.out 4).trans rfl; have hcz10_5 : w9.cell? ⟨gb481, 5, none⟩ = some (.bool a0_5) := (blk_cell BK481.out 5).trans rfl; have hfz10_0 := blk_frozen BK481.out 0; have hfz10_1 := blk_frozen BK481.out 1; have hfz10_2 := blk_frozen BK481.out 2; have hfz10_3 := blk_frozen BK481.out 3; have hfz10_4 := blk_frozen BK481.out 4; have hfz10_5 := blk_frozen BK481.out 5) | ((with_reducible refine gate_callee (f := 64) rfl ?_); refine goesL_ (some 16) rfl rfl Try.func64 (by kernel_rfl) rfl #[.agg #[.slice A0_0 l0_0.length c0_0, .int .i16 a0_1, .int .i16 a0_2, .int .i16 a0_3, .int .i16 a0_4, .bool a0_5], .slice A1 l1.length c1] rfl arg_ ?_; (with_reducible refine (impl_Puzzle_broken.calls k _ _ l0_0 a0_1 a0_2 a0_3 a0_4 a0_5 _ _ l1 t483 _ ?side1 ?side2 ?side3 ?side4 A5.out).mono ?_); (case side1 => repeat (first | exact (Kd.C_below HR0_0.out HB.out) | (with_reducible refine Kd.C_alloc ?_ _) | (with_reducible refine Kd.C_drewN ?_ _) | (with_reducible refine Kd.C_drew ?_))); (case side2 => exact HC0_0.out); (case side3 => repeat (first | exact (Kd.C_below HR1.out HB.out) | (with_reducible refine Kd.C_alloc ?_ _) | (with_reducible refine Kd.C_drewN ?_ _) | (with_reducible refine Kd.C_drew ?_))); (case side4 => exact HC1.out); rintro e w11 ⟨rfl, hb⟩; refine ⟨_, rfl, ?_⟩; have n0_ := A_ (blk_below (pl_ BK481) hb); have n1_ := A_ (below_step (bl_ HB) hb); clear BK481; clear HB; have BK481 := n0_; have HB := n1_; clear n0_ n1_; (try clear hb); (try clear hb2); (try clear hk); (try clear hi)))
   go_ret2
   exact ⟨by first | rfl | (simp [errW_none, errW_some] <;> rfl) | (simp [*, errW_none, errW_some] <;> rfl), bl_ HB⟩
  ·rw [if_neg c6] at H
   have c6b0 : decide (t483 < 0) = false := decide_eq_false c6
   clear c6
   simp only [Option.some.injEq, Prod.mk.injEq] at H
   obtain ⟨rfl, rfl⟩ := H
   go_enter Try.func55, Try.ntmps55
   go_wp2_with (first | ((with_reducible refine gate_dst (N := 2) rfl ?_); refine box_event ?hg (N := 2) ?hd (cs := #[.slice A0_0 l0_0.length c0_0, .int .i16 a0_1, .int .i16 a0_2, .int .i16 a0_3, .int .i16 a0_4, .bool a0_5]) (t := 32) ?hr ?_; (case hd => rfl); (case hg => rfl); (case hr => first | (go_simp; done) | (go_simp; rfl)); intro gb481 hg w12 hbox hb; have n0_ := A_ (below_step (bl_ HB) hb); have n1_ := A_ (hbox); have n2_ := A_ ((by rw [hg]; exact (below_size (bl_ HB)) : w.heap.size ≤ gb481)); have n3_ := n2_; clear HB; have HB := n0_; have BK481 := n1_; have GW481 := n2_; have GE481 := n3_; clear n0_ n1_ n2_ n3_; clear hb hbox hg; have hcz13_0 : w12.cell? ⟨gb481, 0, none⟩ = some (.slice A0_0 l0_0.length c0_0) := (blk_cell BK481.out 0).trans rfl; have hcz13_1 : w12.cell? ⟨gb481, 1, none⟩ = some (.int .i16 a0_1) := (blk_cell BK481.out 1).trans rfl; have hcz13_2 : w12.cell? ⟨gb481, 2, none⟩ = some (.int .i16 a0_2) := (blk_cell BK481.out 2).trans rfl; have hcz13_3 : w12.cell? ⟨gb481, 3, none⟩ = some (.int .i16 a0_3) := (blk_cell BK481.out 3).trans rfl; have hcz13_4 : w12.cell? ⟨gb481, 4, none⟩ = some (.int .i16 a0_4) := (blk_cell BK481.out 4).trans rfl; have hcz13_5 : w12.cell? ⟨gb481, 5, none⟩ = some (.bool a0_5) := (blk_cell BK481.out 5).trans rfl; have hfz13_0 := blk_frozen BK481.out 0; have hfz13_1 := blk_frozen BK481.out 1; have hfz13_2 := blk_frozen BK481.out 2; have hfz13_3 := blk_frozen BK481.out 3; have hfz13_4 := blk_frozen BK481.out 4; have hfz13_5 := blk_frozen BK481.out 5) | ((with_reducible refine gate_callee (f := 62) rfl ?_); refine goesL_ (some 10) rfl rfl Try.func62 (by kernel_rfl) rfl #[.agg #[.slice A0_0 l0_0.length c0_0, .int .i16 a0_1, .int .i16 a0_2, .int .i16 a0_3, .int .i16 a0_4, .bool a0_5], .slice A1 l1.length c1] rfl arg_ ?_; (with_reducible refine (impl_tableCode.calls k _ _ l0_0 a0_1 a0_2 a0_3 a0_4 a0_5 _ _ l1 t482 _ ?side1 ?side2 ?side3 ?side4 A3.out).mono ?_); (case side1 => repeat (first | exact (Kd.C_below HR0_0.out HB.out) | (with_reducible refine Kd.C_alloc ?_ _) | (with_reducible refine Kd.C_drewN ?_ _) | (with_reducible refine Kd.C_drew ?_))); (case side2 => exact HC0_0.out); (case side3 => repeat (first | exact (Kd.C_below HR1.out HB.out) | (with_reducible refine Kd.C_alloc ?_ _) | (with_reducible refine Kd.C_drewN ?_ _) | (with_reducible refine Kd.C_drew ?_))); (case side4 => exact HC1.out); rintro e w14 ⟨rfl, hb⟩; refine ⟨_, rfl, ?_⟩; have n0_ := A_ (blk_below (pl_ BK481) hb); have n1_ := A_ (below_step (bl_ HB) hb); clear BK481; clear HB; have BK481 := n0_; have HB := n1_; clear n0_ n1_; (try clear hb); (try clear hb2); (try clear hk); (try clear hi); have hcz15_0 : w14.cell? ⟨gb481, 0, none⟩ = some (.slice A0_0 l0_0.length c0_0) := (blk_cell BK481.out 0).trans rfl; have hcz15_1 : w14.cell? ⟨gb481, 1, none⟩ = some (.int .i16 a0_1) := (blk_cell BK481.out 1).trans rfl; have hcz15_2 : w14.cell? ⟨gb481, 2, none⟩ = some (.int .i16 a0_2) := (blk_cell BK481.out 2).trans rfl; have hcz15_3 : w14.cell? ⟨gb481, 3, none⟩ = some (.int .i16 a0_3) := (blk_cell BK481.out 3).trans rfl; have hcz15_4 : w14.cell? ⟨gb481, 4, none⟩ = some (.int .i16 a0_4) := (blk_cell BK481.out 4).trans rfl; have hcz15_5 : w14.cell? ⟨gb481, 5, none⟩ = some (.bool a0_5) := (blk_cell BK481.out 5).trans rfl; have hfz15_0 := blk_frozen BK481.out 0; have hfz15_1 := blk_frozen BK481.out 1; have hfz15_2 := blk_frozen BK481.out 2; have hfz15_3 := blk_frozen BK481.out 3; have hfz15_4 := blk_frozen BK481.out 4; have hfz15_5 := blk_frozen BK481.out 5) | ((with_reducible refine gate_callee (f := 64) rfl ?_); refine goesL_ (some 16) rfl rfl Try.func64 (by kernel_rfl) rfl #[.agg #[.slice A0_0 l0_0.length c0_0, .int .i16 a0_1, .int .i16 a0_2, .int .i16 a0_3, .int .i16 a0_4, .bool a0_5], .slice A1 l1.length c1] rfl arg_ ?_; (with_reducible refine (impl_Puzzle_broken.calls k _ _ l0_0 a0_1 a0_2 a0_3 a0_4 a0_5 _ _ l1 t483 _ ?side1 ?side2 ?side3 ?side4 A5.out).mono ?_); (case side1 => repeat (first | exact (Kd.C_below HR0_0.out HB.out) | (with_reducible refine Kd.C_alloc ?_ _) | (with_reducible refine Kd.C_drewN ?_ _) | (with_reducible refine Kd.C_drew ?_))); (case side2 => exact HC0_0.out); (case side3 => repeat (first | exact (Kd.C_below HR1.out HB.out) | (with_reducible refine Kd.C_alloc ?_ _) | (with_reducible refine Kd.C_drewN ?_ _) | (with_reducible refine Kd.C_drew ?_))); (case side4 => exact HC1.out); rintro e w16 ⟨rfl, hb⟩; refine ⟨_, rfl, ?_⟩; have n0_ := A_ (blk_below (pl_ BK481) hb); have n1_ := A_ (below_step (bl_ HB) hb); clear BK481; clear HB; have BK481 := n0_; have HB := n1_; clear n0_ n1_; (try clear hb); (try clear hb2); (try clear hk); (try clear hi)))
   go_ret2
   exact ⟨by first | rfl | (simp [errW_none, errW_some] <;> rfl) | (simp [*, errW_none, errW_some] <;> rfl), bl_ HB⟩
 ·rw [if_neg c4] at H
  have c4b0 : (t482 == 0) = false := beq_eq_false_iff_ne.mpr c4
  have c4b1 : (t482 != 0) = true := bne_iff_ne.mpr c4
  simp only [Option.some.injEq, Prod.mk.injEq] at H
  obtain ⟨rfl, rfl⟩ := H
  go_enter Try.func55, Try.ntmps55
  go_wp2_with (first | ((with_reducible refine gate_dst (N := 2) rfl ?_); refine box_event ?hg (N := 2) ?hd (cs := #[.slice A0_0 l0_0.length c0_0, .int .i16 a0_1, .int .i16 a0_2, .int .i16 a0_3, .int .i16 a0_4, .bool a0_5]) (t := 32) ?hr ?_; (case hd => rfl); (case hg => rfl); (case hr => first | (go_simp; done) | (go_simp; rfl)); intro gb481 hg w17 hbox hb; have n0_ := A_ (below_step (bl_ HB) hb); have n1_ := A_ (hbox); have n2_ := A_ ((by rw [hg]; exact (below_size (bl_ HB)) : w.heap.size ≤ gb481)); have n3_ := n2_; clear HB; have HB := n0_; have BK481 := n1_; have GW481 := n2_; have GE481 := n3_; clear n0_ n1_ n2_ n3_; clear hb hbox hg; have hcz18_0 : w17.cell? ⟨gb481, 0, none⟩ = some (.slice A0_0 l0_0.length c0_0) := (blk_cell BK481.out 0).trans rfl; have hcz18_1 : w17.cell? ⟨gb481, 1, none⟩ = some (.int .i16 a0_1) := (blk_cell BK481.out 1).trans rfl; have hcz18_2 : w17.cell? ⟨gb481, 2, none⟩ = some (.int .i16 a0_2) := (blk_cell BK481.out 2).trans rfl; have hcz18_3 : w17.cell? ⟨gb481, 3, none⟩ = some (.int .i16 a0_3) := (blk_cell BK481.out 3).trans rfl; have hcz18_4 : w17.cell? ⟨gb481, 4, none⟩ = some (.int .i16 a0_4) := (blk_cell BK481.out 4).trans rfl; have hcz18_5 : w17.cell? ⟨gb481, 5, none⟩ = some (.bool a0_5) := (blk_cell BK481.out 5).trans rfl; have hfz18_0 := blk_frozen BK481.out 0; have hfz18_1 := blk_frozen BK481.out 1; have hfz18_2 := blk_frozen BK481.out 2; have hfz18_3 := blk_frozen BK481.out 3; have hfz18_4 := blk_frozen BK481.out 4; have hfz18_5 := blk_frozen BK481.out 5) | ((with_reducible refine gate_callee (f := 62) rfl ?_); refine goesL_ (some 10) rfl rfl Try.func62 (by kernel_rfl) rfl #[.agg #[.slice A0_0 l0_0.length c0_0, .int .i16 a0_1, .int .i16 a0_2, .int .i16 a0_3, .int .i16 a0_4, .bool a0_5], .slice A1 l1.length c1] rfl arg_ ?_; (with_reducible refine (impl_tableCode.calls k _ _ l0_0 a0_1 a0_2 a0_3 a0_4 a0_5 _ _ l1 t482 _ ?side1 ?side2 ?side3 ?side4 A3.out).mono ?_); (case side1 => repeat (first | exact (Kd.C_below HR0_0.out HB.out) | (with_reducible refine Kd.C_alloc ?_ _) | (with_reducible refine Kd.C_drewN ?_ _) | (with_reducible refine Kd.C_drew ?_))); (case side2 => exact HC0_0.out); (case side3 => repeat (first | exact (Kd.C_below HR1.out HB.out) | (with_reducible refine Kd.C_alloc ?_ _) | (with_reducible refine Kd.C_drewN ?_ _) | (with_reducible refine Kd.C_drew ?_))); (case side4 => exact HC1.out); rintro e w19 ⟨rfl, hb⟩; refine ⟨_, rfl, ?_⟩; have n0_ := A_ (blk_below (pl_ BK481) hb); have n1_ := A_ (below_step (bl_ HB) hb); clear BK481; clear HB; have BK481 := n0_; have HB := n1_; clear n0_ n1_; (try clear hb); (try clear hb2); (try clear hk); (try clear hi)))
  go_ret2
  exact ⟨by first | rfl | (simp [errW_none, errW_some] <;> rfl) | (simp [*, errW_none, errW_some] <;> rfl), bl_ HB⟩

end Go.Proofs.Ytodmfjophjhbeaa.M
