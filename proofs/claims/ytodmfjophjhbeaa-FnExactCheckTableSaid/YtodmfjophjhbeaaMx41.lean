-- By this seat's own program over the kit's printer (arrays, functions told by hand); nothing of it is trusted: the kernel checks it.
import Derived.Test.YtodmfjophjhbeaaMx0
import Derived.Test.YtodmfjophjhbeaaMx18
import Derived.Test.YtodmfjophjhbeaaMx19
import Derived.Test.YtodmfjophjhbeaaMx20
import Derived.Test.YtodmfjophjhbeaaMx21
namespace Go.Proofs.Ytodmfjophjhbeaa.M
open Go.RowKit Go.Proofs.YtodmfjophjhbeaaW.PrintWords Go.Proofs.YtodmfjophjhbeaaW.PrintLast Go.Proofs.YtodmfjophjhbeaaW.PrintMore
attribute [local go_sem] max2_int min2_int max_two min_two max_three min_three max_four min_four   -- for this text's walks alone
set_option linter.unusedVariables false
set_option linter.unusedSimpArgs false

/-! ### spec_CheckTable: function 52 -/
def spec_CheckTable.f (k : Nat) (l0_0 : List Int) (a0_1 : Int) (a0_2 : Int) (a0_3 : Int) (a0_4 : Int) (a0_5 : Bool) (l1 : List Int) : Option (Bool × Int) := (spec_l02Tabled.f k l0_0 a0_1 a0_2 a0_3 a0_4 a0_5 l1).bind fun t401 => (if t401 = 0 then ((spec_l02Broken.f k l0_0 a0_1 a0_2 a0_3 a0_4 a0_5 l1).bind fun t402 => (some (decide (t402 < 0), 0))) else (some (false, t401)))
theorem spec_CheckTable.mono : ∀ a0 a1 a2 a3 a4 a5 a6 k, LeO (spec_CheckTable.f k a0 a1 a2 a3 a4 a5 a6) (spec_CheckTable.f (k + 1) a0 a1 a2 a3 a4 a5 a6) := by
 intro a0 a1 a2 a3 a4 a5 a6 k
 unfold spec_CheckTable.f
 repeat' first
   | (with_reducible exact spec_l02Broken.mono _ _ _ _ _ _ _ _)
   | (with_reducible exact spec_l02Tabled.mono _ _ _ _ _ _ _ _)
   | (with_reducible exact LeO.refl _)
   | (with_reducible exact LeO.none _)
   | (with_reducible refine LeO.ite ?_ ?_)
   | (with_reducible refine LeO.bind ?_ (fun _ => ?_))
   | exact spec_l02Broken.mono _ _ _ _ _ _ _ _
   | exact spec_l02Tabled.mono _ _ _ _ _ _ _ _
   | exact LeO.none _
   | refine LeO.ite ?_ ?_
   | refine LeO.bind ?_ (fun _ => ?_)
set_option maxHeartbeats 8000000 in
set_option maxRecDepth 100000 in
theorem spec_CheckTable.calls (k : Nat) (A0_0 : Option Addr) (c0_0 : Nat) (l0_0 : List Int) (a0_1 : Int) (a0_2 : Int) (a0_3 : Int) (a0_4 : Int) (a0_5 : Bool) (A1 : Option Addr) (c1 : Nat) (l1 : List Int) (r1 : Bool) (r2 : Int) (w : World) (hr0_0 : Kd.C (Kd.int .i16) w A0_0 l0_0.length l0_0) (hc0_0 : l0_0.length ≤ c0_0) (hr1 : Kd.C (Kd.int .i16) w A1 l1.length l1) (hc1 : l1.length ≤ c1) (h : spec_CheckTable.f k l0_0 a0_1 a0_2 a0_3 a0_4 a0_5 l1 = some (r1, r2)) :
  Calls Try.prog 52 #[.agg #[.slice A0_0 l0_0.length c0_0, .int .i16 a0_1, .int .i16 a0_2, .int .i16 a0_3, .int .i16 a0_4, .bool a0_5], .slice A1 l1.length c1] w fun e w' => e = .returned (.tuple #[.bool r1, .int .i64 r2]) ∧ Below w.heap.size w w' := by
 have hu32 := Try.underlying32
 have HR0_0 := Aside0.mk hr0_0
 have HC0_0 := Aside0.mk hc0_0
 clear hr0_0 hc0_0
 have HR1 := Aside0.mk hr1
 have HC1 := Aside0.mk hc1
 clear hr1 hc1
 have HB := A_ (Below.refl w.heap.size w)
 have H : ((spec_l02Tabled.f k l0_0 a0_1 a0_2 a0_3 a0_4 a0_5 l1).bind fun t401 => (if t401 = 0 then ((spec_l02Broken.f k l0_0 a0_1 a0_2 a0_3 a0_4 a0_5 l1).bind fun t402 => (some (decide (t402 < 0), 0))) else (some (false, t401)))) = some (r1, r2) := h
 clear h
 replace H := Option.bind_eq_some_iff.mp H
 obtain ⟨t401, A30, H⟩ := H
 replace H : (if t401 = 0 then ((spec_l02Broken.f k l0_0 a0_1 a0_2 a0_3 a0_4 a0_5 l1).bind fun t402 => (some (decide (t402 < 0), 0))) else (some (false, t401))) = some (r1, r2) := H
 have A3 := Aside0.mk A30
 clear A30
 by_cases c4 : t401 = 0
 ·rw [if_pos c4] at H
  have c4b0 : (t401 == 0) = true := beq_iff_eq.mpr c4
  have c4b1 : (t401 != 0) = false := bne_eq_false_iff_eq.mpr c4
  clear c4
  replace H := Option.bind_eq_some_iff.mp H
  obtain ⟨t402, A50, H⟩ := H
  replace H : (some (decide (t402 < 0), 0)) = some (r1, r2) := H
  have A5 := Aside0.mk A50
  clear A50
  simp only [Option.some.injEq, Prod.mk.injEq] at H
  obtain ⟨rfl, rfl⟩ := H
  go_enter Try.func52, Try.ntmps52
  go_wp2_with (first | ((with_reducible refine gate_dst (N := 2) rfl ?_); refine box_event ?hg (N := 2) ?hd (cs := #[.slice A0_0 l0_0.length c0_0, .int .i16 a0_1, .int .i16 a0_2, .int .i16 a0_3, .int .i16 a0_4, .bool a0_5]) (t := 32) ?hr ?_; (case hd => rfl); (case hg => rfl); (case hr => first | (go_simp; done) | (go_simp; rfl)); intro gb400 hg w6 hbox hb; have n0_ := A_ (below_step (bl_ HB) hb); have n1_ := A_ (hbox); have n2_ := A_ ((by rw [hg]; exact (below_size (bl_ HB)) : w.heap.size ≤ gb400)); have n3_ := n2_; clear HB; have HB := n0_; have BK400 := n1_; have GW400 := n2_; have GE400 := n3_; clear n0_ n1_ n2_ n3_; clear hb hbox hg) | ((with_reducible refine gate_callee (f := 57) rfl ?_); refine goesL_ (some 8) rfl rfl Try.func57 (by kernel_rfl) rfl #[.pointer (some ⟨gb400, 0, none⟩), .slice A1 l1.length c1] rfl arg_ ?_; (with_reducible refine (spec_l02Tabled.calls k gb400 A0_0 c0_0 l0_0 a0_1 a0_2 a0_3 a0_4 a0_5 _ _ l1 t401 _ ?side1 ?side2 ?side3 ?side4 ?side5 A3.out).mono ?_); (case side1 => exact (pl_ BK400)); (case side2 => repeat (first | exact (Kd.C_below HR0_0.out HB.out) | (with_reducible refine Kd.C_alloc ?_ _) | (with_reducible refine Kd.C_drewN ?_ _) | (with_reducible refine Kd.C_drew ?_))); (case side3 => exact HC0_0.out); (case side4 => repeat (first | exact (Kd.C_below HR1.out HB.out) | (with_reducible refine Kd.C_alloc ?_ _) | (with_reducible refine Kd.C_drewN ?_ _) | (with_reducible refine Kd.C_drew ?_))); (case side5 => exact HC1.out); rintro e w7 ⟨rfl, hb⟩; refine ⟨_, rfl, ?_⟩; have n0_ := A_ (blk_below (pl_ BK400) hb); have n1_ := A_ (below_step (bl_ HB) hb); clear BK400; clear HB; have BK400 := n0_; have HB := n1_; clear n0_ n1_; (try clear hb); (try clear hb2); (try clear hk); (try clear hi)) | ((with_reducible refine gate_callee (f := 59) rfl ?_); refine goesL_ (some 13) rfl rfl Try.func59 (by kernel_rfl) rfl #[.pointer (some ⟨gb400, 0, none⟩), .slice A1 l1.length c1] rfl arg_ ?_; (with_reducible refine (spec_l02Broken.calls k gb400 A0_0 c0_0 l0_0 a0_1 a0_2 a0_3 a0_4 a0_5 _ _ l1 t402 _ ?side1 ?side2 ?side3 ?side4 ?side5 A5.out).mono ?_); (case side1 => exact (pl_ BK400)); (case side2 => repeat (first | exact (Kd.C_below HR0_0.out HB.out) | (with_reducible refine Kd.C_alloc ?_ _) | (with_reducible refine Kd.C_drewN ?_ _) | (with_reducible refine Kd.C_drew ?_))); (case side3 => exact HC0_0.out); (case side4 => repeat (first | exact (Kd.C_below HR1.out HB.out) | (with_reducible refine Kd.C_alloc ?_ _) | (with_reducible refine Kd.C_drewN ?_ _) | (with_reducible refine Kd.C_drew ?_))); (case side5 => exact HC1.out); rintro e w8 ⟨rfl, hb⟩; refine ⟨_, rfl, ?_⟩; have n0_ := A_ (blk_below (pl_ BK400) hb); have n1_ := A_ (below_step (bl_ HB) hb); clear BK400; clear HB; have BK400 := n0_; have HB := n1_; clear n0_ n1_; (try clear hb); (try clear hb2); (try clear hk); (try clear hi)))
  go_ret2
  exact ⟨by first | rfl | (simp [errW_none, errW_some] <;> rfl) | (simp [*, errW_none, errW_some] <;> rfl), bl_ HB⟩
 ·rw [if_neg c4] at H
  have c4b0 : (t401 == 0) = false := beq_eq_false_iff_ne.mpr c4
  have c4b1 : (t401 != 0) = true := bne_iff_ne.mpr c4
  simp only [Option.some.injEq, Prod.mk.injEq] at H
  obtain ⟨rfl, rfl⟩ := H
  go_enter Try.func52, Try.ntmps52
  go_wp2_with (first | ((with_reducible refine gate_dst (N := 2) rfl ?_); refine box_event ?hg (N := 2) ?hd (cs := #[.slice A0_0 l0_0.length c0_0, .int .i16 a0_1, .int .i16 a0_2, .int .i16 a0_3, .int .i16 a0_4, .bool a0_5]) (t := 32) ?hr ?_; (case hd => rfl); (case hg => rfl); (case hr => first | (go_simp; done) | (go_simp; rfl)); intro gb400 hg w9 hbox hb; have n0_ := A_ (below_step (bl_ HB) hb); have n1_ := A_ (hbox); have n2_ := A_ ((by rw [hg]; exact (below_size (bl_ HB)) : w.heap.size ≤ gb400)); have n3_ := n2_; clear HB; have HB := n0_; have BK400 := n1_; have GW400 := n2_; have GE400 := n3_; clear n0_ n1_ n2_ n3_; clear hb hbox hg) | ((with_reducible refine gate_callee (f := 57) rfl ?_); refine goesL_ (some 8) rfl rfl Try.func57 (by kernel_rfl) rfl #[.pointer (some ⟨gb400, 0, none⟩), .slice A1 l1.length c1] rfl arg_ ?_; (with_reducible refine (spec_l02Tabled.calls k gb400 A0_0 c0_0 l0_0 a0_1 a0_2 a0_3 a0_4 a0_5 _ _ l1 t401 _ ?side1 ?side2 ?side3 ?side4 ?side5 A3.out).mono ?_); (case side1 => exact (pl_ BK400)); (case side2 => repeat (first | exact (Kd.C_below HR0_0.out HB.out) | (with_reducible refine Kd.C_alloc ?_ _) | (with_reducible refine Kd.C_drewN ?_ _) | (with_reducible refine Kd.C_drew ?_))); (case side3 => exact HC0_0.out); (case side4 => repeat (first | exact (Kd.C_below HR1.out HB.out) | (with_reducible refine Kd.C_alloc ?_ _) | (with_reducible refine Kd.C_drewN ?_ _) | (with_reducible refine Kd.C_drew ?_))); (case side5 => exact HC1.out); rintro e w10 ⟨rfl, hb⟩; refine ⟨_, rfl, ?_⟩; have n0_ := A_ (blk_below (pl_ BK400) hb); have n1_ := A_ (below_step (bl_ HB) hb); clear BK400; clear HB; have BK400 := n0_; have HB := n1_; clear n0_ n1_; (try clear hb); (try clear hb2); (try clear hk); (try clear hi)))
  go_ret2
  exact ⟨by first | rfl | (simp [errW_none, errW_some] <;> rfl) | (simp [*, errW_none, errW_some] <;> rfl), bl_ HB⟩

/-! ### impl_CheckTable: function 53 -/
def impl_CheckTable.f (k : Nat) (l0_0 : List Int) (a0_1 : Int) (a0_2 : Int) (a0_3 : Int) (a0_4 : Int) (a0_5 : Bool) (l1 : List Int) : Option (Bool × Int) := (impl_tableCode.f k l0_0 a0_1 a0_2 a0_3 a0_4 a0_5 l1).bind fun t434 => (if t434 = 0 then ((impl_Puzzle_broken.f k l0_0 a0_1 a0_2 a0_3 a0_4 a0_5 l1).bind fun t435 => (some (decide (t435 < 0), 0))) else (some (false, t434)))
theorem impl_CheckTable.mono : ∀ a0 a1 a2 a3 a4 a5 a6 k, LeO (impl_CheckTable.f k a0 a1 a2 a3 a4 a5 a6) (impl_CheckTable.f (k + 1) a0 a1 a2 a3 a4 a5 a6) := by
 intro a0 a1 a2 a3 a4 a5 a6 k
 unfold impl_CheckTable.f
 repeat' first
   | (with_reducible exact impl_Puzzle_broken.mono _ _ _ _ _ _ _ _)
   | (with_reducible exact impl_tableCode.mono _ _ _ _ _ _ _ _)
   | (with_reducible exact LeO.refl _)
   | (with_reducible exact LeO.none _)
   | (with_reducible refine LeO.ite ?_ ?_)
   | (with_reducible refine LeO.bind ?_ (fun _ => ?_))
   | exact impl_Puzzle_broken.mono _ _ _ _ _ _ _ _
   | exact impl_tableCode.mono _ _ _ _ _ _ _ _
   | exact LeO.none _
   | refine LeO.ite ?_ ?_
   | refine LeO.bind ?_ (fun _ => ?_)
set_option maxHeartbeats 8000000 in
set_option maxRecDepth 100000 in
theorem impl_CheckTable.calls (k : Nat) (A0_0 : Option Addr) (c0_0 : Nat) (l0_0 : List Int) (a0_1 : Int) (a0_2 : Int) (a0_3 : Int) (a0_4 : Int) (a0_5 : Bool) (A1 : Option Addr) (c1 : Nat) (l1 : List Int) (r1 : Bool) (r2 : Int) (w : World) (hr0_0 : Kd.C (Kd.int .i16) w A0_0 l0_0.length l0_0) (hc0_0 : l0_0.length ≤ c0_0) (hr1 : Kd.C (Kd.int .i16) w A1 l1.length l1) (hc1 : l1.length ≤ c1) (h : impl_CheckTable.f k l0_0 a0_1 a0_2 a0_3 a0_4 a0_5 l1 = some (r1, r2)) :
  Calls Try.prog 53 #[.agg #[.slice A0_0 l0_0.length c0_0, .int .i16 a0_1, .int .i16 a0_2, .int .i16 a0_3, .int .i16 a0_4, .bool a0_5], .slice A1 l1.length c1] w fun e w' => e = .returned (.tuple #[.bool r1, .int .i64 r2]) ∧ Below w.heap.size w w' := by
 have hu32 := Try.underlying32
 have HR0_0 := Aside0.mk hr0_0
 have HC0_0 := Aside0.mk hc0_0
 clear hr0_0 hc0_0
 have HR1 := Aside0.mk hr1
 have HC1 := Aside0.mk hc1
 clear hr1 hc1
 have HB := A_ (Below.refl w.heap.size w)
 have H : ((impl_tableCode.f k l0_0 a0_1 a0_2 a0_3 a0_4 a0_5 l1).bind fun t434 => (if t434 = 0 then ((impl_Puzzle_broken.f k l0_0 a0_1 a0_2 a0_3 a0_4 a0_5 l1).bind fun t435 => (some (decide (t435 < 0), 0))) else (some (false, t434)))) = some (r1, r2) := h
 clear h
 replace H := Option.bind_eq_some_iff.mp H
 obtain ⟨t434, A30, H⟩ := H
 replace H : (if t434 = 0 then ((impl_Puzzle_broken.f k l0_0 a0_1 a0_2 a0_3 a0_4 a0_5 l1).bind fun t435 => (some (decide (t435 < 0), 0))) else (some (false, t434))) = some (r1, r2) := H
 have A3 := Aside0.mk A30
 clear A30
 by_cases c4 : t434 = 0
 ·rw [if_pos c4] at H
  have c4b0 : (t434 == 0) = true := beq_iff_eq.mpr c4
  have c4b1 : (t434 != 0) = false := bne_eq_false_iff_eq.mpr c4
  clear c4
  replace H := Option.bind_eq_some_iff.mp H
  obtain ⟨t435, A50, H⟩ := H
  replace H : (some (decide (t435 < 0), 0)) = some (r1, r2) := H
  have A5 := Aside0.mk A50
  clear A50
  simp only [Option.some.injEq, Prod.mk.injEq] at H
  obtain ⟨rfl, rfl⟩ := H
  go_enter Try.func53, Try.ntmps53
  go_wp2_with (first | ((with_reducible refine gate_dst (N := 2) rfl ?_); refine box_event ?hg (N := 2) ?hd (cs := #[.slice A0_0 l0_0.length c0_0, .int .i16 a0_1, .int .i16 a0_2, .int .i16 a0_3, .int .i16 a0_4, .bool a0_5]) (t := 32) ?hr ?_; (case hd => rfl); (case hg => rfl); (case hr => first | (go_simp; done) | (go_simp; rfl)); intro gb433 hg w6 hbox hb; have n0_ := A_ (below_step (bl_ HB) hb); have n1_ := A_ (hbox); have n2_ := A_ ((by rw [hg]; exact (below_size (bl_ HB)) : w.heap.size ≤ gb433)); have n3_ := n2_; clear HB; have HB := n0_; have BK433 := n1_; have GW433 := n2_; have GE433 := n3_; clear n0_ n1_ n2_ n3_; clear hb hbox hg; have hcz7_0 : w6.cell? ⟨gb433, 0, none⟩ = some (.slice A0_0 l0_0.length c0_0) := (blk_cell BK433.out 0).trans rfl; have hcz7_1 : w6.cell? ⟨gb433, 1, none⟩ = some (.int .i16 a0_1) := (blk_cell BK433.out 1).trans rfl; have hcz7_2 : w6.cell? ⟨gb433, 2, none⟩ = some (.int .i16 a0_2) := (blk_cell BK433.out 2).trans rfl; have hcz7_3 : w6.cell? ⟨gb433, 3, none⟩ = some (.int .i16 a0_3) := (blk_cell BK433.out 3).trans rfl; have hcz7_4 : w6.cell? ⟨gb433, 4, none⟩ = some (.int .i16 a0_4) := (blk_cell BK433.out 4).trans rfl; have hcz7_5 : w6.cell? ⟨gb433, 5, none⟩ = some (.bool a0_5) := (blk_cell BK433.out 5).trans rfl; have hfz7_0 := blk_frozen BK433.out 0; have hfz7_1 := blk_frozen BK433.out 1; have hfz7_2 := blk_frozen BK433.out 2; have hfz7_3 := blk_frozen BK433.out 3; have hfz7_4 := blk_frozen BK433.out 4; have hfz7_5 := blk_frozen BK433.out 5) | ((with_reducible refine gate_callee (f := 62) rfl ?_); refine goesL_ (some 9) rfl rfl Try.func62 (by kernel_rfl) rfl #[.agg #[.slice A0_0 l0_0.length c0_0, .int .i16 a0_1, .int .i16 a0_2, .int .i16 a0_3, .int .i16 a0_4, .bool a0_5], .slice A1 l1.length c1] rfl arg_ ?_; (with_reducible refine (impl_tableCode.calls k _ _ l0_0 a0_1 a0_2 a0_3 a0_4 a0_5 _ _ l1 t434 _ ?side1 ?side2 ?side3 ?side4 A3.out).mono ?_); (case side1 => repeat (first | exact (Kd.C_below HR0_0.out HB.out) | (with_reducible refine Kd.C_alloc ?_ _) | (with_reducible refine Kd.C_drewN ?_ _) | (with_reducible refine Kd.C_drew ?_))); (case side2 => exact HC0_0.out); (case side3 => repeat (first | exact (Kd.C_below HR1.out HB.out) | (with_reducible refine Kd.C_alloc ?_ _) | (with_reducible refine Kd.C_drewN ?_ _) | (with_reducible refine Kd.C_drew ?_))); (case side4 => exact HC1.out); rintro e w8 ⟨rfl, hb⟩; refine ⟨_, rfl, ?_⟩; have n0_ := A_ (blk_below (pl_ BK433) hb); have n1_ := A_ (below_step (bl_ HB) hb); clear BK433; clear HB; have BK433 := n0_; have HB := n1_; clear n0_ n1_; (try clear hb); (try clear hb2); (try clear hk); (try clear hi); have hcz9_0 : w8.cell? ⟨gb433, 0, none⟩ = some (.slice A0_0 l0_0.length c0_0) := (blk_cell BK433.out 0).trans rfl; have hcz9_1 : w8.cell? ⟨gb433, 1, none⟩ = some (.int .i16 a0_1) := (blk_cell BK433.out 1).trans rfl; have hcz9_2 : w8.cell? ⟨gb433, 2, none⟩ = some (.int .i16 a0_2) := (blk_cell BK433.out 2).trans rfl; have hcz9_3 : w8.cell? ⟨gb433, 3, none⟩ = some (.int .i16 a0_3) := (blk_cell BK433.out 3).trans rfl; have hcz9_4 : w8.cell? ⟨gb433, 4, none⟩ = some (.int .i16 a0_4) := (blk_cell BK433.out 4).trans rfl; have hcz9_5 : w8.cell? ⟨gb433, 5, none⟩ = some (.bool a0_5) := (blk_cell BK433.out 5).trans rfl; have hfz9_0 := blk_frozen BK433.out 0; have hfz9_1 := blk_frozen BK433.out 1; have hfz9_2 := blk_frozen BK433.out 2; have hfz9_3 := blk_frozen BK433.out 3; have hfz9_4 := blk_frozen BK433.out 4; have hfz9_5 := blk_frozen BK433.out 5) | ((with_reducible refine gate_callee (f := 64) rfl ?_); refine goesL_ (some 15) rfl rfl Try.func64 (by kernel_rfl) rfl #[.agg #[.slice A0_0 l0_0.length c0_0, .int .i16 a0_1, .int .i16 a0_2, .int .i16 a0_3, .int .i16 a0_4, .bool a0_5], .slice A1 l1.length c1] rfl arg_ ?_; (with_reducible refine (impl_Puzzle_broken.calls k _ _ l0_0 a0_1 a0_2 a0_3 a0_4 a0_5 _ _ l1 t435 _ ?side1 ?side2 ?side3 ?side4 A5.out).mono ?_); (case side1 => repeat (first | exact (Kd.C_below HR0_0.out HB.out) | (with_reducible refine Kd.C_alloc ?_ _) | (with_reducible refine Kd.C_drewN ?_ _) | (with_reducible refine Kd.C_drew ?_))); (case side2 => exact HC0_0.out); (case side3 => repeat (first | exact (Kd.C_below HR1.out HB.out) | (with_reducible refine Kd.C_alloc ?_ _) | (with_reducible refine Kd.C_drewN ?_ _) | (with_reducible refine Kd.C_drew ?_))); (case side4 => exact HC1.out); rintro e w10 ⟨rfl, hb⟩; refine ⟨_, rfl, ?_⟩; have n0_ := A_ (blk_below (pl_ BK433) hb); have n1_ := A_ (below_step (bl_ HB) hb); clear BK433; clear HB; have BK433 := n0_; have HB := n1_; clear n0_ n1_; (try clear hb); (try clear hb2); (try clear hk); (try clear hi)))
  go_ret2
  exact ⟨by first | rfl | (simp [errW_none, errW_some] <;> rfl) | (simp [*, errW_none, errW_some] <;> rfl), bl_ HB⟩
 ·rw [if_neg c4] at H
  have c4b0 : (t434 == 0) = false := beq_eq_false_iff_ne.mpr c4
  have c4b1 : (t434 != 0) = true := bne_iff_ne.mpr c4
  simp only [Option.some.injEq, Prod.mk.injEq] at H
  obtain ⟨rfl, rfl⟩ := H
  go_enter Try.func53, Try.ntmps53
  go_wp2_with (first | ((with_reducible refine gate_dst (N := 2) rfl ?_); refine box_event ?hg (N := 2) ?hd (cs := #[.slice A0_0 l0_0.length c0_0, .int .i16 a0_1, .int .i16 a0_2, .int .i16 a0_3, .int .i16 a0_4, .bool a0_5]) (t := 32) ?hr ?_; (case hd => rfl); (case hg => rfl); (case hr => first | (go_simp; done) | (go_simp; rfl)); intro gb433 hg w11 hbox hb; have n0_ := A_ (below_step (bl_ HB) hb); have n1_ := A_ (hbox); have n2_ := A_ ((by rw [hg]; exact (below_size (bl_ HB)) : w.heap.size ≤ gb433)); have n3_ := n2_; clear HB; have HB := n0_; have BK433 := n1_; have GW433 := n2_; have GE433 := n3_; clear n0_ n1_ n2_ n3_; clear hb hbox hg; have hcz12_0 : w11.cell? ⟨gb433, 0, none⟩ = some (.slice A0_0 l0_0.length c0_0) := (blk_cell BK433.out 0).trans rfl; have hcz12_1 : w11.cell? ⟨gb433, 1, none⟩ = some (.int .i16 a0_1) := (blk_cell BK433.out 1).trans rfl; have hcz12_2 : w11.cell? ⟨gb433, 2, none⟩ = some (.int .i16 a0_2) := (blk_cell BK433.out 2).trans rfl; have hcz12_3 : w11.cell? ⟨gb433, 3, none⟩ = some (.int .i16 a0_3) := (blk_cell BK433.out 3).trans rfl; have hcz12_4 : w11.cell? ⟨gb433, 4, none⟩ = some (.int .i16 a0_4) := (blk_cell BK433.out 4).trans rfl; have hcz12_5 : w11.cell? ⟨gb433, 5, none⟩ = some (.bool a0_5) := (blk_cell BK433.out 5).trans rfl; have hfz12_0 := blk_frozen BK433.out 0; have hfz12_1 := blk_frozen BK433.out 1; have hfz12_2 := blk_frozen BK433.out 2; have hfz12_3 := blk_frozen BK433.out 3; have hfz12_4 := blk_frozen BK433.out 4; have hfz12_5 := blk_frozen BK433.out 5) | ((with_reducible refine gate_callee (f := 62) rfl ?_); refine goesL_ (some 9) rfl rfl Try.func62 (by kernel_rfl) rfl #[.agg #[.slice A0_0 l0_0.length c0_0, .int .i16 a0_1, .int .i16 a0_2, .int .i16 a0_3, .int .i16 a0_4, .bool a0_5], .slice A1 l1.length c1] rfl arg_ ?_; (with_reducible refine (impl_tableCode.calls k _ _ l0_0 a0_1 a0_2 a0_3 a0_4 a0_5 _ _ l1 t434 _ ?side1 ?side2 ?side3 ?side4 A3.out).mono ?_); (case side1 => repeat (first | exact (Kd.C_below HR0_0.out HB.out) | (with_reducible refine Kd.C_alloc ?_ _) | (with_reducible refine Kd.C_drewN ?_ _) | (with_reducible refine Kd.C_drew ?_))); (case side2 => exact HC0_0.out); (case side3 => repeat (first | exact (Kd.C_below HR1.out HB.out) | (with_reducible refine Kd.C_alloc ?_ _) | (with_reducible refine Kd.C_drewN ?_ _) | (with_reducible refine Kd.C_drew ?_))); (case side4 => exact HC1.out); rintro e w13 ⟨rfl, hb⟩; refine ⟨_, rfl, ?_⟩; have n0_ := A_ (blk_below (pl_ BK433) hb); have n1_ := A_ (below_step (bl_ HB) hb); clear BK433; clear HB; have BK433 := n0_; have HB := n1_; clear n0_ n1_; (try clear hb); (try clear hb2); (try clear hk); (try clear hi)))
  go_ret2
  exact ⟨by first | rfl | (simp [errW_none, errW_some] <;> rfl) | (simp [*, errW_none, errW_some] <;> rfl), bl_ HB⟩

end Go.Proofs.Ytodmfjophjhbeaa.M
