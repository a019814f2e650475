-- By this seat's own program over the kit's printer (arrays, functions told by hand); nothing of it is trusted: the kernel checks it.
import Derived.Test.YtodmfjophjhbeaaMx0
import Derived.Test.YtodmfjophjhbeaaMx4
namespace Go.Proofs.Ytodmfjophjhbeaa.M
open Go.RowKit Go.Proofs.YtodmfjophjhbeaaW.PrintWords Go.Proofs.YtodmfjophjhbeaaW.PrintLast Go.Proofs.YtodmfjophjhbeaaW.PrintMore
attribute [local go_sem] max2_int min2_int max_two min_two max_three min_three max_four min_four   -- for this text's walks alone
set_option linter.unusedVariables false
set_option linter.unusedSimpArgs false

/-! ### laws_eqPuzzle: function 21 -/
def laws_eqPuzzle.f (k : Nat) (l0_0 : List Int) (a0_1 : Int) (a0_2 : Int) (a0_3 : Int) (a0_4 : Int) (a0_5 : Bool) (l1_0 : List Int) (a1_1 : Int) (a1_2 : Int) (a1_3 : Int) (a1_4 : Int) (a1_5 : Bool) : Option (Bool) := (laws_eqInt16S.f k l0_0 l1_0).bind fun t127 => (if t127 = true then ((laws_eqWater.f k a0_1 a0_2 a0_3 a0_4 a1_1 a1_2 a1_3 a1_4).bind fun t128 => (if t128 = true then (if (a0_5 != a1_5) = true then (some false) else (some true)) else (some false))) else (some false))
theorem laws_eqPuzzle.mono : ∀ a0 a1 a2 a3 a4 a5 a6 a7 a8 a9 a10 a11 k, LeO (laws_eqPuzzle.f k a0 a1 a2 a3 a4 a5 a6 a7 a8 a9 a10 a11) (laws_eqPuzzle.f (k + 1) a0 a1 a2 a3 a4 a5 a6 a7 a8 a9 a10 a11) := by
 intro a0 a1 a2 a3 a4 a5 a6 a7 a8 a9 a10 a11 k
 unfold laws_eqPuzzle.f
 repeat' first
   | (with_reducible exact laws_eqInt16S.mono _ _ _)
   | (with_reducible exact laws_eqWater.mono _ _ _ _ _ _ _ _ _)
   | (with_reducible exact LeO.refl _)
   | (with_reducible exact LeO.none _)
   | (with_reducible refine LeO.ite ?_ ?_)
   | (with_reducible refine LeO.bind ?_ (fun _ => ?_))
   | exact laws_eqInt16S.mono _ _ _
   | exact laws_eqWater.mono _ _ _ _ _ _ _ _ _
   | exact LeO.none _
   | refine LeO.ite ?_ ?_
   | refine LeO.bind ?_ (fun _ => ?_)
set_option maxHeartbeats 8000000 in
set_option maxRecDepth 100000 in
theorem laws_eqPuzzle.calls (k : Nat) (A0_0 : Option Addr) (c0_0 : Nat) (l0_0 : List Int) (a0_1 : Int) (a0_2 : Int) (a0_3 : Int) (a0_4 : Int) (a0_5 : Bool) (A1_0 : Option Addr) (c1_0 : Nat) (l1_0 : List Int) (a1_1 : Int) (a1_2 : Int) (a1_3 : Int) (a1_4 : Int) (a1_5 : Bool) (r : Bool) (w : World) (hr0_0 : Kd.C (Kd.int .i16) w A0_0 l0_0.length l0_0) (hc0_0 : l0_0.length ≤ c0_0) (hr1_0 : Kd.C (Kd.int .i16) w A1_0 l1_0.length l1_0) (hc1_0 : l1_0.length ≤ c1_0) (h : laws_eqPuzzle.f k l0_0 a0_1 a0_2 a0_3 a0_4 a0_5 l1_0 a1_1 a1_2 a1_3 a1_4 a1_5 = some r) :
  Calls Try.prog 21 #[.agg #[.slice A0_0 l0_0.length c0_0, .int .i16 a0_1, .int .i16 a0_2, .int .i16 a0_3, .int .i16 a0_4, .bool a0_5], .agg #[.slice A1_0 l1_0.length c1_0, .int .i16 a1_1, .int .i16 a1_2, .int .i16 a1_3, .int .i16 a1_4, .bool a1_5]] w fun e w' => e = .returned (.bool r) ∧ Below w.heap.size w w' := by
 have hu32 := Try.underlying32
 have hu30 := Try.underlying30
 have HR0_0 := Aside0.mk hr0_0
 have HC0_0 := Aside0.mk hc0_0
 clear hr0_0 hc0_0
 have HR1_0 := Aside0.mk hr1_0
 have HC1_0 := Aside0.mk hc1_0
 clear hr1_0 hc1_0
 have HB := A_ (Below.refl w.heap.size w)
 have H : ((laws_eqInt16S.f k l0_0 l1_0).bind fun t127 => (if t127 = true then ((laws_eqWater.f k a0_1 a0_2 a0_3 a0_4 a1_1 a1_2 a1_3 a1_4).bind fun t128 => (if t128 = true then (if (a0_5 != a1_5) = true then (some false) else (some true)) else (some false))) else (some false))) = some r := h
 clear h
 replace H := Option.bind_eq_some_iff.mp H
 obtain ⟨t127, A30, H⟩ := H
 replace H : (if t127 = true then ((laws_eqWater.f k a0_1 a0_2 a0_3 a0_4 a1_1 a1_2 a1_3 a1_4).bind fun t128 => (if t128 = true then (if (a0_5 != a1_5) = true then (some false) else (some true)) else (some false))) else (some false)) = some r := H
 have A3 := Aside0.mk A30
 clear A30
 by_cases c4 : t127 = true
 ·subst c4
  have H1 : ((laws_eqWater.f k a0_1 a0_2 a0_3 a0_4 a1_1 a1_2 a1_3 a1_4).bind fun t128 => (if t128 = true then (if (a0_5 != a1_5) = true then (some false) else (some true)) else (some false))) = some r := by rw [if_pos rfl] at H; exact H
  clear H
  have H := H1
  clear H1
  replace H := Option.bind_eq_some_iff.mp H
  obtain ⟨t128, A50, H⟩ := H
  replace H : (if t128 = true then (if (a0_5 != a1_5) = true then (some false) else (some true)) else (some false)) = some r := H
  have A5 := Aside0.mk A50
  clear A50
  by_cases c6 : t128 = true
  ·subst c6
   have H1 : (if (a0_5 != a1_5) = true then (some false) else (some true)) = some r := by rw [if_pos rfl] at H; exact H
   clear H
   have H := H1
   clear H1
   by_cases c7 : (a0_5 != a1_5) = true
   ·rw [if_pos c7] at H
    have c7b0 : (a0_5 != a1_5) = true := c7
    (try (have c7b1 : decide (a0_5 = a1_5) = false := by simpa using c7))
    (try (have c7b2 : (a0_5 == a1_5) = false := by simpa using c7))
    (try (have c7b3 : ¬ (a0_5 = a1_5) := by simpa using c7))
    clear c7
    obtain rfl := Option.some.inj H
    go_enter Try.func21, Try.ntmps21
    go_wp2_with (first | ((with_reducible refine gate_dst (N := 2) rfl ?_); refine box_event ?hg (N := 2) ?hd (cs := #[.slice A0_0 l0_0.length c0_0, .int .i16 a0_1, .int .i16 a0_2, .int .i16 a0_3, .int .i16 a0_4, .bool a0_5]) (t := 32) ?hr ?_; (case hd => rfl); (case hg => rfl); (case hr => first | (go_simp; done) | (go_simp; rfl)); intro gb125 hg w8 hbox hb; have n0_ := A_ (below_step (bl_ HB) hb); have n1_ := A_ (hbox); have n2_ := A_ ((by rw [hg]; exact (below_size (bl_ HB)) : w.heap.size ≤ gb125)); have n3_ := n2_; clear HB; have HB := n0_; have BK125 := n1_; have GW125 := n2_; have GE125 := n3_; clear n0_ n1_ n2_ n3_; clear hb hbox hg) | ((with_reducible refine gate_dst (N := 3) rfl ?_); refine box_event ?hg (N := 3) ?hd (cs := #[.slice A1_0 l1_0.length c1_0, .int .i16 a1_1, .int .i16 a1_2, .int .i16 a1_3, .int .i16 a1_4, .bool a1_5]) (t := 32) ?hr ?_; (case hd => rfl); (case hg => rfl); (case hr => first | (go_simp; done) | (go_simp; rfl)); intro gb126 hg w9 hbox hb; have n0_ := A_ (blk_below (pl_ BK125) hb); have n1_ := A_ (below_step (bl_ HB) hb); have n2_ := A_ (hbox); have n3_ := A_ ((by rw [hg]; exact (below_size (bl_ HB)) : w.heap.size ≤ gb126)); have n4_ := n3_; have n5_ := A_ ((by rw [hg]; exact Nat.ne_of_lt (blk_lt (pl_ BK125)) : gb125 ≠ gb126)); have n6_ := Aside0.mk n5_.out.symm; clear BK125; clear HB; have BK125 := n0_; have HB := n1_; have BK126 := n2_; have GW126 := n3_; have GE126 := n4_; have NB125_126 := n5_; have NB126_125 := n6_; clear n0_ n1_ n2_ n3_ n4_ n5_ n6_; clear hb hbox hg; have hnb10 := NB125_126.out; have hnc10 := NB126_125.out; have hcz11_0 : w9.cell? ⟨gb125, 0, none⟩ = some (.slice A0_0 l0_0.length c0_0) := (blk_cell BK125.out 0).trans rfl; have hcz11_1 : w9.cell? ⟨gb125, 1, none⟩ = some (.int .i16 a0_1) := (blk_cell BK125.out 1).trans rfl; have hcz11_2 : w9.cell? ⟨gb125, 2, none⟩ = some (.int .i16 a0_2) := (blk_cell BK125.out 2).trans rfl; have hcz11_3 : w9.cell? ⟨gb125, 3, none⟩ = some (.int .i16 a0_3) := (blk_cell BK125.out 3).trans rfl; have hcz11_4 : w9.cell? ⟨gb125, 4, none⟩ = some (.int .i16 a0_4) := (blk_cell BK125.out 4).trans rfl; have hcz11_5 : w9.cell? ⟨gb125, 5, none⟩ = some (.bool a0_5) := (blk_cell BK125.out 5).trans rfl; have hfz11_0 := blk_frozen BK125.out 0; have hfz11_1 := blk_frozen BK125.out 1; have hfz11_2 := blk_frozen BK125.out 2; have hfz11_3 := blk_frozen BK125.out 3; have hfz11_4 := blk_frozen BK125.out 4; have hfz11_5 := blk_frozen BK125.out 5; have hcz12_0 : w9.cell? ⟨gb126, 0, none⟩ = some (.slice A1_0 l1_0.length c1_0) := (blk_cell BK126.out 0).trans rfl; have hcz12_1 : w9.cell? ⟨gb126, 1, none⟩ = some (.int .i16 a1_1) := (blk_cell BK126.out 1).trans rfl; have hcz12_2 : w9.cell? ⟨gb126, 2, none⟩ = some (.int .i16 a1_2) := (blk_cell BK126.out 2).trans rfl; have hcz12_3 : w9.cell? ⟨gb126, 3, none⟩ = some (.int .i16 a1_3) := (blk_cell BK126.out 3).trans rfl; have hcz12_4 : w9.cell? ⟨gb126, 4, none⟩ = some (.int .i16 a1_4) := (blk_cell BK126.out 4).trans rfl; have hcz12_5 : w9.cell? ⟨gb126, 5, none⟩ = some (.bool a1_5) := (blk_cell BK126.out 5).trans rfl; have hfz12_0 := blk_frozen BK126.out 0; have hfz12_1 := blk_frozen BK126.out 1; have hfz12_2 := blk_frozen BK126.out 2; have hfz12_3 := blk_frozen BK126.out 3; have hfz12_4 := blk_frozen BK126.out 4; have hfz12_5 := blk_frozen BK126.out 5) | ((with_reducible refine gate_callee (f := 22) rfl ?_); refine goesL_ (some 9) rfl rfl Try.func22 (by kernel_rfl) rfl #[.slice A0_0 l0_0.length c0_0, .slice A1_0 l1_0.length c1_0] rfl arg_ ?_; (with_reducible refine (laws_eqInt16S.calls k _ _ l0_0 _ _ l1_0 true _ ?side1 ?side2 ?side3 ?side4 A3.out).mono ?_); (case side1 => repeat (first | exact (Kd.C_below HR0_0.out HB.out) | (with_reducible refine Kd.C_alloc ?_ _) | (with_reducible refine Kd.C_drewN ?_ _) | (with_reducible refine Kd.C_drew ?_))); (case side2 => exact HC0_0.out); (case side3 => repeat (first | exact (Kd.C_below HR1_0.out HB.out) | (with_reducible refine Kd.C_alloc ?_ _) | (with_reducible refine Kd.C_drewN ?_ _) | (with_reducible refine Kd.C_drew ?_))); (case side4 => exact HC1_0.out); rintro e w' ⟨rfl, ⟨nd, rfl⟩⟩; refine ⟨_, rfl, ?_⟩) | ((with_reducible refine gate_callee (f := 34) rfl ?_); refine goesL_ (some 15) rfl rfl Try.func34 (by kernel_rfl) rfl #[.agg #[.int .i16 a0_1, .int .i16 a0_2, .int .i16 a0_3, .int .i16 a0_4], .agg #[.int .i16 a1_1, .int .i16 a1_2, .int .i16 a1_3, .int .i16 a1_4]] rfl arg_ ?_; (with_reducible refine (laws_eqWater.calls k a0_1 a0_2 a0_3 a0_4 a1_1 a1_2 a1_3 a1_4 true _ A5.out).mono ?_); rintro e w13 ⟨rfl, hb⟩; refine ⟨_, rfl, ?_⟩; have n0_ := A_ (blk_below (pl_ BK125) hb); have n1_ := A_ (blk_below (pl_ BK126) hb); have n2_ := A_ (below_step (bl_ HB) hb); clear BK125; clear BK126; clear HB; have BK125 := n0_; have BK126 := n1_; have HB := n2_; clear n0_ n1_ n2_; (try clear hb); (try clear hb2); (try clear hk); (try clear hi); have hcz14_0 : w13.cell? ⟨gb125, 0, none⟩ = some (.slice A0_0 l0_0.length c0_0) := (blk_cell BK125.out 0).trans rfl; have hcz14_1 : w13.cell? ⟨gb125, 1, none⟩ = some (.int .i16 a0_1) := (blk_cell BK125.out 1).trans rfl; have hcz14_2 : w13.cell? ⟨gb125, 2, none⟩ = some (.int .i16 a0_2) := (blk_cell BK125.out 2).trans rfl; have hcz14_3 : w13.cell? ⟨gb125, 3, none⟩ = some (.int .i16 a0_3) := (blk_cell BK125.out 3).trans rfl; have hcz14_4 : w13.cell? ⟨gb125, 4, none⟩ = some (.int .i16 a0_4) := (blk_cell BK125.out 4).trans rfl; have hcz14_5 : w13.cell? ⟨gb125, 5, none⟩ = some (.bool a0_5) := (blk_cell BK125.out 5).trans rfl; have hfz14_0 := blk_frozen BK125.out 0; have hfz14_1 := blk_frozen BK125.out 1; have hfz14_2 := blk_frozen BK125.out 2; have hfz14_3 := blk_frozen BK125.out 3; have hfz14_4 := blk_frozen BK125.out 4; have hfz14_5 := blk_frozen BK125.out 5; have hcz15_0 : w13.cell? ⟨gb126, 0, none⟩ = some (.slice A1_0 l1_0.length c1_0) := (blk_cell BK126.out 0).trans rfl; have hcz15_1 : w13.cell? ⟨gb126, 1, none⟩ = some (.int .i16 a1_1) := (blk_cell BK126.out 1).trans rfl; have hcz15_2 : w13.cell? ⟨gb126, 2, none⟩ = some (.int .i16 a1_2) := (blk_cell BK126.out 2).trans rfl; have hcz15_3 : w13.cell? ⟨gb126, 3, none⟩ = some (.int .i16 a1_3) := (blk_cell BK126.out 3).trans rfl; have hcz15_4 : w13.cell? ⟨gb126, 4, none⟩ = some (.int .i16 a1_4) := (blk_cell BK126.out 4).trans rfl; have hcz15_5 : w13.cell? ⟨gb126, 5, none⟩ = some (.bool a1_5) := (blk_cell BK126.out 5).trans rfl; have hfz15_0 := blk_frozen BK126.out 0; have hfz15_1 := blk_frozen BK126.out 1; have hfz15_2 := blk_frozen BK126.out 2; have hfz15_3 := blk_frozen BK126.out 3; have hfz15_4 := blk_frozen BK126.out 4; have hfz15_5 := blk_frozen BK126.out 5))
    go_ret
    exact ⟨by first | rfl | (simp [errW_none, errW_some] <;> rfl) | (simp [*, errW_none, errW_some] <;> rfl), bl_ HB⟩
   ·rw [if_neg c7] at H
    have c7b0 : (a0_5 != a1_5) = false := by simpa using c7
    (try (have c7b1 : decide (a0_5 = a1_5) = true := by simpa using c7))
    (try (have c7b2 : (a0_5 == a1_5) = true := by simpa using c7))
    clear c7
    obtain rfl := Option.some.inj H
    go_enter Try.func21, Try.ntmps21
    go_wp2_with (first | ((with_reducible refine gate_dst (N := 2) rfl ?_); refine box_event ?hg (N := 2) ?hd (cs := #[.slice A0_0 l0_0.length c0_0, .int .i16 a0_1, .int .i16 a0_2, .int .i16 a0_3, .int .i16 a0_4, .bool a0_5]) (t := 32) ?hr ?_; (case hd => rfl); (case hg => rfl); (case hr => first | (go_simp; done) | (go_simp; rfl)); intro gb125 hg w16 hbox hb; have n0_ := A_ (below_step (bl_ HB) hb); have n1_ := A_ (hbox); have n2_ := A_ ((by rw [hg]; exact (below_size (bl_ HB)) : w.heap.size ≤ gb125)); have n3_ := n2_; clear HB; have HB := n0_; have BK125 := n1_; have GW125 := n2_; have GE125 := n3_; clear n0_ n1_ n2_ n3_; clear hb hbox hg) | ((with_reducible refine gate_dst (N := 3) rfl ?_); refine box_event ?hg (N := 3) ?hd (cs := #[.slice A1_0 l1_0.length c1_0, .int .i16 a1_1, .int .i16 a1_2, .int .i16 a1_3, .int .i16 a1_4, .bool a1_5]) (t := 32) ?hr ?_; (case hd => rfl); (case hg => rfl); (case hr => first | (go_simp; done) | (go_simp; rfl)); intro gb126 hg w17 hbox hb; have n0_ := A_ (blk_below (pl_ BK125) hb); have n1_ := A_ (below_step (bl_ HB) hb); have n2_ := A_ (hbox); have n3_ := A_ ((by rw [hg]; exact (below_size (bl_ HB)) : w.heap.size ≤ gb126)); have n4_ := n3_; have n5_ := A_ ((by rw [hg]; exact Nat.ne_of_lt (blk_lt (pl_ BK125)) : gb125 ≠ gb126)); have n6_ := Aside0.mk n5_.out.symm; clear BK125; clear HB; have BK125 := n0_; have HB := n1_; have BK126 := n2_; have GW126 := n3_; have GE126 := n4_; have NB125_126 := n5_; have NB126_125 := n6_; clear n0_ n1_ n2_ n3_ n4_ n5_ n6_; clear hb hbox hg; have hnb18 := NB125_126.out; have hnc18 := NB126_125.out; have hcz19_0 : w17.cell? ⟨gb125, 0, none⟩ = some (.slice A0_0 l0_0.length c0_0) := (blk_cell BK125.out 0).trans rfl; have hcz19_1 : w17.cell? ⟨gb125, 1, none⟩ = some (.int .i16 a0_1) := (blk_cell BK125.out 1).trans rfl; have hcz19_2 : w17.cell? ⟨gb125, 2, none⟩ = some (.int .i16 a0_2) := (blk_cell BK125.out 2).trans rfl; have hcz19_3 : w17.cell? ⟨gb125, 3, none⟩ = some (.int .i16 a0_3) := (blk_cell BK125.out 3).trans rfl; have hcz19_4 : w17.cell? ⟨gb125, 4, none⟩ = some (.int .i16 a0_4) := (blk_cell BK125.out 4).trans rfl; have hcz19_5 : w17.cell? ⟨gb125, 5, none⟩ = some (.bool a0_5) := (blk_cell BK125.out 5).trans rfl; have hfz19_0 := blk_frozen BK125.out 0; have hfz19_1 := blk_frozen BK125.out 1; have hfz19_2 := blk_frozen BK125.out 2; have hfz19_3 := blk_frozen BK125.out 3; have hfz19_4 := blk_frozen BK125.out 4; have hfz19_5 := blk_frozen BK125.out 5; have hcz20_0 : w17.cell? ⟨gb126, 0, none⟩ = some (.slice A1_0 l1_0.length c1_0) := (blk_cell BK126.out 0).trans rfl; have hcz20_1 : w17.cell? ⟨gb126, 1, none⟩ = some (.int .i16 a1_1) := (blk_cell BK126.out 1).trans rfl; have hcz20_2 : w17.cell? ⟨gb126, 2, none⟩ = some (.int .i16 a1_2) := (blk_cell BK126.out 2).trans rfl; have hcz20_3 : w17.cell? ⟨gb126, 3, none⟩ = some (.int .i16 a1_3) := (blk_cell BK126.out 3).trans rfl; have hcz20_4 : w17.cell? ⟨gb126, 4, none⟩ = some (.int .i16 a1_4) := (blk_cell BK126.out 4).trans rfl; have hcz20_5 : w17.cell? ⟨gb126, 5, none⟩ = some (.bool a1_5) := (blk_cell BK126.out 5).trans rfl; have hfz20_0 := blk_frozen BK126.out 0; have hfz20_1 := blk_frozen BK126.out 1; have hfz20_2 := blk_frozen BK126.out 2; have hfz20_3 := blk_frozen BK126.out 3; have hfz20_4 := blk_frozen BK126.out 4; have hfz20_5 := blk_frozen BK126.out 5) | ((with_reducible refine gate_callee (f := 22) rfl ?_); refine goesL_ (some 9) rfl rfl Try.func22 (by kernel_rfl) rfl #[.slice A0_0 l0_0.length c0_0, .slice A1_0 l1_0.length c1_0] rfl arg_ ?_; (with_reducible refine (laws_eqInt16S.calls k _ _ l0_0 _ _ l1_0 true _ ?side1 ?side2 ?side3 ?side4 A3.out).mono ?_); (case side1 => repeat (first | exact (Kd.C_below HR0_0.out HB.out) | (with_reducible refine Kd.C_alloc ?_ _) | (with_reducible refine Kd.C_drewN ?_ _) | (with_reducible refine Kd.C_drew ?_))); (case side2 => exact HC0_0.out); (case side3 => repeat (first | exact (Kd.C_below HR1_0.out HB.out) | (with_reducible refine Kd.C_alloc ?_ _) | (with_reducible refine Kd.C_drewN ?_ _) | (with_reducible refine Kd.C_drew ?_))); (case side4 => exact HC1_0.out); rintro e w' ⟨rfl, ⟨nd, rfl⟩⟩; refine ⟨_, rfl, ?_⟩) | ((with_reducible refine gate_callee (f := 34) rfl ?_); refine goesL_ (some 15) rfl rfl Try.func34 (by kernel_rfl) rfl #[.agg #[.int .i16 a0_1, .int .i16 a0_2, .int .i16 a0_3, .int .i16 a0_4], .agg #[.int .i16 a1_1, .int .i16 a1_2, .int .i16 a1_3, .int .i16 a1_4]] rfl arg_ ?_; (with_reducible refine (laws_eqWater.calls k a0_1 a0_2 a0_3 a0_4 a1_1 a1_2 a1_3 a1_4 true _ A5.out).mono ?_); rintro e w21 ⟨rfl, hb⟩; refine ⟨_, rfl, ?_⟩; have n0_ := A_ (blk_below (pl_ BK125) hb); have n1_ := A_ (blk_below (pl_ BK126) hb); have n2_ := A_ (below_step (bl_ HB) hb); clear BK125; clear BK126; clear HB; have BK125 := n0_; have BK126 := n1_; have HB := n2_; clear n0_ n1_ n2_; (try clear hb); (try clear hb2); (try clear hk); (try clear hi); have hcz22_0 : w21.cell? ⟨gb125, 0, none⟩ = some (.slice A0_0 l0_0.length c0_0) := (blk_cell BK125.out 0).trans rfl; have hcz22_1 : w21.cell? ⟨gb125, 1, none⟩ = some (.int .i16 a0_1) := (blk_cell BK125.out 1).trans rfl; have hcz22_2 : w21.cell? ⟨gb125, 2, none⟩ = some (.int .i16 a0_2) := (blk_cell BK125.out 2).trans rfl; have hcz22_3 : w21.cell? ⟨gb125, 3, none⟩ = some (.int .i16 a0_3) := (blk_cell BK125.out 3).trans rfl; have hcz22_4 : w21.cell? ⟨gb125, 4, none⟩ = some (.int .i16 a0_4) := (blk_cell BK125.out 4).trans rfl; have hcz22_5 : w21.cell? ⟨gb125, 5, none⟩ = some (.bool a0_5) := (blk_cell BK125.out 5).trans rfl; have hfz22_0 := blk_frozen BK125.out 0; have hfz22_1 := blk_frozen BK125.out 1; have hfz22_2 := blk_frozen BK125.out 2; have hfz22_3 := blk_frozen BK125.out 3; have hfz22_4 := blk_frozen BK125.out 4; have hfz22_5 := blk_frozen BK125.out 5; have hcz23_0 : w21.cell? ⟨gb126, 0, none⟩ = some (.slice A1_0 l1_0.length c1_0) := (blk_cell BK126.out 0).trans rfl; have hcz23_1 : w21.cell? ⟨gb126, 1, none⟩ = some (.int .i16 a1_1) := (blk_cell BK126.out 1).trans rfl; have hcz23_2 : w21.cell? ⟨gb126, 2, none⟩ = some (.int .i16 a1_2) := (blk_cell BK126.out 2).trans rfl; have hcz23_3 : w21.cell? ⟨gb126, 3, none⟩ = some (.int .i16 a1_3) := (blk_cell BK126.out 3).trans rfl; have hcz23_4 : w21.cell? ⟨gb126, 4, none⟩ = some (.int .i16 a1_4) := (blk_cell BK126.out 4).trans rfl; have hcz23_5 : w21.cell? ⟨gb126, 5, none⟩ = some (.bool a1_5) := (blk_cell BK126.out 5).trans rfl; have hfz23_0 := blk_frozen BK126.out 0; have hfz23_1 := blk_frozen BK126.out 1; have hfz23_2 := blk_frozen BK126.out 2; have hfz23_3 := blk_frozen BK126.out 3; have hfz23_4 := blk_frozen BK126.out 4; have hfz23_5 := blk_frozen BK126.out 5))
    go_ret
    exact ⟨by first | rfl | (simp [errW_none, errW_some] <;> rfl) | (simp [*, errW_none, errW_some] <;> rfl), bl_ HB⟩
  ·replace c6 := Bool.eq_false_iff.mpr c6
   subst c6
   have H1 : (some false) = some r := by rw [if_neg (show ¬ (false = true) by decide)] at H; exact H
   clear H
   have H := H1
   clear H1
   obtain rfl := Option.some.inj H
   go_enter Try.func21, Try.ntmps21
   go_wp2_with (first | ((with_reducible refine gate_dst (N := 2) rfl ?_); refine box_event ?hg (N := 2) ?hd (cs := #[.slice A0_0 l0_0.length c0_0, .int .i16 a0_1, .int .i16 a0_2, .int .i16 a0_3, .int .i16 a0_4, .bool a0_5]) (t := 32) ?hr ?_; (case hd => rfl); (case hg => rfl); (case hr => first | (go_simp; done) | (go_simp; rfl)); intro gb125 hg w24 hbox hb; have n0_ := A_ (below_step (bl_ HB) hb); have n1_ := A_ (hbox); have n2_ := A_ ((by rw [hg]; exact (below_size (bl_ HB)) : w.heap.size ≤ gb125)); have n3_ := n2_; clear HB; have HB := n0_; have BK125 := n1_; have GW125 := n2_; have GE125 := n3_; clear n0_ n1_ n2_ n3_; clear hb hbox hg) | ((with_reducible refine gate_dst (N := 3) rfl ?_); refine box_event ?hg (N := 3) ?hd (cs := #[.slice A1_0 l1_0.length c1_0, .int .i16 a1_1, .int .i16 a1_2, .int .i16 a1_3, .int .i16 a1_4, .bool a1_5]) (t := 32) ?hr ?_; (case hd => rfl); (case hg => rfl); (case hr => first | (go_simp; done) | (go_simp; rfl)); intro gb126 hg w25 hbox hb; have n0_ := A_ (blk_below (pl_ BK125) hb); have n1_ := A_ (below_step (bl_ HB) hb); have n2_ := A_ (hbox); have n3_ := A_ ((by rw [hg]; exact (below_size (bl_ HB)) : w.heap.size ≤ gb126)); have n4_ := n3_; have n5_ := A_ ((by rw [hg]; exact Nat.ne_of_lt (blk_lt (pl_ BK125)) : gb125 ≠ gb126)); have n6_ := Aside0.mk n5_.out.symm; clear BK125; clear HB; have BK125 := n0_; have HB := n1_; have BK126 := n2_; have GW126 := n3_; have GE126 := n4_; have NB125_126 := n5_; have NB126_125 := n6_; clear n0_ n1_ n2_ n3_ n4_ n5_ n6_; clear hb hbox hg; have hnb26 := NB125_126.out; have hnc26 := NB126_125.out; have hcz27_0 : w25.cell? ⟨gb125, 0, none⟩ = some (.slice A0_0 l0_0.length c0_0) := (blk_cell BK125.out 0).trans rfl; have hcz27_1 : w25.cell? ⟨gb125, 1, none⟩ = some (.int .i16 a0_1) := (blk_cell BK125.out 1).trans rfl; have hcz27_2 : w25.cell? ⟨gb125, 2, none⟩ = some (.int .i16 a0_2) := (blk_cell BK125.out 2).trans rfl; have hcz27_3 : w25.cell? ⟨gb125, 3, none⟩ = some (.int .i16 a0_3) := (blk_cell BK125.out 3).trans rfl; have hcz27_4 : w25.cell? ⟨gb125, 4, none⟩ = some (.int .i16 a0_4) := (blk_cell BK125.out 4).trans rfl; have hcz27_5 : w25.cell? ⟨gb125, 5, none⟩ = some (.bool a0_5) := (blk_cell BK125.out 5).trans rfl; have hfz27_0 := blk_frozen BK125.out 0; have hfz27_1 := blk_frozen BK125.out 1; have hfz27_2 := blk_frozen BK125.out 2; have hfz27_3 := blk_frozen BK125.out 3; have hfz27_4 := blk_frozen BK125.out 4; have hfz27_5 := blk_frozen BK125.out 5; have hcz28_0 : w25.cell? ⟨gb126, 0, none⟩ = some (.slice A1_0 l1_0.length c1_0) := (blk_cell BK126.out 0).trans rfl; have hcz28_1 : w25.cell? ⟨gb126, 1, none⟩ = some (.int .i16 a1_1) := (blk_cell BK126.out 1).trans rfl; have hcz28_2 : w25.cell? ⟨gb126, 2, none⟩ = some (.int .i16 a1_2) := (blk_cell BK126.out 2).trans rfl; have hcz28_3 : w25.cell? ⟨gb126, 3, none⟩ = some (.int .i16 a1_3) := (blk_cell BK126.out 3).trans rfl; have hcz28_4 : w25.cell? ⟨gb126, 4, none⟩ = some (.int .i16 a1_4) := (blk_cell BK126.out 4).trans rfl; have hcz28_5 : w25.cell? ⟨gb126, 5, none⟩ = some (.bool a1_5) := (blk_cell BK126.out 5).trans rfl; have hfz28_0 := blk_frozen BK126.out 0; have hfz28_1 := blk_frozen BK126.out 1; have hfz28_2 := blk_frozen BK126.out 2; have hfz28_3 := blk_frozen BK126.out 3; have hfz28_4 := blk_frozen BK126.out 4; have hfz28_5 := blk_frozen BK126.out 5) | ((with_reducible refine gate_callee (f := 22) rfl ?_); refine goesL_ (some 9) rfl rfl Try.func22 (by kernel_rfl) rfl #[.slice A0_0 l0_0.length c0_0, .slice A1_0 l1_0.length c1_0] rfl arg_ ?_; (with_reducible refine (laws_eqInt16S.calls k _ _ l0_0 _ _ l1_0 true _ ?side1 ?side2 ?side3 ?side4 A3.out).mono ?_); (case side1 => repeat (first | exact (Kd.C_below HR0_0.out HB.out) | (with_reducible refine Kd.C_alloc ?_ _) | (with_reducible refine Kd.C_drewN ?_ _) | (with_reducible refine Kd.C_drew ?_))); (case side2 => exact HC0_0.out); (case side3 => repeat (first | exact (Kd.C_below HR1_0.out HB.out) | (with_reducible refine Kd.C_alloc ?_ _) | (with_reducible refine Kd.C_drewN ?_ _) | (with_reducible refine Kd.C_drew ?_))); (case side4 => exact HC1_0.out); rintro e w' ⟨rfl, ⟨nd, rfl⟩⟩; refine ⟨_, rfl, ?_⟩) | ((with_reducible refine gate_callee (f := 34) rfl ?_); refine goesL_ (some 15) rfl rfl Try.func34 (by kernel_rfl) rfl #[.agg #[.int .i16 a0_1, .int .i16 a0_2, .int .i16 a0_3, .int .i16 a0_4], .agg #[.int .i16 a1_1, .int .i16 a1_2, .int .i16 a1_3, .int .i16 a1_4]] rfl arg_ ?_; (with_reducible refine (laws_eqWater.calls k a0_1 a0_2 a0_3 a0_4 a1_1 a1_2 a1_3 a1_4 false _ A5.out).mono ?_); rintro e w29 ⟨rfl, hb⟩; refine ⟨_, rfl, ?_⟩; have n0_ := A_ (blk_below (pl_ BK125) hb); have n1_ := A_ (blk_below (pl_ BK126) hb); have n2_ := A_ (below_step (bl_ HB) hb); clear BK125; clear BK126; clear HB; have BK125 := n0_; have BK126 := n1_; have HB := n2_; clear n0_ n1_ n2_; (try clear hb); (try clear hb2); (try clear hk); (try clear hi)))
   go_ret
   exact ⟨by first | rfl | (simp [errW_none, errW_some] <;> rfl) | (simp [*, errW_none, errW_some] <;> rfl), bl_ HB⟩
 ·replace c4 := Bool.eq_false_iff.mpr c4
  subst c4
  have H1 : (some false) = some r := by rw [if_neg (show ¬ (false = true) by decide)] at H; exact H
  clear H
  have H := H1
  clear H1
  obtain rfl := Option.some.inj H
  go_enter Try.func21, Try.ntmps21
  go_wp2_with (first | ((with_reducible refine gate_dst (N := 2) rfl ?_); refine box_event ?hg (N := 2) ?hd (cs := #[.slice A0_0 l0_0.length c0_0, .int .i16 a0_1, .int .i16 a0_2, .int .i16 a0_3, .int .i16 a0_4, .bool a0_5]) (t := 32) ?hr ?_; (case hd => rfl); (case hg => rfl); (case hr => first | (go_simp; done) | (go_simp; rfl)); intro gb125 hg w30 hbox hb; have n0_ := A_ (below_step (bl_ HB) hb); have n1_ := A_ (hbox); have n2_ := A_ ((by rw [hg]; exact (below_size (bl_ HB)) : w.heap.size ≤ gb125)); have n3_ := n2_; clear HB; have HB := n0_; have BK125 := n1_; have GW125 := n2_; have GE125 := n3_; clear n0_ n1_ n2_ n3_; clear hb hbox hg) | ((with_reducible refine gate_dst (N := 3) rfl ?_); refine box_event ?hg (N := 3) ?hd (cs := #[.slice A1_0 l1_0.length c1_0, .int .i16 a1_1, .int .i16 a1_2, .int .i16 a1_3, .int .i16 a1_4, .bool a1_5]) (t := 32) ?hr ?_; (case hd => rfl); (case hg => rfl); (case hr => first | (go_simp; done) | (go_simp; rfl)); intro gb126 hg w31 hbox hb; have n0_ := A_ (blk_below (pl_ BK125) hb); have n1_ := A_ (below_step (bl_ HB) hb); have n2_ := A_ (hbox); have n3_ := A_ ((by rw [hg]; exact (below_size (bl_ HB)) : w.heap.size ≤ gb126)); have n4_ := n3_; have n5_ := A_ ((by rw [hg]; exact Nat.ne_of_lt (blk_lt (pl_ BK125)) : gb125 ≠ gb126)); have n6_ := Aside0.mk n5_.out.symm; clear BK125; clear HB; have BK125 := n0_; have HB := n1_; have BK126 := n2_; have GW126 := n3_; have GE126 := n4_; have NB125_126 := n5_; have NB126_125 := n6_; clear n0_ n1_ n2_ n3_ n4_ n5_ n6_; clear hb hbox hg; have hnb32 := NB125_126.out; have hnc32 := NB126_125.out; have hcz33_0 : w31.cell? ⟨gb125, 0, none⟩ = some (.slice A0_0 l0_0.length c0_0) := (blk_cell BK125.out 0).trans rfl; have hcz33_1 : w31.cell? ⟨gb125, 1, none⟩ = some (.int .i16 a0_1) := (blk_cell BK125.out 1).trans rfl; have hcz33_2 : w31.cell? ⟨gb125, 2, none⟩ = some (.int .i16 a0_2) := (blk_cell BK125.out 2).trans rfl; have hcz33_3 : w31.cell? ⟨gb125, 3, none⟩ = some (.int .i16 a0_3) := (blk_cell BK125.out 3).trans rfl; have hcz33_4 : w31.cell? ⟨gb125, 4, none⟩ = some (.int .i16 a0_4) := (blk_cell BK125.out 4).trans rfl; have hcz33_5 : w31.cell? ⟨gb125, 5, none⟩ = some (.bool a0_5) := (blk_cell BK125.out 5).trans rfl; have hfz33_0 := blk_frozen BK125.out 0; have hfz33_1 := blk_frozen BK125.out 1; have hfz33_2 := blk_frozen BK125.out 2; have hfz33_3 := blk_frozen BK125.out 3; have hfz33_4 := blk_frozen BK125.out 4; have hfz33_5 := blk_frozen BK125.out 5; have hcz34_0 : w31.cell? ⟨gb126, 0, none⟩ = some (.slice A1_0 l1_0.length c1_0) := (blk_cell BK126.out 0).trans rfl; have hcz34_1 : w31.cell? ⟨gb126, 1, none⟩ = some (.int .i16 a1_1) := (blk_cell BK126.out 1).trans rfl; have hcz34_2 : w31.cell? ⟨gb126, 2, none⟩ = some (.int .i16 a1_2) := (blk_cell BK126.out 2).trans rfl; have hcz34_3 : w31.cell? ⟨gb126, 3, none⟩ = some (.int .i16 a1_3) := (blk_cell BK126.out 3).trans rfl; have hcz34_4 : w31.cell? ⟨gb126, 4, none⟩ = some (.int .i16 a1_4) := (blk_cell BK126.out 4).trans rfl; have hcz34_5 : w31.cell? ⟨gb126, 5, none⟩ = some (.bool a1_5) := (blk_cell BK126.out 5).trans rfl; have hfz34_0 := blk_frozen BK126.out 0; have hfz34_1 := blk_frozen BK126.out 1; have hfz34_2 := blk_frozen BK126.out 2; have hfz34_3 := blk_frozen BK126.out 3; have hfz34_4 := blk_frozen BK126.out 4; have hfz34_5 := blk_frozen BK126.out 5) | ((with_reducible refine gate_callee (f := 22) rfl ?_); refine goesL_ (some 9) rfl rfl Try.func22 (by kernel_rfl) rfl #[.slice A0_0 l0_0.length c0_0, .slice A1_0 l1_0.length c1_0] rfl arg_ ?_; (with_reducible refine (laws_eqInt16S.calls k _ _ l0_0 _ _ l1_0 false _ ?side1 ?side2 ?side3 ?side4 A3.out).mono ?_); (case side1 => repeat (first | exact (Kd.C_below HR0_0.out HB.out) | (with_reducible refine Kd.C_alloc ?_ _) | (with_reducible refine Kd.C_drewN ?_ _) | (with_reducible refine Kd.C_drew ?_))); (case side2 => exact HC0_0.out); (case side3 => repeat (first | exact (Kd.C_below HR1_0.out HB.out) | (with_reducible refine Kd.C_alloc ?_ _) | (with_reducible refine Kd.C_drewN ?_ _) | (with_reducible refine Kd.C_drew ?_))); (case side4 => exact HC1_0.out); rintro e w' ⟨rfl, ⟨nd, rfl⟩⟩; refine ⟨_, rfl, ?_⟩))
  go_ret
  exact ⟨by first | rfl | (simp [errW_none, errW_some] <;> rfl) | (simp [*, errW_none, errW_some] <;> rfl), bl_ HB⟩

/-! ### spec_l02Water: function 73 -/
def spec_l02Water.l0 : Nat → List Int → Int → Int → Int → Int → Int → Option (Bool)
 | 0, _, _, _, _, _, _ => none
 | k + 1, x0, x5, x135000, x135001, x135002, x135003 => if x5 < 4 then (if x5 < (x0.length : Int) then (if 0 ≤ x5 then (if (rd [x135000, x135001, x135002, x135003] x5) < 0 then (some false) else (if (rd [x135000, x135001, x135002, x135003] x5) > (rd x0 x5) then (some false) else (spec_l02Water.l0 k x0 (wrap64 (x5 + 1)) x135000 x135001 x135002 x135003))) else (none)) else (if 0 ≤ x5 then (if (rd [x135000, x135001, x135002, x135003] x5) < 0 then (some false) else (if (rd [x135000, x135001, x135002, x135003] x5) > 0 then (some false) else (spec_l02Water.l0 k x0 (wrap64 (x5 + 1)) x135000 x135001 x135002 x135003))) else (none))) else (some true)
def spec_l02Water.f (k : Nat) (l0 : List Int) (a1_0 : Int) (a1_1 : Int) (a1_2 : Int) (a1_3 : Int) : Option (Bool) := spec_l02Water.l0 k l0 0 a1_0 a1_1 a1_2 a1_3
theorem spec_l02Water.mono_l : ∀ k, (∀ y0 y1 y2 y3 y4 y5, LeO (spec_l02Water.l0 k y0 y1 y2 y3 y4 y5) (spec_l02Water.l0 (k + 1) y0 y1 y2 y3 y4 y5))
 | 0 => fun _ _ _ _ _ _ r h => by simp [spec_l02Water.l0] at h
 | k + 1 => by
  have ih0 := spec_l02Water.mono_l k
  ·intro y0 y1 y2 y3 y4 y5
   unfold spec_l02Water.l0
   repeat' first
   | (with_reducible exact ih0 _ _ _ _ _ _)
   | (with_reducible exact LeO.refl _)
   | (with_reducible exact LeO.none _)
   | (with_reducible refine LeO.ite ?_ ?_)
   | (with_reducible refine LeO.bind ?_ (fun _ => ?_))
   | exact ih0 _ _ _ _ _ _
   | exact LeO.none _
   | refine LeO.ite ?_ ?_
   | refine LeO.bind ?_ (fun _ => ?_)
theorem spec_l02Water.mono : ∀ a0 a1 a2 a3 a4 k, LeO (spec_l02Water.f k a0 a1 a2 a3 a4) (spec_l02Water.f (k + 1) a0 a1 a2 a3 a4) := by
 intro a0 a1 a2 a3 a4 k
 have ih0 := spec_l02Water.mono_l k
 unfold spec_l02Water.f
 repeat' first
   | (with_reducible exact ih0 _ _ _ _ _ _)
   | (with_reducible exact LeO.refl _)
   | (with_reducible exact LeO.none _)
   | (with_reducible refine LeO.ite ?_ ?_)
   | (with_reducible refine LeO.bind ?_ (fun _ => ?_))
   | exact ih0 _ _ _ _ _ _
   | exact LeO.none _
   | refine LeO.ite ?_ ?_
   | refine LeO.bind ?_ (fun _ => ?_)
set_option maxHeartbeats 8000000 in
set_option maxRecDepth 100000 in
theorem spec_l02Water.calls (k : Nat) (A0 : Option Addr) (c0 : Nat) (l0 : List Int) (a1_0 : Int) (a1_1 : Int) (a1_2 : Int) (a1_3 : Int) (r : Bool) (w : World) (hr0 : Kd.C (Kd.int .i16) w A0 l0.length l0) (hc0 : l0.length ≤ c0) (h : spec_l02Water.f k l0 a1_0 a1_1 a1_2 a1_3 = some r) :
  Calls Try.prog 73 #[.slice A0 l0.length c0, .agg #[.int .i16 a1_0, .int .i16 a1_1, .int .i16 a1_2, .int .i16 a1_3]] w fun e w' => e = .returned (.bool r) ∧ Below w.heap.size w w' := by
 have hu30 := Try.underlying30
 have HR0 := Aside0.mk hr0
 have HC0 := Aside0.mk hc0
 clear hr0 hc0
 have HB := A_ (Below.refl w.heap.size w)
 have H : (spec_l02Water.l0 k l0 0 a1_0 a1_1 a1_2 a1_3) = some r := h
 clear h
 have H' := Aside0.mk H
 clear H
 go_enter Try.func73, Try.ntmps73
 go_wp2_with (first | ((with_reducible refine gate_dst (N := 3) rfl ?_); refine box_event ?hg (N := 3) ?hd (cs := #[.int .i16 a1_0, .int .i16 a1_1, .int .i16 a1_2, .int .i16 a1_3]) (t := 30) ?hr ?_; (case hd => rfl); (case hg => rfl); (case hr => first | (go_simp; done) | (go_simp; rfl)); intro gb134 hg w3 hbox hb; have n0_ := A_ (below_step (bl_ HB) hb); have n1_ := A_ (hbox); have n2_ := A_ ((by rw [hg]; exact (below_size (bl_ HB)) : w.heap.size ≤ gb134)); have n3_ := n2_; clear HB; have HB := n0_; have BK134 := n1_; have GW134 := n2_; have GE134 := n3_; clear n0_ n1_ n2_ n3_; clear hb hbox hg))
 go_loopg [5] k (fun kq v5 w' => ∃ (x5_1 : Int), v5 = .int .i64 x5_1 ∧ Aside0 (spec_l02Water.l0 kq l0 x5_1 a1_0 a1_1 a1_2 a1_3 = some r) ∧ Aside0 (kq ≤ k) ∧ Aside0 (w'.heap[gb134]? = some (.cells #[.int .i16 a1_0, .int .i16 a1_1, .int .i16 a1_2, .int .i16 a1_3] 30 (0, 0))) ∧ Aside0 (Below w.heap.size w w'))
 case atStart => exact ⟨(0), rs_, H', ⟨Nat.le_refl _⟩, ⟨pl_ BK134⟩, ⟨bl_ HB⟩⟩
 case round =>
  clear H'
  try clear p2
  obtain ⟨x5_1, rfl, HA, HK1, BK134, HB⟩ := hrel
  cases gk with
  | zero => exact absurd HA.out (by simp [spec_l02Water.l0])
  | succ k1 =>
   have H := HA.out
   clear HA
   simp only [spec_l02Water.l0] at H
   by_cases c4 : x5_1 < 4
   ·rw [if_pos c4] at H
    have c4b0 : decide (x5_1 < 4) = true := decide_eq_true c4
    clear c4
    by_cases c5 : x5_1 < (l0.length : Int)
    ·rw [if_pos c5] at H
     have c5b0 : decide (x5_1 < (l0.length : Int)) = true := decide_eq_true c5
     clear c5
     by_cases c6 : 0 ≤ x5_1
     ·rw [if_pos c6] at H
      have c6b0 : decide (0 ≤ x5_1) = true := decide_eq_true c6
      clear c6
      by_cases c8 : (rd [a1_0, a1_1, a1_2, a1_3] x5_1) < 0
      ·rw [if_pos c8] at H
       have c8b0 : decide ((rd [a1_0, a1_1, a1_2, a1_3] x5_1) < 0) = true := decide_eq_true c8
       clear c8
       obtain rfl := Option.some.inj H
       have p135 : 0 ≤ (x5_1 : Int) := asm_
       have q135 : x5_1 < (l0.length : Int) := asm_
       obtain ⟨ad135, e135, hx135_0⟩ := Kd.at_int HR0.out x5_1 p135 q135
       cases e135
       (try replace hx135_0 := (HB.out.cell (World.block_lt_of_cell? w _ hx135_0)).trans hx135_0)
       replace p135 := eq_true p135
       replace q135 := eq_true q135
       have hcz9_0 : wr.cell? ⟨gb134, 0, none⟩ = some (.int .i16 a1_0) := (blk_cell BK134.out 0).trans rfl
       have hcz9_1 : wr.cell? ⟨gb134, 1, none⟩ = some (.int .i16 a1_1) := (blk_cell BK134.out 1).trans rfl
       have hcz9_2 : wr.cell? ⟨gb134, 2, none⟩ = some (.int .i16 a1_2) := (blk_cell BK134.out 2).trans rfl
       have hcz9_3 : wr.cell? ⟨gb134, 3, none⟩ = some (.int .i16 a1_3) := (blk_cell BK134.out 3).trans rfl
       have hfz9_0 := blk_frozen BK134.out 0
       have hfz9_1 := blk_frozen BK134.out 1
       have hfz9_2 := blk_frozen BK134.out 2
       have hfz9_3 := blk_frozen BK134.out 3
       have p7 : 0 ≤ (x5_1 : Int) := asm_
       have q7 : (x5_1 : Int) < 4 := asm_
       have hx7 : wr.cell? ⟨gb134, (x5_1 : Int).toNat, none⟩ = some (.int .i16 (rd [a1_0, a1_1, a1_2, a1_3] x5_1)) := ard_cell (k := .i16) (l := [a1_0, a1_1, a1_2, a1_3]) BK134.out p7 q7
       have hf7 := blk_frozen BK134.out (x5_1 : Int).toNat
       have P7 := Aside0.mk p7
       have Q7 := Aside0.mk q7
       replace p7 := eq_true p7
       replace q7 := eq_true q7
       go_wp2
       go_ret
       exact ⟨by first | rfl | (simp [errW_none, errW_some] <;> rfl) | (simp [*, errW_none, errW_some] <;> rfl), bl_ HB⟩
      ·rw [if_neg c8] at H
       have c8b0 : decide ((rd [a1_0, a1_1, a1_2, a1_3] x5_1) < 0) = false := decide_eq_false c8
       clear c8
       by_cases c11 : (rd [a1_0, a1_1, a1_2, a1_3] x5_1) > (rd l0 x5_1)
       ·rw [if_pos c11] at H
        have c11b0 : decide ((rd l0 x5_1) < (rd [a1_0, a1_1, a1_2, a1_3] x5_1)) = true := decide_eq_true c11
        clear c11
        obtain rfl := Option.some.inj H
        have p135 : 0 ≤ (x5_1 : Int) := asm_
        have q135 : x5_1 < (l0.length : Int) := asm_
        obtain ⟨ad135, e135, hx135_0⟩ := Kd.at_int HR0.out x5_1 p135 q135
        cases e135
        (try replace hx135_0 := (HB.out.cell (World.block_lt_of_cell? w _ hx135_0)).trans hx135_0)
        replace p135 := eq_true p135
        replace q135 := eq_true q135
        have hcz12_0 : wr.cell? ⟨gb134, 0, none⟩ = some (.int .i16 a1_0) := (blk_cell BK134.out 0).trans rfl
        have hcz12_1 : wr.cell? ⟨gb134, 1, none⟩ = some (.int .i16 a1_1) := (blk_cell BK134.out 1).trans rfl
        have hcz12_2 : wr.cell? ⟨gb134, 2, none⟩ = some (.int .i16 a1_2) := (blk_cell BK134.out 2).trans rfl
        have hcz12_3 : wr.cell? ⟨gb134, 3, none⟩ = some (.int .i16 a1_3) := (blk_cell BK134.out 3).trans rfl
        have hfz12_0 := blk_frozen BK134.out 0
        have hfz12_1 := blk_frozen BK134.out 1
        have hfz12_2 := blk_frozen BK134.out 2
        have hfz12_3 := blk_frozen BK134.out 3
        have p7 : 0 ≤ (x5_1 : Int) := asm_
        have q7 : (x5_1 : Int) < 4 := asm_
        have hx7 : wr.cell? ⟨gb134, (x5_1 : Int).toNat, none⟩ = some (.int .i16 (rd [a1_0, a1_1, a1_2, a1_3] x5_1)) := ard_cell (k := .i16) (l := [a1_0, a1_1, a1_2, a1_3]) BK134.out p7 q7
        have hf7 := blk_frozen BK134.out (x5_1 : Int).toNat
        have P7 := Aside0.mk p7
        have Q7 := Aside0.mk q7
        replace p7 := eq_true p7
        replace q7 := eq_true q7
        have p10 : 0 ≤ (x5_1 : Int) := asm_
        have q10 : (x5_1 : Int) < 4 := asm_
        have hx10 : wr.cell? ⟨gb134, (x5_1 : Int).toNat, none⟩ = some (.int .i16 (rd [a1_0, a1_1, a1_2, a1_3] x5_1)) := ard_cell (k := .i16) (l := [a1_0, a1_1, a1_2, a1_3]) BK134.out p10 q10
        have hf10 := blk_frozen BK134.out (x5_1 : Int).toNat
        have P10 := Aside0.mk p10
        have Q10 := Aside0.mk q10
        replace p10 := eq_true p10
        replace q10 := eq_true q10
        go_wp2
        go_ret
        exact ⟨by first | rfl | (simp [errW_none, errW_some] <;> rfl) | (simp [*, errW_none, errW_some] <;> rfl), bl_ HB⟩
       ·rw [if_neg c11] at H
        have c11b0 : decide ((rd l0 x5_1) < (rd [a1_0, a1_1, a1_2, a1_3] x5_1)) = false := decide_eq_false c11
        clear c11
        have H' := Aside0.mk H
        clear H
        have p135 : 0 ≤ (x5_1 : Int) := asm_
        have q135 : x5_1 < (l0.length : Int) := asm_
        obtain ⟨ad135, e135, hx135_0⟩ := Kd.at_int HR0.out x5_1 p135 q135
        cases e135
        (try replace hx135_0 := (HB.out.cell (World.block_lt_of_cell? w _ hx135_0)).trans hx135_0)
        replace p135 := eq_true p135
        replace q135 := eq_true q135
        have hcz13_0 : wr.cell? ⟨gb134, 0, none⟩ = some (.int .i16 a1_0) := (blk_cell BK134.out 0).trans rfl
        have hcz13_1 : wr.cell? ⟨gb134, 1, none⟩ = some (.int .i16 a1_1) := (blk_cell BK134.out 1).trans rfl
        have hcz13_2 : wr.cell? ⟨gb134, 2, none⟩ = some (.int .i16 a1_2) := (blk_cell BK134.out 2).trans rfl
        have hcz13_3 : wr.cell? ⟨gb134, 3, none⟩ = some (.int .i16 a1_3) := (blk_cell BK134.out 3).trans rfl
        have hfz13_0 := blk_frozen BK134.out 0
        have hfz13_1 := blk_frozen BK134.out 1
        have hfz13_2 := blk_frozen BK134.out 2
        have hfz13_3 := blk_frozen BK134.out 3
        have p7 : 0 ≤ (x5_1 : Int) := asm_
        have q7 : (x5_1 : Int) < 4 := asm_
        have hx7 : wr.cell? ⟨gb134, (x5_1 : Int).toNat, none⟩ = some (.int .i16 (rd [a1_0, a1_1, a1_2, a1_3] x5_1)) := ard_cell (k := .i16) (l := [a1_0, a1_1, a1_2, a1_3]) BK134.out p7 q7
        have hf7 := blk_frozen BK134.out (x5_1 : Int).toNat
        have P7 := Aside0.mk p7
        have Q7 := Aside0.mk q7
        replace p7 := eq_true p7
        replace q7 := eq_true q7
        have p10 : 0 ≤ (x5_1 : Int) := asm_
        have q10 : (x5_1 : Int) < 4 := asm_
        have hx10 : wr.cell? ⟨gb134, (x5_1 : Int).toNat, none⟩ = some (.int .i16 (rd [a1_0, a1_1, a1_2, a1_3] x5_1)) := ard_cell (k := .i16) (l := [a1_0, a1_1, a1_2, a1_3]) BK134.out p10 q10
        have hf10 := blk_frozen BK134.out (x5_1 : Int).toNat
        have P10 := Aside0.mk p10
        have Q10 := Aside0.mk q10
        replace p10 := eq_true p10
        replace q10 := eq_true q10
        go_wp2
        go_roundg k1
        case measure => have := HK1.out; omega
        case rel => exact ⟨(wrap64 (x5_1 + 1)), rs_, H', ⟨by have := HK1.out; omega⟩, ⟨pl_ BK134⟩, ⟨bl_ HB⟩⟩
     ·rw [if_neg c6] at H
      exact absurd H (by simp)
    ·rw [if_neg c5] at H
     have c5b0 : decide (x5_1 < (l0.length : Int)) = false := decide_eq_false c5
     clear c5
     by_cases c14 : 0 ≤ x5_1
     ·rw [if_pos c14] at H
      have c14b0 : decide (0 ≤ x5_1) = true := decide_eq_true c14
      clear c14
      by_cases c16 : (rd [a1_0, a1_1, a1_2, a1_3] x5_1) < 0
      ·rw [if_pos c16] at H
       have c16b0 : decide ((rd [a1_0, a1_1, a1_2, a1_3] x5_1) < 0) = true := decide_eq_true c16
       clear c16
       obtain rfl := Option.some.inj H
       have hcz17_0 : wr.cell? ⟨gb134, 0, none⟩ = some (.int .i16 a1_0) := (blk_cell BK134.out 0).trans rfl
       have hcz17_1 : wr.cell? ⟨gb134, 1, none⟩ = some (.int .i16 a1_1) := (blk_cell BK134.out 1).trans rfl
       have hcz17_2 : wr.cell? ⟨gb134, 2, none⟩ = some (.int .i16 a1_2) := (blk_cell BK134.out 2).trans rfl
       have hcz17_3 : wr.cell? ⟨gb134, 3, none⟩ = some (.int .i16 a1_3) := (blk_cell BK134.out 3).trans rfl
       have hfz17_0 := blk_frozen BK134.out 0
       have hfz17_1 := blk_frozen BK134.out 1
       have hfz17_2 := blk_frozen BK134.out 2
       have hfz17_3 := blk_frozen BK134.out 3
       have p15 : 0 ≤ (x5_1 : Int) := asm_
       have q15 : (x5_1 : Int) < 4 := asm_
       have hx15 : wr.cell? ⟨gb134, (x5_1 : Int).toNat, none⟩ = some (.int .i16 (rd [a1_0, a1_1, a1_2, a1_3] x5_1)) := ard_cell (k := .i16) (l := [a1_0, a1_1, a1_2, a1_3]) BK134.out p15 q15
       have hf15 := blk_frozen BK134.out (x5_1 : Int).toNat
       have P15 := Aside0.mk p15
       have Q15 := Aside0.mk q15
       replace p15 := eq_true p15
       replace q15 := eq_true q15
       go_wp2
       go_ret
       exact ⟨by first | rfl | (simp [errW_none, errW_some] <;> rfl) | (simp [*, errW_none, errW_some] <;> rfl), bl_ HB⟩
      ·rw [if_neg c16] at H
       have c16b0 : decide ((rd [a1_0, a1_1, a1_2, a1_3] x5_1) < 0) = false := decide_eq_false c16
       clear c16
       by_cases c19 : (rd [a1_0, a1_1, a1_2, a1_3] x5_1) > 0
       ·rw [if_pos c19] at H
        have c19b0 : decide (0 < (rd [a1_0, a1_1, a1_2, a1_3] x5_1)) = true := decide_eq_true c19
        clear c19
        obtain rfl := Option.some.inj H
        have hcz20_0 : wr.cell? ⟨gb134, 0, none⟩ = some (.int .i16 a1_0) := (blk_cell BK134.out 0).trans rfl
        have hcz20_1 : wr.cell? ⟨gb134, 1, none⟩ = some (.int .i16 a1_1) := (blk_cell BK134.out 1).trans rfl
        have hcz20_2 : wr.cell? ⟨gb134, 2, none⟩ = some (.int .i16 a1_2) := (blk_cell BK134.out 2).trans rfl
        have hcz20_3 : wr.cell? ⟨gb134, 3, none⟩ = some (.int .i16 a1_3) := (blk_cell BK134.out 3).trans rfl
        have hfz20_0 := blk_frozen BK134.out 0
        have hfz20_1 := blk_frozen BK134.out 1
        have hfz20_2 := blk_frozen BK134.out 2
        have hfz20_3 := blk_frozen BK134.out 3
        have p15 : 0 ≤ (x5_1 : Int) := asm_
        have q15 : (x5_1 : Int) < 4 := asm_
        have hx15 : wr.cell? ⟨gb134, (x5_1 : Int).toNat, none⟩ = some (.int .i16 (rd [a1_0, a1_1, a1_2, a1_3] x5_1)) := ard_cell (k := .i16) (l := [a1_0, a1_1, a1_2, a1_3]) BK134.out p15 q15
        have hf15 := blk_frozen BK134.out (x5_1 : Int).toNat
        have P15 := Aside0.mk p15
        have Q15 := Aside0.mk q15
        replace p15 := eq_true p15
        replace q15 := eq_true q15
        have p18 : 0 ≤ (x5_1 : Int) := asm_
        have q18 : (x5_1 : Int) < 4 := asm_
        have hx18 : wr.cell? ⟨gb134, (x5_1 : Int).toNat, none⟩ = some (.int .i16 (rd [a1_0, a1_1, a1_2, a1_3] x5_1)) := ard_cell (k := .i16) (l := [a1_0, a1_1, a1_2, a1_3]) BK134.out p18 q18
        have hf18 := blk_frozen BK134.out (x5_1 : Int).toNat
        have P18 := Aside0.mk p18
        have Q18 := Aside0.mk q18
        replace p18 := eq_true p18
        replace q18 := eq_true q18
        go_wp2
        go_ret
        exact ⟨by first | rfl | (simp [errW_none, errW_some] <;> rfl) | (simp [*, errW_none, errW_some] <;> rfl), bl_ HB⟩
       ·rw [if_neg c19] at H
        have c19b0 : decide (0 < (rd [a1_0, a1_1, a1_2, a1_3] x5_1)) = false := decide_eq_false c19
        clear c19
        have H' := Aside0.mk H
        clear H
        have hcz21_0 : wr.cell? ⟨gb134, 0, none⟩ = some (.int .i16 a1_0) := (blk_cell BK134.out 0).trans rfl
        have hcz21_1 : wr.cell? ⟨gb134, 1, none⟩ = some (.int .i16 a1_1) := (blk_cell BK134.out 1).trans rfl
        have hcz21_2 : wr.cell? ⟨gb134, 2, none⟩ = some (.int .i16 a1_2) := (blk_cell BK134.out 2).trans rfl
        have hcz21_3 : wr.cell? ⟨gb134, 3, none⟩ = some (.int .i16 a1_3) := (blk_cell BK134.out 3).trans rfl
        have hfz21_0 := blk_frozen BK134.out 0
        have hfz21_1 := blk_frozen BK134.out 1
        have hfz21_2 := blk_frozen BK134.out 2
        have hfz21_3 := blk_frozen BK134.out 3
        have p15 : 0 ≤ (x5_1 : Int) := asm_
        have q15 : (x5_1 : Int) < 4 := asm_
        have hx15 : wr.cell? ⟨gb134, (x5_1 : Int).toNat, none⟩ = some (.int .i16 (rd [a1_0, a1_1, a1_2, a1_3] x5_1)) := ard_cell (k := .i16) (l := [a1_0, a1_1, a1_2, a1_3]) BK134.out p15 q15
        have hf15 := blk_frozen BK134.out (x5_1 : Int).toNat
        have P15 := Aside0.mk p15
        have Q15 := Aside0.mk q15
        replace p15 := eq_true p15
        replace q15 := eq_true q15
        have p18 : 0 ≤ (x5_1 : Int) := asm_
        have q18 : (x5_1 : Int) < 4 := asm_
        have hx18 : wr.cell? ⟨gb134, (x5_1 : Int).toNat, none⟩ = some (.int .i16 (rd [a1_0, a1_1, a1_2, a1_3] x5_1)) := ard_cell (k := .i16) (l := [a1_0, a1_1, a1_2, a1_3]) BK134.out p18 q18
        have hf18 := blk_frozen BK134.out (x5_1 : Int).toNat
        have P18 := Aside0.mk p18
        have Q18 := Aside0.mk q18
        replace p18 := eq_true p18
        replace q18 := eq_true q18
        go_wp2
        go_roundg k1
        case measure => have := HK1.out; omega
        case rel => exact ⟨(wrap64 (x5_1 + 1)), rs_, H', ⟨by have := HK1.out; omega⟩, ⟨pl_ BK134⟩, ⟨bl_ HB⟩⟩
     ·rw [if_neg c14] at H
      exact absurd H (by simp)
   ·rw [if_neg c4] at H
    have c4b0 : decide (x5_1 < 4) = false := decide_eq_false c4
    clear c4
    obtain rfl := Option.some.inj H
    go_wp2
    go_ret
    exact ⟨by first | rfl | (simp [errW_none, errW_some] <;> rfl) | (simp [*, errW_none, errW_some] <;> rfl), bl_ HB⟩

end Go.Proofs.Ytodmfjophjhbeaa.M
