-- By this seat's own program over the kit's printer (arrays, functions told by hand); nothing of it is trusted: the kernel checks it.
import Derived.Test.YtodmfjophjhbeaaMx0
import Derived.Test.YtodmfjophjhbeaaMx16
import Derived.Test.YtodmfjophjhbeaaMx25
namespace Go.Proofs.Ytodmfjophjhbeaa.M
open Go.RowKit Go.Proofs.YtodmfjophjhbeaaW.PrintWords Go.Proofs.YtodmfjophjhbeaaW.PrintLast Go.Proofs.YtodmfjophjhbeaaW.PrintMore
attribute [local go_sem] max2_int min2_int max_two min_two max_three min_three max_four min_four   -- for this text's walks alone
set_option linter.unusedVariables false
set_option linter.unusedSimpArgs false

/-! ### impl_MovesFrom: function 48 -/
def impl_MovesFrom.f (k : Nat) (l0_0 : List Int) (a0_1 : Int) (a0_2 : Int) (a0_3 : Int) (a0_4 : Int) (a0_5 : Bool) (a1_0 : Int) (a1_1 : Int) (a1_2 : Int) (a1_3 : Int) : Option ((List (S60)) × Int) := (impl_ValidWater.f k l0_0 a0_1 a0_2 a0_3 a0_4 a0_5 a1_0 a1_1 a1_2 a1_3).bind fun t344 => (if t344 = true then ((impl_Puzzle_moves.f k l0_0 a0_1 a0_2 a0_3 a0_4 a0_5 a1_0 a1_1 a1_2 a1_3).bind fun t345 => (some (t345, 0))) else (some (([] : List (S60)), 1)))
theorem impl_MovesFrom.mono : ∀ a0 a1 a2 a3 a4 a5 a6 a7 a8 a9 k, LeO (impl_MovesFrom.f k a0 a1 a2 a3 a4 a5 a6 a7 a8 a9) (impl_MovesFrom.f (k + 1) a0 a1 a2 a3 a4 a5 a6 a7 a8 a9) := by
 intro a0 a1 a2 a3 a4 a5 a6 a7 a8 a9 k
 unfold impl_MovesFrom.f
 repeat' first
   | (with_reducible exact impl_Puzzle_moves.mono _ _ _ _ _ _ _ _ _ _ _)
   | (with_reducible exact impl_ValidWater.mono _ _ _ _ _ _ _ _ _ _ _)
   | (with_reducible exact LeO.refl _)
   | (with_reducible exact LeO.none _)
   | (with_reducible refine LeO.ite ?_ ?_)
   | (with_reducible refine LeO.bind ?_ (fun _ => ?_))
   | exact impl_Puzzle_moves.mono _ _ _ _ _ _ _ _ _ _ _
   | exact impl_ValidWater.mono _ _ _ _ _ _ _ _ _ _ _
   | exact LeO.none _
   | refine LeO.ite ?_ ?_
   | refine LeO.bind ?_ (fun _ => ?_)
set_option maxHeartbeats 8000000 in
set_option maxRecDepth 100000 in
theorem impl_MovesFrom.calls (k : Nat) (A0_0 : Option Addr) (c0_0 : Nat) (l0_0 : List Int) (a0_1 : Int) (a0_2 : Int) (a0_3 : Int) (a0_4 : Int) (a0_5 : Bool) (a1_0 : Int) (a1_1 : Int) (a1_2 : Int) (a1_3 : Int) (r1 : List (S60)) (r2 : Int) (w : World) (hr0_0 : Kd.C (Kd.int .i16) w A0_0 l0_0.length l0_0) (hc0_0 : l0_0.length ≤ c0_0) (h : impl_MovesFrom.f k l0_0 a0_1 a0_2 a0_3 a0_4 a0_5 a1_0 a1_1 a1_2 a1_3 = some (r1, r2)) :
  Calls Try.prog 48 #[.agg #[.slice A0_0 l0_0.length c0_0, .int .i16 a0_1, .int .i16 a0_2, .int .i16 a0_3, .int .i16 a0_4, .bool a0_5], .agg #[.int .i16 a1_0, .int .i16 a1_1, .int .i16 a1_2, .int .i16 a1_3]] w fun e w' => ∃ v0_ : Value, e = .returned (.tuple #[v0_, .int .i64 r2]) ∧ Kd.R k60 60 w' w.heap.size (fun _ => True) v0_ r1 ∧ Below w.heap.size w w' := by
 have hu32 := Try.underlying32
 have hu30 := Try.underlying30
 have HR0_0 := Aside0.mk hr0_0
 have HC0_0 := Aside0.mk hc0_0
 clear hr0_0 hc0_0
 have HB := A_ (Below.refl w.heap.size w)
 have H : ((impl_ValidWater.f k l0_0 a0_1 a0_2 a0_3 a0_4 a0_5 a1_0 a1_1 a1_2 a1_3).bind fun t344 => (if t344 = true then ((impl_Puzzle_moves.f k l0_0 a0_1 a0_2 a0_3 a0_4 a0_5 a1_0 a1_1 a1_2 a1_3).bind fun t345 => (some (t345, 0))) else (some (([] : List (S60)), 1)))) = some (r1, r2) := h
 clear h
 replace H := Option.bind_eq_some_iff.mp H
 obtain ⟨t344, A30, H⟩ := H
 replace H : (if t344 = true then ((impl_Puzzle_moves.f k l0_0 a0_1 a0_2 a0_3 a0_4 a0_5 a1_0 a1_1 a1_2 a1_3).bind fun t345 => (some (t345, 0))) else (some (([] : List (S60)), 1))) = some (r1, r2) := H
 have A3 := Aside0.mk A30
 clear A30
 by_cases c4 : t344 = true
 ·subst c4
  have H1 : ((impl_Puzzle_moves.f k l0_0 a0_1 a0_2 a0_3 a0_4 a0_5 a1_0 a1_1 a1_2 a1_3).bind fun t345 => (some (t345, 0))) = some (r1, r2) := by rw [if_pos rfl] at H; exact H
  clear H
  have H := H1
  clear H1
  replace H := Option.bind_eq_some_iff.mp H
  obtain ⟨t345, A50, H⟩ := H
  replace H : (some (t345, 0)) = some (r1, r2) := H
  have A5 := Aside0.mk A50
  clear A50
  simp only [Option.some.injEq, Prod.mk.injEq] at H
  obtain ⟨rfl, rfl⟩ := H
  go_enter Try.func48, Try.ntmps48
  go_wp2_with (first | ((with_reducible refine gate_dst (N := 2) rfl ?_); refine box_event ?hg (N := 2) ?hd (cs := #[.slice A0_0 l0_0.length c0_0, .int .i16 a0_1, .int .i16 a0_2, .int .i16 a0_3, .int .i16 a0_4, .bool a0_5]) (t := 32) ?hr ?_; (case hd => rfl); (case hg => rfl); (case hr => first | (go_simp; done) | (go_simp; rfl)); intro gb342 hg w6 hbox hb; have n0_ := A_ (below_step (bl_ HB) hb); have n1_ := A_ (hbox); have n2_ := A_ ((by rw [hg]; exact (below_size (bl_ HB)) : w.heap.size ≤ gb342)); have n3_ := n2_; clear HB; have HB := n0_; have BK342 := n1_; have GW342 := n2_; have GE342 := n3_; clear n0_ n1_ n2_ n3_; clear hb hbox hg) | ((with_reducible refine gate_dst (N := 3) rfl ?_); refine box_event ?hg (N := 3) ?hd (cs := #[.int .i16 a1_0, .int .i16 a1_1, .int .i16 a1_2, .int .i16 a1_3]) (t := 30) ?hr ?_; (case hd => rfl); (case hg => rfl); (case hr => first | (go_simp; done) | (go_simp; rfl)); intro gb343 hg w7 hbox hb; have n0_ := A_ (blk_below (pl_ BK342) hb); have n1_ := A_ (below_step (bl_ HB) hb); have n2_ := A_ (hbox); have n3_ := A_ ((by rw [hg]; exact (below_size (bl_ HB)) : w.heap.size ≤ gb343)); have n4_ := n3_; have n5_ := A_ ((by rw [hg]; exact Nat.ne_of_lt (blk_lt (pl_ BK342)) : gb342 ≠ gb343)); have n6_ := Aside0.mk n5_.out.symm; clear BK342; clear HB; have BK342 := n0_; have HB := n1_; have BK343 := n2_; have GW343 := n3_; have GE343 := n4_; have NB342_343 := n5_; have NB343_342 := n6_; clear n0_ n1_ n2_ n3_ n4_ n5_ n6_; clear hb hbox hg; have hnb8 := NB342_343.out; have hnc8 := NB343_342.out; have hcz9_0 : w7.cell? ⟨gb342, 0, none⟩ = some (.slice A0_0 l0_0.length c0_0) := (blk_cell BK342.out 0).trans rfl; have hcz9_1 : w7.cell? ⟨gb342, 1, none⟩ = some (.int .i16 a0_1) := (blk_cell BK342.out 1).trans rfl; have hcz9_2 : w7.cell? ⟨gb342, 2, none⟩ = some (.int .i16 a0_2) := (blk_cell BK342.out 2).trans rfl; have hcz9_3 : w7.cell? ⟨gb342, 3, none⟩ = some (.int .i16 a0_3) := (blk_cell BK342.out 3).trans rfl; have hcz9_4 : w7.cell? ⟨gb342, 4, none⟩ = some (.int .i16 a0_4) := (blk_cell BK342.out 4).trans rfl; have hcz9_5 : w7.cell? ⟨gb342, 5, none⟩ = some (.bool a0_5) := (blk_cell BK342.out 5).trans rfl; have hfz9_0 := blk_frozen BK342.out 0; have hfz9_1 := blk_frozen BK342.out 1; have hfz9_2 := blk_frozen BK342.out 2; have hfz9_3 := blk_frozen BK342.out 3; have hfz9_4 := blk_frozen BK342.out 4; have hfz9_5 := blk_frozen BK342.out 5; have hcz10_0 : w7.cell? ⟨gb343, 0, none⟩ = some (.int .i16 a1_0) := (blk_cell BK343.out 0).trans rfl; have hcz10_1 : w7.cell? ⟨gb343, 1, none⟩ = some (.int .i16 a1_1) := (blk_cell BK343.out 1).trans rfl; have hcz10_2 : w7.cell? ⟨gb343, 2, none⟩ = some (.int .i16 a1_2) := (blk_cell BK343.out 2).trans rfl; have hcz10_3 : w7.cell? ⟨gb343, 3, none⟩ = some (.int .i16 a1_3) := (blk_cell BK343.out 3).trans rfl; have hfz10_0 := blk_frozen BK343.out 0; have hfz10_1 := blk_frozen BK343.out 1; have hfz10_2 := blk_frozen BK343.out 2; have hfz10_3 := blk_frozen BK343.out 3) | ((with_reducible refine gate_callee (f := 27) rfl ?_); refine goesL_ (some 8) rfl rfl Try.func27 (by kernel_rfl) rfl #[.agg #[.slice A0_0 l0_0.length c0_0, .int .i16 a0_1, .int .i16 a0_2, .int .i16 a0_3, .int .i16 a0_4, .bool a0_5], .agg #[.int .i16 a1_0, .int .i16 a1_1, .int .i16 a1_2, .int .i16 a1_3]] rfl arg_ ?_; (with_reducible refine (impl_ValidWater.calls k _ _ l0_0 a0_1 a0_2 a0_3 a0_4 a0_5 a1_0 a1_1 a1_2 a1_3 true _ ?side1 ?side2 A3.out).mono ?_); (case side1 => repeat (first | exact (Kd.C_below HR0_0.out HB.out) | (with_reducible refine Kd.C_alloc ?_ _) | (with_reducible refine Kd.C_drewN ?_ _) | (with_reducible refine Kd.C_drew ?_))); (case side2 => exact HC0_0.out); rintro e w11 ⟨rfl, hb⟩; refine ⟨_, rfl, ?_⟩; have n0_ := A_ (blk_below (pl_ BK342) hb); have n1_ := A_ (blk_below (pl_ BK343) hb); have n2_ := A_ (below_step (bl_ HB) hb); clear BK342; clear BK343; clear HB; have BK342 := n0_; have BK343 := n1_; have HB := n2_; clear n0_ n1_ n2_; (try clear hb); (try clear hb2); (try clear hk); (try clear hi); have hcz12_0 : w11.cell? ⟨gb342, 0, none⟩ = some (.slice A0_0 l0_0.length c0_0) := (blk_cell BK342.out 0).trans rfl; have hcz12_1 : w11.cell? ⟨gb342, 1, none⟩ = some (.int .i16 a0_1) := (blk_cell BK342.out 1).trans rfl; have hcz12_2 : w11.cell? ⟨gb342, 2, none⟩ = some (.int .i16 a0_2) := (blk_cell BK342.out 2).trans rfl; have hcz12_3 : w11.cell? ⟨gb342, 3, none⟩ = some (.int .i16 a0_3) := (blk_cell BK342.out 3).trans rfl; have hcz12_4 : w11.cell? ⟨gb342, 4, none⟩ = some (.int .i16 a0_4) := (blk_cell BK342.out 4).trans rfl; have hcz12_5 : w11.cell? ⟨gb342, 5, none⟩ = some (.bool a0_5) := (blk_cell BK342.out 5).trans rfl; have hfz12_0 := blk_frozen BK342.out 0; have hfz12_1 := blk_frozen BK342.out 1; have hfz12_2 := blk_frozen BK342.out 2; have hfz12_3 := blk_frozen BK342.out 3; have hfz12_4 := blk_frozen BK342.out 4; have hfz12_5 := blk_frozen BK342.out 5; have hcz13_0 : w11.cell? ⟨gb343, 0, none⟩ = some (.int .i16 a1_0) := (blk_cell BK343.out 0).trans rfl; have hcz13_1 : w11.cell? ⟨gb343, 1, none⟩ = some (.int .i16 a1_1) := (blk_cell BK343.out 1).trans rfl; have hcz13_2 : w11.cell? ⟨gb343, 2, none⟩ = some (.int .i16 a1_2) := (blk_cell BK343.out 2).trans rfl; have hcz13_3 : w11.cell? ⟨gb343, 3, none⟩ = some (.int .i16 a1_3) := (blk_cell BK343.out 3).trans rfl; have hfz13_0 := blk_frozen BK343.out 0; have hfz13_1 := blk_frozen BK343.out 1; have hfz13_2 := blk_frozen BK343.out 2; have hfz13_3 := blk_frozen BK343.out 3) | ((with_reducible refine gate_callee (f := 89) rfl ?_); refine goesL_ (some 12) rfl rfl Try.func89 (by kernel_rfl) rfl #[.agg #[.slice A0_0 l0_0.length c0_0, .int .i16 a0_1, .int .i16 a0_2, .int .i16 a0_3, .int .i16 a0_4, .bool a0_5], .agg #[.int .i16 a1_0, .int .i16 a1_1, .int .i16 a1_2, .int .i16 a1_3]] rfl arg_ ?_; (with_reducible refine (impl_Puzzle_moves.calls k _ _ l0_0 a0_1 a0_2 a0_3 a0_4 a0_5 a1_0 a1_1 a1_2 a1_3 t345 _ ?side1 ?side2 A5.out).mono ?_); (case side1 => repeat (first | exact (Kd.C_below HR0_0.out HB.out) | (with_reducible refine Kd.C_alloc ?_ _) | (with_reducible refine Kd.C_drewN ?_ _) | (with_reducible refine Kd.C_drew ?_))); (case side2 => exact HC0_0.out); rintro e w14 ⟨v346, rfl, ho0, hb⟩; refine ⟨_, rfl, ?_⟩; have n0_ := A_ (Kd.R_lower ho0 (below_size (bl_ HB))); have n1_ := A_ (blk_below (pl_ BK342) hb); have n2_ := A_ (blk_below (pl_ BK343) hb); have n3_ := A_ (below_step (bl_ HB) hb); clear BK342; clear BK343; clear HB; have HO347 := n0_; have BK342 := n1_; have BK343 := n2_; have HB := n3_; clear n0_ n1_ n2_ n3_; (try clear hb); (try clear hb2); (try clear hk); (try clear hi); (try clear ho0)))
  go_ret2
  exact ⟨_, by first | rfl | (simp [errW_none, errW_some] <;> rfl) | (simp [*, errW_none, errW_some] <;> rfl), pr_ HO347, bl_ HB⟩
 ·replace c4 := Bool.eq_false_iff.mpr c4
  subst c4
  have H1 : (some (([] : List (S60)), 1)) = some (r1, r2) := by rw [if_neg (show ¬ (false = true) by decide)] at H; exact H
  clear H
  have H := H1
  clear H1
  simp only [Option.some.injEq, Prod.mk.injEq] at H
  obtain ⟨rfl, rfl⟩ := H
  go_enter Try.func48, Try.ntmps48
  go_wp2_with (first | ((with_reducible refine gate_dst (N := 2) rfl ?_); refine box_event ?hg (N := 2) ?hd (cs := #[.slice A0_0 l0_0.length c0_0, .int .i16 a0_1, .int .i16 a0_2, .int .i16 a0_3, .int .i16 a0_4, .bool a0_5]) (t := 32) ?hr ?_; (case hd => rfl); (case hg => rfl); (case hr => first | (go_simp; done) | (go_simp; rfl)); intro gb342 hg w15 hbox hb; have n0_ := A_ (below_step (bl_ HB) hb); have n1_ := A_ (hbox); have n2_ := A_ ((by rw [hg]; exact (below_size (bl_ HB)) : w.heap.size ≤ gb342)); have n3_ := n2_; clear HB; have HB := n0_; have BK342 := n1_; have GW342 := n2_; have GE342 := n3_; clear n0_ n1_ n2_ n3_; clear hb hbox hg) | ((with_reducible refine gate_dst (N := 3) rfl ?_); refine box_event ?hg (N := 3) ?hd (cs := #[.int .i16 a1_0, .int .i16 a1_1, .int .i16 a1_2, .int .i16 a1_3]) (t := 30) ?hr ?_; (case hd => rfl); (case hg => rfl); (case hr => first | (go_simp; done) | (go_simp; rfl)); intro gb343 hg w16 hbox hb; have n0_ := A_ (blk_below (pl_ BK342) hb); have n1_ := A_ (below_step (bl_ HB) hb); have n2_ := A_ (hbox); have n3_ := A_ ((by rw [hg]; exact (below_size (bl_ HB)) : w.heap.size ≤ gb343)); have n4_ := n3_; have n5_ := A_ ((by rw [hg]; exact Nat.ne_of_lt (blk_lt (pl_ BK342)) : gb342 ≠ gb343)); have n6_ := Aside0.mk n5_.out.symm; clear BK342; clear HB; have BK342 := n0_; have HB := n1_; have BK343 := n2_; have GW343 := n3_; have GE343 := n4_; have NB342_343 := n5_; have NB343_342 := n6_; clear n0_ n1_ n2_ n3_ n4_ n5_ n6_; clear hb hbox hg; have hnb17 := NB342_343.out; have hnc17 := NB343_342.out; have hcz18_0 : w16.cell? ⟨gb342, 0, none⟩ = some (.slice A0_0 l0_0.length c0_0) := (blk_cell BK342.out 0).trans rfl; have hcz18_1 : w16.cell? ⟨gb342, 1, none⟩ = some (.int .i16 a0_1) := (blk_cell BK342.out 1).trans rfl; have hcz18_2 : w16.cell? ⟨gb342, 2, none⟩ = some (.int .i16 a0_2) := (blk_cell BK342.out 2).trans rfl; have hcz18_3 : w16.cell? ⟨gb342, 3, none⟩ = some (.int .i16 a0_3) := (blk_cell BK342.out 3).trans rfl; have hcz18_4 : w16.cell? ⟨gb342, 4, none⟩ = some (.int .i16 a0_4) := (blk_cell BK342.out 4).trans rfl; have hcz18_5 : w16.cell? ⟨gb342, 5, none⟩ = some (.bool a0_5) := (blk_cell BK342.out 5).trans rfl; have hfz18_0 := blk_frozen BK342.out 0; have hfz18_1 := blk_frozen BK342.out 1; have hfz18_2 := blk_frozen BK342.out 2; have hfz18_3 := blk_frozen BK342.out 3; have hfz18_4 := blk_frozen BK342.out 4; have hfz18_5 := blk_frozen BK342.out 5; have hcz19_0 : w16.cell? ⟨gb343, 0, none⟩ = some (.int .i16 a1_0) := (blk_cell BK343.out 0).trans rfl; have hcz19_1 : w16.cell? ⟨gb343, 1, none⟩ = some (.int .i16 a1_1) := (blk_cell BK343.out 1).trans rfl; have hcz19_2 : w16.cell? ⟨gb343, 2, none⟩ = some (.int .i16 a1_2) := (blk_cell BK343.out 2).trans rfl; have hcz19_3 : w16.cell? ⟨gb343, 3, none⟩ = some (.int .i16 a1_3) := (blk_cell BK343.out 3).trans rfl; have hfz19_0 := blk_frozen BK343.out 0; have hfz19_1 := blk_frozen BK343.out 1; have hfz19_2 := blk_frozen BK343.out 2; have hfz19_3 := blk_frozen BK343.out 3) | ((with_reducible refine gate_callee (f := 27) rfl ?_); refine goesL_ (some 8) rfl rfl Try.func27 (by kernel_rfl) rfl #[.agg #[.slice A0_0 l0_0.length c0_0, .int .i16 a0_1, .int .i16 a0_2, .int .i16 a0_3, .int .i16 a0_4, .bool a0_5], .agg #[.int .i16 a1_0, .int .i16 a1_1, .int .i16 a1_2, .int .i16 a1_3]] rfl arg_ ?_; (with_reducible refine (impl_ValidWater.calls k _ _ l0_0 a0_1 a0_2 a0_3 a0_4 a0_5 a1_0 a1_1 a1_2 a1_3 false _ ?side1 ?side2 A3.out).mono ?_); (case side1 => repeat (first | exact (Kd.C_below HR0_0.out HB.out) | (with_reducible refine Kd.C_alloc ?_ _) | (with_reducible refine Kd.C_drewN ?_ _) | (with_reducible refine Kd.C_drew ?_))); (case side2 => exact HC0_0.out); rintro e w20 ⟨rfl, hb⟩; refine ⟨_, rfl, ?_⟩; have n0_ := A_ (blk_below (pl_ BK342) hb); have n1_ := A_ (blk_below (pl_ BK343) hb); have n2_ := A_ (below_step (bl_ HB) hb); clear BK342; clear BK343; clear HB; have BK342 := n0_; have BK343 := n1_; have HB := n2_; clear n0_ n1_ n2_; (try clear hb); (try clear hb2); (try clear hk); (try clear hi)))
  go_ret2
  exact ⟨_, by first | rfl | (simp [errW_none, errW_some] <;> rfl) | (simp [*, errW_none, errW_some] <;> rfl), by first | exact Kd.R_nil _ _ _ _ _ | exact Kd.N_nil _ _ _ _ _ | exact Kd.V_nil _ _ _ _ _ | exact Kd.Q_nil _ _ _ _ _ | exact Kd.S_nil _ _ _ _ _, bl_ HB⟩

/-! ### laws_markInt16S: function 90 -/
def laws_markInt16S.l0 : Nat → List Int → Int → Int → Option (Int × List Int)
 | 0, _, _, _ => none
 | k + 1, x0, x1, x5 => if x5 < (x0.length : Int) then (if 0 ≤ x5 then (laws_markInt16S.l0 k (x0.set (x5 : Int).toNat (IntKind.i16.wrap (x1))) (wrap64 (x1 + 1)) (wrap64 (x5 + 1))) else (none)) else (some (x1, x0))
def laws_markInt16S.f (k : Nat) (l0 : List Int) (a1 : Int) : Option (Int × List Int) := laws_markInt16S.l0 k l0 a1 0
theorem laws_markInt16S.mono_l : ∀ k, (∀ y0 y1 y2, LeO (laws_markInt16S.l0 k y0 y1 y2) (laws_markInt16S.l0 (k + 1) y0 y1 y2))
 | 0 => fun _ _ _ r h => by simp [laws_markInt16S.l0] at h
 | k + 1 => by
  have ih0 := laws_markInt16S.mono_l k
  ·intro y0 y1 y2
   unfold laws_markInt16S.l0
   repeat' first
   | (with_reducible exact ih0 _ _ _)
   | (with_reducible exact LeO.refl _)
   | (with_reducible exact LeO.none _)
   | (with_reducible refine LeO.ite ?_ ?_)
   | (with_reducible refine LeO.bind ?_ (fun _ => ?_))
   | exact ih0 _ _ _
   | exact LeO.none _
   | refine LeO.ite ?_ ?_
   | refine LeO.bind ?_ (fun _ => ?_)
theorem laws_markInt16S.mono : ∀ a0 a1 k, LeO (laws_markInt16S.f k a0 a1) (laws_markInt16S.f (k + 1) a0 a1) := by
 intro a0 a1 k
 have ih0 := laws_markInt16S.mono_l k
 unfold laws_markInt16S.f
 repeat' first
   | (with_reducible exact ih0 _ _ _)
   | (with_reducible exact LeO.refl _)
   | (with_reducible exact LeO.none _)
   | (with_reducible refine LeO.ite ?_ ?_)
   | (with_reducible refine LeO.bind ?_ (fun _ => ?_))
   | exact ih0 _ _ _
   | exact LeO.none _
   | refine LeO.ite ?_ ?_
   | refine LeO.bind ?_ (fun _ => ?_)
set_option maxHeartbeats 8000000 in
set_option maxRecDepth 100000 in
theorem laws_markInt16S.calls (k : Nat) (P0_ : Nat → Prop) (u9000_ : Value) (l0 : List Int) (a1 : Int) (r1 : Int) (r2 : List Int) (w0 w : World) (hB : Below w0.heap.size w0 w) (ho0 : Kd.R (Kd.int .i16) 23 w w0.heap.size P0_ u9000_ l0) (h : laws_markInt16S.f k l0 a1 = some (r1, r2)) :
  Calls Try.prog 90 #[u9000_, .int .i64 a1] w fun e w' => e = .returned (.int .i64 r1) ∧ Kd.R (Kd.int .i16) 23 w' w0.heap.size (fun k_ => (P0_ k_ ∨ w.heap.size ≤ k_)) u9000_ r2 ∧ Below w0.heap.size w0 w' ∧ Kept w w' (fun k_ => P0_ k_) := by
 have HO0 := A_ (show Kd.R (Kd.int .i16) 23 w w0.heap.size (fun k_ => (P0_ k_ ∨ w.heap.size ≤ k_)) u9000_ l0 from Kd.R_mono ho0 (fun k_ hk => (.inl hk)))
 have HK := A_ (Kept.refl w (fun k_ => P0_ k_))
 have HW0 := Aside0.mk hB.size
 have HB := Aside0.mk hB
 clear hB
 have H : (laws_markInt16S.l0 k l0 a1 0) = some (r1, r2) := h
 clear h
 have H' := Aside0.mk H
 clear H
 go_enter Try.func90, Try.ntmps90
 go_wp2
 go_loopg [1, 5] k (fun kq v1 v5 w' => ∃ (x0_1 : List Int) (x1_1 : Int) (x5_1 : Int), v1 = .int .i64 x1_1 ∧ v5 = .int .i64 x5_1 ∧ Aside0 (laws_markInt16S.l0 kq x0_1 x1_1 x5_1 = some (r1, r2)) ∧ Aside0 (kq ≤ k) ∧ Aside0 (Kd.R (Kd.int .i16) 23 w' w0.heap.size (fun k_ => (P0_ k_ ∨ w.heap.size ≤ k_)) u9000_ x0_1) ∧ Aside0 (Kept w w' (fun k_ => P0_ k_)) ∧ Aside0 (Below w0.heap.size w0 w'))
 case atStart => exact ⟨(l0), (a1), (0), rs_, rs_, H', ⟨Nat.le_refl _⟩, ⟨pr_ HO0⟩, ⟨by repeat (first | (with_reducible first | exact HK.out | apply Kept.alloc | apply Kept.drewN | apply Kept.drew) | exact HK.out)⟩, ⟨bl_ HB⟩⟩
 case round =>
  clear H'
  try clear p2
  obtain ⟨x0_1, x1_1, x5_1, rfl, rfl, HA, HK1, HO_0, HK, HB⟩ := hrel
  cases gk with
  | zero => exact absurd HA.out (by simp [laws_markInt16S.l0])
  | succ k1 =>
   have H := HA.out
   clear HA
   simp only [laws_markInt16S.l0] at H
   by_cases c3 : x5_1 < (x0_1.length : Int)
   ·rw [if_pos c3] at H
    have c3b0 : decide (x5_1 < (x0_1.length : Int)) = true := decide_eq_true c3
    clear c3
    by_cases c4 : 0 ≤ x5_1
    ·rw [if_pos c4] at H
     have c4b0 : decide (0 ≤ x5_1) = true := decide_eq_true c4
     clear c4
     obtain ⟨y348, hy348⟩ : ∃ y_ : List Int, y_ = (x0_1.set (x5_1 : Int).toNat (IntKind.i16.wrap (x1_1))) := ⟨_, rfl⟩
     replace H : (laws_markInt16S.l0 k1 y348 (wrap64 (x1_1 + 1)) (wrap64 (x5_1 + 1))) = some (r1, r2) := by first | (rw [hy348]; with_reducible exact H) | (have H2_ := (Option.bind_some _ _).symm.trans H; rw [hy348]; with_reducible exact H2_) | (have H2_ := (Option.bind_some _ _).symm.trans H; with_reducible exact H2_) | with_reducible exact H | (rw [hy348]; exact H) | exact H
     have Ny348 := Aside0.mk hy348
     clear hy348
     have H' := Aside0.mk H
     clear H
     obtain ⟨Ao6, co6, eo6⟩ := Kd.R_slice HO_0.out
     subst eo6
     have p5 : 0 ≤ (x5_1 : Int) := asm_
     have q5 : (x5_1 : Int) < ((x0_1.length : Int) : Int) := asm_
     obtain ⟨go5, co5, eo5, gb5, gl5, cl5, HG5⟩ := Kd.R_form HO_0.out (by omega)
     (first | cases eo5 | (injection eo5 with ea_ en_ ec_; (first | subst ea_ | (injection ea_ with ea_; subst ea_)); subst ec_; clear en_))
     have GB5 := Aside0.mk gb5
     have GG5 := Aside0.mk HG5
     clear gb5 gl5 HG5
     have HMgo5 := A_ (show (P0_ go5 ∨ w.heap.size ≤ go5) from (HO_0.out.1 _ rfl))
     obtain ⟨hx5_0, hf5_0⟩ := Kd.R_celln 0 HO_0.out (x5_1 : Int) p5 q5
     replace p5 := eq_true p5
     replace q5 := eq_true q5
     have HP7 := Kd.R_putg HO_0.out (x5_1 : Int) (IntKind.i16.wrap (x1_1))
     go_wp2_with (first | ((with_reducible refine gate_store (t := 23) (p := 16) rfl ?_); refine store_event (t := 23) (p := 16) (v := ?vo_w8) (w1 := (wr.setCell ⟨go5, (x5_1 : Int).toNat, none⟩ (.int .i16 (IntKind.i16.wrap (x1_1))))) ?hg ?ho ?hn ?hr ?_; (case ho => rfl); (case hg => rfl); (case hn => rfl); (case hr => first | (go_simp; done) | (go_simp; rfl)); intro w8 hw; have hg : wr.grownBy w8 (some go5) := (by rw [hw]; exact HP7.2); have hp_ : Kd.R (Kd.int .i16) 23 w8 w0.heap.size (fun k_ => (P0_ k_ ∨ w.heap.size ≤ k_)) (.slice (some ⟨go5, 0, none⟩) x0_1.length co6) y348 := (by rw [hw, Ny348.out]; exact HP7.1); clear HP7; have n0_ := A_ (hp_); have n1_ := A_ ((by rw [hw]; exact below_set (HB.out) GB5.out : Below w0.heap.size w0 w8)); have n2_ := A_ (Kept.of_grown (S := (fun k_ => P0_ k_)) hg (by repeat (first | (with_reducible first | exact HK.out | apply Kept.alloc | apply Kept.drewN | apply Kept.drew) | exact HK.out)) (fun k_ e_ => (HO_0.out.1 k_ e_))); clear HO_0; clear HB; clear HK; have HO_0 := n0_; have HB := n1_; have HK := n2_; clear n0_ n1_ n2_; clear hg hw hp_))
     go_roundg k1
     case measure => have := HK1.out; omega
     case rel => exact ⟨(y348), (wrap64 (x1_1 + 1)), (wrap64 (x5_1 + 1)), rs_, rs_, H', ⟨by have := HK1.out; omega⟩, ⟨pr_ HO_0⟩, ⟨by repeat (first | (with_reducible first | exact HK.out | apply Kept.alloc | apply Kept.drewN | apply Kept.drew) | exact HK.out)⟩, ⟨bl_ HB⟩⟩
    ·rw [if_neg c4] at H
     exact absurd H (by simp)
   ·rw [if_neg c3] at H
    have c3b0 : decide (x5_1 < (x0_1.length : Int)) = false := decide_eq_false c3
    clear c3
    simp only [Option.some.injEq, Prod.mk.injEq] at H
    obtain ⟨rfl, rfl⟩ := H
    obtain ⟨Ao9, co9, eo9⟩ := Kd.R_slice HO_0.out
    subst eo9
    go_wp2
    go_ret
    exact ⟨by first | rfl | (simp [errW_none, errW_some] <;> rfl) | (simp [*, errW_none, errW_some] <;> rfl), pr_ HO_0, bl_ HB, by repeat (first | (with_reducible first | exact HK.out | apply Kept.alloc | apply Kept.drewN | apply Kept.drew) | exact HK.out)⟩

/-! ### laws_markPuzzle: function 49 -/
def laws_markPuzzle.f (k : Nat) (l0_0 : List Int) (a0_1 : Int) (a0_2 : Int) (a0_3 : Int) (a0_4 : Int) (a0_5 : Bool) (a1 : Int) : Option (Int × List Int) := (laws_markInt16S.f k l0_0 a1).bind fun bt350 => (some (bt350.1, bt350.2))
theorem laws_markPuzzle.mono : ∀ a0 a1 a2 a3 a4 a5 a6 k, LeO (laws_markPuzzle.f k a0 a1 a2 a3 a4 a5 a6) (laws_markPuzzle.f (k + 1) a0 a1 a2 a3 a4 a5 a6) := by
 intro a0 a1 a2 a3 a4 a5 a6 k
 unfold laws_markPuzzle.f
 repeat' first
   | (with_reducible exact laws_markInt16S.mono _ _ _)
   | (with_reducible exact LeO.refl _)
   | (with_reducible exact LeO.none _)
   | (with_reducible refine LeO.ite ?_ ?_)
   | (with_reducible refine LeO.bind ?_ (fun _ => ?_))
   | exact laws_markInt16S.mono _ _ _
   | exact LeO.none _
   | refine LeO.ite ?_ ?_
   | refine LeO.bind ?_ (fun _ => ?_)
set_option maxHeartbeats 8000000 in
set_option maxRecDepth 100000 in
theorem laws_markPuzzle.calls (k : Nat) (P0_0_ : Nat → Prop) (u9000_ : Value) (l0_0 : List Int) (a0_1 : Int) (a0_2 : Int) (a0_3 : Int) (a0_4 : Int) (a0_5 : Bool) (a1 : Int) (r1 : Int) (r2 : List Int) (w0 w : World) (hB : Below w0.heap.size w0 w) (ho0_0 : Kd.R (Kd.int .i16) 23 w w0.heap.size P0_0_ u9000_ l0_0) (h : laws_markPuzzle.f k l0_0 a0_1 a0_2 a0_3 a0_4 a0_5 a1 = some (r1, r2)) :
  Calls Try.prog 49 #[.agg #[u9000_, .int .i16 a0_1, .int .i16 a0_2, .int .i16 a0_3, .int .i16 a0_4, .bool a0_5], .int .i64 a1] w fun e w' => e = .returned (.int .i64 r1) ∧ Kd.R (Kd.int .i16) 23 w' w0.heap.size (fun k_ => (P0_0_ k_ ∨ w.heap.size ≤ k_)) u9000_ r2 ∧ Below w0.heap.size w0 w' ∧ Kept w w' (fun k_ => P0_0_ k_) := by
 have hu32 := Try.underlying32
 have HO0_0 := A_ (show Kd.R (Kd.int .i16) 23 w w0.heap.size (fun k_ => (P0_0_ k_ ∨ w.heap.size ≤ k_)) u9000_ l0_0 from Kd.R_mono ho0_0 (fun k_ hk => (.inl hk)))
 have HK := A_ (Kept.refl w (fun k_ => P0_0_ k_))
 have HW0 := Aside0.mk hB.size
 have HB := Aside0.mk hB
 clear hB
 have H : ((laws_markInt16S.f k l0_0 a1).bind fun bt350 => (some (bt350.1, bt350.2))) = some (r1, r2) := h
 clear h
 replace H := Option.bind_eq_some_iff.mp H
 obtain ⟨⟨t350, t351⟩, A30, H⟩ := H
 replace H : (some (t350, t351)) = some (r1, r2) := H
 have A3 := Aside0.mk A30
 clear A30
 simp only [Option.some.injEq, Prod.mk.injEq] at H
 obtain ⟨rfl, rfl⟩ := H
 obtain ⟨Ao4, co4, eo4⟩ := Kd.R_slice HO0_0.out
 subst eo4
 go_enter Try.func49, Try.ntmps49
 go_wp2_with (first | ((with_reducible refine gate_dst (N := 2) rfl ?_); refine box_event ?hg (N := 2) ?hd (cs := #[.slice Ao4 l0_0.length co4, .int .i16 a0_1, .int .i16 a0_2, .int .i16 a0_3, .int .i16 a0_4, .bool a0_5]) (t := 32) ?hr ?_; (case hd => rfl); (case hg => rfl); (case hr => first | (go_simp; done) | (go_simp; rfl)); intro gb349 hg w5 hbox hb; have n0_ := A_ (Kd.R_below (pr_ HO0_0) hb); have n1_ := A_ (Kept.below (S := (fun k_ => P0_0_ k_)) (by repeat (first | (with_reducible first | exact HK.out | apply Kept.alloc | apply Kept.drewN | apply Kept.drew) | exact HK.out)) hb); have n2_ := A_ (below_step (bl_ HB) hb); have n3_ := A_ (hbox); have n4_ := A_ ((by rw [hg]; exact (by first | exact HK.out.1 | exact (show Kept w _ (fun k_ => P0_0_ k_) from by repeat (first | (with_reducible first | exact HK.out | apply Kept.alloc | apply Kept.drewN | apply Kept.drew) | exact HK.out)).1) : w.heap.size ≤ gb349)); have n5_ := A_ ((by rw [hg]; exact (below_size (bl_ HB)) : w0.heap.size ≤ gb349)); clear HO0_0; clear HK; clear HB; have HO0_0 := n0_; have HK := n1_; have HB := n2_; have BK349 := n3_; have GW349 := n4_; have GE349 := n5_; clear n0_ n1_ n2_ n3_ n4_ n5_; clear hb hbox hg; have hcz6_0 : w5.cell? ⟨gb349, 0, none⟩ = some (.slice Ao4 l0_0.length co4) := (blk_cell BK349.out 0).trans rfl; have hcz6_1 : w5.cell? ⟨gb349, 1, none⟩ = some (.int .i16 a0_1) := (blk_cell BK349.out 1).trans rfl; have hcz6_2 : w5.cell? ⟨gb349, 2, none⟩ = some (.int .i16 a0_2) := (blk_cell BK349.out 2).trans rfl; have hcz6_3 : w5.cell? ⟨gb349, 3, none⟩ = some (.int .i16 a0_3) := (blk_cell BK349.out 3).trans rfl; have hcz6_4 : w5.cell? ⟨gb349, 4, none⟩ = some (.int .i16 a0_4) := (blk_cell BK349.out 4).trans rfl; have hcz6_5 : w5.cell? ⟨gb349, 5, none⟩ = some (.bool a0_5) := (blk_cell BK349.out 5).trans rfl; have hfz6_0 := blk_frozen BK349.out 0; have hfz6_1 := blk_frozen BK349.out 1; have hfz6_2 := blk_frozen BK349.out 2; have hfz6_3 := blk_frozen BK349.out 3; have hfz6_4 := blk_frozen BK349.out 4; have hfz6_5 := blk_frozen BK349.out 5) | ((with_reducible refine gate_callee (f := 90) rfl ?_); refine goesL_ (some 8) rfl rfl Try.func90 (by kernel_rfl) rfl #[.slice Ao4 l0_0.length co4, .int .i64 a1] rfl arg_ ?_; (with_reducible refine (laws_markInt16S.calls k (fun k_ => some k_ = (.slice Ao4 l0_0.length co4 : Value).ownBlock) (.slice Ao4 l0_0.length co4) l0_0 a1 t350 t351 w0 _ ?side1 ?side2 A3.out).mono ?_); (case side1 => repeat (first | (with_reducible first | exact HB.out | apply below_alloc | apply pw_below_drewN | apply below_drew1) | exact HB.out)); (case side2 => exact Kd.R_tight rfl HO0_0.out); rintro e w7 ⟨rfl, hy0, hb, hkp⟩; refine ⟨_, rfl, ?_⟩; have n0_ := A_ (Kd.R_reok rfl hy0 (fun k_ e_ => HO0_0.out.1 k_ e_)); have n1_ := A_ (blk_kept (pl_ BK349) hkp (fun hs_ => (fun e_ => (Kd.R_ne HO0_0.out BK349.out (by decide)) e_) hs_)); have n2_ := A_ (Kept.then_ (S := (fun k_ => P0_0_ k_)) (by repeat (first | (with_reducible first | exact HK.out | apply Kept.alloc | apply Kept.drewN | apply Kept.drew | refine Kept.setCell ?_ (.inr GW349.out) _) | exact HK.out)) hkp (fun k_ hs_ => (fun e_ => (HO0_0.out.1 k_ e_.symm)) hs_)); have n3_ := A_ (hb); clear HO0_0; clear BK349; clear HK; clear HB; have HO0_0 := n0_; have BK349 := n1_; have HK := n2_; have HB := n3_; clear n0_ n1_ n2_ n3_; (try clear hb); (try clear hkp); (try clear hy0)))
 go_ret
 exact ⟨by first | rfl | (simp [errW_none, errW_some] <;> rfl) | (simp [*, errW_none, errW_some] <;> rfl), pr_ HO0_0, bl_ HB, by repeat (first | (with_reducible first | exact HK.out | apply Kept.alloc | apply Kept.drewN | apply Kept.drew | refine Kept.setCell ?_ (.inr GW349.out) _) | exact HK.out)⟩

end Go.Proofs.Ytodmfjophjhbeaa.M
