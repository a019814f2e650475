-- By this seat's own program over the kit's printer (arrays, functions told by hand); nothing of it is trusted: the kernel checks it.
import Derived.Test.YtodmfjophjhbeaaMx0
import Derived.Test.YtodmfjophjhbeaaMx11
namespace Go.Proofs.Ytodmfjophjhbeaa.M
open Go.RowKit Go.Proofs.YtodmfjophjhbeaaW.PrintWords Go.Proofs.YtodmfjophjhbeaaW.PrintLast Go.Proofs.YtodmfjophjhbeaaW.PrintMore
attribute [local go_sem] max2_int min2_int max_two min_two max_three min_three max_four min_four   -- for this text's walks alone
set_option linter.unusedVariables false
set_option linter.unusedSimpArgs false

/-! ### impl_divisor: function 76 -/
def impl_divisor.l0 : Nat → Int → Int → Option (Int)
 | 0, _, _ => none
 | k + 1, x0, x1 => if x1 = 0 then (some x0) else (impl_divisor.l0 k x1 (Int.tmod x0 x1))
def impl_divisor.f (k : Nat) (a0 : Int) (a1 : Int) : Option (Int) := impl_divisor.l0 k a0 a1
theorem impl_divisor.mono_l : ∀ k, (∀ y0 y1, LeO (impl_divisor.l0 k y0 y1) (impl_divisor.l0 (k + 1) y0 y1))
 | 0 => fun _ _ r h => by simp [impl_divisor.l0] at h
 | k + 1 => by
  have ih0 := impl_divisor.mono_l k
  ·intro y0 y1
   unfold impl_divisor.l0
   repeat' first
   | (with_reducible exact ih0 _ _)
   | (with_reducible exact LeO.refl _)
   | (with_reducible exact LeO.none _)
   | (with_reducible refine LeO.ite ?_ ?_)
   | (with_reducible refine LeO.bind ?_ (fun _ => ?_))
   | exact ih0 _ _
   | exact LeO.none _
   | refine LeO.ite ?_ ?_
   | refine LeO.bind ?_ (fun _ => ?_)
theorem impl_divisor.mono : ∀ a0 a1 k, LeO (impl_divisor.f k a0 a1) (impl_divisor.f (k + 1) a0 a1) := by
 intro a0 a1 k
 have ih0 := impl_divisor.mono_l k
 unfold impl_divisor.f
 repeat' first
   | (with_reducible exact ih0 _ _)
   | (with_reducible exact LeO.refl _)
   | (with_reducible exact LeO.none _)
   | (with_reducible refine LeO.ite ?_ ?_)
   | (with_reducible refine LeO.bind ?_ (fun _ => ?_))
   | exact ih0 _ _
   | exact LeO.none _
   | refine LeO.ite ?_ ?_
   | refine LeO.bind ?_ (fun _ => ?_)
set_option maxHeartbeats 8000000 in
set_option maxRecDepth 100000 in
theorem impl_divisor.calls (k : Nat) (a0 : Int) (a1 : Int) (r : Int) (w : World) (h : impl_divisor.f k a0 a1 = some r) :
  Calls Try.prog 76 #[.int .i64 a0, .int .i64 a1] w fun e w' => e = .returned (.int .i64 r) ∧ Drawn0 w w' := by
 have H : (impl_divisor.l0 k a0 a1) = some r := h
 clear h
 have H' := Aside0.mk H
 clear H
 go_enter Try.func76, Try.ntmps76
 go_wp2
 repeat (go_quiet (fail); try go_wp2)
 go_loopg [0, 1] k (fun kq v0 v1 w' => ∃ (x0_1 : Int) (x1_1 : Int), v0 = .int .i64 x0_1 ∧ v1 = .int .i64 x1_1 ∧ Aside0 (impl_divisor.l0 kq x0_1 x1_1 = some r) ∧ Aside0 (kq ≤ k) ∧ Drawn0 w w')
 case atStart => exact ⟨(a0), (a1), rs_, rs_, H', ⟨Nat.le_refl _⟩, by repeat (first | exact Drawn0.refl _ | apply Drawn0.step)⟩
 case round =>
  clear H'
  try clear p2
  obtain ⟨x0_1, x1_1, rfl, rfl, HA, HK1, ⟨m1, rfl⟩⟩ := hrel
  cases gk with
  | zero => exact absurd HA.out (by simp [impl_divisor.l0])
  | succ k1 =>
   have H := HA.out
   clear HA
   simp only [impl_divisor.l0] at H
   by_cases c3 : x1_1 = 0
   ·rw [if_pos c3] at H
    have c3b0 : (x1_1 == 0) = true := beq_iff_eq.mpr c3
    have c3b1 : (x1_1 != 0) = false := bne_eq_false_iff_eq.mpr c3
    clear c3
    obtain rfl := Option.some.inj H
    go_wp2
    repeat (go_quiet (fail); try go_wp2)
    go_ret
    exact ⟨by first | rfl | (simp; done) | (simp [*]; done), by repeat (first | exact Drawn0.refl _ | apply Drawn0.step)⟩
   ·rw [if_neg c3] at H
    have c3b0 : (x1_1 == 0) = false := beq_eq_false_iff_ne.mpr c3
    have c3b1 : (x1_1 != 0) = true := bne_iff_ne.mpr c3
    have H' := Aside0.mk H
    clear H
    go_wp2
    repeat (go_quiet (fail); try go_wp2)
    go_roundg k1
    case measure => have := HK1.out; omega
    case rel => exact ⟨(x1_1), (Int.tmod x0_1 x1_1), rs_, rs_, H', ⟨by have := HK1.out; omega⟩, by repeat (first | exact Drawn0.refl _ | apply Drawn0.step)⟩

/-! ### impl_StepOfJugs: function 31 -/
def impl_StepOfJugs.l0 : Nat → Int → List Int → Int → Int → List Int → Int → Int → Int → Int → Bool → Option (Int × Int)
 | 0, _, _, _, _, _, _, _, _, _, _ => none
 | k + 1, x4, x11, x12, x13, x159000, x159001, x159002, x159003, x159004, x159005 => if x13 < x12 then (if 0 ≤ x13 then (if x13 < (x11.length : Int) then ((impl_divisor.f k x4 (wrap64 (rd x11 x13))).bind fun t161 => (if x13 < 4 then ((impl_divisor.f k t161 (wrap64 (rd [x159001, x159002, x159003, x159004] x13))).bind fun t162 => (impl_StepOfJugs.l0 k t162 x11 x12 (wrap64 (x13 + 1)) x159000 x159001 x159002 x159003 x159004 x159005)) else (none))) else (none)) else (none)) else (some (x4, 0))
def impl_StepOfJugs.f (k : Nat) (l0_0 : List Int) (a0_1 : Int) (a0_2 : Int) (a0_3 : Int) (a0_4 : Int) (a0_5 : Bool) : Option (Int × Int) := (impl_ValidPuzzle.f k l0_0 a0_1 a0_2 a0_3 a0_4 a0_5).bind fun t159 => (if t159 = true then (impl_StepOfJugs.l0 k 0 l0_0 (l0_0.length : Int) 0 l0_0 a0_1 a0_2 a0_3 a0_4 a0_5) else (some (0, 1)))
theorem impl_StepOfJugs.mono_l : ∀ k, (∀ y0 y1 y2 y3 y4 y5 y6 y7 y8 y9, LeO (impl_StepOfJugs.l0 k y0 y1 y2 y3 y4 y5 y6 y7 y8 y9) (impl_StepOfJugs.l0 (k + 1) y0 y1 y2 y3 y4 y5 y6 y7 y8 y9))
 | 0 => fun _ _ _ _ _ _ _ _ _ _ r h => by simp [impl_StepOfJugs.l0] at h
 | k + 1 => by
  have ih0 := impl_StepOfJugs.mono_l k
  ·intro y0 y1 y2 y3 y4 y5 y6 y7 y8 y9
   unfold impl_StepOfJugs.l0
   repeat' first
   | (with_reducible exact ih0 _ _ _ _ _ _ _ _ _ _)
   | (with_reducible exact impl_ValidPuzzle.mono _ _ _ _ _ _ _)
   | (with_reducible exact impl_divisor.mono _ _ _)
   | (with_reducible exact LeO.refl _)
   | (with_reducible exact LeO.none _)
   | (with_reducible refine LeO.ite ?_ ?_)
   | (with_reducible refine LeO.bind ?_ (fun _ => ?_))
   | exact ih0 _ _ _ _ _ _ _ _ _ _
   | exact impl_ValidPuzzle.mono _ _ _ _ _ _ _
   | exact impl_divisor.mono _ _ _
   | exact LeO.none _
   | refine LeO.ite ?_ ?_
   | refine LeO.bind ?_ (fun _ => ?_)
theorem impl_StepOfJugs.mono : ∀ a0 a1 a2 a3 a4 a5 k, LeO (impl_StepOfJugs.f k a0 a1 a2 a3 a4 a5) (impl_StepOfJugs.f (k + 1) a0 a1 a2 a3 a4 a5) := by
 intro a0 a1 a2 a3 a4 a5 k
 have ih0 := impl_StepOfJugs.mono_l k
 unfold impl_StepOfJugs.f
 repeat' first
   | (with_reducible exact ih0 _ _ _ _ _ _ _ _ _ _)
   | (with_reducible exact impl_ValidPuzzle.mono _ _ _ _ _ _ _)
   | (with_reducible exact impl_divisor.mono _ _ _)
   | (with_reducible exact LeO.refl _)
   | (with_reducible exact LeO.none _)
   | (with_reducible refine LeO.ite ?_ ?_)
   | (with_reducible refine LeO.bind ?_ (fun _ => ?_))
   | exact ih0 _ _ _ _ _ _ _ _ _ _
   | exact impl_ValidPuzzle.mono _ _ _ _ _ _ _
   | exact impl_divisor.mono _ _ _
   | exact LeO.none _
   | refine LeO.ite ?_ ?_
   | refine LeO.bind ?_ (fun _ => ?_)
set_option maxHeartbeats 8000000 in
set_option maxRecDepth 100000 in
theorem impl_StepOfJugs.calls (k : Nat) (A0_0 : Option Addr) (c0_0 : Nat) (l0_0 : List Int) (a0_1 : Int) (a0_2 : Int) (a0_3 : Int) (a0_4 : Int) (a0_5 : Bool) (r1 : Int) (r2 : Int) (w : World) (hr0_0 : Kd.C (Kd.int .i16) w A0_0 l0_0.length l0_0) (hc0_0 : l0_0.length ≤ c0_0) (h : impl_StepOfJugs.f k l0_0 a0_1 a0_2 a0_3 a0_4 a0_5 = some (r1, r2)) :
  Calls Try.prog 31 #[.agg #[.slice A0_0 l0_0.length c0_0, .int .i16 a0_1, .int .i16 a0_2, .int .i16 a0_3, .int .i16 a0_4, .bool a0_5]] w fun e w' => e = .returned (.tuple #[.int .i64 r1, .int .i64 r2]) ∧ Below w.heap.size w w' := by
 have hu32 := Try.underlying32
 have HR0_0 := Aside0.mk hr0_0
 have HC0_0 := Aside0.mk hc0_0
 clear hr0_0 hc0_0
 have HB := A_ (Below.refl w.heap.size w)
 have H : ((impl_ValidPuzzle.f k l0_0 a0_1 a0_2 a0_3 a0_4 a0_5).bind fun t159 => (if t159 = true then (impl_StepOfJugs.l0 k 0 l0_0 (l0_0.length : Int) 0 l0_0 a0_1 a0_2 a0_3 a0_4 a0_5) else (some (0, 1)))) = some (r1, r2) := h
 clear h
 replace H := Option.bind_eq_some_iff.mp H
 obtain ⟨t159, A20, H⟩ := H
 replace H : (if t159 = true then (impl_StepOfJugs.l0 k 0 l0_0 (l0_0.length : Int) 0 l0_0 a0_1 a0_2 a0_3 a0_4 a0_5) else (some (0, 1))) = some (r1, r2) := H
 have A2 := Aside0.mk A20
 clear A20
 by_cases c3 : t159 = true
 ·subst c3
  have H1 : (impl_StepOfJugs.l0 k 0 l0_0 (l0_0.length : Int) 0 l0_0 a0_1 a0_2 a0_3 a0_4 a0_5) = some (r1, r2) := by rw [if_pos rfl] at H; exact H
  clear H
  have H := H1
  clear H1
  have H' := Aside0.mk H
  clear H
  go_enter Try.func31, Try.ntmps31
  go_wp2_with (first | ((with_reducible refine gate_dst (N := 1) rfl ?_); refine box_event ?hg (N := 1) ?hd (cs := #[.slice A0_0 l0_0.length c0_0, .int .i16 a0_1, .int .i16 a0_2, .int .i16 a0_3, .int .i16 a0_4, .bool a0_5]) (t := 32) ?hr ?_; (case hd => rfl); (case hg => rfl); (case hr => first | (go_simp; done) | (go_simp; rfl)); intro gb158 hg w4 hbox hb; have n0_ := A_ (below_step (bl_ HB) hb); have n1_ := A_ (hbox); have n2_ := A_ ((by rw [hg]; exact (below_size (bl_ HB)) : w.heap.size ≤ gb158)); have n3_ := n2_; clear HB; have HB := n0_; have BK158 := n1_; have GW158 := n2_; have GE158 := n3_; clear n0_ n1_ n2_ n3_; clear hb hbox hg; have hcz5_0 : w4.cell? ⟨gb158, 0, none⟩ = some (.slice A0_0 l0_0.length c0_0) := (blk_cell BK158.out 0).trans rfl; have hcz5_1 : w4.cell? ⟨gb158, 1, none⟩ = some (.int .i16 a0_1) := (blk_cell BK158.out 1).trans rfl; have hcz5_2 : w4.cell? ⟨gb158, 2, none⟩ = some (.int .i16 a0_2) := (blk_cell BK158.out 2).trans rfl; have hcz5_3 : w4.cell? ⟨gb158, 3, none⟩ = some (.int .i16 a0_3) := (blk_cell BK158.out 3).trans rfl; have hcz5_4 : w4.cell? ⟨gb158, 4, none⟩ = some (.int .i16 a0_4) := (blk_cell BK158.out 4).trans rfl; have hcz5_5 : w4.cell? ⟨gb158, 5, none⟩ = some (.bool a0_5) := (blk_cell BK158.out 5).trans rfl; have hfz5_0 := blk_frozen BK158.out 0; have hfz5_1 := blk_frozen BK158.out 1; have hfz5_2 := blk_frozen BK158.out 2; have hfz5_3 := blk_frozen BK158.out 3; have hfz5_4 := blk_frozen BK158.out 4; have hfz5_5 := blk_frozen BK158.out 5) | (go_at_call 24; (with_reducible refine (impl_ValidPuzzle.calls k _ _ l0_0 a0_1 a0_2 a0_3 a0_4 a0_5 true _ ?side1 ?side2 A2.out).mono ?_); (case side1 => repeat (first | exact (Kd.C_below HR0_0.out HB.out) | (with_reducible refine Kd.C_alloc ?_ _) | (with_reducible refine Kd.C_drewN ?_ _) | (with_reducible refine Kd.C_drew ?_))); (case side2 => exact HC0_0.out); rintro e w6 ⟨rfl, hb⟩; have n0_ := A_ (blk_below (pl_ BK158) hb); have n1_ := A_ (below_step (bl_ HB) hb); clear BK158; clear HB; have BK158 := n0_; have HB := n1_; clear n0_ n1_; (try clear hb); (try clear hb2); (try clear hk); (try clear hi); have hcz7_0 : w6.cell? ⟨gb158, 0, none⟩ = some (.slice A0_0 l0_0.length c0_0) := (blk_cell BK158.out 0).trans rfl; have hcz7_1 : w6.cell? ⟨gb158, 1, none⟩ = some (.int .i16 a0_1) := (blk_cell BK158.out 1).trans rfl; have hcz7_2 : w6.cell? ⟨gb158, 2, none⟩ = some (.int .i16 a0_2) := (blk_cell BK158.out 2).trans rfl; have hcz7_3 : w6.cell? ⟨gb158, 3, none⟩ = some (.int .i16 a0_3) := (blk_cell BK158.out 3).trans rfl; have hcz7_4 : w6.cell? ⟨gb158, 4, none⟩ = some (.int .i16 a0_4) := (blk_cell BK158.out 4).trans rfl; have hcz7_5 : w6.cell? ⟨gb158, 5, none⟩ = some (.bool a0_5) := (blk_cell BK158.out 5).trans rfl; have hfz7_0 := blk_frozen BK158.out 0; have hfz7_1 := blk_frozen BK158.out 1; have hfz7_2 := blk_frozen BK158.out 2; have hfz7_3 := blk_frozen BK158.out 3; have hfz7_4 := blk_frozen BK158.out 4; have hfz7_5 := blk_frozen BK158.out 5))
  repeat (go_quiet (first | ((with_reducible refine gate_dst (N := 1) rfl ?_); refine box_event ?hg (N := 1) ?hd (cs := #[.slice A0_0 l0_0.length c0_0, .int .i16 a0_1, .int .i16 a0_2, .int .i16 a0_3, .int .i16 a0_4, .bool a0_5]) (t := 32) ?hr ?_; (case hd => rfl); (case hg => rfl); (case hr => first | (go_simp; done) | (go_simp; rfl)); intro gb158 hg w4 hbox hb; have n0_ := A_ (below_step (bl_ HB) hb); have n1_ := A_ (hbox); have n2_ := A_ ((by rw [hg]; exact (below_size (bl_ HB)) : w.heap.size ≤ gb158)); have n3_ := n2_; clear HB; have HB := n0_; have BK158 := n1_; have GW158 := n2_; have GE158 := n3_; clear n0_ n1_ n2_ n3_; clear hb hbox hg; have hcz5_0 : w4.cell? ⟨gb158, 0, none⟩ = some (.slice A0_0 l0_0.length c0_0) := (blk_cell BK158.out 0).trans rfl; have hcz5_1 : w4.cell? ⟨gb158, 1, none⟩ = some (.int .i16 a0_1) := (blk_cell BK158.out 1).trans rfl; have hcz5_2 : w4.cell? ⟨gb158, 2, none⟩ = some (.int .i16 a0_2) := (blk_cell BK158.out 2).trans rfl; have hcz5_3 : w4.cell? ⟨gb158, 3, none⟩ = some (.int .i16 a0_3) := (blk_cell BK158.out 3).trans rfl; have hcz5_4 : w4.cell? ⟨gb158, 4, none⟩ = some (.int .i16 a0_4) := (blk_cell BK158.out 4).trans rfl; have hcz5_5 : w4.cell? ⟨gb158, 5, none⟩ = some (.bool a0_5) := (blk_cell BK158.out 5).trans rfl; have hfz5_0 := blk_frozen BK158.out 0; have hfz5_1 := blk_frozen BK158.out 1; have hfz5_2 := blk_frozen BK158.out 2; have hfz5_3 := blk_frozen BK158.out 3; have hfz5_4 := blk_frozen BK158.out 4; have hfz5_5 := blk_frozen BK158.out 5) | (go_at_call 24; (with_reducible refine (impl_ValidPuzzle.calls k _ _ l0_0 a0_1 a0_2 a0_3 a0_4 a0_5 true _ ?side1 ?side2 A2.out).mono ?_); (case side1 => repeat (first | exact (Kd.C_below HR0_0.out HB.out) | (with_reducible refine Kd.C_alloc ?_ _) | (with_reducible refine Kd.C_drewN ?_ _) | (with_reducible refine Kd.C_drew ?_))); (case side2 => exact HC0_0.out); rintro e w6 ⟨rfl, hb⟩; have n0_ := A_ (blk_below (pl_ BK158) hb); have n1_ := A_ (below_step (bl_ HB) hb); clear BK158; clear HB; have BK158 := n0_; have HB := n1_; clear n0_ n1_; (try clear hb); (try clear hb2); (try clear hk); (try clear hi); have hcz7_0 : w6.cell? ⟨gb158, 0, none⟩ = some (.slice A0_0 l0_0.length c0_0) := (blk_cell BK158.out 0).trans rfl; have hcz7_1 : w6.cell? ⟨gb158, 1, none⟩ = some (.int .i16 a0_1) := (blk_cell BK158.out 1).trans rfl; have hcz7_2 : w6.cell? ⟨gb158, 2, none⟩ = some (.int .i16 a0_2) := (blk_cell BK158.out 2).trans rfl; have hcz7_3 : w6.cell? ⟨gb158, 3, none⟩ = some (.int .i16 a0_3) := (blk_cell BK158.out 3).trans rfl; have hcz7_4 : w6.cell? ⟨gb158, 4, none⟩ = some (.int .i16 a0_4) := (blk_cell BK158.out 4).trans rfl; have hcz7_5 : w6.cell? ⟨gb158, 5, none⟩ = some (.bool a0_5) := (blk_cell BK158.out 5).trans rfl; have hfz7_0 := blk_frozen BK158.out 0; have hfz7_1 := blk_frozen BK158.out 1; have hfz7_2 := blk_frozen BK158.out 2; have hfz7_3 := blk_frozen BK158.out 3; have hfz7_4 := blk_frozen BK158.out 4; have hfz7_5 := blk_frozen BK158.out 5)); try go_wp2_with (first | ((with_reducible refine gate_dst (N := 1) rfl ?_); refine box_event ?hg (N := 1) ?hd (cs := #[.slice A0_0 l0_0.length c0_0, .int .i16 a0_1, .int .i16 a0_2, .int .i16 a0_3, .int .i16 a0_4, .bool a0_5]) (t := 32) ?hr ?_; (case hd => rfl); (case hg => rfl); (case hr => first | (go_simp; done) | (go_simp; rfl)); intro gb158 hg w4 hbox hb; have n0_ := A_ (below_step (bl_ HB) hb); have n1_ := A_ (hbox); have n2_ := A_ ((by rw [hg]; exact (below_size (bl_ HB)) : w.heap.size ≤ gb158)); have n3_ := n2_; clear HB; have HB := n0_; have BK158 := n1_; have GW158 := n2_; have GE158 := n3_; clear n0_ n1_ n2_ n3_; clear hb hbox hg; have hcz5_0 : w4.cell? ⟨gb158, 0, none⟩ = some (.slice A0_0 l0_0.length c0_0) := (blk_cell BK158.out 0).trans rfl; have hcz5_1 : w4.cell? ⟨gb158, 1, none⟩ = some (.int .i16 a0_1) := (blk_cell BK158.out 1).trans rfl; have hcz5_2 : w4.cell? ⟨gb158, 2, none⟩ = some (.int .i16 a0_2) := (blk_cell BK158.out 2).trans rfl; have hcz5_3 : w4.cell? ⟨gb158, 3, none⟩ = some (.int .i16 a0_3) := (blk_cell BK158.out 3).trans rfl; have hcz5_4 : w4.cell? ⟨gb158, 4, none⟩ = some (.int .i16 a0_4) := (blk_cell BK158.out 4).trans rfl; have hcz5_5 : w4.cell? ⟨gb158, 5, none⟩ = some (.bool a0_5) := (blk_cell BK158.out 5).trans rfl; have hfz5_0 := blk_frozen BK158.out 0; have hfz5_1 := blk_frozen BK158.out 1; have hfz5_2 := blk_frozen BK158.out 2; have hfz5_3 := blk_frozen BK158.out 3; have hfz5_4 := blk_frozen BK158.out 4; have hfz5_5 := blk_frozen BK158.out 5) | (go_at_call 24; (with_reducible refine (impl_ValidPuzzle.calls k _ _ l0_0 a0_1 a0_2 a0_3 a0_4 a0_5 true _ ?side1 ?side2 A2.out).mono ?_); (case side1 => repeat (first | exact (Kd.C_below HR0_0.out HB.out) | (with_reducible refine Kd.C_alloc ?_ _) | (with_reducible refine Kd.C_drewN ?_ _) | (with_reducible refine Kd.C_drew ?_))); (case side2 => exact HC0_0.out); rintro e w6 ⟨rfl, hb⟩; have n0_ := A_ (blk_below (pl_ BK158) hb); have n1_ := A_ (below_step (bl_ HB) hb); clear BK158; clear HB; have BK158 := n0_; have HB := n1_; clear n0_ n1_; (try clear hb); (try clear hb2); (try clear hk); (try clear hi); have hcz7_0 : w6.cell? ⟨gb158, 0, none⟩ = some (.slice A0_0 l0_0.length c0_0) := (blk_cell BK158.out 0).trans rfl; have hcz7_1 : w6.cell? ⟨gb158, 1, none⟩ = some (.int .i16 a0_1) := (blk_cell BK158.out 1).trans rfl; have hcz7_2 : w6.cell? ⟨gb158, 2, none⟩ = some (.int .i16 a0_2) := (blk_cell BK158.out 2).trans rfl; have hcz7_3 : w6.cell? ⟨gb158, 3, none⟩ = some (.int .i16 a0_3) := (blk_cell BK158.out 3).trans rfl; have hcz7_4 : w6.cell? ⟨gb158, 4, none⟩ = some (.int .i16 a0_4) := (blk_cell BK158.out 4).trans rfl; have hcz7_5 : w6.cell? ⟨gb158, 5, none⟩ = some (.bool a0_5) := (blk_cell BK158.out 5).trans rfl; have hfz7_0 := blk_frozen BK158.out 0; have hfz7_1 := blk_frozen BK158.out 1; have hfz7_2 := blk_frozen BK158.out 2; have hfz7_3 := blk_frozen BK158.out 3; have hfz7_4 := blk_frozen BK158.out 4; have hfz7_5 := blk_frozen BK158.out 5)))
  go_loopg [4, 13] k (fun kq v4 v13 w' => ∃ (x4_1 : Int) (x13_1 : Int), v4 = .int .i64 x4_1 ∧ v13 = .int .i64 x13_1 ∧ Aside0 (impl_StepOfJugs.l0 kq x4_1 l0_0 (l0_0.length : Int) x13_1 l0_0 a0_1 a0_2 a0_3 a0_4 a0_5 = some (r1, r2)) ∧ Aside0 (kq ≤ k) ∧ Aside0 (w'.heap[gb158]? = some (.cells #[(.slice A0_0 l0_0.length c0_0), .int .i16 a0_1, .int .i16 a0_2, .int .i16 a0_3, .int .i16 a0_4, .bool a0_5] 32 (0, 0))) ∧ Aside0 (Below w.heap.size w w'))
  case atStart => exact ⟨(0), (0), rs_, rs_, H', ⟨Nat.le_refl _⟩, ⟨pl_ BK158⟩, ⟨bl_ HB⟩⟩
  case round =>
   clear H'
   try clear p2
   try clear c3
   try clear hcz5_0
   try clear hcz5_1
   try clear hcz5_2
   try clear hcz5_3
   try clear hcz5_4
   try clear hcz5_5
   try clear hcz7_0
   try clear hcz7_1
   try clear hcz7_2
   try clear hcz7_3
   try clear hcz7_4
   try clear hcz7_5
   try clear hfz5_0
   try clear hfz5_1
   try clear hfz5_2
   try clear hfz5_3
   try clear hfz5_4
   try clear hfz5_5
   try clear hfz7_0
   try clear hfz7_1
   try clear hfz7_2
   try clear hfz7_3
   try clear hfz7_4
   try clear hfz7_5
   obtain ⟨x4_1, x13_1, rfl, rfl, HA, HK1, BK158, HB⟩ := hrel
   cases gk with
   | zero => exact absurd HA.out (by simp [impl_StepOfJugs.l0])
   | succ k1 =>
    have H := HA.out
    clear HA
    simp only [impl_StepOfJugs.l0] at H
    by_cases c8 : x13_1 < (l0_0.length : Int)
    ·rw [if_pos c8] at H
     have c8b0 : decide (x13_1 < (l0_0.length : Int)) = true := decide_eq_true c8
     clear c8
     by_cases c9 : 0 ≤ x13_1
     ·rw [if_pos c9] at H
      have c9b0 : decide (0 ≤ x13_1) = true := decide_eq_true c9
      clear c9
      by_cases c10 : x13_1 < (l0_0.length : Int)
      ·rw [if_pos c10] at H
       have c10b0 : decide (x13_1 < (l0_0.length : Int)) = true := decide_eq_true c10
       clear c10
       replace H := Option.bind_eq_some_iff.mp H
       obtain ⟨t161, A110, H⟩ := H
       replace H : (if x13_1 < 4 then ((impl_divisor.f k1 t161 (wrap64 (rd [a0_1, a0_2, a0_3, a0_4] x13_1))).bind fun t162 => (impl_StepOfJugs.l0 k1 t162 l0_0 (l0_0.length : Int) (wrap64 (x13_1 + 1)) l0_0 a0_1 a0_2 a0_3 a0_4 a0_5)) else (none)) = some (r1, r2) := H
       have A11 := Aside0.mk A110
       clear A110
       by_cases c12 : x13_1 < 4
       ·rw [if_pos c12] at H
        have c12b0 : decide (x13_1 < 4) = true := decide_eq_true c12
        clear c12
        replace H := Option.bind_eq_some_iff.mp H
        obtain ⟨t162, A140, H⟩ := H
        replace H : (impl_StepOfJugs.l0 k1 t162 l0_0 (l0_0.length : Int) (wrap64 (x13_1 + 1)) l0_0 a0_1 a0_2 a0_3 a0_4 a0_5) = some (r1, r2) := H
        have A14 := Aside0.mk A140
        clear A140
        have H' := Aside0.mk H
        clear H
        have p160 : 0 ≤ (x13_1 : Int) := asm_
        have q160 : x13_1 < (l0_0.length : Int) := asm_
        obtain ⟨ad160, e160, hx160_0⟩ := Kd.at_int HR0_0.out x13_1 p160 q160
        cases e160
        (try replace hx160_0 := (HB.out.cell (World.block_lt_of_cell? w _ hx160_0)).trans hx160_0)
        replace p160 := eq_true p160
        replace q160 := eq_true q160
        have hcz15_0 : wr.cell? ⟨gb158, 0, none⟩ = some (.slice (some ad160) l0_0.length c0_0) := (blk_cell BK158.out 0).trans rfl
        have hcz15_1 : wr.cell? ⟨gb158, 1, none⟩ = some (.int .i16 a0_1) := (blk_cell BK158.out 1).trans rfl
        have hcz15_2 : wr.cell? ⟨gb158, 2, none⟩ = some (.int .i16 a0_2) := (blk_cell BK158.out 2).trans rfl
        have hcz15_3 : wr.cell? ⟨gb158, 3, none⟩ = some (.int .i16 a0_3) := (blk_cell BK158.out 3).trans rfl
        have hcz15_4 : wr.cell? ⟨gb158, 4, none⟩ = some (.int .i16 a0_4) := (blk_cell BK158.out 4).trans rfl
        have hcz15_5 : wr.cell? ⟨gb158, 5, none⟩ = some (.bool a0_5) := (blk_cell BK158.out 5).trans rfl
        have hfz15_0 := blk_frozen BK158.out 0
        have hfz15_1 := blk_frozen BK158.out 1
        have hfz15_2 := blk_frozen BK158.out 2
        have hfz15_3 := blk_frozen BK158.out 3
        have hfz15_4 := blk_frozen BK158.out 4
        have hfz15_5 := blk_frozen BK158.out 5
        have p13 : 0 ≤ (x13_1 : Int) := asm_
        have q13 : (x13_1 : Int) < 4 := asm_
        have hx13 : wr.cell? ⟨gb158, 1 + (x13_1 : Int).toNat, none⟩ = some (.int .i16 (rd [a0_1, a0_2, a0_3, a0_4] x13_1)) := ard_in (k := .i16) (l := [a0_1, a0_2, a0_3, a0_4]) (o := 1) BK158.out rfl p13 q13
        have hf13 := blk_frozen BK158.out (1 + (x13_1 : Int).toNat)
        have P13 := Aside0.mk p13
        have Q13 := Aside0.mk q13
        replace p13 := eq_true p13
        replace q13 := eq_true q13
        go_wp2_with (first | (go_at_call 76; (with_reducible refine (impl_divisor.calls k1 x4_1 (wrap64 (rd l0_0 x13_1)) t161 _ A11.out).mono ?_); rintro e w' ⟨rfl, ⟨nd, rfl⟩⟩; (try first | exact ⟨rfl, _, World.drewN_drewN _ _ _⟩ | exact ⟨rfl, _, Eq.trans (World.drewN_drewN _ _ _) (congrArg (World.drewN _) (Nat.add_assoc _ _ _))⟩)) | (go_at_call 76; (with_reducible refine (impl_divisor.calls k1 t161 (wrap64 (rd [a0_1, a0_2, a0_3, a0_4] x13_1)) t162 _ A14.out).mono ?_); rintro e w' ⟨rfl, ⟨nd, rfl⟩⟩; (try first | exact ⟨rfl, _, World.drewN_drewN _ _ _⟩ | exact ⟨rfl, _, Eq.trans (World.drewN_drewN _ _ _) (congrArg (World.drewN _) (Nat.add_assoc _ _ _))⟩)))
        repeat (go_quiet (first | (go_at_call 76; (with_reducible refine (impl_divisor.calls k1 x4_1 (wrap64 (rd l0_0 x13_1)) t161 _ A11.out).mono ?_); rintro e w' ⟨rfl, ⟨nd, rfl⟩⟩; (try first | exact ⟨rfl, _, World.drewN_drewN _ _ _⟩ | exact ⟨rfl, _, Eq.trans (World.drewN_drewN _ _ _) (congrArg (World.drewN _) (Nat.add_assoc _ _ _))⟩)) | (go_at_call 76; (with_reducible refine (impl_divisor.calls k1 t161 (wrap64 (rd [a0_1, a0_2, a0_3, a0_4] x13_1)) t162 _ A14.out).mono ?_); rintro e w' ⟨rfl, ⟨nd, rfl⟩⟩; (try first | exact ⟨rfl, _, World.drewN_drewN _ _ _⟩ | exact ⟨rfl, _, Eq.trans (World.drewN_drewN _ _ _) (congrArg (World.drewN _) (Nat.add_assoc _ _ _))⟩))); try go_wp2_with (first | (go_at_call 76; (with_reducible refine (impl_divisor.calls k1 x4_1 (wrap64 (rd l0_0 x13_1)) t161 _ A11.out).mono ?_); rintro e w' ⟨rfl, ⟨nd, rfl⟩⟩; (try first | exact ⟨rfl, _, World.drewN_drewN _ _ _⟩ | exact ⟨rfl, _, Eq.trans (World.drewN_drewN _ _ _) (congrArg (World.drewN _) (Nat.add_assoc _ _ _))⟩)) | (go_at_call 76; (with_reducible refine (impl_divisor.calls k1 t161 (wrap64 (rd [a0_1, a0_2, a0_3, a0_4] x13_1)) t162 _ A14.out).mono ?_); rintro e w' ⟨rfl, ⟨nd, rfl⟩⟩; (try first | exact ⟨rfl, _, World.drewN_drewN _ _ _⟩ | exact ⟨rfl, _, Eq.trans (World.drewN_drewN _ _ _) (congrArg (World.drewN _) (Nat.add_assoc _ _ _))⟩))))
        go_roundg k1
        case measure => have := HK1.out; omega
        case rel => exact ⟨(t162), (wrap64 (x13_1 + 1)), rs_, rs_, H', ⟨by have := HK1.out; omega⟩, ⟨pl_ BK158⟩, ⟨bl_ HB⟩⟩
       ·rw [if_neg c12] at H
        exact absurd H (by simp)
      ·rw [if_neg c10] at H
       exact absurd H (by simp)
     ·rw [if_neg c9] at H
      exact absurd H (by simp)
    ·rw [if_neg c8] at H
     have c8b0 : decide (x13_1 < (l0_0.length : Int)) = false := decide_eq_false c8
     clear c8
     simp only [Option.some.injEq, Prod.mk.injEq] at H
     obtain ⟨rfl, rfl⟩ := H
     go_wp2
     repeat (go_quiet (fail); try go_wp2)
     go_ret2
     exact ⟨by first | rfl | (simp [errW_none, errW_some] <;> rfl) | (simp [*, errW_none, errW_some] <;> rfl), bl_ HB⟩
 ·replace c3 := Bool.eq_false_iff.mpr c3
  subst c3
  have H1 : (some (0, 1)) = some (r1, r2) := by rw [if_neg (show ¬ (false = true) by decide)] at H; exact H
  clear H
  have H := H1
  clear H1
  simp only [Option.some.injEq, Prod.mk.injEq] at H
  obtain ⟨rfl, rfl⟩ := H
  go_enter Try.func31, Try.ntmps31
  go_wp2_with (first | ((with_reducible refine gate_dst (N := 1) rfl ?_); refine box_event ?hg (N := 1) ?hd (cs := #[.slice A0_0 l0_0.length c0_0, .int .i16 a0_1, .int .i16 a0_2, .int .i16 a0_3, .int .i16 a0_4, .bool a0_5]) (t := 32) ?hr ?_; (case hd => rfl); (case hg => rfl); (case hr => first | (go_simp; done) | (go_simp; rfl)); intro gb158 hg w16 hbox hb; have n0_ := A_ (below_step (bl_ HB) hb); have n1_ := A_ (hbox); have n2_ := A_ ((by rw [hg]; exact (below_size (bl_ HB)) : w.heap.size ≤ gb158)); have n3_ := n2_; clear HB; have HB := n0_; have BK158 := n1_; have GW158 := n2_; have GE158 := n3_; clear n0_ n1_ n2_ n3_; clear hb hbox hg; have hcz17_0 : w16.cell? ⟨gb158, 0, none⟩ = some (.slice A0_0 l0_0.length c0_0) := (blk_cell BK158.out 0).trans rfl; have hcz17_1 : w16.cell? ⟨gb158, 1, none⟩ = some (.int .i16 a0_1) := (blk_cell BK158.out 1).trans rfl; have hcz17_2 : w16.cell? ⟨gb158, 2, none⟩ = some (.int .i16 a0_2) := (blk_cell BK158.out 2).trans rfl; have hcz17_3 : w16.cell? ⟨gb158, 3, none⟩ = some (.int .i16 a0_3) := (blk_cell BK158.out 3).trans rfl; have hcz17_4 : w16.cell? ⟨gb158, 4, none⟩ = some (.int .i16 a0_4) := (blk_cell BK158.out 4).trans rfl; have hcz17_5 : w16.cell? ⟨gb158, 5, none⟩ = some (.bool a0_5) := (blk_cell BK158.out 5).trans rfl; have hfz17_0 := blk_frozen BK158.out 0; have hfz17_1 := blk_frozen BK158.out 1; have hfz17_2 := blk_frozen BK158.out 2; have hfz17_3 := blk_frozen BK158.out 3; have hfz17_4 := blk_frozen BK158.out 4; have hfz17_5 := blk_frozen BK158.out 5) | (go_at_call 24; (with_reducible refine (impl_ValidPuzzle.calls k _ _ l0_0 a0_1 a0_2 a0_3 a0_4 a0_5 false _ ?side1 ?side2 A2.out).mono ?_); (case side1 => repeat (first | exact (Kd.C_below HR0_0.out HB.out) | (with_reducible refine Kd.C_alloc ?_ _) | (with_reducible refine Kd.C_drewN ?_ _) | (with_reducible refine Kd.C_drew ?_))); (case side2 => exact HC0_0.out); rintro e w18 ⟨rfl, hb⟩; have n0_ := A_ (blk_below (pl_ BK158) hb); have n1_ := A_ (below_step (bl_ HB) hb); clear BK158; clear HB; have BK158 := n0_; have HB := n1_; clear n0_ n1_; (try clear hb); (try clear hb2); (try clear hk); (try clear hi)))
  repeat (go_quiet (first | ((with_reducible refine gate_dst (N := 1) rfl ?_); refine box_event ?hg (N := 1) ?hd (cs := #[.slice A0_0 l0_0.length c0_0, .int .i16 a0_1, .int .i16 a0_2, .int .i16 a0_3, .int .i16 a0_4, .bool a0_5]) (t := 32) ?hr ?_; (case hd => rfl); (case hg => rfl); (case hr => first | (go_simp; done) | (go_simp; rfl)); intro gb158 hg w16 hbox hb; have n0_ := A_ (below_step (bl_ HB) hb); have n1_ := A_ (hbox); have n2_ := A_ ((by rw [hg]; exact (below_size (bl_ HB)) : w.heap.size ≤ gb158)); have n3_ := n2_; clear HB; have HB := n0_; have BK158 := n1_; have GW158 := n2_; have GE158 := n3_; clear n0_ n1_ n2_ n3_; clear hb hbox hg; have hcz17_0 : w16.cell? ⟨gb158, 0, none⟩ = some (.slice A0_0 l0_0.length c0_0) := (blk_cell BK158.out 0).trans rfl; have hcz17_1 : w16.cell? ⟨gb158, 1, none⟩ = some (.int .i16 a0_1) := (blk_cell BK158.out 1).trans rfl; have hcz17_2 : w16.cell? ⟨gb158, 2, none⟩ = some (.int .i16 a0_2) := (blk_cell BK158.out 2).trans rfl; have hcz17_3 : w16.cell? ⟨gb158, 3, none⟩ = some (.int .i16 a0_3) := (blk_cell BK158.out 3).trans rfl; have hcz17_4 : w16.cell? ⟨gb158, 4, none⟩ = some (.int .i16 a0_4) := (blk_cell BK158.out 4).trans rfl; have hcz17_5 : w16.cell? ⟨gb158, 5, none⟩ = some (.bool a0_5) := (blk_cell BK158.out 5).trans rfl; have hfz17_0 := blk_frozen BK158.out 0; have hfz17_1 := blk_frozen BK158.out 1; have hfz17_2 := blk_frozen BK158.out 2; have hfz17_3 := blk_frozen BK158.out 3; have hfz17_4 := blk_frozen BK158.out 4; have hfz17_5 := blk_frozen BK158.out 5) | (go_at_call 24; (with_reducible refine (impl_ValidPuzzle.calls k _ _ l0_0 a0_1 a0_2 a0_3 a0_4 a0_5 false _ ?side1 ?side2 A2.out).mono ?_); (case side1 => repeat (first | exact (Kd.C_below HR0_0.out HB.out) | (with_reducible refine Kd.C_alloc ?_ _) | (with_reducible refine Kd.C_drewN ?_ _) | (with_reducible refine Kd.C_drew ?_))); (case side2 => exact HC0_0.out); rintro e w18 ⟨rfl, hb⟩; have n0_ := A_ (blk_below (pl_ BK158) hb); have n1_ := A_ (below_step (bl_ HB) hb); clear BK158; clear HB; have BK158 := n0_; have HB := n1_; clear n0_ n1_; (try clear hb); (try clear hb2); (try clear hk); (try clear hi))); try go_wp2_with (first | ((with_reducible refine gate_dst (N := 1) rfl ?_); refine box_event ?hg (N := 1) ?hd (cs := #[.slice A0_0 l0_0.length c0_0, .int .i16 a0_1, .int .i16 a0_2, .int .i16 a0_3, .int .i16 a0_4, .bool a0_5]) (t := 32) ?hr ?_; (case hd => rfl); (case hg => rfl); (case hr => first | (go_simp; done) | (go_simp; rfl)); intro gb158 hg w16 hbox hb; have n0_ := A_ (below_step (bl_ HB) hb); have n1_ := A_ (hbox); have n2_ := A_ ((by rw [hg]; exact (below_size (bl_ HB)) : w.heap.size ≤ gb158)); have n3_ := n2_; clear HB; have HB := n0_; have BK158 := n1_; have GW158 := n2_; have GE158 := n3_; clear n0_ n1_ n2_ n3_; clear hb hbox hg; have hcz17_0 : w16.cell? ⟨gb158, 0, none⟩ = some (.slice A0_0 l0_0.length c0_0) := (blk_cell BK158.out 0).trans rfl; have hcz17_1 : w16.cell? ⟨gb158, 1, none⟩ = some (.int .i16 a0_1) := (blk_cell BK158.out 1).trans rfl; have hcz17_2 : w16.cell? ⟨gb158, 2, none⟩ = some (.int .i16 a0_2) := (blk_cell BK158.out 2).trans rfl; have hcz17_3 : w16.cell? ⟨gb158, 3, none⟩ = some (.int .i16 a0_3) := (blk_cell BK158.out 3).trans rfl; have hcz17_4 : w16.cell? ⟨gb158, 4, none⟩ = some (.int .i16 a0_4) := (blk_cell BK158.out 4).trans rfl; have hcz17_5 : w16.cell? ⟨gb158, 5, none⟩ = some (.bool a0_5) := (blk_cell BK158.out 5).trans rfl; have hfz17_0 := blk_frozen BK158.out 0; have hfz17_1 := blk_frozen BK158.out 1; have hfz17_2 := blk_frozen BK158.out 2; have hfz17_3 := blk_frozen BK158.out 3; have hfz17_4 := blk_frozen BK158.out 4; have hfz17_5 := blk_frozen BK158.out 5) | (go_at_call 24; (with_reducible refine (impl_ValidPuzzle.calls k _ _ l0_0 a0_1 a0_2 a0_3 a0_4 a0_5 false _ ?side1 ?side2 A2.out).mono ?_); (case side1 => repeat (first | exact (Kd.C_below HR0_0.out HB.out) | (with_reducible refine Kd.C_alloc ?_ _) | (with_reducible refine Kd.C_drewN ?_ _) | (with_reducible refine Kd.C_drew ?_))); (case side2 => exact HC0_0.out); rintro e w18 ⟨rfl, hb⟩; have n0_ := A_ (blk_below (pl_ BK158) hb); have n1_ := A_ (below_step (bl_ HB) hb); clear BK158; clear HB; have BK158 := n0_; have HB := n1_; clear n0_ n1_; (try clear hb); (try clear hb2); (try clear hk); (try clear hi))))
  go_ret2
  exact ⟨by first | rfl | (simp [errW_none, errW_some] <;> rfl) | (simp [*, errW_none, errW_some] <;> rfl), bl_ HB⟩

end Go.Proofs.Ytodmfjophjhbeaa.M
