-- By this seat's own program over the kit's printer (arrays, functions told by hand); nothing of it is trusted: the kernel checks it.
import Derived.Test.YtkllpdekkhhhnaaMx0
import Derived.Test.YtkllpdekkhhhnaaMx7
import Derived.Test.YtkllpdekkhhhnaaMx8
import Derived.Test.YtkllpdekkhhhnaaMx25
namespace Go.Proofs.Ytkllpdekkhhhnaa.M
open Go.RowKit Go.Proofs.YtkllpdekkhhhnaaW.PrintWords Go.Proofs.YtkllpdekkhhhnaaW.PrintLast Go.Proofs.YtkllpdekkhhhnaaW.PrintMore
attribute [local go_sem] max2_int min2_int max_two min_two max_three min_three max_four min_four   -- for this text's walks alone
set_option linter.unusedVariables false
set_option linter.unusedSimpArgs false

/-! ### spec_Decode: function 21 -/
def spec_Decode.j0 : Nat → Bool → Int → Int → List (S30) → Int → Int → Int → Int → Option (Int × Bool × Int)
 | 0, _, _, _, _, _, _, _, _ => none
 | k + 1, x17, x362000, x362001, x362002, x363000, x363001, x363002, x363003 => if x17 = true then (some (0, false, 1)) else ((spec_l04Decode.f k x362000 x362001 x362002 x363000 x363001 x363002 x363003).bind fun bt366 => (if bt366.2.2 = true then (some (bt366.1, bt366.2.1, 0)) else (some (0, false, 6))))
def spec_Decode.f (k : Nat) (a0_0 : Int) (a0_1 : Int) (l0_2 : List (S30)) (a1_0 : Int) (a1_1 : Int) (a1_2 : Int) (a1_3 : Int) : Option (Int × Bool × Int) := (spec_l04Ok.f k a0_0 a0_1 l0_2).bind fun t364 => (if t364 = true then ((spec_l04Word.f k (wrap64 (a0_0)) a1_0 a1_1 a1_2 a1_3).bind fun t365 => (spec_Decode.j0 k (!t365) a0_0 a0_1 l0_2 a1_0 a1_1 a1_2 a1_3)) else (spec_Decode.j0 k true a0_0 a0_1 l0_2 a1_0 a1_1 a1_2 a1_3))
theorem spec_Decode.mono_l : ∀ k, (∀ y0 y1 y2 y3 y4 y5 y6 y7, LeO (spec_Decode.j0 k y0 y1 y2 y3 y4 y5 y6 y7) (spec_Decode.j0 (k + 1) y0 y1 y2 y3 y4 y5 y6 y7))
 | 0 => fun _ _ _ _ _ _ _ _ r h => by simp [spec_Decode.j0] at h
 | k + 1 => by
  have ih0 := spec_Decode.mono_l k
  ·intro y0 y1 y2 y3 y4 y5 y6 y7
   unfold spec_Decode.j0
   repeat' first
   | (with_reducible exact ih0 _ _ _ _ _ _ _ _)
   | (with_reducible exact spec_l04Decode.mono _ _ _ _ _ _ _ _)
   | (with_reducible exact spec_l04Ok.mono _ _ _ _)
   | (with_reducible exact spec_l04Word.mono _ _ _ _ _ _)
   | (with_reducible exact LeO.refl _)
   | (with_reducible exact LeO.none _)
   | (with_reducible refine LeO.ite ?_ ?_)
   | (with_reducible refine LeO.bind ?_ (fun _ => ?_))
   | exact ih0 _ _ _ _ _ _ _ _
   | exact spec_l04Decode.mono _ _ _ _ _ _ _ _
   | exact spec_l04Ok.mono _ _ _ _
   | exact spec_l04Word.mono _ _ _ _ _ _
   | exact LeO.none _
   | refine LeO.ite ?_ ?_
   | refine LeO.bind ?_ (fun _ => ?_)
theorem spec_Decode.mono : ∀ a0 a1 a2 a3 a4 a5 a6 k, LeO (spec_Decode.f k a0 a1 a2 a3 a4 a5 a6) (spec_Decode.f (k + 1) a0 a1 a2 a3 a4 a5 a6) := by
 intro a0 a1 a2 a3 a4 a5 a6 k
 have ih0 := spec_Decode.mono_l k
 unfold spec_Decode.f
 repeat' first
   | (with_reducible exact ih0 _ _ _ _ _ _ _ _)
   | (with_reducible exact spec_l04Decode.mono _ _ _ _ _ _ _ _)
   | (with_reducible exact spec_l04Ok.mono _ _ _ _)
   | (with_reducible exact spec_l04Word.mono _ _ _ _ _ _)
   | (with_reducible exact LeO.refl _)
   | (with_reducible exact LeO.none _)
   | (with_reducible refine LeO.ite ?_ ?_)
   | (with_reducible refine LeO.bind ?_ (fun _ => ?_))
   | exact ih0 _ _ _ _ _ _ _ _
   | exact spec_l04Decode.mono _ _ _ _ _ _ _ _
   | exact spec_l04Ok.mono _ _ _ _
   | exact spec_l04Word.mono _ _ _ _ _ _
   | exact LeO.none _
   | refine LeO.ite ?_ ?_
   | refine LeO.bind ?_ (fun _ => ?_)
set_option maxHeartbeats 8000000 in
set_option maxRecDepth 100000 in
theorem spec_Decode.calls (k : Nat) (a0_0 : Int) (a0_1 : Int) (A0_2 : Option Addr) (c0_2 : Nat) (l0_2 : List (S30)) (a1_0 : Int) (a1_1 : Int) (a1_2 : Int) (a1_3 : Int) (r1 : Int) (r2 : Bool) (r3 : Int) (w : World) (hr0_2 : Kd.C k30 w A0_2 l0_2.length l0_2) (hc0_2 : l0_2.length ≤ c0_2) (h : spec_Decode.f k a0_0 a0_1 l0_2 a1_0 a1_1 a1_2 a1_3 = some (r1, r2, r3)) :
  Calls Try.prog 21 #[.agg #[.int .i8 a0_0, .int .i8 a0_1, .slice A0_2 l0_2.length c0_2], .agg #[.int .i8 a1_0, .int .i8 a1_1, .int .i8 a1_2, .int .i8 a1_3]] w fun e w' => e = .returned (.tuple #[.agg #[.int .i8 r1, .bool r2], .int .i64 r3]) ∧ Below w.heap.size w w' := by
 have hu35 := Try.underlying35
 have hu30 := Try.underlying30
 have hu37 := Try.underlying37
 have HR0_2 := Aside0.mk hr0_2
 have HC0_2 := Aside0.mk hc0_2
 clear hr0_2 hc0_2
 have HB := Aside0.mk (Below.refl w.heap.size w)
 have H : ((spec_l04Ok.f k a0_0 a0_1 l0_2).bind fun t364 => (if t364 = true then ((spec_l04Word.f k (wrap64 (a0_0)) a1_0 a1_1 a1_2 a1_3).bind fun t365 => (spec_Decode.j0 k (!t365) a0_0 a0_1 l0_2 a1_0 a1_1 a1_2 a1_3)) else (spec_Decode.j0 k true a0_0 a0_1 l0_2 a1_0 a1_1 a1_2 a1_3))) = some (r1, r2, r3) := h
 clear h
 have HC3 := Aside0.mk H
 clear H
 go_enter Try.func21, Try.ntmps21
 go_upto_region 1 with (first | ((with_reducible refine gate_dst (N := 2) rfl ?_); refine box_event ?hg (N := 2) ?hd (cs := #[.int .i8 a0_0, .int .i8 a0_1, .slice A0_2 l0_2.length c0_2]) (t := 35) ?hr ?_; (case hd => rfl); (case hg => rfl); (case hr => first | (go_simp; done) | (go_simp; rfl)); intro gb361 hg w4 hbox hb; have n0_ := Aside0.mk (below_step (bl_ HB) hb); have n1_ := Aside0.mk (hbox); have n2_ := Aside0.mk ((by rw [hg]; exact (below_size (bl_ HB)) : w.heap.size ≤ gb361)); have n3_ := Aside0.mk ((by rw [hg]; exact (below_size (bl_ HB)) : w.heap.size ≤ gb361)); clear HB; have HB := n0_; have BK361 := n1_; have GW361 := n2_; have GE361 := n3_; clear n0_ n1_ n2_ n3_; clear hb hbox hg) | ((with_reducible refine gate_dst (N := 3) rfl ?_); refine box_event ?hg (N := 3) ?hd (cs := #[.int .i8 a1_0, .int .i8 a1_1, .int .i8 a1_2, .int .i8 a1_3]) (t := 30) ?hr ?_; (case hd => rfl); (case hg => rfl); (case hr => first | (go_simp; done) | (go_simp; rfl)); intro gb362 hg w5 hbox hb; have n0_ := Aside0.mk (blk_below (g := gb361) (o := .cells #[.int .i8 a0_0, .int .i8 a0_1, .slice A0_2 l0_2.length c0_2] 35 (0, 0)) (pl_ BK361) hb); have n1_ := Aside0.mk (below_step (by repeat (first | (with_reducible first | exact HB.out | apply below_alloc | apply pw_below_drewN | apply below_drew1 | refine below_set ?_ GE361.out) | exact HB.out)) hb); have n2_ := Aside0.mk (hbox); have n3_ := Aside0.mk ((by rw [hg]; exact (below_size (by repeat (first | (with_reducible first | exact HB.out | apply below_alloc | apply pw_below_drewN | apply below_drew1 | refine below_set ?_ GE361.out) | exact HB.out))) : w.heap.size ≤ gb362)); have n4_ := Aside0.mk ((by rw [hg]; exact (below_size (by repeat (first | (with_reducible first | exact HB.out | apply below_alloc | apply pw_below_drewN | apply below_drew1 | refine below_set ?_ GE361.out) | exact HB.out))) : w.heap.size ≤ gb362)); have n5_ := Aside0.mk ((by rw [hg]; exact Nat.ne_of_lt (blk_lt (g := gb361) (o := .cells #[.int .i8 a0_0, .int .i8 a0_1, .slice A0_2 l0_2.length c0_2] 35 (0, 0)) (pl_ BK361)) : gb361 ≠ gb362)); have n6_ := Aside0.mk ((by rw [hg]; exact Nat.ne_of_gt (blk_lt (g := gb361) (o := .cells #[.int .i8 a0_0, .int .i8 a0_1, .slice A0_2 l0_2.length c0_2] 35 (0, 0)) (pl_ BK361)) : gb362 ≠ gb361)); clear BK361; clear HB; have BK361 := n0_; have HB := n1_; have BK362 := n2_; have GW362 := n3_; have GE362 := n4_; have NB361_362 := n5_; have NB362_361 := n6_; clear n0_ n1_ n2_ n3_ n4_ n5_ n6_; clear hb hbox hg) | ((with_reducible refine gate_dst (N := 4) rfl ?_); refine box_event ?hg (N := 4) ?hd (cs := #[.int .i8 0, .bool false]) (t := 37) ?hr ?_; (case hd => rfl); (case hg => rfl); (case hr => first | (go_simp; done) | (go_simp; rfl)); intro gb363 hg w6 hbox hb; have n0_ := Aside0.mk (blk_below (g := gb361) (o := .cells #[.int .i8 a0_0, .int .i8 a0_1, .slice A0_2 l0_2.length c0_2] 35 (0, 0)) (pl_ BK361) hb); have n1_ := Aside0.mk (blk_below (g := gb362) (o := .cells #[.int .i8 a1_0, .int .i8 a1_1, .int .i8 a1_2, .int .i8 a1_3] 30 (0, 0)) (pl_ BK362) hb); have n2_ := Aside0.mk (below_step (by repeat (first | (with_reducible first | exact HB.out | apply below_alloc | apply pw_below_drewN | apply below_drew1 | refine below_set ?_ GE361.out | refine below_set ?_ GE362.out) | exact HB.out)) hb); have n3_ := Aside0.mk (hbox); have n4_ := Aside0.mk ((by rw [hg]; exact (below_size (by repeat (first | (with_reducible first | exact HB.out | apply below_alloc | apply pw_below_drewN | apply below_drew1 | refine below_set ?_ GE361.out | refine below_set ?_ GE362.out) | exact HB.out))) : w.heap.size ≤ gb363)); have n5_ := Aside0.mk ((by rw [hg]; exact (below_size (by repeat (first | (with_reducible first | exact HB.out | apply below_alloc | apply pw_below_drewN | apply below_drew1 | refine below_set ?_ GE361.out | refine below_set ?_ GE362.out) | exact HB.out))) : w.heap.size ≤ gb363)); have n6_ := Aside0.mk ((by rw [hg]; exact Nat.ne_of_lt (blk_lt (g := gb361) (o := .cells #[.int .i8 a0_0, .int .i8 a0_1, .slice A0_2 l0_2.length c0_2] 35 (0, 0)) (pl_ BK361)) : gb361 ≠ gb363)); have n7_ := Aside0.mk ((by rw [hg]; exact Nat.ne_of_gt (blk_lt (g := gb361) (o := .cells #[.int .i8 a0_0, .int .i8 a0_1, .slice A0_2 l0_2.length c0_2] 35 (0, 0)) (pl_ BK361)) : gb363 ≠ gb361)); have n8_ := Aside0.mk ((by rw [hg]; exact Nat.ne_of_lt (blk_lt (g := gb362) (o := .cells #[.int .i8 a1_0, .int .i8 a1_1, .int .i8 a1_2, .int .i8 a1_3] 30 (0, 0)) (pl_ BK362)) : gb362 ≠ gb363)); have n9_ := Aside0.mk ((by rw [hg]; exact Nat.ne_of_gt (blk_lt (g := gb362) (o := .cells #[.int .i8 a1_0, .int .i8 a1_1, .int .i8 a1_2, .int .i8 a1_3] 30 (0, 0)) (pl_ BK362)) : gb363 ≠ gb362)); clear BK361; clear BK362; clear HB; have BK361 := n0_; have BK362 := n1_; have HB := n2_; have BK363 := n3_; have GW363 := n4_; have GE363 := n5_; have NB361_363 := n6_; have NB363_361 := n7_; have NB362_363 := n8_; have NB363_362 := n9_; clear n0_ n1_ n2_ n3_ n4_ n5_ n6_ n7_ n8_ n9_; clear hb hbox hg))
 (try simp only [Act.put, List.setIfInBounds_toArray, List.set_cons_zero, List.set_cons_succ])
 go_cut [17] (fun v17 wc => ∃ (kq : Nat) (x17_2 : Bool) (x362000_2 : Int) (x362001_2 : Int), v17 = .bool x17_2 ∧ Aside0 (spec_Decode.j0 kq x17_2 x362000_2 x362001_2 l0_2 a1_0 a1_1 a1_2 a1_3 = some (r1, r2, r3)) ∧ Aside0 (kq ≤ k) ∧ Aside0 (wc.heap[gb361]? = some (.cells #[.int .i8 x362000_2, .int .i8 x362001_2, (.slice A0_2 l0_2.length c0_2)] 35 (0, 0))) ∧ Aside0 (wc.heap[gb362]? = some (.cells #[.int .i8 a1_0, .int .i8 a1_1, .int .i8 a1_2, .int .i8 a1_3] 30 (0, 0))) ∧ Aside0 (wc.heap[gb363]? = some (.cells #[.int .i8 0, .bool false] 37 (0, 0))) ∧ Aside0 (Below w.heap.size w wc))
 case first =>
  have H := HC3.out
  clear HC3
  replace H := Option.bind_eq_some_iff.mp H
  obtain ⟨t364, A70, H⟩ := H
  replace H : (if t364 = true then ((spec_l04Word.f k (wrap64 (a0_0)) a1_0 a1_1 a1_2 a1_3).bind fun t365 => (spec_Decode.j0 k (!t365) a0_0 a0_1 l0_2 a1_0 a1_1 a1_2 a1_3)) else (spec_Decode.j0 k true a0_0 a0_1 l0_2 a1_0 a1_1 a1_2 a1_3)) = some (r1, r2, r3) := H
  have A7 := Aside0.mk A70
  clear A70
  by_cases c8 : t364 = true
  ·subst c8
   have H1 : ((spec_l04Word.f k (wrap64 (a0_0)) a1_0 a1_1 a1_2 a1_3).bind fun t365 => (spec_Decode.j0 k (!t365) a0_0 a0_1 l0_2 a1_0 a1_1 a1_2 a1_3)) = some (r1, r2, r3) := by rw [if_pos rfl] at H; exact H
   clear H
   have H := H1
   clear H1
   replace H := Option.bind_eq_some_iff.mp H
   obtain ⟨t365, A90, H⟩ := H
   replace H : (spec_Decode.j0 k (!t365) a0_0 a0_1 l0_2 a1_0 a1_1 a1_2 a1_3) = some (r1, r2, r3) := H
   have A9 := Aside0.mk A90
   clear A90
   have H' := Aside0.mk H
   clear H
   go_wp2_with (first | ((with_reducible refine gate_callee (f := 29) rfl ?_); refine goesL_ (some 8) rfl rfl Try.func29 (by kernel_rfl) rfl #[.pointer (some ⟨gb361, 0, none⟩)] rfl (by (try simp only [List.map_toArray, List.map_cons, List.map_nil]); first | done | rfl | (simp only [List.length_drop, List.length_take]; rfl)) ?_; (with_reducible refine (spec_l04Ok.calls k gb361 a0_0 a0_1 A0_2 c0_2 l0_2 true _ ?side1 ?side2 ?side3 A7.out).mono ?_); (case side1 => exact (pl_ BK361)); (case side2 => repeat (first | exact (Kd.C_below HR0_2.out HB.out) | (with_reducible refine Kd.C_alloc ?_ _) | (with_reducible refine Kd.C_drewN ?_ _) | (with_reducible refine Kd.C_drew ?_))); (case side3 => exact HC0_2.out); rintro e w10 ⟨rfl, hb⟩; refine ⟨_, rfl, ?_⟩; have n0_ := Aside0.mk (blk_below (g := gb361) (o := .cells #[.int .i8 a0_0, .int .i8 a0_1, .slice A0_2 l0_2.length c0_2] 35 (0, 0)) (pl_ BK361) hb); have n1_ := Aside0.mk (blk_below (g := gb362) (o := .cells #[.int .i8 a1_0, .int .i8 a1_1, .int .i8 a1_2, .int .i8 a1_3] 30 (0, 0)) (pl_ BK362) hb); have n2_ := Aside0.mk (blk_below (g := gb363) (o := .cells #[.int .i8 0, .bool false] 37 (0, 0)) (pl_ BK363) hb); have n3_ := Aside0.mk (below_step (by repeat (first | (with_reducible first | exact HB.out | apply below_alloc | apply pw_below_drewN | apply below_drew1 | refine below_set ?_ GE361.out | refine below_set ?_ GE362.out | refine below_set ?_ GE363.out) | exact HB.out)) hb); clear BK361; clear BK362; clear BK363; clear HB; have BK361 := n0_; have BK362 := n1_; have BK363 := n2_; have HB := n3_; clear n0_ n1_ n2_ n3_; (try clear hb); (try clear hb2); (try clear hk); (try clear hi); have hnb11 := NB361_362.out; have hnc11 := NB362_361.out; have hnb12 := NB361_363.out; have hnc12 := NB363_361.out; have hcz13_0 : w10.cell? ⟨gb361, 0, none⟩ = some (.int .i8 a0_0) := (blk_cell BK361.out 0).trans rfl; have hcz13_1 : w10.cell? ⟨gb361, 1, none⟩ = some (.int .i8 a0_1) := (blk_cell BK361.out 1).trans rfl; have hcz13_2 : w10.cell? ⟨gb361, 2, none⟩ = some (.slice A0_2 l0_2.length c0_2) := (blk_cell BK361.out 2).trans rfl; have hfz13_0 := blk_frozen BK361.out 0; have hfz13_1 := blk_frozen BK361.out 1; have hfz13_2 := blk_frozen BK361.out 2; have hnb14 := NB362_363.out; have hnc14 := NB363_362.out; have hcz15_0 : w10.cell? ⟨gb362, 0, none⟩ = some (.int .i8 a1_0) := (blk_cell BK362.out 0).trans rfl; have hcz15_1 : w10.cell? ⟨gb362, 1, none⟩ = some (.int .i8 a1_1) := (blk_cell BK362.out 1).trans rfl; have hcz15_2 : w10.cell? ⟨gb362, 2, none⟩ = some (.int .i8 a1_2) := (blk_cell BK362.out 2).trans rfl; have hcz15_3 : w10.cell? ⟨gb362, 3, none⟩ = some (.int .i8 a1_3) := (blk_cell BK362.out 3).trans rfl; have hfz15_0 := blk_frozen BK362.out 0; have hfz15_1 := blk_frozen BK362.out 1; have hfz15_2 := blk_frozen BK362.out 2; have hfz15_3 := blk_frozen BK362.out 3) | (go_at_call 39; (with_reducible refine (spec_l04Word.calls k (wrap64 (a0_0)) a1_0 a1_1 a1_2 a1_3 t365 _ A9.out).mono ?_); rintro e w16 ⟨rfl, hb⟩; have n0_ := Aside0.mk (blk_below (g := gb361) (o := .cells #[.int .i8 a0_0, .int .i8 a0_1, .slice A0_2 l0_2.length c0_2] 35 (0, 0)) (pl_ BK361) hb); have n1_ := Aside0.mk (blk_below (g := gb362) (o := .cells #[.int .i8 a1_0, .int .i8 a1_1, .int .i8 a1_2, .int .i8 a1_3] 30 (0, 0)) (pl_ BK362) hb); have n2_ := Aside0.mk (blk_below (g := gb363) (o := .cells #[.int .i8 0, .bool false] 37 (0, 0)) (pl_ BK363) hb); have n3_ := Aside0.mk (below_step (by repeat (first | (with_reducible first | exact HB.out | apply below_alloc | apply pw_below_drewN | apply below_drew1 | refine below_set ?_ GE361.out | refine below_set ?_ GE362.out | refine below_set ?_ GE363.out) | exact HB.out)) hb); clear BK361; clear BK362; clear BK363; clear HB; have BK361 := n0_; have BK362 := n1_; have BK363 := n2_; have HB := n3_; clear n0_ n1_ n2_ n3_; (try clear hb); (try clear hb2); (try clear hk); (try clear hi)))
   go_meet
   case rel => exact ⟨_, (!t365), (a0_0), (a0_1), (by first | rfl | (simp; done) | (simp [*]; done)), H', ⟨by first | omega | exact Nat.le_refl _⟩, ⟨pl_ BK361⟩, ⟨pl_ BK362⟩, ⟨pl_ BK363⟩, ⟨by repeat (first | (with_reducible first | exact HB.out | apply below_alloc | apply pw_below_drewN | apply below_drew1 | refine below_set ?_ GE361.out | refine below_set ?_ GE362.out | refine below_set ?_ GE363.out) | exact HB.out)⟩⟩
  ·replace c8 := Bool.eq_false_iff.mpr c8
   subst c8
   have H1 : (spec_Decode.j0 k true a0_0 a0_1 l0_2 a1_0 a1_1 a1_2 a1_3) = some (r1, r2, r3) := by rw [if_neg (show ¬ (false = true) by decide)] at H; exact H
   clear H
   have H := H1
   clear H1
   have H' := Aside0.mk H
   clear H
   go_wp2_with (first | ((with_reducible refine gate_callee (f := 29) rfl ?_); refine goesL_ (some 8) rfl rfl Try.func29 (by kernel_rfl) rfl #[.pointer (some ⟨gb361, 0, none⟩)] rfl (by (try simp only [List.map_toArray, List.map_cons, List.map_nil]); first | done | rfl | (simp only [List.length_drop, List.length_take]; rfl)) ?_; (with_reducible refine (spec_l04Ok.calls k gb361 a0_0 a0_1 A0_2 c0_2 l0_2 false _ ?side1 ?side2 ?side3 A7.out).mono ?_); (case side1 => exact (pl_ BK361)); (case side2 => repeat (first | exact (Kd.C_below HR0_2.out HB.out) | (with_reducible refine Kd.C_alloc ?_ _) | (with_reducible refine Kd.C_drewN ?_ _) | (with_reducible refine Kd.C_drew ?_))); (case side3 => exact HC0_2.out); rintro e w17 ⟨rfl, hb⟩; refine ⟨_, rfl, ?_⟩; have n0_ := Aside0.mk (blk_below (g := gb361) (o := .cells #[.int .i8 a0_0, .int .i8 a0_1, .slice A0_2 l0_2.length c0_2] 35 (0, 0)) (pl_ BK361) hb); have n1_ := Aside0.mk (blk_below (g := gb362) (o := .cells #[.int .i8 a1_0, .int .i8 a1_1, .int .i8 a1_2, .int .i8 a1_3] 30 (0, 0)) (pl_ BK362) hb); have n2_ := Aside0.mk (blk_below (g := gb363) (o := .cells #[.int .i8 0, .bool false] 37 (0, 0)) (pl_ BK363) hb); have n3_ := Aside0.mk (below_step (by repeat (first | (with_reducible first | exact HB.out | apply below_alloc | apply pw_below_drewN | apply below_drew1 | refine below_set ?_ GE361.out | refine below_set ?_ GE362.out | refine below_set ?_ GE363.out) | exact HB.out)) hb); clear BK361; clear BK362; clear BK363; clear HB; have BK361 := n0_; have BK362 := n1_; have BK363 := n2_; have HB := n3_; clear n0_ n1_ n2_ n3_; (try clear hb); (try clear hb2); (try clear hk); (try clear hi)))
   go_meet
   case rel => exact ⟨_, (true), (a0_0), (a0_1), (by first | rfl | (simp; done) | (simp [*]; done)), H', ⟨by first | omega | exact Nat.le_refl _⟩, ⟨pl_ BK361⟩, ⟨pl_ BK362⟩, ⟨pl_ BK363⟩, ⟨by repeat (first | (with_reducible first | exact HB.out | apply below_alloc | apply pw_below_drewN | apply below_drew1 | refine below_set ?_ GE361.out | refine below_set ?_ GE362.out | refine below_set ?_ GE363.out) | exact HB.out)⟩⟩
 case rest =>
  clear HC3
  try clear c1
  try clear c2
  try clear p2
  try clear p6
  try clear c8
  try clear c11
  try clear c12
  try clear c14
  try clear hcz13_0
  try clear hcz13_1
  try clear hcz13_2
  try clear hcz15_0
  try clear hcz15_1
  try clear hcz15_2
  try clear hcz15_3
  try clear hfz13_0
  try clear hfz13_1
  try clear hfz13_2
  try clear hfz15_0
  try clear hfz15_1
  try clear hfz15_2
  try clear hfz15_3
  obtain ⟨kq, x17_2, x362000_2, x362001_2, rfl, HA, HJ2, BK361, BK362, BK363, HB⟩ := hcut
  cases kq with
  | zero => exact absurd HA.out (by simp [spec_Decode.j0])
  | succ kj2 =>
   have H := HA.out
   clear HA
   simp only [spec_Decode.j0] at H
   by_cases c18 : x17_2 = true
   ·subst c18
    have H1 : (some (0, false, 1)) = some (r1, r2, r3) := by rw [if_pos rfl] at H; exact H
    clear H
    have H := H1
    clear H1
    simp only [Option.some.injEq, Prod.mk.injEq] at H
    obtain ⟨rfl, rfl, rfl⟩ := H
    have hnb19 := NB363_361.out
    have hnc19 := NB361_363.out
    have hnb20 := NB363_362.out
    have hnc20 := NB362_363.out
    have hcz21_0 : wc.cell? ⟨gb363, 0, none⟩ = some (.int .i8 0) := (blk_cell BK363.out 0).trans rfl
    have hcz21_1 : wc.cell? ⟨gb363, 1, none⟩ = some (.bool false) := (blk_cell BK363.out 1).trans rfl
    have hfz21_0 := blk_frozen BK363.out 0
    have hfz21_1 := blk_frozen BK363.out 1
    go_wp2
    refine bodyPost_ret (results_ct rfl _ _ gb363 37 #[.int .i8 0, .bool false] (0, 0) _ rfl (by (with_reducible repeat (first | refine blk_drewN ?_ _ | refine blk_drew ?_ | refine blk_alloc ?_ _)); refine blk_put (cs := #[.int .i8 0, .bool false]) ?_ 1 _ rfl; (with_reducible repeat (first | refine blk_drewN ?_ _ | refine blk_drew ?_ | refine blk_alloc ?_ _)); refine blk_put (cs := #[.int .i8 0, .bool false]) ?_ 0 _ rfl; (with_reducible repeat (first | refine blk_drewN ?_ _ | refine blk_drew ?_ | refine blk_alloc ?_ _)); exact BK363.out) Try.underlying37 rfl (by kernel_rfl)) rfl ?_
    exact ⟨by first | rfl | (simp [errW_none, errW_some] <;> rfl) | (simp [*, errW_none, errW_some] <;> rfl), by repeat (first | (with_reducible first | exact HB.out | apply below_alloc | apply pw_below_drewN | apply below_drew1 | refine below_set ?_ GE361.out | refine below_set ?_ GE362.out | refine below_set ?_ GE363.out) | exact HB.out)⟩
   ·replace c18 := Bool.eq_false_iff.mpr c18
    subst c18
    have H1 : ((spec_l04Decode.f kj2 x362000_2 x362001_2 l0_2 a1_0 a1_1 a1_2 a1_3).bind fun bt366 => (if bt366.2.2 = true then (some (bt366.1, bt366.2.1, 0)) else (some (0, false, 6)))) = some (r1, r2, r3) := by rw [if_neg (show ¬ (false = true) by decide)] at H; exact H
    clear H
    have H := H1
    clear H1
    replace H := Option.bind_eq_some_iff.mp H
    obtain ⟨⟨t366, t367, t368⟩, A220, H⟩ := H
    replace H : (if t368 = true then (some (t366, t367, 0)) else (some (0, false, 6))) = some (r1, r2, r3) := H
    have A22 := Aside0.mk A220
    clear A220
    by_cases c23 : t368 = true
    ·subst c23
     have H1 : (some (t366, t367, 0)) = some (r1, r2, r3) := by rw [if_pos rfl] at H; exact H
     clear H
     have H := H1
     clear H1
     simp only [Option.some.injEq, Prod.mk.injEq] at H
     obtain ⟨rfl, rfl, rfl⟩ := H
     have hnb24 := NB362_361.out
     have hnc24 := NB361_362.out
     have hnb25 := NB362_363.out
     have hnc25 := NB363_362.out
     have hcz26_0 : wc.cell? ⟨gb362, 0, none⟩ = some (.int .i8 a1_0) := (blk_cell BK362.out 0).trans rfl
     have hcz26_1 : wc.cell? ⟨gb362, 1, none⟩ = some (.int .i8 a1_1) := (blk_cell BK362.out 1).trans rfl
     have hcz26_2 : wc.cell? ⟨gb362, 2, none⟩ = some (.int .i8 a1_2) := (blk_cell BK362.out 2).trans rfl
     have hcz26_3 : wc.cell? ⟨gb362, 3, none⟩ = some (.int .i8 a1_3) := (blk_cell BK362.out 3).trans rfl
     have hfz26_0 := blk_frozen BK362.out 0
     have hfz26_1 := blk_frozen BK362.out 1
     have hfz26_2 := blk_frozen BK362.out 2
     have hfz26_3 := blk_frozen BK362.out 3
     go_wp2_with (first | ((with_reducible refine gate_callee (f := 40) rfl ?_); refine goesL_ (some 21) rfl rfl Try.func40 (by kernel_rfl) rfl #[.pointer (some ⟨gb361, 0, none⟩), .agg #[.int .i8 a1_0, .int .i8 a1_1, .int .i8 a1_2, .int .i8 a1_3]] rfl (by (try simp only [List.map_toArray, List.map_cons, List.map_nil]); first | done | rfl | (simp only [List.length_drop, List.length_take]; rfl)) ?_; (with_reducible refine (spec_l04Decode.calls kj2 gb361 x362000_2 x362001_2 A0_2 c0_2 l0_2 a1_0 a1_1 a1_2 a1_3 t366 t367 true _ ?side1 ?side2 ?side3 A22.out).mono ?_); (case side1 => exact (pl_ BK361)); (case side2 => repeat (first | exact (Kd.C_below HR0_2.out HB.out) | (with_reducible refine Kd.C_alloc ?_ _) | (with_reducible refine Kd.C_drewN ?_ _) | (with_reducible refine Kd.C_drew ?_))); (case side3 => exact HC0_2.out); rintro e w27 ⟨rfl, hb⟩; refine ⟨_, rfl, ?_⟩; have n0_ := Aside0.mk (blk_below (g := gb361) (o := .cells #[.int .i8 x362000_2, .int .i8 x362001_2, .slice A0_2 l0_2.length c0_2] 35 (0, 0)) (pl_ BK361) hb); have n1_ := Aside0.mk (blk_below (g := gb362) (o := .cells #[.int .i8 a1_0, .int .i8 a1_1, .int .i8 a1_2, .int .i8 a1_3] 30 (0, 0)) (pl_ BK362) hb); have n2_ := Aside0.mk (blk_below (g := gb363) (o := .cells #[.int .i8 0, .bool false] 37 (0, 0)) (pl_ BK363) hb); have n3_ := Aside0.mk (below_step (by repeat (first | (with_reducible first | exact HB.out | apply below_alloc | apply pw_below_drewN | apply below_drew1 | refine below_set ?_ GE361.out | refine below_set ?_ GE362.out | refine below_set ?_ GE363.out) | exact HB.out)) hb); clear BK361; clear BK362; clear BK363; clear HB; have BK361 := n0_; have BK362 := n1_; have BK363 := n2_; have HB := n3_; clear n0_ n1_ n2_ n3_; (try clear hb); (try clear hb2); (try clear hk); (try clear hi)) | ((with_reducible refine gate_dst (N := 6) rfl ?_); refine box_event ?hg (N := 6) ?hd (cs := #[.int .i8 0, .bool false]) (t := 37) ?hr ?_; (case hd => rfl); (case hg => rfl); (case hr => first | (go_simp; done) | (go_simp; rfl)); intro gb369 hg w28 hbox hb; have n0_ := Aside0.mk (blk_below (g := gb361) (o := .cells #[.int .i8 x362000_2, .int .i8 x362001_2, .slice A0_2 l0_2.length c0_2] 35 (0, 0)) (pl_ BK361) hb); have n1_ := Aside0.mk (blk_below (g := gb362) (o := .cells #[.int .i8 a1_0, .int .i8 a1_1, .int .i8 a1_2, .int .i8 a1_3] 30 (0, 0)) (pl_ BK362) hb); have n2_ := Aside0.mk (blk_below (g := gb363) (o := .cells #[.int .i8 0, .bool false] 37 (0, 0)) (pl_ BK363) hb); have n3_ := Aside0.mk (below_step (by repeat (first | (with_reducible first | exact HB.out | apply below_alloc | apply pw_below_drewN | apply below_drew1 | refine below_set ?_ GE361.out | refine below_set ?_ GE362.out | refine below_set ?_ GE363.out) | exact HB.out)) hb); have n4_ := Aside0.mk (hbox); have n5_ := Aside0.mk ((by rw [hg]; exact (below_size (by repeat (first | (with_reducible first | exact HB.out | apply below_alloc | apply pw_below_drewN | apply below_drew1 | refine below_set ?_ GE361.out | refine below_set ?_ GE362.out | refine below_set ?_ GE363.out) | exact HB.out))) : w.heap.size ≤ gb369)); have n6_ := Aside0.mk ((by rw [hg]; exact (below_size (by repeat (first | (with_reducible first | exact HB.out | apply below_alloc | apply pw_below_drewN | apply below_drew1 | refine below_set ?_ GE361.out | refine below_set ?_ GE362.out | refine below_set ?_ GE363.out) | exact HB.out))) : w.heap.size ≤ gb369)); have n7_ := Aside0.mk ((by rw [hg]; exact Nat.ne_of_lt (blk_lt (g := gb361) (o := .cells #[.int .i8 x362000_2, .int .i8 x362001_2, .slice A0_2 l0_2.length c0_2] 35 (0, 0)) (pl_ BK361)) : gb361 ≠ gb369)); have n8_ := Aside0.mk ((by rw [hg]; exact Nat.ne_of_gt (blk_lt (g := gb361) (o := .cells #[.int .i8 x362000_2, .int .i8 x362001_2, .slice A0_2 l0_2.length c0_2] 35 (0, 0)) (pl_ BK361)) : gb369 ≠ gb361)); have n9_ := Aside0.mk ((by rw [hg]; exact Nat.ne_of_lt (blk_lt (g := gb362) (o := .cells #[.int .i8 a1_0, .int .i8 a1_1, .int .i8 a1_2, .int .i8 a1_3] 30 (0, 0)) (pl_ BK362)) : gb362 ≠ gb369)); have n10_ := Aside0.mk ((by rw [hg]; exact Nat.ne_of_gt (blk_lt (g := gb362) (o := .cells #[.int .i8 a1_0, .int .i8 a1_1, .int .i8 a1_2, .int .i8 a1_3] 30 (0, 0)) (pl_ BK362)) : gb369 ≠ gb362)); have n11_ := Aside0.mk ((by rw [hg]; exact Nat.ne_of_lt (blk_lt (g := gb363) (o := .cells #[.int .i8 0, .bool false] 37 (0, 0)) (pl_ BK363)) : gb363 ≠ gb369)); have n12_ := Aside0.mk ((by rw [hg]; exact Nat.ne_of_gt (blk_lt (g := gb363) (o := .cells #[.int .i8 0, .bool false] 37 (0, 0)) (pl_ BK363)) : gb369 ≠ gb363)); clear BK361; clear BK362; clear BK363; clear HB; have BK361 := n0_; have BK362 := n1_; have BK363 := n2_; have HB := n3_; have BK369 := n4_; have GW369 := n5_; have GE369 := n6_; have NB361_369 := n7_; have NB369_361 := n8_; have NB362_369 := n9_; have NB369_362 := n10_; have NB363_369 := n11_; have NB369_363 := n12_; clear n0_ n1_ n2_ n3_ n4_ n5_ n6_ n7_ n8_ n9_ n10_ n11_ n12_; clear hb hbox hg; have hnb29 := NB369_361.out; have hnc29 := NB361_369.out; have hnb30 := NB369_362.out; have hnc30 := NB362_369.out; have hnb31 := NB369_363.out; have hnc31 := NB363_369.out; have hcz32_0 : w28.cell? ⟨gb369, 0, none⟩ = some (.int .i8 0) := (blk_cell BK369.out 0).trans rfl; have hcz32_1 : w28.cell? ⟨gb369, 1, none⟩ = some (.bool false) := (blk_cell BK369.out 1).trans rfl; have hfz32_0 := blk_frozen BK369.out 0; have hfz32_1 := blk_frozen BK369.out 1; have hnb33 := NB363_361.out; have hnc33 := NB361_363.out; have hcz34_0 : w28.cell? ⟨gb363, 0, none⟩ = some (.int .i8 0) := (blk_cell BK363.out 0).trans rfl; have hcz34_1 : w28.cell? ⟨gb363, 1, none⟩ = some (.bool false) := (blk_cell BK363.out 1).trans rfl; have hfz34_0 := blk_frozen BK363.out 0; have hfz34_1 := blk_frozen BK363.out 1))
     refine bodyPost_ret (results_ct rfl _ _ gb363 37 #[.int .i8 t366, .bool t367] (0, 0) _ rfl (by (with_reducible repeat (first | refine blk_drewN ?_ _ | refine blk_drew ?_ | refine blk_alloc ?_ _)); refine blk_put (cs := #[.int .i8 t366, .bool false]) ?_ 1 _ rfl; (with_reducible repeat (first | refine blk_drewN ?_ _ | refine blk_drew ?_ | refine blk_alloc ?_ _)); refine blk_put (cs := #[.int .i8 0, .bool false]) ?_ 0 _ rfl; (with_reducible repeat (first | refine blk_drewN ?_ _ | refine blk_drew ?_ | refine blk_alloc ?_ _)); refine blk_far ?_ NB363_369.out _; (with_reducible repeat (first | refine blk_drewN ?_ _ | refine blk_drew ?_ | refine blk_alloc ?_ _)); refine blk_far ?_ NB363_369.out _; (with_reducible repeat (first | refine blk_drewN ?_ _ | refine blk_drew ?_ | refine blk_alloc ?_ _)); exact BK363.out) Try.underlying37 rfl (by kernel_rfl)) rfl ?_
     exact ⟨by first | rfl | (simp [errW_none, errW_some] <;> rfl) | (simp [*, errW_none, errW_some] <;> rfl), by repeat (first | (with_reducible first | exact HB.out | apply below_alloc | apply pw_below_drewN | apply below_drew1 | refine below_set ?_ GE361.out | refine below_set ?_ GE362.out | refine below_set ?_ GE363.out | refine below_set ?_ GE369.out) | exact HB.out)⟩
    ·replace c23 := Bool.eq_false_iff.mpr c23
     subst c23
     have H1 : (some (0, false, 6)) = some (r1, r2, r3) := by rw [if_neg (show ¬ (false = true) by decide)] at H; exact H
     clear H
     have H := H1
     clear H1
     simp only [Option.some.injEq, Prod.mk.injEq] at H
     obtain ⟨rfl, rfl, rfl⟩ := H
     have hnb35 := NB362_361.out
     have hnc35 := NB361_362.out
     have hnb36 := NB362_363.out
     have hnc36 := NB363_362.out
     have hcz37_0 : wc.cell? ⟨gb362, 0, none⟩ = some (.int .i8 a1_0) := (blk_cell BK362.out 0).trans rfl
     have hcz37_1 : wc.cell? ⟨gb362, 1, none⟩ = some (.int .i8 a1_1) := (blk_cell BK362.out 1).trans rfl
     have hcz37_2 : wc.cell? ⟨gb362, 2, none⟩ = some (.int .i8 a1_2) := (blk_cell BK362.out 2).trans rfl
     have hcz37_3 : wc.cell? ⟨gb362, 3, none⟩ = some (.int .i8 a1_3) := (blk_cell BK362.out 3).trans rfl
     have hfz37_0 := blk_frozen BK362.out 0
     have hfz37_1 := blk_frozen BK362.out 1
     have hfz37_2 := blk_frozen BK362.out 2
     have hfz37_3 := blk_frozen BK362.out 3
     go_wp2_with (first | ((with_reducible refine gate_callee (f := 40) rfl ?_); refine goesL_ (some 21) rfl rfl Try.func40 (by kernel_rfl) rfl #[.pointer (some ⟨gb361, 0, none⟩), .agg #[.int .i8 a1_0, .int .i8 a1_1, .int .i8 a1_2, .int .i8 a1_3]] rfl (by (try simp only [List.map_toArray, List.map_cons, List.map_nil]); first | done | rfl | (simp only [List.length_drop, List.length_take]; rfl)) ?_; (with_reducible refine (spec_l04Decode.calls kj2 gb361 x362000_2 x362001_2 A0_2 c0_2 l0_2 a1_0 a1_1 a1_2 a1_3 t366 t367 false _ ?side1 ?side2 ?side3 A22.out).mono ?_); (case side1 => exact (pl_ BK361)); (case side2 => repeat (first | exact (Kd.C_below HR0_2.out HB.out) | (with_reducible refine Kd.C_alloc ?_ _) | (with_reducible refine Kd.C_drewN ?_ _) | (with_reducible refine Kd.C_drew ?_))); (case side3 => exact HC0_2.out); rintro e w38 ⟨rfl, hb⟩; refine ⟨_, rfl, ?_⟩; have n0_ := Aside0.mk (blk_below (g := gb361) (o := .cells #[.int .i8 x362000_2, .int .i8 x362001_2, .slice A0_2 l0_2.length c0_2] 35 (0, 0)) (pl_ BK361) hb); have n1_ := Aside0.mk (blk_below (g := gb362) (o := .cells #[.int .i8 a1_0, .int .i8 a1_1, .int .i8 a1_2, .int .i8 a1_3] 30 (0, 0)) (pl_ BK362) hb); have n2_ := Aside0.mk (blk_below (g := gb363) (o := .cells #[.int .i8 0, .bool false] 37 (0, 0)) (pl_ BK363) hb); have n3_ := Aside0.mk (below_step (by repeat (first | (with_reducible first | exact HB.out | apply below_alloc | apply pw_below_drewN | apply below_drew1 | refine below_set ?_ GE361.out | refine below_set ?_ GE362.out | refine below_set ?_ GE363.out) | exact HB.out)) hb); clear BK361; clear BK362; clear BK363; clear HB; have BK361 := n0_; have BK362 := n1_; have BK363 := n2_; have HB := n3_; clear n0_ n1_ n2_ n3_; (try clear hb); (try clear hb2); (try clear hk); (try clear hi)) | ((with_reducible refine gate_dst (N := 6) rfl ?_); refine box_event ?hg (N := 6) ?hd (cs := #[.int .i8 0, .bool false]) (t := 37) ?hr ?_; (case hd => rfl); (case hg => rfl); (case hr => first | (go_simp; done) | (go_simp; rfl)); intro gb369 hg w39 hbox hb; have n0_ := Aside0.mk (blk_below (g := gb361) (o := .cells #[.int .i8 x362000_2, .int .i8 x362001_2, .slice A0_2 l0_2.length c0_2] 35 (0, 0)) (pl_ BK361) hb); have n1_ := Aside0.mk (blk_below (g := gb362) (o := .cells #[.int .i8 a1_0, .int .i8 a1_1, .int .i8 a1_2, .int .i8 a1_3] 30 (0, 0)) (pl_ BK362) hb); have n2_ := Aside0.mk (blk_below (g := gb363) (o := .cells #[.int .i8 0, .bool false] 37 (0, 0)) (pl_ BK363) hb); have n3_ := Aside0.mk (below_step (by repeat (first | (with_reducible first | exact HB.out | apply below_alloc | apply pw_below_drewN | apply below_drew1 | refine below_set ?_ GE361.out | refine below_set ?_ GE362.out | refine below_set ?_ GE363.out) | exact HB.out)) hb); have n4_ := Aside0.mk (hbox); have n5_ := Aside0.mk ((by rw [hg]; exact (below_size (by repeat (first | (with_reducible first | exact HB.out | apply below_alloc | apply pw_below_drewN | apply below_drew1 | refine below_set ?_ GE361.out | refine below_set ?_ GE362.out | refine below_set ?_ GE363.out) | exact HB.out))) : w.heap.size ≤ gb369)); have n6_ := Aside0.mk ((by rw [hg]; exact (below_size (by repeat (first | (with_reducible first | exact HB.out | apply below_alloc | apply pw_below_drewN | apply below_drew1 | refine below_set ?_ GE361.out | refine below_set ?_ GE362.out | refine below_set ?_ GE363.out) | exact HB.out))) : w.heap.size ≤ gb369)); have n7_ := Aside0.mk ((by rw [hg]; exact Nat.ne_of_lt (blk_lt (g := gb361) (o := .cells #[.int .i8 x362000_2, .int .i8 x362001_2, .slice A0_2 l0_2.length c0_2] 35 (0, 0)) (pl_ BK361)) : gb361 ≠ gb369)); have n8_ := Aside0.mk ((by rw [hg]; exact Nat.ne_of_gt (blk_lt (g := gb361) (o := .cells #[.int .i8 x362000_2, .int .i8 x362001_2, .slice A0_2 l0_2.length c0_2] 35 (0, 0)) (pl_ BK361)) : gb369 ≠ gb361)); have n9_ := Aside0.mk ((by rw [hg]; exact Nat.ne_of_lt (blk_lt (g := gb362) (o := .cells #[.int .i8 a1_0, .int .i8 a1_1, .int .i8 a1_2, .int .i8 a1_3] 30 (0, 0)) (pl_ BK362)) : gb362 ≠ gb369)); have n10_ := Aside0.mk ((by rw [hg]; exact Nat.ne_of_gt (blk_lt (g := gb362) (o := .cells #[.int .i8 a1_0, .int .i8 a1_1, .int .i8 a1_2, .int .i8 a1_3] 30 (0, 0)) (pl_ BK362)) : gb369 ≠ gb362)); have n11_ := Aside0.mk ((by rw [hg]; exact Nat.ne_of_lt (blk_lt (g := gb363) (o := .cells #[.int .i8 0, .bool false] 37 (0, 0)) (pl_ BK363)) : gb363 ≠ gb369)); have n12_ := Aside0.mk ((by rw [hg]; exact Nat.ne_of_gt (blk_lt (g := gb363) (o := .cells #[.int .i8 0, .bool false] 37 (0, 0)) (pl_ BK363)) : gb369 ≠ gb363)); clear BK361; clear BK362; clear BK363; clear HB; have BK361 := n0_; have BK362 := n1_; have BK363 := n2_; have HB := n3_; have BK369 := n4_; have GW369 := n5_; have GE369 := n6_; have NB361_369 := n7_; have NB369_361 := n8_; have NB362_369 := n9_; have NB369_362 := n10_; have NB363_369 := n11_; have NB369_363 := n12_; clear n0_ n1_ n2_ n3_ n4_ n5_ n6_ n7_ n8_ n9_ n10_ n11_ n12_; clear hb hbox hg; have hnb40 := NB369_361.out; have hnc40 := NB361_369.out; have hnb41 := NB369_362.out; have hnc41 := NB362_369.out; have hnb42 := NB369_363.out; have hnc42 := NB363_369.out; have hcz43_0 : w39.cell? ⟨gb369, 0, none⟩ = some (.int .i8 0) := (blk_cell BK369.out 0).trans rfl; have hcz43_1 : w39.cell? ⟨gb369, 1, none⟩ = some (.bool false) := (blk_cell BK369.out 1).trans rfl; have hfz43_0 := blk_frozen BK369.out 0; have hfz43_1 := blk_frozen BK369.out 1; have hnb44 := NB363_361.out; have hnc44 := NB361_363.out; have hcz45_0 : w39.cell? ⟨gb363, 0, none⟩ = some (.int .i8 0) := (blk_cell BK363.out 0).trans rfl; have hcz45_1 : w39.cell? ⟨gb363, 1, none⟩ = some (.bool false) := (blk_cell BK363.out 1).trans rfl; have hfz45_0 := blk_frozen BK363.out 0; have hfz45_1 := blk_frozen BK363.out 1))
     refine bodyPost_ret (results_ct rfl _ _ gb363 37 #[.int .i8 0, .bool false] (0, 0) _ rfl (by (with_reducible repeat (first | refine blk_drewN ?_ _ | refine blk_drew ?_ | refine blk_alloc ?_ _)); refine blk_put (cs := #[.int .i8 0, .bool false]) ?_ 1 _ rfl; (with_reducible repeat (first | refine blk_drewN ?_ _ | refine blk_drew ?_ | refine blk_alloc ?_ _)); refine blk_put (cs := #[.int .i8 0, .bool false]) ?_ 0 _ rfl; (with_reducible repeat (first | refine blk_drewN ?_ _ | refine blk_drew ?_ | refine blk_alloc ?_ _)); refine blk_far ?_ NB363_369.out _; (with_reducible repeat (first | refine blk_drewN ?_ _ | refine blk_drew ?_ | refine blk_alloc ?_ _)); refine blk_far ?_ NB363_369.out _; (with_reducible repeat (first | refine blk_drewN ?_ _ | refine blk_drew ?_ | refine blk_alloc ?_ _)); exact BK363.out) Try.underlying37 rfl (by kernel_rfl)) rfl ?_
     exact ⟨by first | rfl | (simp [errW_none, errW_some] <;> rfl) | (simp [*, errW_none, errW_some] <;> rfl), by repeat (first | (with_reducible first | exact HB.out | apply below_alloc | apply pw_below_drewN | apply below_drew1 | refine below_set ?_ GE361.out | refine below_set ?_ GE362.out | refine below_set ?_ GE363.out | refine below_set ?_ GE369.out) | exact HB.out)⟩

end Go.Proofs.Ytkllpdekkhhhnaa.M
