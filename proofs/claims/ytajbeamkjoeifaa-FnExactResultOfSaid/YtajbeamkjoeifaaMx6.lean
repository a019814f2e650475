-- By this seat's own program over the kit's printer (arrays, functions told by hand); nothing of it is trusted: the kernel checks it.
import Derived.Test.YtajbeamkjoeifaaMx0
import Derived.Test.YtajbeamkjoeifaaMx4
namespace Go.Proofs.Ytajbeamkjoeifaa.M
open Go.RowKit Go.Proofs.YtajbeamkjoeifaaW.PrintWords Go.Proofs.YtajbeamkjoeifaaW.PrintLast Go.Proofs.YtajbeamkjoeifaaW.PrintMore
attribute [local go_sem] max2_int min2_int max_two min_two max_three min_three max_four min_four   -- for this text's walks alone
set_option linter.unusedVariables false
set_option linter.unusedSimpArgs false

/-! ### laws_toWeighing: function 18 -/
def laws_toWeighing.l0 : Nat → Int → Int → Int → Int → Int → Int → Int → Int → Int → Int → Int → Int → Int → Int → Int → Int → Int → Int → Int → Int → Int → Int → Int → Int → Int → Int → Int → Int → Int → Option (Int × Int × Int × Int × Int × Int × Int × Int × Int × Int × Int × Int × Int × Int)
  | 0, _, _, _, _, _, _, _, _, _, _, _, _, _, _, _, _, _, _, _, _, _, _, _, _, _, _, _, _, _ => none
  | k + 1, x4, x133000, x133001, x133002, x133003, x133004, x133005, x133006, x133007, x133008, x133009, x133010, x133011, x133012, x133013, x135000, x135001, x135002, x135003, x135004, x135005, x135006, x135007, x135008, x135009, x135010, x135011, x135012, x135013 => if x4 < 14 then (if 0 ≤ x4 then (laws_toWeighing.l0 k (wrap64 (x4 + 1)) x133000 x133001 x133002 x133003 x133004 x133005 x133006 x133007 x133008 x133009 x133010 x133011 x133012 x133013 (aup x4 0 (rd [x133000, x133001, x133002, x133003, x133004, x133005, x133006, x133007, x133008, x133009, x133010, x133011, x133012, x133013] x4) x135000) (aup x4 1 (rd [x133000, x133001, x133002, x133003, x133004, x133005, x133006, x133007, x133008, x133009, x133010, x133011, x133012, x133013] x4) x135001) (aup x4 2 (rd [x133000, x133001, x133002, x133003, x133004, x133005, x133006, x133007, x133008, x133009, x133010, x133011, x133012, x133013] x4) x135002) (aup x4 3 (rd [x133000, x133001, x133002, x133003, x133004, x133005, x133006, x133007, x133008, x133009, x133010, x133011, x133012, x133013] x4) x135003) (aup x4 4 (rd [x133000, x133001, x133002, x133003, x133004, x133005, x133006, x133007, x133008, x133009, x133010, x133011, x133012, x133013] x4) x135004) (aup x4 5 (rd [x133000, x133001, x133002, x133003, x133004, x133005, x133006, x133007, x133008, x133009, x133010, x133011, x133012, x133013] x4) x135005) (aup x4 6 (rd [x133000, x133001, x133002, x133003, x133004, x133005, x133006, x133007, x133008, x133009, x133010, x133011, x133012, x133013] x4) x135006) (aup x4 7 (rd [x133000, x133001, x133002, x133003, x133004, x133005, x133006, x133007, x133008, x133009, x133010, x133011, x133012, x133013] x4) x135007) (aup x4 8 (rd [x133000, x133001, x133002, x133003, x133004, x133005, x133006, x133007, x133008, x133009, x133010, x133011, x133012, x133013] x4) x135008) (aup x4 9 (rd [x133000, x133001, x133002, x133003, x133004, x133005, x133006, x133007, x133008, x133009, x133010, x133011, x133012, x133013] x4) x135009) (aup x4 10 (rd [x133000, x133001, x133002, x133003, x133004, x133005, x133006, x133007, x133008, x133009, x133010, x133011, x133012, x133013] x4) x135010) (aup x4 11 (rd [x133000, x133001, x133002, x133003, x133004, x133005, x133006, x133007, x133008, x133009, x133010, x133011, x133012, x133013] x4) x135011) (aup x4 12 (rd [x133000, x133001, x133002, x133003, x133004, x133005, x133006, x133007, x133008, x133009, x133010, x133011, x133012, x133013] x4) x135012) (aup x4 13 (rd [x133000, x133001, x133002, x133003, x133004, x133005, x133006, x133007, x133008, x133009, x133010, x133011, x133012, x133013] x4) x135013)) else (none)) else (some (x135000, x135001, x135002, x135003, x135004, x135005, x135006, x135007, x135008, x135009, x135010, x135011, x135012, x135013))
def laws_toWeighing.f (k : Nat) (a0_0 : Int) (a0_1 : Int) (a0_2 : Int) (a0_3 : Int) (a0_4 : Int) (a0_5 : Int) (a0_6 : Int) (a0_7 : Int) (a0_8 : Int) (a0_9 : Int) (a0_10 : Int) (a0_11 : Int) (a0_12 : Int) (a0_13 : Int) : Option (Int × Int × Int × Int × Int × Int × Int × Int × Int × Int × Int × Int × Int × Int) := laws_toWeighing.l0 k 0 a0_0 a0_1 a0_2 a0_3 a0_4 a0_5 a0_6 a0_7 a0_8 a0_9 a0_10 a0_11 a0_12 a0_13 0 0 0 0 0 0 0 0 0 0 0 0 0 0
theorem laws_toWeighing.mono_l : ∀ k, (∀ y0 y1 y2 y3 y4 y5 y6 y7 y8 y9 y10 y11 y12 y13 y14 y15 y16 y17 y18 y19 y20 y21 y22 y23 y24 y25 y26 y27 y28, LeO (laws_toWeighing.l0 k y0 y1 y2 y3 y4 y5 y6 y7 y8 y9 y10 y11 y12 y13 y14 y15 y16 y17 y18 y19 y20 y21 y22 y23 y24 y25 y26 y27 y28) (laws_toWeighing.l0 (k + 1) y0 y1 y2 y3 y4 y5 y6 y7 y8 y9 y10 y11 y12 y13 y14 y15 y16 y17 y18 y19 y20 y21 y22 y23 y24 y25 y26 y27 y28))
  | 0 => fun _ _ _ _ _ _ _ _ _ _ _ _ _ _ _ _ _ _ _ _ _ _ _ _ _ _ _ _ _ r h => by simp [laws_toWeighing.l0] at h
  | k + 1 => by
    have ih0 := laws_toWeighing.mono_l k
    · intro y0 y1 y2 y3 y4 y5 y6 y7 y8 y9 y10 y11 y12 y13 y14 y15 y16 y17 y18 y19 y20 y21 y22 y23 y24 y25 y26 y27 y28
      unfold laws_toWeighing.l0
      repeat' first
      | (with_reducible exact ih0 _ _ _ _ _ _ _ _ _ _ _ _ _ _ _ _ _ _ _ _ _ _ _ _ _ _ _ _ _)
      | (with_reducible exact LeO.refl _)
      | (with_reducible exact LeO.none _)
      | (with_reducible refine LeO.ite ?_ ?_)
      | (with_reducible refine LeO.bind ?_ (fun _ => ?_))
      | exact ih0 _ _ _ _ _ _ _ _ _ _ _ _ _ _ _ _ _ _ _ _ _ _ _ _ _ _ _ _ _
      | exact LeO.none _
      | refine LeO.ite ?_ ?_
      | refine LeO.bind ?_ (fun _ => ?_)
theorem laws_toWeighing.mono : ∀ a0 a1 a2 a3 a4 a5 a6 a7 a8 a9 a10 a11 a12 a13 k, LeO (laws_toWeighing.f k a0 a1 a2 a3 a4 a5 a6 a7 a8 a9 a10 a11 a12 a13) (laws_toWeighing.f (k + 1) a0 a1 a2 a3 a4 a5 a6 a7 a8 a9 a10 a11 a12 a13) := by
  intro a0 a1 a2 a3 a4 a5 a6 a7 a8 a9 a10 a11 a12 a13 k
  have ih0 := laws_toWeighing.mono_l k
  unfold laws_toWeighing.f
  repeat' first
      | (with_reducible exact ih0 _ _ _ _ _ _ _ _ _ _ _ _ _ _ _ _ _ _ _ _ _ _ _ _ _ _ _ _ _)
      | (with_reducible exact LeO.refl _)
      | (with_reducible exact LeO.none _)
      | (with_reducible refine LeO.ite ?_ ?_)
      | (with_reducible refine LeO.bind ?_ (fun _ => ?_))
      | exact ih0 _ _ _ _ _ _ _ _ _ _ _ _ _ _ _ _ _ _ _ _ _ _ _ _ _ _ _ _ _
      | exact LeO.none _
      | refine LeO.ite ?_ ?_
      | refine LeO.bind ?_ (fun _ => ?_)
set_option maxHeartbeats 8000000 in
set_option maxRecDepth 100000 in
theorem laws_toWeighing.calls (k : Nat) (a0_0 : Int) (a0_1 : Int) (a0_2 : Int) (a0_3 : Int) (a0_4 : Int) (a0_5 : Int) (a0_6 : Int) (a0_7 : Int) (a0_8 : Int) (a0_9 : Int) (a0_10 : Int) (a0_11 : Int) (a0_12 : Int) (a0_13 : Int) (r1 : Int) (r2 : Int) (r3 : Int) (r4 : Int) (r5 : Int) (r6 : Int) (r7 : Int) (r8 : Int) (r9 : Int) (r10 : Int) (r11 : Int) (r12 : Int) (r13 : Int) (r14 : Int) (w : World) (h : laws_toWeighing.f k a0_0 a0_1 a0_2 a0_3 a0_4 a0_5 a0_6 a0_7 a0_8 a0_9 a0_10 a0_11 a0_12 a0_13 = some (r1, r2, r3, r4, r5, r6, r7, r8, r9, r10, r11, r12, r13, r14)) :
    Calls Try.prog 18 #[.agg #[.int .i8 a0_0, .int .i8 a0_1, .int .i8 a0_2, .int .i8 a0_3, .int .i8 a0_4, .int .i8 a0_5, .int .i8 a0_6, .int .i8 a0_7, .int .i8 a0_8, .int .i8 a0_9, .int .i8 a0_10, .int .i8 a0_11, .int .i8 a0_12, .int .i8 a0_13]] w fun e w' => e = .returned (.agg #[.int .i8 r1, .int .i8 r2, .int .i8 r3, .int .i8 r4, .int .i8 r5, .int .i8 r6, .int .i8 r7, .int .i8 r8, .int .i8 r9, .int .i8 r10, .int .i8 r11, .int .i8 r12, .int .i8 r13, .int .i8 r14]) ∧ Below w.heap.size w w' := by
  have hu29 := Try.underlying29
  have hu31 := Try.underlying31
  have HB := Aside0.mk (Below.refl w.heap.size w)
  have H : (laws_toWeighing.l0 k 0 a0_0 a0_1 a0_2 a0_3 a0_4 a0_5 a0_6 a0_7 a0_8 a0_9 a0_10 a0_11 a0_12 a0_13 0 0 0 0 0 0 0 0 0 0 0 0 0 0) = some (r1, r2, r3, r4, r5, r6, r7, r8, r9, r10, r11, r12, r13, r14) := h
  clear h
  have H' := Aside0.mk H
  clear H
  go_enter Try.func18, Try.ntmps18
  go_wp2_with (first | ((with_reducible refine gate_dst (N := 1) rfl ?_); refine box_event ?hg (N := 1) ?hd (cs := #[.int .i8 a0_0, .int .i8 a0_1, .int .i8 a0_2, .int .i8 a0_3, .int .i8 a0_4, .int .i8 a0_5, .int .i8 a0_6, .int .i8 a0_7, .int .i8 a0_8, .int .i8 a0_9, .int .i8 a0_10, .int .i8 a0_11, .int .i8 a0_12, .int .i8 a0_13]) (t := 29) ?hr ?_; (case hd => rfl); (case hg => rfl); (case hr => first | (go_simp; done) | (go_simp; rfl)); intro gb132 hg w2 hbox hb; have n0_ := Aside0.mk (below_step (by repeat (first | (with_reducible first | exact HB.out | apply below_alloc | apply pw_below_drewN | apply below_drew1) | exact HB.out)) hb); have n1_ := Aside0.mk (hbox); have n2_ := Aside0.mk ((by rw [hg]; exact (below_size (by repeat (first | (with_reducible first | exact HB.out | apply below_alloc | apply pw_below_drewN | apply below_drew1) | exact HB.out))) : w.heap.size ≤ gb132)); have n3_ := Aside0.mk ((by rw [hg]; exact (below_size (by repeat (first | (with_reducible first | exact HB.out | apply below_alloc | apply pw_below_drewN | apply below_drew1) | exact HB.out))) : w.heap.size ≤ gb132)); clear HB; have HB := n0_; have BK132 := n1_; have GW132 := n2_; have GE132 := n3_; clear n0_ n1_ n2_ n3_; clear hb hbox hg) | ((with_reducible refine gate_dst (N := 2) rfl ?_); refine box_event ?hg (N := 2) ?hd (cs := #[.int .i8 0, .int .i8 0, .int .i8 0, .int .i8 0, .int .i8 0, .int .i8 0, .int .i8 0, .int .i8 0, .int .i8 0, .int .i8 0, .int .i8 0, .int .i8 0, .int .i8 0, .int .i8 0]) (t := 31) ?hr ?_; (case hd => rfl); (case hg => rfl); (case hr => first | (go_simp; done) | (go_simp; rfl)); intro gb133 hg w3 hbox hb; have n0_ := Aside0.mk (blk_below (g := gb132) (o := .cells #[.int .i8 a0_0, .int .i8 a0_1, .int .i8 a0_2, .int .i8 a0_3, .int .i8 a0_4, .int .i8 a0_5, .int .i8 a0_6, .int .i8 a0_7, .int .i8 a0_8, .int .i8 a0_9, .int .i8 a0_10, .int .i8 a0_11, .int .i8 a0_12, .int .i8 a0_13] 29 (0, 0)) (by (with_reducible repeat (first | refine blk_drewN ?_ _ | refine blk_drew ?_ | refine blk_alloc ?_ _)); exact BK132.out) hb); have n1_ := Aside0.mk (below_step (by repeat (first | (with_reducible first | exact HB.out | apply below_alloc | apply pw_below_drewN | apply below_drew1 | refine below_set ?_ GE132.out) | exact HB.out)) hb); have n2_ := Aside0.mk (hbox); have n3_ := Aside0.mk ((by rw [hg]; exact (below_size (by repeat (first | (with_reducible first | exact HB.out | apply below_alloc | apply pw_below_drewN | apply below_drew1 | refine below_set ?_ GE132.out) | exact HB.out))) : w.heap.size ≤ gb133)); have n4_ := Aside0.mk ((by rw [hg]; exact (below_size (by repeat (first | (with_reducible first | exact HB.out | apply below_alloc | apply pw_below_drewN | apply below_drew1 | refine below_set ?_ GE132.out) | exact HB.out))) : w.heap.size ≤ gb133)); have n5_ := Aside0.mk ((by rw [hg]; exact Nat.ne_of_lt (blk_lt (g := gb132) (o := .cells #[.int .i8 a0_0, .int .i8 a0_1, .int .i8 a0_2, .int .i8 a0_3, .int .i8 a0_4, .int .i8 a0_5, .int .i8 a0_6, .int .i8 a0_7, .int .i8 a0_8, .int .i8 a0_9, .int .i8 a0_10, .int .i8 a0_11, .int .i8 a0_12, .int .i8 a0_13] 29 (0, 0)) (by (with_reducible repeat (first | refine blk_drewN ?_ _ | refine blk_drew ?_ | refine blk_alloc ?_ _)); exact BK132.out)) : gb132 ≠ gb133)); have n6_ := Aside0.mk ((by rw [hg]; exact Nat.ne_of_gt (blk_lt (g := gb132) (o := .cells #[.int .i8 a0_0, .int .i8 a0_1, .int .i8 a0_2, .int .i8 a0_3, .int .i8 a0_4, .int .i8 a0_5, .int .i8 a0_6, .int .i8 a0_7, .int .i8 a0_8, .int .i8 a0_9, .int .i8 a0_10, .int .i8 a0_11, .int .i8 a0_12, .int .i8 a0_13] 29 (0, 0)) (by (with_reducible repeat (first | refine blk_drewN ?_ _ | refine blk_drew ?_ | refine blk_alloc ?_ _)); exact BK132.out)) : gb133 ≠ gb132)); clear BK132; clear HB; have BK132 := n0_; have HB := n1_; have BK133 := n2_; have GW133 := n3_; have GE133 := n4_; have NB132_133 := n5_; have NB133_132 := n6_; clear n0_ n1_ n2_ n3_ n4_ n5_ n6_; clear hb hbox hg) | ((with_reducible refine gate_dst (N := 3) rfl ?_); refine box_event ?hg (N := 3) ?hd (cs := #[.int .i8 0, .int .i8 0, .int .i8 0, .int .i8 0, .int .i8 0, .int .i8 0, .int .i8 0, .int .i8 0, .int .i8 0, .int .i8 0, .int .i8 0, .int .i8 0, .int .i8 0, .int .i8 0]) (t := 31) ?hr ?_; (case hd => rfl); (case hg => rfl); (case hr => first | (go_simp; done) | (go_simp; rfl)); intro gb134 hg w4 hbox hb; have n0_ := Aside0.mk (blk_below (g := gb132) (o := .cells #[.int .i8 a0_0, .int .i8 a0_1, .int .i8 a0_2, .int .i8 a0_3, .int .i8 a0_4, .int .i8 a0_5, .int .i8 a0_6, .int .i8 a0_7, .int .i8 a0_8, .int .i8 a0_9, .int .i8 a0_10, .int .i8 a0_11, .int .i8 a0_12, .int .i8 a0_13] 29 (0, 0)) (by (with_reducible repeat (first | refine blk_drewN ?_ _ | refine blk_drew ?_ | refine blk_alloc ?_ _)); exact BK132.out) hb); have n1_ := Aside0.mk (blk_below (g := gb133) (o := .cells #[.int .i8 0, .int .i8 0, .int .i8 0, .int .i8 0, .int .i8 0, .int .i8 0, .int .i8 0, .int .i8 0, .int .i8 0, .int .i8 0, .int .i8 0, .int .i8 0, .int .i8 0, .int .i8 0] 31 (0, 0)) (by (with_reducible repeat (first | refine blk_drewN ?_ _ | refine blk_drew ?_ | refine blk_alloc ?_ _)); exact BK133.out) hb); have n2_ := Aside0.mk (below_step (by repeat (first | (with_reducible first | exact HB.out | apply below_alloc | apply pw_below_drewN | apply below_drew1 | refine below_set ?_ GE132.out | refine below_set ?_ GE133.out) | exact HB.out)) hb); have n3_ := Aside0.mk (hbox); have n4_ := Aside0.mk ((by rw [hg]; exact (below_size (by repeat (first | (with_reducible first | exact HB.out | apply below_alloc | apply pw_below_drewN | apply below_drew1 | refine below_set ?_ GE132.out | refine below_set ?_ GE133.out) | exact HB.out))) : w.heap.size ≤ gb134)); have n5_ := Aside0.mk ((by rw [hg]; exact (below_size (by repeat (first | (with_reducible first | exact HB.out | apply below_alloc | apply pw_below_drewN | apply below_drew1 | refine below_set ?_ GE132.out | refine below_set ?_ GE133.out) | exact HB.out))) : w.heap.size ≤ gb134)); have n6_ := Aside0.mk ((by rw [hg]; exact Nat.ne_of_lt (blk_lt (g := gb132) (o := .cells #[.int .i8 a0_0, .int .i8 a0_1, .int .i8 a0_2, .int .i8 a0_3, .int .i8 a0_4, .int .i8 a0_5, .int .i8 a0_6, .int .i8 a0_7, .int .i8 a0_8, .int .i8 a0_9, .int .i8 a0_10, .int .i8 a0_11, .int .i8 a0_12, .int .i8 a0_13] 29 (0, 0)) (by (with_reducible repeat (first | refine blk_drewN ?_ _ | refine blk_drew ?_ | refine blk_alloc ?_ _)); exact BK132.out)) : gb132 ≠ gb134)); have n7_ := Aside0.mk ((by rw [hg]; exact Nat.ne_of_gt (blk_lt (g := gb132) (o := .cells #[.int .i8 a0_0, .int .i8 a0_1, .int .i8 a0_2, .int .i8 a0_3, .int .i8 a0_4, .int .i8 a0_5, .int .i8 a0_6, .int .i8 a0_7, .int .i8 a0_8, .int .i8 a0_9, .int .i8 a0_10, .int .i8 a0_11, .int .i8 a0_12, .int .i8 a0_13] 29 (0, 0)) (by (with_reducible repeat (first | refine blk_drewN ?_ _ | refine blk_drew ?_ | refine blk_alloc ?_ _)); exact BK132.out)) : gb134 ≠ gb132)); have n8_ := Aside0.mk ((by rw [hg]; exact Nat.ne_of_lt (blk_lt (g := gb133) (o := .cells #[.int .i8 0, .int .i8 0, .int .i8 0, .int .i8 0, .int .i8 0, .int .i8 0, .int .i8 0, .int .i8 0, .int .i8 0, .int .i8 0, .int .i8 0, .int .i8 0, .int .i8 0, .int .i8 0] 31 (0, 0)) (by (with_reducible repeat (first | refine blk_drewN ?_ _ | refine blk_drew ?_ | refine blk_alloc ?_ _)); exact BK133.out)) : gb133 ≠ gb134)); have n9_ := Aside0.mk ((by rw [hg]; exact Nat.ne_of_gt (blk_lt (g := gb133) (o := .cells #[.int .i8 0, .int .i8 0, .int .i8 0, .int .i8 0, .int .i8 0, .int .i8 0, .int .i8 0, .int .i8 0, .int .i8 0, .int .i8 0, .int .i8 0, .int .i8 0, .int .i8 0, .int .i8 0] 31 (0, 0)) (by (with_reducible repeat (first | refine blk_drewN ?_ _ | refine blk_drew ?_ | refine blk_alloc ?_ _)); exact BK133.out)) : gb134 ≠ gb133)); clear BK132; clear BK133; clear HB; have BK132 := n0_; have BK133 := n1_; have HB := n2_; have BK134 := n3_; have GW134 := n4_; have GE134 := n5_; have NB132_134 := n6_; have NB134_132 := n7_; have NB133_134 := n8_; have NB134_133 := n9_; clear n0_ n1_ n2_ n3_ n4_ n5_ n6_ n7_ n8_ n9_; clear hb hbox hg))
  go_loopg [4] k (fun kq v4 w' => ∃ (x4_1 : Int) (x135000_1 : Int) (x135001_1 : Int) (x135002_1 : Int) (x135003_1 : Int) (x135004_1 : Int) (x135005_1 : Int) (x135006_1 : Int) (x135007_1 : Int) (x135008_1 : Int) (x135009_1 : Int) (x135010_1 : Int) (x135011_1 : Int) (x135012_1 : Int) (x135013_1 : Int), v4 = .int .i64 x4_1 ∧ Aside0 (laws_toWeighing.l0 kq x4_1 a0_0 a0_1 a0_2 a0_3 a0_4 a0_5 a0_6 a0_7 a0_8 a0_9 a0_10 a0_11 a0_12 a0_13 x135000_1 x135001_1 x135002_1 x135003_1 x135004_1 x135005_1 x135006_1 x135007_1 x135008_1 x135009_1 x135010_1 x135011_1 x135012_1 x135013_1 = some (r1, r2, r3, r4, r5, r6, r7, r8, r9, r10, r11, r12, r13, r14)) ∧ Aside0 (kq ≤ k) ∧ Aside0 (w'.heap[gb132]? = some (.cells #[.int .i8 a0_0, .int .i8 a0_1, .int .i8 a0_2, .int .i8 a0_3, .int .i8 a0_4, .int .i8 a0_5, .int .i8 a0_6, .int .i8 a0_7, .int .i8 a0_8, .int .i8 a0_9, .int .i8 a0_10, .int .i8 a0_11, .int .i8 a0_12, .int .i8 a0_13] 29 (0, 0))) ∧ Aside0 (w'.heap[gb133]? = some (.cells #[.int .i8 0, .int .i8 0, .int .i8 0, .int .i8 0, .int .i8 0, .int .i8 0, .int .i8 0, .int .i8 0, .int .i8 0, .int .i8 0, .int .i8 0, .int .i8 0, .int .i8 0, .int .i8 0] 31 (0, 0))) ∧ Aside0 (w'.heap[gb134]? = some (.cells #[.int .i8 x135000_1, .int .i8 x135001_1, .int .i8 x135002_1, .int .i8 x135003_1, .int .i8 x135004_1, .int .i8 x135005_1, .int .i8 x135006_1, .int .i8 x135007_1, .int .i8 x135008_1, .int .i8 x135009_1, .int .i8 x135010_1, .int .i8 x135011_1, .int .i8 x135012_1, .int .i8 x135013_1] 31 (0, 0))) ∧ Aside0 (Below w.heap.size w w'))
  case atStart => exact ⟨(0), (0), (0), (0), (0), (0), (0), (0), (0), (0), (0), (0), (0), (0), (0), (by first | rfl | (simp; done) | (simp [*]; done)), H', ⟨Nat.le_refl _⟩, ⟨by (with_reducible repeat (first | refine blk_drewN ?_ _ | refine blk_drew ?_ | refine blk_alloc ?_ _)); exact BK132.out⟩, ⟨by (with_reducible repeat (first | refine blk_drewN ?_ _ | refine blk_drew ?_ | refine blk_alloc ?_ _)); exact BK133.out⟩, ⟨by (with_reducible repeat (first | refine blk_drewN ?_ _ | refine blk_drew ?_ | refine blk_alloc ?_ _)); exact BK134.out⟩, ⟨by repeat (first | (with_reducible first | exact HB.out | apply below_alloc | apply pw_below_drewN | apply below_drew1 | refine below_set ?_ GE132.out | refine below_set ?_ GE133.out | refine below_set ?_ GE134.out) | exact HB.out)⟩⟩
  case round =>
    clear H'
    try clear c1
    try clear p2
    obtain ⟨x4_1, x135000_1, x135001_1, x135002_1, x135003_1, x135004_1, x135005_1, x135006_1, x135007_1, x135008_1, x135009_1, x135010_1, x135011_1, x135012_1, x135013_1, rfl, HA, HK1, BK132, BK133, BK134, HB⟩ := hrel
    cases gk with
    | zero => exact absurd HA.out (by simp [laws_toWeighing.l0])
    | succ k1 =>
      have H := HA.out
      clear HA
      simp only [laws_toWeighing.l0] at H
      by_cases c5 : x4_1 < 14
      · rw [if_pos c5] at H
        have c5b0 : decide (x4_1 < 14) = true := decide_eq_true c5
        clear c5
        by_cases c6 : 0 ≤ x4_1
        · rw [if_pos c6] at H
          have c6b0 : decide (0 ≤ x4_1) = true := decide_eq_true c6
          clear c6
          have H' := Aside0.mk H
          clear H
          have hnb10 := NB132_133.out
          have hnc10 := NB133_132.out
          have hnb11 := NB132_134.out
          have hnc11 := NB134_132.out
          have hcz12_0 : wr.cell? ⟨gb132, 0, none⟩ = some (.int .i8 a0_0) := (blk_cell BK132.out 0).trans rfl
          have hcz12_1 : wr.cell? ⟨gb132, 1, none⟩ = some (.int .i8 a0_1) := (blk_cell BK132.out 1).trans rfl
          have hcz12_2 : wr.cell? ⟨gb132, 2, none⟩ = some (.int .i8 a0_2) := (blk_cell BK132.out 2).trans rfl
          have hcz12_3 : wr.cell? ⟨gb132, 3, none⟩ = some (.int .i8 a0_3) := (blk_cell BK132.out 3).trans rfl
          have hcz12_4 : wr.cell? ⟨gb132, 4, none⟩ = some (.int .i8 a0_4) := (blk_cell BK132.out 4).trans rfl
          have hcz12_5 : wr.cell? ⟨gb132, 5, none⟩ = some (.int .i8 a0_5) := (blk_cell BK132.out 5).trans rfl
          have hcz12_6 : wr.cell? ⟨gb132, 6, none⟩ = some (.int .i8 a0_6) := (blk_cell BK132.out 6).trans rfl
          have hcz12_7 : wr.cell? ⟨gb132, 7, none⟩ = some (.int .i8 a0_7) := (blk_cell BK132.out 7).trans rfl
          have hcz12_8 : wr.cell? ⟨gb132, 8, none⟩ = some (.int .i8 a0_8) := (blk_cell BK132.out 8).trans rfl
          have hcz12_9 : wr.cell? ⟨gb132, 9, none⟩ = some (.int .i8 a0_9) := (blk_cell BK132.out 9).trans rfl
          have hcz12_10 : wr.cell? ⟨gb132, 10, none⟩ = some (.int .i8 a0_10) := (blk_cell BK132.out 10).trans rfl
          have hcz12_11 : wr.cell? ⟨gb132, 11, none⟩ = some (.int .i8 a0_11) := (blk_cell BK132.out 11).trans rfl
          have hcz12_12 : wr.cell? ⟨gb132, 12, none⟩ = some (.int .i8 a0_12) := (blk_cell BK132.out 12).trans rfl
          have hcz12_13 : wr.cell? ⟨gb132, 13, none⟩ = some (.int .i8 a0_13) := (blk_cell BK132.out 13).trans rfl
          have hfz12_0 := blk_frozen BK132.out 0
          have hfz12_1 := blk_frozen BK132.out 1
          have hfz12_2 := blk_frozen BK132.out 2
          have hfz12_3 := blk_frozen BK132.out 3
          have hfz12_4 := blk_frozen BK132.out 4
          have hfz12_5 := blk_frozen BK132.out 5
          have hfz12_6 := blk_frozen BK132.out 6
          have hfz12_7 := blk_frozen BK132.out 7
          have hfz12_8 := blk_frozen BK132.out 8
          have hfz12_9 := blk_frozen BK132.out 9
          have hfz12_10 := blk_frozen BK132.out 10
          have hfz12_11 := blk_frozen BK132.out 11
          have hfz12_12 := blk_frozen BK132.out 12
          have hfz12_13 := blk_frozen BK132.out 13
          have p7 : 0 ≤ (x4_1 : Int) := of_decide_eq_true (by first | (with_reducible assumption) | assumption)
          have q7 : (x4_1 : Int) < 14 := of_decide_eq_true (by first | (with_reducible assumption) | assumption)
          have hx7 : wr.cell? ⟨gb132, (x4_1 : Int).toNat, none⟩ = some (.int .i8 (rd [a0_0, a0_1, a0_2, a0_3, a0_4, a0_5, a0_6, a0_7, a0_8, a0_9, a0_10, a0_11, a0_12, a0_13] x4_1)) := ard_cell (k := .i8) (l := [a0_0, a0_1, a0_2, a0_3, a0_4, a0_5, a0_6, a0_7, a0_8, a0_9, a0_10, a0_11, a0_12, a0_13]) BK132.out p7 q7
          have hf7 := blk_frozen BK132.out (x4_1 : Int).toNat
          have P7 := Aside0.mk p7
          replace p7 := eq_true p7
          replace q7 := eq_true q7
          have hnb13 := NB134_133.out
          have hnc13 := NB133_134.out
          have hcz14_0 : wr.cell? ⟨gb134, 0, none⟩ = some (.int .i8 x135000_1) := (blk_cell BK134.out 0).trans rfl
          have hcz14_1 : wr.cell? ⟨gb134, 1, none⟩ = some (.int .i8 x135001_1) := (blk_cell BK134.out 1).trans rfl
          have hcz14_2 : wr.cell? ⟨gb134, 2, none⟩ = some (.int .i8 x135002_1) := (blk_cell BK134.out 2).trans rfl
          have hcz14_3 : wr.cell? ⟨gb134, 3, none⟩ = some (.int .i8 x135003_1) := (blk_cell BK134.out 3).trans rfl
          have hcz14_4 : wr.cell? ⟨gb134, 4, none⟩ = some (.int .i8 x135004_1) := (blk_cell BK134.out 4).trans rfl
          have hcz14_5 : wr.cell? ⟨gb134, 5, none⟩ = some (.int .i8 x135005_1) := (blk_cell BK134.out 5).trans rfl
          have hcz14_6 : wr.cell? ⟨gb134, 6, none⟩ = some (.int .i8 x135006_1) := (blk_cell BK134.out 6).trans rfl
          have hcz14_7 : wr.cell? ⟨gb134, 7, none⟩ = some (.int .i8 x135007_1) := (blk_cell BK134.out 7).trans rfl
          have hcz14_8 : wr.cell? ⟨gb134, 8, none⟩ = some (.int .i8 x135008_1) := (blk_cell BK134.out 8).trans rfl
          have hcz14_9 : wr.cell? ⟨gb134, 9, none⟩ = some (.int .i8 x135009_1) := (blk_cell BK134.out 9).trans rfl
          have hcz14_10 : wr.cell? ⟨gb134, 10, none⟩ = some (.int .i8 x135010_1) := (blk_cell BK134.out 10).trans rfl
          have hcz14_11 : wr.cell? ⟨gb134, 11, none⟩ = some (.int .i8 x135011_1) := (blk_cell BK134.out 11).trans rfl
          have hcz14_12 : wr.cell? ⟨gb134, 12, none⟩ = some (.int .i8 x135012_1) := (blk_cell BK134.out 12).trans rfl
          have hcz14_13 : wr.cell? ⟨gb134, 13, none⟩ = some (.int .i8 x135013_1) := (blk_cell BK134.out 13).trans rfl
          have hfz14_0 := blk_frozen BK134.out 0
          have hfz14_1 := blk_frozen BK134.out 1
          have hfz14_2 := blk_frozen BK134.out 2
          have hfz14_3 := blk_frozen BK134.out 3
          have hfz14_4 := blk_frozen BK134.out 4
          have hfz14_5 := blk_frozen BK134.out 5
          have hfz14_6 := blk_frozen BK134.out 6
          have hfz14_7 := blk_frozen BK134.out 7
          have hfz14_8 := blk_frozen BK134.out 8
          have hfz14_9 := blk_frozen BK134.out 9
          have hfz14_10 := blk_frozen BK134.out 10
          have hfz14_11 := blk_frozen BK134.out 11
          have hfz14_12 := blk_frozen BK134.out 12
          have hfz14_13 := blk_frozen BK134.out 13
          have p8 : 0 ≤ (x4_1 : Int) := of_decide_eq_true (by first | (with_reducible assumption) | assumption)
          have q8 : (x4_1 : Int) < 14 := of_decide_eq_true (by first | (with_reducible assumption) | assumption)
          have hx8 : wr.cell? ⟨gb134, (x4_1 : Int).toNat, none⟩ = some (.int .i8 (rd [x135000_1, x135001_1, x135002_1, x135003_1, x135004_1, x135005_1, x135006_1, x135007_1, x135008_1, x135009_1, x135010_1, x135011_1, x135012_1, x135013_1] x4_1)) := ard_cell (k := .i8) (l := [x135000_1, x135001_1, x135002_1, x135003_1, x135004_1, x135005_1, x135006_1, x135007_1, x135008_1, x135009_1, x135010_1, x135011_1, x135012_1, x135013_1]) BK134.out p8 q8
          have hf8 := blk_frozen BK134.out (x4_1 : Int).toNat
          have P8 := Aside0.mk p8
          replace p8 := eq_true p8
          replace q8 := eq_true q8
          go_wp2_with (first | ((with_reducible refine gate_store (t := 22) (p := 13) rfl ?_); refine store_event (t := 22) (p := 13) (v := ?vo_w15) (w1 := (wr.setCell ⟨gb134, (x4_1 : Int).toNat, none⟩ (.int .i8 (rd [a0_0, a0_1, a0_2, a0_3, a0_4, a0_5, a0_6, a0_7, a0_8, a0_9, a0_10, a0_11, a0_12, a0_13] x4_1)))) ?hg ?ho ?hn ?hr ?_; (case ho => rfl); (case hg => rfl); (case hn => rfl); (case hr => first | (go_simp; done) | (go_simp; rfl)); intro w15 hw; have n0_ : Aside0 (w15.heap[gb132]? = some (.cells #[.int .i8 a0_0, .int .i8 a0_1, .int .i8 a0_2, .int .i8 a0_3, .int .i8 a0_4, .int .i8 a0_5, .int .i8 a0_6, .int .i8 a0_7, .int .i8 a0_8, .int .i8 a0_9, .int .i8 a0_10, .int .i8 a0_11, .int .i8 a0_12, .int .i8 a0_13] 29 (0, 0))) := ⟨(by rw [hw]; exact (by (with_reducible repeat (first | refine blk_drewN ?_ _ | refine blk_drew ?_ | refine blk_alloc ?_ _)); refine blk_far ?_ NB132_134.out _; (with_reducible repeat (first | refine blk_drewN ?_ _ | refine blk_drew ?_ | refine blk_alloc ?_ _)); exact BK132.out))⟩; have n1_ : Aside0 (w15.heap[gb133]? = some (.cells #[.int .i8 0, .int .i8 0, .int .i8 0, .int .i8 0, .int .i8 0, .int .i8 0, .int .i8 0, .int .i8 0, .int .i8 0, .int .i8 0, .int .i8 0, .int .i8 0, .int .i8 0, .int .i8 0] 31 (0, 0))) := ⟨(by rw [hw]; exact (by (with_reducible repeat (first | refine blk_drewN ?_ _ | refine blk_drew ?_ | refine blk_alloc ?_ _)); refine blk_far ?_ NB133_134.out _; (with_reducible repeat (first | refine blk_drewN ?_ _ | refine blk_drew ?_ | refine blk_alloc ?_ _)); exact BK133.out))⟩; have n2_ : Aside0 (w15.heap[gb134]? = some (.cells #[.int .i8 (aup x4_1 0 (rd [a0_0, a0_1, a0_2, a0_3, a0_4, a0_5, a0_6, a0_7, a0_8, a0_9, a0_10, a0_11, a0_12, a0_13] x4_1) x135000_1), .int .i8 (aup x4_1 1 (rd [a0_0, a0_1, a0_2, a0_3, a0_4, a0_5, a0_6, a0_7, a0_8, a0_9, a0_10, a0_11, a0_12, a0_13] x4_1) x135001_1), .int .i8 (aup x4_1 2 (rd [a0_0, a0_1, a0_2, a0_3, a0_4, a0_5, a0_6, a0_7, a0_8, a0_9, a0_10, a0_11, a0_12, a0_13] x4_1) x135002_1), .int .i8 (aup x4_1 3 (rd [a0_0, a0_1, a0_2, a0_3, a0_4, a0_5, a0_6, a0_7, a0_8, a0_9, a0_10, a0_11, a0_12, a0_13] x4_1) x135003_1), .int .i8 (aup x4_1 4 (rd [a0_0, a0_1, a0_2, a0_3, a0_4, a0_5, a0_6, a0_7, a0_8, a0_9, a0_10, a0_11, a0_12, a0_13] x4_1) x135004_1), .int .i8 (aup x4_1 5 (rd [a0_0, a0_1, a0_2, a0_3, a0_4, a0_5, a0_6, a0_7, a0_8, a0_9, a0_10, a0_11, a0_12, a0_13] x4_1) x135005_1), .int .i8 (aup x4_1 6 (rd [a0_0, a0_1, a0_2, a0_3, a0_4, a0_5, a0_6, a0_7, a0_8, a0_9, a0_10, a0_11, a0_12, a0_13] x4_1) x135006_1), .int .i8 (aup x4_1 7 (rd [a0_0, a0_1, a0_2, a0_3, a0_4, a0_5, a0_6, a0_7, a0_8, a0_9, a0_10, a0_11, a0_12, a0_13] x4_1) x135007_1), .int .i8 (aup x4_1 8 (rd [a0_0, a0_1, a0_2, a0_3, a0_4, a0_5, a0_6, a0_7, a0_8, a0_9, a0_10, a0_11, a0_12, a0_13] x4_1) x135008_1), .int .i8 (aup x4_1 9 (rd [a0_0, a0_1, a0_2, a0_3, a0_4, a0_5, a0_6, a0_7, a0_8, a0_9, a0_10, a0_11, a0_12, a0_13] x4_1) x135009_1), .int .i8 (aup x4_1 10 (rd [a0_0, a0_1, a0_2, a0_3, a0_4, a0_5, a0_6, a0_7, a0_8, a0_9, a0_10, a0_11, a0_12, a0_13] x4_1) x135010_1), .int .i8 (aup x4_1 11 (rd [a0_0, a0_1, a0_2, a0_3, a0_4, a0_5, a0_6, a0_7, a0_8, a0_9, a0_10, a0_11, a0_12, a0_13] x4_1) x135011_1), .int .i8 (aup x4_1 12 (rd [a0_0, a0_1, a0_2, a0_3, a0_4, a0_5, a0_6, a0_7, a0_8, a0_9, a0_10, a0_11, a0_12, a0_13] x4_1) x135012_1), .int .i8 (aup x4_1 13 (rd [a0_0, a0_1, a0_2, a0_3, a0_4, a0_5, a0_6, a0_7, a0_8, a0_9, a0_10, a0_11, a0_12, a0_13] x4_1) x135013_1)] 31 (0, 0))) := ⟨(by rw [hw]; exact (by (with_reducible repeat (first | refine blk_drewN ?_ _ | refine blk_drew ?_ | refine blk_alloc ?_ _)); refine blk_put (cs := #[.int .i8 x135000_1, .int .i8 x135001_1, .int .i8 x135002_1, .int .i8 x135003_1, .int .i8 x135004_1, .int .i8 x135005_1, .int .i8 x135006_1, .int .i8 x135007_1, .int .i8 x135008_1, .int .i8 x135009_1, .int .i8 x135010_1, .int .i8 x135011_1, .int .i8 x135012_1, .int .i8 x135013_1]) ?_ (x4_1 : Int).toNat _ (ups_set (k := .i8) (l := [x135000_1, x135001_1, x135002_1, x135003_1, x135004_1, x135005_1, x135006_1, x135007_1, x135008_1, x135009_1, x135010_1, x135011_1, x135012_1, x135013_1]) P8.out); (with_reducible repeat (first | refine blk_drewN ?_ _ | refine blk_drew ?_ | refine blk_alloc ?_ _)); exact BK134.out))⟩; have n3_ : Aside0 (Below w.heap.size w w15) := ⟨(by rw [hw]; exact (by repeat (first | (with_reducible first | exact HB.out | apply below_alloc | apply pw_below_drewN | apply below_drew1 | refine below_set ?_ GE132.out | refine below_set ?_ GE133.out | refine below_set ?_ GE134.out) | exact HB.out)))⟩; clear hw; clear BK132; clear BK133; clear BK134; clear HB; have BK132 := n0_; have BK133 := n1_; have BK134 := n2_; have HB := n3_; clear n0_ n1_ n2_ n3_))
          go_roundg k1
          case measure => have := HK1.out; omega
          case rel => exact ⟨(wrap64 (x4_1 + 1)), (aup x4_1 0 (rd [a0_0, a0_1, a0_2, a0_3, a0_4, a0_5, a0_6, a0_7, a0_8, a0_9, a0_10, a0_11, a0_12, a0_13] x4_1) x135000_1), (aup x4_1 1 (rd [a0_0, a0_1, a0_2, a0_3, a0_4, a0_5, a0_6, a0_7, a0_8, a0_9, a0_10, a0_11, a0_12, a0_13] x4_1) x135001_1), (aup x4_1 2 (rd [a0_0, a0_1, a0_2, a0_3, a0_4, a0_5, a0_6, a0_7, a0_8, a0_9, a0_10, a0_11, a0_12, a0_13] x4_1) x135002_1), (aup x4_1 3 (rd [a0_0, a0_1, a0_2, a0_3, a0_4, a0_5, a0_6, a0_7, a0_8, a0_9, a0_10, a0_11, a0_12, a0_13] x4_1) x135003_1), (aup x4_1 4 (rd [a0_0, a0_1, a0_2, a0_3, a0_4, a0_5, a0_6, a0_7, a0_8, a0_9, a0_10, a0_11, a0_12, a0_13] x4_1) x135004_1), (aup x4_1 5 (rd [a0_0, a0_1, a0_2, a0_3, a0_4, a0_5, a0_6, a0_7, a0_8, a0_9, a0_10, a0_11, a0_12, a0_13] x4_1) x135005_1), (aup x4_1 6 (rd [a0_0, a0_1, a0_2, a0_3, a0_4, a0_5, a0_6, a0_7, a0_8, a0_9, a0_10, a0_11, a0_12, a0_13] x4_1) x135006_1), (aup x4_1 7 (rd [a0_0, a0_1, a0_2, a0_3, a0_4, a0_5, a0_6, a0_7, a0_8, a0_9, a0_10, a0_11, a0_12, a0_13] x4_1) x135007_1), (aup x4_1 8 (rd [a0_0, a0_1, a0_2, a0_3, a0_4, a0_5, a0_6, a0_7, a0_8, a0_9, a0_10, a0_11, a0_12, a0_13] x4_1) x135008_1), (aup x4_1 9 (rd [a0_0, a0_1, a0_2, a0_3, a0_4, a0_5, a0_6, a0_7, a0_8, a0_9, a0_10, a0_11, a0_12, a0_13] x4_1) x135009_1), (aup x4_1 10 (rd [a0_0, a0_1, a0_2, a0_3, a0_4, a0_5, a0_6, a0_7, a0_8, a0_9, a0_10, a0_11, a0_12, a0_13] x4_1) x135010_1), (aup x4_1 11 (rd [a0_0, a0_1, a0_2, a0_3, a0_4, a0_5, a0_6, a0_7, a0_8, a0_9, a0_10, a0_11, a0_12, a0_13] x4_1) x135011_1), (aup x4_1 12 (rd [a0_0, a0_1, a0_2, a0_3, a0_4, a0_5, a0_6, a0_7, a0_8, a0_9, a0_10, a0_11, a0_12, a0_13] x4_1) x135012_1), (aup x4_1 13 (rd [a0_0, a0_1, a0_2, a0_3, a0_4, a0_5, a0_6, a0_7, a0_8, a0_9, a0_10, a0_11, a0_12, a0_13] x4_1) x135013_1), (by first | rfl | (simp; done) | (simp [*]; done)), H', ⟨by have := HK1.out; omega⟩, ⟨by (with_reducible repeat (first | refine blk_drewN ?_ _ | refine blk_drew ?_ | refine blk_alloc ?_ _)); exact BK132.out⟩, ⟨by (with_reducible repeat (first | refine blk_drewN ?_ _ | refine blk_drew ?_ | refine blk_alloc ?_ _)); exact BK133.out⟩, ⟨by (with_reducible repeat (first | refine blk_drewN ?_ _ | refine blk_drew ?_ | refine blk_alloc ?_ _)); exact BK134.out⟩, ⟨by repeat (first | (with_reducible first | exact HB.out | apply below_alloc | apply pw_below_drewN | apply below_drew1 | refine below_set ?_ GE132.out | refine below_set ?_ GE133.out | refine below_set ?_ GE134.out) | exact HB.out)⟩⟩
        · rw [if_neg c6] at H
          exact absurd H (by simp)
      · rw [if_neg c5] at H
        have c5b0 : decide (x4_1 < 14) = false := decide_eq_false c5
        clear c5
        simp only [Option.some.injEq, Prod.mk.injEq] at H
        obtain ⟨rfl, rfl, rfl, rfl, rfl, rfl, rfl, rfl, rfl, rfl, rfl, rfl, rfl, rfl⟩ := H
        have hnb16 := NB134_132.out
        have hnc16 := NB132_134.out
        have hnb17 := NB134_133.out
        have hnc17 := NB133_134.out
        have hcz18_0 : wr.cell? ⟨gb134, 0, none⟩ = some (.int .i8 x135000_1) := (blk_cell BK134.out 0).trans rfl
        have hcz18_1 : wr.cell? ⟨gb134, 1, none⟩ = some (.int .i8 x135001_1) := (blk_cell BK134.out 1).trans rfl
        have hcz18_2 : wr.cell? ⟨gb134, 2, none⟩ = some (.int .i8 x135002_1) := (blk_cell BK134.out 2).trans rfl
        have hcz18_3 : wr.cell? ⟨gb134, 3, none⟩ = some (.int .i8 x135003_1) := (blk_cell BK134.out 3).trans rfl
        have hcz18_4 : wr.cell? ⟨gb134, 4, none⟩ = some (.int .i8 x135004_1) := (blk_cell BK134.out 4).trans rfl
        have hcz18_5 : wr.cell? ⟨gb134, 5, none⟩ = some (.int .i8 x135005_1) := (blk_cell BK134.out 5).trans rfl
        have hcz18_6 : wr.cell? ⟨gb134, 6, none⟩ = some (.int .i8 x135006_1) := (blk_cell BK134.out 6).trans rfl
        have hcz18_7 : wr.cell? ⟨gb134, 7, none⟩ = some (.int .i8 x135007_1) := (blk_cell BK134.out 7).trans rfl
        have hcz18_8 : wr.cell? ⟨gb134, 8, none⟩ = some (.int .i8 x135008_1) := (blk_cell BK134.out 8).trans rfl
        have hcz18_9 : wr.cell? ⟨gb134, 9, none⟩ = some (.int .i8 x135009_1) := (blk_cell BK134.out 9).trans rfl
        have hcz18_10 : wr.cell? ⟨gb134, 10, none⟩ = some (.int .i8 x135010_1) := (blk_cell BK134.out 10).trans rfl
        have hcz18_11 : wr.cell? ⟨gb134, 11, none⟩ = some (.int .i8 x135011_1) := (blk_cell BK134.out 11).trans rfl
        have hcz18_12 : wr.cell? ⟨gb134, 12, none⟩ = some (.int .i8 x135012_1) := (blk_cell BK134.out 12).trans rfl
        have hcz18_13 : wr.cell? ⟨gb134, 13, none⟩ = some (.int .i8 x135013_1) := (blk_cell BK134.out 13).trans rfl
        have hfz18_0 := blk_frozen BK134.out 0
        have hfz18_1 := blk_frozen BK134.out 1
        have hfz18_2 := blk_frozen BK134.out 2
        have hfz18_3 := blk_frozen BK134.out 3
        have hfz18_4 := blk_frozen BK134.out 4
        have hfz18_5 := blk_frozen BK134.out 5
        have hfz18_6 := blk_frozen BK134.out 6
        have hfz18_7 := blk_frozen BK134.out 7
        have hfz18_8 := blk_frozen BK134.out 8
        have hfz18_9 := blk_frozen BK134.out 9
        have hfz18_10 := blk_frozen BK134.out 10
        have hfz18_11 := blk_frozen BK134.out 11
        have hfz18_12 := blk_frozen BK134.out 12
        have hfz18_13 := blk_frozen BK134.out 13
        have hnb19 := NB133_132.out
        have hnc19 := NB132_133.out
        have hcz20_0 : wr.cell? ⟨gb133, 0, none⟩ = some (.int .i8 0) := (blk_cell BK133.out 0).trans rfl
        have hcz20_1 : wr.cell? ⟨gb133, 1, none⟩ = some (.int .i8 0) := (blk_cell BK133.out 1).trans rfl
        have hcz20_2 : wr.cell? ⟨gb133, 2, none⟩ = some (.int .i8 0) := (blk_cell BK133.out 2).trans rfl
        have hcz20_3 : wr.cell? ⟨gb133, 3, none⟩ = some (.int .i8 0) := (blk_cell BK133.out 3).trans rfl
        have hcz20_4 : wr.cell? ⟨gb133, 4, none⟩ = some (.int .i8 0) := (blk_cell BK133.out 4).trans rfl
        have hcz20_5 : wr.cell? ⟨gb133, 5, none⟩ = some (.int .i8 0) := (blk_cell BK133.out 5).trans rfl
        have hcz20_6 : wr.cell? ⟨gb133, 6, none⟩ = some (.int .i8 0) := (blk_cell BK133.out 6).trans rfl
        have hcz20_7 : wr.cell? ⟨gb133, 7, none⟩ = some (.int .i8 0) := (blk_cell BK133.out 7).trans rfl
        have hcz20_8 : wr.cell? ⟨gb133, 8, none⟩ = some (.int .i8 0) := (blk_cell BK133.out 8).trans rfl
        have hcz20_9 : wr.cell? ⟨gb133, 9, none⟩ = some (.int .i8 0) := (blk_cell BK133.out 9).trans rfl
        have hcz20_10 : wr.cell? ⟨gb133, 10, none⟩ = some (.int .i8 0) := (blk_cell BK133.out 10).trans rfl
        have hcz20_11 : wr.cell? ⟨gb133, 11, none⟩ = some (.int .i8 0) := (blk_cell BK133.out 11).trans rfl
        have hcz20_12 : wr.cell? ⟨gb133, 12, none⟩ = some (.int .i8 0) := (blk_cell BK133.out 12).trans rfl
        have hcz20_13 : wr.cell? ⟨gb133, 13, none⟩ = some (.int .i8 0) := (blk_cell BK133.out 13).trans rfl
        have hfz20_0 := blk_frozen BK133.out 0
        have hfz20_1 := blk_frozen BK133.out 1
        have hfz20_2 := blk_frozen BK133.out 2
        have hfz20_3 := blk_frozen BK133.out 3
        have hfz20_4 := blk_frozen BK133.out 4
        have hfz20_5 := blk_frozen BK133.out 5
        have hfz20_6 := blk_frozen BK133.out 6
        have hfz20_7 := blk_frozen BK133.out 7
        have hfz20_8 := blk_frozen BK133.out 8
        have hfz20_9 := blk_frozen BK133.out 9
        have hfz20_10 := blk_frozen BK133.out 10
        have hfz20_11 := blk_frozen BK133.out 11
        have hfz20_12 := blk_frozen BK133.out 12
        have hfz20_13 := blk_frozen BK133.out 13
        go_wp2
        refine bodyPost_ret (results_cell_row rfl _ _ gb133 31 #[.int .i8 x135000_1, .int .i8 x135001_1, .int .i8 x135002_1, .int .i8 x135003_1, .int .i8 x135004_1, .int .i8 x135005_1, .int .i8 x135006_1, .int .i8 x135007_1, .int .i8 x135008_1, .int .i8 x135009_1, .int .i8 x135010_1, .int .i8 x135011_1, .int .i8 x135012_1, .int .i8 x135013_1] (0, 0) _ rfl (by (with_reducible repeat (first | refine blk_drewN ?_ _ | refine blk_drew ?_ | refine blk_alloc ?_ _)); refine blk_put (cs := #[.int .i8 x135000_1, .int .i8 x135001_1, .int .i8 x135002_1, .int .i8 x135003_1, .int .i8 x135004_1, .int .i8 x135005_1, .int .i8 x135006_1, .int .i8 x135007_1, .int .i8 x135008_1, .int .i8 x135009_1, .int .i8 x135010_1, .int .i8 x135011_1, .int .i8 x135012_1, .int .i8 0]) ?_ 13 _ rfl; (with_reducible repeat (first | refine blk_drewN ?_ _ | refine blk_drew ?_ | refine blk_alloc ?_ _)); refine blk_put (cs := #[.int .i8 x135000_1, .int .i8 x135001_1, .int .i8 x135002_1, .int .i8 x135003_1, .int .i8 x135004_1, .int .i8 x135005_1, .int .i8 x135006_1, .int .i8 x135007_1, .int .i8 x135008_1, .int .i8 x135009_1, .int .i8 x135010_1, .int .i8 x135011_1, .int .i8 0, .int .i8 0]) ?_ 12 _ rfl; (with_reducible repeat (first | refine blk_drewN ?_ _ | refine blk_drew ?_ | refine blk_alloc ?_ _)); refine blk_put (cs := #[.int .i8 x135000_1, .int .i8 x135001_1, .int .i8 x135002_1, .int .i8 x135003_1, .int .i8 x135004_1, .int .i8 x135005_1, .int .i8 x135006_1, .int .i8 x135007_1, .int .i8 x135008_1, .int .i8 x135009_1, .int .i8 x135010_1, .int .i8 0, .int .i8 0, .int .i8 0]) ?_ 11 _ rfl; (with_reducible repeat (first | refine blk_drewN ?_ _ | refine blk_drew ?_ | refine blk_alloc ?_ _)); refine blk_put (cs := #[.int .i8 x135000_1, .int .i8 x135001_1, .int .i8 x135002_1, .int .i8 x135003_1, .int .i8 x135004_1, .int .i8 x135005_1, .int .i8 x135006_1, .int .i8 x135007_1, .int .i8 x135008_1, .int .i8 x135009_1, .int .i8 0, .int .i8 0, .int .i8 0, .int .i8 0]) ?_ 10 _ rfl; (with_reducible repeat (first | refine blk_drewN ?_ _ | refine blk_drew ?_ | refine blk_alloc ?_ _)); refine blk_put (cs := #[.int .i8 x135000_1, .int .i8 x135001_1, .int .i8 x135002_1, .int .i8 x135003_1, .int .i8 x135004_1, .int .i8 x135005_1, .int .i8 x135006_1, .int .i8 x135007_1, .int .i8 x135008_1, .int .i8 0, .int .i8 0, .int .i8 0, .int .i8 0, .int .i8 0]) ?_ 9 _ rfl; (with_reducible repeat (first | refine blk_drewN ?_ _ | refine blk_drew ?_ | refine blk_alloc ?_ _)); refine blk_put (cs := #[.int .i8 x135000_1, .int .i8 x135001_1, .int .i8 x135002_1, .int .i8 x135003_1, .int .i8 x135004_1, .int .i8 x135005_1, .int .i8 x135006_1, .int .i8 x135007_1, .int .i8 0, .int .i8 0, .int .i8 0, .int .i8 0, .int .i8 0, .int .i8 0]) ?_ 8 _ rfl; (with_reducible repeat (first | refine blk_drewN ?_ _ | refine blk_drew ?_ | refine blk_alloc ?_ _)); refine blk_put (cs := #[.int .i8 x135000_1, .int .i8 x135001_1, .int .i8 x135002_1, .int .i8 x135003_1, .int .i8 x135004_1, .int .i8 x135005_1, .int .i8 x135006_1, .int .i8 0, .int .i8 0, .int .i8 0, .int .i8 0, .int .i8 0, .int .i8 0, .int .i8 0]) ?_ 7 _ rfl; (with_reducible repeat (first | refine blk_drewN ?_ _ | refine blk_drew ?_ | refine blk_alloc ?_ _)); refine blk_put (cs := #[.int .i8 x135000_1, .int .i8 x135001_1, .int .i8 x135002_1, .int .i8 x135003_1, .int .i8 x135004_1, .int .i8 x135005_1, .int .i8 0, .int .i8 0, .int .i8 0, .int .i8 0, .int .i8 0, .int .i8 0, .int .i8 0, .int .i8 0]) ?_ 6 _ rfl; (with_reducible repeat (first | refine blk_drewN ?_ _ | refine blk_drew ?_ | refine blk_alloc ?_ _)); refine blk_put (cs := #[.int .i8 x135000_1, .int .i8 x135001_1, .int .i8 x135002_1, .int .i8 x135003_1, .int .i8 x135004_1, .int .i8 0, .int .i8 0, .int .i8 0, .int .i8 0, .int .i8 0, .int .i8 0, .int .i8 0, .int .i8 0, .int .i8 0]) ?_ 5 _ rfl; (with_reducible repeat (first | refine blk_drewN ?_ _ | refine blk_drew ?_ | refine blk_alloc ?_ _)); refine blk_put (cs := #[.int .i8 x135000_1, .int .i8 x135001_1, .int .i8 x135002_1, .int .i8 x135003_1, .int .i8 0, .int .i8 0, .int .i8 0, .int .i8 0, .int .i8 0, .int .i8 0, .int .i8 0, .int .i8 0, .int .i8 0, .int .i8 0]) ?_ 4 _ rfl; (with_reducible repeat (first | refine blk_drewN ?_ _ | refine blk_drew ?_ | refine blk_alloc ?_ _)); refine blk_put (cs := #[.int .i8 x135000_1, .int .i8 x135001_1, .int .i8 x135002_1, .int .i8 0, .int .i8 0, .int .i8 0, .int .i8 0, .int .i8 0, .int .i8 0, .int .i8 0, .int .i8 0, .int .i8 0, .int .i8 0, .int .i8 0]) ?_ 3 _ rfl; (with_reducible repeat (first | refine blk_drewN ?_ _ | refine blk_drew ?_ | refine blk_alloc ?_ _)); refine blk_put (cs := #[.int .i8 x135000_1, .int .i8 x135001_1, .int .i8 0, .int .i8 0, .int .i8 0, .int .i8 0, .int .i8 0, .int .i8 0, .int .i8 0, .int .i8 0, .int .i8 0, .int .i8 0, .int .i8 0, .int .i8 0]) ?_ 2 _ rfl; (with_reducible repeat (first | refine blk_drewN ?_ _ | refine blk_drew ?_ | refine blk_alloc ?_ _)); refine blk_put (cs := #[.int .i8 x135000_1, .int .i8 0, .int .i8 0, .int .i8 0, .int .i8 0, .int .i8 0, .int .i8 0, .int .i8 0, .int .i8 0, .int .i8 0, .int .i8 0, .int .i8 0, .int .i8 0, .int .i8 0]) ?_ 1 _ rfl; (with_reducible repeat (first | refine blk_drewN ?_ _ | refine blk_drew ?_ | refine blk_alloc ?_ _)); refine blk_put (cs := #[.int .i8 0, .int .i8 0, .int .i8 0, .int .i8 0, .int .i8 0, .int .i8 0, .int .i8 0, .int .i8 0, .int .i8 0, .int .i8 0, .int .i8 0, .int .i8 0, .int .i8 0, .int .i8 0]) ?_ 0 _ rfl; (with_reducible repeat (first | refine blk_drewN ?_ _ | refine blk_drew ?_ | refine blk_alloc ?_ _)); exact BK133.out) Try.underlying31 rfl (by kernel_rfl)) rfl ?_
        exact ⟨by first | rfl | (simp [errW_none, errW_some] <;> rfl) | (simp [*, errW_none, errW_some] <;> rfl), by repeat (first | (with_reducible first | exact HB.out | apply below_alloc | apply pw_below_drewN | apply below_drew1 | refine below_set ?_ GE132.out | refine below_set ?_ GE133.out | refine below_set ?_ GE134.out) | exact HB.out)⟩

/-! ### impl_Task_places: function 51 -/
def impl_Task_places.f (a0_0 : Int) (a0_1 : Int) (a0_2 : Bool) (a0_3 : Bool) : Option (Int) := if a0_3 = true then (some (wrap64 ((wrap64 (a0_0)) + 1))) else (some (wrap64 (a0_0)))
set_option maxHeartbeats 8000000 in
set_option maxRecDepth 100000 in
theorem impl_Task_places.calls (a0_0 : Int) (a0_1 : Int) (a0_2 : Bool) (a0_3 : Bool) (r : Int) (w : World) (h : impl_Task_places.f a0_0 a0_1 a0_2 a0_3 = some r) :
    Calls Try.prog 51 #[.agg #[.int .i8 a0_0, .int .i8 a0_1, .bool a0_2, .bool a0_3]] w fun e w' => e = .returned (.int .i64 r) ∧ Below w.heap.size w w' := by
  have hu26 := Try.underlying26
  have HB := Aside0.mk (Below.refl w.heap.size w)
  have H : (if a0_3 = true then (some (wrap64 ((wrap64 (a0_0)) + 1))) else (some (wrap64 (a0_0)))) = some r := h
  clear h
  by_cases c2 : a0_3 = true
  · subst c2
    have H1 : (some (wrap64 ((wrap64 (a0_0)) + 1))) = some r := by rw [if_pos rfl] at H; exact H
    clear H
    have H := H1
    clear H1
    obtain rfl := Option.some.inj H
    go_enter Try.func51, Try.ntmps51
    go_wp2_with (first | ((with_reducible refine gate_dst (N := 1) rfl ?_); refine box_event ?hg (N := 1) ?hd (cs := #[.int .i8 a0_0, .int .i8 a0_1, .bool a0_2, .bool true]) (t := 26) ?hr ?_; (case hd => rfl); (case hg => rfl); (case hr => first | (go_simp; done) | (go_simp; rfl)); intro gb135 hg w3 hbox hb; have n0_ := Aside0.mk (below_step (by repeat (first | (with_reducible first | exact HB.out | apply below_alloc | apply pw_below_drewN | apply below_drew1) | exact HB.out)) hb); have n1_ := Aside0.mk (hbox); have n2_ := Aside0.mk ((by rw [hg]; exact (below_size (by repeat (first | (with_reducible first | exact HB.out | apply below_alloc | apply pw_below_drewN | apply below_drew1) | exact HB.out))) : w.heap.size ≤ gb135)); have n3_ := Aside0.mk ((by rw [hg]; exact (below_size (by repeat (first | (with_reducible first | exact HB.out | apply below_alloc | apply pw_below_drewN | apply below_drew1) | exact HB.out))) : w.heap.size ≤ gb135)); clear HB; have HB := n0_; have BK135 := n1_; have GW135 := n2_; have GE135 := n3_; clear n0_ n1_ n2_ n3_; clear hb hbox hg; have hcz4_0 : w3.cell? ⟨gb135, 0, none⟩ = some (.int .i8 a0_0) := (blk_cell BK135.out 0).trans rfl; have hcz4_1 : w3.cell? ⟨gb135, 1, none⟩ = some (.int .i8 a0_1) := (blk_cell BK135.out 1).trans rfl; have hcz4_2 : w3.cell? ⟨gb135, 2, none⟩ = some (.bool a0_2) := (blk_cell BK135.out 2).trans rfl; have hcz4_3 : w3.cell? ⟨gb135, 3, none⟩ = some (.bool true) := (blk_cell BK135.out 3).trans rfl; have hfz4_0 := blk_frozen BK135.out 0; have hfz4_1 := blk_frozen BK135.out 1; have hfz4_2 := blk_frozen BK135.out 2; have hfz4_3 := blk_frozen BK135.out 3))
    go_ret
    exact ⟨by first | rfl | (simp [errW_none, errW_some] <;> rfl) | (simp [*, errW_none, errW_some] <;> rfl), by repeat (first | (with_reducible first | exact HB.out | apply below_alloc | apply pw_below_drewN | apply below_drew1 | refine below_set ?_ GE135.out) | exact HB.out)⟩
  · replace c2 := Bool.eq_false_iff.mpr c2
    subst c2
    have H1 : (some (wrap64 (a0_0))) = some r := by rw [if_neg (show ¬ (false = true) by decide)] at H; exact H
    clear H
    have H := H1
    clear H1
    obtain rfl := Option.some.inj H
    go_enter Try.func51, Try.ntmps51
    go_wp2_with (first | ((with_reducible refine gate_dst (N := 1) rfl ?_); refine box_event ?hg (N := 1) ?hd (cs := #[.int .i8 a0_0, .int .i8 a0_1, .bool a0_2, .bool false]) (t := 26) ?hr ?_; (case hd => rfl); (case hg => rfl); (case hr => first | (go_simp; done) | (go_simp; rfl)); intro gb135 hg w5 hbox hb; have n0_ := Aside0.mk (below_step (by repeat (first | (with_reducible first | exact HB.out | apply below_alloc | apply pw_below_drewN | apply below_drew1) | exact HB.out)) hb); have n1_ := Aside0.mk (hbox); have n2_ := Aside0.mk ((by rw [hg]; exact (below_size (by repeat (first | (with_reducible first | exact HB.out | apply below_alloc | apply pw_below_drewN | apply below_drew1) | exact HB.out))) : w.heap.size ≤ gb135)); have n3_ := Aside0.mk ((by rw [hg]; exact (below_size (by repeat (first | (with_reducible first | exact HB.out | apply below_alloc | apply pw_below_drewN | apply below_drew1) | exact HB.out))) : w.heap.size ≤ gb135)); clear HB; have HB := n0_; have BK135 := n1_; have GW135 := n2_; have GE135 := n3_; clear n0_ n1_ n2_ n3_; clear hb hbox hg; have hcz6_0 : w5.cell? ⟨gb135, 0, none⟩ = some (.int .i8 a0_0) := (blk_cell BK135.out 0).trans rfl; have hcz6_1 : w5.cell? ⟨gb135, 1, none⟩ = some (.int .i8 a0_1) := (blk_cell BK135.out 1).trans rfl; have hcz6_2 : w5.cell? ⟨gb135, 2, none⟩ = some (.bool a0_2) := (blk_cell BK135.out 2).trans rfl; have hcz6_3 : w5.cell? ⟨gb135, 3, none⟩ = some (.bool false) := (blk_cell BK135.out 3).trans rfl; have hfz6_0 := blk_frozen BK135.out 0; have hfz6_1 := blk_frozen BK135.out 1; have hfz6_2 := blk_frozen BK135.out 2; have hfz6_3 := blk_frozen BK135.out 3))
    go_ret
    exact ⟨by first | rfl | (simp [errW_none, errW_some] <;> rfl) | (simp [*, errW_none, errW_some] <;> rfl), by repeat (first | (with_reducible first | exact HB.out | apply below_alloc | apply pw_below_drewN | apply below_drew1 | refine below_set ?_ GE135.out) | exact HB.out)⟩

/-! ### impl_ValidWeighing: function 19 -/
def impl_ValidWeighing.l0 : Nat → Int → Int → Int → Int → Int → Int → Int → Int → Int → Int → Int → Int → Int → Int → Int → Int → Int → Int → Bool → Bool → Option (Bool)
  | 0, _, _, _, _, _, _, _, _, _, _, _, _, _, _, _, _, _, _, _, _ => none
  | k + 1, x5, x12, x522, x523, x524, x525, x526, x527, x528, x529, x530, x531, x532, x533, x534, x535, x137000, x137001, x137002, x137003 => if x12 < 14 then (if 0 ≤ x12 then (if (rd [x522, x523, x524, x525, x526, x527, x528, x529, x530, x531, x532, x533, x534, x535] x12) < (-1) then (some false) else (if (rd [x522, x523, x524, x525, x526, x527, x528, x529, x530, x531, x532, x533, x534, x535] x12) > 1 then (some false) else (if (rd [x522, x523, x524, x525, x526, x527, x528, x529, x530, x531, x532, x533, x534, x535] x12) = 0 then (impl_ValidWeighing.l0 k (wrap64 (x5 + (wrap64 (rd [x522, x523, x524, x525, x526, x527, x528, x529, x530, x531, x532, x533, x534, x535] x12)))) (wrap64 (x12 + 1)) x522 x523 x524 x525 x526 x527 x528 x529 x530 x531 x532 x533 x534 x535 x137000 x137001 x137002 x137003) else ((impl_Task_places.f x137000 x137001 x137002 x137003).bind fun t139 => (if x12 ≥ t139 then (some false) else (impl_ValidWeighing.l0 k (wrap64 (x5 + (wrap64 (rd [x522, x523, x524, x525, x526, x527, x528, x529, x530, x531, x532, x533, x534, x535] x12)))) (wrap64 (x12 + 1)) x522 x523 x524 x525 x526 x527 x528 x529 x530 x531 x532 x533 x534 x535 x137000 x137001 x137002 x137003)))))) else (none)) else (some (x5 == 0))
def impl_ValidWeighing.f (k : Nat) (a0_0 : Int) (a0_1 : Int) (a0_2 : Bool) (a0_3 : Bool) (a1_0 : Int) (a1_1 : Int) (a1_2 : Int) (a1_3 : Int) (a1_4 : Int) (a1_5 : Int) (a1_6 : Int) (a1_7 : Int) (a1_8 : Int) (a1_9 : Int) (a1_10 : Int) (a1_11 : Int) (a1_12 : Int) (a1_13 : Int) : Option (Bool) := (impl_ValidTask.f a0_0 a0_1 a0_2 a0_3).bind fun t138 => (if t138 = true then (impl_ValidWeighing.l0 k 0 0 a1_0 a1_1 a1_2 a1_3 a1_4 a1_5 a1_6 a1_7 a1_8 a1_9 a1_10 a1_11 a1_12 a1_13 a0_0 a0_1 a0_2 a0_3) else (some false))
theorem impl_ValidWeighing.mono_l : ∀ k, (∀ y0 y1 y2 y3 y4 y5 y6 y7 y8 y9 y10 y11 y12 y13 y14 y15 y16 y17 y18 y19, LeO (impl_ValidWeighing.l0 k y0 y1 y2 y3 y4 y5 y6 y7 y8 y9 y10 y11 y12 y13 y14 y15 y16 y17 y18 y19) (impl_ValidWeighing.l0 (k + 1) y0 y1 y2 y3 y4 y5 y6 y7 y8 y9 y10 y11 y12 y13 y14 y15 y16 y17 y18 y19))
  | 0 => fun _ _ _ _ _ _ _ _ _ _ _ _ _ _ _ _ _ _ _ _ r h => by simp [impl_ValidWeighing.l0] at h
  | k + 1 => by
    have ih0 := impl_ValidWeighing.mono_l k
    · intro y0 y1 y2 y3 y4 y5 y6 y7 y8 y9 y10 y11 y12 y13 y14 y15 y16 y17 y18 y19
      unfold impl_ValidWeighing.l0
      repeat' first
      | (with_reducible exact ih0 _ _ _ _ _ _ _ _ _ _ _ _ _ _ _ _ _ _ _ _)
      | (with_reducible exact LeO.refl _)
      | (with_reducible exact LeO.none _)
      | (with_reducible refine LeO.ite ?_ ?_)
      | (with_reducible refine LeO.bind ?_ (fun _ => ?_))
      | exact ih0 _ _ _ _ _ _ _ _ _ _ _ _ _ _ _ _ _ _ _ _
      | exact LeO.none _
      | refine LeO.ite ?_ ?_
      | refine LeO.bind ?_ (fun _ => ?_)
theorem impl_ValidWeighing.mono : ∀ a0 a1 a2 a3 a4 a5 a6 a7 a8 a9 a10 a11 a12 a13 a14 a15 a16 a17 k, LeO (impl_ValidWeighing.f k a0 a1 a2 a3 a4 a5 a6 a7 a8 a9 a10 a11 a12 a13 a14 a15 a16 a17) (impl_ValidWeighing.f (k + 1) a0 a1 a2 a3 a4 a5 a6 a7 a8 a9 a10 a11 a12 a13 a14 a15 a16 a17) := by
  intro a0 a1 a2 a3 a4 a5 a6 a7 a8 a9 a10 a11 a12 a13 a14 a15 a16 a17 k
  have ih0 := impl_ValidWeighing.mono_l k
  unfold impl_ValidWeighing.f
  repeat' first
      | (with_reducible exact ih0 _ _ _ _ _ _ _ _ _ _ _ _ _ _ _ _ _ _ _ _)
      | (with_reducible exact LeO.refl _)
      | (with_reducible exact LeO.none _)
      | (with_reducible refine LeO.ite ?_ ?_)
      | (with_reducible refine LeO.bind ?_ (fun _ => ?_))
      | exact ih0 _ _ _ _ _ _ _ _ _ _ _ _ _ _ _ _ _ _ _ _
      | exact LeO.none _
      | refine LeO.ite ?_ ?_
      | refine LeO.bind ?_ (fun _ => ?_)
set_option maxHeartbeats 8000000 in
set_option maxRecDepth 100000 in
theorem impl_ValidWeighing.calls (k : Nat) (a0_0 : Int) (a0_1 : Int) (a0_2 : Bool) (a0_3 : Bool) (a1_0 : Int) (a1_1 : Int) (a1_2 : Int) (a1_3 : Int) (a1_4 : Int) (a1_5 : Int) (a1_6 : Int) (a1_7 : Int) (a1_8 : Int) (a1_9 : Int) (a1_10 : Int) (a1_11 : Int) (a1_12 : Int) (a1_13 : Int) (r : Bool) (w : World) (h : impl_ValidWeighing.f k a0_0 a0_1 a0_2 a0_3 a1_0 a1_1 a1_2 a1_3 a1_4 a1_5 a1_6 a1_7 a1_8 a1_9 a1_10 a1_11 a1_12 a1_13 = some r) :
    Calls Try.prog 19 #[.agg #[.int .i8 a0_0, .int .i8 a0_1, .bool a0_2, .bool a0_3], .agg #[.int .i8 a1_0, .int .i8 a1_1, .int .i8 a1_2, .int .i8 a1_3, .int .i8 a1_4, .int .i8 a1_5, .int .i8 a1_6, .int .i8 a1_7, .int .i8 a1_8, .int .i8 a1_9, .int .i8 a1_10, .int .i8 a1_11, .int .i8 a1_12, .int .i8 a1_13]] w fun e w' => e = .returned (.bool r) ∧ Below w.heap.size w w' := by
  have hu26 := Try.underlying26
  have hu31 := Try.underlying31
  have HB := Aside0.mk (Below.refl w.heap.size w)
  have H : ((impl_ValidTask.f a0_0 a0_1 a0_2 a0_3).bind fun t138 => (if t138 = true then (impl_ValidWeighing.l0 k 0 0 a1_0 a1_1 a1_2 a1_3 a1_4 a1_5 a1_6 a1_7 a1_8 a1_9 a1_10 a1_11 a1_12 a1_13 a0_0 a0_1 a0_2 a0_3) else (some false))) = some r := h
  clear h
  replace H := Option.bind_eq_some_iff.mp H
  obtain ⟨t138, A30, H⟩ := H
  replace H : (if t138 = true then (impl_ValidWeighing.l0 k 0 0 a1_0 a1_1 a1_2 a1_3 a1_4 a1_5 a1_6 a1_7 a1_8 a1_9 a1_10 a1_11 a1_12 a1_13 a0_0 a0_1 a0_2 a0_3) else (some false)) = some r := H
  have A3 := Aside0.mk A30
  clear A30
  by_cases c4 : t138 = true
  · subst c4
    have H1 : (impl_ValidWeighing.l0 k 0 0 a1_0 a1_1 a1_2 a1_3 a1_4 a1_5 a1_6 a1_7 a1_8 a1_9 a1_10 a1_11 a1_12 a1_13 a0_0 a0_1 a0_2 a0_3) = some r := by rw [if_pos rfl] at H; exact H
    clear H
    have H := H1
    clear H1
    have H' := Aside0.mk H
    clear H
    go_enter Try.func19, Try.ntmps19
    go_wp2_with (first | ((with_reducible refine gate_dst (N := 2) rfl ?_); refine box_event ?hg (N := 2) ?hd (cs := #[.int .i8 a0_0, .int .i8 a0_1, .bool a0_2, .bool a0_3]) (t := 26) ?hr ?_; (case hd => rfl); (case hg => rfl); (case hr => first | (go_simp; done) | (go_simp; rfl)); intro gb136 hg w5 hbox hb; have n0_ := Aside0.mk (below_step (by repeat (first | (with_reducible first | exact HB.out | apply below_alloc | apply pw_below_drewN | apply below_drew1) | exact HB.out)) hb); have n1_ := Aside0.mk (hbox); have n2_ := Aside0.mk ((by rw [hg]; exact (below_size (by repeat (first | (with_reducible first | exact HB.out | apply below_alloc | apply pw_below_drewN | apply below_drew1) | exact HB.out))) : w.heap.size ≤ gb136)); have n3_ := Aside0.mk ((by rw [hg]; exact (below_size (by repeat (first | (with_reducible first | exact HB.out | apply below_alloc | apply pw_below_drewN | apply below_drew1) | exact HB.out))) : w.heap.size ≤ gb136)); clear HB; have HB := n0_; have BK136 := n1_; have GW136 := n2_; have GE136 := n3_; clear n0_ n1_ n2_ n3_; clear hb hbox hg) | ((with_reducible refine gate_dst (N := 3) rfl ?_); refine box_event ?hg (N := 3) ?hd (cs := #[.int .i8 a1_0, .int .i8 a1_1, .int .i8 a1_2, .int .i8 a1_3, .int .i8 a1_4, .int .i8 a1_5, .int .i8 a1_6, .int .i8 a1_7, .int .i8 a1_8, .int .i8 a1_9, .int .i8 a1_10, .int .i8 a1_11, .int .i8 a1_12, .int .i8 a1_13]) (t := 31) ?hr ?_; (case hd => rfl); (case hg => rfl); (case hr => first | (go_simp; done) | (go_simp; rfl)); intro gb137 hg w6 hbox hb; have n0_ := Aside0.mk (blk_below (g := gb136) (o := .cells #[.int .i8 a0_0, .int .i8 a0_1, .bool a0_2, .bool a0_3] 26 (0, 0)) (by (with_reducible repeat (first | refine blk_drewN ?_ _ | refine blk_drew ?_ | refine blk_alloc ?_ _)); exact BK136.out) hb); have n1_ := Aside0.mk (below_step (by repeat (first | (with_reducible first | exact HB.out | apply below_alloc | apply pw_below_drewN | apply below_drew1 | refine below_set ?_ GE136.out) | exact HB.out)) hb); have n2_ := Aside0.mk (hbox); have n3_ := Aside0.mk ((by rw [hg]; exact (below_size (by repeat (first | (with_reducible first | exact HB.out | apply below_alloc | apply pw_below_drewN | apply below_drew1 | refine below_set ?_ GE136.out) | exact HB.out))) : w.heap.size ≤ gb137)); have n4_ := Aside0.mk ((by rw [hg]; exact (below_size (by repeat (first | (with_reducible first | exact HB.out | apply below_alloc | apply pw_below_drewN | apply below_drew1 | refine below_set ?_ GE136.out) | exact HB.out))) : w.heap.size ≤ gb137)); have n5_ := Aside0.mk ((by rw [hg]; exact Nat.ne_of_lt (blk_lt (g := gb136) (o := .cells #[.int .i8 a0_0, .int .i8 a0_1, .bool a0_2, .bool a0_3] 26 (0, 0)) (by (with_reducible repeat (first | refine blk_drewN ?_ _ | refine blk_drew ?_ | refine blk_alloc ?_ _)); exact BK136.out)) : gb136 ≠ gb137)); have n6_ := Aside0.mk ((by rw [hg]; exact Nat.ne_of_gt (blk_lt (g := gb136) (o := .cells #[.int .i8 a0_0, .int .i8 a0_1, .bool a0_2, .bool a0_3] 26 (0, 0)) (by (with_reducible repeat (first | refine blk_drewN ?_ _ | refine blk_drew ?_ | refine blk_alloc ?_ _)); exact BK136.out)) : gb137 ≠ gb136)); clear BK136; clear HB; have BK136 := n0_; have HB := n1_; have BK137 := n2_; have GW137 := n3_; have GE137 := n4_; have NB136_137 := n5_; have NB137_136 := n6_; clear n0_ n1_ n2_ n3_ n4_ n5_ n6_; clear hb hbox hg; have hnb7 := NB136_137.out; have hnc7 := NB137_136.out; have hcz8_0 : w6.cell? ⟨gb136, 0, none⟩ = some (.int .i8 a0_0) := (blk_cell BK136.out 0).trans rfl; have hcz8_1 : w6.cell? ⟨gb136, 1, none⟩ = some (.int .i8 a0_1) := (blk_cell BK136.out 1).trans rfl; have hcz8_2 : w6.cell? ⟨gb136, 2, none⟩ = some (.bool a0_2) := (blk_cell BK136.out 2).trans rfl; have hcz8_3 : w6.cell? ⟨gb136, 3, none⟩ = some (.bool a0_3) := (blk_cell BK136.out 3).trans rfl; have hfz8_0 := blk_frozen BK136.out 0; have hfz8_1 := blk_frozen BK136.out 1; have hfz8_2 := blk_frozen BK136.out 2; have hfz8_3 := blk_frozen BK136.out 3) | ((with_reducible refine gate_callee (f := 16) rfl ?_); refine goesL_ (some 9) rfl rfl Try.func16 (by kernel_rfl) rfl #[.agg #[.int .i8 a0_0, .int .i8 a0_1, .bool a0_2, .bool a0_3]] rfl (by (try simp only [List.map_toArray, List.map_cons, List.map_nil]); first | done | rfl | (simp only [List.length_drop, List.length_take]; rfl)) ?_; (with_reducible refine (impl_ValidTask.calls a0_0 a0_1 a0_2 a0_3 true _ A3.out).mono ?_); rintro e w9 ⟨rfl, hb⟩; refine ⟨_, rfl, ?_⟩; have n0_ := Aside0.mk (blk_below (g := gb136) (o := .cells #[.int .i8 a0_0, .int .i8 a0_1, .bool a0_2, .bool a0_3] 26 (0, 0)) (by (with_reducible repeat (first | refine blk_drewN ?_ _ | refine blk_drew ?_ | refine blk_alloc ?_ _)); exact BK136.out) hb); have n1_ := Aside0.mk (blk_below (g := gb137) (o := .cells #[.int .i8 a1_0, .int .i8 a1_1, .int .i8 a1_2, .int .i8 a1_3, .int .i8 a1_4, .int .i8 a1_5, .int .i8 a1_6, .int .i8 a1_7, .int .i8 a1_8, .int .i8 a1_9, .int .i8 a1_10, .int .i8 a1_11, .int .i8 a1_12, .int .i8 a1_13] 31 (0, 0)) (by (with_reducible repeat (first | refine blk_drewN ?_ _ | refine blk_drew ?_ | refine blk_alloc ?_ _)); exact BK137.out) hb); have n2_ := Aside0.mk (below_step (by repeat (first | (with_reducible first | exact HB.out | apply below_alloc | apply pw_below_drewN | apply below_drew1 | refine below_set ?_ GE136.out | refine below_set ?_ GE137.out) | exact HB.out)) hb); clear BK136; clear BK137; clear HB; have BK136 := n0_; have BK137 := n1_; have HB := n2_; clear n0_ n1_ n2_; (try clear hb); (try clear hb2); (try clear hk); (try clear hi); have hcz10_0 : w9.cell? ⟨gb137, 0, none⟩ = some (.int .i8 a1_0) := (blk_cell BK137.out 0).trans rfl; have hcz10_1 : w9.cell? ⟨gb137, 1, none⟩ = some (.int .i8 a1_1) := (blk_cell BK137.out 1).trans rfl; have hcz10_2 : w9.cell? ⟨gb137, 2, none⟩ = some (.int .i8 a1_2) := (blk_cell BK137.out 2).trans rfl; have hcz10_3 : w9.cell? ⟨gb137, 3, none⟩ = some (.int .i8 a1_3) := (blk_cell BK137.out 3).trans rfl; have hcz10_4 : w9.cell? ⟨gb137, 4, none⟩ = some (.int .i8 a1_4) := (blk_cell BK137.out 4).trans rfl; have hcz10_5 : w9.cell? ⟨gb137, 5, none⟩ = some (.int .i8 a1_5) := (blk_cell BK137.out 5).trans rfl; have hcz10_6 : w9.cell? ⟨gb137, 6, none⟩ = some (.int .i8 a1_6) := (blk_cell BK137.out 6).trans rfl; have hcz10_7 : w9.cell? ⟨gb137, 7, none⟩ = some (.int .i8 a1_7) := (blk_cell BK137.out 7).trans rfl; have hcz10_8 : w9.cell? ⟨gb137, 8, none⟩ = some (.int .i8 a1_8) := (blk_cell BK137.out 8).trans rfl; have hcz10_9 : w9.cell? ⟨gb137, 9, none⟩ = some (.int .i8 a1_9) := (blk_cell BK137.out 9).trans rfl; have hcz10_10 : w9.cell? ⟨gb137, 10, none⟩ = some (.int .i8 a1_10) := (blk_cell BK137.out 10).trans rfl; have hcz10_11 : w9.cell? ⟨gb137, 11, none⟩ = some (.int .i8 a1_11) := (blk_cell BK137.out 11).trans rfl; have hcz10_12 : w9.cell? ⟨gb137, 12, none⟩ = some (.int .i8 a1_12) := (blk_cell BK137.out 12).trans rfl; have hcz10_13 : w9.cell? ⟨gb137, 13, none⟩ = some (.int .i8 a1_13) := (blk_cell BK137.out 13).trans rfl; have hfz10_0 := blk_frozen BK137.out 0; have hfz10_1 := blk_frozen BK137.out 1; have hfz10_2 := blk_frozen BK137.out 2; have hfz10_3 := blk_frozen BK137.out 3; have hfz10_4 := blk_frozen BK137.out 4; have hfz10_5 := blk_frozen BK137.out 5; have hfz10_6 := blk_frozen BK137.out 6; have hfz10_7 := blk_frozen BK137.out 7; have hfz10_8 := blk_frozen BK137.out 8; have hfz10_9 := blk_frozen BK137.out 9; have hfz10_10 := blk_frozen BK137.out 10; have hfz10_11 := blk_frozen BK137.out 11; have hfz10_12 := blk_frozen BK137.out 12; have hfz10_13 := blk_frozen BK137.out 13))
    go_loopg [5, 12] k (fun kq v5 v12 w' => ∃ (x5_1 : Int) (x12_1 : Int), v5 = .int .i64 x5_1 ∧ v12 = .int .i64 x12_1 ∧ Aside0 (impl_ValidWeighing.l0 kq x5_1 x12_1 a1_0 a1_1 a1_2 a1_3 a1_4 a1_5 a1_6 a1_7 a1_8 a1_9 a1_10 a1_11 a1_12 a1_13 a0_0 a0_1 a0_2 a0_3 = some r) ∧ Aside0 (kq ≤ k) ∧ Aside0 (w'.heap[gb136]? = some (.cells #[.int .i8 a0_0, .int .i8 a0_1, .bool a0_2, .bool a0_3] 26 (0, 0))) ∧ Aside0 (w'.heap[gb137]? = some (.cells #[.int .i8 a1_0, .int .i8 a1_1, .int .i8 a1_2, .int .i8 a1_3, .int .i8 a1_4, .int .i8 a1_5, .int .i8 a1_6, .int .i8 a1_7, .int .i8 a1_8, .int .i8 a1_9, .int .i8 a1_10, .int .i8 a1_11, .int .i8 a1_12, .int .i8 a1_13] 31 (0, 0))) ∧ Aside0 (Below w.heap.size w w'))
    case atStart => exact ⟨(0), (0), (by first | rfl | (simp; done) | (simp [*]; done)), (by first | rfl | (simp; done) | (simp [*]; done)), H', ⟨Nat.le_refl _⟩, ⟨by (with_reducible repeat (first | refine blk_drewN ?_ _ | refine blk_drew ?_ | refine blk_alloc ?_ _)); exact BK136.out⟩, ⟨by (with_reducible repeat (first | refine blk_drewN ?_ _ | refine blk_drew ?_ | refine blk_alloc ?_ _)); exact BK137.out⟩, ⟨by repeat (first | (with_reducible first | exact HB.out | apply below_alloc | apply pw_below_drewN | apply below_drew1 | refine below_set ?_ GE136.out | refine below_set ?_ GE137.out) | exact HB.out)⟩⟩
    case round =>
      clear H'
      try clear c1
      try clear p2
      try clear c4
      try clear c7
      try clear hcz10_0
      try clear hcz10_1
      try clear hcz10_10
      try clear hcz10_11
      try clear hcz10_12
      try clear hcz10_13
      try clear hcz10_2
      try clear hcz10_3
      try clear hcz10_4
      try clear hcz10_5
      try clear hcz10_6
      try clear hcz10_7
      try clear hcz10_8
      try clear hcz10_9
      try clear hcz8_0
      try clear hcz8_1
      try clear hcz8_2
      try clear hcz8_3
      try clear hfz10_0
      try clear hfz10_1
      try clear hfz10_10
      try clear hfz10_11
      try clear hfz10_12
      try clear hfz10_13
      try clear hfz10_2
      try clear hfz10_3
      try clear hfz10_4
      try clear hfz10_5
      try clear hfz10_6
      try clear hfz10_7
      try clear hfz10_8
      try clear hfz10_9
      try clear hfz8_0
      try clear hfz8_1
      try clear hfz8_2
      try clear hfz8_3
      obtain ⟨x5_1, x12_1, rfl, rfl, HA, HK1, BK136, BK137, HB⟩ := hrel
      cases gk with
      | zero => exact absurd HA.out (by simp [impl_ValidWeighing.l0])
      | succ k1 =>
        have H := HA.out
        clear HA
        simp only [impl_ValidWeighing.l0] at H
        by_cases c11 : x12_1 < 14
        · rw [if_pos c11] at H
          have c11b0 : decide (x12_1 < 14) = true := decide_eq_true c11
          clear c11
          by_cases c12 : 0 ≤ x12_1
          · rw [if_pos c12] at H
            have c12b0 : decide (0 ≤ x12_1) = true := decide_eq_true c12
            clear c12
            by_cases c14 : (rd [a1_0, a1_1, a1_2, a1_3, a1_4, a1_5, a1_6, a1_7, a1_8, a1_9, a1_10, a1_11, a1_12, a1_13] x12_1) < (-1)
            · rw [if_pos c14] at H
              have c14b0 : decide ((rd [a1_0, a1_1, a1_2, a1_3, a1_4, a1_5, a1_6, a1_7, a1_8, a1_9, a1_10, a1_11, a1_12, a1_13] x12_1) < (-1)) = true := decide_eq_true c14
              clear c14
              obtain rfl := Option.some.inj H
              have p13 : 0 ≤ (x12_1 : Int) := of_decide_eq_true (by first | (with_reducible assumption) | assumption)
              have q13 : (x12_1 : Int) < 14 := of_decide_eq_true (by first | (with_reducible assumption) | assumption)
              have hxv13 : ∀ W_ : World, (Instr.index 31 (.agg #[.int .i8 a1_0, .int .i8 a1_1, .int .i8 a1_2, .int .i8 a1_3, .int .i8 a1_4, .int .i8 a1_5, .int .i8 a1_6, .int .i8 a1_7, .int .i8 a1_8, .int .i8 a1_9, .int .i8 a1_10, .int .i8 a1_11, .int .i8 a1_12, .int .i8 a1_13]) (.int .i64 x12_1)).run Try.prog W_ = .ok (.int .i8 (rd [a1_0, a1_1, a1_2, a1_3, a1_4, a1_5, a1_6, a1_7, a1_8, a1_9, a1_10, a1_11, a1_12, a1_13] x12_1)) W_ := fun W_ => ard_index (k := .i8) (l := [a1_0, a1_1, a1_2, a1_3, a1_4, a1_5, a1_6, a1_7, a1_8, a1_9, a1_10, a1_11, a1_12, a1_13]) Try.underlying31 (by kernel_rfl) (by kernel_rfl) ⟨_, Try.underlying22⟩ rfl p13 q13 W_
              replace p13 := eq_true p13
              replace q13 := eq_true q13
              go_wp2
              go_ret
              exact ⟨by first | rfl | (simp [errW_none, errW_some] <;> rfl) | (simp [*, errW_none, errW_some] <;> rfl), by repeat (first | (with_reducible first | exact HB.out | apply below_alloc | apply pw_below_drewN | apply below_drew1 | refine below_set ?_ GE136.out | refine below_set ?_ GE137.out) | exact HB.out)⟩
            · rw [if_neg c14] at H
              have c14b0 : decide ((rd [a1_0, a1_1, a1_2, a1_3, a1_4, a1_5, a1_6, a1_7, a1_8, a1_9, a1_10, a1_11, a1_12, a1_13] x12_1) < (-1)) = false := decide_eq_false c14
              clear c14
              by_cases c15 : (rd [a1_0, a1_1, a1_2, a1_3, a1_4, a1_5, a1_6, a1_7, a1_8, a1_9, a1_10, a1_11, a1_12, a1_13] x12_1) > 1
              · rw [if_pos c15] at H
                have c15b0 : decide (1 < (rd [a1_0, a1_1, a1_2, a1_3, a1_4, a1_5, a1_6, a1_7, a1_8, a1_9, a1_10, a1_11, a1_12, a1_13] x12_1)) = true := decide_eq_true c15
                clear c15
                obtain rfl := Option.some.inj H
                have p13 : 0 ≤ (x12_1 : Int) := of_decide_eq_true (by first | (with_reducible assumption) | assumption)
                have q13 : (x12_1 : Int) < 14 := of_decide_eq_true (by first | (with_reducible assumption) | assumption)
                have hxv13 : ∀ W_ : World, (Instr.index 31 (.agg #[.int .i8 a1_0, .int .i8 a1_1, .int .i8 a1_2, .int .i8 a1_3, .int .i8 a1_4, .int .i8 a1_5, .int .i8 a1_6, .int .i8 a1_7, .int .i8 a1_8, .int .i8 a1_9, .int .i8 a1_10, .int .i8 a1_11, .int .i8 a1_12, .int .i8 a1_13]) (.int .i64 x12_1)).run Try.prog W_ = .ok (.int .i8 (rd [a1_0, a1_1, a1_2, a1_3, a1_4, a1_5, a1_6, a1_7, a1_8, a1_9, a1_10, a1_11, a1_12, a1_13] x12_1)) W_ := fun W_ => ard_index (k := .i8) (l := [a1_0, a1_1, a1_2, a1_3, a1_4, a1_5, a1_6, a1_7, a1_8, a1_9, a1_10, a1_11, a1_12, a1_13]) Try.underlying31 (by kernel_rfl) (by kernel_rfl) ⟨_, Try.underlying22⟩ rfl p13 q13 W_
                replace p13 := eq_true p13
                replace q13 := eq_true q13
                go_wp2
                go_ret
                exact ⟨by first | rfl | (simp [errW_none, errW_some] <;> rfl) | (simp [*, errW_none, errW_some] <;> rfl), by repeat (first | (with_reducible first | exact HB.out | apply below_alloc | apply pw_below_drewN | apply below_drew1 | refine below_set ?_ GE136.out | refine below_set ?_ GE137.out) | exact HB.out)⟩
              · rw [if_neg c15] at H
                have c15b0 : decide (1 < (rd [a1_0, a1_1, a1_2, a1_3, a1_4, a1_5, a1_6, a1_7, a1_8, a1_9, a1_10, a1_11, a1_12, a1_13] x12_1)) = false := decide_eq_false c15
                clear c15
                by_cases c16 : (rd [a1_0, a1_1, a1_2, a1_3, a1_4, a1_5, a1_6, a1_7, a1_8, a1_9, a1_10, a1_11, a1_12, a1_13] x12_1) = 0
                · rw [if_pos c16] at H
                  have c16b0 : ((rd [a1_0, a1_1, a1_2, a1_3, a1_4, a1_5, a1_6, a1_7, a1_8, a1_9, a1_10, a1_11, a1_12, a1_13] x12_1) == 0) = true := beq_iff_eq.mpr c16
                  have c16b1 : ((rd [a1_0, a1_1, a1_2, a1_3, a1_4, a1_5, a1_6, a1_7, a1_8, a1_9, a1_10, a1_11, a1_12, a1_13] x12_1) != 0) = false := bne_eq_false_iff_eq.mpr c16
                  clear c16
                  have H' := Aside0.mk H
                  clear H
                  have p13 : 0 ≤ (x12_1 : Int) := of_decide_eq_true (by first | (with_reducible assumption) | assumption)
                  have q13 : (x12_1 : Int) < 14 := of_decide_eq_true (by first | (with_reducible assumption) | assumption)
                  have hxv13 : ∀ W_ : World, (Instr.index 31 (.agg #[.int .i8 a1_0, .int .i8 a1_1, .int .i8 a1_2, .int .i8 a1_3, .int .i8 a1_4, .int .i8 a1_5, .int .i8 a1_6, .int .i8 a1_7, .int .i8 a1_8, .int .i8 a1_9, .int .i8 a1_10, .int .i8 a1_11, .int .i8 a1_12, .int .i8 a1_13]) (.int .i64 x12_1)).run Try.prog W_ = .ok (.int .i8 (rd [a1_0, a1_1, a1_2, a1_3, a1_4, a1_5, a1_6, a1_7, a1_8, a1_9, a1_10, a1_11, a1_12, a1_13] x12_1)) W_ := fun W_ => ard_index (k := .i8) (l := [a1_0, a1_1, a1_2, a1_3, a1_4, a1_5, a1_6, a1_7, a1_8, a1_9, a1_10, a1_11, a1_12, a1_13]) Try.underlying31 (by kernel_rfl) (by kernel_rfl) ⟨_, Try.underlying22⟩ rfl p13 q13 W_
                  replace p13 := eq_true p13
                  replace q13 := eq_true q13
                  go_wp2
                  go_roundg k1
                  case measure => have := HK1.out; omega
                  case rel => exact ⟨(wrap64 (x5_1 + (wrap64 (rd [a1_0, a1_1, a1_2, a1_3, a1_4, a1_5, a1_6, a1_7, a1_8, a1_9, a1_10, a1_11, a1_12, a1_13] x12_1)))), (wrap64 (x12_1 + 1)), (by first | rfl | (simp; done) | (simp [*]; done)), (by first | rfl | (simp; done) | (simp [*]; done)), H', ⟨by have := HK1.out; omega⟩, ⟨by (with_reducible repeat (first | refine blk_drewN ?_ _ | refine blk_drew ?_ | refine blk_alloc ?_ _)); exact BK136.out⟩, ⟨by (with_reducible repeat (first | refine blk_drewN ?_ _ | refine blk_drew ?_ | refine blk_alloc ?_ _)); exact BK137.out⟩, ⟨by repeat (first | (with_reducible first | exact HB.out | apply below_alloc | apply pw_below_drewN | apply below_drew1 | refine below_set ?_ GE136.out | refine below_set ?_ GE137.out) | exact HB.out)⟩⟩
                · rw [if_neg c16] at H
                  have c16b0 : ((rd [a1_0, a1_1, a1_2, a1_3, a1_4, a1_5, a1_6, a1_7, a1_8, a1_9, a1_10, a1_11, a1_12, a1_13] x12_1) == 0) = false := beq_eq_false_iff_ne.mpr c16
                  have c16b1 : ((rd [a1_0, a1_1, a1_2, a1_3, a1_4, a1_5, a1_6, a1_7, a1_8, a1_9, a1_10, a1_11, a1_12, a1_13] x12_1) != 0) = true := bne_iff_ne.mpr c16
                  replace H := Option.bind_eq_some_iff.mp H
                  obtain ⟨t139, A170, H⟩ := H
                  replace H : (if x12_1 ≥ t139 then (some false) else (impl_ValidWeighing.l0 k1 (wrap64 (x5_1 + (wrap64 (rd [a1_0, a1_1, a1_2, a1_3, a1_4, a1_5, a1_6, a1_7, a1_8, a1_9, a1_10, a1_11, a1_12, a1_13] x12_1)))) (wrap64 (x12_1 + 1)) a1_0 a1_1 a1_2 a1_3 a1_4 a1_5 a1_6 a1_7 a1_8 a1_9 a1_10 a1_11 a1_12 a1_13 a0_0 a0_1 a0_2 a0_3)) = some r := H
                  have A17 := Aside0.mk A170
                  clear A170
                  by_cases c18 : x12_1 ≥ t139
                  · rw [if_pos c18] at H
                    have c18b0 : decide (t139 ≤ x12_1) = true := decide_eq_true c18
                    clear c18
                    obtain rfl := Option.some.inj H
                    have p13 : 0 ≤ (x12_1 : Int) := of_decide_eq_true (by first | (with_reducible assumption) | assumption)
                    have q13 : (x12_1 : Int) < 14 := of_decide_eq_true (by first | (with_reducible assumption) | assumption)
                    have hxv13 : ∀ W_ : World, (Instr.index 31 (.agg #[.int .i8 a1_0, .int .i8 a1_1, .int .i8 a1_2, .int .i8 a1_3, .int .i8 a1_4, .int .i8 a1_5, .int .i8 a1_6, .int .i8 a1_7, .int .i8 a1_8, .int .i8 a1_9, .int .i8 a1_10, .int .i8 a1_11, .int .i8 a1_12, .int .i8 a1_13]) (.int .i64 x12_1)).run Try.prog W_ = .ok (.int .i8 (rd [a1_0, a1_1, a1_2, a1_3, a1_4, a1_5, a1_6, a1_7, a1_8, a1_9, a1_10, a1_11, a1_12, a1_13] x12_1)) W_ := fun W_ => ard_index (k := .i8) (l := [a1_0, a1_1, a1_2, a1_3, a1_4, a1_5, a1_6, a1_7, a1_8, a1_9, a1_10, a1_11, a1_12, a1_13]) Try.underlying31 (by kernel_rfl) (by kernel_rfl) ⟨_, Try.underlying22⟩ rfl p13 q13 W_
                    replace p13 := eq_true p13
                    replace q13 := eq_true q13
                    have hnb19 := NB136_137.out
                    have hnc19 := NB137_136.out
                    have hcz20_0 : wr.cell? ⟨gb136, 0, none⟩ = some (.int .i8 a0_0) := (blk_cell BK136.out 0).trans rfl
                    have hcz20_1 : wr.cell? ⟨gb136, 1, none⟩ = some (.int .i8 a0_1) := (blk_cell BK136.out 1).trans rfl
                    have hcz20_2 : wr.cell? ⟨gb136, 2, none⟩ = some (.bool a0_2) := (blk_cell BK136.out 2).trans rfl
                    have hcz20_3 : wr.cell? ⟨gb136, 3, none⟩ = some (.bool a0_3) := (blk_cell BK136.out 3).trans rfl
                    have hfz20_0 := blk_frozen BK136.out 0
                    have hfz20_1 := blk_frozen BK136.out 1
                    have hfz20_2 := blk_frozen BK136.out 2
                    have hfz20_3 := blk_frozen BK136.out 3
                    go_wp2_with (first | (go_at_call 51; (with_reducible refine (impl_Task_places.calls a0_0 a0_1 a0_2 a0_3 t139 _ A17.out).mono ?_); rintro e w21 ⟨rfl, hb⟩; have n0_ := Aside0.mk (blk_below (g := gb136) (o := .cells #[.int .i8 a0_0, .int .i8 a0_1, .bool a0_2, .bool a0_3] 26 (0, 0)) (by (with_reducible repeat (first | refine blk_drewN ?_ _ | refine blk_drew ?_ | refine blk_alloc ?_ _)); exact BK136.out) hb); have n1_ := Aside0.mk (blk_below (g := gb137) (o := .cells #[.int .i8 a1_0, .int .i8 a1_1, .int .i8 a1_2, .int .i8 a1_3, .int .i8 a1_4, .int .i8 a1_5, .int .i8 a1_6, .int .i8 a1_7, .int .i8 a1_8, .int .i8 a1_9, .int .i8 a1_10, .int .i8 a1_11, .int .i8 a1_12, .int .i8 a1_13] 31 (0, 0)) (by (with_reducible repeat (first | refine blk_drewN ?_ _ | refine blk_drew ?_ | refine blk_alloc ?_ _)); exact BK137.out) hb); have n2_ := Aside0.mk (below_step (by repeat (first | (with_reducible first | exact HB.out | apply below_alloc | apply pw_below_drewN | apply below_drew1 | refine below_set ?_ GE136.out | refine below_set ?_ GE137.out) | exact HB.out)) hb); clear BK136; clear BK137; clear HB; have BK136 := n0_; have BK137 := n1_; have HB := n2_; clear n0_ n1_ n2_; (try clear hb); (try clear hb2); (try clear hk); (try clear hi)))
                    go_ret
                    exact ⟨by first | rfl | (simp [errW_none, errW_some] <;> rfl) | (simp [*, errW_none, errW_some] <;> rfl), by repeat (first | (with_reducible first | exact HB.out | apply below_alloc | apply pw_below_drewN | apply below_drew1 | refine below_set ?_ GE136.out | refine below_set ?_ GE137.out) | exact HB.out)⟩
                  · rw [if_neg c18] at H
                    have c18b0 : decide (t139 ≤ x12_1) = false := decide_eq_false c18
                    clear c18
                    have H' := Aside0.mk H
                    clear H
                    have p13 : 0 ≤ (x12_1 : Int) := of_decide_eq_true (by first | (with_reducible assumption) | assumption)
                    have q13 : (x12_1 : Int) < 14 := of_decide_eq_true (by first | (with_reducible assumption) | assumption)
                    have hxv13 : ∀ W_ : World, (Instr.index 31 (.agg #[.int .i8 a1_0, .int .i8 a1_1, .int .i8 a1_2, .int .i8 a1_3, .int .i8 a1_4, .int .i8 a1_5, .int .i8 a1_6, .int .i8 a1_7, .int .i8 a1_8, .int .i8 a1_9, .int .i8 a1_10, .int .i8 a1_11, .int .i8 a1_12, .int .i8 a1_13]) (.int .i64 x12_1)).run Try.prog W_ = .ok (.int .i8 (rd [a1_0, a1_1, a1_2, a1_3, a1_4, a1_5, a1_6, a1_7, a1_8, a1_9, a1_10, a1_11, a1_12, a1_13] x12_1)) W_ := fun W_ => ard_index (k := .i8) (l := [a1_0, a1_1, a1_2, a1_3, a1_4, a1_5, a1_6, a1_7, a1_8, a1_9, a1_10, a1_11, a1_12, a1_13]) Try.underlying31 (by kernel_rfl) (by kernel_rfl) ⟨_, Try.underlying22⟩ rfl p13 q13 W_
                    replace p13 := eq_true p13
                    replace q13 := eq_true q13
                    have hnb22 := NB136_137.out
                    have hnc22 := NB137_136.out
                    have hcz23_0 : wr.cell? ⟨gb136, 0, none⟩ = some (.int .i8 a0_0) := (blk_cell BK136.out 0).trans rfl
                    have hcz23_1 : wr.cell? ⟨gb136, 1, none⟩ = some (.int .i8 a0_1) := (blk_cell BK136.out 1).trans rfl
                    have hcz23_2 : wr.cell? ⟨gb136, 2, none⟩ = some (.bool a0_2) := (blk_cell BK136.out 2).trans rfl
                    have hcz23_3 : wr.cell? ⟨gb136, 3, none⟩ = some (.bool a0_3) := (blk_cell BK136.out 3).trans rfl
                    have hfz23_0 := blk_frozen BK136.out 0
                    have hfz23_1 := blk_frozen BK136.out 1
                    have hfz23_2 := blk_frozen BK136.out 2
                    have hfz23_3 := blk_frozen BK136.out 3
                    go_wp2_with (first | (go_at_call 51; (with_reducible refine (impl_Task_places.calls a0_0 a0_1 a0_2 a0_3 t139 _ A17.out).mono ?_); rintro e w24 ⟨rfl, hb⟩; have n0_ := Aside0.mk (blk_below (g := gb136) (o := .cells #[.int .i8 a0_0, .int .i8 a0_1, .bool a0_2, .bool a0_3] 26 (0, 0)) (by (with_reducible repeat (first | refine blk_drewN ?_ _ | refine blk_drew ?_ | refine blk_alloc ?_ _)); exact BK136.out) hb); have n1_ := Aside0.mk (blk_below (g := gb137) (o := .cells #[.int .i8 a1_0, .int .i8 a1_1, .int .i8 a1_2, .int .i8 a1_3, .int .i8 a1_4, .int .i8 a1_5, .int .i8 a1_6, .int .i8 a1_7, .int .i8 a1_8, .int .i8 a1_9, .int .i8 a1_10, .int .i8 a1_11, .int .i8 a1_12, .int .i8 a1_13] 31 (0, 0)) (by (with_reducible repeat (first | refine blk_drewN ?_ _ | refine blk_drew ?_ | refine blk_alloc ?_ _)); exact BK137.out) hb); have n2_ := Aside0.mk (below_step (by repeat (first | (with_reducible first | exact HB.out | apply below_alloc | apply pw_below_drewN | apply below_drew1 | refine below_set ?_ GE136.out | refine below_set ?_ GE137.out) | exact HB.out)) hb); clear BK136; clear BK137; clear HB; have BK136 := n0_; have BK137 := n1_; have HB := n2_; clear n0_ n1_ n2_; (try clear hb); (try clear hb2); (try clear hk); (try clear hi)))
                    go_roundg k1
                    case measure => have := HK1.out; omega
                    case rel => exact ⟨(wrap64 (x5_1 + (wrap64 (rd [a1_0, a1_1, a1_2, a1_3, a1_4, a1_5, a1_6, a1_7, a1_8, a1_9, a1_10, a1_11, a1_12, a1_13] x12_1)))), (wrap64 (x12_1 + 1)), (by first | rfl | (simp; done) | (simp [*]; done)), (by first | rfl | (simp; done) | (simp [*]; done)), H', ⟨by have := HK1.out; omega⟩, ⟨by (with_reducible repeat (first | refine blk_drewN ?_ _ | refine blk_drew ?_ | refine blk_alloc ?_ _)); exact BK136.out⟩, ⟨by (with_reducible repeat (first | refine blk_drewN ?_ _ | refine blk_drew ?_ | refine blk_alloc ?_ _)); exact BK137.out⟩, ⟨by repeat (first | (with_reducible first | exact HB.out | apply below_alloc | apply pw_below_drewN | apply below_drew1 | refine below_set ?_ GE136.out | refine below_set ?_ GE137.out) | exact HB.out)⟩⟩
          · rw [if_neg c12] at H
            exact absurd H (by simp)
        · rw [if_neg c11] at H
          have c11b0 : decide (x12_1 < 14) = false := decide_eq_false c11
          clear c11
          obtain rfl := Option.some.inj H
          go_wp2
          go_ret
          exact ⟨by first | rfl | (simp [errW_none, errW_some] <;> rfl) | (simp [*, errW_none, errW_some] <;> rfl), by repeat (first | (with_reducible first | exact HB.out | apply below_alloc | apply pw_below_drewN | apply below_drew1 | refine below_set ?_ GE136.out | refine below_set ?_ GE137.out) | exact HB.out)⟩
  · replace c4 := Bool.eq_false_iff.mpr c4
    subst c4
    have H1 : (some false) = some r := by rw [if_neg (show ¬ (false = true) by decide)] at H; exact H
    clear H
    have H := H1
    clear H1
    obtain rfl := Option.some.inj H
    go_enter Try.func19, Try.ntmps19
    go_wp2_with (first | ((with_reducible refine gate_dst (N := 2) rfl ?_); refine box_event ?hg (N := 2) ?hd (cs := #[.int .i8 a0_0, .int .i8 a0_1, .bool a0_2, .bool a0_3]) (t := 26) ?hr ?_; (case hd => rfl); (case hg => rfl); (case hr => first | (go_simp; done) | (go_simp; rfl)); intro gb136 hg w25 hbox hb; have n0_ := Aside0.mk (below_step (by repeat (first | (with_reducible first | exact HB.out | apply below_alloc | apply pw_below_drewN | apply below_drew1) | exact HB.out)) hb); have n1_ := Aside0.mk (hbox); have n2_ := Aside0.mk ((by rw [hg]; exact (below_size (by repeat (first | (with_reducible first | exact HB.out | apply below_alloc | apply pw_below_drewN | apply below_drew1) | exact HB.out))) : w.heap.size ≤ gb136)); have n3_ := Aside0.mk ((by rw [hg]; exact (below_size (by repeat (first | (with_reducible first | exact HB.out | apply below_alloc | apply pw_below_drewN | apply below_drew1) | exact HB.out))) : w.heap.size ≤ gb136)); clear HB; have HB := n0_; have BK136 := n1_; have GW136 := n2_; have GE136 := n3_; clear n0_ n1_ n2_ n3_; clear hb hbox hg) | ((with_reducible refine gate_dst (N := 3) rfl ?_); refine box_event ?hg (N := 3) ?hd (cs := #[.int .i8 a1_0, .int .i8 a1_1, .int .i8 a1_2, .int .i8 a1_3, .int .i8 a1_4, .int .i8 a1_5, .int .i8 a1_6, .int .i8 a1_7, .int .i8 a1_8, .int .i8 a1_9, .int .i8 a1_10, .int .i8 a1_11, .int .i8 a1_12, .int .i8 a1_13]) (t := 31) ?hr ?_; (case hd => rfl); (case hg => rfl); (case hr => first | (go_simp; done) | (go_simp; rfl)); intro gb137 hg w26 hbox hb; have n0_ := Aside0.mk (blk_below (g := gb136) (o := .cells #[.int .i8 a0_0, .int .i8 a0_1, .bool a0_2, .bool a0_3] 26 (0, 0)) (by (with_reducible repeat (first | refine blk_drewN ?_ _ | refine blk_drew ?_ | refine blk_alloc ?_ _)); exact BK136.out) hb); have n1_ := Aside0.mk (below_step (by repeat (first | (with_reducible first | exact HB.out | apply below_alloc | apply pw_below_drewN | apply below_drew1 | refine below_set ?_ GE136.out) | exact HB.out)) hb); have n2_ := Aside0.mk (hbox); have n3_ := Aside0.mk ((by rw [hg]; exact (below_size (by repeat (first | (with_reducible first | exact HB.out | apply below_alloc | apply pw_below_drewN | apply below_drew1 | refine below_set ?_ GE136.out) | exact HB.out))) : w.heap.size ≤ gb137)); have n4_ := Aside0.mk ((by rw [hg]; exact (below_size (by repeat (first | (with_reducible first | exact HB.out | apply below_alloc | apply pw_below_drewN | apply below_drew1 | refine below_set ?_ GE136.out) | exact HB.out))) : w.heap.size ≤ gb137)); have n5_ := Aside0.mk ((by rw [hg]; exact Nat.ne_of_lt (blk_lt (g := gb136) (o := .cells #[.int .i8 a0_0, .int .i8 a0_1, .bool a0_2, .bool a0_3] 26 (0, 0)) (by (with_reducible repeat (first | refine blk_drewN ?_ _ | refine blk_drew ?_ | refine blk_alloc ?_ _)); exact BK136.out)) : gb136 ≠ gb137)); have n6_ := Aside0.mk ((by rw [hg]; exact Nat.ne_of_gt (blk_lt (g := gb136) (o := .cells #[.int .i8 a0_0, .int .i8 a0_1, .bool a0_2, .bool a0_3] 26 (0, 0)) (by (with_reducible repeat (first | refine blk_drewN ?_ _ | refine blk_drew ?_ | refine blk_alloc ?_ _)); exact BK136.out)) : gb137 ≠ gb136)); clear BK136; clear HB; have BK136 := n0_; have HB := n1_; have BK137 := n2_; have GW137 := n3_; have GE137 := n4_; have NB136_137 := n5_; have NB137_136 := n6_; clear n0_ n1_ n2_ n3_ n4_ n5_ n6_; clear hb hbox hg; have hnb27 := NB136_137.out; have hnc27 := NB137_136.out; have hcz28_0 : w26.cell? ⟨gb136, 0, none⟩ = some (.int .i8 a0_0) := (blk_cell BK136.out 0).trans rfl; have hcz28_1 : w26.cell? ⟨gb136, 1, none⟩ = some (.int .i8 a0_1) := (blk_cell BK136.out 1).trans rfl; have hcz28_2 : w26.cell? ⟨gb136, 2, none⟩ = some (.bool a0_2) := (blk_cell BK136.out 2).trans rfl; have hcz28_3 : w26.cell? ⟨gb136, 3, none⟩ = some (.bool a0_3) := (blk_cell BK136.out 3).trans rfl; have hfz28_0 := blk_frozen BK136.out 0; have hfz28_1 := blk_frozen BK136.out 1; have hfz28_2 := blk_frozen BK136.out 2; have hfz28_3 := blk_frozen BK136.out 3) | ((with_reducible refine gate_callee (f := 16) rfl ?_); refine goesL_ (some 9) rfl rfl Try.func16 (by kernel_rfl) rfl #[.agg #[.int .i8 a0_0, .int .i8 a0_1, .bool a0_2, .bool a0_3]] rfl (by (try simp only [List.map_toArray, List.map_cons, List.map_nil]); first | done | rfl | (simp only [List.length_drop, List.length_take]; rfl)) ?_; (with_reducible refine (impl_ValidTask.calls a0_0 a0_1 a0_2 a0_3 false _ A3.out).mono ?_); rintro e w29 ⟨rfl, hb⟩; refine ⟨_, rfl, ?_⟩; have n0_ := Aside0.mk (blk_below (g := gb136) (o := .cells #[.int .i8 a0_0, .int .i8 a0_1, .bool a0_2, .bool a0_3] 26 (0, 0)) (by (with_reducible repeat (first | refine blk_drewN ?_ _ | refine blk_drew ?_ | refine blk_alloc ?_ _)); exact BK136.out) hb); have n1_ := Aside0.mk (blk_below (g := gb137) (o := .cells #[.int .i8 a1_0, .int .i8 a1_1, .int .i8 a1_2, .int .i8 a1_3, .int .i8 a1_4, .int .i8 a1_5, .int .i8 a1_6, .int .i8 a1_7, .int .i8 a1_8, .int .i8 a1_9, .int .i8 a1_10, .int .i8 a1_11, .int .i8 a1_12, .int .i8 a1_13] 31 (0, 0)) (by (with_reducible repeat (first | refine blk_drewN ?_ _ | refine blk_drew ?_ | refine blk_alloc ?_ _)); exact BK137.out) hb); have n2_ := Aside0.mk (below_step (by repeat (first | (with_reducible first | exact HB.out | apply below_alloc | apply pw_below_drewN | apply below_drew1 | refine below_set ?_ GE136.out | refine below_set ?_ GE137.out) | exact HB.out)) hb); clear BK136; clear BK137; clear HB; have BK136 := n0_; have BK137 := n1_; have HB := n2_; clear n0_ n1_ n2_; (try clear hb); (try clear hb2); (try clear hk); (try clear hi)))
    go_ret
    exact ⟨by first | rfl | (simp [errW_none, errW_some] <;> rfl) | (simp [*, errW_none, errW_some] <;> rfl), by repeat (first | (with_reducible first | exact HB.out | apply below_alloc | apply pw_below_drewN | apply below_drew1 | refine below_set ?_ GE136.out | refine below_set ?_ GE137.out) | exact HB.out)⟩

end Go.Proofs.Ytajbeamkjoeifaa.M
