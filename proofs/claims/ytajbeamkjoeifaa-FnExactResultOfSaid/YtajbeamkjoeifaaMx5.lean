-- By this seat's own program over the kit's printer (arrays, functions told by hand); nothing of it is trusted: the kernel checks it.
import Derived.Test.YtajbeamkjoeifaaMx0
import Derived.Test.YtajbeamkjoeifaaMx4
namespace Go.Proofs.Ytajbeamkjoeifaa.M
open Go.RowKit Go.Proofs.YtajbeamkjoeifaaW.PrintWords Go.Proofs.YtajbeamkjoeifaaW.PrintLast Go.Proofs.YtajbeamkjoeifaaW.PrintMore
attribute [local go_sem] max2_int min2_int max_two min_two max_three min_three max_four min_four   -- for this text's walks alone
set_option linter.unusedVariables false
set_option linter.unusedSimpArgs false

/-! ### spec_l03Weighing: function 50 -/
def spec_l03Weighing.l0 : Nat → Int → Int → Int → Int → Bool → Bool → Int → Int → Int → Int → Int → Int → Int → Int → Int → Int → Int → Int → Int → Int → Option (Bool)
  | 0, _, _, _, _, _, _, _, _, _, _, _, _, _, _, _, _, _, _, _, _ => none
  | k + 1, x5, x6, x126000, x126001, x126002, x126003, x127000, x127001, x127002, x127003, x127004, x127005, x127006, x127007, x127008, x127009, x127010, x127011, x127012, x127013 => if x6 < 14 then (if 0 ≤ x6 then (if (rd [x127000, x127001, x127002, x127003, x127004, x127005, x127006, x127007, x127008, x127009, x127010, x127011, x127012, x127013] x6) < (-1) then (some false) else (if (rd [x127000, x127001, x127002, x127003, x127004, x127005, x127006, x127007, x127008, x127009, x127010, x127011, x127012, x127013] x6) > 1 then (some false) else (if (rd [x127000, x127001, x127002, x127003, x127004, x127005, x127006, x127007, x127008, x127009, x127010, x127011, x127012, x127013] x6) = 0 then (spec_l03Weighing.l0 k (wrap64 (x5 + (wrap64 (rd [x127000, x127001, x127002, x127003, x127004, x127005, x127006, x127007, x127008, x127009, x127010, x127011, x127012, x127013] x6)))) (wrap64 (x6 + 1)) x126000 x126001 x126002 x126003 x127000 x127001 x127002 x127003 x127004 x127005 x127006 x127007 x127008 x127009 x127010 x127011 x127012 x127013) else ((spec_l03There.f x126000 x126001 x126002 x126003 x6).bind fun t127 => (if t127 = true then (spec_l03Weighing.l0 k (wrap64 (x5 + (wrap64 (rd [x127000, x127001, x127002, x127003, x127004, x127005, x127006, x127007, x127008, x127009, x127010, x127011, x127012, x127013] x6)))) (wrap64 (x6 + 1)) x126000 x126001 x126002 x126003 x127000 x127001 x127002 x127003 x127004 x127005 x127006 x127007 x127008 x127009 x127010 x127011 x127012 x127013) else (some false)))))) else (none)) else (some (x5 == 0))
def spec_l03Weighing.f (k : Nat) (a0_0 : Int) (a0_1 : Int) (a0_2 : Bool) (a0_3 : Bool) (a1_0 : Int) (a1_1 : Int) (a1_2 : Int) (a1_3 : Int) (a1_4 : Int) (a1_5 : Int) (a1_6 : Int) (a1_7 : Int) (a1_8 : Int) (a1_9 : Int) (a1_10 : Int) (a1_11 : Int) (a1_12 : Int) (a1_13 : Int) : Option (Bool) := spec_l03Weighing.l0 k 0 0 a0_0 a0_1 a0_2 a0_3 a1_0 a1_1 a1_2 a1_3 a1_4 a1_5 a1_6 a1_7 a1_8 a1_9 a1_10 a1_11 a1_12 a1_13
theorem spec_l03Weighing.mono_l : ∀ k, (∀ y0 y1 y2 y3 y4 y5 y6 y7 y8 y9 y10 y11 y12 y13 y14 y15 y16 y17 y18 y19, LeO (spec_l03Weighing.l0 k y0 y1 y2 y3 y4 y5 y6 y7 y8 y9 y10 y11 y12 y13 y14 y15 y16 y17 y18 y19) (spec_l03Weighing.l0 (k + 1) y0 y1 y2 y3 y4 y5 y6 y7 y8 y9 y10 y11 y12 y13 y14 y15 y16 y17 y18 y19))
  | 0 => fun _ _ _ _ _ _ _ _ _ _ _ _ _ _ _ _ _ _ _ _ r h => by simp [spec_l03Weighing.l0] at h
  | k + 1 => by
    have ih0 := spec_l03Weighing.mono_l k
    · intro y0 y1 y2 y3 y4 y5 y6 y7 y8 y9 y10 y11 y12 y13 y14 y15 y16 y17 y18 y19
      unfold spec_l03Weighing.l0
      repeat' first
      | (with_reducible exact ih0 _ _ _ _ _ _ _ _ _ _ _ _ _ _ _ _ _ _ _ _)
      | (with_reducible exact LeO.refl _)
      | (with_reducible exact LeO.none _)
      | (with_reducible refine LeO.ite ?_ ?_)
      | (with_reducible refine LeO.bind ?_ (fun _ => ?_))
      | exact ih0 _ _ _ _ _ _ _ _ _ _ _ _ _ _ _ _ _ _ _ _
      | exact LeO.none _
      | refine LeO.ite ?_ ?_
      | refine LeO.bind ?_ (fun _ => ?_)
theorem spec_l03Weighing.mono : ∀ a0 a1 a2 a3 a4 a5 a6 a7 a8 a9 a10 a11 a12 a13 a14 a15 a16 a17 k, LeO (spec_l03Weighing.f k a0 a1 a2 a3 a4 a5 a6 a7 a8 a9 a10 a11 a12 a13 a14 a15 a16 a17) (spec_l03Weighing.f (k + 1) a0 a1 a2 a3 a4 a5 a6 a7 a8 a9 a10 a11 a12 a13 a14 a15 a16 a17) := by
  intro a0 a1 a2 a3 a4 a5 a6 a7 a8 a9 a10 a11 a12 a13 a14 a15 a16 a17 k
  have ih0 := spec_l03Weighing.mono_l k
  unfold spec_l03Weighing.f
  repeat' first
      | (with_reducible exact ih0 _ _ _ _ _ _ _ _ _ _ _ _ _ _ _ _ _ _ _ _)
      | (with_reducible exact LeO.refl _)
      | (with_reducible exact LeO.none _)
      | (with_reducible refine LeO.ite ?_ ?_)
      | (with_reducible refine LeO.bind ?_ (fun _ => ?_))
      | exact ih0 _ _ _ _ _ _ _ _ _ _ _ _ _ _ _ _ _ _ _ _
      | exact LeO.none _
      | refine LeO.ite ?_ ?_
      | refine LeO.bind ?_ (fun _ => ?_)
set_option maxHeartbeats 8000000 in
set_option maxRecDepth 100000 in
theorem spec_l03Weighing.calls (k : Nat) (a0_0 : Int) (a0_1 : Int) (a0_2 : Bool) (a0_3 : Bool) (a1_0 : Int) (a1_1 : Int) (a1_2 : Int) (a1_3 : Int) (a1_4 : Int) (a1_5 : Int) (a1_6 : Int) (a1_7 : Int) (a1_8 : Int) (a1_9 : Int) (a1_10 : Int) (a1_11 : Int) (a1_12 : Int) (a1_13 : Int) (r : Bool) (w : World) (h : spec_l03Weighing.f k a0_0 a0_1 a0_2 a0_3 a1_0 a1_1 a1_2 a1_3 a1_4 a1_5 a1_6 a1_7 a1_8 a1_9 a1_10 a1_11 a1_12 a1_13 = some r) :
    Calls Try.prog 50 #[.agg #[.int .i8 a0_0, .int .i8 a0_1, .bool a0_2, .bool a0_3], .agg #[.int .i8 a1_0, .int .i8 a1_1, .int .i8 a1_2, .int .i8 a1_3, .int .i8 a1_4, .int .i8 a1_5, .int .i8 a1_6, .int .i8 a1_7, .int .i8 a1_8, .int .i8 a1_9, .int .i8 a1_10, .int .i8 a1_11, .int .i8 a1_12, .int .i8 a1_13]] w fun e w' => e = .returned (.bool r) ∧ Below w.heap.size w w' := by
  have hu26 := Try.underlying26
  have hu31 := Try.underlying31
  have HB := Aside0.mk (Below.refl w.heap.size w)
  have H : (spec_l03Weighing.l0 k 0 0 a0_0 a0_1 a0_2 a0_3 a1_0 a1_1 a1_2 a1_3 a1_4 a1_5 a1_6 a1_7 a1_8 a1_9 a1_10 a1_11 a1_12 a1_13) = some r := h
  clear h
  have H' := Aside0.mk H
  clear H
  go_enter Try.func50, Try.ntmps50
  go_wp2_with (first | ((with_reducible refine gate_dst (N := 2) rfl ?_); refine box_event ?hg (N := 2) ?hd (cs := #[.int .i8 a0_0, .int .i8 a0_1, .bool a0_2, .bool a0_3]) (t := 26) ?hr ?_; (case hd => rfl); (case hg => rfl); (case hr => first | (go_simp; done) | (go_simp; rfl)); intro gb125 hg w3 hbox hb; have n0_ := Aside0.mk (below_step (by repeat (first | (with_reducible first | exact HB.out | apply below_alloc | apply pw_below_drewN | apply below_drew1) | exact HB.out)) hb); have n1_ := Aside0.mk (hbox); have n2_ := Aside0.mk ((by rw [hg]; exact (below_size (by repeat (first | (with_reducible first | exact HB.out | apply below_alloc | apply pw_below_drewN | apply below_drew1) | exact HB.out))) : w.heap.size ≤ gb125)); have n3_ := Aside0.mk ((by rw [hg]; exact (below_size (by repeat (first | (with_reducible first | exact HB.out | apply below_alloc | apply pw_below_drewN | apply below_drew1) | exact HB.out))) : w.heap.size ≤ gb125)); clear HB; have HB := n0_; have BK125 := n1_; have GW125 := n2_; have GE125 := n3_; clear n0_ n1_ n2_ n3_; clear hb hbox hg) | ((with_reducible refine gate_dst (N := 3) rfl ?_); refine box_event ?hg (N := 3) ?hd (cs := #[.int .i8 a1_0, .int .i8 a1_1, .int .i8 a1_2, .int .i8 a1_3, .int .i8 a1_4, .int .i8 a1_5, .int .i8 a1_6, .int .i8 a1_7, .int .i8 a1_8, .int .i8 a1_9, .int .i8 a1_10, .int .i8 a1_11, .int .i8 a1_12, .int .i8 a1_13]) (t := 31) ?hr ?_; (case hd => rfl); (case hg => rfl); (case hr => first | (go_simp; done) | (go_simp; rfl)); intro gb126 hg w4 hbox hb; have n0_ := Aside0.mk (blk_below (g := gb125) (o := .cells #[.int .i8 a0_0, .int .i8 a0_1, .bool a0_2, .bool a0_3] 26 (0, 0)) (by (with_reducible repeat (first | refine blk_drewN ?_ _ | refine blk_drew ?_ | refine blk_alloc ?_ _)); exact BK125.out) hb); have n1_ := Aside0.mk (below_step (by repeat (first | (with_reducible first | exact HB.out | apply below_alloc | apply pw_below_drewN | apply below_drew1 | refine below_set ?_ GE125.out) | exact HB.out)) hb); have n2_ := Aside0.mk (hbox); have n3_ := Aside0.mk ((by rw [hg]; exact (below_size (by repeat (first | (with_reducible first | exact HB.out | apply below_alloc | apply pw_below_drewN | apply below_drew1 | refine below_set ?_ GE125.out) | exact HB.out))) : w.heap.size ≤ gb126)); have n4_ := Aside0.mk ((by rw [hg]; exact (below_size (by repeat (first | (with_reducible first | exact HB.out | apply below_alloc | apply pw_below_drewN | apply below_drew1 | refine below_set ?_ GE125.out) | exact HB.out))) : w.heap.size ≤ gb126)); have n5_ := Aside0.mk ((by rw [hg]; exact Nat.ne_of_lt (blk_lt (g := gb125) (o := .cells #[.int .i8 a0_0, .int .i8 a0_1, .bool a0_2, .bool a0_3] 26 (0, 0)) (by (with_reducible repeat (first | refine blk_drewN ?_ _ | refine blk_drew ?_ | refine blk_alloc ?_ _)); exact BK125.out)) : gb125 ≠ gb126)); have n6_ := Aside0.mk ((by rw [hg]; exact Nat.ne_of_gt (blk_lt (g := gb125) (o := .cells #[.int .i8 a0_0, .int .i8 a0_1, .bool a0_2, .bool a0_3] 26 (0, 0)) (by (with_reducible repeat (first | refine blk_drewN ?_ _ | refine blk_drew ?_ | refine blk_alloc ?_ _)); exact BK125.out)) : gb126 ≠ gb125)); clear BK125; clear HB; have BK125 := n0_; have HB := n1_; have BK126 := n2_; have GW126 := n3_; have GE126 := n4_; have NB125_126 := n5_; have NB126_125 := n6_; clear n0_ n1_ n2_ n3_ n4_ n5_ n6_; clear hb hbox hg))
  go_loopg [5, 6] k (fun kq v5 v6 w' => ∃ (x5_1 : Int) (x6_1 : Int), v5 = .int .i64 x5_1 ∧ v6 = .int .i64 x6_1 ∧ Aside0 (spec_l03Weighing.l0 kq x5_1 x6_1 a0_0 a0_1 a0_2 a0_3 a1_0 a1_1 a1_2 a1_3 a1_4 a1_5 a1_6 a1_7 a1_8 a1_9 a1_10 a1_11 a1_12 a1_13 = some r) ∧ Aside0 (kq ≤ k) ∧ Aside0 (w'.heap[gb125]? = some (.cells #[.int .i8 a0_0, .int .i8 a0_1, .bool a0_2, .bool a0_3] 26 (0, 0))) ∧ Aside0 (w'.heap[gb126]? = some (.cells #[.int .i8 a1_0, .int .i8 a1_1, .int .i8 a1_2, .int .i8 a1_3, .int .i8 a1_4, .int .i8 a1_5, .int .i8 a1_6, .int .i8 a1_7, .int .i8 a1_8, .int .i8 a1_9, .int .i8 a1_10, .int .i8 a1_11, .int .i8 a1_12, .int .i8 a1_13] 31 (0, 0))) ∧ Aside0 (Below w.heap.size w w'))
  case atStart => exact ⟨(0), (0), (by first | rfl | (simp; done) | (simp [*]; done)), (by first | rfl | (simp; done) | (simp [*]; done)), H', ⟨Nat.le_refl _⟩, ⟨by (with_reducible repeat (first | refine blk_drewN ?_ _ | refine blk_drew ?_ | refine blk_alloc ?_ _)); exact BK125.out⟩, ⟨by (with_reducible repeat (first | refine blk_drewN ?_ _ | refine blk_drew ?_ | refine blk_alloc ?_ _)); exact BK126.out⟩, ⟨by repeat (first | (with_reducible first | exact HB.out | apply below_alloc | apply pw_below_drewN | apply below_drew1 | refine below_set ?_ GE125.out | refine below_set ?_ GE126.out) | exact HB.out)⟩⟩
  case round =>
    clear H'
    try clear p2
    obtain ⟨x5_1, x6_1, rfl, rfl, HA, HK1, BK125, BK126, HB⟩ := hrel
    cases gk with
    | zero => exact absurd HA.out (by simp [spec_l03Weighing.l0])
    | succ k1 =>
      have H := HA.out
      clear HA
      simp only [spec_l03Weighing.l0] at H
      by_cases c5 : x6_1 < 14
      · rw [if_pos c5] at H
        have c5b0 : decide (x6_1 < 14) = true := decide_eq_true c5
        clear c5
        by_cases c6 : 0 ≤ x6_1
        · rw [if_pos c6] at H
          have c6b0 : decide (0 ≤ x6_1) = true := decide_eq_true c6
          clear c6
          by_cases c8 : (rd [a1_0, a1_1, a1_2, a1_3, a1_4, a1_5, a1_6, a1_7, a1_8, a1_9, a1_10, a1_11, a1_12, a1_13] x6_1) < (-1)
          · rw [if_pos c8] at H
            have c8b0 : decide ((rd [a1_0, a1_1, a1_2, a1_3, a1_4, a1_5, a1_6, a1_7, a1_8, a1_9, a1_10, a1_11, a1_12, a1_13] x6_1) < (-1)) = true := decide_eq_true c8
            clear c8
            obtain rfl := Option.some.inj H
            have hnb9 := NB126_125.out
            have hnc9 := NB125_126.out
            have hcz10_0 : wr.cell? ⟨gb126, 0, none⟩ = some (.int .i8 a1_0) := (blk_cell BK126.out 0).trans rfl
            have hcz10_1 : wr.cell? ⟨gb126, 1, none⟩ = some (.int .i8 a1_1) := (blk_cell BK126.out 1).trans rfl
            have hcz10_2 : wr.cell? ⟨gb126, 2, none⟩ = some (.int .i8 a1_2) := (blk_cell BK126.out 2).trans rfl
            have hcz10_3 : wr.cell? ⟨gb126, 3, none⟩ = some (.int .i8 a1_3) := (blk_cell BK126.out 3).trans rfl
            have hcz10_4 : wr.cell? ⟨gb126, 4, none⟩ = some (.int .i8 a1_4) := (blk_cell BK126.out 4).trans rfl
            have hcz10_5 : wr.cell? ⟨gb126, 5, none⟩ = some (.int .i8 a1_5) := (blk_cell BK126.out 5).trans rfl
            have hcz10_6 : wr.cell? ⟨gb126, 6, none⟩ = some (.int .i8 a1_6) := (blk_cell BK126.out 6).trans rfl
            have hcz10_7 : wr.cell? ⟨gb126, 7, none⟩ = some (.int .i8 a1_7) := (blk_cell BK126.out 7).trans rfl
            have hcz10_8 : wr.cell? ⟨gb126, 8, none⟩ = some (.int .i8 a1_8) := (blk_cell BK126.out 8).trans rfl
            have hcz10_9 : wr.cell? ⟨gb126, 9, none⟩ = some (.int .i8 a1_9) := (blk_cell BK126.out 9).trans rfl
            have hcz10_10 : wr.cell? ⟨gb126, 10, none⟩ = some (.int .i8 a1_10) := (blk_cell BK126.out 10).trans rfl
            have hcz10_11 : wr.cell? ⟨gb126, 11, none⟩ = some (.int .i8 a1_11) := (blk_cell BK126.out 11).trans rfl
            have hcz10_12 : wr.cell? ⟨gb126, 12, none⟩ = some (.int .i8 a1_12) := (blk_cell BK126.out 12).trans rfl
            have hcz10_13 : wr.cell? ⟨gb126, 13, none⟩ = some (.int .i8 a1_13) := (blk_cell BK126.out 13).trans rfl
            have hfz10_0 := blk_frozen BK126.out 0
            have hfz10_1 := blk_frozen BK126.out 1
            have hfz10_2 := blk_frozen BK126.out 2
            have hfz10_3 := blk_frozen BK126.out 3
            have hfz10_4 := blk_frozen BK126.out 4
            have hfz10_5 := blk_frozen BK126.out 5
            have hfz10_6 := blk_frozen BK126.out 6
            have hfz10_7 := blk_frozen BK126.out 7
            have hfz10_8 := blk_frozen BK126.out 8
            have hfz10_9 := blk_frozen BK126.out 9
            have hfz10_10 := blk_frozen BK126.out 10
            have hfz10_11 := blk_frozen BK126.out 11
            have hfz10_12 := blk_frozen BK126.out 12
            have hfz10_13 := blk_frozen BK126.out 13
            have p7 : 0 ≤ (x6_1 : Int) := of_decide_eq_true (by first | (with_reducible assumption) | assumption)
            have q7 : (x6_1 : Int) < 14 := of_decide_eq_true (by first | (with_reducible assumption) | assumption)
            have hx7 : wr.cell? ⟨gb126, (x6_1 : Int).toNat, none⟩ = some (.int .i8 (rd [a1_0, a1_1, a1_2, a1_3, a1_4, a1_5, a1_6, a1_7, a1_8, a1_9, a1_10, a1_11, a1_12, a1_13] x6_1)) := ard_cell (k := .i8) (l := [a1_0, a1_1, a1_2, a1_3, a1_4, a1_5, a1_6, a1_7, a1_8, a1_9, a1_10, a1_11, a1_12, a1_13]) BK126.out p7 q7
            have hf7 := blk_frozen BK126.out (x6_1 : Int).toNat
            have P7 := Aside0.mk p7
            replace p7 := eq_true p7
            replace q7 := eq_true q7
            go_wp2
            go_ret
            exact ⟨by first | rfl | (simp [errW_none, errW_some] <;> rfl) | (simp [*, errW_none, errW_some] <;> rfl), by repeat (first | (with_reducible first | exact HB.out | apply below_alloc | apply pw_below_drewN | apply below_drew1 | refine below_set ?_ GE125.out | refine below_set ?_ GE126.out) | exact HB.out)⟩
          · rw [if_neg c8] at H
            have c8b0 : decide ((rd [a1_0, a1_1, a1_2, a1_3, a1_4, a1_5, a1_6, a1_7, a1_8, a1_9, a1_10, a1_11, a1_12, a1_13] x6_1) < (-1)) = false := decide_eq_false c8
            clear c8
            by_cases c12 : (rd [a1_0, a1_1, a1_2, a1_3, a1_4, a1_5, a1_6, a1_7, a1_8, a1_9, a1_10, a1_11, a1_12, a1_13] x6_1) > 1
            · rw [if_pos c12] at H
              have c12b0 : decide (1 < (rd [a1_0, a1_1, a1_2, a1_3, a1_4, a1_5, a1_6, a1_7, a1_8, a1_9, a1_10, a1_11, a1_12, a1_13] x6_1)) = true := decide_eq_true c12
              clear c12
              obtain rfl := Option.some.inj H
              have hnb13 := NB126_125.out
              have hnc13 := NB125_126.out
              have hcz14_0 : wr.cell? ⟨gb126, 0, none⟩ = some (.int .i8 a1_0) := (blk_cell BK126.out 0).trans rfl
              have hcz14_1 : wr.cell? ⟨gb126, 1, none⟩ = some (.int .i8 a1_1) := (blk_cell BK126.out 1).trans rfl
              have hcz14_2 : wr.cell? ⟨gb126, 2, none⟩ = some (.int .i8 a1_2) := (blk_cell BK126.out 2).trans rfl
              have hcz14_3 : wr.cell? ⟨gb126, 3, none⟩ = some (.int .i8 a1_3) := (blk_cell BK126.out 3).trans rfl
              have hcz14_4 : wr.cell? ⟨gb126, 4, none⟩ = some (.int .i8 a1_4) := (blk_cell BK126.out 4).trans rfl
              have hcz14_5 : wr.cell? ⟨gb126, 5, none⟩ = some (.int .i8 a1_5) := (blk_cell BK126.out 5).trans rfl
              have hcz14_6 : wr.cell? ⟨gb126, 6, none⟩ = some (.int .i8 a1_6) := (blk_cell BK126.out 6).trans rfl
              have hcz14_7 : wr.cell? ⟨gb126, 7, none⟩ = some (.int .i8 a1_7) := (blk_cell BK126.out 7).trans rfl
              have hcz14_8 : wr.cell? ⟨gb126, 8, none⟩ = some (.int .i8 a1_8) := (blk_cell BK126.out 8).trans rfl
              have hcz14_9 : wr.cell? ⟨gb126, 9, none⟩ = some (.int .i8 a1_9) := (blk_cell BK126.out 9).trans rfl
              have hcz14_10 : wr.cell? ⟨gb126, 10, none⟩ = some (.int .i8 a1_10) := (blk_cell BK126.out 10).trans rfl
              have hcz14_11 : wr.cell? ⟨gb126, 11, none⟩ = some (.int .i8 a1_11) := (blk_cell BK126.out 11).trans rfl
              have hcz14_12 : wr.cell? ⟨gb126, 12, none⟩ = some (.int .i8 a1_12) := (blk_cell BK126.out 12).trans rfl
              have hcz14_13 : wr.cell? ⟨gb126, 13, none⟩ = some (.int .i8 a1_13) := (blk_cell BK126.out 13).trans rfl
              have hfz14_0 := blk_frozen BK126.out 0
              have hfz14_1 := blk_frozen BK126.out 1
              have hfz14_2 := blk_frozen BK126.out 2
              have hfz14_3 := blk_frozen BK126.out 3
              have hfz14_4 := blk_frozen BK126.out 4
              have hfz14_5 := blk_frozen BK126.out 5
              have hfz14_6 := blk_frozen BK126.out 6
              have hfz14_7 := blk_frozen BK126.out 7
              have hfz14_8 := blk_frozen BK126.out 8
              have hfz14_9 := blk_frozen BK126.out 9
              have hfz14_10 := blk_frozen BK126.out 10
              have hfz14_11 := blk_frozen BK126.out 11
              have hfz14_12 := blk_frozen BK126.out 12
              have hfz14_13 := blk_frozen BK126.out 13
              have p7 : 0 ≤ (x6_1 : Int) := of_decide_eq_true (by first | (with_reducible assumption) | assumption)
              have q7 : (x6_1 : Int) < 14 := of_decide_eq_true (by first | (with_reducible assumption) | assumption)
              have hx7 : wr.cell? ⟨gb126, (x6_1 : Int).toNat, none⟩ = some (.int .i8 (rd [a1_0, a1_1, a1_2, a1_3, a1_4, a1_5, a1_6, a1_7, a1_8, a1_9, a1_10, a1_11, a1_12, a1_13] x6_1)) := ard_cell (k := .i8) (l := [a1_0, a1_1, a1_2, a1_3, a1_4, a1_5, a1_6, a1_7, a1_8, a1_9, a1_10, a1_11, a1_12, a1_13]) BK126.out p7 q7
              have hf7 := blk_frozen BK126.out (x6_1 : Int).toNat
              have P7 := Aside0.mk p7
              replace p7 := eq_true p7
              replace q7 := eq_true q7
              have p11 : 0 ≤ (x6_1 : Int) := of_decide_eq_true (by first | (with_reducible assumption) | assumption)
              have q11 : (x6_1 : Int) < 14 := of_decide_eq_true (by first | (with_reducible assumption) | assumption)
              have hx11 : wr.cell? ⟨gb126, (x6_1 : Int).toNat, none⟩ = some (.int .i8 (rd [a1_0, a1_1, a1_2, a1_3, a1_4, a1_5, a1_6, a1_7, a1_8, a1_9, a1_10, a1_11, a1_12, a1_13] x6_1)) := ard_cell (k := .i8) (l := [a1_0, a1_1, a1_2, a1_3, a1_4, a1_5, a1_6, a1_7, a1_8, a1_9, a1_10, a1_11, a1_12, a1_13]) BK126.out p11 q11
              have hf11 := blk_frozen BK126.out (x6_1 : Int).toNat
              have P11 := Aside0.mk p11
              replace p11 := eq_true p11
              replace q11 := eq_true q11
              go_wp2
              go_ret
              exact ⟨by first | rfl | (simp [errW_none, errW_some] <;> rfl) | (simp [*, errW_none, errW_some] <;> rfl), by repeat (first | (with_reducible first | exact HB.out | apply below_alloc | apply pw_below_drewN | apply below_drew1 | refine below_set ?_ GE125.out | refine below_set ?_ GE126.out) | exact HB.out)⟩
            · rw [if_neg c12] at H
              have c12b0 : decide (1 < (rd [a1_0, a1_1, a1_2, a1_3, a1_4, a1_5, a1_6, a1_7, a1_8, a1_9, a1_10, a1_11, a1_12, a1_13] x6_1)) = false := decide_eq_false c12
              clear c12
              by_cases c16 : (rd [a1_0, a1_1, a1_2, a1_3, a1_4, a1_5, a1_6, a1_7, a1_8, a1_9, a1_10, a1_11, a1_12, a1_13] x6_1) = 0
              · rw [if_pos c16] at H
                have c16b0 : ((rd [a1_0, a1_1, a1_2, a1_3, a1_4, a1_5, a1_6, a1_7, a1_8, a1_9, a1_10, a1_11, a1_12, a1_13] x6_1) == 0) = true := beq_iff_eq.mpr c16
                have c16b1 : ((rd [a1_0, a1_1, a1_2, a1_3, a1_4, a1_5, a1_6, a1_7, a1_8, a1_9, a1_10, a1_11, a1_12, a1_13] x6_1) != 0) = false := bne_eq_false_iff_eq.mpr c16
                clear c16
                have H' := Aside0.mk H
                clear H
                have hnb18 := NB126_125.out
                have hnc18 := NB125_126.out
                have hcz19_0 : wr.cell? ⟨gb126, 0, none⟩ = some (.int .i8 a1_0) := (blk_cell BK126.out 0).trans rfl
                have hcz19_1 : wr.cell? ⟨gb126, 1, none⟩ = some (.int .i8 a1_1) := (blk_cell BK126.out 1).trans rfl
                have hcz19_2 : wr.cell? ⟨gb126, 2, none⟩ = some (.int .i8 a1_2) := (blk_cell BK126.out 2).trans rfl
                have hcz19_3 : wr.cell? ⟨gb126, 3, none⟩ = some (.int .i8 a1_3) := (blk_cell BK126.out 3).trans rfl
                have hcz19_4 : wr.cell? ⟨gb126, 4, none⟩ = some (.int .i8 a1_4) := (blk_cell BK126.out 4).trans rfl
                have hcz19_5 : wr.cell? ⟨gb126, 5, none⟩ = some (.int .i8 a1_5) := (blk_cell BK126.out 5).trans rfl
                have hcz19_6 : wr.cell? ⟨gb126, 6, none⟩ = some (.int .i8 a1_6) := (blk_cell BK126.out 6).trans rfl
                have hcz19_7 : wr.cell? ⟨gb126, 7, none⟩ = some (.int .i8 a1_7) := (blk_cell BK126.out 7).trans rfl
                have hcz19_8 : wr.cell? ⟨gb126, 8, none⟩ = some (.int .i8 a1_8) := (blk_cell BK126.out 8).trans rfl
                have hcz19_9 : wr.cell? ⟨gb126, 9, none⟩ = some (.int .i8 a1_9) := (blk_cell BK126.out 9).trans rfl
                have hcz19_10 : wr.cell? ⟨gb126, 10, none⟩ = some (.int .i8 a1_10) := (blk_cell BK126.out 10).trans rfl
                have hcz19_11 : wr.cell? ⟨gb126, 11, none⟩ = some (.int .i8 a1_11) := (blk_cell BK126.out 11).trans rfl
                have hcz19_12 : wr.cell? ⟨gb126, 12, none⟩ = some (.int .i8 a1_12) := (blk_cell BK126.out 12).trans rfl
                have hcz19_13 : wr.cell? ⟨gb126, 13, none⟩ = some (.int .i8 a1_13) := (blk_cell BK126.out 13).trans rfl
                have hfz19_0 := blk_frozen BK126.out 0
                have hfz19_1 := blk_frozen BK126.out 1
                have hfz19_2 := blk_frozen BK126.out 2
                have hfz19_3 := blk_frozen BK126.out 3
                have hfz19_4 := blk_frozen BK126.out 4
                have hfz19_5 := blk_frozen BK126.out 5
                have hfz19_6 := blk_frozen BK126.out 6
                have hfz19_7 := blk_frozen BK126.out 7
                have hfz19_8 := blk_frozen BK126.out 8
                have hfz19_9 := blk_frozen BK126.out 9
                have hfz19_10 := blk_frozen BK126.out 10
                have hfz19_11 := blk_frozen BK126.out 11
                have hfz19_12 := blk_frozen BK126.out 12
                have hfz19_13 := blk_frozen BK126.out 13
                have p7 : 0 ≤ (x6_1 : Int) := of_decide_eq_true (by first | (with_reducible assumption) | assumption)
                have q7 : (x6_1 : Int) < 14 := of_decide_eq_true (by first | (with_reducible assumption) | assumption)
                have hx7 : wr.cell? ⟨gb126, (x6_1 : Int).toNat, none⟩ = some (.int .i8 (rd [a1_0, a1_1, a1_2, a1_3, a1_4, a1_5, a1_6, a1_7, a1_8, a1_9, a1_10, a1_11, a1_12, a1_13] x6_1)) := ard_cell (k := .i8) (l := [a1_0, a1_1, a1_2, a1_3, a1_4, a1_5, a1_6, a1_7, a1_8, a1_9, a1_10, a1_11, a1_12, a1_13]) BK126.out p7 q7
                have hf7 := blk_frozen BK126.out (x6_1 : Int).toNat
                have P7 := Aside0.mk p7
                replace p7 := eq_true p7
                replace q7 := eq_true q7
                have p11 : 0 ≤ (x6_1 : Int) := of_decide_eq_true (by first | (with_reducible assumption) | assumption)
                have q11 : (x6_1 : Int) < 14 := of_decide_eq_true (by first | (with_reducible assumption) | assumption)
                have hx11 : wr.cell? ⟨gb126, (x6_1 : Int).toNat, none⟩ = some (.int .i8 (rd [a1_0, a1_1, a1_2, a1_3, a1_4, a1_5, a1_6, a1_7, a1_8, a1_9, a1_10, a1_11, a1_12, a1_13] x6_1)) := ard_cell (k := .i8) (l := [a1_0, a1_1, a1_2, a1_3, a1_4, a1_5, a1_6, a1_7, a1_8, a1_9, a1_10, a1_11, a1_12, a1_13]) BK126.out p11 q11
                have hf11 := blk_frozen BK126.out (x6_1 : Int).toNat
                have P11 := Aside0.mk p11
                replace p11 := eq_true p11
                replace q11 := eq_true q11
                have p15 : 0 ≤ (x6_1 : Int) := of_decide_eq_true (by first | (with_reducible assumption) | assumption)
                have q15 : (x6_1 : Int) < 14 := of_decide_eq_true (by first | (with_reducible assumption) | assumption)
                have hx15 : wr.cell? ⟨gb126, (x6_1 : Int).toNat, none⟩ = some (.int .i8 (rd [a1_0, a1_1, a1_2, a1_3, a1_4, a1_5, a1_6, a1_7, a1_8, a1_9, a1_10, a1_11, a1_12, a1_13] x6_1)) := ard_cell (k := .i8) (l := [a1_0, a1_1, a1_2, a1_3, a1_4, a1_5, a1_6, a1_7, a1_8, a1_9, a1_10, a1_11, a1_12, a1_13]) BK126.out p15 q15
                have hf15 := blk_frozen BK126.out (x6_1 : Int).toNat
                have P15 := Aside0.mk p15
                replace p15 := eq_true p15
                replace q15 := eq_true q15
                have p17 : 0 ≤ (x6_1 : Int) := of_decide_eq_true (by first | (with_reducible assumption) | assumption)
                have q17 : (x6_1 : Int) < 14 := of_decide_eq_true (by first | (with_reducible assumption) | assumption)
                have hx17 : wr.cell? ⟨gb126, (x6_1 : Int).toNat, none⟩ = some (.int .i8 (rd [a1_0, a1_1, a1_2, a1_3, a1_4, a1_5, a1_6, a1_7, a1_8, a1_9, a1_10, a1_11, a1_12, a1_13] x6_1)) := ard_cell (k := .i8) (l := [a1_0, a1_1, a1_2, a1_3, a1_4, a1_5, a1_6, a1_7, a1_8, a1_9, a1_10, a1_11, a1_12, a1_13]) BK126.out p17 q17
                have hf17 := blk_frozen BK126.out (x6_1 : Int).toNat
                have P17 := Aside0.mk p17
                replace p17 := eq_true p17
                replace q17 := eq_true q17
                go_wp2
                go_roundg k1
                case measure => have := HK1.out; omega
                case rel => exact ⟨(wrap64 (x5_1 + (wrap64 (rd [a1_0, a1_1, a1_2, a1_3, a1_4, a1_5, a1_6, a1_7, a1_8, a1_9, a1_10, a1_11, a1_12, a1_13] x6_1)))), (wrap64 (x6_1 + 1)), (by first | rfl | (simp; done) | (simp [*]; done)), (by first | rfl | (simp; done) | (simp [*]; done)), H', ⟨by have := HK1.out; omega⟩, ⟨by (with_reducible repeat (first | refine blk_drewN ?_ _ | refine blk_drew ?_ | refine blk_alloc ?_ _)); exact BK125.out⟩, ⟨by (with_reducible repeat (first | refine blk_drewN ?_ _ | refine blk_drew ?_ | refine blk_alloc ?_ _)); exact BK126.out⟩, ⟨by repeat (first | (with_reducible first | exact HB.out | apply below_alloc | apply pw_below_drewN | apply below_drew1 | refine below_set ?_ GE125.out | refine below_set ?_ GE126.out) | exact HB.out)⟩⟩
              · rw [if_neg c16] at H
                have c16b0 : ((rd [a1_0, a1_1, a1_2, a1_3, a1_4, a1_5, a1_6, a1_7, a1_8, a1_9, a1_10, a1_11, a1_12, a1_13] x6_1) == 0) = false := beq_eq_false_iff_ne.mpr c16
                have c16b1 : ((rd [a1_0, a1_1, a1_2, a1_3, a1_4, a1_5, a1_6, a1_7, a1_8, a1_9, a1_10, a1_11, a1_12, a1_13] x6_1) != 0) = true := bne_iff_ne.mpr c16
                replace H := Option.bind_eq_some_iff.mp H
                obtain ⟨t127, A200, H⟩ := H
                replace H : (if t127 = true then (spec_l03Weighing.l0 k1 (wrap64 (x5_1 + (wrap64 (rd [a1_0, a1_1, a1_2, a1_3, a1_4, a1_5, a1_6, a1_7, a1_8, a1_9, a1_10, a1_11, a1_12, a1_13] x6_1)))) (wrap64 (x6_1 + 1)) a0_0 a0_1 a0_2 a0_3 a1_0 a1_1 a1_2 a1_3 a1_4 a1_5 a1_6 a1_7 a1_8 a1_9 a1_10 a1_11 a1_12 a1_13) else (some false)) = some r := H
                have A20 := Aside0.mk A200
                clear A200
                by_cases c21 : t127 = true
                · subst c21
                  have H1 : (spec_l03Weighing.l0 k1 (wrap64 (x5_1 + (wrap64 (rd [a1_0, a1_1, a1_2, a1_3, a1_4, a1_5, a1_6, a1_7, a1_8, a1_9, a1_10, a1_11, a1_12, a1_13] x6_1)))) (wrap64 (x6_1 + 1)) a0_0 a0_1 a0_2 a0_3 a1_0 a1_1 a1_2 a1_3 a1_4 a1_5 a1_6 a1_7 a1_8 a1_9 a1_10 a1_11 a1_12 a1_13) = some r := by rw [if_pos rfl] at H; exact H
                  clear H
                  have H := H1
                  clear H1
                  have H' := Aside0.mk H
                  clear H
                  have hnb23 := NB126_125.out
                  have hnc23 := NB125_126.out
                  have hcz24_0 : wr.cell? ⟨gb126, 0, none⟩ = some (.int .i8 a1_0) := (blk_cell BK126.out 0).trans rfl
                  have hcz24_1 : wr.cell? ⟨gb126, 1, none⟩ = some (.int .i8 a1_1) := (blk_cell BK126.out 1).trans rfl
                  have hcz24_2 : wr.cell? ⟨gb126, 2, none⟩ = some (.int .i8 a1_2) := (blk_cell BK126.out 2).trans rfl
                  have hcz24_3 : wr.cell? ⟨gb126, 3, none⟩ = some (.int .i8 a1_3) := (blk_cell BK126.out 3).trans rfl
                  have hcz24_4 : wr.cell? ⟨gb126, 4, none⟩ = some (.int .i8 a1_4) := (blk_cell BK126.out 4).trans rfl
                  have hcz24_5 : wr.cell? ⟨gb126, 5, none⟩ = some (.int .i8 a1_5) := (blk_cell BK126.out 5).trans rfl
                  have hcz24_6 : wr.cell? ⟨gb126, 6, none⟩ = some (.int .i8 a1_6) := (blk_cell BK126.out 6).trans rfl
                  have hcz24_7 : wr.cell? ⟨gb126, 7, none⟩ = some (.int .i8 a1_7) := (blk_cell BK126.out 7).trans rfl
                  have hcz24_8 : wr.cell? ⟨gb126, 8, none⟩ = some (.int .i8 a1_8) := (blk_cell BK126.out 8).trans rfl
                  have hcz24_9 : wr.cell? ⟨gb126, 9, none⟩ = some (.int .i8 a1_9) := (blk_cell BK126.out 9).trans rfl
                  have hcz24_10 : wr.cell? ⟨gb126, 10, none⟩ = some (.int .i8 a1_10) := (blk_cell BK126.out 10).trans rfl
                  have hcz24_11 : wr.cell? ⟨gb126, 11, none⟩ = some (.int .i8 a1_11) := (blk_cell BK126.out 11).trans rfl
                  have hcz24_12 : wr.cell? ⟨gb126, 12, none⟩ = some (.int .i8 a1_12) := (blk_cell BK126.out 12).trans rfl
                  have hcz24_13 : wr.cell? ⟨gb126, 13, none⟩ = some (.int .i8 a1_13) := (blk_cell BK126.out 13).trans rfl
                  have hfz24_0 := blk_frozen BK126.out 0
                  have hfz24_1 := blk_frozen BK126.out 1
                  have hfz24_2 := blk_frozen BK126.out 2
                  have hfz24_3 := blk_frozen BK126.out 3
                  have hfz24_4 := blk_frozen BK126.out 4
                  have hfz24_5 := blk_frozen BK126.out 5
                  have hfz24_6 := blk_frozen BK126.out 6
                  have hfz24_7 := blk_frozen BK126.out 7
                  have hfz24_8 := blk_frozen BK126.out 8
                  have hfz24_9 := blk_frozen BK126.out 9
                  have hfz24_10 := blk_frozen BK126.out 10
                  have hfz24_11 := blk_frozen BK126.out 11
                  have hfz24_12 := blk_frozen BK126.out 12
                  have hfz24_13 := blk_frozen BK126.out 13
                  have p7 : 0 ≤ (x6_1 : Int) := of_decide_eq_true (by first | (with_reducible assumption) | assumption)
                  have q7 : (x6_1 : Int) < 14 := of_decide_eq_true (by first | (with_reducible assumption) | assumption)
                  have hx7 : wr.cell? ⟨gb126, (x6_1 : Int).toNat, none⟩ = some (.int .i8 (rd [a1_0, a1_1, a1_2, a1_3, a1_4, a1_5, a1_6, a1_7, a1_8, a1_9, a1_10, a1_11, a1_12, a1_13] x6_1)) := ard_cell (k := .i8) (l := [a1_0, a1_1, a1_2, a1_3, a1_4, a1_5, a1_6, a1_7, a1_8, a1_9, a1_10, a1_11, a1_12, a1_13]) BK126.out p7 q7
                  have hf7 := blk_frozen BK126.out (x6_1 : Int).toNat
                  have P7 := Aside0.mk p7
                  replace p7 := eq_true p7
                  replace q7 := eq_true q7
                  have p11 : 0 ≤ (x6_1 : Int) := of_decide_eq_true (by first | (with_reducible assumption) | assumption)
                  have q11 : (x6_1 : Int) < 14 := of_decide_eq_true (by first | (with_reducible assumption) | assumption)
                  have hx11 : wr.cell? ⟨gb126, (x6_1 : Int).toNat, none⟩ = some (.int .i8 (rd [a1_0, a1_1, a1_2, a1_3, a1_4, a1_5, a1_6, a1_7, a1_8, a1_9, a1_10, a1_11, a1_12, a1_13] x6_1)) := ard_cell (k := .i8) (l := [a1_0, a1_1, a1_2, a1_3, a1_4, a1_5, a1_6, a1_7, a1_8, a1_9, a1_10, a1_11, a1_12, a1_13]) BK126.out p11 q11
                  have hf11 := blk_frozen BK126.out (x6_1 : Int).toNat
                  have P11 := Aside0.mk p11
                  replace p11 := eq_true p11
                  replace q11 := eq_true q11
                  have p15 : 0 ≤ (x6_1 : Int) := of_decide_eq_true (by first | (with_reducible assumption) | assumption)
                  have q15 : (x6_1 : Int) < 14 := of_decide_eq_true (by first | (with_reducible assumption) | assumption)
                  have hx15 : wr.cell? ⟨gb126, (x6_1 : Int).toNat, none⟩ = some (.int .i8 (rd [a1_0, a1_1, a1_2, a1_3, a1_4, a1_5, a1_6, a1_7, a1_8, a1_9, a1_10, a1_11, a1_12, a1_13] x6_1)) := ard_cell (k := .i8) (l := [a1_0, a1_1, a1_2, a1_3, a1_4, a1_5, a1_6, a1_7, a1_8, a1_9, a1_10, a1_11, a1_12, a1_13]) BK126.out p15 q15
                  have hf15 := blk_frozen BK126.out (x6_1 : Int).toNat
                  have P15 := Aside0.mk p15
                  replace p15 := eq_true p15
                  replace q15 := eq_true q15
                  have hcz25_0 : wr.cell? ⟨gb125, 0, none⟩ = some (.int .i8 a0_0) := (blk_cell BK125.out 0).trans rfl
                  have hcz25_1 : wr.cell? ⟨gb125, 1, none⟩ = some (.int .i8 a0_1) := (blk_cell BK125.out 1).trans rfl
                  have hcz25_2 : wr.cell? ⟨gb125, 2, none⟩ = some (.bool a0_2) := (blk_cell BK125.out 2).trans rfl
                  have hcz25_3 : wr.cell? ⟨gb125, 3, none⟩ = some (.bool a0_3) := (blk_cell BK125.out 3).trans rfl
                  have hfz25_0 := blk_frozen BK125.out 0
                  have hfz25_1 := blk_frozen BK125.out 1
                  have hfz25_2 := blk_frozen BK125.out 2
                  have hfz25_3 := blk_frozen BK125.out 3
                  go_wp2_with (first | (go_at_call 72; (with_reducible refine (spec_l03There.calls a0_0 a0_1 a0_2 a0_3 x6_1 true _ A20.out).mono ?_); rintro e w26 ⟨rfl, hb⟩; have n0_ := Aside0.mk (blk_below (g := gb125) (o := .cells #[.int .i8 a0_0, .int .i8 a0_1, .bool a0_2, .bool a0_3] 26 (0, 0)) (by (with_reducible repeat (first | refine blk_drewN ?_ _ | refine blk_drew ?_ | refine blk_alloc ?_ _)); exact BK125.out) hb); have n1_ := Aside0.mk (blk_below (g := gb126) (o := .cells #[.int .i8 a1_0, .int .i8 a1_1, .int .i8 a1_2, .int .i8 a1_3, .int .i8 a1_4, .int .i8 a1_5, .int .i8 a1_6, .int .i8 a1_7, .int .i8 a1_8, .int .i8 a1_9, .int .i8 a1_10, .int .i8 a1_11, .int .i8 a1_12, .int .i8 a1_13] 31 (0, 0)) (by (with_reducible repeat (first | refine blk_drewN ?_ _ | refine blk_drew ?_ | refine blk_alloc ?_ _)); exact BK126.out) hb); have n2_ := Aside0.mk (below_step (by repeat (first | (with_reducible first | exact HB.out | apply below_alloc | apply pw_below_drewN | apply below_drew1 | refine below_set ?_ GE125.out | refine below_set ?_ GE126.out) | exact HB.out)) hb); clear BK125; clear BK126; clear HB; have BK125 := n0_; have BK126 := n1_; have HB := n2_; clear n0_ n1_ n2_; (try clear hb); (try clear hb2); (try clear hk); (try clear hi); have hcz27_0 : w26.cell? ⟨gb126, 0, none⟩ = some (.int .i8 a1_0) := (blk_cell BK126.out 0).trans rfl; have hcz27_1 : w26.cell? ⟨gb126, 1, none⟩ = some (.int .i8 a1_1) := (blk_cell BK126.out 1).trans rfl; have hcz27_2 : w26.cell? ⟨gb126, 2, none⟩ = some (.int .i8 a1_2) := (blk_cell BK126.out 2).trans rfl; have hcz27_3 : w26.cell? ⟨gb126, 3, none⟩ = some (.int .i8 a1_3) := (blk_cell BK126.out 3).trans rfl; have hcz27_4 : w26.cell? ⟨gb126, 4, none⟩ = some (.int .i8 a1_4) := (blk_cell BK126.out 4).trans rfl; have hcz27_5 : w26.cell? ⟨gb126, 5, none⟩ = some (.int .i8 a1_5) := (blk_cell BK126.out 5).trans rfl; have hcz27_6 : w26.cell? ⟨gb126, 6, none⟩ = some (.int .i8 a1_6) := (blk_cell BK126.out 6).trans rfl; have hcz27_7 : w26.cell? ⟨gb126, 7, none⟩ = some (.int .i8 a1_7) := (blk_cell BK126.out 7).trans rfl; have hcz27_8 : w26.cell? ⟨gb126, 8, none⟩ = some (.int .i8 a1_8) := (blk_cell BK126.out 8).trans rfl; have hcz27_9 : w26.cell? ⟨gb126, 9, none⟩ = some (.int .i8 a1_9) := (blk_cell BK126.out 9).trans rfl; have hcz27_10 : w26.cell? ⟨gb126, 10, none⟩ = some (.int .i8 a1_10) := (blk_cell BK126.out 10).trans rfl; have hcz27_11 : w26.cell? ⟨gb126, 11, none⟩ = some (.int .i8 a1_11) := (blk_cell BK126.out 11).trans rfl; have hcz27_12 : w26.cell? ⟨gb126, 12, none⟩ = some (.int .i8 a1_12) := (blk_cell BK126.out 12).trans rfl; have hcz27_13 : w26.cell? ⟨gb126, 13, none⟩ = some (.int .i8 a1_13) := (blk_cell BK126.out 13).trans rfl; have hfz27_0 := blk_frozen BK126.out 0; have hfz27_1 := blk_frozen BK126.out 1; have hfz27_2 := blk_frozen BK126.out 2; have hfz27_3 := blk_frozen BK126.out 3; have hfz27_4 := blk_frozen BK126.out 4; have hfz27_5 := blk_frozen BK126.out 5; have hfz27_6 := blk_frozen BK126.out 6; have hfz27_7 := blk_frozen BK126.out 7; have hfz27_8 := blk_frozen BK126.out 8; have hfz27_9 := blk_frozen BK126.out 9; have hfz27_10 := blk_frozen BK126.out 10; have hfz27_11 := blk_frozen BK126.out 11; have hfz27_12 := blk_frozen BK126.out 12; have hfz27_13 := blk_frozen BK126.out 13; have p22 : 0 ≤ (x6_1 : Int) := of_decide_eq_true (by first | (with_reducible assumption) | assumption); have q22 : (x6_1 : Int) < 14 := of_decide_eq_true (by first | (with_reducible assumption) | assumption); have hx22 : w26.cell? ⟨gb126, (x6_1 : Int).toNat, none⟩ = some (.int .i8 (rd [a1_0, a1_1, a1_2, a1_3, a1_4, a1_5, a1_6, a1_7, a1_8, a1_9, a1_10, a1_11, a1_12, a1_13] x6_1)) := ard_cell (k := .i8) (l := [a1_0, a1_1, a1_2, a1_3, a1_4, a1_5, a1_6, a1_7, a1_8, a1_9, a1_10, a1_11, a1_12, a1_13]) BK126.out p22 q22; have hf22 := blk_frozen BK126.out (x6_1 : Int).toNat; have P22 := Aside0.mk p22; replace p22 := eq_true p22; replace q22 := eq_true q22))
                  go_roundg k1
                  case measure => have := HK1.out; omega
                  case rel => exact ⟨(wrap64 (x5_1 + (wrap64 (rd [a1_0, a1_1, a1_2, a1_3, a1_4, a1_5, a1_6, a1_7, a1_8, a1_9, a1_10, a1_11, a1_12, a1_13] x6_1)))), (wrap64 (x6_1 + 1)), (by first | rfl | (simp; done) | (simp [*]; done)), (by first | rfl | (simp; done) | (simp [*]; done)), H', ⟨by have := HK1.out; omega⟩, ⟨by (with_reducible repeat (first | refine blk_drewN ?_ _ | refine blk_drew ?_ | refine blk_alloc ?_ _)); exact BK125.out⟩, ⟨by (with_reducible repeat (first | refine blk_drewN ?_ _ | refine blk_drew ?_ | refine blk_alloc ?_ _)); exact BK126.out⟩, ⟨by repeat (first | (with_reducible first | exact HB.out | apply below_alloc | apply pw_below_drewN | apply below_drew1 | refine below_set ?_ GE125.out | refine below_set ?_ GE126.out) | exact HB.out)⟩⟩
                · replace c21 := Bool.eq_false_iff.mpr c21
                  subst c21
                  have H1 : (some false) = some r := by rw [if_neg (show ¬ (false = true) by decide)] at H; exact H
                  clear H
                  have H := H1
                  clear H1
                  obtain rfl := Option.some.inj H
                  have hnb28 := NB126_125.out
                  have hnc28 := NB125_126.out
                  have hcz29_0 : wr.cell? ⟨gb126, 0, none⟩ = some (.int .i8 a1_0) := (blk_cell BK126.out 0).trans rfl
                  have hcz29_1 : wr.cell? ⟨gb126, 1, none⟩ = some (.int .i8 a1_1) := (blk_cell BK126.out 1).trans rfl
                  have hcz29_2 : wr.cell? ⟨gb126, 2, none⟩ = some (.int .i8 a1_2) := (blk_cell BK126.out 2).trans rfl
                  have hcz29_3 : wr.cell? ⟨gb126, 3, none⟩ = some (.int .i8 a1_3) := (blk_cell BK126.out 3).trans rfl
                  have hcz29_4 : wr.cell? ⟨gb126, 4, none⟩ = some (.int .i8 a1_4) := (blk_cell BK126.out 4).trans rfl
                  have hcz29_5 : wr.cell? ⟨gb126, 5, none⟩ = some (.int .i8 a1_5) := (blk_cell BK126.out 5).trans rfl
                  have hcz29_6 : wr.cell? ⟨gb126, 6, none⟩ = some (.int .i8 a1_6) := (blk_cell BK126.out 6).trans rfl
                  have hcz29_7 : wr.cell? ⟨gb126, 7, none⟩ = some (.int .i8 a1_7) := (blk_cell BK126.out 7).trans rfl
                  have hcz29_8 : wr.cell? ⟨gb126, 8, none⟩ = some (.int .i8 a1_8) := (blk_cell BK126.out 8).trans rfl
                  have hcz29_9 : wr.cell? ⟨gb126, 9, none⟩ = some (.int .i8 a1_9) := (blk_cell BK126.out 9).trans rfl
                  have hcz29_10 : wr.cell? ⟨gb126, 10, none⟩ = some (.int .i8 a1_10) := (blk_cell BK126.out 10).trans rfl
                  have hcz29_11 : wr.cell? ⟨gb126, 11, none⟩ = some (.int .i8 a1_11) := (blk_cell BK126.out 11).trans rfl
                  have hcz29_12 : wr.cell? ⟨gb126, 12, none⟩ = some (.int .i8 a1_12) := (blk_cell BK126.out 12).trans rfl
                  have hcz29_13 : wr.cell? ⟨gb126, 13, none⟩ = some (.int .i8 a1_13) := (blk_cell BK126.out 13).trans rfl
                  have hfz29_0 := blk_frozen BK126.out 0
                  have hfz29_1 := blk_frozen BK126.out 1
                  have hfz29_2 := blk_frozen BK126.out 2
                  have hfz29_3 := blk_frozen BK126.out 3
                  have hfz29_4 := blk_frozen BK126.out 4
                  have hfz29_5 := blk_frozen BK126.out 5
                  have hfz29_6 := blk_frozen BK126.out 6
                  have hfz29_7 := blk_frozen BK126.out 7
                  have hfz29_8 := blk_frozen BK126.out 8
                  have hfz29_9 := blk_frozen BK126.out 9
                  have hfz29_10 := blk_frozen BK126.out 10
                  have hfz29_11 := blk_frozen BK126.out 11
                  have hfz29_12 := blk_frozen BK126.out 12
                  have hfz29_13 := blk_frozen BK126.out 13
                  have p7 : 0 ≤ (x6_1 : Int) := of_decide_eq_true (by first | (with_reducible assumption) | assumption)
                  have q7 : (x6_1 : Int) < 14 := of_decide_eq_true (by first | (with_reducible assumption) | assumption)
                  have hx7 : wr.cell? ⟨gb126, (x6_1 : Int).toNat, none⟩ = some (.int .i8 (rd [a1_0, a1_1, a1_2, a1_3, a1_4, a1_5, a1_6, a1_7, a1_8, a1_9, a1_10, a1_11, a1_12, a1_13] x6_1)) := ard_cell (k := .i8) (l := [a1_0, a1_1, a1_2, a1_3, a1_4, a1_5, a1_6, a1_7, a1_8, a1_9, a1_10, a1_11, a1_12, a1_13]) BK126.out p7 q7
                  have hf7 := blk_frozen BK126.out (x6_1 : Int).toNat
                  have P7 := Aside0.mk p7
                  replace p7 := eq_true p7
                  replace q7 := eq_true q7
                  have p11 : 0 ≤ (x6_1 : Int) := of_decide_eq_true (by first | (with_reducible assumption) | assumption)
                  have q11 : (x6_1 : Int) < 14 := of_decide_eq_true (by first | (with_reducible assumption) | assumption)
                  have hx11 : wr.cell? ⟨gb126, (x6_1 : Int).toNat, none⟩ = some (.int .i8 (rd [a1_0, a1_1, a1_2, a1_3, a1_4, a1_5, a1_6, a1_7, a1_8, a1_9, a1_10, a1_11, a1_12, a1_13] x6_1)) := ard_cell (k := .i8) (l := [a1_0, a1_1, a1_2, a1_3, a1_4, a1_5, a1_6, a1_7, a1_8, a1_9, a1_10, a1_11, a1_12, a1_13]) BK126.out p11 q11
                  have hf11 := blk_frozen BK126.out (x6_1 : Int).toNat
                  have P11 := Aside0.mk p11
                  replace p11 := eq_true p11
                  replace q11 := eq_true q11
                  have p15 : 0 ≤ (x6_1 : Int) := of_decide_eq_true (by first | (with_reducible assumption) | assumption)
                  have q15 : (x6_1 : Int) < 14 := of_decide_eq_true (by first | (with_reducible assumption) | assumption)
                  have hx15 : wr.cell? ⟨gb126, (x6_1 : Int).toNat, none⟩ = some (.int .i8 (rd [a1_0, a1_1, a1_2, a1_3, a1_4, a1_5, a1_6, a1_7, a1_8, a1_9, a1_10, a1_11, a1_12, a1_13] x6_1)) := ard_cell (k := .i8) (l := [a1_0, a1_1, a1_2, a1_3, a1_4, a1_5, a1_6, a1_7, a1_8, a1_9, a1_10, a1_11, a1_12, a1_13]) BK126.out p15 q15
                  have hf15 := blk_frozen BK126.out (x6_1 : Int).toNat
                  have P15 := Aside0.mk p15
                  replace p15 := eq_true p15
                  replace q15 := eq_true q15
                  have hcz30_0 : wr.cell? ⟨gb125, 0, none⟩ = some (.int .i8 a0_0) := (blk_cell BK125.out 0).trans rfl
                  have hcz30_1 : wr.cell? ⟨gb125, 1, none⟩ = some (.int .i8 a0_1) := (blk_cell BK125.out 1).trans rfl
                  have hcz30_2 : wr.cell? ⟨gb125, 2, none⟩ = some (.bool a0_2) := (blk_cell BK125.out 2).trans rfl
                  have hcz30_3 : wr.cell? ⟨gb125, 3, none⟩ = some (.bool a0_3) := (blk_cell BK125.out 3).trans rfl
                  have hfz30_0 := blk_frozen BK125.out 0
                  have hfz30_1 := blk_frozen BK125.out 1
                  have hfz30_2 := blk_frozen BK125.out 2
                  have hfz30_3 := blk_frozen BK125.out 3
                  go_wp2_with (first | (go_at_call 72; (with_reducible refine (spec_l03There.calls a0_0 a0_1 a0_2 a0_3 x6_1 false _ A20.out).mono ?_); rintro e w31 ⟨rfl, hb⟩; have n0_ := Aside0.mk (blk_below (g := gb125) (o := .cells #[.int .i8 a0_0, .int .i8 a0_1, .bool a0_2, .bool a0_3] 26 (0, 0)) (by (with_reducible repeat (first | refine blk_drewN ?_ _ | refine blk_drew ?_ | refine blk_alloc ?_ _)); exact BK125.out) hb); have n1_ := Aside0.mk (blk_below (g := gb126) (o := .cells #[.int .i8 a1_0, .int .i8 a1_1, .int .i8 a1_2, .int .i8 a1_3, .int .i8 a1_4, .int .i8 a1_5, .int .i8 a1_6, .int .i8 a1_7, .int .i8 a1_8, .int .i8 a1_9, .int .i8 a1_10, .int .i8 a1_11, .int .i8 a1_12, .int .i8 a1_13] 31 (0, 0)) (by (with_reducible repeat (first | refine blk_drewN ?_ _ | refine blk_drew ?_ | refine blk_alloc ?_ _)); exact BK126.out) hb); have n2_ := Aside0.mk (below_step (by repeat (first | (with_reducible first | exact HB.out | apply below_alloc | apply pw_below_drewN | apply below_drew1 | refine below_set ?_ GE125.out | refine below_set ?_ GE126.out) | exact HB.out)) hb); clear BK125; clear BK126; clear HB; have BK125 := n0_; have BK126 := n1_; have HB := n2_; clear n0_ n1_ n2_; (try clear hb); (try clear hb2); (try clear hk); (try clear hi)))
                  go_ret
                  exact ⟨by first | rfl | (simp [errW_none, errW_some] <;> rfl) | (simp [*, errW_none, errW_some] <;> rfl), by repeat (first | (with_reducible first | exact HB.out | apply below_alloc | apply pw_below_drewN | apply below_drew1 | refine below_set ?_ GE125.out | refine below_set ?_ GE126.out) | exact HB.out)⟩
        · rw [if_neg c6] at H
          exact absurd H (by simp)
      · rw [if_neg c5] at H
        have c5b0 : decide (x6_1 < 14) = false := decide_eq_false c5
        clear c5
        obtain rfl := Option.some.inj H
        go_wp2
        go_ret
        exact ⟨by first | rfl | (simp [errW_none, errW_some] <;> rfl) | (simp [*, errW_none, errW_some] <;> rfl), by repeat (first | (with_reducible first | exact HB.out | apply below_alloc | apply pw_below_drewN | apply below_drew1 | refine below_set ?_ GE125.out | refine below_set ?_ GE126.out) | exact HB.out)⟩

/-! ### spec_ValidWeighing: function 17 -/
def spec_ValidWeighing.f (k : Nat) (a0_0 : Int) (a0_1 : Int) (a0_2 : Bool) (a0_3 : Bool) (a1_0 : Int) (a1_1 : Int) (a1_2 : Int) (a1_3 : Int) (a1_4 : Int) (a1_5 : Int) (a1_6 : Int) (a1_7 : Int) (a1_8 : Int) (a1_9 : Int) (a1_10 : Int) (a1_11 : Int) (a1_12 : Int) (a1_13 : Int) : Option (Bool) := (spec_l03Ok.f a0_0 a0_1 a0_2 a0_3).bind fun t130 => (if t130 = true then ((spec_l03Weighing.f k a0_0 a0_1 a0_2 a0_3 a1_0 a1_1 a1_2 a1_3 a1_4 a1_5 a1_6 a1_7 a1_8 a1_9 a1_10 a1_11 a1_12 a1_13).bind fun t131 => (some t131)) else (some false))
theorem spec_ValidWeighing.mono : ∀ a0 a1 a2 a3 a4 a5 a6 a7 a8 a9 a10 a11 a12 a13 a14 a15 a16 a17 k, LeO (spec_ValidWeighing.f k a0 a1 a2 a3 a4 a5 a6 a7 a8 a9 a10 a11 a12 a13 a14 a15 a16 a17) (spec_ValidWeighing.f (k + 1) a0 a1 a2 a3 a4 a5 a6 a7 a8 a9 a10 a11 a12 a13 a14 a15 a16 a17) := by
  intro a0 a1 a2 a3 a4 a5 a6 a7 a8 a9 a10 a11 a12 a13 a14 a15 a16 a17 k
  unfold spec_ValidWeighing.f
  repeat' first
      | (with_reducible exact spec_l03Weighing.mono _ _ _ _ _ _ _ _ _ _ _ _ _ _ _ _ _ _ _)
      | (with_reducible exact LeO.refl _)
      | (with_reducible exact LeO.none _)
      | (with_reducible refine LeO.ite ?_ ?_)
      | (with_reducible refine LeO.bind ?_ (fun _ => ?_))
      | exact spec_l03Weighing.mono _ _ _ _ _ _ _ _ _ _ _ _ _ _ _ _ _ _ _
      | exact LeO.none _
      | refine LeO.ite ?_ ?_
      | refine LeO.bind ?_ (fun _ => ?_)
set_option maxHeartbeats 8000000 in
set_option maxRecDepth 100000 in
theorem spec_ValidWeighing.calls (k : Nat) (a0_0 : Int) (a0_1 : Int) (a0_2 : Bool) (a0_3 : Bool) (a1_0 : Int) (a1_1 : Int) (a1_2 : Int) (a1_3 : Int) (a1_4 : Int) (a1_5 : Int) (a1_6 : Int) (a1_7 : Int) (a1_8 : Int) (a1_9 : Int) (a1_10 : Int) (a1_11 : Int) (a1_12 : Int) (a1_13 : Int) (r : Bool) (w : World) (h : spec_ValidWeighing.f k a0_0 a0_1 a0_2 a0_3 a1_0 a1_1 a1_2 a1_3 a1_4 a1_5 a1_6 a1_7 a1_8 a1_9 a1_10 a1_11 a1_12 a1_13 = some r) :
    Calls Try.prog 17 #[.agg #[.int .i8 a0_0, .int .i8 a0_1, .bool a0_2, .bool a0_3], .agg #[.int .i8 a1_0, .int .i8 a1_1, .int .i8 a1_2, .int .i8 a1_3, .int .i8 a1_4, .int .i8 a1_5, .int .i8 a1_6, .int .i8 a1_7, .int .i8 a1_8, .int .i8 a1_9, .int .i8 a1_10, .int .i8 a1_11, .int .i8 a1_12, .int .i8 a1_13]] w fun e w' => e = .returned (.bool r) ∧ Below w.heap.size w w' := by
  have hu26 := Try.underlying26
  have hu31 := Try.underlying31
  have HB := Aside0.mk (Below.refl w.heap.size w)
  have H : ((spec_l03Ok.f a0_0 a0_1 a0_2 a0_3).bind fun t130 => (if t130 = true then ((spec_l03Weighing.f k a0_0 a0_1 a0_2 a0_3 a1_0 a1_1 a1_2 a1_3 a1_4 a1_5 a1_6 a1_7 a1_8 a1_9 a1_10 a1_11 a1_12 a1_13).bind fun t131 => (some t131)) else (some false))) = some r := h
  clear h
  replace H := Option.bind_eq_some_iff.mp H
  obtain ⟨t130, A30, H⟩ := H
  replace H : (if t130 = true then ((spec_l03Weighing.f k a0_0 a0_1 a0_2 a0_3 a1_0 a1_1 a1_2 a1_3 a1_4 a1_5 a1_6 a1_7 a1_8 a1_9 a1_10 a1_11 a1_12 a1_13).bind fun t131 => (some t131)) else (some false)) = some r := H
  have A3 := Aside0.mk A30
  clear A30
  by_cases c4 : t130 = true
  · subst c4
    have H1 : ((spec_l03Weighing.f k a0_0 a0_1 a0_2 a0_3 a1_0 a1_1 a1_2 a1_3 a1_4 a1_5 a1_6 a1_7 a1_8 a1_9 a1_10 a1_11 a1_12 a1_13).bind fun t131 => (some t131)) = some r := by rw [if_pos rfl] at H; exact H
    clear H
    have H := H1
    clear H1
    replace H := Option.bind_eq_some_iff.mp H
    obtain ⟨t131, A50, H⟩ := H
    replace H : (some t131) = some r := H
    have A5 := Aside0.mk A50
    clear A50
    obtain rfl := Option.some.inj H
    go_enter Try.func17, Try.ntmps17
    go_wp2_with (first | ((with_reducible refine gate_dst (N := 2) rfl ?_); refine box_event ?hg (N := 2) ?hd (cs := #[.int .i8 a0_0, .int .i8 a0_1, .bool a0_2, .bool a0_3]) (t := 26) ?hr ?_; (case hd => rfl); (case hg => rfl); (case hr => first | (go_simp; done) | (go_simp; rfl)); intro gb128 hg w6 hbox hb; have n0_ := Aside0.mk (below_step (by repeat (first | (with_reducible first | exact HB.out | apply below_alloc | apply pw_below_drewN | apply below_drew1) | exact HB.out)) hb); have n1_ := Aside0.mk (hbox); have n2_ := Aside0.mk ((by rw [hg]; exact (below_size (by repeat (first | (with_reducible first | exact HB.out | apply below_alloc | apply pw_below_drewN | apply below_drew1) | exact HB.out))) : w.heap.size ≤ gb128)); have n3_ := Aside0.mk ((by rw [hg]; exact (below_size (by repeat (first | (with_reducible first | exact HB.out | apply below_alloc | apply pw_below_drewN | apply below_drew1) | exact HB.out))) : w.heap.size ≤ gb128)); clear HB; have HB := n0_; have BK128 := n1_; have GW128 := n2_; have GE128 := n3_; clear n0_ n1_ n2_ n3_; clear hb hbox hg) | ((with_reducible refine gate_dst (N := 3) rfl ?_); refine box_event ?hg (N := 3) ?hd (cs := #[.int .i8 a1_0, .int .i8 a1_1, .int .i8 a1_2, .int .i8 a1_3, .int .i8 a1_4, .int .i8 a1_5, .int .i8 a1_6, .int .i8 a1_7, .int .i8 a1_8, .int .i8 a1_9, .int .i8 a1_10, .int .i8 a1_11, .int .i8 a1_12, .int .i8 a1_13]) (t := 31) ?hr ?_; (case hd => rfl); (case hg => rfl); (case hr => first | (go_simp; done) | (go_simp; rfl)); intro gb129 hg w7 hbox hb; have n0_ := Aside0.mk (blk_below (g := gb128) (o := .cells #[.int .i8 a0_0, .int .i8 a0_1, .bool a0_2, .bool a0_3] 26 (0, 0)) (by (with_reducible repeat (first | refine blk_drewN ?_ _ | refine blk_drew ?_ | refine blk_alloc ?_ _)); exact BK128.out) hb); have n1_ := Aside0.mk (below_step (by repeat (first | (with_reducible first | exact HB.out | apply below_alloc | apply pw_below_drewN | apply below_drew1 | refine below_set ?_ GE128.out) | exact HB.out)) hb); have n2_ := Aside0.mk (hbox); have n3_ := Aside0.mk ((by rw [hg]; exact (below_size (by repeat (first | (with_reducible first | exact HB.out | apply below_alloc | apply pw_below_drewN | apply below_drew1 | refine below_set ?_ GE128.out) | exact HB.out))) : w.heap.size ≤ gb129)); have n4_ := Aside0.mk ((by rw [hg]; exact (below_size (by repeat (first | (with_reducible first | exact HB.out | apply below_alloc | apply pw_below_drewN | apply below_drew1 | refine below_set ?_ GE128.out) | exact HB.out))) : w.heap.size ≤ gb129)); have n5_ := Aside0.mk ((by rw [hg]; exact Nat.ne_of_lt (blk_lt (g := gb128) (o := .cells #[.int .i8 a0_0, .int .i8 a0_1, .bool a0_2, .bool a0_3] 26 (0, 0)) (by (with_reducible repeat (first | refine blk_drewN ?_ _ | refine blk_drew ?_ | refine blk_alloc ?_ _)); exact BK128.out)) : gb128 ≠ gb129)); have n6_ := Aside0.mk ((by rw [hg]; exact Nat.ne_of_gt (blk_lt (g := gb128) (o := .cells #[.int .i8 a0_0, .int .i8 a0_1, .bool a0_2, .bool a0_3] 26 (0, 0)) (by (with_reducible repeat (first | refine blk_drewN ?_ _ | refine blk_drew ?_ | refine blk_alloc ?_ _)); exact BK128.out)) : gb129 ≠ gb128)); clear BK128; clear HB; have BK128 := n0_; have HB := n1_; have BK129 := n2_; have GW129 := n3_; have GE129 := n4_; have NB128_129 := n5_; have NB129_128 := n6_; clear n0_ n1_ n2_ n3_ n4_ n5_ n6_; clear hb hbox hg; have hnb8 := NB128_129.out; have hnc8 := NB129_128.out; have hcz9_0 : w7.cell? ⟨gb128, 0, none⟩ = some (.int .i8 a0_0) := (blk_cell BK128.out 0).trans rfl; have hcz9_1 : w7.cell? ⟨gb128, 1, none⟩ = some (.int .i8 a0_1) := (blk_cell BK128.out 1).trans rfl; have hcz9_2 : w7.cell? ⟨gb128, 2, none⟩ = some (.bool a0_2) := (blk_cell BK128.out 2).trans rfl; have hcz9_3 : w7.cell? ⟨gb128, 3, none⟩ = some (.bool a0_3) := (blk_cell BK128.out 3).trans rfl; have hfz9_0 := blk_frozen BK128.out 0; have hfz9_1 := blk_frozen BK128.out 1; have hfz9_2 := blk_frozen BK128.out 2; have hfz9_3 := blk_frozen BK128.out 3) | ((with_reducible refine gate_callee (f := 47) rfl ?_); refine goesL_ (some 6) rfl rfl Try.func47 (by kernel_rfl) rfl #[.agg #[.int .i8 a0_0, .int .i8 a0_1, .bool a0_2, .bool a0_3]] rfl (by (try simp only [List.map_toArray, List.map_cons, List.map_nil]); first | done | rfl | (simp only [List.length_drop, List.length_take]; rfl)) ?_; (with_reducible refine (spec_l03Ok.calls a0_0 a0_1 a0_2 a0_3 true _ A3.out).mono ?_); rintro e w10 ⟨rfl, hb⟩; refine ⟨_, rfl, ?_⟩; have n0_ := Aside0.mk (blk_below (g := gb128) (o := .cells #[.int .i8 a0_0, .int .i8 a0_1, .bool a0_2, .bool a0_3] 26 (0, 0)) (by (with_reducible repeat (first | refine blk_drewN ?_ _ | refine blk_drew ?_ | refine blk_alloc ?_ _)); exact BK128.out) hb); have n1_ := Aside0.mk (blk_below (g := gb129) (o := .cells #[.int .i8 a1_0, .int .i8 a1_1, .int .i8 a1_2, .int .i8 a1_3, .int .i8 a1_4, .int .i8 a1_5, .int .i8 a1_6, .int .i8 a1_7, .int .i8 a1_8, .int .i8 a1_9, .int .i8 a1_10, .int .i8 a1_11, .int .i8 a1_12, .int .i8 a1_13] 31 (0, 0)) (by (with_reducible repeat (first | refine blk_drewN ?_ _ | refine blk_drew ?_ | refine blk_alloc ?_ _)); exact BK129.out) hb); have n2_ := Aside0.mk (below_step (by repeat (first | (with_reducible first | exact HB.out | apply below_alloc | apply pw_below_drewN | apply below_drew1 | refine below_set ?_ GE128.out | refine below_set ?_ GE129.out) | exact HB.out)) hb); clear BK128; clear BK129; clear HB; have BK128 := n0_; have BK129 := n1_; have HB := n2_; clear n0_ n1_ n2_; (try clear hb); (try clear hb2); (try clear hk); (try clear hi); have hcz11_0 : w10.cell? ⟨gb128, 0, none⟩ = some (.int .i8 a0_0) := (blk_cell BK128.out 0).trans rfl; have hcz11_1 : w10.cell? ⟨gb128, 1, none⟩ = some (.int .i8 a0_1) := (blk_cell BK128.out 1).trans rfl; have hcz11_2 : w10.cell? ⟨gb128, 2, none⟩ = some (.bool a0_2) := (blk_cell BK128.out 2).trans rfl; have hcz11_3 : w10.cell? ⟨gb128, 3, none⟩ = some (.bool a0_3) := (blk_cell BK128.out 3).trans rfl; have hfz11_0 := blk_frozen BK128.out 0; have hfz11_1 := blk_frozen BK128.out 1; have hfz11_2 := blk_frozen BK128.out 2; have hfz11_3 := blk_frozen BK128.out 3; have hcz12_0 : w10.cell? ⟨gb129, 0, none⟩ = some (.int .i8 a1_0) := (blk_cell BK129.out 0).trans rfl; have hcz12_1 : w10.cell? ⟨gb129, 1, none⟩ = some (.int .i8 a1_1) := (blk_cell BK129.out 1).trans rfl; have hcz12_2 : w10.cell? ⟨gb129, 2, none⟩ = some (.int .i8 a1_2) := (blk_cell BK129.out 2).trans rfl; have hcz12_3 : w10.cell? ⟨gb129, 3, none⟩ = some (.int .i8 a1_3) := (blk_cell BK129.out 3).trans rfl; have hcz12_4 : w10.cell? ⟨gb129, 4, none⟩ = some (.int .i8 a1_4) := (blk_cell BK129.out 4).trans rfl; have hcz12_5 : w10.cell? ⟨gb129, 5, none⟩ = some (.int .i8 a1_5) := (blk_cell BK129.out 5).trans rfl; have hcz12_6 : w10.cell? ⟨gb129, 6, none⟩ = some (.int .i8 a1_6) := (blk_cell BK129.out 6).trans rfl; have hcz12_7 : w10.cell? ⟨gb129, 7, none⟩ = some (.int .i8 a1_7) := (blk_cell BK129.out 7).trans rfl; have hcz12_8 : w10.cell? ⟨gb129, 8, none⟩ = some (.int .i8 a1_8) := (blk_cell BK129.out 8).trans rfl; have hcz12_9 : w10.cell? ⟨gb129, 9, none⟩ = some (.int .i8 a1_9) := (blk_cell BK129.out 9).trans rfl; have hcz12_10 : w10.cell? ⟨gb129, 10, none⟩ = some (.int .i8 a1_10) := (blk_cell BK129.out 10).trans rfl; have hcz12_11 : w10.cell? ⟨gb129, 11, none⟩ = some (.int .i8 a1_11) := (blk_cell BK129.out 11).trans rfl; have hcz12_12 : w10.cell? ⟨gb129, 12, none⟩ = some (.int .i8 a1_12) := (blk_cell BK129.out 12).trans rfl; have hcz12_13 : w10.cell? ⟨gb129, 13, none⟩ = some (.int .i8 a1_13) := (blk_cell BK129.out 13).trans rfl; have hfz12_0 := blk_frozen BK129.out 0; have hfz12_1 := blk_frozen BK129.out 1; have hfz12_2 := blk_frozen BK129.out 2; have hfz12_3 := blk_frozen BK129.out 3; have hfz12_4 := blk_frozen BK129.out 4; have hfz12_5 := blk_frozen BK129.out 5; have hfz12_6 := blk_frozen BK129.out 6; have hfz12_7 := blk_frozen BK129.out 7; have hfz12_8 := blk_frozen BK129.out 8; have hfz12_9 := blk_frozen BK129.out 9; have hfz12_10 := blk_frozen BK129.out 10; have hfz12_11 := blk_frozen BK129.out 11; have hfz12_12 := blk_frozen BK129.out 12; have hfz12_13 := blk_frozen BK129.out 13) | (go_at_call 50; (with_reducible refine (spec_l03Weighing.calls k a0_0 a0_1 a0_2 a0_3 a1_0 a1_1 a1_2 a1_3 a1_4 a1_5 a1_6 a1_7 a1_8 a1_9 a1_10 a1_11 a1_12 a1_13 t131 _ A5.out).mono ?_); rintro e w13 ⟨rfl, hb⟩; have n0_ := Aside0.mk (blk_below (g := gb128) (o := .cells #[.int .i8 a0_0, .int .i8 a0_1, .bool a0_2, .bool a0_3] 26 (0, 0)) (by (with_reducible repeat (first | refine blk_drewN ?_ _ | refine blk_drew ?_ | refine blk_alloc ?_ _)); exact BK128.out) hb); have n1_ := Aside0.mk (blk_below (g := gb129) (o := .cells #[.int .i8 a1_0, .int .i8 a1_1, .int .i8 a1_2, .int .i8 a1_3, .int .i8 a1_4, .int .i8 a1_5, .int .i8 a1_6, .int .i8 a1_7, .int .i8 a1_8, .int .i8 a1_9, .int .i8 a1_10, .int .i8 a1_11, .int .i8 a1_12, .int .i8 a1_13] 31 (0, 0)) (by (with_reducible repeat (first | refine blk_drewN ?_ _ | refine blk_drew ?_ | refine blk_alloc ?_ _)); exact BK129.out) hb); have n2_ := Aside0.mk (below_step (by repeat (first | (with_reducible first | exact HB.out | apply below_alloc | apply pw_below_drewN | apply below_drew1 | refine below_set ?_ GE128.out | refine below_set ?_ GE129.out) | exact HB.out)) hb); clear BK128; clear BK129; clear HB; have BK128 := n0_; have BK129 := n1_; have HB := n2_; clear n0_ n1_ n2_; (try clear hb); (try clear hb2); (try clear hk); (try clear hi)))
    go_ret
    exact ⟨by first | rfl | (simp [errW_none, errW_some] <;> rfl) | (simp [*, errW_none, errW_some] <;> rfl), by repeat (first | (with_reducible first | exact HB.out | apply below_alloc | apply pw_below_drewN | apply below_drew1 | refine below_set ?_ GE128.out | refine below_set ?_ GE129.out) | exact HB.out)⟩
  · replace c4 := Bool.eq_false_iff.mpr c4
    subst c4
    have H1 : (some false) = some r := by rw [if_neg (show ¬ (false = true) by decide)] at H; exact H
    clear H
    have H := H1
    clear H1
    obtain rfl := Option.some.inj H
    go_enter Try.func17, Try.ntmps17
    go_wp2_with (first | ((with_reducible refine gate_dst (N := 2) rfl ?_); refine box_event ?hg (N := 2) ?hd (cs := #[.int .i8 a0_0, .int .i8 a0_1, .bool a0_2, .bool a0_3]) (t := 26) ?hr ?_; (case hd => rfl); (case hg => rfl); (case hr => first | (go_simp; done) | (go_simp; rfl)); intro gb128 hg w14 hbox hb; have n0_ := Aside0.mk (below_step (by repeat (first | (with_reducible first | exact HB.out | apply below_alloc | apply pw_below_drewN | apply below_drew1) | exact HB.out)) hb); have n1_ := Aside0.mk (hbox); have n2_ := Aside0.mk ((by rw [hg]; exact (below_size (by repeat (first | (with_reducible first | exact HB.out | apply below_alloc | apply pw_below_drewN | apply below_drew1) | exact HB.out))) : w.heap.size ≤ gb128)); have n3_ := Aside0.mk ((by rw [hg]; exact (below_size (by repeat (first | (with_reducible first | exact HB.out | apply below_alloc | apply pw_below_drewN | apply below_drew1) | exact HB.out))) : w.heap.size ≤ gb128)); clear HB; have HB := n0_; have BK128 := n1_; have GW128 := n2_; have GE128 := n3_; clear n0_ n1_ n2_ n3_; clear hb hbox hg) | ((with_reducible refine gate_dst (N := 3) rfl ?_); refine box_event ?hg (N := 3) ?hd (cs := #[.int .i8 a1_0, .int .i8 a1_1, .int .i8 a1_2, .int .i8 a1_3, .int .i8 a1_4, .int .i8 a1_5, .int .i8 a1_6, .int .i8 a1_7, .int .i8 a1_8, .int .i8 a1_9, .int .i8 a1_10, .int .i8 a1_11, .int .i8 a1_12, .int .i8 a1_13]) (t := 31) ?hr ?_; (case hd => rfl); (case hg => rfl); (case hr => first | (go_simp; done) | (go_simp; rfl)); intro gb129 hg w15 hbox hb; have n0_ := Aside0.mk (blk_below (g := gb128) (o := .cells #[.int .i8 a0_0, .int .i8 a0_1, .bool a0_2, .bool a0_3] 26 (0, 0)) (by (with_reducible repeat (first | refine blk_drewN ?_ _ | refine blk_drew ?_ | refine blk_alloc ?_ _)); exact BK128.out) hb); have n1_ := Aside0.mk (below_step (by repeat (first | (with_reducible first | exact HB.out | apply below_alloc | apply pw_below_drewN | apply below_drew1 | refine below_set ?_ GE128.out) | exact HB.out)) hb); have n2_ := Aside0.mk (hbox); have n3_ := Aside0.mk ((by rw [hg]; exact (below_size (by repeat (first | (with_reducible first | exact HB.out | apply below_alloc | apply pw_below_drewN | apply below_drew1 | refine below_set ?_ GE128.out) | exact HB.out))) : w.heap.size ≤ gb129)); have n4_ := Aside0.mk ((by rw [hg]; exact (below_size (by repeat (first | (with_reducible first | exact HB.out | apply below_alloc | apply pw_below_drewN | apply below_drew1 | refine below_set ?_ GE128.out) | exact HB.out))) : w.heap.size ≤ gb129)); have n5_ := Aside0.mk ((by rw [hg]; exact Nat.ne_of_lt (blk_lt (g := gb128) (o := .cells #[.int .i8 a0_0, .int .i8 a0_1, .bool a0_2, .bool a0_3] 26 (0, 0)) (by (with_reducible repeat (first | refine blk_drewN ?_ _ | refine blk_drew ?_ | refine blk_alloc ?_ _)); exact BK128.out)) : gb128 ≠ gb129)); have n6_ := Aside0.mk ((by rw [hg]; exact Nat.ne_of_gt (blk_lt (g := gb128) (o := .cells #[.int .i8 a0_0, .int .i8 a0_1, .bool a0_2, .bool a0_3] 26 (0, 0)) (by (with_reducible repeat (first | refine blk_drewN ?_ _ | refine blk_drew ?_ | refine blk_alloc ?_ _)); exact BK128.out)) : gb129 ≠ gb128)); clear BK128; clear HB; have BK128 := n0_; have HB := n1_; have BK129 := n2_; have GW129 := n3_; have GE129 := n4_; have NB128_129 := n5_; have NB129_128 := n6_; clear n0_ n1_ n2_ n3_ n4_ n5_ n6_; clear hb hbox hg; have hnb16 := NB128_129.out; have hnc16 := NB129_128.out; have hcz17_0 : w15.cell? ⟨gb128, 0, none⟩ = some (.int .i8 a0_0) := (blk_cell BK128.out 0).trans rfl; have hcz17_1 : w15.cell? ⟨gb128, 1, none⟩ = some (.int .i8 a0_1) := (blk_cell BK128.out 1).trans rfl; have hcz17_2 : w15.cell? ⟨gb128, 2, none⟩ = some (.bool a0_2) := (blk_cell BK128.out 2).trans rfl; have hcz17_3 : w15.cell? ⟨gb128, 3, none⟩ = some (.bool a0_3) := (blk_cell BK128.out 3).trans rfl; have hfz17_0 := blk_frozen BK128.out 0; have hfz17_1 := blk_frozen BK128.out 1; have hfz17_2 := blk_frozen BK128.out 2; have hfz17_3 := blk_frozen BK128.out 3) | ((with_reducible refine gate_callee (f := 47) rfl ?_); refine goesL_ (some 6) rfl rfl Try.func47 (by kernel_rfl) rfl #[.agg #[.int .i8 a0_0, .int .i8 a0_1, .bool a0_2, .bool a0_3]] rfl (by (try simp only [List.map_toArray, List.map_cons, List.map_nil]); first | done | rfl | (simp only [List.length_drop, List.length_take]; rfl)) ?_; (with_reducible refine (spec_l03Ok.calls a0_0 a0_1 a0_2 a0_3 false _ A3.out).mono ?_); rintro e w18 ⟨rfl, hb⟩; refine ⟨_, rfl, ?_⟩; have n0_ := Aside0.mk (blk_below (g := gb128) (o := .cells #[.int .i8 a0_0, .int .i8 a0_1, .bool a0_2, .bool a0_3] 26 (0, 0)) (by (with_reducible repeat (first | refine blk_drewN ?_ _ | refine blk_drew ?_ | refine blk_alloc ?_ _)); exact BK128.out) hb); have n1_ := Aside0.mk (blk_below (g := gb129) (o := .cells #[.int .i8 a1_0, .int .i8 a1_1, .int .i8 a1_2, .int .i8 a1_3, .int .i8 a1_4, .int .i8 a1_5, .int .i8 a1_6, .int .i8 a1_7, .int .i8 a1_8, .int .i8 a1_9, .int .i8 a1_10, .int .i8 a1_11, .int .i8 a1_12, .int .i8 a1_13] 31 (0, 0)) (by (with_reducible repeat (first | refine blk_drewN ?_ _ | refine blk_drew ?_ | refine blk_alloc ?_ _)); exact BK129.out) hb); have n2_ := Aside0.mk (below_step (by repeat (first | (with_reducible first | exact HB.out | apply below_alloc | apply pw_below_drewN | apply below_drew1 | refine below_set ?_ GE128.out | refine below_set ?_ GE129.out) | exact HB.out)) hb); clear BK128; clear BK129; clear HB; have BK128 := n0_; have BK129 := n1_; have HB := n2_; clear n0_ n1_ n2_; (try clear hb); (try clear hb2); (try clear hk); (try clear hi)))
    go_ret
    exact ⟨by first | rfl | (simp [errW_none, errW_some] <;> rfl) | (simp [*, errW_none, errW_some] <;> rfl), by repeat (first | (with_reducible first | exact HB.out | apply below_alloc | apply pw_below_drewN | apply below_drew1 | refine below_set ?_ GE128.out | refine below_set ?_ GE129.out) | exact HB.out)⟩

end Go.Proofs.Ytajbeamkjoeifaa.M
