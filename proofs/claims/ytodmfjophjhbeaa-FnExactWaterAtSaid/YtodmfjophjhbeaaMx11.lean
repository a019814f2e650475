-- By this seat's own program over the kit's printer (arrays, functions told by hand); nothing of it is trusted: the kernel checks it.
import Derived.Test.YtodmfjophjhbeaaMx0
import Derived.Test.YtodmfjophjhbeaaMx3
import Derived.Test.YtodmfjophjhbeaaMx4
namespace Go.Proofs.Ytodmfjophjhbeaa.M
open Go.RowKit Go.Proofs.YtodmfjophjhbeaaW.PrintWords Go.Proofs.YtodmfjophjhbeaaW.PrintLast Go.Proofs.YtodmfjophjhbeaaW.PrintMore
attribute [local go_sem] max2_int min2_int max_two min_two max_three min_three max_four min_four   -- for this text's walks alone
set_option linter.unusedVariables false
set_option linter.unusedSimpArgs false

/-! ### spec_l02At: function 61 -/
def spec_l02At.l0 : Nat → Int → Int → List Int → Int → Int → Int → Int → Bool → Int → Int → Int → Int → Option (Int × Int × Int × Int)
  | 0, _, _, _, _, _, _, _, _, _, _, _, _ => none
  | k + 1, x1, x6, x270000, x270001, x270002, x270003, x270004, x270005, x272000, x272001, x272002, x272003 => if x6 < (x270000.length : Int) then (if 0 ≤ x6 then (if (wrap64 ((wrap64 (rd x270000 x6)) + 1)) = 0 then (none) else (if x6 < 4 then (spec_l02At.l0 k (wrap64 (Int.tdiv x1 (wrap64 ((wrap64 (rd x270000 x6)) + 1)))) (wrap64 (x6 + 1)) x270000 x270001 x270002 x270003 x270004 x270005 (aup x6 0 (IntKind.i16.wrap (Int.tmod x1 (wrap64 ((wrap64 (rd x270000 x6)) + 1)))) x272000) (aup x6 1 (IntKind.i16.wrap (Int.tmod x1 (wrap64 ((wrap64 (rd x270000 x6)) + 1)))) x272001) (aup x6 2 (IntKind.i16.wrap (Int.tmod x1 (wrap64 ((wrap64 (rd x270000 x6)) + 1)))) x272002) (aup x6 3 (IntKind.i16.wrap (Int.tmod x1 (wrap64 ((wrap64 (rd x270000 x6)) + 1)))) x272003)) else (none))) else (none)) else (some (x272000, x272001, x272002, x272003))
def spec_l02At.f (k : Nat) (l0_0 : List Int) (a0_1 : Int) (a0_2 : Int) (a0_3 : Int) (a0_4 : Int) (a0_5 : Bool) (a1 : Int) : Option (Int × Int × Int × Int) := spec_l02At.l0 k a1 0 l0_0 a0_1 a0_2 a0_3 a0_4 a0_5 0 0 0 0
theorem spec_l02At.mono_l : ∀ k, (∀ y0 y1 y2 y3 y4 y5 y6 y7 y8 y9 y10 y11, LeO (spec_l02At.l0 k y0 y1 y2 y3 y4 y5 y6 y7 y8 y9 y10 y11) (spec_l02At.l0 (k + 1) y0 y1 y2 y3 y4 y5 y6 y7 y8 y9 y10 y11))
  | 0 => fun _ _ _ _ _ _ _ _ _ _ _ _ r h => by simp [spec_l02At.l0] at h
  | k + 1 => by
    have ih0 := spec_l02At.mono_l k
    · intro y0 y1 y2 y3 y4 y5 y6 y7 y8 y9 y10 y11
      unfold spec_l02At.l0
      repeat' first
      | (with_reducible exact ih0 _ _ _ _ _ _ _ _ _ _ _ _)
      | (with_reducible exact LeO.refl _)
      | (with_reducible exact LeO.none _)
      | (with_reducible refine LeO.ite ?_ ?_)
      | (with_reducible refine LeO.bind ?_ (fun _ => ?_))
      | exact ih0 _ _ _ _ _ _ _ _ _ _ _ _
      | exact LeO.none _
      | refine LeO.ite ?_ ?_
      | refine LeO.bind ?_ (fun _ => ?_)
theorem spec_l02At.mono : ∀ a0 a1 a2 a3 a4 a5 a6 k, LeO (spec_l02At.f k a0 a1 a2 a3 a4 a5 a6) (spec_l02At.f (k + 1) a0 a1 a2 a3 a4 a5 a6) := by
  intro a0 a1 a2 a3 a4 a5 a6 k
  have ih0 := spec_l02At.mono_l k
  unfold spec_l02At.f
  repeat' first
      | (with_reducible exact ih0 _ _ _ _ _ _ _ _ _ _ _ _)
      | (with_reducible exact LeO.refl _)
      | (with_reducible exact LeO.none _)
      | (with_reducible refine LeO.ite ?_ ?_)
      | (with_reducible refine LeO.bind ?_ (fun _ => ?_))
      | exact ih0 _ _ _ _ _ _ _ _ _ _ _ _
      | exact LeO.none _
      | refine LeO.ite ?_ ?_
      | refine LeO.bind ?_ (fun _ => ?_)
set_option maxHeartbeats 8000000 in
set_option maxRecDepth 100000 in
theorem spec_l02At.calls (k : Nat) (gp0 : Nat) (A0_0 : Option Addr) (c0_0 : Nat) (l0_0 : List Int) (a0_1 : Int) (a0_2 : Int) (a0_3 : Int) (a0_4 : Int) (a0_5 : Bool) (a1 : Int) (r1 : Int) (r2 : Int) (r3 : Int) (r4 : Int) (w : World) (hb0 : w.heap[gp0]? = some (.cells #[.slice A0_0 l0_0.length c0_0, .int .i16 a0_1, .int .i16 a0_2, .int .i16 a0_3, .int .i16 a0_4, .bool a0_5] 32 (0, 0))) (hr0_0 : Kd.C (Kd.int .i16) w A0_0 l0_0.length l0_0) (hc0_0 : l0_0.length ≤ c0_0) (h : spec_l02At.f k l0_0 a0_1 a0_2 a0_3 a0_4 a0_5 a1 = some (r1, r2, r3, r4)) :
    Calls Try.prog 61 #[.pointer (some ⟨gp0, 0, none⟩), .int .i64 a1] w fun e w' => e = .returned (.agg #[.int .i16 r1, .int .i16 r2, .int .i16 r3, .int .i16 r4]) ∧ Below w.heap.size w w' := by
  have hu30 := Try.underlying30
  have HR0_0 := Aside0.mk hr0_0
  have HC0_0 := Aside0.mk hc0_0
  clear hr0_0 hc0_0
  have BK269 := Aside0.mk hb0
  clear hb0
  have HB := Aside0.mk (Below.refl w.heap.size w)
  have H : (spec_l02At.l0 k a1 0 l0_0 a0_1 a0_2 a0_3 a0_4 a0_5 0 0 0 0) = some (r1, r2, r3, r4) := h
  clear h
  have H' := Aside0.mk H
  clear H
  go_enter Try.func61, Try.ntmps61
  go_wp2_with (first | ((with_reducible refine gate_dst (N := 4) rfl ?_); refine box_event ?hg (N := 4) ?hd (cs := #[.int .i16 0, .int .i16 0, .int .i16 0, .int .i16 0]) (t := 30) ?hr ?_; (case hd => rfl); (case hg => rfl); (case hr => first | (go_simp; done) | (go_simp; rfl)); intro gb270 hg w3 hbox hb; have n0_ := Aside0.mk (blk_below (g := gp0) (o := .cells #[.slice A0_0 l0_0.length c0_0, .int .i16 a0_1, .int .i16 a0_2, .int .i16 a0_3, .int .i16 a0_4, .bool a0_5] 32 (0, 0)) (by (with_reducible repeat (first | refine blk_drewN ?_ _ | refine blk_drew ?_ | refine blk_alloc ?_ _)); exact BK269.out) hb); have n1_ := Aside0.mk (below_step (by repeat (first | (with_reducible first | exact HB.out | apply below_alloc | apply pw_below_drewN | apply below_drew1 | refine below_set ?_ GE269.out) | exact HB.out)) hb); have n2_ := Aside0.mk (hbox); have n3_ := Aside0.mk ((by rw [hg]; exact (below_size (by repeat (first | (with_reducible first | exact HB.out | apply below_alloc | apply pw_below_drewN | apply below_drew1 | refine below_set ?_ GE269.out) | exact HB.out))) : w.heap.size ≤ gb270)); have n4_ := Aside0.mk ((by rw [hg]; exact (below_size (by repeat (first | (with_reducible first | exact HB.out | apply below_alloc | apply pw_below_drewN | apply below_drew1 | refine below_set ?_ GE269.out) | exact HB.out))) : w.heap.size ≤ gb270)); have n5_ := Aside0.mk ((by rw [hg]; exact Nat.ne_of_lt (blk_lt (g := gp0) (o := .cells #[.slice A0_0 l0_0.length c0_0, .int .i16 a0_1, .int .i16 a0_2, .int .i16 a0_3, .int .i16 a0_4, .bool a0_5] 32 (0, 0)) (by (with_reducible repeat (first | refine blk_drewN ?_ _ | refine blk_drew ?_ | refine blk_alloc ?_ _)); exact BK269.out)) : gp0 ≠ gb270)); have n6_ := Aside0.mk ((by rw [hg]; exact Nat.ne_of_gt (blk_lt (g := gp0) (o := .cells #[.slice A0_0 l0_0.length c0_0, .int .i16 a0_1, .int .i16 a0_2, .int .i16 a0_3, .int .i16 a0_4, .bool a0_5] 32 (0, 0)) (by (with_reducible repeat (first | refine blk_drewN ?_ _ | refine blk_drew ?_ | refine blk_alloc ?_ _)); exact BK269.out)) : gb270 ≠ gp0)); clear BK269; clear HB; have BK269 := n0_; have HB := n1_; have BK270 := n2_; have GW270 := n3_; have GE270 := n4_; have NB269_270 := n5_; have NB270_269 := n6_; clear n0_ n1_ n2_ n3_ n4_ n5_ n6_; clear hb hbox hg) | ((with_reducible refine gate_dst (N := 5) rfl ?_); refine box_event ?hg (N := 5) ?hd (cs := #[.int .i16 0, .int .i16 0, .int .i16 0, .int .i16 0]) (t := 30) ?hr ?_; (case hd => rfl); (case hg => rfl); (case hr => first | (go_simp; done) | (go_simp; rfl)); intro gb271 hg w4 hbox hb; have n0_ := Aside0.mk (blk_below (g := gp0) (o := .cells #[.slice A0_0 l0_0.length c0_0, .int .i16 a0_1, .int .i16 a0_2, .int .i16 a0_3, .int .i16 a0_4, .bool a0_5] 32 (0, 0)) (by (with_reducible repeat (first | refine blk_drewN ?_ _ | refine blk_drew ?_ | refine blk_alloc ?_ _)); exact BK269.out) hb); have n1_ := Aside0.mk (blk_below (g := gb270) (o := .cells #[.int .i16 0, .int .i16 0, .int .i16 0, .int .i16 0] 30 (0, 0)) (by (with_reducible repeat (first | refine blk_drewN ?_ _ | refine blk_drew ?_ | refine blk_alloc ?_ _)); exact BK270.out) hb); have n2_ := Aside0.mk (below_step (by repeat (first | (with_reducible first | exact HB.out | apply below_alloc | apply pw_below_drewN | apply below_drew1 | refine below_set ?_ GE269.out | refine below_set ?_ GE270.out) | exact HB.out)) hb); have n3_ := Aside0.mk (hbox); have n4_ := Aside0.mk ((by rw [hg]; exact (below_size (by repeat (first | (with_reducible first | exact HB.out | apply below_alloc | apply pw_below_drewN | apply below_drew1 | refine below_set ?_ GE269.out | refine below_set ?_ GE270.out) | exact HB.out))) : w.heap.size ≤ gb271)); have n5_ := Aside0.mk ((by rw [hg]; exact (below_size (by repeat (first | (with_reducible first | exact HB.out | apply below_alloc | apply pw_below_drewN | apply below_drew1 | refine below_set ?_ GE269.out | refine below_set ?_ GE270.out) | exact HB.out))) : w.heap.size ≤ gb271)); have n6_ := Aside0.mk ((by rw [hg]; exact Nat.ne_of_lt (blk_lt (g := gp0) (o := .cells #[.slice A0_0 l0_0.length c0_0, .int .i16 a0_1, .int .i16 a0_2, .int .i16 a0_3, .int .i16 a0_4, .bool a0_5] 32 (0, 0)) (by (with_reducible repeat (first | refine blk_drewN ?_ _ | refine blk_drew ?_ | refine blk_alloc ?_ _)); exact BK269.out)) : gp0 ≠ gb271)); have n7_ := Aside0.mk ((by rw [hg]; exact Nat.ne_of_gt (blk_lt (g := gp0) (o := .cells #[.slice A0_0 l0_0.length c0_0, .int .i16 a0_1, .int .i16 a0_2, .int .i16 a0_3, .int .i16 a0_4, .bool a0_5] 32 (0, 0)) (by (with_reducible repeat (first | refine blk_drewN ?_ _ | refine blk_drew ?_ | refine blk_alloc ?_ _)); exact BK269.out)) : gb271 ≠ gp0)); have n8_ := Aside0.mk ((by rw [hg]; exact Nat.ne_of_lt (blk_lt (g := gb270) (o := .cells #[.int .i16 0, .int .i16 0, .int .i16 0, .int .i16 0] 30 (0, 0)) (by (with_reducible repeat (first | refine blk_drewN ?_ _ | refine blk_drew ?_ | refine blk_alloc ?_ _)); exact BK270.out)) : gb270 ≠ gb271)); have n9_ := Aside0.mk ((by rw [hg]; exact Nat.ne_of_gt (blk_lt (g := gb270) (o := .cells #[.int .i16 0, .int .i16 0, .int .i16 0, .int .i16 0] 30 (0, 0)) (by (with_reducible repeat (first | refine blk_drewN ?_ _ | refine blk_drew ?_ | refine blk_alloc ?_ _)); exact BK270.out)) : gb271 ≠ gb270)); clear BK269; clear BK270; clear HB; have BK269 := n0_; have BK270 := n1_; have HB := n2_; have BK271 := n3_; have GW271 := n4_; have GE271 := n5_; have NB269_271 := n6_; have NB271_269 := n7_; have NB270_271 := n8_; have NB271_270 := n9_; clear n0_ n1_ n2_ n3_ n4_ n5_ n6_ n7_ n8_ n9_; clear hb hbox hg; have hnb5 := NB271_269.out; have hnc5 := NB269_271.out; have hnb6 := NB271_270.out; have hnc6 := NB270_271.out; have hcz7_0 : w4.cell? ⟨gb271, 0, none⟩ = some (.int .i16 0) := (blk_cell BK271.out 0).trans rfl; have hcz7_1 : w4.cell? ⟨gb271, 1, none⟩ = some (.int .i16 0) := (blk_cell BK271.out 1).trans rfl; have hcz7_2 : w4.cell? ⟨gb271, 2, none⟩ = some (.int .i16 0) := (blk_cell BK271.out 2).trans rfl; have hcz7_3 : w4.cell? ⟨gb271, 3, none⟩ = some (.int .i16 0) := (blk_cell BK271.out 3).trans rfl; have hfz7_0 := blk_frozen BK271.out 0; have hfz7_1 := blk_frozen BK271.out 1; have hfz7_2 := blk_frozen BK271.out 2; have hfz7_3 := blk_frozen BK271.out 3))
  go_loopg [1, 6] k (fun kq v1 v6 w' => ∃ (x1_1 : Int) (x6_1 : Int) (x272000_1 : Int) (x272001_1 : Int) (x272002_1 : Int) (x272003_1 : Int), v1 = .int .i64 x1_1 ∧ v6 = .int .i64 x6_1 ∧ Aside0 (spec_l02At.l0 kq x1_1 x6_1 l0_0 a0_1 a0_2 a0_3 a0_4 a0_5 x272000_1 x272001_1 x272002_1 x272003_1 = some (r1, r2, r3, r4)) ∧ Aside0 (kq ≤ k) ∧ Aside0 (w'.heap[gp0]? = some (.cells #[(.slice A0_0 l0_0.length c0_0), .int .i16 a0_1, .int .i16 a0_2, .int .i16 a0_3, .int .i16 a0_4, .bool a0_5] 32 (0, 0))) ∧ Aside0 (w'.heap[gb270]? = some (.cells #[.int .i16 0, .int .i16 0, .int .i16 0, .int .i16 0] 30 (0, 0))) ∧ Aside0 (w'.heap[gb271]? = some (.cells #[.int .i16 x272000_1, .int .i16 x272001_1, .int .i16 x272002_1, .int .i16 x272003_1] 30 (0, 0))) ∧ Aside0 (Below w.heap.size w w'))
  case atStart => exact ⟨(a1), (0), (0), (0), (0), (0), (by first | rfl | (simp; done) | (simp [*]; done)), (by first | rfl | (simp; done) | (simp [*]; done)), H', ⟨Nat.le_refl _⟩, ⟨by (with_reducible repeat (first | refine blk_drewN ?_ _ | refine blk_drew ?_ | refine blk_alloc ?_ _)); refine blk_far ?_ NB269_271.out _; (with_reducible repeat (first | refine blk_drewN ?_ _ | refine blk_drew ?_ | refine blk_alloc ?_ _)); refine blk_far ?_ NB269_271.out _; (with_reducible repeat (first | refine blk_drewN ?_ _ | refine blk_drew ?_ | refine blk_alloc ?_ _)); refine blk_far ?_ NB269_271.out _; (with_reducible repeat (first | refine blk_drewN ?_ _ | refine blk_drew ?_ | refine blk_alloc ?_ _)); refine blk_far ?_ NB269_271.out _; (with_reducible repeat (first | refine blk_drewN ?_ _ | refine blk_drew ?_ | refine blk_alloc ?_ _)); exact BK269.out⟩, ⟨by (with_reducible repeat (first | refine blk_drewN ?_ _ | refine blk_drew ?_ | refine blk_alloc ?_ _)); refine blk_far ?_ NB270_271.out _; (with_reducible repeat (first | refine blk_drewN ?_ _ | refine blk_drew ?_ | refine blk_alloc ?_ _)); refine blk_far ?_ NB270_271.out _; (with_reducible repeat (first | refine blk_drewN ?_ _ | refine blk_drew ?_ | refine blk_alloc ?_ _)); refine blk_far ?_ NB270_271.out _; (with_reducible repeat (first | refine blk_drewN ?_ _ | refine blk_drew ?_ | refine blk_alloc ?_ _)); refine blk_far ?_ NB270_271.out _; (with_reducible repeat (first | refine blk_drewN ?_ _ | refine blk_drew ?_ | refine blk_alloc ?_ _)); exact BK270.out⟩, ⟨by (with_reducible repeat (first | refine blk_drewN ?_ _ | refine blk_drew ?_ | refine blk_alloc ?_ _)); refine blk_put (cs := #[.int .i16 0, .int .i16 0, .int .i16 0, .int .i16 0]) ?_ 3 _ rfl; (with_reducible repeat (first | refine blk_drewN ?_ _ | refine blk_drew ?_ | refine blk_alloc ?_ _)); refine blk_put (cs := #[.int .i16 0, .int .i16 0, .int .i16 0, .int .i16 0]) ?_ 2 _ rfl; (with_reducible repeat (first | refine blk_drewN ?_ _ | refine blk_drew ?_ | refine blk_alloc ?_ _)); refine blk_put (cs := #[.int .i16 0, .int .i16 0, .int .i16 0, .int .i16 0]) ?_ 1 _ rfl; (with_reducible repeat (first | refine blk_drewN ?_ _ | refine blk_drew ?_ | refine blk_alloc ?_ _)); refine blk_put (cs := #[.int .i16 0, .int .i16 0, .int .i16 0, .int .i16 0]) ?_ 0 _ rfl; (with_reducible repeat (first | refine blk_drewN ?_ _ | refine blk_drew ?_ | refine blk_alloc ?_ _)); exact BK271.out⟩, ⟨by repeat (first | (with_reducible first | exact HB.out | apply below_alloc | apply pw_below_drewN | apply below_drew1 | refine below_set ?_ GE269.out | refine below_set ?_ GE270.out | refine below_set ?_ GE271.out) | exact HB.out)⟩⟩
  case round =>
    clear H'
    try clear p2
    try clear c5
    try clear c6
    try clear hcz7_0
    try clear hcz7_1
    try clear hcz7_2
    try clear hcz7_3
    try clear hfz7_0
    try clear hfz7_1
    try clear hfz7_2
    try clear hfz7_3
    obtain ⟨x1_1, x6_1, x272000_1, x272001_1, x272002_1, x272003_1, rfl, rfl, HA, HK1, BK269, BK270, BK271, HB⟩ := hrel
    cases gk with
    | zero => exact absurd HA.out (by simp [spec_l02At.l0])
    | succ k1 =>
      have H := HA.out
      clear HA
      simp only [spec_l02At.l0] at H
      by_cases c8 : x6_1 < (l0_0.length : Int)
      · rw [if_pos c8] at H
        have c8b0 : decide (x6_1 < (l0_0.length : Int)) = true := decide_eq_true c8
        clear c8
        by_cases c9 : 0 ≤ x6_1
        · rw [if_pos c9] at H
          have c9b0 : decide (0 ≤ x6_1) = true := decide_eq_true c9
          clear c9
          by_cases c10 : (wrap64 ((wrap64 (rd l0_0 x6_1)) + 1)) = 0
          · rw [if_pos c10] at H
            exact absurd H (by simp)
          · rw [if_neg c10] at H
            have c10b0 : ((wrap64 ((wrap64 (rd l0_0 x6_1)) + 1)) == 0) = false := beq_eq_false_iff_ne.mpr c10
            have c10b1 : ((wrap64 ((wrap64 (rd l0_0 x6_1)) + 1)) != 0) = true := bne_iff_ne.mpr c10
            by_cases c11 : x6_1 < 4
            · rw [if_pos c11] at H
              have c11b0 : decide (x6_1 < 4) = true := decide_eq_true c11
              clear c11
              have H' := Aside0.mk H
              clear H
              have hnb14 := NB269_270.out
              have hnc14 := NB270_269.out
              have hnb15 := NB269_271.out
              have hnc15 := NB271_269.out
              have hcz16_0 : wr.cell? ⟨gp0, 0, none⟩ = some (.slice A0_0 l0_0.length c0_0) := (blk_cell BK269.out 0).trans rfl
              have hcz16_1 : wr.cell? ⟨gp0, 1, none⟩ = some (.int .i16 a0_1) := (blk_cell BK269.out 1).trans rfl
              have hcz16_2 : wr.cell? ⟨gp0, 2, none⟩ = some (.int .i16 a0_2) := (blk_cell BK269.out 2).trans rfl
              have hcz16_3 : wr.cell? ⟨gp0, 3, none⟩ = some (.int .i16 a0_3) := (blk_cell BK269.out 3).trans rfl
              have hcz16_4 : wr.cell? ⟨gp0, 4, none⟩ = some (.int .i16 a0_4) := (blk_cell BK269.out 4).trans rfl
              have hcz16_5 : wr.cell? ⟨gp0, 5, none⟩ = some (.bool a0_5) := (blk_cell BK269.out 5).trans rfl
              have hfz16_0 := blk_frozen BK269.out 0
              have hfz16_1 := blk_frozen BK269.out 1
              have hfz16_2 := blk_frozen BK269.out 2
              have hfz16_3 := blk_frozen BK269.out 3
              have hfz16_4 := blk_frozen BK269.out 4
              have hfz16_5 := blk_frozen BK269.out 5
              have p272 : 0 ≤ (x6_1 : Int) := of_decide_eq_true (by first | (with_reducible assumption) | assumption)
              have q272 : x6_1 < (l0_0.length : Int) := of_decide_eq_true (by first | (with_reducible assumption) | assumption)
              obtain ⟨ad272, e272, hx272_0⟩ := Kd.at_int HR0_0.out x6_1 p272 q272
              cases e272
              replace hx272_0 := (HB.out.cell (World.block_lt_of_cell? w _ hx272_0)).trans hx272_0
              replace p272 := eq_true p272
              replace q272 := eq_true q272
              have hnb17 := NB271_270.out
              have hnc17 := NB270_271.out
              have hcz18_0 : wr.cell? ⟨gb271, 0, none⟩ = some (.int .i16 x272000_1) := (blk_cell BK271.out 0).trans rfl
              have hcz18_1 : wr.cell? ⟨gb271, 1, none⟩ = some (.int .i16 x272001_1) := (blk_cell BK271.out 1).trans rfl
              have hcz18_2 : wr.cell? ⟨gb271, 2, none⟩ = some (.int .i16 x272002_1) := (blk_cell BK271.out 2).trans rfl
              have hcz18_3 : wr.cell? ⟨gb271, 3, none⟩ = some (.int .i16 x272003_1) := (blk_cell BK271.out 3).trans rfl
              have hfz18_0 := blk_frozen BK271.out 0
              have hfz18_1 := blk_frozen BK271.out 1
              have hfz18_2 := blk_frozen BK271.out 2
              have hfz18_3 := blk_frozen BK271.out 3
              have p12 : 0 ≤ (x6_1 : Int) := of_decide_eq_true (by first | (with_reducible assumption) | assumption)
              have q12 : (x6_1 : Int) < 4 := of_decide_eq_true (by first | (with_reducible assumption) | assumption)
              have hx12 : wr.cell? ⟨gb271, (x6_1 : Int).toNat, none⟩ = some (.int .i16 (rd [x272000_1, x272001_1, x272002_1, x272003_1] x6_1)) := ard_cell (k := .i16) (l := [x272000_1, x272001_1, x272002_1, x272003_1]) BK271.out p12 q12
              have hf12 := blk_frozen BK271.out (x6_1 : Int).toNat
              have P12 := Aside0.mk p12
              have Q12 := Aside0.mk q12
              replace p12 := eq_true p12
              replace q12 := eq_true q12
              go_wp2_with (first | ((with_reducible refine gate_store (t := 23) (p := 32) rfl ?_); refine store_event (t := 23) (p := 32) (v := ?vo_w19) (w1 := (wr.setCell ⟨gb271, (x6_1 : Int).toNat, none⟩ (.int .i16 (IntKind.i16.wrap (Int.tmod x1_1 (wrap64 ((wrap64 (rd l0_0 x6_1)) + 1))))))) ?hg ?ho ?hn ?hr ?_; (case ho => rfl); (case hg => rfl); (case hn => rfl); (case hr => first | (go_simp; done) | (go_simp; rfl)); intro w19 hw; have n0_ : Aside0 (w19.heap[gp0]? = some (.cells #[.slice (some ad272) l0_0.length c0_0, .int .i16 a0_1, .int .i16 a0_2, .int .i16 a0_3, .int .i16 a0_4, .bool a0_5] 32 (0, 0))) := ⟨(by rw [hw]; exact (by (with_reducible repeat (first | refine blk_drewN ?_ _ | refine blk_drew ?_ | refine blk_alloc ?_ _)); refine blk_far ?_ NB269_271.out _; (with_reducible repeat (first | refine blk_drewN ?_ _ | refine blk_drew ?_ | refine blk_alloc ?_ _)); exact BK269.out))⟩; have n1_ : Aside0 (w19.heap[gb270]? = some (.cells #[.int .i16 0, .int .i16 0, .int .i16 0, .int .i16 0] 30 (0, 0))) := ⟨(by rw [hw]; exact (by (with_reducible repeat (first | refine blk_drewN ?_ _ | refine blk_drew ?_ | refine blk_alloc ?_ _)); refine blk_far ?_ NB270_271.out _; (with_reducible repeat (first | refine blk_drewN ?_ _ | refine blk_drew ?_ | refine blk_alloc ?_ _)); exact BK270.out))⟩; have n2_ : Aside0 (w19.heap[gb271]? = some (.cells #[.int .i16 (aup x6_1 0 (IntKind.i16.wrap (Int.tmod x1_1 (wrap64 ((wrap64 (rd l0_0 x6_1)) + 1)))) x272000_1), .int .i16 (aup x6_1 1 (IntKind.i16.wrap (Int.tmod x1_1 (wrap64 ((wrap64 (rd l0_0 x6_1)) + 1)))) x272001_1), .int .i16 (aup x6_1 2 (IntKind.i16.wrap (Int.tmod x1_1 (wrap64 ((wrap64 (rd l0_0 x6_1)) + 1)))) x272002_1), .int .i16 (aup x6_1 3 (IntKind.i16.wrap (Int.tmod x1_1 (wrap64 ((wrap64 (rd l0_0 x6_1)) + 1)))) x272003_1)] 30 (0, 0))) := ⟨(by rw [hw]; exact (by (with_reducible repeat (first | refine blk_drewN ?_ _ | refine blk_drew ?_ | refine blk_alloc ?_ _)); refine blk_put (cs := #[.int .i16 x272000_1, .int .i16 x272001_1, .int .i16 x272002_1, .int .i16 x272003_1]) ?_ (x6_1 : Int).toNat _ (ups_set (k := .i16) (l := [x272000_1, x272001_1, x272002_1, x272003_1]) P12.out); (with_reducible repeat (first | refine blk_drewN ?_ _ | refine blk_drew ?_ | refine blk_alloc ?_ _)); exact BK271.out))⟩; have n3_ : Aside0 (Below w.heap.size w w19) := ⟨(by rw [hw]; exact (by repeat (first | (with_reducible first | exact HB.out | apply below_alloc | apply pw_below_drewN | apply below_drew1 | refine below_set ?_ GE269.out | refine below_set ?_ GE270.out | refine below_set ?_ GE271.out) | exact HB.out)))⟩; clear hw; clear BK269; clear BK270; clear BK271; clear HB; have BK269 := n0_; have BK270 := n1_; have BK271 := n2_; have HB := n3_; clear n0_ n1_ n2_ n3_))
              go_roundg k1
              case measure => have := HK1.out; omega
              case rel => exact ⟨(wrap64 (Int.tdiv x1_1 (wrap64 ((wrap64 (rd l0_0 x6_1)) + 1)))), (wrap64 (x6_1 + 1)), (aup x6_1 0 (IntKind.i16.wrap (Int.tmod x1_1 (wrap64 ((wrap64 (rd l0_0 x6_1)) + 1)))) x272000_1), (aup x6_1 1 (IntKind.i16.wrap (Int.tmod x1_1 (wrap64 ((wrap64 (rd l0_0 x6_1)) + 1)))) x272001_1), (aup x6_1 2 (IntKind.i16.wrap (Int.tmod x1_1 (wrap64 ((wrap64 (rd l0_0 x6_1)) + 1)))) x272002_1), (aup x6_1 3 (IntKind.i16.wrap (Int.tmod x1_1 (wrap64 ((wrap64 (rd l0_0 x6_1)) + 1)))) x272003_1), (by first | rfl | (simp; done) | (simp [*]; done)), (by first | rfl | (simp; done) | (simp [*]; done)), H', ⟨by have := HK1.out; omega⟩, ⟨by (with_reducible repeat (first | refine blk_drewN ?_ _ | refine blk_drew ?_ | refine blk_alloc ?_ _)); exact BK269.out⟩, ⟨by (with_reducible repeat (first | refine blk_drewN ?_ _ | refine blk_drew ?_ | refine blk_alloc ?_ _)); exact BK270.out⟩, ⟨by (with_reducible repeat (first | refine blk_drewN ?_ _ | refine blk_drew ?_ | refine blk_alloc ?_ _)); exact BK271.out⟩, ⟨by repeat (first | (with_reducible first | exact HB.out | apply below_alloc | apply pw_below_drewN | apply below_drew1 | refine below_set ?_ GE269.out | refine below_set ?_ GE270.out | refine below_set ?_ GE271.out) | exact HB.out)⟩⟩
            · rw [if_neg c11] at H
              exact absurd H (by simp)
        · rw [if_neg c9] at H
          exact absurd H (by simp)
      · rw [if_neg c8] at H
        have c8b0 : decide (x6_1 < (l0_0.length : Int)) = false := decide_eq_false c8
        clear c8
        simp only [Option.some.injEq, Prod.mk.injEq] at H
        obtain ⟨rfl, rfl, rfl, rfl⟩ := H
        have hnb20 := NB269_270.out
        have hnc20 := NB270_269.out
        have hnb21 := NB269_271.out
        have hnc21 := NB271_269.out
        have hcz22_0 : wr.cell? ⟨gp0, 0, none⟩ = some (.slice A0_0 l0_0.length c0_0) := (blk_cell BK269.out 0).trans rfl
        have hcz22_1 : wr.cell? ⟨gp0, 1, none⟩ = some (.int .i16 a0_1) := (blk_cell BK269.out 1).trans rfl
        have hcz22_2 : wr.cell? ⟨gp0, 2, none⟩ = some (.int .i16 a0_2) := (blk_cell BK269.out 2).trans rfl
        have hcz22_3 : wr.cell? ⟨gp0, 3, none⟩ = some (.int .i16 a0_3) := (blk_cell BK269.out 3).trans rfl
        have hcz22_4 : wr.cell? ⟨gp0, 4, none⟩ = some (.int .i16 a0_4) := (blk_cell BK269.out 4).trans rfl
        have hcz22_5 : wr.cell? ⟨gp0, 5, none⟩ = some (.bool a0_5) := (blk_cell BK269.out 5).trans rfl
        have hfz22_0 := blk_frozen BK269.out 0
        have hfz22_1 := blk_frozen BK269.out 1
        have hfz22_2 := blk_frozen BK269.out 2
        have hfz22_3 := blk_frozen BK269.out 3
        have hfz22_4 := blk_frozen BK269.out 4
        have hfz22_5 := blk_frozen BK269.out 5
        have hnb23 := NB271_270.out
        have hnc23 := NB270_271.out
        have hcz24_0 : wr.cell? ⟨gb271, 0, none⟩ = some (.int .i16 x272000_1) := (blk_cell BK271.out 0).trans rfl
        have hcz24_1 : wr.cell? ⟨gb271, 1, none⟩ = some (.int .i16 x272001_1) := (blk_cell BK271.out 1).trans rfl
        have hcz24_2 : wr.cell? ⟨gb271, 2, none⟩ = some (.int .i16 x272002_1) := (blk_cell BK271.out 2).trans rfl
        have hcz24_3 : wr.cell? ⟨gb271, 3, none⟩ = some (.int .i16 x272003_1) := (blk_cell BK271.out 3).trans rfl
        have hfz24_0 := blk_frozen BK271.out 0
        have hfz24_1 := blk_frozen BK271.out 1
        have hfz24_2 := blk_frozen BK271.out 2
        have hfz24_3 := blk_frozen BK271.out 3
        have hcz25_0 : wr.cell? ⟨gb270, 0, none⟩ = some (.int .i16 0) := (blk_cell BK270.out 0).trans rfl
        have hcz25_1 : wr.cell? ⟨gb270, 1, none⟩ = some (.int .i16 0) := (blk_cell BK270.out 1).trans rfl
        have hcz25_2 : wr.cell? ⟨gb270, 2, none⟩ = some (.int .i16 0) := (blk_cell BK270.out 2).trans rfl
        have hcz25_3 : wr.cell? ⟨gb270, 3, none⟩ = some (.int .i16 0) := (blk_cell BK270.out 3).trans rfl
        have hfz25_0 := blk_frozen BK270.out 0
        have hfz25_1 := blk_frozen BK270.out 1
        have hfz25_2 := blk_frozen BK270.out 2
        have hfz25_3 := blk_frozen BK270.out 3
        go_wp2
        refine bodyPost_ret (results_cell_row rfl _ _ gb270 30 #[.int .i16 x272000_1, .int .i16 x272001_1, .int .i16 x272002_1, .int .i16 x272003_1] (0, 0) _ rfl (by (with_reducible repeat (first | refine blk_drewN ?_ _ | refine blk_drew ?_ | refine blk_alloc ?_ _)); refine blk_put (cs := #[.int .i16 x272000_1, .int .i16 x272001_1, .int .i16 x272002_1, .int .i16 0]) ?_ 3 _ rfl; (with_reducible repeat (first | refine blk_drewN ?_ _ | refine blk_drew ?_ | refine blk_alloc ?_ _)); refine blk_put (cs := #[.int .i16 x272000_1, .int .i16 x272001_1, .int .i16 0, .int .i16 0]) ?_ 2 _ rfl; (with_reducible repeat (first | refine blk_drewN ?_ _ | refine blk_drew ?_ | refine blk_alloc ?_ _)); refine blk_put (cs := #[.int .i16 x272000_1, .int .i16 0, .int .i16 0, .int .i16 0]) ?_ 1 _ rfl; (with_reducible repeat (first | refine blk_drewN ?_ _ | refine blk_drew ?_ | refine blk_alloc ?_ _)); refine blk_put (cs := #[.int .i16 0, .int .i16 0, .int .i16 0, .int .i16 0]) ?_ 0 _ rfl; (with_reducible repeat (first | refine blk_drewN ?_ _ | refine blk_drew ?_ | refine blk_alloc ?_ _)); exact BK270.out) Try.underlying30 rfl (by kernel_rfl)) rfl ?_
        exact ⟨by first | rfl | (simp [errW_none, errW_some] <;> rfl) | (simp [*, errW_none, errW_some] <;> rfl), by repeat (first | (with_reducible first | exact HB.out | apply below_alloc | apply pw_below_drewN | apply below_drew1 | refine below_set ?_ GE269.out | refine below_set ?_ GE270.out | refine below_set ?_ GE271.out) | exact HB.out)⟩

/-! ### spec_WaterAt: function 32 -/
def spec_WaterAt.f (k : Nat) (l0_0 : List Int) (a0_1 : Int) (a0_2 : Int) (a0_3 : Int) (a0_4 : Int) (a0_5 : Bool) (a1 : Int) : Option (Int × Int × Int × Int × Int) := (spec_l02Ok.f k l0_0 a0_1 a0_2 a0_3 a0_4 a0_5).bind fun t275 => (if t275 = true then ((spec_l02States.f k l0_0).bind fun t276 => ((spec_l00In.f a1 0 (wrap64 (t276 - 1))).bind fun t277 => (if t277 = true then ((spec_l02At.f k l0_0 a0_1 a0_2 a0_3 a0_4 a0_5 a1).bind fun bt278 => (some (bt278.1, bt278.2.1, bt278.2.2.1, bt278.2.2.2, 0))) else (some (0, 0, 0, 0, 2))))) else (some (0, 0, 0, 0, 1)))
theorem spec_WaterAt.mono : ∀ a0 a1 a2 a3 a4 a5 a6 k, LeO (spec_WaterAt.f k a0 a1 a2 a3 a4 a5 a6) (spec_WaterAt.f (k + 1) a0 a1 a2 a3 a4 a5 a6) := by
  intro a0 a1 a2 a3 a4 a5 a6 k
  unfold spec_WaterAt.f
  repeat' first
      | (with_reducible exact spec_l02At.mono _ _ _ _ _ _ _ _)
      | (with_reducible exact spec_l02Ok.mono _ _ _ _ _ _ _)
      | (with_reducible exact spec_l02States.mono _ _)
      | (with_reducible exact LeO.refl _)
      | (with_reducible exact LeO.none _)
      | (with_reducible refine LeO.ite ?_ ?_)
      | (with_reducible refine LeO.bind ?_ (fun _ => ?_))
      | exact spec_l02At.mono _ _ _ _ _ _ _ _
      | exact spec_l02Ok.mono _ _ _ _ _ _ _
      | exact spec_l02States.mono _ _
      | exact LeO.none _
      | refine LeO.ite ?_ ?_
      | refine LeO.bind ?_ (fun _ => ?_)
set_option maxHeartbeats 8000000 in
set_option maxRecDepth 100000 in
theorem spec_WaterAt.calls (k : Nat) (A0_0 : Option Addr) (c0_0 : Nat) (l0_0 : List Int) (a0_1 : Int) (a0_2 : Int) (a0_3 : Int) (a0_4 : Int) (a0_5 : Bool) (a1 : Int) (r1 : Int) (r2 : Int) (r3 : Int) (r4 : Int) (r5 : Int) (w : World) (hr0_0 : Kd.C (Kd.int .i16) w A0_0 l0_0.length l0_0) (hc0_0 : l0_0.length ≤ c0_0) (h : spec_WaterAt.f k l0_0 a0_1 a0_2 a0_3 a0_4 a0_5 a1 = some (r1, r2, r3, r4, r5)) :
    Calls Try.prog 32 #[.agg #[.slice A0_0 l0_0.length c0_0, .int .i16 a0_1, .int .i16 a0_2, .int .i16 a0_3, .int .i16 a0_4, .bool a0_5], .int .i64 a1] w fun e w' => e = .returned (.tuple #[.agg #[.int .i16 r1, .int .i16 r2, .int .i16 r3, .int .i16 r4], .int .i64 r5]) ∧ Below w.heap.size w w' := by
  have hu32 := Try.underlying32
  have hu30 := Try.underlying30
  have HR0_0 := Aside0.mk hr0_0
  have HC0_0 := Aside0.mk hc0_0
  clear hr0_0 hc0_0
  have HB := Aside0.mk (Below.refl w.heap.size w)
  have H : ((spec_l02Ok.f k l0_0 a0_1 a0_2 a0_3 a0_4 a0_5).bind fun t275 => (if t275 = true then ((spec_l02States.f k l0_0).bind fun t276 => ((spec_l00In.f a1 0 (wrap64 (t276 - 1))).bind fun t277 => (if t277 = true then ((spec_l02At.f k l0_0 a0_1 a0_2 a0_3 a0_4 a0_5 a1).bind fun bt278 => (some (bt278.1, bt278.2.1, bt278.2.2.1, bt278.2.2.2, 0))) else (some (0, 0, 0, 0, 2))))) else (some (0, 0, 0, 0, 1)))) = some (r1, r2, r3, r4, r5) := h
  clear h
  replace H := Option.bind_eq_some_iff.mp H
  obtain ⟨t275, A30, H⟩ := H
  replace H : (if t275 = true then ((spec_l02States.f k l0_0).bind fun t276 => ((spec_l00In.f a1 0 (wrap64 (t276 - 1))).bind fun t277 => (if t277 = true then ((spec_l02At.f k l0_0 a0_1 a0_2 a0_3 a0_4 a0_5 a1).bind fun bt278 => (some (bt278.1, bt278.2.1, bt278.2.2.1, bt278.2.2.2, 0))) else (some (0, 0, 0, 0, 2))))) else (some (0, 0, 0, 0, 1))) = some (r1, r2, r3, r4, r5) := H
  have A3 := Aside0.mk A30
  clear A30
  by_cases c4 : t275 = true
  · subst c4
    have H1 : ((spec_l02States.f k l0_0).bind fun t276 => ((spec_l00In.f a1 0 (wrap64 (t276 - 1))).bind fun t277 => (if t277 = true then ((spec_l02At.f k l0_0 a0_1 a0_2 a0_3 a0_4 a0_5 a1).bind fun bt278 => (some (bt278.1, bt278.2.1, bt278.2.2.1, bt278.2.2.2, 0))) else (some (0, 0, 0, 0, 2))))) = some (r1, r2, r3, r4, r5) := by rw [if_pos rfl] at H; exact H
    clear H
    have H := H1
    clear H1
    replace H := Option.bind_eq_some_iff.mp H
    obtain ⟨t276, A50, H⟩ := H
    replace H : ((spec_l00In.f a1 0 (wrap64 (t276 - 1))).bind fun t277 => (if t277 = true then ((spec_l02At.f k l0_0 a0_1 a0_2 a0_3 a0_4 a0_5 a1).bind fun bt278 => (some (bt278.1, bt278.2.1, bt278.2.2.1, bt278.2.2.2, 0))) else (some (0, 0, 0, 0, 2)))) = some (r1, r2, r3, r4, r5) := H
    have A5 := Aside0.mk A50
    clear A50
    replace H := Option.bind_eq_some_iff.mp H
    obtain ⟨t277, A60, H⟩ := H
    replace H : (if t277 = true then ((spec_l02At.f k l0_0 a0_1 a0_2 a0_3 a0_4 a0_5 a1).bind fun bt278 => (some (bt278.1, bt278.2.1, bt278.2.2.1, bt278.2.2.2, 0))) else (some (0, 0, 0, 0, 2))) = some (r1, r2, r3, r4, r5) := H
    have A6 := Aside0.mk A60
    clear A60
    by_cases c7 : t277 = true
    · subst c7
      have H1 : ((spec_l02At.f k l0_0 a0_1 a0_2 a0_3 a0_4 a0_5 a1).bind fun bt278 => (some (bt278.1, bt278.2.1, bt278.2.2.1, bt278.2.2.2, 0))) = some (r1, r2, r3, r4, r5) := by rw [if_pos rfl] at H; exact H
      clear H
      have H := H1
      clear H1
      replace H := Option.bind_eq_some_iff.mp H
      obtain ⟨⟨t278, t279, t280, t281⟩, A80, H⟩ := H
      replace H : (some (t278, t279, t280, t281, 0)) = some (r1, r2, r3, r4, r5) := H
      have A8 := Aside0.mk A80
      clear A80
      simp only [Option.some.injEq, Prod.mk.injEq] at H
      obtain ⟨rfl, rfl, rfl, rfl, rfl⟩ := H
      go_enter Try.func32, Try.ntmps32
      go_wp2_with (first | ((with_reducible refine gate_dst (N := 2) rfl ?_); refine box_event ?hg (N := 2) ?hd (cs := #[.slice A0_0 l0_0.length c0_0, .int .i16 a0_1, .int .i16 a0_2, .int .i16 a0_3, .int .i16 a0_4, .bool a0_5]) (t := 32) ?hr ?_; (case hd => rfl); (case hg => rfl); (case hr => first | (go_simp; done) | (go_simp; rfl)); intro gb273 hg w9 hbox hb; have n0_ := Aside0.mk (below_step (by repeat (first | (with_reducible first | exact HB.out | apply below_alloc | apply pw_below_drewN | apply below_drew1) | exact HB.out)) hb); have n1_ := Aside0.mk (hbox); have n2_ := Aside0.mk ((by rw [hg]; exact (below_size (by repeat (first | (with_reducible first | exact HB.out | apply below_alloc | apply pw_below_drewN | apply below_drew1) | exact HB.out))) : w.heap.size ≤ gb273)); have n3_ := Aside0.mk ((by rw [hg]; exact (below_size (by repeat (first | (with_reducible first | exact HB.out | apply below_alloc | apply pw_below_drewN | apply below_drew1) | exact HB.out))) : w.heap.size ≤ gb273)); clear HB; have HB := n0_; have BK273 := n1_; have GW273 := n2_; have GE273 := n3_; clear n0_ n1_ n2_ n3_; clear hb hbox hg) | ((with_reducible refine gate_dst (N := 4) rfl ?_); refine box_event ?hg (N := 4) ?hd (cs := #[.int .i16 0, .int .i16 0, .int .i16 0, .int .i16 0]) (t := 30) ?hr ?_; (case hd => rfl); (case hg => rfl); (case hr => first | (go_simp; done) | (go_simp; rfl)); intro gb274 hg w10 hbox hb; have n0_ := Aside0.mk (blk_below (g := gb273) (o := .cells #[.slice A0_0 l0_0.length c0_0, .int .i16 a0_1, .int .i16 a0_2, .int .i16 a0_3, .int .i16 a0_4, .bool a0_5] 32 (0, 0)) (by (with_reducible repeat (first | refine blk_drewN ?_ _ | refine blk_drew ?_ | refine blk_alloc ?_ _)); exact BK273.out) hb); have n1_ := Aside0.mk (below_step (by repeat (first | (with_reducible first | exact HB.out | apply below_alloc | apply pw_below_drewN | apply below_drew1 | refine below_set ?_ GE273.out) | exact HB.out)) hb); have n2_ := Aside0.mk (hbox); have n3_ := Aside0.mk ((by rw [hg]; exact (below_size (by repeat (first | (with_reducible first | exact HB.out | apply below_alloc | apply pw_below_drewN | apply below_drew1 | refine below_set ?_ GE273.out) | exact HB.out))) : w.heap.size ≤ gb274)); have n4_ := Aside0.mk ((by rw [hg]; exact (below_size (by repeat (first | (with_reducible first | exact HB.out | apply below_alloc | apply pw_below_drewN | apply below_drew1 | refine below_set ?_ GE273.out) | exact HB.out))) : w.heap.size ≤ gb274)); have n5_ := Aside0.mk ((by rw [hg]; exact Nat.ne_of_lt (blk_lt (g := gb273) (o := .cells #[.slice A0_0 l0_0.length c0_0, .int .i16 a0_1, .int .i16 a0_2, .int .i16 a0_3, .int .i16 a0_4, .bool a0_5] 32 (0, 0)) (by (with_reducible repeat (first | refine blk_drewN ?_ _ | refine blk_drew ?_ | refine blk_alloc ?_ _)); exact BK273.out)) : gb273 ≠ gb274)); have n6_ := Aside0.mk ((by rw [hg]; exact Nat.ne_of_gt (blk_lt (g := gb273) (o := .cells #[.slice A0_0 l0_0.length c0_0, .int .i16 a0_1, .int .i16 a0_2, .int .i16 a0_3, .int .i16 a0_4, .bool a0_5] 32 (0, 0)) (by (with_reducible repeat (first | refine blk_drewN ?_ _ | refine blk_drew ?_ | refine blk_alloc ?_ _)); exact BK273.out)) : gb274 ≠ gb273)); clear BK273; clear HB; have BK273 := n0_; have HB := n1_; have BK274 := n2_; have GW274 := n3_; have GE274 := n4_; have NB273_274 := n5_; have NB274_273 := n6_; clear n0_ n1_ n2_ n3_ n4_ n5_ n6_; clear hb hbox hg) | ((with_reducible refine gate_callee (f := 68) rfl ?_); refine goesL_ (some 6) rfl rfl Try.func68 (by kernel_rfl) rfl #[.pointer (some ⟨gb273, 0, none⟩)] rfl (by (try simp only [List.map_toArray, List.map_cons, List.map_nil]); first | done | rfl | (simp only [List.length_drop, List.length_take]; rfl)) ?_; (with_reducible refine (spec_l02Ok.calls k gb273 A0_0 c0_0 l0_0 a0_1 a0_2 a0_3 a0_4 a0_5 true _ ?side1 ?side2 ?side3 A3.out).mono ?_); (case side1 => exact (by (with_reducible repeat (first | refine blk_drewN ?_ _ | refine blk_drew ?_ | refine blk_alloc ?_ _)); exact BK273.out)); (case side2 => repeat (first | exact (Kd.C_below HR0_0.out HB.out) | (with_reducible refine Kd.C_alloc ?_ _) | (with_reducible refine Kd.C_drewN ?_ _) | (with_reducible refine Kd.C_drew ?_))); (case side3 => exact HC0_0.out); rintro e w11 ⟨rfl, hb⟩; refine ⟨_, rfl, ?_⟩; have n0_ := Aside0.mk (blk_below (g := gb273) (o := .cells #[.slice A0_0 l0_0.length c0_0, .int .i16 a0_1, .int .i16 a0_2, .int .i16 a0_3, .int .i16 a0_4, .bool a0_5] 32 (0, 0)) (by (with_reducible repeat (first | refine blk_drewN ?_ _ | refine blk_drew ?_ | refine blk_alloc ?_ _)); exact BK273.out) hb); have n1_ := Aside0.mk (blk_below (g := gb274) (o := .cells #[.int .i16 0, .int .i16 0, .int .i16 0, .int .i16 0] 30 (0, 0)) (by (with_reducible repeat (first | refine blk_drewN ?_ _ | refine blk_drew ?_ | refine blk_alloc ?_ _)); exact BK274.out) hb); have n2_ := Aside0.mk (below_step (by repeat (first | (with_reducible first | exact HB.out | apply below_alloc | apply pw_below_drewN | apply below_drew1 | refine below_set ?_ GE273.out | refine below_set ?_ GE274.out) | exact HB.out)) hb); clear BK273; clear BK274; clear HB; have BK273 := n0_; have BK274 := n1_; have HB := n2_; clear n0_ n1_ n2_; (try clear hb); (try clear hb2); (try clear hk); (try clear hi); have hnb12 := NB273_274.out; have hnc12 := NB274_273.out; have hcz13_0 : w11.cell? ⟨gb273, 0, none⟩ = some (.slice A0_0 l0_0.length c0_0) := (blk_cell BK273.out 0).trans rfl; have hcz13_1 : w11.cell? ⟨gb273, 1, none⟩ = some (.int .i16 a0_1) := (blk_cell BK273.out 1).trans rfl; have hcz13_2 : w11.cell? ⟨gb273, 2, none⟩ = some (.int .i16 a0_2) := (blk_cell BK273.out 2).trans rfl; have hcz13_3 : w11.cell? ⟨gb273, 3, none⟩ = some (.int .i16 a0_3) := (blk_cell BK273.out 3).trans rfl; have hcz13_4 : w11.cell? ⟨gb273, 4, none⟩ = some (.int .i16 a0_4) := (blk_cell BK273.out 4).trans rfl; have hcz13_5 : w11.cell? ⟨gb273, 5, none⟩ = some (.bool a0_5) := (blk_cell BK273.out 5).trans rfl; have hfz13_0 := blk_frozen BK273.out 0; have hfz13_1 := blk_frozen BK273.out 1; have hfz13_2 := blk_frozen BK273.out 2; have hfz13_3 := blk_frozen BK273.out 3; have hfz13_4 := blk_frozen BK273.out 4; have hfz13_5 := blk_frozen BK273.out 5) | ((with_reducible refine gate_callee (f := 74) rfl ?_); refine goesL_ (some 12) rfl rfl Try.func74 (by kernel_rfl) rfl #[.slice A0_0 l0_0.length c0_0] rfl (by (try simp only [List.map_toArray, List.map_cons, List.map_nil]); first | done | rfl | (simp only [List.length_drop, List.length_take]; rfl)) ?_; (with_reducible refine (spec_l02States.calls k _ _ l0_0 t276 _ ?side1 ?side2 A5.out).mono ?_); (case side1 => repeat (first | exact (Kd.C_below HR0_0.out HB.out) | (with_reducible refine Kd.C_alloc ?_ _) | (with_reducible refine Kd.C_drewN ?_ _) | (with_reducible refine Kd.C_drew ?_))); (case side2 => exact HC0_0.out); rintro e w' ⟨rfl, ⟨nd, rfl⟩⟩; refine ⟨_, rfl, ?_⟩; (try (rw [drewN_self w11]; generalize hq_ : World.drewN w11 _ = w11; have n0_ : Aside0 (w11.heap[gb273]? = some (.cells #[.slice A0_0 l0_0.length c0_0, .int .i16 a0_1, .int .i16 a0_2, .int .i16 a0_3, .int .i16 a0_4, .bool a0_5] 32 (0, 0))) := ⟨by rw [← hq_]; exact (by (with_reducible repeat (first | refine blk_drewN ?_ _ | refine blk_drew ?_ | refine blk_alloc ?_ _)); exact BK273.out)⟩; have n1_ : Aside0 (w11.heap[gb274]? = some (.cells #[.int .i16 0, .int .i16 0, .int .i16 0, .int .i16 0] 30 (0, 0))) := ⟨by rw [← hq_]; exact (by (with_reducible repeat (first | refine blk_drewN ?_ _ | refine blk_drew ?_ | refine blk_alloc ?_ _)); exact BK274.out)⟩; have n2_ : Aside0 (Below w.heap.size w w11) := ⟨by rw [← hq_]; exact (by repeat (first | (with_reducible first | exact HB.out | apply below_alloc | apply pw_below_drewN | apply below_drew1 | refine below_set ?_ GE273.out | refine below_set ?_ GE274.out) | exact HB.out))⟩; clear BK273 BK274 HB hq_; have BK273 := n0_; have BK274 := n1_; have HB := n2_; clear n0_ n1_ n2_))) | ((with_reducible refine gate_callee (f := 77) rfl ?_); refine goesL_ (some 14) rfl rfl Try.func77 (by kernel_rfl) rfl #[.int .i64 a1, .int .i64 0, .int .i64 (wrap64 (t276 - 1))] rfl (by (try simp only [List.map_toArray, List.map_cons, List.map_nil]); first | done | rfl | (simp only [List.length_drop, List.length_take]; rfl)) ?_; (with_reducible refine (spec_l00In.calls a1 0 (wrap64 (t276 - 1)) true _ A6.out).mono ?_); rintro e w' ⟨rfl, ⟨nd, rfl⟩⟩; refine ⟨_, rfl, ?_⟩; (try (rw [drewN_self w11]; generalize hq_ : World.drewN w11 _ = w11; have n0_ : Aside0 (w11.heap[gb273]? = some (.cells #[.slice A0_0 l0_0.length c0_0, .int .i16 a0_1, .int .i16 a0_2, .int .i16 a0_3, .int .i16 a0_4, .bool a0_5] 32 (0, 0))) := ⟨by rw [← hq_]; exact (by (with_reducible repeat (first | refine blk_drewN ?_ _ | refine blk_drew ?_ | refine blk_alloc ?_ _)); exact BK273.out)⟩; have n1_ : Aside0 (w11.heap[gb274]? = some (.cells #[.int .i16 0, .int .i16 0, .int .i16 0, .int .i16 0] 30 (0, 0))) := ⟨by rw [← hq_]; exact (by (with_reducible repeat (first | refine blk_drewN ?_ _ | refine blk_drew ?_ | refine blk_alloc ?_ _)); exact BK274.out)⟩; have n2_ : Aside0 (Below w.heap.size w w11) := ⟨by rw [← hq_]; exact (by repeat (first | (with_reducible first | exact HB.out | apply below_alloc | apply pw_below_drewN | apply below_drew1 | refine below_set ?_ GE273.out | refine below_set ?_ GE274.out) | exact HB.out))⟩; clear BK273 BK274 HB hq_; have BK273 := n0_; have BK274 := n1_; have HB := n2_; clear n0_ n1_ n2_))) | ((with_reducible refine gate_callee (f := 61) rfl ?_); refine goesL_ (some 18) rfl rfl Try.func61 (by kernel_rfl) rfl #[.pointer (some ⟨gb273, 0, none⟩), .int .i64 a1] rfl (by (try simp only [List.map_toArray, List.map_cons, List.map_nil]); first | done | rfl | (simp only [List.length_drop, List.length_take]; rfl)) ?_; (with_reducible refine (spec_l02At.calls k gb273 A0_0 c0_0 l0_0 a0_1 a0_2 a0_3 a0_4 a0_5 a1 t278 t279 t280 t281 _ ?side1 ?side2 ?side3 A8.out).mono ?_); (case side1 => exact (by (with_reducible repeat (first | refine blk_drewN ?_ _ | refine blk_drew ?_ | refine blk_alloc ?_ _)); exact BK273.out)); (case side2 => repeat (first | exact (Kd.C_below HR0_0.out HB.out) | (with_reducible refine Kd.C_alloc ?_ _) | (with_reducible refine Kd.C_drewN ?_ _) | (with_reducible refine Kd.C_drew ?_))); (case side3 => exact HC0_0.out); rintro e w14 ⟨rfl, hb⟩; refine ⟨_, rfl, ?_⟩; have n0_ := Aside0.mk (blk_below (g := gb273) (o := .cells #[.slice A0_0 l0_0.length c0_0, .int .i16 a0_1, .int .i16 a0_2, .int .i16 a0_3, .int .i16 a0_4, .bool a0_5] 32 (0, 0)) (by (with_reducible repeat (first | refine blk_drewN ?_ _ | refine blk_drew ?_ | refine blk_alloc ?_ _)); exact BK273.out) hb); have n1_ := Aside0.mk (blk_below (g := gb274) (o := .cells #[.int .i16 0, .int .i16 0, .int .i16 0, .int .i16 0] 30 (0, 0)) (by (with_reducible repeat (first | refine blk_drewN ?_ _ | refine blk_drew ?_ | refine blk_alloc ?_ _)); exact BK274.out) hb); have n2_ := Aside0.mk (below_step (by repeat (first | (with_reducible first | exact HB.out | apply below_alloc | apply pw_below_drewN | apply below_drew1 | refine below_set ?_ GE273.out | refine below_set ?_ GE274.out) | exact HB.out)) hb); clear BK273; clear BK274; clear HB; have BK273 := n0_; have BK274 := n1_; have HB := n2_; clear n0_ n1_ n2_; (try clear hb); (try clear hb2); (try clear hk); (try clear hi); have hcz15_0 : w14.cell? ⟨gb274, 0, none⟩ = some (.int .i16 0) := (blk_cell BK274.out 0).trans rfl; have hcz15_1 : w14.cell? ⟨gb274, 1, none⟩ = some (.int .i16 0) := (blk_cell BK274.out 1).trans rfl; have hcz15_2 : w14.cell? ⟨gb274, 2, none⟩ = some (.int .i16 0) := (blk_cell BK274.out 2).trans rfl; have hcz15_3 : w14.cell? ⟨gb274, 3, none⟩ = some (.int .i16 0) := (blk_cell BK274.out 3).trans rfl; have hfz15_0 := blk_frozen BK274.out 0; have hfz15_1 := blk_frozen BK274.out 1; have hfz15_2 := blk_frozen BK274.out 2; have hfz15_3 := blk_frozen BK274.out 3))
      refine bodyPost_ret (results_ct rfl _ _ gb274 30 #[.int .i16 t278, .int .i16 t279, .int .i16 t280, .int .i16 t281] (0, 0) _ rfl (by (with_reducible repeat (first | refine blk_drewN ?_ _ | refine blk_drew ?_ | refine blk_alloc ?_ _)); refine blk_put (cs := #[.int .i16 t278, .int .i16 t279, .int .i16 t280, .int .i16 0]) ?_ 3 _ rfl; (with_reducible repeat (first | refine blk_drewN ?_ _ | refine blk_drew ?_ | refine blk_alloc ?_ _)); refine blk_put (cs := #[.int .i16 t278, .int .i16 t279, .int .i16 0, .int .i16 0]) ?_ 2 _ rfl; (with_reducible repeat (first | refine blk_drewN ?_ _ | refine blk_drew ?_ | refine blk_alloc ?_ _)); refine blk_put (cs := #[.int .i16 t278, .int .i16 0, .int .i16 0, .int .i16 0]) ?_ 1 _ rfl; (with_reducible repeat (first | refine blk_drewN ?_ _ | refine blk_drew ?_ | refine blk_alloc ?_ _)); refine blk_put (cs := #[.int .i16 0, .int .i16 0, .int .i16 0, .int .i16 0]) ?_ 0 _ rfl; (with_reducible repeat (first | refine blk_drewN ?_ _ | refine blk_drew ?_ | refine blk_alloc ?_ _)); exact BK274.out) Try.underlying30 rfl (by kernel_rfl)) rfl ?_
      exact ⟨by first | rfl | (simp [errW_none, errW_some] <;> rfl) | (simp [*, errW_none, errW_some] <;> rfl), by repeat (first | (with_reducible first | exact HB.out | apply below_alloc | apply pw_below_drewN | apply below_drew1 | refine below_set ?_ GE273.out | refine below_set ?_ GE274.out) | exact HB.out)⟩
    · replace c7 := Bool.eq_false_iff.mpr c7
      subst c7
      have H1 : (some (0, 0, 0, 0, 2)) = some (r1, r2, r3, r4, r5) := by rw [if_neg (show ¬ (false = true) by decide)] at H; exact H
      clear H
      have H := H1
      clear H1
      simp only [Option.some.injEq, Prod.mk.injEq] at H
      obtain ⟨rfl, rfl, rfl, rfl, rfl⟩ := H
      go_enter Try.func32, Try.ntmps32
      go_wp2_with (first | ((with_reducible refine gate_dst (N := 2) rfl ?_); refine box_event ?hg (N := 2) ?hd (cs := #[.slice A0_0 l0_0.length c0_0, .int .i16 a0_1, .int .i16 a0_2, .int .i16 a0_3, .int .i16 a0_4, .bool a0_5]) (t := 32) ?hr ?_; (case hd => rfl); (case hg => rfl); (case hr => first | (go_simp; done) | (go_simp; rfl)); intro gb273 hg w16 hbox hb; have n0_ := Aside0.mk (below_step (by repeat (first | (with_reducible first | exact HB.out | apply below_alloc | apply pw_below_drewN | apply below_drew1) | exact HB.out)) hb); have n1_ := Aside0.mk (hbox); have n2_ := Aside0.mk ((by rw [hg]; exact (below_size (by repeat (first | (with_reducible first | exact HB.out | apply below_alloc | apply pw_below_drewN | apply below_drew1) | exact HB.out))) : w.heap.size ≤ gb273)); have n3_ := Aside0.mk ((by rw [hg]; exact (below_size (by repeat (first | (with_reducible first | exact HB.out | apply below_alloc | apply pw_below_drewN | apply below_drew1) | exact HB.out))) : w.heap.size ≤ gb273)); clear HB; have HB := n0_; have BK273 := n1_; have GW273 := n2_; have GE273 := n3_; clear n0_ n1_ n2_ n3_; clear hb hbox hg) | ((with_reducible refine gate_dst (N := 4) rfl ?_); refine box_event ?hg (N := 4) ?hd (cs := #[.int .i16 0, .int .i16 0, .int .i16 0, .int .i16 0]) (t := 30) ?hr ?_; (case hd => rfl); (case hg => rfl); (case hr => first | (go_simp; done) | (go_simp; rfl)); intro gb274 hg w17 hbox hb; have n0_ := Aside0.mk (blk_below (g := gb273) (o := .cells #[.slice A0_0 l0_0.length c0_0, .int .i16 a0_1, .int .i16 a0_2, .int .i16 a0_3, .int .i16 a0_4, .bool a0_5] 32 (0, 0)) (by (with_reducible repeat (first | refine blk_drewN ?_ _ | refine blk_drew ?_ | refine blk_alloc ?_ _)); exact BK273.out) hb); have n1_ := Aside0.mk (below_step (by repeat (first | (with_reducible first | exact HB.out | apply below_alloc | apply pw_below_drewN | apply below_drew1 | refine below_set ?_ GE273.out) | exact HB.out)) hb); have n2_ := Aside0.mk (hbox); have n3_ := Aside0.mk ((by rw [hg]; exact (below_size (by repeat (first | (with_reducible first | exact HB.out | apply below_alloc | apply pw_below_drewN | apply below_drew1 | refine below_set ?_ GE273.out) | exact HB.out))) : w.heap.size ≤ gb274)); have n4_ := Aside0.mk ((by rw [hg]; exact (below_size (by repeat (first | (with_reducible first | exact HB.out | apply below_alloc | apply pw_below_drewN | apply below_drew1 | refine below_set ?_ GE273.out) | exact HB.out))) : w.heap.size ≤ gb274)); have n5_ := Aside0.mk ((by rw [hg]; exact Nat.ne_of_lt (blk_lt (g := gb273) (o := .cells #[.slice A0_0 l0_0.length c0_0, .int .i16 a0_1, .int .i16 a0_2, .int .i16 a0_3, .int .i16 a0_4, .bool a0_5] 32 (0, 0)) (by (with_reducible repeat (first | refine blk_drewN ?_ _ | refine blk_drew ?_ | refine blk_alloc ?_ _)); exact BK273.out)) : gb273 ≠ gb274)); have n6_ := Aside0.mk ((by rw [hg]; exact Nat.ne_of_gt (blk_lt (g := gb273) (o := .cells #[.slice A0_0 l0_0.length c0_0, .int .i16 a0_1, .int .i16 a0_2, .int .i16 a0_3, .int .i16 a0_4, .bool a0_5] 32 (0, 0)) (by (with_reducible repeat (first | refine blk_drewN ?_ _ | refine blk_drew ?_ | refine blk_alloc ?_ _)); exact BK273.out)) : gb274 ≠ gb273)); clear BK273; clear HB; have BK273 := n0_; have HB := n1_; have BK274 := n2_; have GW274 := n3_; have GE274 := n4_; have NB273_274 := n5_; have NB274_273 := n6_; clear n0_ n1_ n2_ n3_ n4_ n5_ n6_; clear hb hbox hg) | ((with_reducible refine gate_callee (f := 68) rfl ?_); refine goesL_ (some 6) rfl rfl Try.func68 (by kernel_rfl) rfl #[.pointer (some ⟨gb273, 0, none⟩)] rfl (by (try simp only [List.map_toArray, List.map_cons, List.map_nil]); first | done | rfl | (simp only [List.length_drop, List.length_take]; rfl)) ?_; (with_reducible refine (spec_l02Ok.calls k gb273 A0_0 c0_0 l0_0 a0_1 a0_2 a0_3 a0_4 a0_5 true _ ?side1 ?side2 ?side3 A3.out).mono ?_); (case side1 => exact (by (with_reducible repeat (first | refine blk_drewN ?_ _ | refine blk_drew ?_ | refine blk_alloc ?_ _)); exact BK273.out)); (case side2 => repeat (first | exact (Kd.C_below HR0_0.out HB.out) | (with_reducible refine Kd.C_alloc ?_ _) | (with_reducible refine Kd.C_drewN ?_ _) | (with_reducible refine Kd.C_drew ?_))); (case side3 => exact HC0_0.out); rintro e w18 ⟨rfl, hb⟩; refine ⟨_, rfl, ?_⟩; have n0_ := Aside0.mk (blk_below (g := gb273) (o := .cells #[.slice A0_0 l0_0.length c0_0, .int .i16 a0_1, .int .i16 a0_2, .int .i16 a0_3, .int .i16 a0_4, .bool a0_5] 32 (0, 0)) (by (with_reducible repeat (first | refine blk_drewN ?_ _ | refine blk_drew ?_ | refine blk_alloc ?_ _)); exact BK273.out) hb); have n1_ := Aside0.mk (blk_below (g := gb274) (o := .cells #[.int .i16 0, .int .i16 0, .int .i16 0, .int .i16 0] 30 (0, 0)) (by (with_reducible repeat (first | refine blk_drewN ?_ _ | refine blk_drew ?_ | refine blk_alloc ?_ _)); exact BK274.out) hb); have n2_ := Aside0.mk (below_step (by repeat (first | (with_reducible first | exact HB.out | apply below_alloc | apply pw_below_drewN | apply below_drew1 | refine below_set ?_ GE273.out | refine below_set ?_ GE274.out) | exact HB.out)) hb); clear BK273; clear BK274; clear HB; have BK273 := n0_; have BK274 := n1_; have HB := n2_; clear n0_ n1_ n2_; (try clear hb); (try clear hb2); (try clear hk); (try clear hi); have hnb19 := NB273_274.out; have hnc19 := NB274_273.out; have hcz20_0 : w18.cell? ⟨gb273, 0, none⟩ = some (.slice A0_0 l0_0.length c0_0) := (blk_cell BK273.out 0).trans rfl; have hcz20_1 : w18.cell? ⟨gb273, 1, none⟩ = some (.int .i16 a0_1) := (blk_cell BK273.out 1).trans rfl; have hcz20_2 : w18.cell? ⟨gb273, 2, none⟩ = some (.int .i16 a0_2) := (blk_cell BK273.out 2).trans rfl; have hcz20_3 : w18.cell? ⟨gb273, 3, none⟩ = some (.int .i16 a0_3) := (blk_cell BK273.out 3).trans rfl; have hcz20_4 : w18.cell? ⟨gb273, 4, none⟩ = some (.int .i16 a0_4) := (blk_cell BK273.out 4).trans rfl; have hcz20_5 : w18.cell? ⟨gb273, 5, none⟩ = some (.bool a0_5) := (blk_cell BK273.out 5).trans rfl; have hfz20_0 := blk_frozen BK273.out 0; have hfz20_1 := blk_frozen BK273.out 1; have hfz20_2 := blk_frozen BK273.out 2; have hfz20_3 := blk_frozen BK273.out 3; have hfz20_4 := blk_frozen BK273.out 4; have hfz20_5 := blk_frozen BK273.out 5) | ((with_reducible refine gate_callee (f := 74) rfl ?_); refine goesL_ (some 12) rfl rfl Try.func74 (by kernel_rfl) rfl #[.slice A0_0 l0_0.length c0_0] rfl (by (try simp only [List.map_toArray, List.map_cons, List.map_nil]); first | done | rfl | (simp only [List.length_drop, List.length_take]; rfl)) ?_; (with_reducible refine (spec_l02States.calls k _ _ l0_0 t276 _ ?side1 ?side2 A5.out).mono ?_); (case side1 => repeat (first | exact (Kd.C_below HR0_0.out HB.out) | (with_reducible refine Kd.C_alloc ?_ _) | (with_reducible refine Kd.C_drewN ?_ _) | (with_reducible refine Kd.C_drew ?_))); (case side2 => exact HC0_0.out); rintro e w' ⟨rfl, ⟨nd, rfl⟩⟩; refine ⟨_, rfl, ?_⟩; (try (rw [drewN_self w18]; generalize hq_ : World.drewN w18 _ = w18; have n0_ : Aside0 (w18.heap[gb273]? = some (.cells #[.slice A0_0 l0_0.length c0_0, .int .i16 a0_1, .int .i16 a0_2, .int .i16 a0_3, .int .i16 a0_4, .bool a0_5] 32 (0, 0))) := ⟨by rw [← hq_]; exact (by (with_reducible repeat (first | refine blk_drewN ?_ _ | refine blk_drew ?_ | refine blk_alloc ?_ _)); exact BK273.out)⟩; have n1_ : Aside0 (w18.heap[gb274]? = some (.cells #[.int .i16 0, .int .i16 0, .int .i16 0, .int .i16 0] 30 (0, 0))) := ⟨by rw [← hq_]; exact (by (with_reducible repeat (first | refine blk_drewN ?_ _ | refine blk_drew ?_ | refine blk_alloc ?_ _)); exact BK274.out)⟩; have n2_ : Aside0 (Below w.heap.size w w18) := ⟨by rw [← hq_]; exact (by repeat (first | (with_reducible first | exact HB.out | apply below_alloc | apply pw_below_drewN | apply below_drew1 | refine below_set ?_ GE273.out | refine below_set ?_ GE274.out) | exact HB.out))⟩; clear BK273 BK274 HB hq_; have BK273 := n0_; have BK274 := n1_; have HB := n2_; clear n0_ n1_ n2_))) | ((with_reducible refine gate_callee (f := 77) rfl ?_); refine goesL_ (some 14) rfl rfl Try.func77 (by kernel_rfl) rfl #[.int .i64 a1, .int .i64 0, .int .i64 (wrap64 (t276 - 1))] rfl (by (try simp only [List.map_toArray, List.map_cons, List.map_nil]); first | done | rfl | (simp only [List.length_drop, List.length_take]; rfl)) ?_; (with_reducible refine (spec_l00In.calls a1 0 (wrap64 (t276 - 1)) false _ A6.out).mono ?_); rintro e w' ⟨rfl, ⟨nd, rfl⟩⟩; refine ⟨_, rfl, ?_⟩; (try (rw [drewN_self w18]; generalize hq_ : World.drewN w18 _ = w18; have n0_ : Aside0 (w18.heap[gb273]? = some (.cells #[.slice A0_0 l0_0.length c0_0, .int .i16 a0_1, .int .i16 a0_2, .int .i16 a0_3, .int .i16 a0_4, .bool a0_5] 32 (0, 0))) := ⟨by rw [← hq_]; exact (by (with_reducible repeat (first | refine blk_drewN ?_ _ | refine blk_drew ?_ | refine blk_alloc ?_ _)); exact BK273.out)⟩; have n1_ : Aside0 (w18.heap[gb274]? = some (.cells #[.int .i16 0, .int .i16 0, .int .i16 0, .int .i16 0] 30 (0, 0))) := ⟨by rw [← hq_]; exact (by (with_reducible repeat (first | refine blk_drewN ?_ _ | refine blk_drew ?_ | refine blk_alloc ?_ _)); exact BK274.out)⟩; have n2_ : Aside0 (Below w.heap.size w w18) := ⟨by rw [← hq_]; exact (by repeat (first | (with_reducible first | exact HB.out | apply below_alloc | apply pw_below_drewN | apply below_drew1 | refine below_set ?_ GE273.out | refine below_set ?_ GE274.out) | exact HB.out))⟩; clear BK273 BK274 HB hq_; have BK273 := n0_; have BK274 := n1_; have HB := n2_; clear n0_ n1_ n2_)); have hcz21_0 : w18.cell? ⟨gb274, 0, none⟩ = some (.int .i16 0) := (blk_cell BK274.out 0).trans rfl; have hcz21_1 : w18.cell? ⟨gb274, 1, none⟩ = some (.int .i16 0) := (blk_cell BK274.out 1).trans rfl; have hcz21_2 : w18.cell? ⟨gb274, 2, none⟩ = some (.int .i16 0) := (blk_cell BK274.out 2).trans rfl; have hcz21_3 : w18.cell? ⟨gb274, 3, none⟩ = some (.int .i16 0) := (blk_cell BK274.out 3).trans rfl; have hfz21_0 := blk_frozen BK274.out 0; have hfz21_1 := blk_frozen BK274.out 1; have hfz21_2 := blk_frozen BK274.out 2; have hfz21_3 := blk_frozen BK274.out 3))
      refine bodyPost_ret (results_ct rfl _ _ gb274 30 #[.int .i16 0, .int .i16 0, .int .i16 0, .int .i16 0] (0, 0) _ rfl (by (with_reducible repeat (first | refine blk_drewN ?_ _ | refine blk_drew ?_ | refine blk_alloc ?_ _)); refine blk_put (cs := #[.int .i16 0, .int .i16 0, .int .i16 0, .int .i16 0]) ?_ 3 _ rfl; (with_reducible repeat (first | refine blk_drewN ?_ _ | refine blk_drew ?_ | refine blk_alloc ?_ _)); refine blk_put (cs := #[.int .i16 0, .int .i16 0, .int .i16 0, .int .i16 0]) ?_ 2 _ rfl; (with_reducible repeat (first | refine blk_drewN ?_ _ | refine blk_drew ?_ | refine blk_alloc ?_ _)); refine blk_put (cs := #[.int .i16 0, .int .i16 0, .int .i16 0, .int .i16 0]) ?_ 1 _ rfl; (with_reducible repeat (first | refine blk_drewN ?_ _ | refine blk_drew ?_ | refine blk_alloc ?_ _)); refine blk_put (cs := #[.int .i16 0, .int .i16 0, .int .i16 0, .int .i16 0]) ?_ 0 _ rfl; (with_reducible repeat (first | refine blk_drewN ?_ _ | refine blk_drew ?_ | refine blk_alloc ?_ _)); exact BK274.out) Try.underlying30 rfl (by kernel_rfl)) rfl ?_
      exact ⟨by first | rfl | (simp [errW_none, errW_some] <;> rfl) | (simp [*, errW_none, errW_some] <;> rfl), by repeat (first | (with_reducible first | exact HB.out | apply below_alloc | apply pw_below_drewN | apply below_drew1 | refine below_set ?_ GE273.out | refine below_set ?_ GE274.out) | exact HB.out)⟩
  · replace c4 := Bool.eq_false_iff.mpr c4
    subst c4
    have H1 : (some (0, 0, 0, 0, 1)) = some (r1, r2, r3, r4, r5) := by rw [if_neg (show ¬ (false = true) by decide)] at H; exact H
    clear H
    have H := H1
    clear H1
    simp only [Option.some.injEq, Prod.mk.injEq] at H
    obtain ⟨rfl, rfl, rfl, rfl, rfl⟩ := H
    go_enter Try.func32, Try.ntmps32
    go_wp2_with (first | ((with_reducible refine gate_dst (N := 2) rfl ?_); refine box_event ?hg (N := 2) ?hd (cs := #[.slice A0_0 l0_0.length c0_0, .int .i16 a0_1, .int .i16 a0_2, .int .i16 a0_3, .int .i16 a0_4, .bool a0_5]) (t := 32) ?hr ?_; (case hd => rfl); (case hg => rfl); (case hr => first | (go_simp; done) | (go_simp; rfl)); intro gb273 hg w22 hbox hb; have n0_ := Aside0.mk (below_step (by repeat (first | (with_reducible first | exact HB.out | apply below_alloc | apply pw_below_drewN | apply below_drew1) | exact HB.out)) hb); have n1_ := Aside0.mk (hbox); have n2_ := Aside0.mk ((by rw [hg]; exact (below_size (by repeat (first | (with_reducible first | exact HB.out | apply below_alloc | apply pw_below_drewN | apply below_drew1) | exact HB.out))) : w.heap.size ≤ gb273)); have n3_ := Aside0.mk ((by rw [hg]; exact (below_size (by repeat (first | (with_reducible first | exact HB.out | apply below_alloc | apply pw_below_drewN | apply below_drew1) | exact HB.out))) : w.heap.size ≤ gb273)); clear HB; have HB := n0_; have BK273 := n1_; have GW273 := n2_; have GE273 := n3_; clear n0_ n1_ n2_ n3_; clear hb hbox hg) | ((with_reducible refine gate_dst (N := 4) rfl ?_); refine box_event ?hg (N := 4) ?hd (cs := #[.int .i16 0, .int .i16 0, .int .i16 0, .int .i16 0]) (t := 30) ?hr ?_; (case hd => rfl); (case hg => rfl); (case hr => first | (go_simp; done) | (go_simp; rfl)); intro gb274 hg w23 hbox hb; have n0_ := Aside0.mk (blk_below (g := gb273) (o := .cells #[.slice A0_0 l0_0.length c0_0, .int .i16 a0_1, .int .i16 a0_2, .int .i16 a0_3, .int .i16 a0_4, .bool a0_5] 32 (0, 0)) (by (with_reducible repeat (first | refine blk_drewN ?_ _ | refine blk_drew ?_ | refine blk_alloc ?_ _)); exact BK273.out) hb); have n1_ := Aside0.mk (below_step (by repeat (first | (with_reducible first | exact HB.out | apply below_alloc | apply pw_below_drewN | apply below_drew1 | refine below_set ?_ GE273.out) | exact HB.out)) hb); have n2_ := Aside0.mk (hbox); have n3_ := Aside0.mk ((by rw [hg]; exact (below_size (by repeat (first | (with_reducible first | exact HB.out | apply below_alloc | apply pw_below_drewN | apply below_drew1 | refine below_set ?_ GE273.out) | exact HB.out))) : w.heap.size ≤ gb274)); have n4_ := Aside0.mk ((by rw [hg]; exact (below_size (by repeat (first | (with_reducible first | exact HB.out | apply below_alloc | apply pw_below_drewN | apply below_drew1 | refine below_set ?_ GE273.out) | exact HB.out))) : w.heap.size ≤ gb274)); have n5_ := Aside0.mk ((by rw [hg]; exact Nat.ne_of_lt (blk_lt (g := gb273) (o := .cells #[.slice A0_0 l0_0.length c0_0, .int .i16 a0_1, .int .i16 a0_2, .int .i16 a0_3, .int .i16 a0_4, .bool a0_5] 32 (0, 0)) (by (with_reducible repeat (first | refine blk_drewN ?_ _ | refine blk_drew ?_ | refine blk_alloc ?_ _)); exact BK273.out)) : gb273 ≠ gb274)); have n6_ := Aside0.mk ((by rw [hg]; exact Nat.ne_of_gt (blk_lt (g := gb273) (o := .cells #[.slice A0_0 l0_0.length c0_0, .int .i16 a0_1, .int .i16 a0_2, .int .i16 a0_3, .int .i16 a0_4, .bool a0_5] 32 (0, 0)) (by (with_reducible repeat (first | refine blk_drewN ?_ _ | refine blk_drew ?_ | refine blk_alloc ?_ _)); exact BK273.out)) : gb274 ≠ gb273)); clear BK273; clear HB; have BK273 := n0_; have HB := n1_; have BK274 := n2_; have GW274 := n3_; have GE274 := n4_; have NB273_274 := n5_; have NB274_273 := n6_; clear n0_ n1_ n2_ n3_ n4_ n5_ n6_; clear hb hbox hg) | ((with_reducible refine gate_callee (f := 68) rfl ?_); refine goesL_ (some 6) rfl rfl Try.func68 (by kernel_rfl) rfl #[.pointer (some ⟨gb273, 0, none⟩)] rfl (by (try simp only [List.map_toArray, List.map_cons, List.map_nil]); first | done | rfl | (simp only [List.length_drop, List.length_take]; rfl)) ?_; (with_reducible refine (spec_l02Ok.calls k gb273 A0_0 c0_0 l0_0 a0_1 a0_2 a0_3 a0_4 a0_5 false _ ?side1 ?side2 ?side3 A3.out).mono ?_); (case side1 => exact (by (with_reducible repeat (first | refine blk_drewN ?_ _ | refine blk_drew ?_ | refine blk_alloc ?_ _)); exact BK273.out)); (case side2 => repeat (first | exact (Kd.C_below HR0_0.out HB.out) | (with_reducible refine Kd.C_alloc ?_ _) | (with_reducible refine Kd.C_drewN ?_ _) | (with_reducible refine Kd.C_drew ?_))); (case side3 => exact HC0_0.out); rintro e w24 ⟨rfl, hb⟩; refine ⟨_, rfl, ?_⟩; have n0_ := Aside0.mk (blk_below (g := gb273) (o := .cells #[.slice A0_0 l0_0.length c0_0, .int .i16 a0_1, .int .i16 a0_2, .int .i16 a0_3, .int .i16 a0_4, .bool a0_5] 32 (0, 0)) (by (with_reducible repeat (first | refine blk_drewN ?_ _ | refine blk_drew ?_ | refine blk_alloc ?_ _)); exact BK273.out) hb); have n1_ := Aside0.mk (blk_below (g := gb274) (o := .cells #[.int .i16 0, .int .i16 0, .int .i16 0, .int .i16 0] 30 (0, 0)) (by (with_reducible repeat (first | refine blk_drewN ?_ _ | refine blk_drew ?_ | refine blk_alloc ?_ _)); exact BK274.out) hb); have n2_ := Aside0.mk (below_step (by repeat (first | (with_reducible first | exact HB.out | apply below_alloc | apply pw_below_drewN | apply below_drew1 | refine below_set ?_ GE273.out | refine below_set ?_ GE274.out) | exact HB.out)) hb); clear BK273; clear BK274; clear HB; have BK273 := n0_; have BK274 := n1_; have HB := n2_; clear n0_ n1_ n2_; (try clear hb); (try clear hb2); (try clear hk); (try clear hi); have hnb25 := NB274_273.out; have hnc25 := NB273_274.out; have hcz26_0 : w24.cell? ⟨gb274, 0, none⟩ = some (.int .i16 0) := (blk_cell BK274.out 0).trans rfl; have hcz26_1 : w24.cell? ⟨gb274, 1, none⟩ = some (.int .i16 0) := (blk_cell BK274.out 1).trans rfl; have hcz26_2 : w24.cell? ⟨gb274, 2, none⟩ = some (.int .i16 0) := (blk_cell BK274.out 2).trans rfl; have hcz26_3 : w24.cell? ⟨gb274, 3, none⟩ = some (.int .i16 0) := (blk_cell BK274.out 3).trans rfl; have hfz26_0 := blk_frozen BK274.out 0; have hfz26_1 := blk_frozen BK274.out 1; have hfz26_2 := blk_frozen BK274.out 2; have hfz26_3 := blk_frozen BK274.out 3))
    refine bodyPost_ret (results_ct rfl _ _ gb274 30 #[.int .i16 0, .int .i16 0, .int .i16 0, .int .i16 0] (0, 0) _ rfl (by (with_reducible repeat (first | refine blk_drewN ?_ _ | refine blk_drew ?_ | refine blk_alloc ?_ _)); refine blk_put (cs := #[.int .i16 0, .int .i16 0, .int .i16 0, .int .i16 0]) ?_ 3 _ rfl; (with_reducible repeat (first | refine blk_drewN ?_ _ | refine blk_drew ?_ | refine blk_alloc ?_ _)); refine blk_put (cs := #[.int .i16 0, .int .i16 0, .int .i16 0, .int .i16 0]) ?_ 2 _ rfl; (with_reducible repeat (first | refine blk_drewN ?_ _ | refine blk_drew ?_ | refine blk_alloc ?_ _)); refine blk_put (cs := #[.int .i16 0, .int .i16 0, .int .i16 0, .int .i16 0]) ?_ 1 _ rfl; (with_reducible repeat (first | refine blk_drewN ?_ _ | refine blk_drew ?_ | refine blk_alloc ?_ _)); refine blk_put (cs := #[.int .i16 0, .int .i16 0, .int .i16 0, .int .i16 0]) ?_ 0 _ rfl; (with_reducible repeat (first | refine blk_drewN ?_ _ | refine blk_drew ?_ | refine blk_alloc ?_ _)); exact BK274.out) Try.underlying30 rfl (by kernel_rfl)) rfl ?_
    exact ⟨by first | rfl | (simp [errW_none, errW_some] <;> rfl) | (simp [*, errW_none, errW_some] <;> rfl), by repeat (first | (with_reducible first | exact HB.out | apply below_alloc | apply pw_below_drewN | apply below_drew1 | refine below_set ?_ GE273.out | refine below_set ?_ GE274.out) | exact HB.out)⟩

/-! ### impl_Puzzle_at: function 67 -/
def impl_Puzzle_at.l0 : Nat → Int → List Int → Int → Int → Int → Int → Int → Int → Option (Int × Int × Int × Int)
  | 0, _, _, _, _, _, _, _, _ => none
  | k + 1, x1, x10, x11, x12, x285000, x285001, x285002, x285003 => if x12 < x11 then (if 0 ≤ x12 then (if x12 < (x10.length : Int) then (if (wrap64 ((wrap64 (rd x10 x12)) + 1)) = 0 then (none) else (if x12 < 4 then (impl_Puzzle_at.l0 k (wrap64 (Int.tdiv x1 (wrap64 ((wrap64 (rd x10 x12)) + 1)))) x10 x11 (wrap64 (x12 + 1)) (aup x12 0 (IntKind.i16.wrap (Int.tmod x1 (wrap64 ((wrap64 (rd x10 x12)) + 1)))) x285000) (aup x12 1 (IntKind.i16.wrap (Int.tmod x1 (wrap64 ((wrap64 (rd x10 x12)) + 1)))) x285001) (aup x12 2 (IntKind.i16.wrap (Int.tmod x1 (wrap64 ((wrap64 (rd x10 x12)) + 1)))) x285002) (aup x12 3 (IntKind.i16.wrap (Int.tmod x1 (wrap64 ((wrap64 (rd x10 x12)) + 1)))) x285003)) else (none))) else (none)) else (none)) else (some (x285000, x285001, x285002, x285003))
def impl_Puzzle_at.f (k : Nat) (l0_0 : List Int) (a0_1 : Int) (a0_2 : Int) (a0_3 : Int) (a0_4 : Int) (a0_5 : Bool) (a1 : Int) : Option (Int × Int × Int × Int) := impl_Puzzle_at.l0 k a1 l0_0 (l0_0.length : Int) 0 0 0 0 0
theorem impl_Puzzle_at.mono_l : ∀ k, (∀ y0 y1 y2 y3 y4 y5 y6 y7, LeO (impl_Puzzle_at.l0 k y0 y1 y2 y3 y4 y5 y6 y7) (impl_Puzzle_at.l0 (k + 1) y0 y1 y2 y3 y4 y5 y6 y7))
  | 0 => fun _ _ _ _ _ _ _ _ r h => by simp [impl_Puzzle_at.l0] at h
  | k + 1 => by
    have ih0 := impl_Puzzle_at.mono_l k
    · intro y0 y1 y2 y3 y4 y5 y6 y7
      unfold impl_Puzzle_at.l0
      repeat' first
      | (with_reducible exact ih0 _ _ _ _ _ _ _ _)
      | (with_reducible exact LeO.refl _)
      | (with_reducible exact LeO.none _)
      | (with_reducible refine LeO.ite ?_ ?_)
      | (with_reducible refine LeO.bind ?_ (fun _ => ?_))
      | exact ih0 _ _ _ _ _ _ _ _
      | exact LeO.none _
      | refine LeO.ite ?_ ?_
      | refine LeO.bind ?_ (fun _ => ?_)
theorem impl_Puzzle_at.mono : ∀ a0 a1 a2 a3 a4 a5 a6 k, LeO (impl_Puzzle_at.f k a0 a1 a2 a3 a4 a5 a6) (impl_Puzzle_at.f (k + 1) a0 a1 a2 a3 a4 a5 a6) := by
  intro a0 a1 a2 a3 a4 a5 a6 k
  have ih0 := impl_Puzzle_at.mono_l k
  unfold impl_Puzzle_at.f
  repeat' first
      | (with_reducible exact ih0 _ _ _ _ _ _ _ _)
      | (with_reducible exact LeO.refl _)
      | (with_reducible exact LeO.none _)
      | (with_reducible refine LeO.ite ?_ ?_)
      | (with_reducible refine LeO.bind ?_ (fun _ => ?_))
      | exact ih0 _ _ _ _ _ _ _ _
      | exact LeO.none _
      | refine LeO.ite ?_ ?_
      | refine LeO.bind ?_ (fun _ => ?_)
set_option maxHeartbeats 8000000 in
set_option maxRecDepth 100000 in
theorem impl_Puzzle_at.calls (k : Nat) (A0_0 : Option Addr) (c0_0 : Nat) (l0_0 : List Int) (a0_1 : Int) (a0_2 : Int) (a0_3 : Int) (a0_4 : Int) (a0_5 : Bool) (a1 : Int) (r1 : Int) (r2 : Int) (r3 : Int) (r4 : Int) (w : World) (hr0_0 : Kd.C (Kd.int .i16) w A0_0 l0_0.length l0_0) (hc0_0 : l0_0.length ≤ c0_0) (h : impl_Puzzle_at.f k l0_0 a0_1 a0_2 a0_3 a0_4 a0_5 a1 = some (r1, r2, r3, r4)) :
    Calls Try.prog 67 #[.agg #[.slice A0_0 l0_0.length c0_0, .int .i16 a0_1, .int .i16 a0_2, .int .i16 a0_3, .int .i16 a0_4, .bool a0_5], .int .i64 a1] w fun e w' => e = .returned (.agg #[.int .i16 r1, .int .i16 r2, .int .i16 r3, .int .i16 r4]) ∧ Below w.heap.size w w' := by
  have hu32 := Try.underlying32
  have hu30 := Try.underlying30
  have HR0_0 := Aside0.mk hr0_0
  have HC0_0 := Aside0.mk hc0_0
  clear hr0_0 hc0_0
  have HB := Aside0.mk (Below.refl w.heap.size w)
  have H : (impl_Puzzle_at.l0 k a1 l0_0 (l0_0.length : Int) 0 0 0 0 0) = some (r1, r2, r3, r4) := h
  clear h
  have H' := Aside0.mk H
  clear H
  go_enter Try.func67, Try.ntmps67
  go_wp2_with (first | ((with_reducible refine gate_dst (N := 2) rfl ?_); refine box_event ?hg (N := 2) ?hd (cs := #[.slice A0_0 l0_0.length c0_0, .int .i16 a0_1, .int .i16 a0_2, .int .i16 a0_3, .int .i16 a0_4, .bool a0_5]) (t := 32) ?hr ?_; (case hd => rfl); (case hg => rfl); (case hr => first | (go_simp; done) | (go_simp; rfl)); intro gb282 hg w3 hbox hb; have n0_ := Aside0.mk (below_step (by repeat (first | (with_reducible first | exact HB.out | apply below_alloc | apply pw_below_drewN | apply below_drew1) | exact HB.out)) hb); have n1_ := Aside0.mk (hbox); have n2_ := Aside0.mk ((by rw [hg]; exact (below_size (by repeat (first | (with_reducible first | exact HB.out | apply below_alloc | apply pw_below_drewN | apply below_drew1) | exact HB.out))) : w.heap.size ≤ gb282)); have n3_ := Aside0.mk ((by rw [hg]; exact (below_size (by repeat (first | (with_reducible first | exact HB.out | apply below_alloc | apply pw_below_drewN | apply below_drew1) | exact HB.out))) : w.heap.size ≤ gb282)); clear HB; have HB := n0_; have BK282 := n1_; have GW282 := n2_; have GE282 := n3_; clear n0_ n1_ n2_ n3_; clear hb hbox hg) | ((with_reducible refine gate_dst (N := 4) rfl ?_); refine box_event ?hg (N := 4) ?hd (cs := #[.int .i16 0, .int .i16 0, .int .i16 0, .int .i16 0]) (t := 30) ?hr ?_; (case hd => rfl); (case hg => rfl); (case hr => first | (go_simp; done) | (go_simp; rfl)); intro gb283 hg w4 hbox hb; have n0_ := Aside0.mk (blk_below (g := gb282) (o := .cells #[.slice A0_0 l0_0.length c0_0, .int .i16 a0_1, .int .i16 a0_2, .int .i16 a0_3, .int .i16 a0_4, .bool a0_5] 32 (0, 0)) (by (with_reducible repeat (first | refine blk_drewN ?_ _ | refine blk_drew ?_ | refine blk_alloc ?_ _)); exact BK282.out) hb); have n1_ := Aside0.mk (below_step (by repeat (first | (with_reducible first | exact HB.out | apply below_alloc | apply pw_below_drewN | apply below_drew1 | refine below_set ?_ GE282.out) | exact HB.out)) hb); have n2_ := Aside0.mk (hbox); have n3_ := Aside0.mk ((by rw [hg]; exact (below_size (by repeat (first | (with_reducible first | exact HB.out | apply below_alloc | apply pw_below_drewN | apply below_drew1 | refine below_set ?_ GE282.out) | exact HB.out))) : w.heap.size ≤ gb283)); have n4_ := Aside0.mk ((by rw [hg]; exact (below_size (by repeat (first | (with_reducible first | exact HB.out | apply below_alloc | apply pw_below_drewN | apply below_drew1 | refine below_set ?_ GE282.out) | exact HB.out))) : w.heap.size ≤ gb283)); have n5_ := Aside0.mk ((by rw [hg]; exact Nat.ne_of_lt (blk_lt (g := gb282) (o := .cells #[.slice A0_0 l0_0.length c0_0, .int .i16 a0_1, .int .i16 a0_2, .int .i16 a0_3, .int .i16 a0_4, .bool a0_5] 32 (0, 0)) (by (with_reducible repeat (first | refine blk_drewN ?_ _ | refine blk_drew ?_ | refine blk_alloc ?_ _)); exact BK282.out)) : gb282 ≠ gb283)); have n6_ := Aside0.mk ((by rw [hg]; exact Nat.ne_of_gt (blk_lt (g := gb282) (o := .cells #[.slice A0_0 l0_0.length c0_0, .int .i16 a0_1, .int .i16 a0_2, .int .i16 a0_3, .int .i16 a0_4, .bool a0_5] 32 (0, 0)) (by (with_reducible repeat (first | refine blk_drewN ?_ _ | refine blk_drew ?_ | refine blk_alloc ?_ _)); exact BK282.out)) : gb283 ≠ gb282)); clear BK282; clear HB; have BK282 := n0_; have HB := n1_; have BK283 := n2_; have GW283 := n3_; have GE283 := n4_; have NB282_283 := n5_; have NB283_282 := n6_; clear n0_ n1_ n2_ n3_ n4_ n5_ n6_; clear hb hbox hg) | ((with_reducible refine gate_dst (N := 5) rfl ?_); refine box_event ?hg (N := 5) ?hd (cs := #[.int .i16 0, .int .i16 0, .int .i16 0, .int .i16 0]) (t := 30) ?hr ?_; (case hd => rfl); (case hg => rfl); (case hr => first | (go_simp; done) | (go_simp; rfl)); intro gb284 hg w5 hbox hb; have n0_ := Aside0.mk (blk_below (g := gb282) (o := .cells #[.slice A0_0 l0_0.length c0_0, .int .i16 a0_1, .int .i16 a0_2, .int .i16 a0_3, .int .i16 a0_4, .bool a0_5] 32 (0, 0)) (by (with_reducible repeat (first | refine blk_drewN ?_ _ | refine blk_drew ?_ | refine blk_alloc ?_ _)); exact BK282.out) hb); have n1_ := Aside0.mk (blk_below (g := gb283) (o := .cells #[.int .i16 0, .int .i16 0, .int .i16 0, .int .i16 0] 30 (0, 0)) (by (with_reducible repeat (first | refine blk_drewN ?_ _ | refine blk_drew ?_ | refine blk_alloc ?_ _)); exact BK283.out) hb); have n2_ := Aside0.mk (below_step (by repeat (first | (with_reducible first | exact HB.out | apply below_alloc | apply pw_below_drewN | apply below_drew1 | refine below_set ?_ GE282.out | refine below_set ?_ GE283.out) | exact HB.out)) hb); have n3_ := Aside0.mk (hbox); have n4_ := Aside0.mk ((by rw [hg]; exact (below_size (by repeat (first | (with_reducible first | exact HB.out | apply below_alloc | apply pw_below_drewN | apply below_drew1 | refine below_set ?_ GE282.out | refine below_set ?_ GE283.out) | exact HB.out))) : w.heap.size ≤ gb284)); have n5_ := Aside0.mk ((by rw [hg]; exact (below_size (by repeat (first | (with_reducible first | exact HB.out | apply below_alloc | apply pw_below_drewN | apply below_drew1 | refine below_set ?_ GE282.out | refine below_set ?_ GE283.out) | exact HB.out))) : w.heap.size ≤ gb284)); have n6_ := Aside0.mk ((by rw [hg]; exact Nat.ne_of_lt (blk_lt (g := gb282) (o := .cells #[.slice A0_0 l0_0.length c0_0, .int .i16 a0_1, .int .i16 a0_2, .int .i16 a0_3, .int .i16 a0_4, .bool a0_5] 32 (0, 0)) (by (with_reducible repeat (first | refine blk_drewN ?_ _ | refine blk_drew ?_ | refine blk_alloc ?_ _)); exact BK282.out)) : gb282 ≠ gb284)); have n7_ := Aside0.mk ((by rw [hg]; exact Nat.ne_of_gt (blk_lt (g := gb282) (o := .cells #[.slice A0_0 l0_0.length c0_0, .int .i16 a0_1, .int .i16 a0_2, .int .i16 a0_3, .int .i16 a0_4, .bool a0_5] 32 (0, 0)) (by (with_reducible repeat (first | refine blk_drewN ?_ _ | refine blk_drew ?_ | refine blk_alloc ?_ _)); exact BK282.out)) : gb284 ≠ gb282)); have n8_ := Aside0.mk ((by rw [hg]; exact Nat.ne_of_lt (blk_lt (g := gb283) (o := .cells #[.int .i16 0, .int .i16 0, .int .i16 0, .int .i16 0] 30 (0, 0)) (by (with_reducible repeat (first | refine blk_drewN ?_ _ | refine blk_drew ?_ | refine blk_alloc ?_ _)); exact BK283.out)) : gb283 ≠ gb284)); have n9_ := Aside0.mk ((by rw [hg]; exact Nat.ne_of_gt (blk_lt (g := gb283) (o := .cells #[.int .i16 0, .int .i16 0, .int .i16 0, .int .i16 0] 30 (0, 0)) (by (with_reducible repeat (first | refine blk_drewN ?_ _ | refine blk_drew ?_ | refine blk_alloc ?_ _)); exact BK283.out)) : gb284 ≠ gb283)); clear BK282; clear BK283; clear HB; have BK282 := n0_; have BK283 := n1_; have HB := n2_; have BK284 := n3_; have GW284 := n4_; have GE284 := n5_; have NB282_284 := n6_; have NB284_282 := n7_; have NB283_284 := n8_; have NB284_283 := n9_; clear n0_ n1_ n2_ n3_ n4_ n5_ n6_ n7_ n8_ n9_; clear hb hbox hg; have hnb6 := NB284_282.out; have hnc6 := NB282_284.out; have hnb7 := NB284_283.out; have hnc7 := NB283_284.out; have hcz8_0 : w5.cell? ⟨gb284, 0, none⟩ = some (.int .i16 0) := (blk_cell BK284.out 0).trans rfl; have hcz8_1 : w5.cell? ⟨gb284, 1, none⟩ = some (.int .i16 0) := (blk_cell BK284.out 1).trans rfl; have hcz8_2 : w5.cell? ⟨gb284, 2, none⟩ = some (.int .i16 0) := (blk_cell BK284.out 2).trans rfl; have hcz8_3 : w5.cell? ⟨gb284, 3, none⟩ = some (.int .i16 0) := (blk_cell BK284.out 3).trans rfl; have hfz8_0 := blk_frozen BK284.out 0; have hfz8_1 := blk_frozen BK284.out 1; have hfz8_2 := blk_frozen BK284.out 2; have hfz8_3 := blk_frozen BK284.out 3; have hnb9 := NB282_283.out; have hnc9 := NB283_282.out; have hcz10_0 : w5.cell? ⟨gb282, 0, none⟩ = some (.slice A0_0 l0_0.length c0_0) := (blk_cell BK282.out 0).trans rfl; have hcz10_1 : w5.cell? ⟨gb282, 1, none⟩ = some (.int .i16 a0_1) := (blk_cell BK282.out 1).trans rfl; have hcz10_2 : w5.cell? ⟨gb282, 2, none⟩ = some (.int .i16 a0_2) := (blk_cell BK282.out 2).trans rfl; have hcz10_3 : w5.cell? ⟨gb282, 3, none⟩ = some (.int .i16 a0_3) := (blk_cell BK282.out 3).trans rfl; have hcz10_4 : w5.cell? ⟨gb282, 4, none⟩ = some (.int .i16 a0_4) := (blk_cell BK282.out 4).trans rfl; have hcz10_5 : w5.cell? ⟨gb282, 5, none⟩ = some (.bool a0_5) := (blk_cell BK282.out 5).trans rfl; have hfz10_0 := blk_frozen BK282.out 0; have hfz10_1 := blk_frozen BK282.out 1; have hfz10_2 := blk_frozen BK282.out 2; have hfz10_3 := blk_frozen BK282.out 3; have hfz10_4 := blk_frozen BK282.out 4; have hfz10_5 := blk_frozen BK282.out 5))
  go_loopg [1, 12] k (fun kq v1 v12 w' => ∃ (x1_1 : Int) (x12_1 : Int) (x285000_1 : Int) (x285001_1 : Int) (x285002_1 : Int) (x285003_1 : Int), v1 = .int .i64 x1_1 ∧ v12 = .int .i64 x12_1 ∧ Aside0 (impl_Puzzle_at.l0 kq x1_1 l0_0 (l0_0.length : Int) x12_1 x285000_1 x285001_1 x285002_1 x285003_1 = some (r1, r2, r3, r4)) ∧ Aside0 (kq ≤ k) ∧ Aside0 (w'.heap[gb282]? = some (.cells #[(.slice A0_0 l0_0.length c0_0), .int .i16 a0_1, .int .i16 a0_2, .int .i16 a0_3, .int .i16 a0_4, .bool a0_5] 32 (0, 0))) ∧ Aside0 (w'.heap[gb283]? = some (.cells #[.int .i16 0, .int .i16 0, .int .i16 0, .int .i16 0] 30 (0, 0))) ∧ Aside0 (w'.heap[gb284]? = some (.cells #[.int .i16 x285000_1, .int .i16 x285001_1, .int .i16 x285002_1, .int .i16 x285003_1] 30 (0, 0))) ∧ Aside0 (Below w.heap.size w w'))
  case atStart => exact ⟨(a1), (0), (0), (0), (0), (0), (by first | rfl | (simp; done) | (simp [*]; done)), (by first | rfl | (simp; done) | (simp [*]; done)), H', ⟨Nat.le_refl _⟩, ⟨by (with_reducible repeat (first | refine blk_drewN ?_ _ | refine blk_drew ?_ | refine blk_alloc ?_ _)); refine blk_far ?_ NB282_284.out _; (with_reducible repeat (first | refine blk_drewN ?_ _ | refine blk_drew ?_ | refine blk_alloc ?_ _)); refine blk_far ?_ NB282_284.out _; (with_reducible repeat (first | refine blk_drewN ?_ _ | refine blk_drew ?_ | refine blk_alloc ?_ _)); refine blk_far ?_ NB282_284.out _; (with_reducible repeat (first | refine blk_drewN ?_ _ | refine blk_drew ?_ | refine blk_alloc ?_ _)); refine blk_far ?_ NB282_284.out _; (with_reducible repeat (first | refine blk_drewN ?_ _ | refine blk_drew ?_ | refine blk_alloc ?_ _)); exact BK282.out⟩, ⟨by (with_reducible repeat (first | refine blk_drewN ?_ _ | refine blk_drew ?_ | refine blk_alloc ?_ _)); refine blk_far ?_ NB283_284.out _; (with_reducible repeat (first | refine blk_drewN ?_ _ | refine blk_drew ?_ | refine blk_alloc ?_ _)); refine blk_far ?_ NB283_284.out _; (with_reducible repeat (first | refine blk_drewN ?_ _ | refine blk_drew ?_ | refine blk_alloc ?_ _)); refine blk_far ?_ NB283_284.out _; (with_reducible repeat (first | refine blk_drewN ?_ _ | refine blk_drew ?_ | refine blk_alloc ?_ _)); refine blk_far ?_ NB283_284.out _; (with_reducible repeat (first | refine blk_drewN ?_ _ | refine blk_drew ?_ | refine blk_alloc ?_ _)); exact BK283.out⟩, ⟨by (with_reducible repeat (first | refine blk_drewN ?_ _ | refine blk_drew ?_ | refine blk_alloc ?_ _)); refine blk_put (cs := #[.int .i16 0, .int .i16 0, .int .i16 0, .int .i16 0]) ?_ 3 _ rfl; (with_reducible repeat (first | refine blk_drewN ?_ _ | refine blk_drew ?_ | refine blk_alloc ?_ _)); refine blk_put (cs := #[.int .i16 0, .int .i16 0, .int .i16 0, .int .i16 0]) ?_ 2 _ rfl; (with_reducible repeat (first | refine blk_drewN ?_ _ | refine blk_drew ?_ | refine blk_alloc ?_ _)); refine blk_put (cs := #[.int .i16 0, .int .i16 0, .int .i16 0, .int .i16 0]) ?_ 1 _ rfl; (with_reducible repeat (first | refine blk_drewN ?_ _ | refine blk_drew ?_ | refine blk_alloc ?_ _)); refine blk_put (cs := #[.int .i16 0, .int .i16 0, .int .i16 0, .int .i16 0]) ?_ 0 _ rfl; (with_reducible repeat (first | refine blk_drewN ?_ _ | refine blk_drew ?_ | refine blk_alloc ?_ _)); exact BK284.out⟩, ⟨by repeat (first | (with_reducible first | exact HB.out | apply below_alloc | apply pw_below_drewN | apply below_drew1 | refine below_set ?_ GE282.out | refine below_set ?_ GE283.out | refine below_set ?_ GE284.out) | exact HB.out)⟩⟩
  case round =>
    clear H'
    try clear p2
    try clear c6
    try clear c7
    try clear c9
    try clear hcz10_0
    try clear hcz10_1
    try clear hcz10_2
    try clear hcz10_3
    try clear hcz10_4
    try clear hcz10_5
    try clear hcz8_0
    try clear hcz8_1
    try clear hcz8_2
    try clear hcz8_3
    try clear hfz10_0
    try clear hfz10_1
    try clear hfz10_2
    try clear hfz10_3
    try clear hfz10_4
    try clear hfz10_5
    try clear hfz8_0
    try clear hfz8_1
    try clear hfz8_2
    try clear hfz8_3
    obtain ⟨x1_1, x12_1, x285000_1, x285001_1, x285002_1, x285003_1, rfl, rfl, HA, HK1, BK282, BK283, BK284, HB⟩ := hrel
    cases gk with
    | zero => exact absurd HA.out (by simp [impl_Puzzle_at.l0])
    | succ k1 =>
      have H := HA.out
      clear HA
      simp only [impl_Puzzle_at.l0] at H
      by_cases c11 : x12_1 < (l0_0.length : Int)
      · rw [if_pos c11] at H
        have c11b0 : decide (x12_1 < (l0_0.length : Int)) = true := decide_eq_true c11
        clear c11
        by_cases c12 : 0 ≤ x12_1
        · rw [if_pos c12] at H
          have c12b0 : decide (0 ≤ x12_1) = true := decide_eq_true c12
          clear c12
          by_cases c13 : x12_1 < (l0_0.length : Int)
          · rw [if_pos c13] at H
            have c13b0 : decide (x12_1 < (l0_0.length : Int)) = true := decide_eq_true c13
            clear c13
            by_cases c14 : (wrap64 ((wrap64 (rd l0_0 x12_1)) + 1)) = 0
            · rw [if_pos c14] at H
              exact absurd H (by simp)
            · rw [if_neg c14] at H
              have c14b0 : ((wrap64 ((wrap64 (rd l0_0 x12_1)) + 1)) == 0) = false := beq_eq_false_iff_ne.mpr c14
              have c14b1 : ((wrap64 ((wrap64 (rd l0_0 x12_1)) + 1)) != 0) = true := bne_iff_ne.mpr c14
              by_cases c15 : x12_1 < 4
              · rw [if_pos c15] at H
                have c15b0 : decide (x12_1 < 4) = true := decide_eq_true c15
                clear c15
                have H' := Aside0.mk H
                clear H
                have p285 : 0 ≤ (x12_1 : Int) := of_decide_eq_true (by first | (with_reducible assumption) | assumption)
                have q285 : x12_1 < (l0_0.length : Int) := of_decide_eq_true (by first | (with_reducible assumption) | assumption)
                obtain ⟨ad285, e285, hx285_0⟩ := Kd.at_int HR0_0.out x12_1 p285 q285
                cases e285
                replace hx285_0 := (HB.out.cell (World.block_lt_of_cell? w _ hx285_0)).trans hx285_0
                replace p285 := eq_true p285
                replace q285 := eq_true q285
                have hnb18 := NB284_282.out
                have hnc18 := NB282_284.out
                have hnb19 := NB284_283.out
                have hnc19 := NB283_284.out
                have hcz20_0 : wr.cell? ⟨gb284, 0, none⟩ = some (.int .i16 x285000_1) := (blk_cell BK284.out 0).trans rfl
                have hcz20_1 : wr.cell? ⟨gb284, 1, none⟩ = some (.int .i16 x285001_1) := (blk_cell BK284.out 1).trans rfl
                have hcz20_2 : wr.cell? ⟨gb284, 2, none⟩ = some (.int .i16 x285002_1) := (blk_cell BK284.out 2).trans rfl
                have hcz20_3 : wr.cell? ⟨gb284, 3, none⟩ = some (.int .i16 x285003_1) := (blk_cell BK284.out 3).trans rfl
                have hfz20_0 := blk_frozen BK284.out 0
                have hfz20_1 := blk_frozen BK284.out 1
                have hfz20_2 := blk_frozen BK284.out 2
                have hfz20_3 := blk_frozen BK284.out 3
                have p16 : 0 ≤ (x12_1 : Int) := of_decide_eq_true (by first | (with_reducible assumption) | assumption)
                have q16 : (x12_1 : Int) < 4 := of_decide_eq_true (by first | (with_reducible assumption) | assumption)
                have hx16 : wr.cell? ⟨gb284, (x12_1 : Int).toNat, none⟩ = some (.int .i16 (rd [x285000_1, x285001_1, x285002_1, x285003_1] x12_1)) := ard_cell (k := .i16) (l := [x285000_1, x285001_1, x285002_1, x285003_1]) BK284.out p16 q16
                have hf16 := blk_frozen BK284.out (x12_1 : Int).toNat
                have P16 := Aside0.mk p16
                have Q16 := Aside0.mk q16
                replace p16 := eq_true p16
                replace q16 := eq_true q16
                go_wp2_with (first | ((with_reducible refine gate_store (t := 23) (p := 24) rfl ?_); refine store_event (t := 23) (p := 24) (v := ?vo_w21) (w1 := (wr.setCell ⟨gb284, (x12_1 : Int).toNat, none⟩ (.int .i16 (IntKind.i16.wrap (Int.tmod x1_1 (wrap64 ((wrap64 (rd l0_0 x12_1)) + 1))))))) ?hg ?ho ?hn ?hr ?_; (case ho => rfl); (case hg => rfl); (case hn => rfl); (case hr => first | (go_simp; done) | (go_simp; rfl)); intro w21 hw; have n0_ : Aside0 (w21.heap[gb282]? = some (.cells #[.slice (some ad285) l0_0.length c0_0, .int .i16 a0_1, .int .i16 a0_2, .int .i16 a0_3, .int .i16 a0_4, .bool a0_5] 32 (0, 0))) := ⟨(by rw [hw]; exact (by (with_reducible repeat (first | refine blk_drewN ?_ _ | refine blk_drew ?_ | refine blk_alloc ?_ _)); refine blk_far ?_ NB282_284.out _; (with_reducible repeat (first | refine blk_drewN ?_ _ | refine blk_drew ?_ | refine blk_alloc ?_ _)); exact BK282.out))⟩; have n1_ : Aside0 (w21.heap[gb283]? = some (.cells #[.int .i16 0, .int .i16 0, .int .i16 0, .int .i16 0] 30 (0, 0))) := ⟨(by rw [hw]; exact (by (with_reducible repeat (first | refine blk_drewN ?_ _ | refine blk_drew ?_ | refine blk_alloc ?_ _)); refine blk_far ?_ NB283_284.out _; (with_reducible repeat (first | refine blk_drewN ?_ _ | refine blk_drew ?_ | refine blk_alloc ?_ _)); exact BK283.out))⟩; have n2_ : Aside0 (w21.heap[gb284]? = some (.cells #[.int .i16 (aup x12_1 0 (IntKind.i16.wrap (Int.tmod x1_1 (wrap64 ((wrap64 (rd l0_0 x12_1)) + 1)))) x285000_1), .int .i16 (aup x12_1 1 (IntKind.i16.wrap (Int.tmod x1_1 (wrap64 ((wrap64 (rd l0_0 x12_1)) + 1)))) x285001_1), .int .i16 (aup x12_1 2 (IntKind.i16.wrap (Int.tmod x1_1 (wrap64 ((wrap64 (rd l0_0 x12_1)) + 1)))) x285002_1), .int .i16 (aup x12_1 3 (IntKind.i16.wrap (Int.tmod x1_1 (wrap64 ((wrap64 (rd l0_0 x12_1)) + 1)))) x285003_1)] 30 (0, 0))) := ⟨(by rw [hw]; exact (by (with_reducible repeat (first | refine blk_drewN ?_ _ | refine blk_drew ?_ | refine blk_alloc ?_ _)); refine blk_put (cs := #[.int .i16 x285000_1, .int .i16 x285001_1, .int .i16 x285002_1, .int .i16 x285003_1]) ?_ (x12_1 : Int).toNat _ (ups_set (k := .i16) (l := [x285000_1, x285001_1, x285002_1, x285003_1]) P16.out); (with_reducible repeat (first | refine blk_drewN ?_ _ | refine blk_drew ?_ | refine blk_alloc ?_ _)); exact BK284.out))⟩; have n3_ : Aside0 (Below w.heap.size w w21) := ⟨(by rw [hw]; exact (by repeat (first | (with_reducible first | exact HB.out | apply below_alloc | apply pw_below_drewN | apply below_drew1 | refine below_set ?_ GE282.out | refine below_set ?_ GE283.out | refine below_set ?_ GE284.out) | exact HB.out)))⟩; clear hw; clear BK282; clear BK283; clear BK284; clear HB; have BK282 := n0_; have BK283 := n1_; have BK284 := n2_; have HB := n3_; clear n0_ n1_ n2_ n3_))
                go_roundg k1
                case measure => have := HK1.out; omega
                case rel => exact ⟨(wrap64 (Int.tdiv x1_1 (wrap64 ((wrap64 (rd l0_0 x12_1)) + 1)))), (wrap64 (x12_1 + 1)), (aup x12_1 0 (IntKind.i16.wrap (Int.tmod x1_1 (wrap64 ((wrap64 (rd l0_0 x12_1)) + 1)))) x285000_1), (aup x12_1 1 (IntKind.i16.wrap (Int.tmod x1_1 (wrap64 ((wrap64 (rd l0_0 x12_1)) + 1)))) x285001_1), (aup x12_1 2 (IntKind.i16.wrap (Int.tmod x1_1 (wrap64 ((wrap64 (rd l0_0 x12_1)) + 1)))) x285002_1), (aup x12_1 3 (IntKind.i16.wrap (Int.tmod x1_1 (wrap64 ((wrap64 (rd l0_0 x12_1)) + 1)))) x285003_1), (by first | rfl | (simp; done) | (simp [*]; done)), (by first | rfl | (simp; done) | (simp [*]; done)), H', ⟨by have := HK1.out; omega⟩, ⟨by (with_reducible repeat (first | refine blk_drewN ?_ _ | refine blk_drew ?_ | refine blk_alloc ?_ _)); exact BK282.out⟩, ⟨by (with_reducible repeat (first | refine blk_drewN ?_ _ | refine blk_drew ?_ | refine blk_alloc ?_ _)); exact BK283.out⟩, ⟨by (with_reducible repeat (first | refine blk_drewN ?_ _ | refine blk_drew ?_ | refine blk_alloc ?_ _)); exact BK284.out⟩, ⟨by repeat (first | (with_reducible first | exact HB.out | apply below_alloc | apply pw_below_drewN | apply below_drew1 | refine below_set ?_ GE282.out | refine below_set ?_ GE283.out | refine below_set ?_ GE284.out) | exact HB.out)⟩⟩
              · rw [if_neg c15] at H
                exact absurd H (by simp)
          · rw [if_neg c13] at H
            exact absurd H (by simp)
        · rw [if_neg c12] at H
          exact absurd H (by simp)
      · rw [if_neg c11] at H
        have c11b0 : decide (x12_1 < (l0_0.length : Int)) = false := decide_eq_false c11
        clear c11
        simp only [Option.some.injEq, Prod.mk.injEq] at H
        obtain ⟨rfl, rfl, rfl, rfl⟩ := H
        have hnb22 := NB284_282.out
        have hnc22 := NB282_284.out
        have hnb23 := NB284_283.out
        have hnc23 := NB283_284.out
        have hcz24_0 : wr.cell? ⟨gb284, 0, none⟩ = some (.int .i16 x285000_1) := (blk_cell BK284.out 0).trans rfl
        have hcz24_1 : wr.cell? ⟨gb284, 1, none⟩ = some (.int .i16 x285001_1) := (blk_cell BK284.out 1).trans rfl
        have hcz24_2 : wr.cell? ⟨gb284, 2, none⟩ = some (.int .i16 x285002_1) := (blk_cell BK284.out 2).trans rfl
        have hcz24_3 : wr.cell? ⟨gb284, 3, none⟩ = some (.int .i16 x285003_1) := (blk_cell BK284.out 3).trans rfl
        have hfz24_0 := blk_frozen BK284.out 0
        have hfz24_1 := blk_frozen BK284.out 1
        have hfz24_2 := blk_frozen BK284.out 2
        have hfz24_3 := blk_frozen BK284.out 3
        have hnb25 := NB283_282.out
        have hnc25 := NB282_283.out
        have hcz26_0 : wr.cell? ⟨gb283, 0, none⟩ = some (.int .i16 0) := (blk_cell BK283.out 0).trans rfl
        have hcz26_1 : wr.cell? ⟨gb283, 1, none⟩ = some (.int .i16 0) := (blk_cell BK283.out 1).trans rfl
        have hcz26_2 : wr.cell? ⟨gb283, 2, none⟩ = some (.int .i16 0) := (blk_cell BK283.out 2).trans rfl
        have hcz26_3 : wr.cell? ⟨gb283, 3, none⟩ = some (.int .i16 0) := (blk_cell BK283.out 3).trans rfl
        have hfz26_0 := blk_frozen BK283.out 0
        have hfz26_1 := blk_frozen BK283.out 1
        have hfz26_2 := blk_frozen BK283.out 2
        have hfz26_3 := blk_frozen BK283.out 3
        go_wp2
        refine bodyPost_ret (results_cell_row rfl _ _ gb283 30 #[.int .i16 x285000_1, .int .i16 x285001_1, .int .i16 x285002_1, .int .i16 x285003_1] (0, 0) _ rfl (by (with_reducible repeat (first | refine blk_drewN ?_ _ | refine blk_drew ?_ | refine blk_alloc ?_ _)); refine blk_put (cs := #[.int .i16 x285000_1, .int .i16 x285001_1, .int .i16 x285002_1, .int .i16 0]) ?_ 3 _ rfl; (with_reducible repeat (first | refine blk_drewN ?_ _ | refine blk_drew ?_ | refine blk_alloc ?_ _)); refine blk_put (cs := #[.int .i16 x285000_1, .int .i16 x285001_1, .int .i16 0, .int .i16 0]) ?_ 2 _ rfl; (with_reducible repeat (first | refine blk_drewN ?_ _ | refine blk_drew ?_ | refine blk_alloc ?_ _)); refine blk_put (cs := #[.int .i16 x285000_1, .int .i16 0, .int .i16 0, .int .i16 0]) ?_ 1 _ rfl; (with_reducible repeat (first | refine blk_drewN ?_ _ | refine blk_drew ?_ | refine blk_alloc ?_ _)); refine blk_put (cs := #[.int .i16 0, .int .i16 0, .int .i16 0, .int .i16 0]) ?_ 0 _ rfl; (with_reducible repeat (first | refine blk_drewN ?_ _ | refine blk_drew ?_ | refine blk_alloc ?_ _)); exact BK283.out) Try.underlying30 rfl (by kernel_rfl)) rfl ?_
        exact ⟨by first | rfl | (simp [errW_none, errW_some] <;> rfl) | (simp [*, errW_none, errW_some] <;> rfl), by repeat (first | (with_reducible first | exact HB.out | apply below_alloc | apply pw_below_drewN | apply below_drew1 | refine below_set ?_ GE282.out | refine below_set ?_ GE283.out | refine below_set ?_ GE284.out) | exact HB.out)⟩

end Go.Proofs.Ytodmfjophjhbeaa.M
