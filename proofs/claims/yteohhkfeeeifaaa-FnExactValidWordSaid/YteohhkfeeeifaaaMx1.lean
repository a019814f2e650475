-- By this seat's own program over the kit's printer (arrays, functions told by hand); nothing of it is trusted: the kernel checks it.
import Derived.Test.YteohhkfeeeifaaaMx0
namespace Go.Proofs.Yteohhkfeeeifaaa.M
open Go.RowKit Go.Proofs.YteohhkfeeeifaaaW.PrintWords Go.Proofs.YteohhkfeeeifaaaW.PrintLast Go.Proofs.YteohhkfeeeifaaaW.PrintMore
attribute [local go_sem] max2_int min2_int max_two min_two max_three min_three max_four min_four   -- for this text's walks alone
set_option linter.unusedVariables false
set_option linter.unusedSimpArgs false

/-! ### spec_l04Opposite: function 29 -/
def spec_l04Opposite.l0 : Nat → Int → Int → Int → Int → Int → Option (Int × Int × Int × Int)
  | 0, _, _, _, _, _ => none
  | k + 1, x3, x102000, x102001, x102002, x102003 => if x3 < 4 then (if 0 ≤ x3 then (spec_l04Opposite.l0 k (wrap64 (x3 + 1)) (aup x3 0 (IntKind.i8.wrap (-(rd [x102000, x102001, x102002, x102003] x3))) x102000) (aup x3 1 (IntKind.i8.wrap (-(rd [x102000, x102001, x102002, x102003] x3))) x102001) (aup x3 2 (IntKind.i8.wrap (-(rd [x102000, x102001, x102002, x102003] x3))) x102002) (aup x3 3 (IntKind.i8.wrap (-(rd [x102000, x102001, x102002, x102003] x3))) x102003)) else (none)) else (some (x102000, x102001, x102002, x102003))
def spec_l04Opposite.f (k : Nat) (a0_0 : Int) (a0_1 : Int) (a0_2 : Int) (a0_3 : Int) : Option (Int × Int × Int × Int) := spec_l04Opposite.l0 k 0 a0_0 a0_1 a0_2 a0_3
theorem spec_l04Opposite.mono_l : ∀ k, (∀ y0 y1 y2 y3 y4, LeO (spec_l04Opposite.l0 k y0 y1 y2 y3 y4) (spec_l04Opposite.l0 (k + 1) y0 y1 y2 y3 y4))
  | 0 => fun _ _ _ _ _ r h => by simp [spec_l04Opposite.l0] at h
  | k + 1 => by
    have ih0 := spec_l04Opposite.mono_l k
    · intro y0 y1 y2 y3 y4
      unfold spec_l04Opposite.l0
      repeat' first
      | (with_reducible exact ih0 _ _ _ _ _)
      | (with_reducible exact LeO.refl _)
      | (with_reducible exact LeO.none _)
      | (with_reducible refine LeO.ite ?_ ?_)
      | (with_reducible refine LeO.bind ?_ (fun _ => ?_))
      | exact ih0 _ _ _ _ _
      | exact LeO.none _
      | refine LeO.ite ?_ ?_
      | refine LeO.bind ?_ (fun _ => ?_)
theorem spec_l04Opposite.mono : ∀ a0 a1 a2 a3 k, LeO (spec_l04Opposite.f k a0 a1 a2 a3) (spec_l04Opposite.f (k + 1) a0 a1 a2 a3) := by
  intro a0 a1 a2 a3 k
  have ih0 := spec_l04Opposite.mono_l k
  unfold spec_l04Opposite.f
  repeat' first
      | (with_reducible exact ih0 _ _ _ _ _)
      | (with_reducible exact LeO.refl _)
      | (with_reducible exact LeO.none _)
      | (with_reducible refine LeO.ite ?_ ?_)
      | (with_reducible refine LeO.bind ?_ (fun _ => ?_))
      | exact ih0 _ _ _ _ _
      | exact LeO.none _
      | refine LeO.ite ?_ ?_
      | refine LeO.bind ?_ (fun _ => ?_)
set_option maxHeartbeats 8000000 in
set_option maxRecDepth 100000 in
theorem spec_l04Opposite.calls (k : Nat) (a0_0 : Int) (a0_1 : Int) (a0_2 : Int) (a0_3 : Int) (r1 : Int) (r2 : Int) (r3 : Int) (r4 : Int) (w : World) (h : spec_l04Opposite.f k a0_0 a0_1 a0_2 a0_3 = some (r1, r2, r3, r4)) :
    Calls Try.prog 29 #[.agg #[.int .i8 a0_0, .int .i8 a0_1, .int .i8 a0_2, .int .i8 a0_3]] w fun e w' => e = .returned (.agg #[.int .i8 r1, .int .i8 r2, .int .i8 r3, .int .i8 r4]) ∧ Below w.heap.size w w' := by
  have hu24 := Try.underlying24
  have HB := Aside0.mk (Below.refl w.heap.size w)
  have H : (spec_l04Opposite.l0 k 0 a0_0 a0_1 a0_2 a0_3) = some (r1, r2, r3, r4) := h
  clear h
  have H' := Aside0.mk H
  clear H
  go_enter Try.func29, Try.ntmps29
  go_wp2_with (first | ((with_reducible refine gate_dst (N := 1) rfl ?_); refine box_event ?hg (N := 1) ?hd (cs := #[.int .i8 a0_0, .int .i8 a0_1, .int .i8 a0_2, .int .i8 a0_3]) (t := 24) ?hr ?_; (case hd => rfl); (case hg => rfl); (case hr => first | (go_simp; done) | (go_simp; rfl)); intro gb101 hg w2 hbox hb; have n0_ := Aside0.mk (below_step (by repeat (first | (with_reducible first | exact HB.out | apply below_alloc | apply pw_below_drewN | apply below_drew1) | exact HB.out)) hb); have n1_ := Aside0.mk (hbox); have n2_ := Aside0.mk ((by rw [hg]; exact (below_size (by repeat (first | (with_reducible first | exact HB.out | apply below_alloc | apply pw_below_drewN | apply below_drew1) | exact HB.out))) : w.heap.size ≤ gb101)); have n3_ := Aside0.mk ((by rw [hg]; exact (below_size (by repeat (first | (with_reducible first | exact HB.out | apply below_alloc | apply pw_below_drewN | apply below_drew1) | exact HB.out))) : w.heap.size ≤ gb101)); clear HB; have HB := n0_; have BK101 := n1_; have GW101 := n2_; have GE101 := n3_; clear n0_ n1_ n2_ n3_; clear hb hbox hg) | ((with_reducible refine gate_dst (N := 2) rfl ?_); refine box_event ?hg (N := 2) ?hd (cs := #[.int .i8 0, .int .i8 0, .int .i8 0, .int .i8 0]) (t := 24) ?hr ?_; (case hd => rfl); (case hg => rfl); (case hr => first | (go_simp; done) | (go_simp; rfl)); intro gb102 hg w3 hbox hb; have n0_ := Aside0.mk (blk_below (g := gb101) (o := .cells #[.int .i8 a0_0, .int .i8 a0_1, .int .i8 a0_2, .int .i8 a0_3] 24 (0, 0)) (by (with_reducible repeat (first | refine blk_drewN ?_ _ | refine blk_drew ?_ | refine blk_alloc ?_ _)); exact BK101.out) hb); have n1_ := Aside0.mk (below_step (by repeat (first | (with_reducible first | exact HB.out | apply below_alloc | apply pw_below_drewN | apply below_drew1 | refine below_set ?_ GE101.out) | exact HB.out)) hb); have n2_ := Aside0.mk (hbox); have n3_ := Aside0.mk ((by rw [hg]; exact (below_size (by repeat (first | (with_reducible first | exact HB.out | apply below_alloc | apply pw_below_drewN | apply below_drew1 | refine below_set ?_ GE101.out) | exact HB.out))) : w.heap.size ≤ gb102)); have n4_ := Aside0.mk ((by rw [hg]; exact (below_size (by repeat (first | (with_reducible first | exact HB.out | apply below_alloc | apply pw_below_drewN | apply below_drew1 | refine below_set ?_ GE101.out) | exact HB.out))) : w.heap.size ≤ gb102)); have n5_ := Aside0.mk ((by rw [hg]; exact Nat.ne_of_lt (blk_lt (g := gb101) (o := .cells #[.int .i8 a0_0, .int .i8 a0_1, .int .i8 a0_2, .int .i8 a0_3] 24 (0, 0)) (by (with_reducible repeat (first | refine blk_drewN ?_ _ | refine blk_drew ?_ | refine blk_alloc ?_ _)); exact BK101.out)) : gb101 ≠ gb102)); have n6_ := Aside0.mk ((by rw [hg]; exact Nat.ne_of_gt (blk_lt (g := gb101) (o := .cells #[.int .i8 a0_0, .int .i8 a0_1, .int .i8 a0_2, .int .i8 a0_3] 24 (0, 0)) (by (with_reducible repeat (first | refine blk_drewN ?_ _ | refine blk_drew ?_ | refine blk_alloc ?_ _)); exact BK101.out)) : gb102 ≠ gb101)); clear BK101; clear HB; have BK101 := n0_; have HB := n1_; have BK102 := n2_; have GW102 := n3_; have GE102 := n4_; have NB101_102 := n5_; have NB102_101 := n6_; clear n0_ n1_ n2_ n3_ n4_ n5_ n6_; clear hb hbox hg))
  go_loopg [3] k (fun kq v3 w' => ∃ (x3_1 : Int) (x102000_1 : Int) (x102001_1 : Int) (x102002_1 : Int) (x102003_1 : Int), v3 = .int .i64 x3_1 ∧ Aside0 (spec_l04Opposite.l0 kq x3_1 x102000_1 x102001_1 x102002_1 x102003_1 = some (r1, r2, r3, r4)) ∧ Aside0 (kq ≤ k) ∧ Aside0 (w'.heap[gb101]? = some (.cells #[.int .i8 x102000_1, .int .i8 x102001_1, .int .i8 x102002_1, .int .i8 x102003_1] 24 (0, 0))) ∧ Aside0 (w'.heap[gb102]? = some (.cells #[.int .i8 0, .int .i8 0, .int .i8 0, .int .i8 0] 24 (0, 0))) ∧ Aside0 (Below w.heap.size w w'))
  case atStart => exact ⟨(0), (a0_0), (a0_1), (a0_2), (a0_3), (by first | rfl | (simp; done) | (simp [*]; done)), H', ⟨Nat.le_refl _⟩, ⟨by (with_reducible repeat (first | refine blk_drewN ?_ _ | refine blk_drew ?_ | refine blk_alloc ?_ _)); exact BK101.out⟩, ⟨by (with_reducible repeat (first | refine blk_drewN ?_ _ | refine blk_drew ?_ | refine blk_alloc ?_ _)); exact BK102.out⟩, ⟨by repeat (first | (with_reducible first | exact HB.out | apply below_alloc | apply pw_below_drewN | apply below_drew1 | refine below_set ?_ GE101.out | refine below_set ?_ GE102.out) | exact HB.out)⟩⟩
  case round =>
    clear H'
    try clear c2
    try clear p2
    obtain ⟨x3_1, x102000_1, x102001_1, x102002_1, x102003_1, rfl, HA, HK1, BK101, BK102, HB⟩ := hrel
    cases gk with
    | zero => exact absurd HA.out (by simp [spec_l04Opposite.l0])
    | succ k1 =>
      have H := HA.out
      clear HA
      simp only [spec_l04Opposite.l0] at H
      by_cases c4 : x3_1 < 4
      · rw [if_pos c4] at H
        have c4b0 : decide (x3_1 < 4) = true := decide_eq_true c4
        clear c4
        by_cases c5 : 0 ≤ x3_1
        · rw [if_pos c5] at H
          have c5b0 : decide (0 ≤ x3_1) = true := decide_eq_true c5
          clear c5
          have H' := Aside0.mk H
          clear H
          have hnb9 := NB101_102.out
          have hnc9 := NB102_101.out
          have hcz10_0 : wr.cell? ⟨gb101, 0, none⟩ = some (.int .i8 x102000_1) := (blk_cell BK101.out 0).trans rfl
          have hcz10_1 : wr.cell? ⟨gb101, 1, none⟩ = some (.int .i8 x102001_1) := (blk_cell BK101.out 1).trans rfl
          have hcz10_2 : wr.cell? ⟨gb101, 2, none⟩ = some (.int .i8 x102002_1) := (blk_cell BK101.out 2).trans rfl
          have hcz10_3 : wr.cell? ⟨gb101, 3, none⟩ = some (.int .i8 x102003_1) := (blk_cell BK101.out 3).trans rfl
          have hfz10_0 := blk_frozen BK101.out 0
          have hfz10_1 := blk_frozen BK101.out 1
          have hfz10_2 := blk_frozen BK101.out 2
          have hfz10_3 := blk_frozen BK101.out 3
          have p6 : 0 ≤ (x3_1 : Int) := of_decide_eq_true (by first | (with_reducible assumption) | assumption)
          have q6 : (x3_1 : Int) < 4 := of_decide_eq_true (by first | (with_reducible assumption) | assumption)
          have hx6 : wr.cell? ⟨gb101, (x3_1 : Int).toNat, none⟩ = some (.int .i8 (rd [x102000_1, x102001_1, x102002_1, x102003_1] x3_1)) := ard_cell (k := .i8) (l := [x102000_1, x102001_1, x102002_1, x102003_1]) BK101.out p6 q6
          have hf6 := blk_frozen BK101.out (x3_1 : Int).toNat
          have P6 := Aside0.mk p6
          replace p6 := eq_true p6
          replace q6 := eq_true q6
          have p7 : 0 ≤ (x3_1 : Int) := of_decide_eq_true (by first | (with_reducible assumption) | assumption)
          have q7 : (x3_1 : Int) < 4 := of_decide_eq_true (by first | (with_reducible assumption) | assumption)
          have hx7 : wr.cell? ⟨gb101, (x3_1 : Int).toNat, none⟩ = some (.int .i8 (rd [x102000_1, x102001_1, x102002_1, x102003_1] x3_1)) := ard_cell (k := .i8) (l := [x102000_1, x102001_1, x102002_1, x102003_1]) BK101.out p7 q7
          have hf7 := blk_frozen BK101.out (x3_1 : Int).toNat
          have P7 := Aside0.mk p7
          replace p7 := eq_true p7
          replace q7 := eq_true q7
          go_wp2_with (first | ((with_reducible refine gate_store (t := 22) (p := 13) rfl ?_); refine store_event (t := 22) (p := 13) (v := ?vo_w11) (w1 := (wr.setCell ⟨gb101, (x3_1 : Int).toNat, none⟩ (.int .i8 (IntKind.i8.wrap (-(rd [x102000_1, x102001_1, x102002_1, x102003_1] x3_1)))))) ?hg ?ho ?hn ?hr ?_; (case ho => rfl); (case hg => rfl); (case hn => rfl); (case hr => first | (go_simp; done) | (go_simp; rfl)); intro w11 hw; have n0_ : Aside0 (w11.heap[gb101]? = some (.cells #[.int .i8 (aup x3_1 0 (IntKind.i8.wrap (-(rd [x102000_1, x102001_1, x102002_1, x102003_1] x3_1))) x102000_1), .int .i8 (aup x3_1 1 (IntKind.i8.wrap (-(rd [x102000_1, x102001_1, x102002_1, x102003_1] x3_1))) x102001_1), .int .i8 (aup x3_1 2 (IntKind.i8.wrap (-(rd [x102000_1, x102001_1, x102002_1, x102003_1] x3_1))) x102002_1), .int .i8 (aup x3_1 3 (IntKind.i8.wrap (-(rd [x102000_1, x102001_1, x102002_1, x102003_1] x3_1))) x102003_1)] 24 (0, 0))) := ⟨(by rw [hw]; exact (by (with_reducible repeat (first | refine blk_drewN ?_ _ | refine blk_drew ?_ | refine blk_alloc ?_ _)); refine blk_put (cs := #[.int .i8 x102000_1, .int .i8 x102001_1, .int .i8 x102002_1, .int .i8 x102003_1]) ?_ (x3_1 : Int).toNat _ (ups_set (k := .i8) (l := [x102000_1, x102001_1, x102002_1, x102003_1]) P7.out); (with_reducible repeat (first | refine blk_drewN ?_ _ | refine blk_drew ?_ | refine blk_alloc ?_ _)); exact BK101.out))⟩; have n1_ : Aside0 (w11.heap[gb102]? = some (.cells #[.int .i8 0, .int .i8 0, .int .i8 0, .int .i8 0] 24 (0, 0))) := ⟨(by rw [hw]; exact (by (with_reducible repeat (first | refine blk_drewN ?_ _ | refine blk_drew ?_ | refine blk_alloc ?_ _)); refine blk_far ?_ NB102_101.out _; (with_reducible repeat (first | refine blk_drewN ?_ _ | refine blk_drew ?_ | refine blk_alloc ?_ _)); exact BK102.out))⟩; have n2_ : Aside0 (Below w.heap.size w w11) := ⟨(by rw [hw]; exact (by repeat (first | (with_reducible first | exact HB.out | apply below_alloc | apply pw_below_drewN | apply below_drew1 | refine below_set ?_ GE101.out | refine below_set ?_ GE102.out) | exact HB.out)))⟩; clear hw; clear BK101; clear BK102; clear HB; have BK101 := n0_; have BK102 := n1_; have HB := n2_; clear n0_ n1_ n2_))
          go_roundg k1
          case measure => have := HK1.out; omega
          case rel => exact ⟨(wrap64 (x3_1 + 1)), (aup x3_1 0 (IntKind.i8.wrap (-(rd [x102000_1, x102001_1, x102002_1, x102003_1] x3_1))) x102000_1), (aup x3_1 1 (IntKind.i8.wrap (-(rd [x102000_1, x102001_1, x102002_1, x102003_1] x3_1))) x102001_1), (aup x3_1 2 (IntKind.i8.wrap (-(rd [x102000_1, x102001_1, x102002_1, x102003_1] x3_1))) x102002_1), (aup x3_1 3 (IntKind.i8.wrap (-(rd [x102000_1, x102001_1, x102002_1, x102003_1] x3_1))) x102003_1), (by first | rfl | (simp; done) | (simp [*]; done)), H', ⟨by have := HK1.out; omega⟩, ⟨by (with_reducible repeat (first | refine blk_drewN ?_ _ | refine blk_drew ?_ | refine blk_alloc ?_ _)); exact BK101.out⟩, ⟨by (with_reducible repeat (first | refine blk_drewN ?_ _ | refine blk_drew ?_ | refine blk_alloc ?_ _)); exact BK102.out⟩, ⟨by repeat (first | (with_reducible first | exact HB.out | apply below_alloc | apply pw_below_drewN | apply below_drew1 | refine below_set ?_ GE101.out | refine below_set ?_ GE102.out) | exact HB.out)⟩⟩
        · rw [if_neg c5] at H
          exact absurd H (by simp)
      · rw [if_neg c4] at H
        have c4b0 : decide (x3_1 < 4) = false := decide_eq_false c4
        clear c4
        simp only [Option.some.injEq, Prod.mk.injEq] at H
        obtain ⟨rfl, rfl, rfl, rfl⟩ := H
        have hnb12 := NB101_102.out
        have hnc12 := NB102_101.out
        have hcz13_0 : wr.cell? ⟨gb101, 0, none⟩ = some (.int .i8 x102000_1) := (blk_cell BK101.out 0).trans rfl
        have hcz13_1 : wr.cell? ⟨gb101, 1, none⟩ = some (.int .i8 x102001_1) := (blk_cell BK101.out 1).trans rfl
        have hcz13_2 : wr.cell? ⟨gb101, 2, none⟩ = some (.int .i8 x102002_1) := (blk_cell BK101.out 2).trans rfl
        have hcz13_3 : wr.cell? ⟨gb101, 3, none⟩ = some (.int .i8 x102003_1) := (blk_cell BK101.out 3).trans rfl
        have hfz13_0 := blk_frozen BK101.out 0
        have hfz13_1 := blk_frozen BK101.out 1
        have hfz13_2 := blk_frozen BK101.out 2
        have hfz13_3 := blk_frozen BK101.out 3
        have hcz14_0 : wr.cell? ⟨gb102, 0, none⟩ = some (.int .i8 0) := (blk_cell BK102.out 0).trans rfl
        have hcz14_1 : wr.cell? ⟨gb102, 1, none⟩ = some (.int .i8 0) := (blk_cell BK102.out 1).trans rfl
        have hcz14_2 : wr.cell? ⟨gb102, 2, none⟩ = some (.int .i8 0) := (blk_cell BK102.out 2).trans rfl
        have hcz14_3 : wr.cell? ⟨gb102, 3, none⟩ = some (.int .i8 0) := (blk_cell BK102.out 3).trans rfl
        have hfz14_0 := blk_frozen BK102.out 0
        have hfz14_1 := blk_frozen BK102.out 1
        have hfz14_2 := blk_frozen BK102.out 2
        have hfz14_3 := blk_frozen BK102.out 3
        go_wp2
        refine bodyPost_ret (results_cell_row rfl _ _ gb102 24 #[.int .i8 x102000_1, .int .i8 x102001_1, .int .i8 x102002_1, .int .i8 x102003_1] (0, 0) _ rfl (by (with_reducible repeat (first | refine blk_drewN ?_ _ | refine blk_drew ?_ | refine blk_alloc ?_ _)); refine blk_put (cs := #[.int .i8 x102000_1, .int .i8 x102001_1, .int .i8 x102002_1, .int .i8 0]) ?_ 3 _ rfl; (with_reducible repeat (first | refine blk_drewN ?_ _ | refine blk_drew ?_ | refine blk_alloc ?_ _)); refine blk_put (cs := #[.int .i8 x102000_1, .int .i8 x102001_1, .int .i8 0, .int .i8 0]) ?_ 2 _ rfl; (with_reducible repeat (first | refine blk_drewN ?_ _ | refine blk_drew ?_ | refine blk_alloc ?_ _)); refine blk_put (cs := #[.int .i8 x102000_1, .int .i8 0, .int .i8 0, .int .i8 0]) ?_ 1 _ rfl; (with_reducible repeat (first | refine blk_drewN ?_ _ | refine blk_drew ?_ | refine blk_alloc ?_ _)); refine blk_put (cs := #[.int .i8 0, .int .i8 0, .int .i8 0, .int .i8 0]) ?_ 0 _ rfl; (with_reducible repeat (first | refine blk_drewN ?_ _ | refine blk_drew ?_ | refine blk_alloc ?_ _)); exact BK102.out) Try.underlying24 rfl (by kernel_rfl)) rfl ?_
        exact ⟨by first | rfl | (simp [errW_none, errW_some] <;> rfl) | (simp [*, errW_none, errW_some] <;> rfl), by repeat (first | (with_reducible first | exact HB.out | apply below_alloc | apply pw_below_drewN | apply below_drew1 | refine below_set ?_ GE101.out | refine below_set ?_ GE102.out) | exact HB.out)⟩

/-! ### spec_OppositeWord: function 10 -/
def spec_OppositeWord.f (k : Nat) (a0_0 : Int) (a0_1 : Int) (a0_2 : Int) (a0_3 : Int) : Option (Int × Int × Int × Int) := (spec_l04Opposite.f k a0_0 a0_1 a0_2 a0_3).bind fun bt105 => (some (bt105.1, bt105.2.1, bt105.2.2.1, bt105.2.2.2))
theorem spec_OppositeWord.mono : ∀ a0 a1 a2 a3 k, LeO (spec_OppositeWord.f k a0 a1 a2 a3) (spec_OppositeWord.f (k + 1) a0 a1 a2 a3) := by
  intro a0 a1 a2 a3 k
  unfold spec_OppositeWord.f
  repeat' first
      | (with_reducible exact spec_l04Opposite.mono _ _ _ _ _)
      | (with_reducible exact LeO.refl _)
      | (with_reducible exact LeO.none _)
      | (with_reducible refine LeO.ite ?_ ?_)
      | (with_reducible refine LeO.bind ?_ (fun _ => ?_))
      | exact spec_l04Opposite.mono _ _ _ _ _
      | exact LeO.none _
      | refine LeO.ite ?_ ?_
      | refine LeO.bind ?_ (fun _ => ?_)
set_option maxHeartbeats 8000000 in
set_option maxRecDepth 100000 in
theorem spec_OppositeWord.calls (k : Nat) (a0_0 : Int) (a0_1 : Int) (a0_2 : Int) (a0_3 : Int) (r1 : Int) (r2 : Int) (r3 : Int) (r4 : Int) (w : World) (h : spec_OppositeWord.f k a0_0 a0_1 a0_2 a0_3 = some (r1, r2, r3, r4)) :
    Calls Try.prog 10 #[.agg #[.int .i8 a0_0, .int .i8 a0_1, .int .i8 a0_2, .int .i8 a0_3]] w fun e w' => e = .returned (.agg #[.int .i8 r1, .int .i8 r2, .int .i8 r3, .int .i8 r4]) ∧ Below w.heap.size w w' := by
  have hu24 := Try.underlying24
  have HB := Aside0.mk (Below.refl w.heap.size w)
  have H : ((spec_l04Opposite.f k a0_0 a0_1 a0_2 a0_3).bind fun bt105 => (some (bt105.1, bt105.2.1, bt105.2.2.1, bt105.2.2.2))) = some (r1, r2, r3, r4) := h
  clear h
  replace H := Option.bind_eq_some_iff.mp H
  obtain ⟨⟨t105, t106, t107, t108⟩, A20, H⟩ := H
  replace H : (some (t105, t106, t107, t108)) = some (r1, r2, r3, r4) := H
  have A2 := Aside0.mk A20
  clear A20
  simp only [Option.some.injEq, Prod.mk.injEq] at H
  obtain ⟨rfl, rfl, rfl, rfl⟩ := H
  go_enter Try.func10, Try.ntmps10
  go_wp2_with (first | ((with_reducible refine gate_dst (N := 1) rfl ?_); refine box_event ?hg (N := 1) ?hd (cs := #[.int .i8 a0_0, .int .i8 a0_1, .int .i8 a0_2, .int .i8 a0_3]) (t := 24) ?hr ?_; (case hd => rfl); (case hg => rfl); (case hr => first | (go_simp; done) | (go_simp; rfl)); intro gb103 hg w3 hbox hb; have n0_ := Aside0.mk (below_step (by repeat (first | (with_reducible first | exact HB.out | apply below_alloc | apply pw_below_drewN | apply below_drew1) | exact HB.out)) hb); have n1_ := Aside0.mk (hbox); have n2_ := Aside0.mk ((by rw [hg]; exact (below_size (by repeat (first | (with_reducible first | exact HB.out | apply below_alloc | apply pw_below_drewN | apply below_drew1) | exact HB.out))) : w.heap.size ≤ gb103)); have n3_ := Aside0.mk ((by rw [hg]; exact (below_size (by repeat (first | (with_reducible first | exact HB.out | apply below_alloc | apply pw_below_drewN | apply below_drew1) | exact HB.out))) : w.heap.size ≤ gb103)); clear HB; have HB := n0_; have BK103 := n1_; have GW103 := n2_; have GE103 := n3_; clear n0_ n1_ n2_ n3_; clear hb hbox hg) | ((with_reducible refine gate_dst (N := 2) rfl ?_); refine box_event ?hg (N := 2) ?hd (cs := #[.int .i8 0, .int .i8 0, .int .i8 0, .int .i8 0]) (t := 24) ?hr ?_; (case hd => rfl); (case hg => rfl); (case hr => first | (go_simp; done) | (go_simp; rfl)); intro gb104 hg w4 hbox hb; have n0_ := Aside0.mk (blk_below (g := gb103) (o := .cells #[.int .i8 a0_0, .int .i8 a0_1, .int .i8 a0_2, .int .i8 a0_3] 24 (0, 0)) (by (with_reducible repeat (first | refine blk_drewN ?_ _ | refine blk_drew ?_ | refine blk_alloc ?_ _)); exact BK103.out) hb); have n1_ := Aside0.mk (below_step (by repeat (first | (with_reducible first | exact HB.out | apply below_alloc | apply pw_below_drewN | apply below_drew1 | refine below_set ?_ GE103.out) | exact HB.out)) hb); have n2_ := Aside0.mk (hbox); have n3_ := Aside0.mk ((by rw [hg]; exact (below_size (by repeat (first | (with_reducible first | exact HB.out | apply below_alloc | apply pw_below_drewN | apply below_drew1 | refine below_set ?_ GE103.out) | exact HB.out))) : w.heap.size ≤ gb104)); have n4_ := Aside0.mk ((by rw [hg]; exact (below_size (by repeat (first | (with_reducible first | exact HB.out | apply below_alloc | apply pw_below_drewN | apply below_drew1 | refine below_set ?_ GE103.out) | exact HB.out))) : w.heap.size ≤ gb104)); have n5_ := Aside0.mk ((by rw [hg]; exact Nat.ne_of_lt (blk_lt (g := gb103) (o := .cells #[.int .i8 a0_0, .int .i8 a0_1, .int .i8 a0_2, .int .i8 a0_3] 24 (0, 0)) (by (with_reducible repeat (first | refine blk_drewN ?_ _ | refine blk_drew ?_ | refine blk_alloc ?_ _)); exact BK103.out)) : gb103 ≠ gb104)); have n6_ := Aside0.mk ((by rw [hg]; exact Nat.ne_of_gt (blk_lt (g := gb103) (o := .cells #[.int .i8 a0_0, .int .i8 a0_1, .int .i8 a0_2, .int .i8 a0_3] 24 (0, 0)) (by (with_reducible repeat (first | refine blk_drewN ?_ _ | refine blk_drew ?_ | refine blk_alloc ?_ _)); exact BK103.out)) : gb104 ≠ gb103)); clear BK103; clear HB; have BK103 := n0_; have HB := n1_; have BK104 := n2_; have GW104 := n3_; have GE104 := n4_; have NB103_104 := n5_; have NB104_103 := n6_; clear n0_ n1_ n2_ n3_ n4_ n5_ n6_; clear hb hbox hg; have hnb5 := NB103_104.out; have hnc5 := NB104_103.out; have hcz6_0 : w4.cell? ⟨gb103, 0, none⟩ = some (.int .i8 a0_0) := (blk_cell BK103.out 0).trans rfl; have hcz6_1 : w4.cell? ⟨gb103, 1, none⟩ = some (.int .i8 a0_1) := (blk_cell BK103.out 1).trans rfl; have hcz6_2 : w4.cell? ⟨gb103, 2, none⟩ = some (.int .i8 a0_2) := (blk_cell BK103.out 2).trans rfl; have hcz6_3 : w4.cell? ⟨gb103, 3, none⟩ = some (.int .i8 a0_3) := (blk_cell BK103.out 3).trans rfl; have hfz6_0 := blk_frozen BK103.out 0; have hfz6_1 := blk_frozen BK103.out 1; have hfz6_2 := blk_frozen BK103.out 2; have hfz6_3 := blk_frozen BK103.out 3) | ((with_reducible refine gate_callee (f := 29) rfl ?_); refine goesL_ (some 4) rfl rfl Try.func29 (by kernel_rfl) rfl #[.agg #[.int .i8 a0_0, .int .i8 a0_1, .int .i8 a0_2, .int .i8 a0_3]] rfl (by (try simp only [List.map_toArray, List.map_cons, List.map_nil]); first | done | rfl | (simp only [List.length_drop, List.length_take]; rfl)) ?_; (with_reducible refine (spec_l04Opposite.calls k a0_0 a0_1 a0_2 a0_3 t105 t106 t107 t108 _ A2.out).mono ?_); rintro e w7 ⟨rfl, hb⟩; refine ⟨_, rfl, ?_⟩; have n0_ := Aside0.mk (blk_below (g := gb103) (o := .cells #[.int .i8 a0_0, .int .i8 a0_1, .int .i8 a0_2, .int .i8 a0_3] 24 (0, 0)) (by (with_reducible repeat (first | refine blk_drewN ?_ _ | refine blk_drew ?_ | refine blk_alloc ?_ _)); exact BK103.out) hb); have n1_ := Aside0.mk (blk_below (g := gb104) (o := .cells #[.int .i8 0, .int .i8 0, .int .i8 0, .int .i8 0] 24 (0, 0)) (by (with_reducible repeat (first | refine blk_drewN ?_ _ | refine blk_drew ?_ | refine blk_alloc ?_ _)); exact BK104.out) hb); have n2_ := Aside0.mk (below_step (by repeat (first | (with_reducible first | exact HB.out | apply below_alloc | apply pw_below_drewN | apply below_drew1 | refine below_set ?_ GE103.out | refine below_set ?_ GE104.out) | exact HB.out)) hb); clear BK103; clear BK104; clear HB; have BK103 := n0_; have BK104 := n1_; have HB := n2_; clear n0_ n1_ n2_; (try clear hb); (try clear hb2); (try clear hk); (try clear hi); have hcz8_0 : w7.cell? ⟨gb104, 0, none⟩ = some (.int .i8 0) := (blk_cell BK104.out 0).trans rfl; have hcz8_1 : w7.cell? ⟨gb104, 1, none⟩ = some (.int .i8 0) := (blk_cell BK104.out 1).trans rfl; have hcz8_2 : w7.cell? ⟨gb104, 2, none⟩ = some (.int .i8 0) := (blk_cell BK104.out 2).trans rfl; have hcz8_3 : w7.cell? ⟨gb104, 3, none⟩ = some (.int .i8 0) := (blk_cell BK104.out 3).trans rfl; have hfz8_0 := blk_frozen BK104.out 0; have hfz8_1 := blk_frozen BK104.out 1; have hfz8_2 := blk_frozen BK104.out 2; have hfz8_3 := blk_frozen BK104.out 3))
  refine bodyPost_ret (results_cell_row rfl _ _ gb104 24 #[.int .i8 t105, .int .i8 t106, .int .i8 t107, .int .i8 t108] (0, 0) _ rfl (by (with_reducible repeat (first | refine blk_drewN ?_ _ | refine blk_drew ?_ | refine blk_alloc ?_ _)); refine blk_put (cs := #[.int .i8 t105, .int .i8 t106, .int .i8 t107, .int .i8 0]) ?_ 3 _ rfl; (with_reducible repeat (first | refine blk_drewN ?_ _ | refine blk_drew ?_ | refine blk_alloc ?_ _)); refine blk_put (cs := #[.int .i8 t105, .int .i8 t106, .int .i8 0, .int .i8 0]) ?_ 2 _ rfl; (with_reducible repeat (first | refine blk_drewN ?_ _ | refine blk_drew ?_ | refine blk_alloc ?_ _)); refine blk_put (cs := #[.int .i8 t105, .int .i8 0, .int .i8 0, .int .i8 0]) ?_ 1 _ rfl; (with_reducible repeat (first | refine blk_drewN ?_ _ | refine blk_drew ?_ | refine blk_alloc ?_ _)); refine blk_put (cs := #[.int .i8 0, .int .i8 0, .int .i8 0, .int .i8 0]) ?_ 0 _ rfl; (with_reducible repeat (first | refine blk_drewN ?_ _ | refine blk_drew ?_ | refine blk_alloc ?_ _)); exact BK104.out) Try.underlying24 rfl (by kernel_rfl)) rfl ?_
  exact ⟨by first | rfl | (simp [errW_none, errW_some] <;> rfl) | (simp [*, errW_none, errW_some] <;> rfl), by repeat (first | (with_reducible first | exact HB.out | apply below_alloc | apply pw_below_drewN | apply below_drew1 | refine below_set ?_ GE103.out | refine below_set ?_ GE104.out) | exact HB.out)⟩

/-! ### laws_toWord: function 11 -/
def laws_toWord.l0 : Nat → Int → Int → Int → Int → Int → Int → Int → Int → Int → Option (Int × Int × Int × Int)
  | 0, _, _, _, _, _, _, _, _, _ => none
  | k + 1, x4, x110000, x110001, x110002, x110003, x112000, x112001, x112002, x112003 => if x4 < 4 then (if 0 ≤ x4 then (laws_toWord.l0 k (wrap64 (x4 + 1)) x110000 x110001 x110002 x110003 (aup x4 0 (rd [x110000, x110001, x110002, x110003] x4) x112000) (aup x4 1 (rd [x110000, x110001, x110002, x110003] x4) x112001) (aup x4 2 (rd [x110000, x110001, x110002, x110003] x4) x112002) (aup x4 3 (rd [x110000, x110001, x110002, x110003] x4) x112003)) else (none)) else (some (x112000, x112001, x112002, x112003))
def laws_toWord.f (k : Nat) (a0_0 : Int) (a0_1 : Int) (a0_2 : Int) (a0_3 : Int) : Option (Int × Int × Int × Int) := laws_toWord.l0 k 0 a0_0 a0_1 a0_2 a0_3 0 0 0 0
theorem laws_toWord.mono_l : ∀ k, (∀ y0 y1 y2 y3 y4 y5 y6 y7 y8, LeO (laws_toWord.l0 k y0 y1 y2 y3 y4 y5 y6 y7 y8) (laws_toWord.l0 (k + 1) y0 y1 y2 y3 y4 y5 y6 y7 y8))
  | 0 => fun _ _ _ _ _ _ _ _ _ r h => by simp [laws_toWord.l0] at h
  | k + 1 => by
    have ih0 := laws_toWord.mono_l k
    · intro y0 y1 y2 y3 y4 y5 y6 y7 y8
      unfold laws_toWord.l0
      repeat' first
      | (with_reducible exact ih0 _ _ _ _ _ _ _ _ _)
      | (with_reducible exact LeO.refl _)
      | (with_reducible exact LeO.none _)
      | (with_reducible refine LeO.ite ?_ ?_)
      | (with_reducible refine LeO.bind ?_ (fun _ => ?_))
      | exact ih0 _ _ _ _ _ _ _ _ _
      | exact LeO.none _
      | refine LeO.ite ?_ ?_
      | refine LeO.bind ?_ (fun _ => ?_)
theorem laws_toWord.mono : ∀ a0 a1 a2 a3 k, LeO (laws_toWord.f k a0 a1 a2 a3) (laws_toWord.f (k + 1) a0 a1 a2 a3) := by
  intro a0 a1 a2 a3 k
  have ih0 := laws_toWord.mono_l k
  unfold laws_toWord.f
  repeat' first
      | (with_reducible exact ih0 _ _ _ _ _ _ _ _ _)
      | (with_reducible exact LeO.refl _)
      | (with_reducible exact LeO.none _)
      | (with_reducible refine LeO.ite ?_ ?_)
      | (with_reducible refine LeO.bind ?_ (fun _ => ?_))
      | exact ih0 _ _ _ _ _ _ _ _ _
      | exact LeO.none _
      | refine LeO.ite ?_ ?_
      | refine LeO.bind ?_ (fun _ => ?_)
set_option maxHeartbeats 8000000 in
set_option maxRecDepth 100000 in
theorem laws_toWord.calls (k : Nat) (a0_0 : Int) (a0_1 : Int) (a0_2 : Int) (a0_3 : Int) (r1 : Int) (r2 : Int) (r3 : Int) (r4 : Int) (w : World) (h : laws_toWord.f k a0_0 a0_1 a0_2 a0_3 = some (r1, r2, r3, r4)) :
    Calls Try.prog 11 #[.agg #[.int .i8 a0_0, .int .i8 a0_1, .int .i8 a0_2, .int .i8 a0_3]] w fun e w' => e = .returned (.agg #[.int .i8 r1, .int .i8 r2, .int .i8 r3, .int .i8 r4]) ∧ Below w.heap.size w w' := by
  have hu23 := Try.underlying23
  have hu24 := Try.underlying24
  have HB := Aside0.mk (Below.refl w.heap.size w)
  have H : (laws_toWord.l0 k 0 a0_0 a0_1 a0_2 a0_3 0 0 0 0) = some (r1, r2, r3, r4) := h
  clear h
  have H' := Aside0.mk H
  clear H
  go_enter Try.func11, Try.ntmps11
  go_wp2_with (first | ((with_reducible refine gate_dst (N := 1) rfl ?_); refine box_event ?hg (N := 1) ?hd (cs := #[.int .i8 a0_0, .int .i8 a0_1, .int .i8 a0_2, .int .i8 a0_3]) (t := 23) ?hr ?_; (case hd => rfl); (case hg => rfl); (case hr => first | (go_simp; done) | (go_simp; rfl)); intro gb109 hg w2 hbox hb; have n0_ := Aside0.mk (below_step (by repeat (first | (with_reducible first | exact HB.out | apply below_alloc | apply pw_below_drewN | apply below_drew1) | exact HB.out)) hb); have n1_ := Aside0.mk (hbox); have n2_ := Aside0.mk ((by rw [hg]; exact (below_size (by repeat (first | (with_reducible first | exact HB.out | apply below_alloc | apply pw_below_drewN | apply below_drew1) | exact HB.out))) : w.heap.size ≤ gb109)); have n3_ := Aside0.mk ((by rw [hg]; exact (below_size (by repeat (first | (with_reducible first | exact HB.out | apply below_alloc | apply pw_below_drewN | apply below_drew1) | exact HB.out))) : w.heap.size ≤ gb109)); clear HB; have HB := n0_; have BK109 := n1_; have GW109 := n2_; have GE109 := n3_; clear n0_ n1_ n2_ n3_; clear hb hbox hg) | ((with_reducible refine gate_dst (N := 2) rfl ?_); refine box_event ?hg (N := 2) ?hd (cs := #[.int .i8 0, .int .i8 0, .int .i8 0, .int .i8 0]) (t := 24) ?hr ?_; (case hd => rfl); (case hg => rfl); (case hr => first | (go_simp; done) | (go_simp; rfl)); intro gb110 hg w3 hbox hb; have n0_ := Aside0.mk (blk_below (g := gb109) (o := .cells #[.int .i8 a0_0, .int .i8 a0_1, .int .i8 a0_2, .int .i8 a0_3] 23 (0, 0)) (by (with_reducible repeat (first | refine blk_drewN ?_ _ | refine blk_drew ?_ | refine blk_alloc ?_ _)); exact BK109.out) hb); have n1_ := Aside0.mk (below_step (by repeat (first | (with_reducible first | exact HB.out | apply below_alloc | apply pw_below_drewN | apply below_drew1 | refine below_set ?_ GE109.out) | exact HB.out)) hb); have n2_ := Aside0.mk (hbox); have n3_ := Aside0.mk ((by rw [hg]; exact (below_size (by repeat (first | (with_reducible first | exact HB.out | apply below_alloc | apply pw_below_drewN | apply below_drew1 | refine below_set ?_ GE109.out) | exact HB.out))) : w.heap.size ≤ gb110)); have n4_ := Aside0.mk ((by rw [hg]; exact (below_size (by repeat (first | (with_reducible first | exact HB.out | apply below_alloc | apply pw_below_drewN | apply below_drew1 | refine below_set ?_ GE109.out) | exact HB.out))) : w.heap.size ≤ gb110)); have n5_ := Aside0.mk ((by rw [hg]; exact Nat.ne_of_lt (blk_lt (g := gb109) (o := .cells #[.int .i8 a0_0, .int .i8 a0_1, .int .i8 a0_2, .int .i8 a0_3] 23 (0, 0)) (by (with_reducible repeat (first | refine blk_drewN ?_ _ | refine blk_drew ?_ | refine blk_alloc ?_ _)); exact BK109.out)) : gb109 ≠ gb110)); have n6_ := Aside0.mk ((by rw [hg]; exact Nat.ne_of_gt (blk_lt (g := gb109) (o := .cells #[.int .i8 a0_0, .int .i8 a0_1, .int .i8 a0_2, .int .i8 a0_3] 23 (0, 0)) (by (with_reducible repeat (first | refine blk_drewN ?_ _ | refine blk_drew ?_ | refine blk_alloc ?_ _)); exact BK109.out)) : gb110 ≠ gb109)); clear BK109; clear HB; have BK109 := n0_; have HB := n1_; have BK110 := n2_; have GW110 := n3_; have GE110 := n4_; have NB109_110 := n5_; have NB110_109 := n6_; clear n0_ n1_ n2_ n3_ n4_ n5_ n6_; clear hb hbox hg) | ((with_reducible refine gate_dst (N := 3) rfl ?_); refine box_event ?hg (N := 3) ?hd (cs := #[.int .i8 0, .int .i8 0, .int .i8 0, .int .i8 0]) (t := 24) ?hr ?_; (case hd => rfl); (case hg => rfl); (case hr => first | (go_simp; done) | (go_simp; rfl)); intro gb111 hg w4 hbox hb; have n0_ := Aside0.mk (blk_below (g := gb109) (o := .cells #[.int .i8 a0_0, .int .i8 a0_1, .int .i8 a0_2, .int .i8 a0_3] 23 (0, 0)) (by (with_reducible repeat (first | refine blk_drewN ?_ _ | refine blk_drew ?_ | refine blk_alloc ?_ _)); exact BK109.out) hb); have n1_ := Aside0.mk (blk_below (g := gb110) (o := .cells #[.int .i8 0, .int .i8 0, .int .i8 0, .int .i8 0] 24 (0, 0)) (by (with_reducible repeat (first | refine blk_drewN ?_ _ | refine blk_drew ?_ | refine blk_alloc ?_ _)); exact BK110.out) hb); have n2_ := Aside0.mk (below_step (by repeat (first | (with_reducible first | exact HB.out | apply below_alloc | apply pw_below_drewN | apply below_drew1 | refine below_set ?_ GE109.out | refine below_set ?_ GE110.out) | exact HB.out)) hb); have n3_ := Aside0.mk (hbox); have n4_ := Aside0.mk ((by rw [hg]; exact (below_size (by repeat (first | (with_reducible first | exact HB.out | apply below_alloc | apply pw_below_drewN | apply below_drew1 | refine below_set ?_ GE109.out | refine below_set ?_ GE110.out) | exact HB.out))) : w.heap.size ≤ gb111)); have n5_ := Aside0.mk ((by rw [hg]; exact (below_size (by repeat (first | (with_reducible first | exact HB.out | apply below_alloc | apply pw_below_drewN | apply below_drew1 | refine below_set ?_ GE109.out | refine below_set ?_ GE110.out) | exact HB.out))) : w.heap.size ≤ gb111)); have n6_ := Aside0.mk ((by rw [hg]; exact Nat.ne_of_lt (blk_lt (g := gb109) (o := .cells #[.int .i8 a0_0, .int .i8 a0_1, .int .i8 a0_2, .int .i8 a0_3] 23 (0, 0)) (by (with_reducible repeat (first | refine blk_drewN ?_ _ | refine blk_drew ?_ | refine blk_alloc ?_ _)); exact BK109.out)) : gb109 ≠ gb111)); have n7_ := Aside0.mk ((by rw [hg]; exact Nat.ne_of_gt (blk_lt (g := gb109) (o := .cells #[.int .i8 a0_0, .int .i8 a0_1, .int .i8 a0_2, .int .i8 a0_3] 23 (0, 0)) (by (with_reducible repeat (first | refine blk_drewN ?_ _ | refine blk_drew ?_ | refine blk_alloc ?_ _)); exact BK109.out)) : gb111 ≠ gb109)); have n8_ := Aside0.mk ((by rw [hg]; exact Nat.ne_of_lt (blk_lt (g := gb110) (o := .cells #[.int .i8 0, .int .i8 0, .int .i8 0, .int .i8 0] 24 (0, 0)) (by (with_reducible repeat (first | refine blk_drewN ?_ _ | refine blk_drew ?_ | refine blk_alloc ?_ _)); exact BK110.out)) : gb110 ≠ gb111)); have n9_ := Aside0.mk ((by rw [hg]; exact Nat.ne_of_gt (blk_lt (g := gb110) (o := .cells #[.int .i8 0, .int .i8 0, .int .i8 0, .int .i8 0] 24 (0, 0)) (by (with_reducible repeat (first | refine blk_drewN ?_ _ | refine blk_drew ?_ | refine blk_alloc ?_ _)); exact BK110.out)) : gb111 ≠ gb110)); clear BK109; clear BK110; clear HB; have BK109 := n0_; have BK110 := n1_; have HB := n2_; have BK111 := n3_; have GW111 := n4_; have GE111 := n5_; have NB109_111 := n6_; have NB111_109 := n7_; have NB110_111 := n8_; have NB111_110 := n9_; clear n0_ n1_ n2_ n3_ n4_ n5_ n6_ n7_ n8_ n9_; clear hb hbox hg))
  go_loopg [4] k (fun kq v4 w' => ∃ (x4_1 : Int) (x112000_1 : Int) (x112001_1 : Int) (x112002_1 : Int) (x112003_1 : Int), v4 = .int .i64 x4_1 ∧ Aside0 (laws_toWord.l0 kq x4_1 a0_0 a0_1 a0_2 a0_3 x112000_1 x112001_1 x112002_1 x112003_1 = some (r1, r2, r3, r4)) ∧ Aside0 (kq ≤ k) ∧ Aside0 (w'.heap[gb109]? = some (.cells #[.int .i8 a0_0, .int .i8 a0_1, .int .i8 a0_2, .int .i8 a0_3] 23 (0, 0))) ∧ Aside0 (w'.heap[gb110]? = some (.cells #[.int .i8 0, .int .i8 0, .int .i8 0, .int .i8 0] 24 (0, 0))) ∧ Aside0 (w'.heap[gb111]? = some (.cells #[.int .i8 x112000_1, .int .i8 x112001_1, .int .i8 x112002_1, .int .i8 x112003_1] 24 (0, 0))) ∧ Aside0 (Below w.heap.size w w'))
  case atStart => exact ⟨(0), (0), (0), (0), (0), (by first | rfl | (simp; done) | (simp [*]; done)), H', ⟨Nat.le_refl _⟩, ⟨by (with_reducible repeat (first | refine blk_drewN ?_ _ | refine blk_drew ?_ | refine blk_alloc ?_ _)); exact BK109.out⟩, ⟨by (with_reducible repeat (first | refine blk_drewN ?_ _ | refine blk_drew ?_ | refine blk_alloc ?_ _)); exact BK110.out⟩, ⟨by (with_reducible repeat (first | refine blk_drewN ?_ _ | refine blk_drew ?_ | refine blk_alloc ?_ _)); exact BK111.out⟩, ⟨by repeat (first | (with_reducible first | exact HB.out | apply below_alloc | apply pw_below_drewN | apply below_drew1 | refine below_set ?_ GE109.out | refine below_set ?_ GE110.out | refine below_set ?_ GE111.out) | exact HB.out)⟩⟩
  case round =>
    clear H'
    try clear c1
    try clear p2
    obtain ⟨x4_1, x112000_1, x112001_1, x112002_1, x112003_1, rfl, HA, HK1, BK109, BK110, BK111, HB⟩ := hrel
    cases gk with
    | zero => exact absurd HA.out (by simp [laws_toWord.l0])
    | succ k1 =>
      have H := HA.out
      clear HA
      simp only [laws_toWord.l0] at H
      by_cases c5 : x4_1 < 4
      · rw [if_pos c5] at H
        have c5b0 : decide (x4_1 < 4) = true := decide_eq_true c5
        clear c5
        by_cases c6 : 0 ≤ x4_1
        · rw [if_pos c6] at H
          have c6b0 : decide (0 ≤ x4_1) = true := decide_eq_true c6
          clear c6
          have H' := Aside0.mk H
          clear H
          have hnb10 := NB109_110.out
          have hnc10 := NB110_109.out
          have hnb11 := NB109_111.out
          have hnc11 := NB111_109.out
          have hcz12_0 : wr.cell? ⟨gb109, 0, none⟩ = some (.int .i8 a0_0) := (blk_cell BK109.out 0).trans rfl
          have hcz12_1 : wr.cell? ⟨gb109, 1, none⟩ = some (.int .i8 a0_1) := (blk_cell BK109.out 1).trans rfl
          have hcz12_2 : wr.cell? ⟨gb109, 2, none⟩ = some (.int .i8 a0_2) := (blk_cell BK109.out 2).trans rfl
          have hcz12_3 : wr.cell? ⟨gb109, 3, none⟩ = some (.int .i8 a0_3) := (blk_cell BK109.out 3).trans rfl
          have hfz12_0 := blk_frozen BK109.out 0
          have hfz12_1 := blk_frozen BK109.out 1
          have hfz12_2 := blk_frozen BK109.out 2
          have hfz12_3 := blk_frozen BK109.out 3
          have p7 : 0 ≤ (x4_1 : Int) := of_decide_eq_true (by first | (with_reducible assumption) | assumption)
          have q7 : (x4_1 : Int) < 4 := of_decide_eq_true (by first | (with_reducible assumption) | assumption)
          have hx7 : wr.cell? ⟨gb109, (x4_1 : Int).toNat, none⟩ = some (.int .i8 (rd [a0_0, a0_1, a0_2, a0_3] x4_1)) := ard_cell (k := .i8) (l := [a0_0, a0_1, a0_2, a0_3]) BK109.out p7 q7
          have hf7 := blk_frozen BK109.out (x4_1 : Int).toNat
          have P7 := Aside0.mk p7
          replace p7 := eq_true p7
          replace q7 := eq_true q7
          have hnb13 := NB111_110.out
          have hnc13 := NB110_111.out
          have hcz14_0 : wr.cell? ⟨gb111, 0, none⟩ = some (.int .i8 x112000_1) := (blk_cell BK111.out 0).trans rfl
          have hcz14_1 : wr.cell? ⟨gb111, 1, none⟩ = some (.int .i8 x112001_1) := (blk_cell BK111.out 1).trans rfl
          have hcz14_2 : wr.cell? ⟨gb111, 2, none⟩ = some (.int .i8 x112002_1) := (blk_cell BK111.out 2).trans rfl
          have hcz14_3 : wr.cell? ⟨gb111, 3, none⟩ = some (.int .i8 x112003_1) := (blk_cell BK111.out 3).trans rfl
          have hfz14_0 := blk_frozen BK111.out 0
          have hfz14_1 := blk_frozen BK111.out 1
          have hfz14_2 := blk_frozen BK111.out 2
          have hfz14_3 := blk_frozen BK111.out 3
          have p8 : 0 ≤ (x4_1 : Int) := of_decide_eq_true (by first | (with_reducible assumption) | assumption)
          have q8 : (x4_1 : Int) < 4 := of_decide_eq_true (by first | (with_reducible assumption) | assumption)
          have hx8 : wr.cell? ⟨gb111, (x4_1 : Int).toNat, none⟩ = some (.int .i8 (rd [x112000_1, x112001_1, x112002_1, x112003_1] x4_1)) := ard_cell (k := .i8) (l := [x112000_1, x112001_1, x112002_1, x112003_1]) BK111.out p8 q8
          have hf8 := blk_frozen BK111.out (x4_1 : Int).toNat
          have P8 := Aside0.mk p8
          replace p8 := eq_true p8
          replace q8 := eq_true q8
          go_wp2_with (first | ((with_reducible refine gate_store (t := 22) (p := 13) rfl ?_); refine store_event (t := 22) (p := 13) (v := ?vo_w15) (w1 := (wr.setCell ⟨gb111, (x4_1 : Int).toNat, none⟩ (.int .i8 (rd [a0_0, a0_1, a0_2, a0_3] x4_1)))) ?hg ?ho ?hn ?hr ?_; (case ho => rfl); (case hg => rfl); (case hn => rfl); (case hr => first | (go_simp; done) | (go_simp; rfl)); intro w15 hw; have n0_ : Aside0 (w15.heap[gb109]? = some (.cells #[.int .i8 a0_0, .int .i8 a0_1, .int .i8 a0_2, .int .i8 a0_3] 23 (0, 0))) := ⟨(by rw [hw]; exact (by (with_reducible repeat (first | refine blk_drewN ?_ _ | refine blk_drew ?_ | refine blk_alloc ?_ _)); refine blk_far ?_ NB109_111.out _; (with_reducible repeat (first | refine blk_drewN ?_ _ | refine blk_drew ?_ | refine blk_alloc ?_ _)); exact BK109.out))⟩; have n1_ : Aside0 (w15.heap[gb110]? = some (.cells #[.int .i8 0, .int .i8 0, .int .i8 0, .int .i8 0] 24 (0, 0))) := ⟨(by rw [hw]; exact (by (with_reducible repeat (first | refine blk_drewN ?_ _ | refine blk_drew ?_ | refine blk_alloc ?_ _)); refine blk_far ?_ NB110_111.out _; (with_reducible repeat (first | refine blk_drewN ?_ _ | refine blk_drew ?_ | refine blk_alloc ?_ _)); exact BK110.out))⟩; have n2_ : Aside0 (w15.heap[gb111]? = some (.cells #[.int .i8 (aup x4_1 0 (rd [a0_0, a0_1, a0_2, a0_3] x4_1) x112000_1), .int .i8 (aup x4_1 1 (rd [a0_0, a0_1, a0_2, a0_3] x4_1) x112001_1), .int .i8 (aup x4_1 2 (rd [a0_0, a0_1, a0_2, a0_3] x4_1) x112002_1), .int .i8 (aup x4_1 3 (rd [a0_0, a0_1, a0_2, a0_3] x4_1) x112003_1)] 24 (0, 0))) := ⟨(by rw [hw]; exact (by (with_reducible repeat (first | refine blk_drewN ?_ _ | refine blk_drew ?_ | refine blk_alloc ?_ _)); refine blk_put (cs := #[.int .i8 x112000_1, .int .i8 x112001_1, .int .i8 x112002_1, .int .i8 x112003_1]) ?_ (x4_1 : Int).toNat _ (ups_set (k := .i8) (l := [x112000_1, x112001_1, x112002_1, x112003_1]) P8.out); (with_reducible repeat (first | refine blk_drewN ?_ _ | refine blk_drew ?_ | refine blk_alloc ?_ _)); exact BK111.out))⟩; have n3_ : Aside0 (Below w.heap.size w w15) := ⟨(by rw [hw]; exact (by repeat (first | (with_reducible first | exact HB.out | apply below_alloc | apply pw_below_drewN | apply below_drew1 | refine below_set ?_ GE109.out | refine below_set ?_ GE110.out | refine below_set ?_ GE111.out) | exact HB.out)))⟩; clear hw; clear BK109; clear BK110; clear BK111; clear HB; have BK109 := n0_; have BK110 := n1_; have BK111 := n2_; have HB := n3_; clear n0_ n1_ n2_ n3_))
          go_roundg k1
          case measure => have := HK1.out; omega
          case rel => exact ⟨(wrap64 (x4_1 + 1)), (aup x4_1 0 (rd [a0_0, a0_1, a0_2, a0_3] x4_1) x112000_1), (aup x4_1 1 (rd [a0_0, a0_1, a0_2, a0_3] x4_1) x112001_1), (aup x4_1 2 (rd [a0_0, a0_1, a0_2, a0_3] x4_1) x112002_1), (aup x4_1 3 (rd [a0_0, a0_1, a0_2, a0_3] x4_1) x112003_1), (by first | rfl | (simp; done) | (simp [*]; done)), H', ⟨by have := HK1.out; omega⟩, ⟨by (with_reducible repeat (first | refine blk_drewN ?_ _ | refine blk_drew ?_ | refine blk_alloc ?_ _)); exact BK109.out⟩, ⟨by (with_reducible repeat (first | refine blk_drewN ?_ _ | refine blk_drew ?_ | refine blk_alloc ?_ _)); exact BK110.out⟩, ⟨by (with_reducible repeat (first | refine blk_drewN ?_ _ | refine blk_drew ?_ | refine blk_alloc ?_ _)); exact BK111.out⟩, ⟨by repeat (first | (with_reducible first | exact HB.out | apply below_alloc | apply pw_below_drewN | apply below_drew1 | refine below_set ?_ GE109.out | refine below_set ?_ GE110.out | refine below_set ?_ GE111.out) | exact HB.out)⟩⟩
        · rw [if_neg c6] at H
          exact absurd H (by simp)
      · rw [if_neg c5] at H
        have c5b0 : decide (x4_1 < 4) = false := decide_eq_false c5
        clear c5
        simp only [Option.some.injEq, Prod.mk.injEq] at H
        obtain ⟨rfl, rfl, rfl, rfl⟩ := H
        have hnb16 := NB111_109.out
        have hnc16 := NB109_111.out
        have hnb17 := NB111_110.out
        have hnc17 := NB110_111.out
        have hcz18_0 : wr.cell? ⟨gb111, 0, none⟩ = some (.int .i8 x112000_1) := (blk_cell BK111.out 0).trans rfl
        have hcz18_1 : wr.cell? ⟨gb111, 1, none⟩ = some (.int .i8 x112001_1) := (blk_cell BK111.out 1).trans rfl
        have hcz18_2 : wr.cell? ⟨gb111, 2, none⟩ = some (.int .i8 x112002_1) := (blk_cell BK111.out 2).trans rfl
        have hcz18_3 : wr.cell? ⟨gb111, 3, none⟩ = some (.int .i8 x112003_1) := (blk_cell BK111.out 3).trans rfl
        have hfz18_0 := blk_frozen BK111.out 0
        have hfz18_1 := blk_frozen BK111.out 1
        have hfz18_2 := blk_frozen BK111.out 2
        have hfz18_3 := blk_frozen BK111.out 3
        have hnb19 := NB110_109.out
        have hnc19 := NB109_110.out
        have hcz20_0 : wr.cell? ⟨gb110, 0, none⟩ = some (.int .i8 0) := (blk_cell BK110.out 0).trans rfl
        have hcz20_1 : wr.cell? ⟨gb110, 1, none⟩ = some (.int .i8 0) := (blk_cell BK110.out 1).trans rfl
        have hcz20_2 : wr.cell? ⟨gb110, 2, none⟩ = some (.int .i8 0) := (blk_cell BK110.out 2).trans rfl
        have hcz20_3 : wr.cell? ⟨gb110, 3, none⟩ = some (.int .i8 0) := (blk_cell BK110.out 3).trans rfl
        have hfz20_0 := blk_frozen BK110.out 0
        have hfz20_1 := blk_frozen BK110.out 1
        have hfz20_2 := blk_frozen BK110.out 2
        have hfz20_3 := blk_frozen BK110.out 3
        go_wp2
        refine bodyPost_ret (results_cell_row rfl _ _ gb110 24 #[.int .i8 x112000_1, .int .i8 x112001_1, .int .i8 x112002_1, .int .i8 x112003_1] (0, 0) _ rfl (by (with_reducible repeat (first | refine blk_drewN ?_ _ | refine blk_drew ?_ | refine blk_alloc ?_ _)); refine blk_put (cs := #[.int .i8 x112000_1, .int .i8 x112001_1, .int .i8 x112002_1, .int .i8 0]) ?_ 3 _ rfl; (with_reducible repeat (first | refine blk_drewN ?_ _ | refine blk_drew ?_ | refine blk_alloc ?_ _)); refine blk_put (cs := #[.int .i8 x112000_1, .int .i8 x112001_1, .int .i8 0, .int .i8 0]) ?_ 2 _ rfl; (with_reducible repeat (first | refine blk_drewN ?_ _ | refine blk_drew ?_ | refine blk_alloc ?_ _)); refine blk_put (cs := #[.int .i8 x112000_1, .int .i8 0, .int .i8 0, .int .i8 0]) ?_ 1 _ rfl; (with_reducible repeat (first | refine blk_drewN ?_ _ | refine blk_drew ?_ | refine blk_alloc ?_ _)); refine blk_put (cs := #[.int .i8 0, .int .i8 0, .int .i8 0, .int .i8 0]) ?_ 0 _ rfl; (with_reducible repeat (first | refine blk_drewN ?_ _ | refine blk_drew ?_ | refine blk_alloc ?_ _)); exact BK110.out) Try.underlying24 rfl (by kernel_rfl)) rfl ?_
        exact ⟨by first | rfl | (simp [errW_none, errW_some] <;> rfl) | (simp [*, errW_none, errW_some] <;> rfl), by repeat (first | (with_reducible first | exact HB.out | apply below_alloc | apply pw_below_drewN | apply below_drew1 | refine below_set ?_ GE109.out | refine below_set ?_ GE110.out | refine below_set ?_ GE111.out) | exact HB.out)⟩

/-! ### impl_OppositeWord: function 12 -/
def impl_OppositeWord.l0 : Nat → Int → Int → Int → Int → Int → Option (Int × Int × Int × Int)
  | 0, _, _, _, _, _ => none
  | k + 1, x4, x113000, x113001, x113002, x113003 => if x4 < 4 then (if 0 ≤ x4 then (impl_OppositeWord.l0 k (wrap64 (x4 + 1)) (aup x4 0 (IntKind.i8.wrap (-(rd [x113000, x113001, x113002, x113003] x4))) x113000) (aup x4 1 (IntKind.i8.wrap (-(rd [x113000, x113001, x113002, x113003] x4))) x113001) (aup x4 2 (IntKind.i8.wrap (-(rd [x113000, x113001, x113002, x113003] x4))) x113002) (aup x4 3 (IntKind.i8.wrap (-(rd [x113000, x113001, x113002, x113003] x4))) x113003)) else (none)) else (some (x113000, x113001, x113002, x113003))
def impl_OppositeWord.f (k : Nat) (a0_0 : Int) (a0_1 : Int) (a0_2 : Int) (a0_3 : Int) : Option (Int × Int × Int × Int) := impl_OppositeWord.l0 k 0 a0_0 a0_1 a0_2 a0_3
theorem impl_OppositeWord.mono_l : ∀ k, (∀ y0 y1 y2 y3 y4, LeO (impl_OppositeWord.l0 k y0 y1 y2 y3 y4) (impl_OppositeWord.l0 (k + 1) y0 y1 y2 y3 y4))
  | 0 => fun _ _ _ _ _ r h => by simp [impl_OppositeWord.l0] at h
  | k + 1 => by
    have ih0 := impl_OppositeWord.mono_l k
    · intro y0 y1 y2 y3 y4
      unfold impl_OppositeWord.l0
      repeat' first
      | (with_reducible exact ih0 _ _ _ _ _)
      | (with_reducible exact LeO.refl _)
      | (with_reducible exact LeO.none _)
      | (with_reducible refine LeO.ite ?_ ?_)
      | (with_reducible refine LeO.bind ?_ (fun _ => ?_))
      | exact ih0 _ _ _ _ _
      | exact LeO.none _
      | refine LeO.ite ?_ ?_
      | refine LeO.bind ?_ (fun _ => ?_)
theorem impl_OppositeWord.mono : ∀ a0 a1 a2 a3 k, LeO (impl_OppositeWord.f k a0 a1 a2 a3) (impl_OppositeWord.f (k + 1) a0 a1 a2 a3) := by
  intro a0 a1 a2 a3 k
  have ih0 := impl_OppositeWord.mono_l k
  unfold impl_OppositeWord.f
  repeat' first
      | (with_reducible exact ih0 _ _ _ _ _)
      | (with_reducible exact LeO.refl _)
      | (with_reducible exact LeO.none _)
      | (with_reducible refine LeO.ite ?_ ?_)
      | (with_reducible refine LeO.bind ?_ (fun _ => ?_))
      | exact ih0 _ _ _ _ _
      | exact LeO.none _
      | refine LeO.ite ?_ ?_
      | refine LeO.bind ?_ (fun _ => ?_)
set_option maxHeartbeats 8000000 in
set_option maxRecDepth 100000 in
theorem impl_OppositeWord.calls (k : Nat) (a0_0 : Int) (a0_1 : Int) (a0_2 : Int) (a0_3 : Int) (r1 : Int) (r2 : Int) (r3 : Int) (r4 : Int) (w : World) (h : impl_OppositeWord.f k a0_0 a0_1 a0_2 a0_3 = some (r1, r2, r3, r4)) :
    Calls Try.prog 12 #[.agg #[.int .i8 a0_0, .int .i8 a0_1, .int .i8 a0_2, .int .i8 a0_3]] w fun e w' => e = .returned (.agg #[.int .i8 r1, .int .i8 r2, .int .i8 r3, .int .i8 r4]) ∧ Below w.heap.size w w' := by
  have hu24 := Try.underlying24
  have HB := Aside0.mk (Below.refl w.heap.size w)
  have H : (impl_OppositeWord.l0 k 0 a0_0 a0_1 a0_2 a0_3) = some (r1, r2, r3, r4) := h
  clear h
  have H' := Aside0.mk H
  clear H
  go_enter Try.func12, Try.ntmps12
  go_wp2_with (first | ((with_reducible refine gate_dst (N := 1) rfl ?_); refine box_event ?hg (N := 1) ?hd (cs := #[.int .i8 a0_0, .int .i8 a0_1, .int .i8 a0_2, .int .i8 a0_3]) (t := 24) ?hr ?_; (case hd => rfl); (case hg => rfl); (case hr => first | (go_simp; done) | (go_simp; rfl)); intro gb112 hg w2 hbox hb; have n0_ := Aside0.mk (below_step (by repeat (first | (with_reducible first | exact HB.out | apply below_alloc | apply pw_below_drewN | apply below_drew1) | exact HB.out)) hb); have n1_ := Aside0.mk (hbox); have n2_ := Aside0.mk ((by rw [hg]; exact (below_size (by repeat (first | (with_reducible first | exact HB.out | apply below_alloc | apply pw_below_drewN | apply below_drew1) | exact HB.out))) : w.heap.size ≤ gb112)); have n3_ := Aside0.mk ((by rw [hg]; exact (below_size (by repeat (first | (with_reducible first | exact HB.out | apply below_alloc | apply pw_below_drewN | apply below_drew1) | exact HB.out))) : w.heap.size ≤ gb112)); clear HB; have HB := n0_; have BK112 := n1_; have GW112 := n2_; have GE112 := n3_; clear n0_ n1_ n2_ n3_; clear hb hbox hg) | ((with_reducible refine gate_dst (N := 2) rfl ?_); refine box_event ?hg (N := 2) ?hd (cs := #[.int .i8 0, .int .i8 0, .int .i8 0, .int .i8 0]) (t := 24) ?hr ?_; (case hd => rfl); (case hg => rfl); (case hr => first | (go_simp; done) | (go_simp; rfl)); intro gb113 hg w3 hbox hb; have n0_ := Aside0.mk (blk_below (g := gb112) (o := .cells #[.int .i8 a0_0, .int .i8 a0_1, .int .i8 a0_2, .int .i8 a0_3] 24 (0, 0)) (by (with_reducible repeat (first | refine blk_drewN ?_ _ | refine blk_drew ?_ | refine blk_alloc ?_ _)); exact BK112.out) hb); have n1_ := Aside0.mk (below_step (by repeat (first | (with_reducible first | exact HB.out | apply below_alloc | apply pw_below_drewN | apply below_drew1 | refine below_set ?_ GE112.out) | exact HB.out)) hb); have n2_ := Aside0.mk (hbox); have n3_ := Aside0.mk ((by rw [hg]; exact (below_size (by repeat (first | (with_reducible first | exact HB.out | apply below_alloc | apply pw_below_drewN | apply below_drew1 | refine below_set ?_ GE112.out) | exact HB.out))) : w.heap.size ≤ gb113)); have n4_ := Aside0.mk ((by rw [hg]; exact (below_size (by repeat (first | (with_reducible first | exact HB.out | apply below_alloc | apply pw_below_drewN | apply below_drew1 | refine below_set ?_ GE112.out) | exact HB.out))) : w.heap.size ≤ gb113)); have n5_ := Aside0.mk ((by rw [hg]; exact Nat.ne_of_lt (blk_lt (g := gb112) (o := .cells #[.int .i8 a0_0, .int .i8 a0_1, .int .i8 a0_2, .int .i8 a0_3] 24 (0, 0)) (by (with_reducible repeat (first | refine blk_drewN ?_ _ | refine blk_drew ?_ | refine blk_alloc ?_ _)); exact BK112.out)) : gb112 ≠ gb113)); have n6_ := Aside0.mk ((by rw [hg]; exact Nat.ne_of_gt (blk_lt (g := gb112) (o := .cells #[.int .i8 a0_0, .int .i8 a0_1, .int .i8 a0_2, .int .i8 a0_3] 24 (0, 0)) (by (with_reducible repeat (first | refine blk_drewN ?_ _ | refine blk_drew ?_ | refine blk_alloc ?_ _)); exact BK112.out)) : gb113 ≠ gb112)); clear BK112; clear HB; have BK112 := n0_; have HB := n1_; have BK113 := n2_; have GW113 := n3_; have GE113 := n4_; have NB112_113 := n5_; have NB113_112 := n6_; clear n0_ n1_ n2_ n3_ n4_ n5_ n6_; clear hb hbox hg))
  go_loopg [4] k (fun kq v4 w' => ∃ (x4_1 : Int) (x113000_1 : Int) (x113001_1 : Int) (x113002_1 : Int) (x113003_1 : Int), v4 = .int .i64 x4_1 ∧ Aside0 (impl_OppositeWord.l0 kq x4_1 x113000_1 x113001_1 x113002_1 x113003_1 = some (r1, r2, r3, r4)) ∧ Aside0 (kq ≤ k) ∧ Aside0 (w'.heap[gb112]? = some (.cells #[.int .i8 x113000_1, .int .i8 x113001_1, .int .i8 x113002_1, .int .i8 x113003_1] 24 (0, 0))) ∧ Aside0 (w'.heap[gb113]? = some (.cells #[.int .i8 0, .int .i8 0, .int .i8 0, .int .i8 0] 24 (0, 0))) ∧ Aside0 (Below w.heap.size w w'))
  case atStart => exact ⟨(0), (a0_0), (a0_1), (a0_2), (a0_3), (by first | rfl | (simp; done) | (simp [*]; done)), H', ⟨Nat.le_refl _⟩, ⟨by (with_reducible repeat (first | refine blk_drewN ?_ _ | refine blk_drew ?_ | refine blk_alloc ?_ _)); exact BK112.out⟩, ⟨by (with_reducible repeat (first | refine blk_drewN ?_ _ | refine blk_drew ?_ | refine blk_alloc ?_ _)); exact BK113.out⟩, ⟨by repeat (first | (with_reducible first | exact HB.out | apply below_alloc | apply pw_below_drewN | apply below_drew1 | refine below_set ?_ GE112.out | refine below_set ?_ GE113.out) | exact HB.out)⟩⟩
  case round =>
    clear H'
    try clear c1
    try clear p2
    obtain ⟨x4_1, x113000_1, x113001_1, x113002_1, x113003_1, rfl, HA, HK1, BK112, BK113, HB⟩ := hrel
    cases gk with
    | zero => exact absurd HA.out (by simp [impl_OppositeWord.l0])
    | succ k1 =>
      have H := HA.out
      clear HA
      simp only [impl_OppositeWord.l0] at H
      by_cases c4 : x4_1 < 4
      · rw [if_pos c4] at H
        have c4b0 : decide (x4_1 < 4) = true := decide_eq_true c4
        clear c4
        by_cases c5 : 0 ≤ x4_1
        · rw [if_pos c5] at H
          have c5b0 : decide (0 ≤ x4_1) = true := decide_eq_true c5
          clear c5
          have H' := Aside0.mk H
          clear H
          have hnb9 := NB112_113.out
          have hnc9 := NB113_112.out
          have hcz10_0 : wr.cell? ⟨gb112, 0, none⟩ = some (.int .i8 x113000_1) := (blk_cell BK112.out 0).trans rfl
          have hcz10_1 : wr.cell? ⟨gb112, 1, none⟩ = some (.int .i8 x113001_1) := (blk_cell BK112.out 1).trans rfl
          have hcz10_2 : wr.cell? ⟨gb112, 2, none⟩ = some (.int .i8 x113002_1) := (blk_cell BK112.out 2).trans rfl
          have hcz10_3 : wr.cell? ⟨gb112, 3, none⟩ = some (.int .i8 x113003_1) := (blk_cell BK112.out 3).trans rfl
          have hfz10_0 := blk_frozen BK112.out 0
          have hfz10_1 := blk_frozen BK112.out 1
          have hfz10_2 := blk_frozen BK112.out 2
          have hfz10_3 := blk_frozen BK112.out 3
          have p6 : 0 ≤ (x4_1 : Int) := of_decide_eq_true (by first | (with_reducible assumption) | assumption)
          have q6 : (x4_1 : Int) < 4 := of_decide_eq_true (by first | (with_reducible assumption) | assumption)
          have hx6 : wr.cell? ⟨gb112, (x4_1 : Int).toNat, none⟩ = some (.int .i8 (rd [x113000_1, x113001_1, x113002_1, x113003_1] x4_1)) := ard_cell (k := .i8) (l := [x113000_1, x113001_1, x113002_1, x113003_1]) BK112.out p6 q6
          have hf6 := blk_frozen BK112.out (x4_1 : Int).toNat
          have P6 := Aside0.mk p6
          replace p6 := eq_true p6
          replace q6 := eq_true q6
          have p7 : 0 ≤ (x4_1 : Int) := of_decide_eq_true (by first | (with_reducible assumption) | assumption)
          have q7 : (x4_1 : Int) < 4 := of_decide_eq_true (by first | (with_reducible assumption) | assumption)
          have hx7 : wr.cell? ⟨gb112, (x4_1 : Int).toNat, none⟩ = some (.int .i8 (rd [x113000_1, x113001_1, x113002_1, x113003_1] x4_1)) := ard_cell (k := .i8) (l := [x113000_1, x113001_1, x113002_1, x113003_1]) BK112.out p7 q7
          have hf7 := blk_frozen BK112.out (x4_1 : Int).toNat
          have P7 := Aside0.mk p7
          replace p7 := eq_true p7
          replace q7 := eq_true q7
          go_wp2_with (first | ((with_reducible refine gate_store (t := 22) (p := 12) rfl ?_); refine store_event (t := 22) (p := 12) (v := ?vo_w11) (w1 := (wr.setCell ⟨gb112, (x4_1 : Int).toNat, none⟩ (.int .i8 (IntKind.i8.wrap (-(rd [x113000_1, x113001_1, x113002_1, x113003_1] x4_1)))))) ?hg ?ho ?hn ?hr ?_; (case ho => rfl); (case hg => rfl); (case hn => rfl); (case hr => first | (go_simp; done) | (go_simp; rfl)); intro w11 hw; have n0_ : Aside0 (w11.heap[gb112]? = some (.cells #[.int .i8 (aup x4_1 0 (IntKind.i8.wrap (-(rd [x113000_1, x113001_1, x113002_1, x113003_1] x4_1))) x113000_1), .int .i8 (aup x4_1 1 (IntKind.i8.wrap (-(rd [x113000_1, x113001_1, x113002_1, x113003_1] x4_1))) x113001_1), .int .i8 (aup x4_1 2 (IntKind.i8.wrap (-(rd [x113000_1, x113001_1, x113002_1, x113003_1] x4_1))) x113002_1), .int .i8 (aup x4_1 3 (IntKind.i8.wrap (-(rd [x113000_1, x113001_1, x113002_1, x113003_1] x4_1))) x113003_1)] 24 (0, 0))) := ⟨(by rw [hw]; exact (by (with_reducible repeat (first | refine blk_drewN ?_ _ | refine blk_drew ?_ | refine blk_alloc ?_ _)); refine blk_put (cs := #[.int .i8 x113000_1, .int .i8 x113001_1, .int .i8 x113002_1, .int .i8 x113003_1]) ?_ (x4_1 : Int).toNat _ (ups_set (k := .i8) (l := [x113000_1, x113001_1, x113002_1, x113003_1]) P7.out); (with_reducible repeat (first | refine blk_drewN ?_ _ | refine blk_drew ?_ | refine blk_alloc ?_ _)); exact BK112.out))⟩; have n1_ : Aside0 (w11.heap[gb113]? = some (.cells #[.int .i8 0, .int .i8 0, .int .i8 0, .int .i8 0] 24 (0, 0))) := ⟨(by rw [hw]; exact (by (with_reducible repeat (first | refine blk_drewN ?_ _ | refine blk_drew ?_ | refine blk_alloc ?_ _)); refine blk_far ?_ NB113_112.out _; (with_reducible repeat (first | refine blk_drewN ?_ _ | refine blk_drew ?_ | refine blk_alloc ?_ _)); exact BK113.out))⟩; have n2_ : Aside0 (Below w.heap.size w w11) := ⟨(by rw [hw]; exact (by repeat (first | (with_reducible first | exact HB.out | apply below_alloc | apply pw_below_drewN | apply below_drew1 | refine below_set ?_ GE112.out | refine below_set ?_ GE113.out) | exact HB.out)))⟩; clear hw; clear BK112; clear BK113; clear HB; have BK112 := n0_; have BK113 := n1_; have HB := n2_; clear n0_ n1_ n2_))
          go_roundg k1
          case measure => have := HK1.out; omega
          case rel => exact ⟨(wrap64 (x4_1 + 1)), (aup x4_1 0 (IntKind.i8.wrap (-(rd [x113000_1, x113001_1, x113002_1, x113003_1] x4_1))) x113000_1), (aup x4_1 1 (IntKind.i8.wrap (-(rd [x113000_1, x113001_1, x113002_1, x113003_1] x4_1))) x113001_1), (aup x4_1 2 (IntKind.i8.wrap (-(rd [x113000_1, x113001_1, x113002_1, x113003_1] x4_1))) x113002_1), (aup x4_1 3 (IntKind.i8.wrap (-(rd [x113000_1, x113001_1, x113002_1, x113003_1] x4_1))) x113003_1), (by first | rfl | (simp; done) | (simp [*]; done)), H', ⟨by have := HK1.out; omega⟩, ⟨by (with_reducible repeat (first | refine blk_drewN ?_ _ | refine blk_drew ?_ | refine blk_alloc ?_ _)); exact BK112.out⟩, ⟨by (with_reducible repeat (first | refine blk_drewN ?_ _ | refine blk_drew ?_ | refine blk_alloc ?_ _)); exact BK113.out⟩, ⟨by repeat (first | (with_reducible first | exact HB.out | apply below_alloc | apply pw_below_drewN | apply below_drew1 | refine below_set ?_ GE112.out | refine below_set ?_ GE113.out) | exact HB.out)⟩⟩
        · rw [if_neg c5] at H
          exact absurd H (by simp)
      · rw [if_neg c4] at H
        have c4b0 : decide (x4_1 < 4) = false := decide_eq_false c4
        clear c4
        simp only [Option.some.injEq, Prod.mk.injEq] at H
        obtain ⟨rfl, rfl, rfl, rfl⟩ := H
        have hnb12 := NB112_113.out
        have hnc12 := NB113_112.out
        have hcz13_0 : wr.cell? ⟨gb112, 0, none⟩ = some (.int .i8 x113000_1) := (blk_cell BK112.out 0).trans rfl
        have hcz13_1 : wr.cell? ⟨gb112, 1, none⟩ = some (.int .i8 x113001_1) := (blk_cell BK112.out 1).trans rfl
        have hcz13_2 : wr.cell? ⟨gb112, 2, none⟩ = some (.int .i8 x113002_1) := (blk_cell BK112.out 2).trans rfl
        have hcz13_3 : wr.cell? ⟨gb112, 3, none⟩ = some (.int .i8 x113003_1) := (blk_cell BK112.out 3).trans rfl
        have hfz13_0 := blk_frozen BK112.out 0
        have hfz13_1 := blk_frozen BK112.out 1
        have hfz13_2 := blk_frozen BK112.out 2
        have hfz13_3 := blk_frozen BK112.out 3
        have hcz14_0 : wr.cell? ⟨gb113, 0, none⟩ = some (.int .i8 0) := (blk_cell BK113.out 0).trans rfl
        have hcz14_1 : wr.cell? ⟨gb113, 1, none⟩ = some (.int .i8 0) := (blk_cell BK113.out 1).trans rfl
        have hcz14_2 : wr.cell? ⟨gb113, 2, none⟩ = some (.int .i8 0) := (blk_cell BK113.out 2).trans rfl
        have hcz14_3 : wr.cell? ⟨gb113, 3, none⟩ = some (.int .i8 0) := (blk_cell BK113.out 3).trans rfl
        have hfz14_0 := blk_frozen BK113.out 0
        have hfz14_1 := blk_frozen BK113.out 1
        have hfz14_2 := blk_frozen BK113.out 2
        have hfz14_3 := blk_frozen BK113.out 3
        go_wp2
        refine bodyPost_ret (results_cell_row rfl _ _ gb113 24 #[.int .i8 x113000_1, .int .i8 x113001_1, .int .i8 x113002_1, .int .i8 x113003_1] (0, 0) _ rfl (by (with_reducible repeat (first | refine blk_drewN ?_ _ | refine blk_drew ?_ | refine blk_alloc ?_ _)); refine blk_put (cs := #[.int .i8 x113000_1, .int .i8 x113001_1, .int .i8 x113002_1, .int .i8 0]) ?_ 3 _ rfl; (with_reducible repeat (first | refine blk_drewN ?_ _ | refine blk_drew ?_ | refine blk_alloc ?_ _)); refine blk_put (cs := #[.int .i8 x113000_1, .int .i8 x113001_1, .int .i8 0, .int .i8 0]) ?_ 2 _ rfl; (with_reducible repeat (first | refine blk_drewN ?_ _ | refine blk_drew ?_ | refine blk_alloc ?_ _)); refine blk_put (cs := #[.int .i8 x113000_1, .int .i8 0, .int .i8 0, .int .i8 0]) ?_ 1 _ rfl; (with_reducible repeat (first | refine blk_drewN ?_ _ | refine blk_drew ?_ | refine blk_alloc ?_ _)); refine blk_put (cs := #[.int .i8 0, .int .i8 0, .int .i8 0, .int .i8 0]) ?_ 0 _ rfl; (with_reducible repeat (first | refine blk_drewN ?_ _ | refine blk_drew ?_ | refine blk_alloc ?_ _)); exact BK113.out) Try.underlying24 rfl (by kernel_rfl)) rfl ?_
        exact ⟨by first | rfl | (simp [errW_none, errW_some] <;> rfl) | (simp [*, errW_none, errW_some] <;> rfl), by repeat (first | (with_reducible first | exact HB.out | apply below_alloc | apply pw_below_drewN | apply below_drew1 | refine below_set ?_ GE112.out | refine below_set ?_ GE113.out) | exact HB.out)⟩

end Go.Proofs.Yteohhkfeeeifaaa.M
