-- By this seat's own program over the kit's printer (arrays, functions told by hand); nothing of it is trusted: the kernel checks it.
import Derived.Test.YtkllpdekkhhhnaaMx0
namespace Go.Proofs.Ytkllpdekkhhhnaa.M
open Go.RowKit Go.Proofs.YtkllpdekkhhhnaaW.PrintWords Go.Proofs.YtkllpdekkhhhnaaW.PrintLast Go.Proofs.YtkllpdekkhhhnaaW.PrintMore
attribute [local go_sem] max2_int min2_int max_two min_two max_three min_three max_four min_four   -- for this text's walks alone
set_option linter.unusedVariables false
set_option linter.unusedSimpArgs false

/-! ### spec_l04Opposite: function 52 -/
def spec_l04Opposite.l0 : Nat → Int → Int → Int → Int → Int → Option (Int × Int × Int × Int)
 | 0, _, _, _, _, _ => none
 | k + 1, x3, x140000, x140001, x140002, x140003 => if x3 < 4 then (if 0 ≤ x3 then (spec_l04Opposite.l0 k (wrap64 (x3 + 1)) (aup x3 0 (IntKind.i8.wrap (-(rd [x140000, x140001, x140002, x140003] x3))) x140000) (aup x3 1 (IntKind.i8.wrap (-(rd [x140000, x140001, x140002, x140003] x3))) x140001) (aup x3 2 (IntKind.i8.wrap (-(rd [x140000, x140001, x140002, x140003] x3))) x140002) (aup x3 3 (IntKind.i8.wrap (-(rd [x140000, x140001, x140002, x140003] x3))) x140003)) else (none)) else (some (x140000, x140001, x140002, x140003))
def spec_l04Opposite.f (k : Nat) (a0_0 : Int) (a0_1 : Int) (a0_2 : Int) (a0_3 : Int) : Option (Int × Int × Int × Int) := spec_l04Opposite.l0 k 0 a0_0 a0_1 a0_2 a0_3
theorem spec_l04Opposite.mono_l : ∀ k, (∀ y0 y1 y2 y3 y4, LeO (spec_l04Opposite.l0 k y0 y1 y2 y3 y4) (spec_l04Opposite.l0 (k + 1) y0 y1 y2 y3 y4))
 | 0 => fun _ _ _ _ _ r h => by simp [spec_l04Opposite.l0] at h
 | k + 1 => by
  have ih0 := spec_l04Opposite.mono_l k
  ·intro y0 y1 y2 y3 y4
   unfold spec_l04Opposite.l0
   repeat' first
   | (with_reducible exact ih0 _ _ _ _ _)
   | (with_reducible exact LeO.refl _)
   | (with_reducible exact LeO.none _)
   | (with_reducible refine LeO.ite ?_ ?_)
   | (with_reducible refine LeO.bind ?_ (fun _ => ?_))
   | exact ih0 _ _ _ _ _
   | exact LeO.none _
   | refine LeO.ite ?_ ?_
   | refine LeO.bind ?_ (fun _ => ?_)
theorem spec_l04Opposite.mono : ∀ a0 a1 a2 a3 k, LeO (spec_l04Opposite.f k a0 a1 a2 a3) (spec_l04Opposite.f (k + 1) a0 a1 a2 a3) := by
 intro a0 a1 a2 a3 k
 have ih0 := spec_l04Opposite.mono_l k
 unfold spec_l04Opposite.f
 repeat' first
   | (with_reducible exact ih0 _ _ _ _ _)
   | (with_reducible exact LeO.refl _)
   | (with_reducible exact LeO.none _)
   | (with_reducible refine LeO.ite ?_ ?_)
   | (with_reducible refine LeO.bind ?_ (fun _ => ?_))
   | exact ih0 _ _ _ _ _
   | exact LeO.none _
   | refine LeO.ite ?_ ?_
   | refine LeO.bind ?_ (fun _ => ?_)
set_option maxHeartbeats 8000000 in
set_option maxRecDepth 100000 in
theorem spec_l04Opposite.calls (k : Nat) (a0_0 : Int) (a0_1 : Int) (a0_2 : Int) (a0_3 : Int) (r1 : Int) (r2 : Int) (r3 : Int) (r4 : Int) (w : World) (h : spec_l04Opposite.f k a0_0 a0_1 a0_2 a0_3 = some (r1, r2, r3, r4)) :
  Calls Try.prog 52 #[.agg #[.int .i8 a0_0, .int .i8 a0_1, .int .i8 a0_2, .int .i8 a0_3]] w fun e w' => e = .returned (.agg #[.int .i8 r1, .int .i8 r2, .int .i8 r3, .int .i8 r4]) ∧ Below w.heap.size w w' := by
 have hu30 := Try.underlying30
 have HB := Aside0.mk (Below.refl w.heap.size w)
 have H : (spec_l04Opposite.l0 k 0 a0_0 a0_1 a0_2 a0_3) = some (r1, r2, r3, r4) := h
 clear h
 have H' := Aside0.mk H
 clear H
 go_enter Try.func52, Try.ntmps52
 go_wp2_with (first | ((with_reducible refine gate_dst (N := 1) rfl ?_); refine box_event ?hg (N := 1) ?hd (cs := #[.int .i8 a0_0, .int .i8 a0_1, .int .i8 a0_2, .int .i8 a0_3]) (t := 30) ?hr ?_; (case hd => rfl); (case hg => rfl); (case hr => first | (go_simp; done) | (go_simp; rfl)); intro gb139 hg w2 hbox hb; have n0_ := Aside0.mk (below_step (bl_ HB) hb); have n1_ := Aside0.mk (hbox); have n2_ := Aside0.mk ((by rw [hg]; exact (below_size (bl_ HB)) : w.heap.size ≤ gb139)); have n3_ := Aside0.mk ((by rw [hg]; exact (below_size (bl_ HB)) : w.heap.size ≤ gb139)); clear HB; have HB := n0_; have BK139 := n1_; have GW139 := n2_; have GE139 := n3_; clear n0_ n1_ n2_ n3_; clear hb hbox hg) | ((with_reducible refine gate_dst (N := 2) rfl ?_); refine box_event ?hg (N := 2) ?hd (cs := #[.int .i8 0, .int .i8 0, .int .i8 0, .int .i8 0]) (t := 30) ?hr ?_; (case hd => rfl); (case hg => rfl); (case hr => first | (go_simp; done) | (go_simp; rfl)); intro gb140 hg w3 hbox hb; have n0_ := Aside0.mk (blk_below (g := gb139) (o := .cells #[.int .i8 a0_0, .int .i8 a0_1, .int .i8 a0_2, .int .i8 a0_3] 30 (0, 0)) (pl_ BK139) hb); have n1_ := Aside0.mk (below_step (by repeat (first | (with_reducible first | exact HB.out | apply below_alloc | apply pw_below_drewN | apply below_drew1 | refine below_set ?_ GE139.out) | exact HB.out)) hb); have n2_ := Aside0.mk (hbox); have n3_ := Aside0.mk ((by rw [hg]; exact (below_size (by repeat (first | (with_reducible first | exact HB.out | apply below_alloc | apply pw_below_drewN | apply below_drew1 | refine below_set ?_ GE139.out) | exact HB.out))) : w.heap.size ≤ gb140)); have n4_ := Aside0.mk ((by rw [hg]; exact (below_size (by repeat (first | (with_reducible first | exact HB.out | apply below_alloc | apply pw_below_drewN | apply below_drew1 | refine below_set ?_ GE139.out) | exact HB.out))) : w.heap.size ≤ gb140)); have n5_ := Aside0.mk ((by rw [hg]; exact Nat.ne_of_lt (blk_lt (g := gb139) (o := .cells #[.int .i8 a0_0, .int .i8 a0_1, .int .i8 a0_2, .int .i8 a0_3] 30 (0, 0)) (pl_ BK139)) : gb139 ≠ gb140)); have n6_ := Aside0.mk ((by rw [hg]; exact Nat.ne_of_gt (blk_lt (g := gb139) (o := .cells #[.int .i8 a0_0, .int .i8 a0_1, .int .i8 a0_2, .int .i8 a0_3] 30 (0, 0)) (pl_ BK139)) : gb140 ≠ gb139)); clear BK139; clear HB; have BK139 := n0_; have HB := n1_; have BK140 := n2_; have GW140 := n3_; have GE140 := n4_; have NB139_140 := n5_; have NB140_139 := n6_; clear n0_ n1_ n2_ n3_ n4_ n5_ n6_; clear hb hbox hg))
 go_loopg [3] k (fun kq v3 w' => ∃ (x3_1 : Int) (x140000_1 : Int) (x140001_1 : Int) (x140002_1 : Int) (x140003_1 : Int), v3 = .int .i64 x3_1 ∧ Aside0 (spec_l04Opposite.l0 kq x3_1 x140000_1 x140001_1 x140002_1 x140003_1 = some (r1, r2, r3, r4)) ∧ Aside0 (kq ≤ k) ∧ Aside0 (w'.heap[gb139]? = some (.cells #[.int .i8 x140000_1, .int .i8 x140001_1, .int .i8 x140002_1, .int .i8 x140003_1] 30 (0, 0))) ∧ Aside0 (w'.heap[gb140]? = some (.cells #[.int .i8 0, .int .i8 0, .int .i8 0, .int .i8 0] 30 (0, 0))) ∧ Aside0 (Below w.heap.size w w'))
 case atStart => exact ⟨(0), (a0_0), (a0_1), (a0_2), (a0_3), (by first | rfl | (simp; done) | (simp [*]; done)), H', ⟨Nat.le_refl _⟩, ⟨pl_ BK139⟩, ⟨pl_ BK140⟩, ⟨by repeat (first | (with_reducible first | exact HB.out | apply below_alloc | apply pw_below_drewN | apply below_drew1 | refine below_set ?_ GE139.out | refine below_set ?_ GE140.out) | exact HB.out)⟩⟩
 case round =>
  clear H'
  try clear p2
  obtain ⟨x3_1, x140000_1, x140001_1, x140002_1, x140003_1, rfl, HA, HK1, BK139, BK140, HB⟩ := hrel
  cases gk with
  | zero => exact absurd HA.out (by simp [spec_l04Opposite.l0])
  | succ k1 =>
   have H := HA.out
   clear HA
   simp only [spec_l04Opposite.l0] at H
   by_cases c4 : x3_1 < 4
   ·rw [if_pos c4] at H
    have c4b0 : decide (x3_1 < 4) = true := decide_eq_true c4
    clear c4
    by_cases c5 : 0 ≤ x3_1
    ·rw [if_pos c5] at H
     have c5b0 : decide (0 ≤ x3_1) = true := decide_eq_true c5
     clear c5
     have H' := Aside0.mk H
     clear H
     have hnb9 := NB139_140.out
     have hnc9 := NB140_139.out
     have hcz10_0 : wr.cell? ⟨gb139, 0, none⟩ = some (.int .i8 x140000_1) := (blk_cell BK139.out 0).trans rfl
     have hcz10_1 : wr.cell? ⟨gb139, 1, none⟩ = some (.int .i8 x140001_1) := (blk_cell BK139.out 1).trans rfl
     have hcz10_2 : wr.cell? ⟨gb139, 2, none⟩ = some (.int .i8 x140002_1) := (blk_cell BK139.out 2).trans rfl
     have hcz10_3 : wr.cell? ⟨gb139, 3, none⟩ = some (.int .i8 x140003_1) := (blk_cell BK139.out 3).trans rfl
     have hfz10_0 := blk_frozen BK139.out 0
     have hfz10_1 := blk_frozen BK139.out 1
     have hfz10_2 := blk_frozen BK139.out 2
     have hfz10_3 := blk_frozen BK139.out 3
     have p6 : 0 ≤ (x3_1 : Int) := asm_
     have q6 : (x3_1 : Int) < 4 := asm_
     have hx6 : wr.cell? ⟨gb139, (x3_1 : Int).toNat, none⟩ = some (.int .i8 (rd [x140000_1, x140001_1, x140002_1, x140003_1] x3_1)) := ard_cell (k := .i8) (l := [x140000_1, x140001_1, x140002_1, x140003_1]) BK139.out p6 q6
     have hf6 := blk_frozen BK139.out (x3_1 : Int).toNat
     have P6 := Aside0.mk p6
     have Q6 := Aside0.mk q6
     replace p6 := eq_true p6
     replace q6 := eq_true q6
     have p7 : 0 ≤ (x3_1 : Int) := asm_
     have q7 : (x3_1 : Int) < 4 := asm_
     have hx7 : wr.cell? ⟨gb139, (x3_1 : Int).toNat, none⟩ = some (.int .i8 (rd [x140000_1, x140001_1, x140002_1, x140003_1] x3_1)) := ard_cell (k := .i8) (l := [x140000_1, x140001_1, x140002_1, x140003_1]) BK139.out p7 q7
     have hf7 := blk_frozen BK139.out (x3_1 : Int).toNat
     have P7 := Aside0.mk p7
     have Q7 := Aside0.mk q7
     replace p7 := eq_true p7
     replace q7 := eq_true q7
     go_wp2_with (first | ((with_reducible refine gate_store (t := 22) (p := 13) rfl ?_); refine store_event (t := 22) (p := 13) (v := ?vo_w12) (w1 := (wr.setCell ⟨gb139, (x3_1 : Int).toNat, none⟩ (.int .i8 (IntKind.i8.wrap (-(rd [x140000_1, x140001_1, x140002_1, x140003_1] x3_1)))))) ?hg ?ho ?hn ?hr ?_; (case ho => rfl); (case hg => rfl); (case hn => rfl); (case hr => first | (go_simp; done) | (go_simp; rfl)); intro w12 hw; have n0_ : Aside0 (w12.heap[gb139]? = some (.cells #[.int .i8 (aup x3_1 0 (IntKind.i8.wrap (-(rd [x140000_1, x140001_1, x140002_1, x140003_1] x3_1))) x140000_1), .int .i8 (aup x3_1 1 (IntKind.i8.wrap (-(rd [x140000_1, x140001_1, x140002_1, x140003_1] x3_1))) x140001_1), .int .i8 (aup x3_1 2 (IntKind.i8.wrap (-(rd [x140000_1, x140001_1, x140002_1, x140003_1] x3_1))) x140002_1), .int .i8 (aup x3_1 3 (IntKind.i8.wrap (-(rd [x140000_1, x140001_1, x140002_1, x140003_1] x3_1))) x140003_1)] 30 (0, 0))) := ⟨(by rw [hw]; exact (by (with_reducible repeat (first | refine blk_drewN ?_ _ | refine blk_drew ?_ | refine blk_alloc ?_ _)); refine blk_put (cs := #[.int .i8 x140000_1, .int .i8 x140001_1, .int .i8 x140002_1, .int .i8 x140003_1]) ?_ (x3_1 : Int).toNat _ (ups_set (k := .i8) (l := [x140000_1, x140001_1, x140002_1, x140003_1]) P7.out); (with_reducible repeat (first | refine blk_drewN ?_ _ | refine blk_drew ?_ | refine blk_alloc ?_ _)); exact BK139.out))⟩; have n1_ : Aside0 (w12.heap[gb140]? = some (.cells #[.int .i8 0, .int .i8 0, .int .i8 0, .int .i8 0] 30 (0, 0))) := ⟨(by rw [hw]; exact (by (with_reducible repeat (first | refine blk_drewN ?_ _ | refine blk_drew ?_ | refine blk_alloc ?_ _)); refine blk_far ?_ NB140_139.out _; (with_reducible repeat (first | refine blk_drewN ?_ _ | refine blk_drew ?_ | refine blk_alloc ?_ _)); exact BK140.out))⟩; have n2_ : Aside0 (Below w.heap.size w w12) := ⟨(by rw [hw]; exact (by repeat (first | (with_reducible first | exact HB.out | apply below_alloc | apply pw_below_drewN | apply below_drew1 | refine below_set ?_ GE139.out | refine below_set ?_ GE140.out) | exact HB.out)))⟩; clear hw; clear BK139; clear BK140; clear HB; have BK139 := n0_; have BK140 := n1_; have HB := n2_; clear n0_ n1_ n2_))
     go_roundg k1
     case measure => have := HK1.out; omega
     case rel => exact ⟨(wrap64 (x3_1 + 1)), (aup x3_1 0 (IntKind.i8.wrap (-(rd [x140000_1, x140001_1, x140002_1, x140003_1] x3_1))) x140000_1), (aup x3_1 1 (IntKind.i8.wrap (-(rd [x140000_1, x140001_1, x140002_1, x140003_1] x3_1))) x140001_1), (aup x3_1 2 (IntKind.i8.wrap (-(rd [x140000_1, x140001_1, x140002_1, x140003_1] x3_1))) x140002_1), (aup x3_1 3 (IntKind.i8.wrap (-(rd [x140000_1, x140001_1, x140002_1, x140003_1] x3_1))) x140003_1), (by first | rfl | (simp; done) | (simp [*]; done)), H', ⟨by have := HK1.out; omega⟩, ⟨pl_ BK139⟩, ⟨pl_ BK140⟩, ⟨by repeat (first | (with_reducible first | exact HB.out | apply below_alloc | apply pw_below_drewN | apply below_drew1 | refine below_set ?_ GE139.out | refine below_set ?_ GE140.out) | exact HB.out)⟩⟩
    ·rw [if_neg c5] at H
     exact absurd H (by simp)
   ·rw [if_neg c4] at H
    have c4b0 : decide (x3_1 < 4) = false := decide_eq_false c4
    clear c4
    simp only [Option.some.injEq, Prod.mk.injEq] at H
    obtain ⟨rfl, rfl, rfl, rfl⟩ := H
    have hnb13 := NB139_140.out
    have hnc13 := NB140_139.out
    have hcz14_0 : wr.cell? ⟨gb139, 0, none⟩ = some (.int .i8 x140000_1) := (blk_cell BK139.out 0).trans rfl
    have hcz14_1 : wr.cell? ⟨gb139, 1, none⟩ = some (.int .i8 x140001_1) := (blk_cell BK139.out 1).trans rfl
    have hcz14_2 : wr.cell? ⟨gb139, 2, none⟩ = some (.int .i8 x140002_1) := (blk_cell BK139.out 2).trans rfl
    have hcz14_3 : wr.cell? ⟨gb139, 3, none⟩ = some (.int .i8 x140003_1) := (blk_cell BK139.out 3).trans rfl
    have hfz14_0 := blk_frozen BK139.out 0
    have hfz14_1 := blk_frozen BK139.out 1
    have hfz14_2 := blk_frozen BK139.out 2
    have hfz14_3 := blk_frozen BK139.out 3
    have hcz15_0 : wr.cell? ⟨gb140, 0, none⟩ = some (.int .i8 0) := (blk_cell BK140.out 0).trans rfl
    have hcz15_1 : wr.cell? ⟨gb140, 1, none⟩ = some (.int .i8 0) := (blk_cell BK140.out 1).trans rfl
    have hcz15_2 : wr.cell? ⟨gb140, 2, none⟩ = some (.int .i8 0) := (blk_cell BK140.out 2).trans rfl
    have hcz15_3 : wr.cell? ⟨gb140, 3, none⟩ = some (.int .i8 0) := (blk_cell BK140.out 3).trans rfl
    have hfz15_0 := blk_frozen BK140.out 0
    have hfz15_1 := blk_frozen BK140.out 1
    have hfz15_2 := blk_frozen BK140.out 2
    have hfz15_3 := blk_frozen BK140.out 3
    go_wp2
    refine bodyPost_ret (results_cell_row rfl _ _ gb140 30 #[.int .i8 x140000_1, .int .i8 x140001_1, .int .i8 x140002_1, .int .i8 x140003_1] (0, 0) _ rfl (by (with_reducible repeat (first | refine blk_drewN ?_ _ | refine blk_drew ?_ | refine blk_alloc ?_ _)); refine blk_put (cs := #[.int .i8 x140000_1, .int .i8 x140001_1, .int .i8 x140002_1, .int .i8 0]) ?_ 3 _ rfl; (with_reducible repeat (first | refine blk_drewN ?_ _ | refine blk_drew ?_ | refine blk_alloc ?_ _)); refine blk_put (cs := #[.int .i8 x140000_1, .int .i8 x140001_1, .int .i8 0, .int .i8 0]) ?_ 2 _ rfl; (with_reducible repeat (first | refine blk_drewN ?_ _ | refine blk_drew ?_ | refine blk_alloc ?_ _)); refine blk_put (cs := #[.int .i8 x140000_1, .int .i8 0, .int .i8 0, .int .i8 0]) ?_ 1 _ rfl; (with_reducible repeat (first | refine blk_drewN ?_ _ | refine blk_drew ?_ | refine blk_alloc ?_ _)); refine blk_put (cs := #[.int .i8 0, .int .i8 0, .int .i8 0, .int .i8 0]) ?_ 0 _ rfl; (with_reducible repeat (first | refine blk_drewN ?_ _ | refine blk_drew ?_ | refine blk_alloc ?_ _)); exact BK140.out) Try.underlying30 rfl (by kernel_rfl)) rfl ?_
    exact ⟨by first | rfl | (simp [errW_none, errW_some] <;> rfl) | (simp [*, errW_none, errW_some] <;> rfl), by repeat (first | (with_reducible first | exact HB.out | apply below_alloc | apply pw_below_drewN | apply below_drew1 | refine below_set ?_ GE139.out | refine below_set ?_ GE140.out) | exact HB.out)⟩

end Go.Proofs.Ytkllpdekkhhhnaa.M
