-- By this seat's own program over the kit's printer (arrays, functions told by hand); nothing of it is trusted: the kernel checks it.
import Derived.Test.YtkllpdekkhhhnaaMx0
namespace Go.Proofs.Ytkllpdekkhhhnaa.M
open Go.RowKit Go.Proofs.YtkllpdekkhhhnaaW.PrintWords Go.Proofs.YtkllpdekkhhhnaaW.PrintLast Go.Proofs.YtkllpdekkhhhnaaW.PrintMore
attribute [local go_sem] max2_int min2_int max_two min_two max_three min_three max_four min_four   -- for this text's walks alone
set_option linter.unusedVariables false
set_option linter.unusedSimpArgs false

/-! ### impl_OppositeWord: function 60 -/
def impl_OppositeWord.l0 : Nat → Int → Int → Int → Int → Int → Option (Int × Int × Int × Int)
 | 0, _, _, _, _, _ => none
 | k + 1, x4, x206000, x206001, x206002, x206003 => if x4 < 4 then (if 0 ≤ x4 then (impl_OppositeWord.l0 k (wrap64 (x4 + 1)) (aup x4 0 (IntKind.i8.wrap (-(rd [x206000, x206001, x206002, x206003] x4))) x206000) (aup x4 1 (IntKind.i8.wrap (-(rd [x206000, x206001, x206002, x206003] x4))) x206001) (aup x4 2 (IntKind.i8.wrap (-(rd [x206000, x206001, x206002, x206003] x4))) x206002) (aup x4 3 (IntKind.i8.wrap (-(rd [x206000, x206001, x206002, x206003] x4))) x206003)) else (none)) else (some (x206000, x206001, x206002, x206003))
def impl_OppositeWord.f (k : Nat) (a0_0 : Int) (a0_1 : Int) (a0_2 : Int) (a0_3 : Int) : Option (Int × Int × Int × Int) := impl_OppositeWord.l0 k 0 a0_0 a0_1 a0_2 a0_3
theorem impl_OppositeWord.mono_l : ∀ k, (∀ y0 y1 y2 y3 y4, LeO (impl_OppositeWord.l0 k y0 y1 y2 y3 y4) (impl_OppositeWord.l0 (k + 1) y0 y1 y2 y3 y4))
 | 0 => fun _ _ _ _ _ r h => by simp [impl_OppositeWord.l0] at h
 | k + 1 => by
  have ih0 := impl_OppositeWord.mono_l k
  ·intro y0 y1 y2 y3 y4
   unfold impl_OppositeWord.l0
   repeat' first
   | (with_reducible exact ih0 _ _ _ _ _)
   | (with_reducible exact LeO.refl _)
   | (with_reducible exact LeO.none _)
   | (with_reducible refine LeO.ite ?_ ?_)
   | (with_reducible refine LeO.bind ?_ (fun _ => ?_))
   | exact ih0 _ _ _ _ _
   | exact LeO.none _
   | refine LeO.ite ?_ ?_
   | refine LeO.bind ?_ (fun _ => ?_)
theorem impl_OppositeWord.mono : ∀ a0 a1 a2 a3 k, LeO (impl_OppositeWord.f k a0 a1 a2 a3) (impl_OppositeWord.f (k + 1) a0 a1 a2 a3) := by
 intro a0 a1 a2 a3 k
 have ih0 := impl_OppositeWord.mono_l k
 unfold impl_OppositeWord.f
 repeat' first
   | (with_reducible exact ih0 _ _ _ _ _)
   | (with_reducible exact LeO.refl _)
   | (with_reducible exact LeO.none _)
   | (with_reducible refine LeO.ite ?_ ?_)
   | (with_reducible refine LeO.bind ?_ (fun _ => ?_))
   | exact ih0 _ _ _ _ _
   | exact LeO.none _
   | refine LeO.ite ?_ ?_
   | refine LeO.bind ?_ (fun _ => ?_)
set_option maxHeartbeats 8000000 in
set_option maxRecDepth 100000 in
theorem impl_OppositeWord.calls (k : Nat) (a0_0 : Int) (a0_1 : Int) (a0_2 : Int) (a0_3 : Int) (r1 : Int) (r2 : Int) (r3 : Int) (r4 : Int) (w : World) (h : impl_OppositeWord.f k a0_0 a0_1 a0_2 a0_3 = some (r1, r2, r3, r4)) :
  Calls Try.prog 60 #[.agg #[.int .i8 a0_0, .int .i8 a0_1, .int .i8 a0_2, .int .i8 a0_3]] w fun e w' => e = .returned (.agg #[.int .i8 r1, .int .i8 r2, .int .i8 r3, .int .i8 r4]) ∧ Below w.heap.size w w' := by
 have hu30 := Try.underlying30
 have HB := Aside0.mk (Below.refl w.heap.size w)
 have H : (impl_OppositeWord.l0 k 0 a0_0 a0_1 a0_2 a0_3) = some (r1, r2, r3, r4) := h
 clear h
 have H' := Aside0.mk H
 clear H
 go_enter Try.func60, Try.ntmps60
 go_wp2_with (first | ((with_reducible refine gate_dst (N := 1) rfl ?_); refine box_event ?hg (N := 1) ?hd (cs := #[.int .i8 a0_0, .int .i8 a0_1, .int .i8 a0_2, .int .i8 a0_3]) (t := 30) ?hr ?_; (case hd => rfl); (case hg => rfl); (case hr => first | (go_simp; done) | (go_simp; rfl)); intro gb205 hg w2 hbox hb; have n0_ := Aside0.mk (below_step (by repeat (first | (with_reducible first | exact HB.out | apply below_alloc | apply pw_below_drewN | apply below_drew1) | exact HB.out)) hb); have n1_ := Aside0.mk (hbox); have n2_ := Aside0.mk ((by rw [hg]; exact (below_size (by repeat (first | (with_reducible first | exact HB.out | apply below_alloc | apply pw_below_drewN | apply below_drew1) | exact HB.out))) : w.heap.size ≤ gb205)); have n3_ := Aside0.mk ((by rw [hg]; exact (below_size (by repeat (first | (with_reducible first | exact HB.out | apply below_alloc | apply pw_below_drewN | apply below_drew1) | exact HB.out))) : w.heap.size ≤ gb205)); clear HB; have HB := n0_; have BK205 := n1_; have GW205 := n2_; have GE205 := n3_; clear n0_ n1_ n2_ n3_; clear hb hbox hg) | ((with_reducible refine gate_dst (N := 2) rfl ?_); refine box_event ?hg (N := 2) ?hd (cs := #[.int .i8 0, .int .i8 0, .int .i8 0, .int .i8 0]) (t := 30) ?hr ?_; (case hd => rfl); (case hg => rfl); (case hr => first | (go_simp; done) | (go_simp; rfl)); intro gb206 hg w3 hbox hb; have n0_ := Aside0.mk (blk_below (g := gb205) (o := .cells #[.int .i8 a0_0, .int .i8 a0_1, .int .i8 a0_2, .int .i8 a0_3] 30 (0, 0)) (by (with_reducible repeat (first | refine blk_drewN ?_ _ | refine blk_drew ?_ | refine blk_alloc ?_ _)); exact BK205.out) hb); have n1_ := Aside0.mk (below_step (by repeat (first | (with_reducible first | exact HB.out | apply below_alloc | apply pw_below_drewN | apply below_drew1 | refine below_set ?_ GE205.out) | exact HB.out)) hb); have n2_ := Aside0.mk (hbox); have n3_ := Aside0.mk ((by rw [hg]; exact (below_size (by repeat (first | (with_reducible first | exact HB.out | apply below_alloc | apply pw_below_drewN | apply below_drew1 | refine below_set ?_ GE205.out) | exact HB.out))) : w.heap.size ≤ gb206)); have n4_ := Aside0.mk ((by rw [hg]; exact (below_size (by repeat (first | (with_reducible first | exact HB.out | apply below_alloc | apply pw_below_drewN | apply below_drew1 | refine below_set ?_ GE205.out) | exact HB.out))) : w.heap.size ≤ gb206)); have n5_ := Aside0.mk ((by rw [hg]; exact Nat.ne_of_lt (blk_lt (g := gb205) (o := .cells #[.int .i8 a0_0, .int .i8 a0_1, .int .i8 a0_2, .int .i8 a0_3] 30 (0, 0)) (by (with_reducible repeat (first | refine blk_drewN ?_ _ | refine blk_drew ?_ | refine blk_alloc ?_ _)); exact BK205.out)) : gb205 ≠ gb206)); have n6_ := Aside0.mk ((by rw [hg]; exact Nat.ne_of_gt (blk_lt (g := gb205) (o := .cells #[.int .i8 a0_0, .int .i8 a0_1, .int .i8 a0_2, .int .i8 a0_3] 30 (0, 0)) (by (with_reducible repeat (first | refine blk_drewN ?_ _ | refine blk_drew ?_ | refine blk_alloc ?_ _)); exact BK205.out)) : gb206 ≠ gb205)); clear BK205; clear HB; have BK205 := n0_; have HB := n1_; have BK206 := n2_; have GW206 := n3_; have GE206 := n4_; have NB205_206 := n5_; have NB206_205 := n6_; clear n0_ n1_ n2_ n3_ n4_ n5_ n6_; clear hb hbox hg))
 go_loopg [4] k (fun kq v4 w' => ∃ (x4_1 : Int) (x206000_1 : Int) (x206001_1 : Int) (x206002_1 : Int) (x206003_1 : Int), v4 = .int .i64 x4_1 ∧ Aside0 (impl_OppositeWord.l0 kq x4_1 x206000_1 x206001_1 x206002_1 x206003_1 = some (r1, r2, r3, r4)) ∧ Aside0 (kq ≤ k) ∧ Aside0 (w'.heap[gb205]? = some (.cells #[.int .i8 x206000_1, .int .i8 x206001_1, .int .i8 x206002_1, .int .i8 x206003_1] 30 (0, 0))) ∧ Aside0 (w'.heap[gb206]? = some (.cells #[.int .i8 0, .int .i8 0, .int .i8 0, .int .i8 0] 30 (0, 0))) ∧ Aside0 (Below w.heap.size w w'))
 case atStart => exact ⟨(0), (a0_0), (a0_1), (a0_2), (a0_3), (by first | rfl | (simp; done) | (simp [*]; done)), H', ⟨Nat.le_refl _⟩, ⟨by (with_reducible repeat (first | refine blk_drewN ?_ _ | refine blk_drew ?_ | refine blk_alloc ?_ _)); exact BK205.out⟩, ⟨by (with_reducible repeat (first | refine blk_drewN ?_ _ | refine blk_drew ?_ | refine blk_alloc ?_ _)); exact BK206.out⟩, ⟨by repeat (first | (with_reducible first | exact HB.out | apply below_alloc | apply pw_below_drewN | apply below_drew1 | refine below_set ?_ GE205.out | refine below_set ?_ GE206.out) | exact HB.out)⟩⟩
 case round =>
  clear H'
  try clear p2
  obtain ⟨x4_1, x206000_1, x206001_1, x206002_1, x206003_1, rfl, HA, HK1, BK205, BK206, HB⟩ := hrel
  cases gk with
  | zero => exact absurd HA.out (by simp [impl_OppositeWord.l0])
  | succ k1 =>
   have H := HA.out
   clear HA
   simp only [impl_OppositeWord.l0] at H
   by_cases c4 : x4_1 < 4
   ·rw [if_pos c4] at H
    have c4b0 : decide (x4_1 < 4) = true := decide_eq_true c4
    clear c4
    by_cases c5 : 0 ≤ x4_1
    ·rw [if_pos c5] at H
     have c5b0 : decide (0 ≤ x4_1) = true := decide_eq_true c5
     clear c5
     have H' := Aside0.mk H
     clear H
     have hnb9 := NB205_206.out
     have hnc9 := NB206_205.out
     have hcz10_0 : wr.cell? ⟨gb205, 0, none⟩ = some (.int .i8 x206000_1) := (blk_cell BK205.out 0).trans rfl
     have hcz10_1 : wr.cell? ⟨gb205, 1, none⟩ = some (.int .i8 x206001_1) := (blk_cell BK205.out 1).trans rfl
     have hcz10_2 : wr.cell? ⟨gb205, 2, none⟩ = some (.int .i8 x206002_1) := (blk_cell BK205.out 2).trans rfl
     have hcz10_3 : wr.cell? ⟨gb205, 3, none⟩ = some (.int .i8 x206003_1) := (blk_cell BK205.out 3).trans rfl
     have hfz10_0 := blk_frozen BK205.out 0
     have hfz10_1 := blk_frozen BK205.out 1
     have hfz10_2 := blk_frozen BK205.out 2
     have hfz10_3 := blk_frozen BK205.out 3
     have p6 : 0 ≤ (x4_1 : Int) := of_decide_eq_true (by first | (with_reducible assumption) | assumption)
     have q6 : (x4_1 : Int) < 4 := of_decide_eq_true (by first | (with_reducible assumption) | assumption)
     have hx6 : wr.cell? ⟨gb205, (x4_1 : Int).toNat, none⟩ = some (.int .i8 (rd [x206000_1, x206001_1, x206002_1, x206003_1] x4_1)) := ard_cell (k := .i8) (l := [x206000_1, x206001_1, x206002_1, x206003_1]) BK205.out p6 q6
     have hf6 := blk_frozen BK205.out (x4_1 : Int).toNat
     have P6 := Aside0.mk p6
     have Q6 := Aside0.mk q6
     replace p6 := eq_true p6
     replace q6 := eq_true q6
     have p7 : 0 ≤ (x4_1 : Int) := of_decide_eq_true (by first | (with_reducible assumption) | assumption)
     have q7 : (x4_1 : Int) < 4 := of_decide_eq_true (by first | (with_reducible assumption) | assumption)
     have hx7 : wr.cell? ⟨gb205, (x4_1 : Int).toNat, none⟩ = some (.int .i8 (rd [x206000_1, x206001_1, x206002_1, x206003_1] x4_1)) := ard_cell (k := .i8) (l := [x206000_1, x206001_1, x206002_1, x206003_1]) BK205.out p7 q7
     have hf7 := blk_frozen BK205.out (x4_1 : Int).toNat
     have P7 := Aside0.mk p7
     have Q7 := Aside0.mk q7
     replace p7 := eq_true p7
     replace q7 := eq_true q7
     go_wp2_with (first | ((with_reducible refine gate_store (t := 22) (p := 12) rfl ?_); refine store_event (t := 22) (p := 12) (v := ?vo_w11) (w1 := (wr.setCell ⟨gb205, (x4_1 : Int).toNat, none⟩ (.int .i8 (IntKind.i8.wrap (-(rd [x206000_1, x206001_1, x206002_1, x206003_1] x4_1)))))) ?hg ?ho ?hn ?hr ?_; (case ho => rfl); (case hg => rfl); (case hn => rfl); (case hr => first | (go_simp; done) | (go_simp; rfl)); intro w11 hw; have n0_ : Aside0 (w11.heap[gb205]? = some (.cells #[.int .i8 (aup x4_1 0 (IntKind.i8.wrap (-(rd [x206000_1, x206001_1, x206002_1, x206003_1] x4_1))) x206000_1), .int .i8 (aup x4_1 1 (IntKind.i8.wrap (-(rd [x206000_1, x206001_1, x206002_1, x206003_1] x4_1))) x206001_1), .int .i8 (aup x4_1 2 (IntKind.i8.wrap (-(rd [x206000_1, x206001_1, x206002_1, x206003_1] x4_1))) x206002_1), .int .i8 (aup x4_1 3 (IntKind.i8.wrap (-(rd [x206000_1, x206001_1, x206002_1, x206003_1] x4_1))) x206003_1)] 30 (0, 0))) := ⟨(by rw [hw]; exact (by (with_reducible repeat (first | refine blk_drewN ?_ _ | refine blk_drew ?_ | refine blk_alloc ?_ _)); refine blk_put (cs := #[.int .i8 x206000_1, .int .i8 x206001_1, .int .i8 x206002_1, .int .i8 x206003_1]) ?_ (x4_1 : Int).toNat _ (ups_set (k := .i8) (l := [x206000_1, x206001_1, x206002_1, x206003_1]) P7.out); (with_reducible repeat (first | refine blk_drewN ?_ _ | refine blk_drew ?_ | refine blk_alloc ?_ _)); exact BK205.out))⟩; have n1_ : Aside0 (w11.heap[gb206]? = some (.cells #[.int .i8 0, .int .i8 0, .int .i8 0, .int .i8 0] 30 (0, 0))) := ⟨(by rw [hw]; exact (by (with_reducible repeat (first | refine blk_drewN ?_ _ | refine blk_drew ?_ | refine blk_alloc ?_ _)); refine blk_far ?_ NB206_205.out _; (with_reducible repeat (first | refine blk_drewN ?_ _ | refine blk_drew ?_ | refine blk_alloc ?_ _)); exact BK206.out))⟩; have n2_ : Aside0 (Below w.heap.size w w11) := ⟨(by rw [hw]; exact (by repeat (first | (with_reducible first | exact HB.out | apply below_alloc | apply pw_below_drewN | apply below_drew1 | refine below_set ?_ GE205.out | refine below_set ?_ GE206.out) | exact HB.out)))⟩; clear hw; clear BK205; clear BK206; clear HB; have BK205 := n0_; have BK206 := n1_; have HB := n2_; clear n0_ n1_ n2_))
     go_roundg k1
     case measure => have := HK1.out; omega
     case rel => exact ⟨(wrap64 (x4_1 + 1)), (aup x4_1 0 (IntKind.i8.wrap (-(rd [x206000_1, x206001_1, x206002_1, x206003_1] x4_1))) x206000_1), (aup x4_1 1 (IntKind.i8.wrap (-(rd [x206000_1, x206001_1, x206002_1, x206003_1] x4_1))) x206001_1), (aup x4_1 2 (IntKind.i8.wrap (-(rd [x206000_1, x206001_1, x206002_1, x206003_1] x4_1))) x206002_1), (aup x4_1 3 (IntKind.i8.wrap (-(rd [x206000_1, x206001_1, x206002_1, x206003_1] x4_1))) x206003_1), (by first | rfl | (simp; done) | (simp [*]; done)), H', ⟨by have := HK1.out; omega⟩, ⟨by (with_reducible repeat (first | refine blk_drewN ?_ _ | refine blk_drew ?_ | refine blk_alloc ?_ _)); exact BK205.out⟩, ⟨by (with_reducible repeat (first | refine blk_drewN ?_ _ | refine blk_drew ?_ | refine blk_alloc ?_ _)); exact BK206.out⟩, ⟨by repeat (first | (with_reducible first | exact HB.out | apply below_alloc | apply pw_below_drewN | apply below_drew1 | refine below_set ?_ GE205.out | refine below_set ?_ GE206.out) | exact HB.out)⟩⟩
    ·rw [if_neg c5] at H
     exact absurd H (by simp)
   ·rw [if_neg c4] at H
    have c4b0 : decide (x4_1 < 4) = false := decide_eq_false c4
    clear c4
    simp only [Option.some.injEq, Prod.mk.injEq] at H
    obtain ⟨rfl, rfl, rfl, rfl⟩ := H
    have hnb12 := NB205_206.out
    have hnc12 := NB206_205.out
    have hcz13_0 : wr.cell? ⟨gb205, 0, none⟩ = some (.int .i8 x206000_1) := (blk_cell BK205.out 0).trans rfl
    have hcz13_1 : wr.cell? ⟨gb205, 1, none⟩ = some (.int .i8 x206001_1) := (blk_cell BK205.out 1).trans rfl
    have hcz13_2 : wr.cell? ⟨gb205, 2, none⟩ = some (.int .i8 x206002_1) := (blk_cell BK205.out 2).trans rfl
    have hcz13_3 : wr.cell? ⟨gb205, 3, none⟩ = some (.int .i8 x206003_1) := (blk_cell BK205.out 3).trans rfl
    have hfz13_0 := blk_frozen BK205.out 0
    have hfz13_1 := blk_frozen BK205.out 1
    have hfz13_2 := blk_frozen BK205.out 2
    have hfz13_3 := blk_frozen BK205.out 3
    have hcz14_0 : wr.cell? ⟨gb206, 0, none⟩ = some (.int .i8 0) := (blk_cell BK206.out 0).trans rfl
    have hcz14_1 : wr.cell? ⟨gb206, 1, none⟩ = some (.int .i8 0) := (blk_cell BK206.out 1).trans rfl
    have hcz14_2 : wr.cell? ⟨gb206, 2, none⟩ = some (.int .i8 0) := (blk_cell BK206.out 2).trans rfl
    have hcz14_3 : wr.cell? ⟨gb206, 3, none⟩ = some (.int .i8 0) := (blk_cell BK206.out 3).trans rfl
    have hfz14_0 := blk_frozen BK206.out 0
    have hfz14_1 := blk_frozen BK206.out 1
    have hfz14_2 := blk_frozen BK206.out 2
    have hfz14_3 := blk_frozen BK206.out 3
    go_wp2
    refine bodyPost_ret (results_cell_row rfl _ _ gb206 30 #[.int .i8 x206000_1, .int .i8 x206001_1, .int .i8 x206002_1, .int .i8 x206003_1] (0, 0) _ rfl (by (with_reducible repeat (first | refine blk_drewN ?_ _ | refine blk_drew ?_ | refine blk_alloc ?_ _)); refine blk_put (cs := #[.int .i8 x206000_1, .int .i8 x206001_1, .int .i8 x206002_1, .int .i8 0]) ?_ 3 _ rfl; (with_reducible repeat (first | refine blk_drewN ?_ _ | refine blk_drew ?_ | refine blk_alloc ?_ _)); refine blk_put (cs := #[.int .i8 x206000_1, .int .i8 x206001_1, .int .i8 0, .int .i8 0]) ?_ 2 _ rfl; (with_reducible repeat (first | refine blk_drewN ?_ _ | refine blk_drew ?_ | refine blk_alloc ?_ _)); refine blk_put (cs := #[.int .i8 x206000_1, .int .i8 0, .int .i8 0, .int .i8 0]) ?_ 1 _ rfl; (with_reducible repeat (first | refine blk_drewN ?_ _ | refine blk_drew ?_ | refine blk_alloc ?_ _)); refine blk_put (cs := #[.int .i8 0, .int .i8 0, .int .i8 0, .int .i8 0]) ?_ 0 _ rfl; (with_reducible repeat (first | refine blk_drewN ?_ _ | refine blk_drew ?_ | refine blk_alloc ?_ _)); exact BK206.out) Try.underlying30 rfl (by kernel_rfl)) rfl ?_
    exact ⟨by first | rfl | (simp [errW_none, errW_some] <;> rfl) | (simp [*, errW_none, errW_some] <;> rfl), by repeat (first | (with_reducible first | exact HB.out | apply below_alloc | apply pw_below_drewN | apply below_drew1 | refine below_set ?_ GE205.out | refine below_set ?_ GE206.out) | exact HB.out)⟩

end Go.Proofs.Ytkllpdekkhhhnaa.M
