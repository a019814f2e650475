-- By this seat's own program over the kit's printer (arrays, functions told by hand); nothing of it is trusted: the kernel checks it.
import Derived.Test.YteohhkfeeeifaaaMx0
namespace Go.Proofs.Yteohhkfeeeifaaa.M
open Go.RowKit Go.Proofs.YteohhkfeeeifaaaW.PrintWords Go.Proofs.YteohhkfeeeifaaaW.PrintLast Go.Proofs.YteohhkfeeeifaaaW.PrintMore
attribute [local go_sem] max2_int min2_int max_two min_two max_three min_three max_four min_four   -- for this text's walks alone
set_option linter.unusedVariables false
set_option linter.unusedSimpArgs false

/-! ### impl_next: function 46 -/
def impl_next.l0 : Nat → Int → Int → Int → Int → Int → Int → Option (Int × Int × Int × Int)
 | 0, _, _, _, _, _, _ => none
 | k + 1, x6, x7, x174000, x174001, x174002, x174003 => if x7 < x6 then (if 0 ≤ x7 then (if x7 < 4 then (impl_next.l0 k x6 (wrap64 (x7 + 1)) (aup x7 0 (IntKind.i8.wrap ((Int.tmod (IntKind.i8.wrap ((rd [x174000, x174001, x174002, x174003] x7) + 2)) 3) - 1)) x174000) (aup x7 1 (IntKind.i8.wrap ((Int.tmod (IntKind.i8.wrap ((rd [x174000, x174001, x174002, x174003] x7) + 2)) 3) - 1)) x174001) (aup x7 2 (IntKind.i8.wrap ((Int.tmod (IntKind.i8.wrap ((rd [x174000, x174001, x174002, x174003] x7) + 2)) 3) - 1)) x174002) (aup x7 3 (IntKind.i8.wrap ((Int.tmod (IntKind.i8.wrap ((rd [x174000, x174001, x174002, x174003] x7) + 2)) 3) - 1)) x174003)) else (none)) else (none)) else (some (x174000, x174001, x174002, x174003))
def impl_next.f (k : Nat) (a0 : Int) (a1_0 : Int) (a1_1 : Int) (a1_2 : Int) (a1_3 : Int) : Option (Int × Int × Int × Int) := impl_next.l0 k a0 0 a1_0 a1_1 a1_2 a1_3
theorem impl_next.mono_l : ∀ k, (∀ y0 y1 y2 y3 y4 y5, LeO (impl_next.l0 k y0 y1 y2 y3 y4 y5) (impl_next.l0 (k + 1) y0 y1 y2 y3 y4 y5))
 | 0 => fun _ _ _ _ _ _ r h => by simp [impl_next.l0] at h
 | k + 1 => by
  have ih0 := impl_next.mono_l k
  ·intro y0 y1 y2 y3 y4 y5
   unfold impl_next.l0
   repeat' first
   | (with_reducible exact ih0 _ _ _ _ _ _)
   | (with_reducible exact LeO.refl _)
   | (with_reducible exact LeO.none _)
   | (with_reducible refine LeO.ite ?_ ?_)
   | (with_reducible refine LeO.bind ?_ (fun _ => ?_))
   | exact ih0 _ _ _ _ _ _
   | exact LeO.none _
   | refine LeO.ite ?_ ?_
   | refine LeO.bind ?_ (fun _ => ?_)
theorem impl_next.mono : ∀ a0 a1 a2 a3 a4 k, LeO (impl_next.f k a0 a1 a2 a3 a4) (impl_next.f (k + 1) a0 a1 a2 a3 a4) := by
 intro a0 a1 a2 a3 a4 k
 have ih0 := impl_next.mono_l k
 unfold impl_next.f
 repeat' first
   | (with_reducible exact ih0 _ _ _ _ _ _)
   | (with_reducible exact LeO.refl _)
   | (with_reducible exact LeO.none _)
   | (with_reducible refine LeO.ite ?_ ?_)
   | (with_reducible refine LeO.bind ?_ (fun _ => ?_))
   | exact ih0 _ _ _ _ _ _
   | exact LeO.none _
   | refine LeO.ite ?_ ?_
   | refine LeO.bind ?_ (fun _ => ?_)
set_option maxHeartbeats 8000000 in
set_option maxRecDepth 100000 in
theorem impl_next.calls (k : Nat) (a0 : Int) (a1_0 : Int) (a1_1 : Int) (a1_2 : Int) (a1_3 : Int) (r1 : Int) (r2 : Int) (r3 : Int) (r4 : Int) (w : World) (h : impl_next.f k a0 a1_0 a1_1 a1_2 a1_3 = some (r1, r2, r3, r4)) :
  Calls Try.prog 46 #[.int .i64 a0, .agg #[.int .i8 a1_0, .int .i8 a1_1, .int .i8 a1_2, .int .i8 a1_3]] w fun e w' => e = .returned (.agg #[.int .i8 r1, .int .i8 r2, .int .i8 r3, .int .i8 r4]) ∧ Below w.heap.size w w' := by
 have hu24 := Try.underlying24
 have HB := Aside0.mk (Below.refl w.heap.size w)
 have H : (impl_next.l0 k a0 0 a1_0 a1_1 a1_2 a1_3) = some (r1, r2, r3, r4) := h
 clear h
 have H' := Aside0.mk H
 clear H
 go_enter Try.func46, Try.ntmps46
 go_wp2_with (first | ((with_reducible refine gate_dst (N := 3) rfl ?_); refine box_event ?hg (N := 3) ?hd (cs := #[.int .i8 a1_0, .int .i8 a1_1, .int .i8 a1_2, .int .i8 a1_3]) (t := 24) ?hr ?_; (case hd => rfl); (case hg => rfl); (case hr => first | (go_simp; done) | (go_simp; rfl)); intro gb173 hg w3 hbox hb; have n0_ := Aside0.mk (below_step (bl_ HB) hb); have n1_ := Aside0.mk (hbox); have n2_ := Aside0.mk ((by rw [hg]; exact (below_size (bl_ HB)) : w.heap.size ≤ gb173)); have n3_ := Aside0.mk ((by rw [hg]; exact (below_size (bl_ HB)) : w.heap.size ≤ gb173)); clear HB; have HB := n0_; have BK173 := n1_; have GW173 := n2_; have GE173 := n3_; clear n0_ n1_ n2_ n3_; clear hb hbox hg) | ((with_reducible refine gate_dst (N := 4) rfl ?_); refine box_event ?hg (N := 4) ?hd (cs := #[.int .i8 0, .int .i8 0, .int .i8 0, .int .i8 0]) (t := 24) ?hr ?_; (case hd => rfl); (case hg => rfl); (case hr => first | (go_simp; done) | (go_simp; rfl)); intro gb174 hg w4 hbox hb; have n0_ := Aside0.mk (blk_below (g := gb173) (o := .cells #[.int .i8 a1_0, .int .i8 a1_1, .int .i8 a1_2, .int .i8 a1_3] 24 (0, 0)) (pl_ BK173) hb); have n1_ := Aside0.mk (below_step (by repeat (first | (with_reducible first | exact HB.out | apply below_alloc | apply pw_below_drewN | apply below_drew1 | refine below_set ?_ GE173.out) | exact HB.out)) hb); have n2_ := Aside0.mk (hbox); have n3_ := Aside0.mk ((by rw [hg]; exact (below_size (by repeat (first | (with_reducible first | exact HB.out | apply below_alloc | apply pw_below_drewN | apply below_drew1 | refine below_set ?_ GE173.out) | exact HB.out))) : w.heap.size ≤ gb174)); have n4_ := Aside0.mk ((by rw [hg]; exact (below_size (by repeat (first | (with_reducible first | exact HB.out | apply below_alloc | apply pw_below_drewN | apply below_drew1 | refine below_set ?_ GE173.out) | exact HB.out))) : w.heap.size ≤ gb174)); have n5_ := Aside0.mk ((by rw [hg]; exact Nat.ne_of_lt (blk_lt (g := gb173) (o := .cells #[.int .i8 a1_0, .int .i8 a1_1, .int .i8 a1_2, .int .i8 a1_3] 24 (0, 0)) (pl_ BK173)) : gb173 ≠ gb174)); have n6_ := Aside0.mk ((by rw [hg]; exact Nat.ne_of_gt (blk_lt (g := gb173) (o := .cells #[.int .i8 a1_0, .int .i8 a1_1, .int .i8 a1_2, .int .i8 a1_3] 24 (0, 0)) (pl_ BK173)) : gb174 ≠ gb173)); clear BK173; clear HB; have BK173 := n0_; have HB := n1_; have BK174 := n2_; have GW174 := n3_; have GE174 := n4_; have NB173_174 := n5_; have NB174_173 := n6_; clear n0_ n1_ n2_ n3_ n4_ n5_ n6_; clear hb hbox hg))
 go_loopg [7] k (fun kq v7 w' => ∃ (x7_1 : Int) (x174000_1 : Int) (x174001_1 : Int) (x174002_1 : Int) (x174003_1 : Int), v7 = .int .i64 x7_1 ∧ Aside0 (impl_next.l0 kq a0 x7_1 x174000_1 x174001_1 x174002_1 x174003_1 = some (r1, r2, r3, r4)) ∧ Aside0 (kq ≤ k) ∧ Aside0 (w'.heap[gb173]? = some (.cells #[.int .i8 x174000_1, .int .i8 x174001_1, .int .i8 x174002_1, .int .i8 x174003_1] 24 (0, 0))) ∧ Aside0 (w'.heap[gb174]? = some (.cells #[.int .i8 0, .int .i8 0, .int .i8 0, .int .i8 0] 24 (0, 0))) ∧ Aside0 (Below w.heap.size w w'))
 case atStart => exact ⟨(0), (a1_0), (a1_1), (a1_2), (a1_3), (by first | rfl | (simp; done) | (simp [*]; done)), H', ⟨Nat.le_refl _⟩, ⟨pl_ BK173⟩, ⟨pl_ BK174⟩, ⟨by repeat (first | (with_reducible first | exact HB.out | apply below_alloc | apply pw_below_drewN | apply below_drew1 | refine below_set ?_ GE173.out | refine below_set ?_ GE174.out) | exact HB.out)⟩⟩
 case round =>
  clear H'
  try clear p2
  try clear c4
  obtain ⟨x7_1, x174000_1, x174001_1, x174002_1, x174003_1, rfl, HA, HK1, BK173, BK174, HB⟩ := hrel
  cases gk with
  | zero => exact absurd HA.out (by simp [impl_next.l0])
  | succ k1 =>
   have H := HA.out
   clear HA
   simp only [impl_next.l0] at H
   by_cases c5 : x7_1 < a0
   ·rw [if_pos c5] at H
    have c5b0 : decide (x7_1 < a0) = true := decide_eq_true c5
    clear c5
    by_cases c6 : 0 ≤ x7_1
    ·rw [if_pos c6] at H
     have c6b0 : decide (0 ≤ x7_1) = true := decide_eq_true c6
     clear c6
     by_cases c7 : x7_1 < 4
     ·rw [if_pos c7] at H
      have c7b0 : decide (x7_1 < 4) = true := decide_eq_true c7
      clear c7
      have H' := Aside0.mk H
      clear H
      have hnb11 := NB173_174.out
      have hnc11 := NB174_173.out
      have hcz12_0 : wr.cell? ⟨gb173, 0, none⟩ = some (.int .i8 x174000_1) := (blk_cell BK173.out 0).trans rfl
      have hcz12_1 : wr.cell? ⟨gb173, 1, none⟩ = some (.int .i8 x174001_1) := (blk_cell BK173.out 1).trans rfl
      have hcz12_2 : wr.cell? ⟨gb173, 2, none⟩ = some (.int .i8 x174002_1) := (blk_cell BK173.out 2).trans rfl
      have hcz12_3 : wr.cell? ⟨gb173, 3, none⟩ = some (.int .i8 x174003_1) := (blk_cell BK173.out 3).trans rfl
      have hfz12_0 := blk_frozen BK173.out 0
      have hfz12_1 := blk_frozen BK173.out 1
      have hfz12_2 := blk_frozen BK173.out 2
      have hfz12_3 := blk_frozen BK173.out 3
      have p8 : 0 ≤ (x7_1 : Int) := asm_
      have q8 : (x7_1 : Int) < 4 := asm_
      have hx8 : wr.cell? ⟨gb173, (x7_1 : Int).toNat, none⟩ = some (.int .i8 (rd [x174000_1, x174001_1, x174002_1, x174003_1] x7_1)) := ard_cell (k := .i8) (l := [x174000_1, x174001_1, x174002_1, x174003_1]) BK173.out p8 q8
      have hf8 := blk_frozen BK173.out (x7_1 : Int).toNat
      have P8 := Aside0.mk p8
      have Q8 := Aside0.mk q8
      replace p8 := eq_true p8
      replace q8 := eq_true q8
      have p9 : 0 ≤ (x7_1 : Int) := asm_
      have q9 : (x7_1 : Int) < 4 := asm_
      have hx9 : wr.cell? ⟨gb173, (x7_1 : Int).toNat, none⟩ = some (.int .i8 (rd [x174000_1, x174001_1, x174002_1, x174003_1] x7_1)) := ard_cell (k := .i8) (l := [x174000_1, x174001_1, x174002_1, x174003_1]) BK173.out p9 q9
      have hf9 := blk_frozen BK173.out (x7_1 : Int).toNat
      have P9 := Aside0.mk p9
      have Q9 := Aside0.mk q9
      replace p9 := eq_true p9
      replace q9 := eq_true q9
      go_wp2_with (first | ((with_reducible refine gate_store (t := 22) (p := 17) rfl ?_); refine store_event (t := 22) (p := 17) (v := ?vo_w14) (w1 := (wr.setCell ⟨gb173, (x7_1 : Int).toNat, none⟩ (.int .i8 (IntKind.i8.wrap ((Int.tmod (IntKind.i8.wrap ((rd [x174000_1, x174001_1, x174002_1, x174003_1] x7_1) + 2)) 3) - 1))))) ?hg ?ho ?hn ?hr ?_; (case ho => rfl); (case hg => rfl); (case hn => rfl); (case hr => first | (go_simp; done) | (go_simp; rfl)); intro w14 hw; have n0_ : Aside0 (w14.heap[gb173]? = some (.cells #[.int .i8 (aup x7_1 0 (IntKind.i8.wrap ((Int.tmod (IntKind.i8.wrap ((rd [x174000_1, x174001_1, x174002_1, x174003_1] x7_1) + 2)) 3) - 1)) x174000_1), .int .i8 (aup x7_1 1 (IntKind.i8.wrap ((Int.tmod (IntKind.i8.wrap ((rd [x174000_1, x174001_1, x174002_1, x174003_1] x7_1) + 2)) 3) - 1)) x174001_1), .int .i8 (aup x7_1 2 (IntKind.i8.wrap ((Int.tmod (IntKind.i8.wrap ((rd [x174000_1, x174001_1, x174002_1, x174003_1] x7_1) + 2)) 3) - 1)) x174002_1), .int .i8 (aup x7_1 3 (IntKind.i8.wrap ((Int.tmod (IntKind.i8.wrap ((rd [x174000_1, x174001_1, x174002_1, x174003_1] x7_1) + 2)) 3) - 1)) x174003_1)] 24 (0, 0))) := ⟨(by rw [hw]; exact (by (with_reducible repeat (first | refine blk_drewN ?_ _ | refine blk_drew ?_ | refine blk_alloc ?_ _)); refine blk_put (cs := #[.int .i8 x174000_1, .int .i8 x174001_1, .int .i8 x174002_1, .int .i8 x174003_1]) ?_ (x7_1 : Int).toNat _ (ups_set (k := .i8) (l := [x174000_1, x174001_1, x174002_1, x174003_1]) P9.out); (with_reducible repeat (first | refine blk_drewN ?_ _ | refine blk_drew ?_ | refine blk_alloc ?_ _)); exact BK173.out))⟩; have n1_ : Aside0 (w14.heap[gb174]? = some (.cells #[.int .i8 0, .int .i8 0, .int .i8 0, .int .i8 0] 24 (0, 0))) := ⟨(by rw [hw]; exact (by (with_reducible repeat (first | refine blk_drewN ?_ _ | refine blk_drew ?_ | refine blk_alloc ?_ _)); refine blk_far ?_ NB174_173.out _; (with_reducible repeat (first | refine blk_drewN ?_ _ | refine blk_drew ?_ | refine blk_alloc ?_ _)); exact BK174.out))⟩; have n2_ : Aside0 (Below w.heap.size w w14) := ⟨(by rw [hw]; exact (by repeat (first | (with_reducible first | exact HB.out | apply below_alloc | apply pw_below_drewN | apply below_drew1 | refine below_set ?_ GE173.out | refine below_set ?_ GE174.out) | exact HB.out)))⟩; clear hw; clear BK173; clear BK174; clear HB; have BK173 := n0_; have BK174 := n1_; have HB := n2_; clear n0_ n1_ n2_))
      go_roundg k1
      case measure => have := HK1.out; omega
      case rel => exact ⟨(wrap64 (x7_1 + 1)), (aup x7_1 0 (IntKind.i8.wrap ((Int.tmod (IntKind.i8.wrap ((rd [x174000_1, x174001_1, x174002_1, x174003_1] x7_1) + 2)) 3) - 1)) x174000_1), (aup x7_1 1 (IntKind.i8.wrap ((Int.tmod (IntKind.i8.wrap ((rd [x174000_1, x174001_1, x174002_1, x174003_1] x7_1) + 2)) 3) - 1)) x174001_1), (aup x7_1 2 (IntKind.i8.wrap ((Int.tmod (IntKind.i8.wrap ((rd [x174000_1, x174001_1, x174002_1, x174003_1] x7_1) + 2)) 3) - 1)) x174002_1), (aup x7_1 3 (IntKind.i8.wrap ((Int.tmod (IntKind.i8.wrap ((rd [x174000_1, x174001_1, x174002_1, x174003_1] x7_1) + 2)) 3) - 1)) x174003_1), (by first | rfl | (simp; done) | (simp [*]; done)), H', ⟨by have := HK1.out; omega⟩, ⟨pl_ BK173⟩, ⟨pl_ BK174⟩, ⟨by repeat (first | (with_reducible first | exact HB.out | apply below_alloc | apply pw_below_drewN | apply below_drew1 | refine below_set ?_ GE173.out | refine below_set ?_ GE174.out) | exact HB.out)⟩⟩
     ·rw [if_neg c7] at H
      exact absurd H (by simp)
    ·rw [if_neg c6] at H
     exact absurd H (by simp)
   ·rw [if_neg c5] at H
    have c5b0 : decide (x7_1 < a0) = false := decide_eq_false c5
    clear c5
    simp only [Option.some.injEq, Prod.mk.injEq] at H
    obtain ⟨rfl, rfl, rfl, rfl⟩ := H
    have hnb15 := NB173_174.out
    have hnc15 := NB174_173.out
    have hcz16_0 : wr.cell? ⟨gb173, 0, none⟩ = some (.int .i8 x174000_1) := (blk_cell BK173.out 0).trans rfl
    have hcz16_1 : wr.cell? ⟨gb173, 1, none⟩ = some (.int .i8 x174001_1) := (blk_cell BK173.out 1).trans rfl
    have hcz16_2 : wr.cell? ⟨gb173, 2, none⟩ = some (.int .i8 x174002_1) := (blk_cell BK173.out 2).trans rfl
    have hcz16_3 : wr.cell? ⟨gb173, 3, none⟩ = some (.int .i8 x174003_1) := (blk_cell BK173.out 3).trans rfl
    have hfz16_0 := blk_frozen BK173.out 0
    have hfz16_1 := blk_frozen BK173.out 1
    have hfz16_2 := blk_frozen BK173.out 2
    have hfz16_3 := blk_frozen BK173.out 3
    have hcz17_0 : wr.cell? ⟨gb174, 0, none⟩ = some (.int .i8 0) := (blk_cell BK174.out 0).trans rfl
    have hcz17_1 : wr.cell? ⟨gb174, 1, none⟩ = some (.int .i8 0) := (blk_cell BK174.out 1).trans rfl
    have hcz17_2 : wr.cell? ⟨gb174, 2, none⟩ = some (.int .i8 0) := (blk_cell BK174.out 2).trans rfl
    have hcz17_3 : wr.cell? ⟨gb174, 3, none⟩ = some (.int .i8 0) := (blk_cell BK174.out 3).trans rfl
    have hfz17_0 := blk_frozen BK174.out 0
    have hfz17_1 := blk_frozen BK174.out 1
    have hfz17_2 := blk_frozen BK174.out 2
    have hfz17_3 := blk_frozen BK174.out 3
    go_wp2
    refine bodyPost_ret (results_cell_row rfl _ _ gb174 24 #[.int .i8 x174000_1, .int .i8 x174001_1, .int .i8 x174002_1, .int .i8 x174003_1] (0, 0) _ rfl (by (with_reducible repeat (first | refine blk_drewN ?_ _ | refine blk_drew ?_ | refine blk_alloc ?_ _)); refine blk_put (cs := #[.int .i8 x174000_1, .int .i8 x174001_1, .int .i8 x174002_1, .int .i8 0]) ?_ 3 _ rfl; (with_reducible repeat (first | refine blk_drewN ?_ _ | refine blk_drew ?_ | refine blk_alloc ?_ _)); refine blk_put (cs := #[.int .i8 x174000_1, .int .i8 x174001_1, .int .i8 0, .int .i8 0]) ?_ 2 _ rfl; (with_reducible repeat (first | refine blk_drewN ?_ _ | refine blk_drew ?_ | refine blk_alloc ?_ _)); refine blk_put (cs := #[.int .i8 x174000_1, .int .i8 0, .int .i8 0, .int .i8 0]) ?_ 1 _ rfl; (with_reducible repeat (first | refine blk_drewN ?_ _ | refine blk_drew ?_ | refine blk_alloc ?_ _)); refine blk_put (cs := #[.int .i8 0, .int .i8 0, .int .i8 0, .int .i8 0]) ?_ 0 _ rfl; (with_reducible repeat (first | refine blk_drewN ?_ _ | refine blk_drew ?_ | refine blk_alloc ?_ _)); exact BK174.out) Try.underlying24 rfl (by kernel_rfl)) rfl ?_
    exact ⟨by first | rfl | (simp [errW_none, errW_some] <;> rfl) | (simp [*, errW_none, errW_some] <;> rfl), by repeat (first | (with_reducible first | exact HB.out | apply below_alloc | apply pw_below_drewN | apply below_drew1 | refine below_set ?_ GE173.out | refine below_set ?_ GE174.out) | exact HB.out)⟩

/-! ### impl_Word: function 48 -/
def impl_Word.f (l0 : List (S24)) : Option (Int) := some (l0.length : Int)
set_option maxHeartbeats 8000000 in
set_option maxRecDepth 100000 in
theorem impl_Word.calls (A0 : Option Addr) (c0 : Nat) (l0 : List (S24)) (r : Int) (w : World) (hr0 : Kd.C k24 w A0 l0.length l0) (hc0 : l0.length ≤ c0) (h : impl_Word.f l0 = some r) :
  Calls Try.prog 48 #[.slice A0 l0.length c0] w fun e w' => e = .returned (.int .i64 r) ∧ Drawn0 w w' := by
 have HR0 := Aside0.mk hr0
 have HC0 := Aside0.mk hc0
 clear hr0 hc0
 have H : (some (l0.length : Int)) = some r := h
 clear h
 obtain rfl := Option.some.inj H
 go_enter Try.func48, Try.ntmps48
 go_wp2
 go_ret
 exact ⟨by first | rfl | (simp; done) | (simp [*]; done), by repeat (first | exact Drawn0.refl _ | apply Drawn0.step)⟩

end Go.Proofs.Yteohhkfeeeifaaa.M
