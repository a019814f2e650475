-- By this seat's own program over the kit's printer (arrays, functions told by hand); nothing of it is trusted: the kernel checks it.
import Derived.Test.YteohhkfeeeifaaaMx0
import Derived.Test.YteohhkfeeeifaaaMx7
namespace Go.Proofs.Yteohhkfeeeifaaa.M
open Go.RowKit Go.Proofs.YteohhkfeeeifaaaW.PrintWords Go.Proofs.YteohhkfeeeifaaaW.PrintLast Go.Proofs.YteohhkfeeeifaaaW.PrintMore
attribute [local go_sem] max2_int min2_int max_two min_two max_three min_three max_four min_four   -- for this text's walks alone
set_option linter.unusedVariables false
set_option linter.unusedSimpArgs false

/-! ### spec_l04NextWord: function 45 -/
def spec_l04NextWord.l0 : Nat → Int → Int → Int → Int → Int → Int → Option (Int × Int × Int × Int)
 | 0, _, _, _, _, _, _ => none
 | k + 1, x0, x5, x147000, x147001, x147002, x147003 => if x5 < x0 then (if 0 ≤ x5 then (if x5 < 4 then ((spec_l04Next.f (rd [x147000, x147001, x147002, x147003] x5)).bind fun t148 => (spec_l04NextWord.l0 k x0 (wrap64 (x5 + 1)) (aup x5 0 t148 x147000) (aup x5 1 t148 x147001) (aup x5 2 t148 x147002) (aup x5 3 t148 x147003))) else (none)) else (none)) else (some (x147000, x147001, x147002, x147003))
def spec_l04NextWord.f (k : Nat) (a0 : Int) (a1_0 : Int) (a1_1 : Int) (a1_2 : Int) (a1_3 : Int) : Option (Int × Int × Int × Int) := spec_l04NextWord.l0 k a0 0 a1_0 a1_1 a1_2 a1_3
theorem spec_l04NextWord.mono_l : ∀ k, (∀ y0 y1 y2 y3 y4 y5, LeO (spec_l04NextWord.l0 k y0 y1 y2 y3 y4 y5) (spec_l04NextWord.l0 (k + 1) y0 y1 y2 y3 y4 y5))
 | 0 => fun _ _ _ _ _ _ r h => by simp [spec_l04NextWord.l0] at h
 | k + 1 => by
  have ih0 := spec_l04NextWord.mono_l k
  ·intro y0 y1 y2 y3 y4 y5
   unfold spec_l04NextWord.l0
   repeat' first
   | (with_reducible exact ih0 _ _ _ _ _ _)
   | (with_reducible exact LeO.refl _)
   | (with_reducible exact LeO.none _)
   | (with_reducible refine LeO.ite ?_ ?_)
   | (with_reducible refine LeO.bind ?_ (fun _ => ?_))
   | exact ih0 _ _ _ _ _ _
   | exact LeO.none _
   | refine LeO.ite ?_ ?_
   | refine LeO.bind ?_ (fun _ => ?_)
theorem spec_l04NextWord.mono : ∀ a0 a1 a2 a3 a4 k, LeO (spec_l04NextWord.f k a0 a1 a2 a3 a4) (spec_l04NextWord.f (k + 1) a0 a1 a2 a3 a4) := by
 intro a0 a1 a2 a3 a4 k
 have ih0 := spec_l04NextWord.mono_l k
 unfold spec_l04NextWord.f
 repeat' first
   | (with_reducible exact ih0 _ _ _ _ _ _)
   | (with_reducible exact LeO.refl _)
   | (with_reducible exact LeO.none _)
   | (with_reducible refine LeO.ite ?_ ?_)
   | (with_reducible refine LeO.bind ?_ (fun _ => ?_))
   | exact ih0 _ _ _ _ _ _
   | exact LeO.none _
   | refine LeO.ite ?_ ?_
   | refine LeO.bind ?_ (fun _ => ?_)
set_option maxHeartbeats 8000000 in
set_option maxRecDepth 100000 in
theorem spec_l04NextWord.calls (k : Nat) (a0 : Int) (a1_0 : Int) (a1_1 : Int) (a1_2 : Int) (a1_3 : Int) (r1 : Int) (r2 : Int) (r3 : Int) (r4 : Int) (w : World) (h : spec_l04NextWord.f k a0 a1_0 a1_1 a1_2 a1_3 = some (r1, r2, r3, r4)) :
  Calls Try.prog 45 #[.int .i64 a0, .agg #[.int .i8 a1_0, .int .i8 a1_1, .int .i8 a1_2, .int .i8 a1_3]] w fun e w' => e = .returned (.agg #[.int .i8 r1, .int .i8 r2, .int .i8 r3, .int .i8 r4]) ∧ Below w.heap.size w w' := by
 have hu24 := Try.underlying24
 have HB := Aside0.mk (Below.refl w.heap.size w)
 have H : (spec_l04NextWord.l0 k a0 0 a1_0 a1_1 a1_2 a1_3) = some (r1, r2, r3, r4) := h
 clear h
 have H' := Aside0.mk H
 clear H
 go_enter Try.func45, Try.ntmps45
 go_wp2_with (first | ((with_reducible refine gate_dst (N := 3) rfl ?_); refine box_event ?hg (N := 3) ?hd (cs := #[.int .i8 a1_0, .int .i8 a1_1, .int .i8 a1_2, .int .i8 a1_3]) (t := 24) ?hr ?_; (case hd => rfl); (case hg => rfl); (case hr => first | (go_simp; done) | (go_simp; rfl)); intro gb146 hg w3 hbox hb; have n0_ := Aside0.mk (below_step (bl_ HB) hb); have n1_ := Aside0.mk (hbox); have n2_ := Aside0.mk ((by rw [hg]; exact (below_size (bl_ HB)) : w.heap.size ≤ gb146)); have n3_ := Aside0.mk ((by rw [hg]; exact (below_size (bl_ HB)) : w.heap.size ≤ gb146)); clear HB; have HB := n0_; have BK146 := n1_; have GW146 := n2_; have GE146 := n3_; clear n0_ n1_ n2_ n3_; clear hb hbox hg) | ((with_reducible refine gate_dst (N := 4) rfl ?_); refine box_event ?hg (N := 4) ?hd (cs := #[.int .i8 0, .int .i8 0, .int .i8 0, .int .i8 0]) (t := 24) ?hr ?_; (case hd => rfl); (case hg => rfl); (case hr => first | (go_simp; done) | (go_simp; rfl)); intro gb147 hg w4 hbox hb; have n0_ := Aside0.mk (blk_below (g := gb146) (o := .cells #[.int .i8 a1_0, .int .i8 a1_1, .int .i8 a1_2, .int .i8 a1_3] 24 (0, 0)) (pl_ BK146) hb); have n1_ := Aside0.mk (below_step (by repeat (first | (with_reducible first | exact HB.out | apply below_alloc | apply pw_below_drewN | apply below_drew1 | refine below_set ?_ GE146.out) | exact HB.out)) hb); have n2_ := Aside0.mk (hbox); have n3_ := Aside0.mk ((by rw [hg]; exact (below_size (by repeat (first | (with_reducible first | exact HB.out | apply below_alloc | apply pw_below_drewN | apply below_drew1 | refine below_set ?_ GE146.out) | exact HB.out))) : w.heap.size ≤ gb147)); have n4_ := Aside0.mk ((by rw [hg]; exact (below_size (by repeat (first | (with_reducible first | exact HB.out | apply below_alloc | apply pw_below_drewN | apply below_drew1 | refine below_set ?_ GE146.out) | exact HB.out))) : w.heap.size ≤ gb147)); have n5_ := Aside0.mk ((by rw [hg]; exact Nat.ne_of_lt (blk_lt (g := gb146) (o := .cells #[.int .i8 a1_0, .int .i8 a1_1, .int .i8 a1_2, .int .i8 a1_3] 24 (0, 0)) (pl_ BK146)) : gb146 ≠ gb147)); have n6_ := Aside0.mk ((by rw [hg]; exact Nat.ne_of_gt (blk_lt (g := gb146) (o := .cells #[.int .i8 a1_0, .int .i8 a1_1, .int .i8 a1_2, .int .i8 a1_3] 24 (0, 0)) (pl_ BK146)) : gb147 ≠ gb146)); clear BK146; clear HB; have BK146 := n0_; have HB := n1_; have BK147 := n2_; have GW147 := n3_; have GE147 := n4_; have NB146_147 := n5_; have NB147_146 := n6_; clear n0_ n1_ n2_ n3_ n4_ n5_ n6_; clear hb hbox hg))
 go_loopg [5] k (fun kq v5 w' => ∃ (x5_1 : Int) (x147000_1 : Int) (x147001_1 : Int) (x147002_1 : Int) (x147003_1 : Int), v5 = .int .i64 x5_1 ∧ Aside0 (spec_l04NextWord.l0 kq a0 x5_1 x147000_1 x147001_1 x147002_1 x147003_1 = some (r1, r2, r3, r4)) ∧ Aside0 (kq ≤ k) ∧ Aside0 (w'.heap[gb146]? = some (.cells #[.int .i8 x147000_1, .int .i8 x147001_1, .int .i8 x147002_1, .int .i8 x147003_1] 24 (0, 0))) ∧ Aside0 (w'.heap[gb147]? = some (.cells #[.int .i8 0, .int .i8 0, .int .i8 0, .int .i8 0] 24 (0, 0))) ∧ Aside0 (Below w.heap.size w w'))
 case atStart => exact ⟨(0), (a1_0), (a1_1), (a1_2), (a1_3), (by first | rfl | (simp; done) | (simp [*]; done)), H', ⟨Nat.le_refl _⟩, ⟨pl_ BK146⟩, ⟨pl_ BK147⟩, ⟨by repeat (first | (with_reducible first | exact HB.out | apply below_alloc | apply pw_below_drewN | apply below_drew1 | refine below_set ?_ GE146.out | refine below_set ?_ GE147.out) | exact HB.out)⟩⟩
 case round =>
  clear H'
  try clear p2
  try clear c4
  obtain ⟨x5_1, x147000_1, x147001_1, x147002_1, x147003_1, rfl, HA, HK1, BK146, BK147, HB⟩ := hrel
  cases gk with
  | zero => exact absurd HA.out (by simp [spec_l04NextWord.l0])
  | succ k1 =>
   have H := HA.out
   clear HA
   simp only [spec_l04NextWord.l0] at H
   by_cases c5 : x5_1 < a0
   ·rw [if_pos c5] at H
    have c5b0 : decide (x5_1 < a0) = true := decide_eq_true c5
    clear c5
    by_cases c6 : 0 ≤ x5_1
    ·rw [if_pos c6] at H
     have c6b0 : decide (0 ≤ x5_1) = true := decide_eq_true c6
     clear c6
     by_cases c7 : x5_1 < 4
     ·rw [if_pos c7] at H
      have c7b0 : decide (x5_1 < 4) = true := decide_eq_true c7
      clear c7
      replace H := Option.bind_eq_some_iff.mp H
      obtain ⟨t148, A90, H⟩ := H
      replace H : (spec_l04NextWord.l0 k1 a0 (wrap64 (x5_1 + 1)) (aup x5_1 0 t148 x147000_1) (aup x5_1 1 t148 x147001_1) (aup x5_1 2 t148 x147002_1) (aup x5_1 3 t148 x147003_1)) = some (r1, r2, r3, r4) := H
      have A9 := Aside0.mk A90
      clear A90
      have H' := Aside0.mk H
      clear H
      have hnb12 := NB146_147.out
      have hnc12 := NB147_146.out
      have hcz13_0 : wr.cell? ⟨gb146, 0, none⟩ = some (.int .i8 x147000_1) := (blk_cell BK146.out 0).trans rfl
      have hcz13_1 : wr.cell? ⟨gb146, 1, none⟩ = some (.int .i8 x147001_1) := (blk_cell BK146.out 1).trans rfl
      have hcz13_2 : wr.cell? ⟨gb146, 2, none⟩ = some (.int .i8 x147002_1) := (blk_cell BK146.out 2).trans rfl
      have hcz13_3 : wr.cell? ⟨gb146, 3, none⟩ = some (.int .i8 x147003_1) := (blk_cell BK146.out 3).trans rfl
      have hfz13_0 := blk_frozen BK146.out 0
      have hfz13_1 := blk_frozen BK146.out 1
      have hfz13_2 := blk_frozen BK146.out 2
      have hfz13_3 := blk_frozen BK146.out 3
      have p8 : 0 ≤ (x5_1 : Int) := asm_
      have q8 : (x5_1 : Int) < 4 := asm_
      have hx8 : wr.cell? ⟨gb146, (x5_1 : Int).toNat, none⟩ = some (.int .i8 (rd [x147000_1, x147001_1, x147002_1, x147003_1] x5_1)) := ard_cell (k := .i8) (l := [x147000_1, x147001_1, x147002_1, x147003_1]) BK146.out p8 q8
      have hf8 := blk_frozen BK146.out (x5_1 : Int).toNat
      have P8 := Aside0.mk p8
      have Q8 := Aside0.mk q8
      replace p8 := eq_true p8
      replace q8 := eq_true q8
      go_wp2_with (first | ((with_reducible refine gate_callee (f := 54) rfl ?_); refine goesL_ (some 15) rfl rfl Try.func54 (by kernel_rfl) rfl #[.int .i8 (rd [x147000_1, x147001_1, x147002_1, x147003_1] x5_1)] rfl (by (try simp only [List.map_toArray, List.map_cons, List.map_nil]); first | done | rfl | (simp only [List.length_drop, List.length_take]; rfl)) ?_; (with_reducible refine (spec_l04Next.calls (rd [x147000_1, x147001_1, x147002_1, x147003_1] x5_1) t148 _ A9.out).mono ?_); rintro e w' ⟨rfl, ⟨nd, rfl⟩⟩; refine ⟨_, rfl, ?_⟩; (try (rw [drewN_self wr]; generalize hq_ : World.drewN wr _ = wr; have n0_ : Aside0 (wr.heap[gb146]? = some (.cells #[.int .i8 x147000_1, .int .i8 x147001_1, .int .i8 x147002_1, .int .i8 x147003_1] 24 (0, 0))) := ⟨by rw [← hq_]; exact (pl_ BK146)⟩; have n1_ : Aside0 (wr.heap[gb147]? = some (.cells #[.int .i8 0, .int .i8 0, .int .i8 0, .int .i8 0] 24 (0, 0))) := ⟨by rw [← hq_]; exact (pl_ BK147)⟩; have n2_ : Aside0 (Below w.heap.size w wr) := ⟨by rw [← hq_]; exact (by repeat (first | (with_reducible first | exact HB.out | apply below_alloc | apply pw_below_drewN | apply below_drew1 | refine below_set ?_ GE146.out | refine below_set ?_ GE147.out) | exact HB.out))⟩; clear BK146 BK147 HB hq_; have BK146 := n0_; have BK147 := n1_; have HB := n2_; clear n0_ n1_ n2_)); have hcz14_0 : wr.cell? ⟨gb146, 0, none⟩ = some (.int .i8 x147000_1) := (blk_cell BK146.out 0).trans rfl; have hcz14_1 : wr.cell? ⟨gb146, 1, none⟩ = some (.int .i8 x147001_1) := (blk_cell BK146.out 1).trans rfl; have hcz14_2 : wr.cell? ⟨gb146, 2, none⟩ = some (.int .i8 x147002_1) := (blk_cell BK146.out 2).trans rfl; have hcz14_3 : wr.cell? ⟨gb146, 3, none⟩ = some (.int .i8 x147003_1) := (blk_cell BK146.out 3).trans rfl; have hfz14_0 := blk_frozen BK146.out 0; have hfz14_1 := blk_frozen BK146.out 1; have hfz14_2 := blk_frozen BK146.out 2; have hfz14_3 := blk_frozen BK146.out 3; have p10 : 0 ≤ (x5_1 : Int) := asm_; have q10 : (x5_1 : Int) < 4 := asm_; have hx10 : wr.cell? ⟨gb146, (x5_1 : Int).toNat, none⟩ = some (.int .i8 (rd [x147000_1, x147001_1, x147002_1, x147003_1] x5_1)) := ard_cell (k := .i8) (l := [x147000_1, x147001_1, x147002_1, x147003_1]) BK146.out p10 q10; have hf10 := blk_frozen BK146.out (x5_1 : Int).toNat; have P10 := Aside0.mk p10; have Q10 := Aside0.mk q10; replace p10 := eq_true p10; replace q10 := eq_true q10) | ((with_reducible refine gate_store (t := 22) (p := 16) rfl ?_); refine store_event (t := 22) (p := 16) (v := ?vo_w16) (w1 := (wr.setCell ⟨gb146, (x5_1 : Int).toNat, none⟩ (.int .i8 t148))) ?hg ?ho ?hn ?hr ?_; (case ho => rfl); (case hg => rfl); (case hn => rfl); (case hr => first | (go_simp; done) | (go_simp; rfl)); intro w16 hw; have n0_ : Aside0 (w16.heap[gb146]? = some (.cells #[.int .i8 (aup x5_1 0 t148 x147000_1), .int .i8 (aup x5_1 1 t148 x147001_1), .int .i8 (aup x5_1 2 t148 x147002_1), .int .i8 (aup x5_1 3 t148 x147003_1)] 24 (0, 0))) := ⟨(by rw [hw]; exact (by (with_reducible repeat (first | refine blk_drewN ?_ _ | refine blk_drew ?_ | refine blk_alloc ?_ _)); refine blk_put (cs := #[.int .i8 x147000_1, .int .i8 x147001_1, .int .i8 x147002_1, .int .i8 x147003_1]) ?_ (x5_1 : Int).toNat _ (ups_set (k := .i8) (l := [x147000_1, x147001_1, x147002_1, x147003_1]) P10.out); (with_reducible repeat (first | refine blk_drewN ?_ _ | refine blk_drew ?_ | refine blk_alloc ?_ _)); exact BK146.out))⟩; have n1_ : Aside0 (w16.heap[gb147]? = some (.cells #[.int .i8 0, .int .i8 0, .int .i8 0, .int .i8 0] 24 (0, 0))) := ⟨(by rw [hw]; exact (by (with_reducible repeat (first | refine blk_drewN ?_ _ | refine blk_drew ?_ | refine blk_alloc ?_ _)); refine blk_far ?_ NB147_146.out _; (with_reducible repeat (first | refine blk_drewN ?_ _ | refine blk_drew ?_ | refine blk_alloc ?_ _)); exact BK147.out))⟩; have n2_ : Aside0 (Below w.heap.size w w16) := ⟨(by rw [hw]; exact (by repeat (first | (with_reducible first | exact HB.out | apply below_alloc | apply pw_below_drewN | apply below_drew1 | refine below_set ?_ GE146.out | refine below_set ?_ GE147.out) | exact HB.out)))⟩; clear hw; clear BK146; clear BK147; clear HB; have BK146 := n0_; have BK147 := n1_; have HB := n2_; clear n0_ n1_ n2_))
      go_roundg k1
      case measure => have := HK1.out; omega
      case rel => exact ⟨(wrap64 (x5_1 + 1)), (aup x5_1 0 t148 x147000_1), (aup x5_1 1 t148 x147001_1), (aup x5_1 2 t148 x147002_1), (aup x5_1 3 t148 x147003_1), (by first | rfl | (simp; done) | (simp [*]; done)), H', ⟨by have := HK1.out; omega⟩, ⟨pl_ BK146⟩, ⟨pl_ BK147⟩, ⟨by repeat (first | (with_reducible first | exact HB.out | apply below_alloc | apply pw_below_drewN | apply below_drew1 | refine below_set ?_ GE146.out | refine below_set ?_ GE147.out) | exact HB.out)⟩⟩
     ·rw [if_neg c7] at H
      exact absurd H (by simp)
    ·rw [if_neg c6] at H
     exact absurd H (by simp)
   ·rw [if_neg c5] at H
    have c5b0 : decide (x5_1 < a0) = false := decide_eq_false c5
    clear c5
    simp only [Option.some.injEq, Prod.mk.injEq] at H
    obtain ⟨rfl, rfl, rfl, rfl⟩ := H
    have hnb17 := NB146_147.out
    have hnc17 := NB147_146.out
    have hcz18_0 : wr.cell? ⟨gb146, 0, none⟩ = some (.int .i8 x147000_1) := (blk_cell BK146.out 0).trans rfl
    have hcz18_1 : wr.cell? ⟨gb146, 1, none⟩ = some (.int .i8 x147001_1) := (blk_cell BK146.out 1).trans rfl
    have hcz18_2 : wr.cell? ⟨gb146, 2, none⟩ = some (.int .i8 x147002_1) := (blk_cell BK146.out 2).trans rfl
    have hcz18_3 : wr.cell? ⟨gb146, 3, none⟩ = some (.int .i8 x147003_1) := (blk_cell BK146.out 3).trans rfl
    have hfz18_0 := blk_frozen BK146.out 0
    have hfz18_1 := blk_frozen BK146.out 1
    have hfz18_2 := blk_frozen BK146.out 2
    have hfz18_3 := blk_frozen BK146.out 3
    have hcz19_0 : wr.cell? ⟨gb147, 0, none⟩ = some (.int .i8 0) := (blk_cell BK147.out 0).trans rfl
    have hcz19_1 : wr.cell? ⟨gb147, 1, none⟩ = some (.int .i8 0) := (blk_cell BK147.out 1).trans rfl
    have hcz19_2 : wr.cell? ⟨gb147, 2, none⟩ = some (.int .i8 0) := (blk_cell BK147.out 2).trans rfl
    have hcz19_3 : wr.cell? ⟨gb147, 3, none⟩ = some (.int .i8 0) := (blk_cell BK147.out 3).trans rfl
    have hfz19_0 := blk_frozen BK147.out 0
    have hfz19_1 := blk_frozen BK147.out 1
    have hfz19_2 := blk_frozen BK147.out 2
    have hfz19_3 := blk_frozen BK147.out 3
    go_wp2
    refine bodyPost_ret (results_cell_row rfl _ _ gb147 24 #[.int .i8 x147000_1, .int .i8 x147001_1, .int .i8 x147002_1, .int .i8 x147003_1] (0, 0) _ rfl (by (with_reducible repeat (first | refine blk_drewN ?_ _ | refine blk_drew ?_ | refine blk_alloc ?_ _)); refine blk_put (cs := #[.int .i8 x147000_1, .int .i8 x147001_1, .int .i8 x147002_1, .int .i8 0]) ?_ 3 _ rfl; (with_reducible repeat (first | refine blk_drewN ?_ _ | refine blk_drew ?_ | refine blk_alloc ?_ _)); refine blk_put (cs := #[.int .i8 x147000_1, .int .i8 x147001_1, .int .i8 0, .int .i8 0]) ?_ 2 _ rfl; (with_reducible repeat (first | refine blk_drewN ?_ _ | refine blk_drew ?_ | refine blk_alloc ?_ _)); refine blk_put (cs := #[.int .i8 x147000_1, .int .i8 0, .int .i8 0, .int .i8 0]) ?_ 1 _ rfl; (with_reducible repeat (first | refine blk_drewN ?_ _ | refine blk_drew ?_ | refine blk_alloc ?_ _)); refine blk_put (cs := #[.int .i8 0, .int .i8 0, .int .i8 0, .int .i8 0]) ?_ 0 _ rfl; (with_reducible repeat (first | refine blk_drewN ?_ _ | refine blk_drew ?_ | refine blk_alloc ?_ _)); exact BK147.out) Try.underlying24 rfl (by kernel_rfl)) rfl ?_
    exact ⟨by first | rfl | (simp [errW_none, errW_some] <;> rfl) | (simp [*, errW_none, errW_some] <;> rfl), by repeat (first | (with_reducible first | exact HB.out | apply below_alloc | apply pw_below_drewN | apply below_drew1 | refine below_set ?_ GE146.out | refine below_set ?_ GE147.out) | exact HB.out)⟩

end Go.Proofs.Yteohhkfeeeifaaa.M
