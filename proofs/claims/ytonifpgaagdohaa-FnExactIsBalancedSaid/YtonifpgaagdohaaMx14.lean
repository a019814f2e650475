-- By this seat's own program over the kit's printer (arrays, functions told by hand); nothing of it is trusted: the kernel checks it.
import Derived.Test.YtonifpgaagdohaaMx0
import Derived.Test.YtonifpgaagdohaaMx2
import Derived.Test.YtonifpgaagdohaaMx11
namespace Go.Proofs.Ytonifpgaagdohaa.M
open Go.RowKit Go.Proofs.YtonifpgaagdohaaW.PrintWords Go.Proofs.YtonifpgaagdohaaW.PrintLast Go.Proofs.YtonifpgaagdohaaW.PrintMore
attribute [local go_sem] max2_int min2_int max_two min_two max_three min_three max_four min_four   -- for this text's walks alone
set_option linter.unusedVariables false
set_option linter.unusedSimpArgs false

attribute [local go_sem high] eqA70
/-! ### impl_Fixed_isBalanced: function 43 -/
mutual
def impl_Fixed_isBalanced.l0 : Nat → List (S40) → Int → Int → Int → Int → Int → Int → Option (Bool)
  | 0, _, _, _, _, _, _, _ => none
  | k + 1, x10, x11, x12, x237000, x237001, x237002, x237003 => if x12 < x11 then (if 0 ≤ x12 then (if x12 < (x10.length : Int) then (impl_Fixed_isBalanced.l1 k x10 x11 x12 0 ((rd_T40 x10 x12).f0) ((rd_T40 x10 x12).f1) ((rd_T40 x10 x12).f2) ((rd_T40 x10 x12).f3) x237000 x237001 x237002 x237003) else (none)) else (none)) else (some (x237000 == 0 && (x237001 == 0 && (x237002 == 0 && (x237003 == 0)))))
def impl_Fixed_isBalanced.l1 : Nat → List (S40) → Int → Int → Int → Int → Int → Int → Int → Int → Int → Int → Int → Option (Bool)
  | 0, _, _, _, _, _, _, _, _, _, _, _, _ => none
  | k + 1, x10, x11, x12, x17, x508, x509, x510, x511, x237000, x237001, x237002, x237003 => if x17 < 4 then (if 0 ≤ x17 then (impl_Fixed_isBalanced.l1 k x10 x11 x12 (wrap64 (x17 + 1)) x508 x509 x510 x511 (aup x17 0 (wrap64 ((rd [x237000, x237001, x237002, x237003] x17) + (wrap64 (rd [x508, x509, x510, x511] x17)))) x237000) (aup x17 1 (wrap64 ((rd [x237000, x237001, x237002, x237003] x17) + (wrap64 (rd [x508, x509, x510, x511] x17)))) x237001) (aup x17 2 (wrap64 ((rd [x237000, x237001, x237002, x237003] x17) + (wrap64 (rd [x508, x509, x510, x511] x17)))) x237002) (aup x17 3 (wrap64 ((rd [x237000, x237001, x237002, x237003] x17) + (wrap64 (rd [x508, x509, x510, x511] x17)))) x237003)) else (none)) else (impl_Fixed_isBalanced.l0 k x10 x11 (wrap64 (x12 + 1)) x237000 x237001 x237002 x237003)
end
def impl_Fixed_isBalanced.f (k : Nat) (a0_0 : Int) (a0_1 : Int) (l0_2 : List (S40)) : Option (Bool) := impl_Fixed_isBalanced.l0 k l0_2 (l0_2.length : Int) 0 0 0 0 0
theorem impl_Fixed_isBalanced.mono_l : ∀ k, (∀ y0 y1 y2 y3 y4 y5 y6, LeO (impl_Fixed_isBalanced.l0 k y0 y1 y2 y3 y4 y5 y6) (impl_Fixed_isBalanced.l0 (k + 1) y0 y1 y2 y3 y4 y5 y6)) ∧ (∀ y0 y1 y2 y3 y4 y5 y6 y7 y8 y9 y10 y11, LeO (impl_Fixed_isBalanced.l1 k y0 y1 y2 y3 y4 y5 y6 y7 y8 y9 y10 y11) (impl_Fixed_isBalanced.l1 (k + 1) y0 y1 y2 y3 y4 y5 y6 y7 y8 y9 y10 y11))
  | 0 => ⟨fun _ _ _ _ _ _ _ r h => by simp [impl_Fixed_isBalanced.l0] at h, fun _ _ _ _ _ _ _ _ _ _ _ _ r h => by simp [impl_Fixed_isBalanced.l1] at h⟩
  | k + 1 => by
    obtain ⟨ih0, ih1⟩ := impl_Fixed_isBalanced.mono_l k
    refine ⟨?_, ?_⟩
    · intro y0 y1 y2 y3 y4 y5 y6
      unfold impl_Fixed_isBalanced.l0
      repeat' first
      | (with_reducible exact ih0 _ _ _ _ _ _ _)
      | (with_reducible exact ih1 _ _ _ _ _ _ _ _ _ _ _ _)
      | (with_reducible exact LeO.refl _)
      | (with_reducible exact LeO.none _)
      | (with_reducible refine LeO.ite ?_ ?_)
      | (with_reducible refine LeO.bind ?_ (fun _ => ?_))
      | exact ih0 _ _ _ _ _ _ _
      | exact ih1 _ _ _ _ _ _ _ _ _ _ _ _
      | exact LeO.none _
      | refine LeO.ite ?_ ?_
      | refine LeO.bind ?_ (fun _ => ?_)
    · intro y0 y1 y2 y3 y4 y5 y6 y7 y8 y9 y10 y11
      unfold impl_Fixed_isBalanced.l1
      repeat' first
      | (with_reducible exact ih0 _ _ _ _ _ _ _)
      | (with_reducible exact ih1 _ _ _ _ _ _ _ _ _ _ _ _)
      | (with_reducible exact LeO.refl _)
      | (with_reducible exact LeO.none _)
      | (with_reducible refine LeO.ite ?_ ?_)
      | (with_reducible refine LeO.bind ?_ (fun _ => ?_))
      | exact ih0 _ _ _ _ _ _ _
      | exact ih1 _ _ _ _ _ _ _ _ _ _ _ _
      | exact LeO.none _
      | refine LeO.ite ?_ ?_
      | refine LeO.bind ?_ (fun _ => ?_)
theorem impl_Fixed_isBalanced.mono : ∀ a0 a1 a2 k, LeO (impl_Fixed_isBalanced.f k a0 a1 a2) (impl_Fixed_isBalanced.f (k + 1) a0 a1 a2) := by
  intro a0 a1 a2 k
  obtain ⟨ih0, ih1⟩ := impl_Fixed_isBalanced.mono_l k
  unfold impl_Fixed_isBalanced.f
  repeat' first
      | (with_reducible exact ih0 _ _ _ _ _ _ _)
      | (with_reducible exact ih1 _ _ _ _ _ _ _ _ _ _ _ _)
      | (with_reducible exact LeO.refl _)
      | (with_reducible exact LeO.none _)
      | (with_reducible refine LeO.ite ?_ ?_)
      | (with_reducible refine LeO.bind ?_ (fun _ => ?_))
      | exact ih0 _ _ _ _ _ _ _
      | exact ih1 _ _ _ _ _ _ _ _ _ _ _ _
      | exact LeO.none _
      | refine LeO.ite ?_ ?_
      | refine LeO.bind ?_ (fun _ => ?_)
set_option maxHeartbeats 8000000 in
set_option maxRecDepth 100000 in
theorem impl_Fixed_isBalanced.calls (k : Nat) (a0_0 : Int) (a0_1 : Int) (A0_2 : Option Addr) (c0_2 : Nat) (l0_2 : List (S40)) (r : Bool) (w : World) (hr0_2 : Kd.C k40 w A0_2 l0_2.length l0_2) (hc0_2 : l0_2.length ≤ c0_2) (h : impl_Fixed_isBalanced.f k a0_0 a0_1 l0_2 = some r) :
    Calls Try.prog 43 #[.agg #[.int .i8 a0_0, .int .i8 a0_1, .slice A0_2 l0_2.length c0_2]] w fun e w' => e = .returned (.bool r) ∧ Below w.heap.size w w' := by
  have hu30 := Try.underlying30
  have hu70 := Try.underlying70
  have hu40 := Try.underlying40
  have HR0_2 := Aside0.mk hr0_2
  have HC0_2 := Aside0.mk hc0_2
  clear hr0_2 hc0_2
  have HB := Aside0.mk (Below.refl w.heap.size w)
  have H : (impl_Fixed_isBalanced.l0 k l0_2 (l0_2.length : Int) 0 0 0 0 0) = some r := h
  clear h
  have H' := Aside0.mk H
  clear H
  go_enter Try.func43, Try.ntmps43
  go_wp2_with (first | ((with_reducible refine gate_dst (N := 1) rfl ?_); refine box_event ?hg (N := 1) ?hd (cs := #[.int .i8 a0_0, .int .i8 a0_1, .slice A0_2 l0_2.length c0_2]) (t := 30) ?hr ?_; (case hd => rfl); (case hg => rfl); (case hr => first | (go_simp; done) | (go_simp; rfl)); intro gb235 hg w2 hbox hb; have n0_ := Aside0.mk (below_step (by repeat (first | (with_reducible first | exact HB.out | apply below_alloc | apply pw_below_drewN | apply below_drew1) | exact HB.out)) hb); have n1_ := Aside0.mk (hbox); have n2_ := Aside0.mk ((by rw [hg]; exact (below_size (by repeat (first | (with_reducible first | exact HB.out | apply below_alloc | apply pw_below_drewN | apply below_drew1) | exact HB.out))) : w.heap.size ≤ gb235)); have n3_ := Aside0.mk ((by rw [hg]; exact (below_size (by repeat (first | (with_reducible first | exact HB.out | apply below_alloc | apply pw_below_drewN | apply below_drew1) | exact HB.out))) : w.heap.size ≤ gb235)); clear HB; have HB := n0_; have BK235 := n1_; have GW235 := n2_; have GE235 := n3_; clear n0_ n1_ n2_ n3_; clear hb hbox hg) | ((with_reducible refine gate_dst (N := 3) rfl ?_); refine box_event ?hg (N := 3) ?hd (cs := #[.int .i64 0, .int .i64 0, .int .i64 0, .int .i64 0]) (t := 70) ?hr ?_; (case hd => rfl); (case hg => rfl); (case hr => first | (go_simp; done) | (go_simp; rfl)); intro gb236 hg w3 hbox hb; have n0_ := Aside0.mk (blk_below (g := gb235) (o := .cells #[.int .i8 a0_0, .int .i8 a0_1, .slice A0_2 l0_2.length c0_2] 30 (0, 0)) (by (with_reducible repeat (first | refine blk_drewN ?_ _ | refine blk_drew ?_ | refine blk_alloc ?_ _)); exact BK235.out) hb); have n1_ := Aside0.mk (below_step (by repeat (first | (with_reducible first | exact HB.out | apply below_alloc | apply pw_below_drewN | apply below_drew1 | refine below_set ?_ GE235.out) | exact HB.out)) hb); have n2_ := Aside0.mk (hbox); have n3_ := Aside0.mk ((by rw [hg]; exact (below_size (by repeat (first | (with_reducible first | exact HB.out | apply below_alloc | apply pw_below_drewN | apply below_drew1 | refine below_set ?_ GE235.out) | exact HB.out))) : w.heap.size ≤ gb236)); have n4_ := Aside0.mk ((by rw [hg]; exact (below_size (by repeat (first | (with_reducible first | exact HB.out | apply below_alloc | apply pw_below_drewN | apply below_drew1 | refine below_set ?_ GE235.out) | exact HB.out))) : w.heap.size ≤ gb236)); have n5_ := Aside0.mk ((by rw [hg]; exact Nat.ne_of_lt (blk_lt (g := gb235) (o := .cells #[.int .i8 a0_0, .int .i8 a0_1, .slice A0_2 l0_2.length c0_2] 30 (0, 0)) (by (with_reducible repeat (first | refine blk_drewN ?_ _ | refine blk_drew ?_ | refine blk_alloc ?_ _)); exact BK235.out)) : gb235 ≠ gb236)); have n6_ := Aside0.mk ((by rw [hg]; exact Nat.ne_of_gt (blk_lt (g := gb235) (o := .cells #[.int .i8 a0_0, .int .i8 a0_1, .slice A0_2 l0_2.length c0_2] 30 (0, 0)) (by (with_reducible repeat (first | refine blk_drewN ?_ _ | refine blk_drew ?_ | refine blk_alloc ?_ _)); exact BK235.out)) : gb236 ≠ gb235)); clear BK235; clear HB; have BK235 := n0_; have HB := n1_; have BK236 := n2_; have GW236 := n3_; have GE236 := n4_; have NB235_236 := n5_; have NB236_235 := n6_; clear n0_ n1_ n2_ n3_ n4_ n5_ n6_; clear hb hbox hg; have hnb4 := NB236_235.out; have hnc4 := NB235_236.out; have hcz5_0 : w3.cell? ⟨gb236, 0, none⟩ = some (.int .i64 0) := (blk_cell BK236.out 0).trans rfl; have hcz5_1 : w3.cell? ⟨gb236, 1, none⟩ = some (.int .i64 0) := (blk_cell BK236.out 1).trans rfl; have hcz5_2 : w3.cell? ⟨gb236, 2, none⟩ = some (.int .i64 0) := (blk_cell BK236.out 2).trans rfl; have hcz5_3 : w3.cell? ⟨gb236, 3, none⟩ = some (.int .i64 0) := (blk_cell BK236.out 3).trans rfl; have hfz5_0 := blk_frozen BK236.out 0; have hfz5_1 := blk_frozen BK236.out 1; have hfz5_2 := blk_frozen BK236.out 2; have hfz5_3 := blk_frozen BK236.out 3; have hcz6_0 : w3.cell? ⟨gb235, 0, none⟩ = some (.int .i8 a0_0) := (blk_cell BK235.out 0).trans rfl; have hcz6_1 : w3.cell? ⟨gb235, 1, none⟩ = some (.int .i8 a0_1) := (blk_cell BK235.out 1).trans rfl; have hcz6_2 : w3.cell? ⟨gb235, 2, none⟩ = some (.slice A0_2 l0_2.length c0_2) := (blk_cell BK235.out 2).trans rfl; have hfz6_0 := blk_frozen BK235.out 0; have hfz6_1 := blk_frozen BK235.out 1; have hfz6_2 := blk_frozen BK235.out 2))
  go_loopg [12] k (fun kq v12 w' => ∃ (x12_1 : Int) (x237000_1 : Int) (x237001_1 : Int) (x237002_1 : Int) (x237003_1 : Int), v12 = .int .i64 x12_1 ∧ Aside0 (impl_Fixed_isBalanced.l0 kq l0_2 (l0_2.length : Int) x12_1 x237000_1 x237001_1 x237002_1 x237003_1 = some r) ∧ Aside0 (kq ≤ k) ∧ Aside0 (w'.heap[gb235]? = some (.cells #[.int .i8 a0_0, .int .i8 a0_1, (.slice A0_2 l0_2.length c0_2)] 30 (0, 0))) ∧ Aside0 (w'.heap[gb236]? = some (.cells #[.int .i64 x237000_1, .int .i64 x237001_1, .int .i64 x237002_1, .int .i64 x237003_1] 70 (0, 0))) ∧ Aside0 (Below w.heap.size w w'))
  case atStart => exact ⟨(0), (0), (0), (0), (0), (by first | rfl | (simp; done) | (simp [*]; done)), H', ⟨Nat.le_refl _⟩, ⟨by (with_reducible repeat (first | refine blk_drewN ?_ _ | refine blk_drew ?_ | refine blk_alloc ?_ _)); refine blk_far ?_ NB235_236.out _; (with_reducible repeat (first | refine blk_drewN ?_ _ | refine blk_drew ?_ | refine blk_alloc ?_ _)); refine blk_far ?_ NB235_236.out _; (with_reducible repeat (first | refine blk_drewN ?_ _ | refine blk_drew ?_ | refine blk_alloc ?_ _)); refine blk_far ?_ NB235_236.out _; (with_reducible repeat (first | refine blk_drewN ?_ _ | refine blk_drew ?_ | refine blk_alloc ?_ _)); refine blk_far ?_ NB235_236.out _; (with_reducible repeat (first | refine blk_drewN ?_ _ | refine blk_drew ?_ | refine blk_alloc ?_ _)); exact BK235.out⟩, ⟨by (with_reducible repeat (first | refine blk_drewN ?_ _ | refine blk_drew ?_ | refine blk_alloc ?_ _)); refine blk_put (cs := #[.int .i64 0, .int .i64 0, .int .i64 0, .int .i64 0]) ?_ 3 _ rfl; (with_reducible repeat (first | refine blk_drewN ?_ _ | refine blk_drew ?_ | refine blk_alloc ?_ _)); refine blk_put (cs := #[.int .i64 0, .int .i64 0, .int .i64 0, .int .i64 0]) ?_ 2 _ rfl; (with_reducible repeat (first | refine blk_drewN ?_ _ | refine blk_drew ?_ | refine blk_alloc ?_ _)); refine blk_put (cs := #[.int .i64 0, .int .i64 0, .int .i64 0, .int .i64 0]) ?_ 1 _ rfl; (with_reducible repeat (first | refine blk_drewN ?_ _ | refine blk_drew ?_ | refine blk_alloc ?_ _)); refine blk_put (cs := #[.int .i64 0, .int .i64 0, .int .i64 0, .int .i64 0]) ?_ 0 _ rfl; (with_reducible repeat (first | refine blk_drewN ?_ _ | refine blk_drew ?_ | refine blk_alloc ?_ _)); exact BK236.out⟩, ⟨by repeat (first | (with_reducible first | exact HB.out | apply below_alloc | apply pw_below_drewN | apply below_drew1 | refine below_set ?_ GE235.out | refine below_set ?_ GE236.out) | exact HB.out)⟩⟩
  case round =>
    clear H'
    try clear p2
    try clear c4
    try clear hcz5_0
    try clear hcz5_1
    try clear hcz5_2
    try clear hcz5_3
    try clear hcz6_0
    try clear hcz6_1
    try clear hcz6_2
    try clear hfz5_0
    try clear hfz5_1
    try clear hfz5_2
    try clear hfz5_3
    try clear hfz6_0
    try clear hfz6_1
    try clear hfz6_2
    obtain ⟨x12_1, x237000_1, x237001_1, x237002_1, x237003_1, rfl, HA, HK1, BK235, BK236, HB⟩ := hrel
    cases gk with
    | zero => exact absurd HA.out (by simp [impl_Fixed_isBalanced.l0])
    | succ k1 =>
      have H := HA.out
      clear HA
      simp only [impl_Fixed_isBalanced.l0] at H
      by_cases c7 : x12_1 < (l0_2.length : Int)
      · rw [if_pos c7] at H
        have c7b0 : decide (x12_1 < (l0_2.length : Int)) = true := decide_eq_true c7
        clear c7
        by_cases c8 : 0 ≤ x12_1
        · rw [if_pos c8] at H
          have c8b0 : decide (0 ≤ x12_1) = true := decide_eq_true c8
          clear c8
          by_cases c9 : x12_1 < (l0_2.length : Int)
          · rw [if_pos c9] at H
            have c9b0 : decide (x12_1 < (l0_2.length : Int)) = true := decide_eq_true c9
            clear c9
            have H' := Aside0.mk H
            clear H
            have p237 : 0 ≤ (x12_1 : Int) := of_decide_eq_true (by first | (with_reducible assumption) | assumption)
            have q237 : x12_1 < (l0_2.length : Int) := of_decide_eq_true (by first | (with_reducible assumption) | assumption)
            obtain ⟨ad237, e237, hx237_0, hx237_1, hx237_2, hx237_3⟩ := at_T40 HR0_2.out x12_1 p237 q237
            cases e237
            replace hx237_0 := (HB.out.cell (World.block_lt_of_cell? w _ hx237_0)).trans hx237_0
            replace hx237_1 := (HB.out.cell (World.block_lt_of_cell? w _ hx237_1)).trans hx237_1
            replace hx237_2 := (HB.out.cell (World.block_lt_of_cell? w _ hx237_2)).trans hx237_2
            replace hx237_3 := (HB.out.cell (World.block_lt_of_cell? w _ hx237_3)).trans hx237_3
            replace p237 := eq_true p237
            replace q237 := eq_true q237
            go_wp2_with (first | ((with_reducible refine gate_dst (N := 5) rfl ?_); refine box_event ?hg (N := 5) ?hd (cs := #[.int .i8 0, .int .i8 0, .int .i8 0, .int .i8 0]) (t := 40) ?hr ?_; (case hd => rfl); (case hg => rfl); (case hr => first | (go_simp; done) | (go_simp; rfl)); intro gb238 hg w10 hbox hb; have n0_ := Aside0.mk (blk_below (g := gb235) (o := .cells #[.int .i8 a0_0, .int .i8 a0_1, .slice (some ad237) l0_2.length c0_2] 30 (0, 0)) (by (with_reducible repeat (first | refine blk_drewN ?_ _ | refine blk_drew ?_ | refine blk_alloc ?_ _)); exact BK235.out) hb); have n1_ := Aside0.mk (blk_below (g := gb236) (o := .cells #[.int .i64 x237000_1, .int .i64 x237001_1, .int .i64 x237002_1, .int .i64 x237003_1] 70 (0, 0)) (by (with_reducible repeat (first | refine blk_drewN ?_ _ | refine blk_drew ?_ | refine blk_alloc ?_ _)); exact BK236.out) hb); have n2_ := Aside0.mk (below_step (by repeat (first | (with_reducible first | exact HB.out | apply below_alloc | apply pw_below_drewN | apply below_drew1 | refine below_set ?_ GE235.out | refine below_set ?_ GE236.out) | exact HB.out)) hb); have n3_ := Aside0.mk (hbox); have n4_ := Aside0.mk ((by rw [hg]; exact (below_size (by repeat (first | (with_reducible first | exact HB.out | apply below_alloc | apply pw_below_drewN | apply below_drew1 | refine below_set ?_ GE235.out | refine below_set ?_ GE236.out) | exact HB.out))) : w.heap.size ≤ gb238)); have n5_ := Aside0.mk ((by rw [hg]; exact (below_size (by repeat (first | (with_reducible first | exact HB.out | apply below_alloc | apply pw_below_drewN | apply below_drew1 | refine below_set ?_ GE235.out | refine below_set ?_ GE236.out) | exact HB.out))) : w.heap.size ≤ gb238)); have n6_ := Aside0.mk ((by rw [hg]; exact Nat.ne_of_lt (blk_lt (g := gb235) (o := .cells #[.int .i8 a0_0, .int .i8 a0_1, .slice (some ad237) l0_2.length c0_2] 30 (0, 0)) (by (with_reducible repeat (first | refine blk_drewN ?_ _ | refine blk_drew ?_ | refine blk_alloc ?_ _)); exact BK235.out)) : gb235 ≠ gb238)); have n7_ := Aside0.mk ((by rw [hg]; exact Nat.ne_of_gt (blk_lt (g := gb235) (o := .cells #[.int .i8 a0_0, .int .i8 a0_1, .slice (some ad237) l0_2.length c0_2] 30 (0, 0)) (by (with_reducible repeat (first | refine blk_drewN ?_ _ | refine blk_drew ?_ | refine blk_alloc ?_ _)); exact BK235.out)) : gb238 ≠ gb235)); have n8_ := Aside0.mk ((by rw [hg]; exact Nat.ne_of_lt (blk_lt (g := gb236) (o := .cells #[.int .i64 x237000_1, .int .i64 x237001_1, .int .i64 x237002_1, .int .i64 x237003_1] 70 (0, 0)) (by (with_reducible repeat (first | refine blk_drewN ?_ _ | refine blk_drew ?_ | refine blk_alloc ?_ _)); exact BK236.out)) : gb236 ≠ gb238)); have n9_ := Aside0.mk ((by rw [hg]; exact Nat.ne_of_gt (blk_lt (g := gb236) (o := .cells #[.int .i64 x237000_1, .int .i64 x237001_1, .int .i64 x237002_1, .int .i64 x237003_1] 70 (0, 0)) (by (with_reducible repeat (first | refine blk_drewN ?_ _ | refine blk_drew ?_ | refine blk_alloc ?_ _)); exact BK236.out)) : gb238 ≠ gb236)); clear BK235; clear BK236; clear HB; have BK235 := n0_; have BK236 := n1_; have HB := n2_; have BK238 := n3_; have GW238 := n4_; have GE238 := n5_; have NB235_238 := n6_; have NB238_235 := n7_; have NB236_238 := n8_; have NB238_236 := n9_; clear n0_ n1_ n2_ n3_ n4_ n5_ n6_ n7_ n8_ n9_; clear hb hbox hg; have hnb11 := NB238_235.out; have hnc11 := NB235_238.out; have hnb12 := NB238_236.out; have hnc12 := NB236_238.out; have hcz13_0 : w10.cell? ⟨gb238, 0, none⟩ = some (.int .i8 0) := (blk_cell BK238.out 0).trans rfl; have hcz13_1 : w10.cell? ⟨gb238, 1, none⟩ = some (.int .i8 0) := (blk_cell BK238.out 1).trans rfl; have hcz13_2 : w10.cell? ⟨gb238, 2, none⟩ = some (.int .i8 0) := (blk_cell BK238.out 2).trans rfl; have hcz13_3 : w10.cell? ⟨gb238, 3, none⟩ = some (.int .i8 0) := (blk_cell BK238.out 3).trans rfl; have hfz13_0 := blk_frozen BK238.out 0; have hfz13_1 := blk_frozen BK238.out 1; have hfz13_2 := blk_frozen BK238.out 2; have hfz13_3 := blk_frozen BK238.out 3))
            go_loopg [17] k1 (fun kq v17 w' => ∃ (x17_2 : Int) (x237000_2 : Int) (x237001_2 : Int) (x237002_2 : Int) (x237003_2 : Int), v17 = .int .i64 x17_2 ∧ Aside0 (impl_Fixed_isBalanced.l1 kq l0_2 (l0_2.length : Int) x12_1 x17_2 ((rd_T40 l0_2 x12_1).f0) ((rd_T40 l0_2 x12_1).f1) ((rd_T40 l0_2 x12_1).f2) ((rd_T40 l0_2 x12_1).f3) x237000_2 x237001_2 x237002_2 x237003_2 = some r) ∧ Aside0 (kq ≤ k1) ∧ Aside0 (w'.heap[gb235]? = some (.cells #[.int .i8 a0_0, .int .i8 a0_1, (.slice (some ad237) l0_2.length c0_2)] 30 (0, 0))) ∧ Aside0 (w'.heap[gb236]? = some (.cells #[.int .i64 x237000_2, .int .i64 x237001_2, .int .i64 x237002_2, .int .i64 x237003_2] 70 (0, 0))) ∧ Aside0 (w'.heap[gb238]? = some (.cells #[.int .i8 ((rd_T40 l0_2 x12_1).f0), .int .i8 ((rd_T40 l0_2 x12_1).f1), .int .i8 ((rd_T40 l0_2 x12_1).f2), .int .i8 ((rd_T40 l0_2 x12_1).f3)] 40 (0, 0))) ∧ Aside0 (Below w.heap.size w w'))
            case atStart => exact ⟨(0), (x237000_1), (x237001_1), (x237002_1), (x237003_1), (by first | rfl | (simp; done) | (simp [*]; done)), H', ⟨Nat.le_refl _⟩, ⟨by (with_reducible repeat (first | refine blk_drewN ?_ _ | refine blk_drew ?_ | refine blk_alloc ?_ _)); refine blk_far ?_ NB235_238.out _; (with_reducible repeat (first | refine blk_drewN ?_ _ | refine blk_drew ?_ | refine blk_alloc ?_ _)); refine blk_far ?_ NB235_238.out _; (with_reducible repeat (first | refine blk_drewN ?_ _ | refine blk_drew ?_ | refine blk_alloc ?_ _)); refine blk_far ?_ NB235_238.out _; (with_reducible repeat (first | refine blk_drewN ?_ _ | refine blk_drew ?_ | refine blk_alloc ?_ _)); refine blk_far ?_ NB235_238.out _; (with_reducible repeat (first | refine blk_drewN ?_ _ | refine blk_drew ?_ | refine blk_alloc ?_ _)); exact BK235.out⟩, ⟨by (with_reducible repeat (first | refine blk_drewN ?_ _ | refine blk_drew ?_ | refine blk_alloc ?_ _)); refine blk_far ?_ NB236_238.out _; (with_reducible repeat (first | refine blk_drewN ?_ _ | refine blk_drew ?_ | refine blk_alloc ?_ _)); refine blk_far ?_ NB236_238.out _; (with_reducible repeat (first | refine blk_drewN ?_ _ | refine blk_drew ?_ | refine blk_alloc ?_ _)); refine blk_far ?_ NB236_238.out _; (with_reducible repeat (first | refine blk_drewN ?_ _ | refine blk_drew ?_ | refine blk_alloc ?_ _)); refine blk_far ?_ NB236_238.out _; (with_reducible repeat (first | refine blk_drewN ?_ _ | refine blk_drew ?_ | refine blk_alloc ?_ _)); exact BK236.out⟩, ⟨by (with_reducible repeat (first | refine blk_drewN ?_ _ | refine blk_drew ?_ | refine blk_alloc ?_ _)); refine blk_put (cs := #[.int .i8 ((rd_T40 l0_2 x12_1).f0), .int .i8 ((rd_T40 l0_2 x12_1).f1), .int .i8 ((rd_T40 l0_2 x12_1).f2), .int .i8 0]) ?_ 3 _ rfl; (with_reducible repeat (first | refine blk_drewN ?_ _ | refine blk_drew ?_ | refine blk_alloc ?_ _)); refine blk_put (cs := #[.int .i8 ((rd_T40 l0_2 x12_1).f0), .int .i8 ((rd_T40 l0_2 x12_1).f1), .int .i8 0, .int .i8 0]) ?_ 2 _ rfl; (with_reducible repeat (first | refine blk_drewN ?_ _ | refine blk_drew ?_ | refine blk_alloc ?_ _)); refine blk_put (cs := #[.int .i8 ((rd_T40 l0_2 x12_1).f0), .int .i8 0, .int .i8 0, .int .i8 0]) ?_ 1 _ rfl; (with_reducible repeat (first | refine blk_drewN ?_ _ | refine blk_drew ?_ | refine blk_alloc ?_ _)); refine blk_put (cs := #[.int .i8 0, .int .i8 0, .int .i8 0, .int .i8 0]) ?_ 0 _ rfl; (with_reducible repeat (first | refine blk_drewN ?_ _ | refine blk_drew ?_ | refine blk_alloc ?_ _)); exact BK238.out⟩, ⟨by repeat (first | (with_reducible first | exact HB.out | apply below_alloc | apply pw_below_drewN | apply below_drew1 | refine below_set ?_ GE235.out | refine below_set ?_ GE236.out | refine below_set ?_ GE238.out) | exact HB.out)⟩⟩
            case round =>
              clear H'
              try clear c1
              try clear p2
              try clear q2
              try clear hx2
              try clear c4
              try clear c7
              try clear c7b0
              try clear c8
              try clear c8b0
              try clear c9
              try clear c9b0
              try clear c11
              try clear c12
              try clear hcz13_0
              try clear hcz13_1
              try clear hcz13_2
              try clear hcz13_3
              try clear hcz5_0
              try clear hcz5_1
              try clear hcz5_2
              try clear hcz5_3
              try clear hcz6_0
              try clear hcz6_1
              try clear hcz6_2
              try clear hfz13_0
              try clear hfz13_1
              try clear hfz13_2
              try clear hfz13_3
              try clear hfz5_0
              try clear hfz5_1
              try clear hfz5_2
              try clear hfz5_3
              try clear hfz6_0
              try clear hfz6_1
              try clear hfz6_2
              try clear hx237_0
              try clear hx237_1
              try clear hx237_2
              try clear hx237_3
              try clear p2
              try clear p237
              try clear q237
              obtain ⟨x17_2, x237000_2, x237001_2, x237002_2, x237003_2, rfl, HA, HK2, BK235, BK236, BK238, HB⟩ := hrel
              cases gk with
              | zero => exact absurd HA.out (by simp [impl_Fixed_isBalanced.l1])
              | succ k2 =>
                have H := HA.out
                clear HA
                simp only [impl_Fixed_isBalanced.l1] at H
                by_cases c14 : x17_2 < 4
                · rw [if_pos c14] at H
                  have c14b0 : decide (x17_2 < 4) = true := decide_eq_true c14
                  clear c14
                  by_cases c15 : 0 ≤ x17_2
                  · rw [if_pos c15] at H
                    have c15b0 : decide (0 ≤ x17_2) = true := decide_eq_true c15
                    clear c15
                    have H' := Aside0.mk H
                    clear H
                    have p16 : 0 ≤ (x17_2 : Int) := of_decide_eq_true (by first | (with_reducible assumption) | assumption)
                    have q16 : (x17_2 : Int) < 4 := of_decide_eq_true (by first | (with_reducible assumption) | assumption)
                    have hxv16 : ∀ W_ : World, (Instr.index 40 (.agg #[.int .i8 ((rd_T40 l0_2 x12_1).f0), .int .i8 ((rd_T40 l0_2 x12_1).f1), .int .i8 ((rd_T40 l0_2 x12_1).f2), .int .i8 ((rd_T40 l0_2 x12_1).f3)]) (.int .i64 x17_2)).run Try.prog W_ = .ok (.int .i8 (rd [((rd_T40 l0_2 x12_1).f0), ((rd_T40 l0_2 x12_1).f1), ((rd_T40 l0_2 x12_1).f2), ((rd_T40 l0_2 x12_1).f3)] x17_2)) W_ := fun W_ => ard_index (k := .i8) (l := [((rd_T40 l0_2 x12_1).f0), ((rd_T40 l0_2 x12_1).f1), ((rd_T40 l0_2 x12_1).f2), ((rd_T40 l0_2 x12_1).f3)]) Try.underlying40 (by kernel_rfl) (by kernel_rfl) ⟨_, Try.underlying22⟩ rfl p16 q16 W_
                    replace p16 := eq_true p16
                    replace q16 := eq_true q16
                    have hnb20 := NB236_235.out
                    have hnc20 := NB235_236.out
                    have hnb21 := NB236_238.out
                    have hnc21 := NB238_236.out
                    have hcz22_0 : wr.cell? ⟨gb236, 0, none⟩ = some (.int .i64 x237000_2) := (blk_cell BK236.out 0).trans rfl
                    have hcz22_1 : wr.cell? ⟨gb236, 1, none⟩ = some (.int .i64 x237001_2) := (blk_cell BK236.out 1).trans rfl
                    have hcz22_2 : wr.cell? ⟨gb236, 2, none⟩ = some (.int .i64 x237002_2) := (blk_cell BK236.out 2).trans rfl
                    have hcz22_3 : wr.cell? ⟨gb236, 3, none⟩ = some (.int .i64 x237003_2) := (blk_cell BK236.out 3).trans rfl
                    have hfz22_0 := blk_frozen BK236.out 0
                    have hfz22_1 := blk_frozen BK236.out 1
                    have hfz22_2 := blk_frozen BK236.out 2
                    have hfz22_3 := blk_frozen BK236.out 3
                    have p17 : 0 ≤ (x17_2 : Int) := of_decide_eq_true (by first | (with_reducible assumption) | assumption)
                    have q17 : (x17_2 : Int) < 4 := of_decide_eq_true (by first | (with_reducible assumption) | assumption)
                    have hx17 : wr.cell? ⟨gb236, (x17_2 : Int).toNat, none⟩ = some (.int .i64 (rd [x237000_2, x237001_2, x237002_2, x237003_2] x17_2)) := ard_cell (k := .i64) (l := [x237000_2, x237001_2, x237002_2, x237003_2]) BK236.out p17 q17
                    have hf17 := blk_frozen BK236.out (x17_2 : Int).toNat
                    have P17 := Aside0.mk p17
                    have Q17 := Aside0.mk q17
                    replace p17 := eq_true p17
                    replace q17 := eq_true q17
                    have p18 : 0 ≤ (x17_2 : Int) := of_decide_eq_true (by first | (with_reducible assumption) | assumption)
                    have q18 : (x17_2 : Int) < 4 := of_decide_eq_true (by first | (with_reducible assumption) | assumption)
                    have hx18 : wr.cell? ⟨gb236, (x17_2 : Int).toNat, none⟩ = some (.int .i64 (rd [x237000_2, x237001_2, x237002_2, x237003_2] x17_2)) := ard_cell (k := .i64) (l := [x237000_2, x237001_2, x237002_2, x237003_2]) BK236.out p18 q18
                    have hf18 := blk_frozen BK236.out (x17_2 : Int).toNat
                    have P18 := Aside0.mk p18
                    have Q18 := Aside0.mk q18
                    replace p18 := eq_true p18
                    replace q18 := eq_true q18
                    go_wp2_with (first | ((with_reducible refine gate_store (t := 3) (p := 27) rfl ?_); refine store_event (t := 3) (p := 27) (v := ?vo_w23) (w1 := (wr.setCell ⟨gb236, (x17_2 : Int).toNat, none⟩ (.int .i64 (wrap64 ((rd [x237000_2, x237001_2, x237002_2, x237003_2] x17_2) + (wrap64 (rd [((rd_T40 l0_2 x12_1).f0), ((rd_T40 l0_2 x12_1).f1), ((rd_T40 l0_2 x12_1).f2), ((rd_T40 l0_2 x12_1).f3)] x17_2))))))) ?hg ?ho ?hn ?hr ?_; (case ho => rfl); (case hg => rfl); (case hn => rfl); (case hr => first | (go_simp; done) | (go_simp; rfl)); intro w23 hw; have n0_ : Aside0 (w23.heap[gb235]? = some (.cells #[.int .i8 a0_0, .int .i8 a0_1, .slice (some ad237) l0_2.length c0_2] 30 (0, 0))) := ⟨(by rw [hw]; exact (by (with_reducible repeat (first | refine blk_drewN ?_ _ | refine blk_drew ?_ | refine blk_alloc ?_ _)); refine blk_far ?_ NB235_236.out _; (with_reducible repeat (first | refine blk_drewN ?_ _ | refine blk_drew ?_ | refine blk_alloc ?_ _)); exact BK235.out))⟩; have n1_ : Aside0 (w23.heap[gb236]? = some (.cells #[.int .i64 (aup x17_2 0 (wrap64 ((rd [x237000_2, x237001_2, x237002_2, x237003_2] x17_2) + (wrap64 (rd [((rd_T40 l0_2 x12_1).f0), ((rd_T40 l0_2 x12_1).f1), ((rd_T40 l0_2 x12_1).f2), ((rd_T40 l0_2 x12_1).f3)] x17_2)))) x237000_2), .int .i64 (aup x17_2 1 (wrap64 ((rd [x237000_2, x237001_2, x237002_2, x237003_2] x17_2) + (wrap64 (rd [((rd_T40 l0_2 x12_1).f0), ((rd_T40 l0_2 x12_1).f1), ((rd_T40 l0_2 x12_1).f2), ((rd_T40 l0_2 x12_1).f3)] x17_2)))) x237001_2), .int .i64 (aup x17_2 2 (wrap64 ((rd [x237000_2, x237001_2, x237002_2, x237003_2] x17_2) + (wrap64 (rd [((rd_T40 l0_2 x12_1).f0), ((rd_T40 l0_2 x12_1).f1), ((rd_T40 l0_2 x12_1).f2), ((rd_T40 l0_2 x12_1).f3)] x17_2)))) x237002_2), .int .i64 (aup x17_2 3 (wrap64 ((rd [x237000_2, x237001_2, x237002_2, x237003_2] x17_2) + (wrap64 (rd [((rd_T40 l0_2 x12_1).f0), ((rd_T40 l0_2 x12_1).f1), ((rd_T40 l0_2 x12_1).f2), ((rd_T40 l0_2 x12_1).f3)] x17_2)))) x237003_2)] 70 (0, 0))) := ⟨(by rw [hw]; exact (by (with_reducible repeat (first | refine blk_drewN ?_ _ | refine blk_drew ?_ | refine blk_alloc ?_ _)); refine blk_put (cs := #[.int .i64 x237000_2, .int .i64 x237001_2, .int .i64 x237002_2, .int .i64 x237003_2]) ?_ (x17_2 : Int).toNat _ (ups_set (k := .i64) (l := [x237000_2, x237001_2, x237002_2, x237003_2]) P18.out); (with_reducible repeat (first | refine blk_drewN ?_ _ | refine blk_drew ?_ | refine blk_alloc ?_ _)); exact BK236.out))⟩; have n2_ : Aside0 (w23.heap[gb238]? = some (.cells #[.int .i8 ((rd_T40 l0_2 x12_1).f0), .int .i8 ((rd_T40 l0_2 x12_1).f1), .int .i8 ((rd_T40 l0_2 x12_1).f2), .int .i8 ((rd_T40 l0_2 x12_1).f3)] 40 (0, 0))) := ⟨(by rw [hw]; exact (by (with_reducible repeat (first | refine blk_drewN ?_ _ | refine blk_drew ?_ | refine blk_alloc ?_ _)); refine blk_far ?_ NB238_236.out _; (with_reducible repeat (first | refine blk_drewN ?_ _ | refine blk_drew ?_ | refine blk_alloc ?_ _)); exact BK238.out))⟩; have n3_ : Aside0 (Below w.heap.size w w23) := ⟨(by rw [hw]; exact (by repeat (first | (with_reducible first | exact HB.out | apply below_alloc | apply pw_below_drewN | apply below_drew1 | refine below_set ?_ GE235.out | refine below_set ?_ GE236.out | refine below_set ?_ GE238.out) | exact HB.out)))⟩; clear hw; clear BK235; clear BK236; clear BK238; clear HB; have BK235 := n0_; have BK236 := n1_; have BK238 := n2_; have HB := n3_; clear n0_ n1_ n2_ n3_))
                    go_roundg k2
                    case measure => have := HK1.out; have := HK2.out; omega
                    case rel => exact ⟨(wrap64 (x17_2 + 1)), (aup x17_2 0 (wrap64 ((rd [x237000_2, x237001_2, x237002_2, x237003_2] x17_2) + (wrap64 (rd [((rd_T40 l0_2 x12_1).f0), ((rd_T40 l0_2 x12_1).f1), ((rd_T40 l0_2 x12_1).f2), ((rd_T40 l0_2 x12_1).f3)] x17_2)))) x237000_2), (aup x17_2 1 (wrap64 ((rd [x237000_2, x237001_2, x237002_2, x237003_2] x17_2) + (wrap64 (rd [((rd_T40 l0_2 x12_1).f0), ((rd_T40 l0_2 x12_1).f1), ((rd_T40 l0_2 x12_1).f2), ((rd_T40 l0_2 x12_1).f3)] x17_2)))) x237001_2), (aup x17_2 2 (wrap64 ((rd [x237000_2, x237001_2, x237002_2, x237003_2] x17_2) + (wrap64 (rd [((rd_T40 l0_2 x12_1).f0), ((rd_T40 l0_2 x12_1).f1), ((rd_T40 l0_2 x12_1).f2), ((rd_T40 l0_2 x12_1).f3)] x17_2)))) x237002_2), (aup x17_2 3 (wrap64 ((rd [x237000_2, x237001_2, x237002_2, x237003_2] x17_2) + (wrap64 (rd [((rd_T40 l0_2 x12_1).f0), ((rd_T40 l0_2 x12_1).f1), ((rd_T40 l0_2 x12_1).f2), ((rd_T40 l0_2 x12_1).f3)] x17_2)))) x237003_2), (by first | rfl | (simp; done) | (simp [*]; done)), H', ⟨by have := HK1.out; have := HK2.out; omega⟩, ⟨by (with_reducible repeat (first | refine blk_drewN ?_ _ | refine blk_drew ?_ | refine blk_alloc ?_ _)); exact BK235.out⟩, ⟨by (with_reducible repeat (first | refine blk_drewN ?_ _ | refine blk_drew ?_ | refine blk_alloc ?_ _)); exact BK236.out⟩, ⟨by (with_reducible repeat (first | refine blk_drewN ?_ _ | refine blk_drew ?_ | refine blk_alloc ?_ _)); exact BK238.out⟩, ⟨by repeat (first | (with_reducible first | exact HB.out | apply below_alloc | apply pw_below_drewN | apply below_drew1 | refine below_set ?_ GE235.out | refine below_set ?_ GE236.out | refine below_set ?_ GE238.out) | exact HB.out)⟩⟩
                  · rw [if_neg c15] at H
                    exact absurd H (by simp)
                · rw [if_neg c14] at H
                  have c14b0 : decide (x17_2 < 4) = false := decide_eq_false c14
                  clear c14
                  have H' := Aside0.mk H
                  clear H
                  go_wp2
                  go_roundg k2
                  case measure => have := HK1.out; have := HK2.out; omega
                  case rel => exact ⟨(wrap64 (x12_1 + 1)), (x237000_2), (x237001_2), (x237002_2), (x237003_2), (by first | rfl | (simp; done) | (simp [*]; done)), H', ⟨by have := HK1.out; have := HK2.out; omega⟩, ⟨by (with_reducible repeat (first | refine blk_drewN ?_ _ | refine blk_drew ?_ | refine blk_alloc ?_ _)); exact BK235.out⟩, ⟨by (with_reducible repeat (first | refine blk_drewN ?_ _ | refine blk_drew ?_ | refine blk_alloc ?_ _)); exact BK236.out⟩, ⟨by repeat (first | (with_reducible first | exact HB.out | apply below_alloc | apply pw_below_drewN | apply below_drew1 | refine below_set ?_ GE235.out | refine below_set ?_ GE236.out | refine below_set ?_ GE238.out) | exact HB.out)⟩⟩
          · rw [if_neg c9] at H
            exact absurd H (by simp)
        · rw [if_neg c8] at H
          exact absurd H (by simp)
      · rw [if_neg c7] at H
        have c7b0 : decide (x12_1 < (l0_2.length : Int)) = false := decide_eq_false c7
        clear c7
        obtain rfl := Option.some.inj H
        have hnb24 := NB236_235.out
        have hnc24 := NB235_236.out
        have hcz25_0 : wr.cell? ⟨gb236, 0, none⟩ = some (.int .i64 x237000_1) := (blk_cell BK236.out 0).trans rfl
        have hcz25_1 : wr.cell? ⟨gb236, 1, none⟩ = some (.int .i64 x237001_1) := (blk_cell BK236.out 1).trans rfl
        have hcz25_2 : wr.cell? ⟨gb236, 2, none⟩ = some (.int .i64 x237002_1) := (blk_cell BK236.out 2).trans rfl
        have hcz25_3 : wr.cell? ⟨gb236, 3, none⟩ = some (.int .i64 x237003_1) := (blk_cell BK236.out 3).trans rfl
        have hfz25_0 := blk_frozen BK236.out 0
        have hfz25_1 := blk_frozen BK236.out 1
        have hfz25_2 := blk_frozen BK236.out 2
        have hfz25_3 := blk_frozen BK236.out 3
        go_wp2
        go_ret
        exact ⟨by first | rfl | (simp [errW_none, errW_some] <;> rfl) | (simp [*, errW_none, errW_some] <;> rfl), by repeat (first | (with_reducible first | exact HB.out | apply below_alloc | apply pw_below_drewN | apply below_drew1 | refine below_set ?_ GE235.out | refine below_set ?_ GE236.out) | exact HB.out)⟩

/-! ### impl_IsBalanced: function 17 -/
def impl_IsBalanced.f (k : Nat) (a0_0 : Int) (a0_1 : Int) (l0_2 : List (S40)) : Option (Bool × Int) := (impl_ValidFixed.f k a0_0 a0_1 l0_2).bind fun t240 => (if t240 = true then ((impl_Fixed_isBalanced.f k a0_0 a0_1 l0_2).bind fun t241 => (some (t241, 0))) else (some (false, 1)))
theorem impl_IsBalanced.mono : ∀ a0 a1 a2 k, LeO (impl_IsBalanced.f k a0 a1 a2) (impl_IsBalanced.f (k + 1) a0 a1 a2) := by
  intro a0 a1 a2 k
  unfold impl_IsBalanced.f
  repeat' first
      | (with_reducible exact impl_Fixed_isBalanced.mono _ _ _ _)
      | (with_reducible exact impl_ValidFixed.mono _ _ _ _)
      | (with_reducible exact LeO.refl _)
      | (with_reducible exact LeO.none _)
      | (with_reducible refine LeO.ite ?_ ?_)
      | (with_reducible refine LeO.bind ?_ (fun _ => ?_))
      | exact impl_Fixed_isBalanced.mono _ _ _ _
      | exact impl_ValidFixed.mono _ _ _ _
      | exact LeO.none _
      | refine LeO.ite ?_ ?_
      | refine LeO.bind ?_ (fun _ => ?_)
set_option maxHeartbeats 8000000 in
set_option maxRecDepth 100000 in
theorem impl_IsBalanced.calls (k : Nat) (a0_0 : Int) (a0_1 : Int) (A0_2 : Option Addr) (c0_2 : Nat) (l0_2 : List (S40)) (r1 : Bool) (r2 : Int) (w : World) (hr0_2 : Kd.C k40 w A0_2 l0_2.length l0_2) (hc0_2 : l0_2.length ≤ c0_2) (h : impl_IsBalanced.f k a0_0 a0_1 l0_2 = some (r1, r2)) :
    Calls Try.prog 17 #[.agg #[.int .i8 a0_0, .int .i8 a0_1, .slice A0_2 l0_2.length c0_2]] w fun e w' => e = .returned (.tuple #[.bool r1, .int .i64 r2]) ∧ Below w.heap.size w w' := by
  have hu30 := Try.underlying30
  have HR0_2 := Aside0.mk hr0_2
  have HC0_2 := Aside0.mk hc0_2
  clear hr0_2 hc0_2
  have HB := Aside0.mk (Below.refl w.heap.size w)
  have H : ((impl_ValidFixed.f k a0_0 a0_1 l0_2).bind fun t240 => (if t240 = true then ((impl_Fixed_isBalanced.f k a0_0 a0_1 l0_2).bind fun t241 => (some (t241, 0))) else (some (false, 1)))) = some (r1, r2) := h
  clear h
  replace H := Option.bind_eq_some_iff.mp H
  obtain ⟨t240, A20, H⟩ := H
  replace H : (if t240 = true then ((impl_Fixed_isBalanced.f k a0_0 a0_1 l0_2).bind fun t241 => (some (t241, 0))) else (some (false, 1))) = some (r1, r2) := H
  have A2 := Aside0.mk A20
  clear A20
  by_cases c3 : t240 = true
  · subst c3
    have H1 : ((impl_Fixed_isBalanced.f k a0_0 a0_1 l0_2).bind fun t241 => (some (t241, 0))) = some (r1, r2) := by rw [if_pos rfl] at H; exact H
    clear H
    have H := H1
    clear H1
    replace H := Option.bind_eq_some_iff.mp H
    obtain ⟨t241, A40, H⟩ := H
    replace H : (some (t241, 0)) = some (r1, r2) := H
    have A4 := Aside0.mk A40
    clear A40
    simp only [Option.some.injEq, Prod.mk.injEq] at H
    obtain ⟨rfl, rfl⟩ := H
    go_enter Try.func17, Try.ntmps17
    go_wp2_with (first | ((with_reducible refine gate_dst (N := 1) rfl ?_); refine box_event ?hg (N := 1) ?hd (cs := #[.int .i8 a0_0, .int .i8 a0_1, .slice A0_2 l0_2.length c0_2]) (t := 30) ?hr ?_; (case hd => rfl); (case hg => rfl); (case hr => first | (go_simp; done) | (go_simp; rfl)); intro gb239 hg w5 hbox hb; have n0_ := Aside0.mk (below_step (by repeat (first | (with_reducible first | exact HB.out | apply below_alloc | apply pw_below_drewN | apply below_drew1) | exact HB.out)) hb); have n1_ := Aside0.mk (hbox); have n2_ := Aside0.mk ((by rw [hg]; exact (below_size (by repeat (first | (with_reducible first | exact HB.out | apply below_alloc | apply pw_below_drewN | apply below_drew1) | exact HB.out))) : w.heap.size ≤ gb239)); have n3_ := Aside0.mk ((by rw [hg]; exact (below_size (by repeat (first | (with_reducible first | exact HB.out | apply below_alloc | apply pw_below_drewN | apply below_drew1) | exact HB.out))) : w.heap.size ≤ gb239)); clear HB; have HB := n0_; have BK239 := n1_; have GW239 := n2_; have GE239 := n3_; clear n0_ n1_ n2_ n3_; clear hb hbox hg; have hcz6_0 : w5.cell? ⟨gb239, 0, none⟩ = some (.int .i8 a0_0) := (blk_cell BK239.out 0).trans rfl; have hcz6_1 : w5.cell? ⟨gb239, 1, none⟩ = some (.int .i8 a0_1) := (blk_cell BK239.out 1).trans rfl; have hcz6_2 : w5.cell? ⟨gb239, 2, none⟩ = some (.slice A0_2 l0_2.length c0_2) := (blk_cell BK239.out 2).trans rfl; have hfz6_0 := blk_frozen BK239.out 0; have hfz6_1 := blk_frozen BK239.out 1; have hfz6_2 := blk_frozen BK239.out 2) | ((with_reducible refine gate_callee (f := 15) rfl ?_); refine goesL_ (some 5) rfl rfl Try.func15 (by kernel_rfl) rfl #[.agg #[.int .i8 a0_0, .int .i8 a0_1, .slice A0_2 l0_2.length c0_2]] rfl (by (try simp only [List.map_toArray, List.map_cons, List.map_nil]); first | done | rfl | (simp only [List.length_drop, List.length_take]; rfl)) ?_; (with_reducible refine (impl_ValidFixed.calls k a0_0 a0_1 _ _ l0_2 true _ ?side1 ?side2 A2.out).mono ?_); (case side1 => repeat (first | exact (Kd.C_below HR0_2.out HB.out) | (with_reducible refine Kd.C_alloc ?_ _) | (with_reducible refine Kd.C_drewN ?_ _) | (with_reducible refine Kd.C_drew ?_))); (case side2 => exact HC0_2.out); rintro e w7 ⟨rfl, hb⟩; refine ⟨_, rfl, ?_⟩; have n0_ := Aside0.mk (blk_below (g := gb239) (o := .cells #[.int .i8 a0_0, .int .i8 a0_1, .slice A0_2 l0_2.length c0_2] 30 (0, 0)) (by (with_reducible repeat (first | refine blk_drewN ?_ _ | refine blk_drew ?_ | refine blk_alloc ?_ _)); exact BK239.out) hb); have n1_ := Aside0.mk (below_step (by repeat (first | (with_reducible first | exact HB.out | apply below_alloc | apply pw_below_drewN | apply below_drew1 | refine below_set ?_ GE239.out) | exact HB.out)) hb); clear BK239; clear HB; have BK239 := n0_; have HB := n1_; clear n0_ n1_; (try clear hb); (try clear hb2); (try clear hk); (try clear hi); have hcz8_0 : w7.cell? ⟨gb239, 0, none⟩ = some (.int .i8 a0_0) := (blk_cell BK239.out 0).trans rfl; have hcz8_1 : w7.cell? ⟨gb239, 1, none⟩ = some (.int .i8 a0_1) := (blk_cell BK239.out 1).trans rfl; have hcz8_2 : w7.cell? ⟨gb239, 2, none⟩ = some (.slice A0_2 l0_2.length c0_2) := (blk_cell BK239.out 2).trans rfl; have hfz8_0 := blk_frozen BK239.out 0; have hfz8_1 := blk_frozen BK239.out 1; have hfz8_2 := blk_frozen BK239.out 2) | ((with_reducible refine gate_callee (f := 43) rfl ?_); refine goesL_ (some 8) rfl rfl Try.func43 (by kernel_rfl) rfl #[.agg #[.int .i8 a0_0, .int .i8 a0_1, .slice A0_2 l0_2.length c0_2]] rfl (by (try simp only [List.map_toArray, List.map_cons, List.map_nil]); first | done | rfl | (simp only [List.length_drop, List.length_take]; rfl)) ?_; (with_reducible refine (impl_Fixed_isBalanced.calls k a0_0 a0_1 _ _ l0_2 t241 _ ?side1 ?side2 A4.out).mono ?_); (case side1 => repeat (first | exact (Kd.C_below HR0_2.out HB.out) | (with_reducible refine Kd.C_alloc ?_ _) | (with_reducible refine Kd.C_drewN ?_ _) | (with_reducible refine Kd.C_drew ?_))); (case side2 => exact HC0_2.out); rintro e w9 ⟨rfl, hb⟩; refine ⟨_, rfl, ?_⟩; have n0_ := Aside0.mk (blk_below (g := gb239) (o := .cells #[.int .i8 a0_0, .int .i8 a0_1, .slice A0_2 l0_2.length c0_2] 30 (0, 0)) (by (with_reducible repeat (first | refine blk_drewN ?_ _ | refine blk_drew ?_ | refine blk_alloc ?_ _)); exact BK239.out) hb); have n1_ := Aside0.mk (below_step (by repeat (first | (with_reducible first | exact HB.out | apply below_alloc | apply pw_below_drewN | apply below_drew1 | refine below_set ?_ GE239.out) | exact HB.out)) hb); clear BK239; clear HB; have BK239 := n0_; have HB := n1_; clear n0_ n1_; (try clear hb); (try clear hb2); (try clear hk); (try clear hi)))
    go_ret2
    exact ⟨by first | rfl | (simp [errW_none, errW_some] <;> rfl) | (simp [*, errW_none, errW_some] <;> rfl), by repeat (first | (with_reducible first | exact HB.out | apply below_alloc | apply pw_below_drewN | apply below_drew1 | refine below_set ?_ GE239.out) | exact HB.out)⟩
  · replace c3 := Bool.eq_false_iff.mpr c3
    subst c3
    have H1 : (some (false, 1)) = some (r1, r2) := by rw [if_neg (show ¬ (false = true) by decide)] at H; exact H
    clear H
    have H := H1
    clear H1
    simp only [Option.some.injEq, Prod.mk.injEq] at H
    obtain ⟨rfl, rfl⟩ := H
    go_enter Try.func17, Try.ntmps17
    go_wp2_with (first | ((with_reducible refine gate_dst (N := 1) rfl ?_); refine box_event ?hg (N := 1) ?hd (cs := #[.int .i8 a0_0, .int .i8 a0_1, .slice A0_2 l0_2.length c0_2]) (t := 30) ?hr ?_; (case hd => rfl); (case hg => rfl); (case hr => first | (go_simp; done) | (go_simp; rfl)); intro gb239 hg w10 hbox hb; have n0_ := Aside0.mk (below_step (by repeat (first | (with_reducible first | exact HB.out | apply below_alloc | apply pw_below_drewN | apply below_drew1) | exact HB.out)) hb); have n1_ := Aside0.mk (hbox); have n2_ := Aside0.mk ((by rw [hg]; exact (below_size (by repeat (first | (with_reducible first | exact HB.out | apply below_alloc | apply pw_below_drewN | apply below_drew1) | exact HB.out))) : w.heap.size ≤ gb239)); have n3_ := Aside0.mk ((by rw [hg]; exact (below_size (by repeat (first | (with_reducible first | exact HB.out | apply below_alloc | apply pw_below_drewN | apply below_drew1) | exact HB.out))) : w.heap.size ≤ gb239)); clear HB; have HB := n0_; have BK239 := n1_; have GW239 := n2_; have GE239 := n3_; clear n0_ n1_ n2_ n3_; clear hb hbox hg; have hcz11_0 : w10.cell? ⟨gb239, 0, none⟩ = some (.int .i8 a0_0) := (blk_cell BK239.out 0).trans rfl; have hcz11_1 : w10.cell? ⟨gb239, 1, none⟩ = some (.int .i8 a0_1) := (blk_cell BK239.out 1).trans rfl; have hcz11_2 : w10.cell? ⟨gb239, 2, none⟩ = some (.slice A0_2 l0_2.length c0_2) := (blk_cell BK239.out 2).trans rfl; have hfz11_0 := blk_frozen BK239.out 0; have hfz11_1 := blk_frozen BK239.out 1; have hfz11_2 := blk_frozen BK239.out 2) | ((with_reducible refine gate_callee (f := 15) rfl ?_); refine goesL_ (some 5) rfl rfl Try.func15 (by kernel_rfl) rfl #[.agg #[.int .i8 a0_0, .int .i8 a0_1, .slice A0_2 l0_2.length c0_2]] rfl (by (try simp only [List.map_toArray, List.map_cons, List.map_nil]); first | done | rfl | (simp only [List.length_drop, List.length_take]; rfl)) ?_; (with_reducible refine (impl_ValidFixed.calls k a0_0 a0_1 _ _ l0_2 false _ ?side1 ?side2 A2.out).mono ?_); (case side1 => repeat (first | exact (Kd.C_below HR0_2.out HB.out) | (with_reducible refine Kd.C_alloc ?_ _) | (with_reducible refine Kd.C_drewN ?_ _) | (with_reducible refine Kd.C_drew ?_))); (case side2 => exact HC0_2.out); rintro e w12 ⟨rfl, hb⟩; refine ⟨_, rfl, ?_⟩; have n0_ := Aside0.mk (blk_below (g := gb239) (o := .cells #[.int .i8 a0_0, .int .i8 a0_1, .slice A0_2 l0_2.length c0_2] 30 (0, 0)) (by (with_reducible repeat (first | refine blk_drewN ?_ _ | refine blk_drew ?_ | refine blk_alloc ?_ _)); exact BK239.out) hb); have n1_ := Aside0.mk (below_step (by repeat (first | (with_reducible first | exact HB.out | apply below_alloc | apply pw_below_drewN | apply below_drew1 | refine below_set ?_ GE239.out) | exact HB.out)) hb); clear BK239; clear HB; have BK239 := n0_; have HB := n1_; clear n0_ n1_; (try clear hb); (try clear hb2); (try clear hk); (try clear hi)))
    go_ret2
    exact ⟨by first | rfl | (simp [errW_none, errW_some] <;> rfl) | (simp [*, errW_none, errW_some] <;> rfl), by repeat (first | (with_reducible first | exact HB.out | apply below_alloc | apply pw_below_drewN | apply below_drew1 | refine below_set ?_ GE239.out) | exact HB.out)⟩

end Go.Proofs.Ytonifpgaagdohaa.M
