-- By this seat's own program over the kit's printer (arrays, functions told by hand); nothing of it is trusted: the kernel checks it.
import Derived.Test.YtonifpgaagdohaaMx0
namespace Go.Proofs.Ytonifpgaagdohaa.M
open Go.RowKit Go.Proofs.YtonifpgaagdohaaW.PrintWords Go.Proofs.YtonifpgaagdohaaW.PrintLast Go.Proofs.YtonifpgaagdohaaW.PrintMore
attribute [local go_sem] max2_int min2_int max_two min_two max_three min_three max_four min_four   -- for this text's walks alone
set_option linter.unusedVariables false
set_option linter.unusedSimpArgs false

/-! ### impl_Fixed_on: function 51 -/
def impl_Fixed_on.l0 : Nat → Int → Int → List Int → List (S40) → Int → Int → Option (List Int)
 | 0, _, _, _, _, _, _ => none
 | k + 1, x1, x2, x7, x12, x13, x14 => if x14 < x13 then (if 0 ≤ x14 then (if x14 < (x12.length : Int) then (if 0 ≤ x1 then (if x1 < 4 then (if (rd [(rd_T40 x12 x14).f0, (rd_T40 x12 x14).f1, (rd_T40 x12 x14).f2, (rd_T40 x12 x14).f3] x1) = x2 then (if x7.length < 17592186044416 then (impl_Fixed_on.l0 k x1 x2 (x7 ++ [x14]) x12 x13 (wrap64 (x14 + 1))) else (none)) else (impl_Fixed_on.l0 k x1 x2 x7 x12 x13 (wrap64 (x14 + 1)))) else (none)) else (none)) else (none)) else (none)) else (some x7)
def impl_Fixed_on.f (k : Nat) (a0_0 : Int) (a0_1 : Int) (l0_2 : List (S40)) (a1 : Int) (a2 : Int) : Option (List Int) := impl_Fixed_on.l0 k a1 a2 (([] : List Int)) l0_2 (l0_2.length : Int) 0
theorem impl_Fixed_on.mono_l : ∀ k, (∀ y0 y1 y2 y3 y4 y5, LeO (impl_Fixed_on.l0 k y0 y1 y2 y3 y4 y5) (impl_Fixed_on.l0 (k + 1) y0 y1 y2 y3 y4 y5))
 | 0 => fun _ _ _ _ _ _ r h => by simp [impl_Fixed_on.l0] at h
 | k + 1 => by
  have ih0 := impl_Fixed_on.mono_l k
  ·intro y0 y1 y2 y3 y4 y5
   unfold impl_Fixed_on.l0
   repeat' first
   | (with_reducible exact ih0 _ _ _ _ _ _)
   | (with_reducible exact LeO.refl _)
   | (with_reducible exact LeO.none _)
   | (with_reducible refine LeO.ite ?_ ?_)
   | (with_reducible refine LeO.bind ?_ (fun _ => ?_))
   | exact ih0 _ _ _ _ _ _
   | exact LeO.none _
   | refine LeO.ite ?_ ?_
   | refine LeO.bind ?_ (fun _ => ?_)
theorem impl_Fixed_on.mono : ∀ a0 a1 a2 a3 a4 k, LeO (impl_Fixed_on.f k a0 a1 a2 a3 a4) (impl_Fixed_on.f (k + 1) a0 a1 a2 a3 a4) := by
 intro a0 a1 a2 a3 a4 k
 have ih0 := impl_Fixed_on.mono_l k
 unfold impl_Fixed_on.f
 repeat' first
   | (with_reducible exact ih0 _ _ _ _ _ _)
   | (with_reducible exact LeO.refl _)
   | (with_reducible exact LeO.none _)
   | (with_reducible refine LeO.ite ?_ ?_)
   | (with_reducible refine LeO.bind ?_ (fun _ => ?_))
   | exact ih0 _ _ _ _ _ _
   | exact LeO.none _
   | refine LeO.ite ?_ ?_
   | refine LeO.bind ?_ (fun _ => ?_)
set_option maxHeartbeats 8000000 in
set_option maxRecDepth 100000 in
theorem impl_Fixed_on.calls (k : Nat) (a0_0 : Int) (a0_1 : Int) (A0_2 : Option Addr) (c0_2 : Nat) (l0_2 : List (S40)) (a1 : Int) (a2 : Int) (r : List Int) (w : World) (hr0_2 : Kd.C k40 w A0_2 l0_2.length l0_2) (hc0_2 : l0_2.length ≤ c0_2) (h : impl_Fixed_on.f k a0_0 a0_1 l0_2 a1 a2 = some r) :
  Calls Try.prog 51 #[.agg #[.int .i8 a0_0, .int .i8 a0_1, .slice A0_2 l0_2.length c0_2], .int .i64 a1, .int .i8 a2] w fun e w' => ∃ v0_ : Value, e = .returned (v0_) ∧ Kd.R (Kd.int .i64) 2 w' w.heap.size (fun _ => True) v0_ r ∧ Below w.heap.size w w' := by
 have hu30 := Try.underlying30
 have hu40 := Try.underlying40
 have HR0_2 := Aside0.mk hr0_2
 have HC0_2 := Aside0.mk hc0_2
 clear hr0_2 hc0_2
 have HB := A_ (Below.refl w.heap.size w)
 have H : (impl_Fixed_on.l0 k a1 a2 (([] : List Int)) l0_2 (l0_2.length : Int) 0) = some r := h
 clear h
 obtain ⟨y191, hy191⟩ : ∃ y_ : List Int, y_ = (([] : List Int)) := ⟨_, rfl⟩
 replace H : (impl_Fixed_on.l0 k a1 a2 y191 l0_2 (l0_2.length : Int) 0) = some r := by first | (rw [hy191]; with_reducible exact H) | (have H2_ := (Option.bind_some _ _).symm.trans H; rw [hy191]; with_reducible exact H2_) | (have H2_ := (Option.bind_some _ _).symm.trans H; with_reducible exact H2_) | with_reducible exact H | (rw [hy191]; exact H) | exact H
 have Ny191 := Aside0.mk hy191
 clear hy191
 have H' := Aside0.mk H
 clear H
 go_enter Try.func51, Try.ntmps51
 go_wp2_with (first | ((with_reducible refine gate_dst (N := 3) rfl ?_); refine box_event ?hg (N := 3) ?hd (cs := #[.int .i8 a0_0, .int .i8 a0_1, .slice A0_2 l0_2.length c0_2]) (t := 30) ?hr ?_; (case hd => rfl); (case hg => rfl); (case hr => first | (go_simp; done) | (go_simp; rfl)); intro gb190 hg w4 hbox hb; have n0_ := A_ (below_step (bl_ HB) hb); have n1_ := A_ (hbox); have n2_ := A_ ((by rw [hg]; exact (below_size (bl_ HB)) : w.heap.size ≤ gb190)); have n3_ := n2_; clear HB; have HB := n0_; have BK190 := n1_; have GW190 := n2_; have GE190 := n3_; clear n0_ n1_ n2_ n3_; clear hb hbox hg) | ((with_reducible refine gate_dst (N := 10) rfl ?_); refine Kd.R_lit (Kd.int .i64) _ 2 ?hg (N := 10) ?hd (xs := ([] : List Int)) (inner := []) (ok := fun _ => True) (okp := fun _ => True) ?hr ?hp (fun _ hk => hk) trivial (Below.refl _ _) (Nat.le_refl _) (by simp) ?_; (case hd => rfl); (case hg => rfl); (case hr => first | (go_simp; done) | (go_simp; rfl)); (case hp => exact (Reps.none _ _)); intro v192 w5 ho6 hb hg_ hnew_; clear hg_ hnew_; (first | rw [← Ny191.out] at ho6 | (simp only [Int.reduceToNat] at ho6; rw [← Ny191.out] at ho6)); have n0_ := A_ (Kd.R_lower ho6 (below_size (bl_ HB))); have n1_ := A_ (blk_below (g := gb190) (o := .cells #[.int .i8 a0_0, .int .i8 a0_1, .slice A0_2 l0_2.length c0_2] 30 (0, 0)) (pl_ BK190) hb); have n2_ := A_ (below_step (bl_ HB) hb); clear BK190; clear HB; have HO193 := n0_; have BK190 := n1_; have HB := n2_; clear n0_ n1_ n2_; clear hb ho6; have hcz7_0 : w5.cell? ⟨gb190, 0, none⟩ = some (.int .i8 a0_0) := (blk_cell BK190.out 0).trans rfl; have hcz7_1 : w5.cell? ⟨gb190, 1, none⟩ = some (.int .i8 a0_1) := (blk_cell BK190.out 1).trans rfl; have hcz7_2 : w5.cell? ⟨gb190, 2, none⟩ = some (.slice A0_2 l0_2.length c0_2) := (blk_cell BK190.out 2).trans rfl; have hfz7_0 := blk_frozen BK190.out 0; have hfz7_1 := blk_frozen BK190.out 1; have hfz7_2 := blk_frozen BK190.out 2))
 go_loopg [7, 14] k (fun kq v7 v14 w' => ∃ (x7_1 : List Int) (x14_1 : Int), v14 = .int .i64 x14_1 ∧ Aside0 (impl_Fixed_on.l0 kq a1 a2 x7_1 l0_2 (l0_2.length : Int) x14_1 = some r) ∧ Aside0 (kq ≤ k) ∧ Aside0 (Kd.R (Kd.int .i64) 2 w' w.heap.size (fun _ => True) v7 x7_1) ∧ Aside0 (w'.heap[gb190]? = some (.cells #[.int .i8 a0_0, .int .i8 a0_1, (.slice A0_2 l0_2.length c0_2)] 30 (0, 0))) ∧ Aside0 (Below w.heap.size w w'))
 case atStart => exact ⟨(y191), (0), rs_, H', ⟨Nat.le_refl _⟩, ⟨pr_ HO193⟩, ⟨pl_ BK190⟩, ⟨bl_ HB⟩⟩
 case round =>
  clear H'
  try clear p2
  try clear c5
  try clear hcz7_0
  try clear hcz7_1
  try clear hcz7_2
  try clear hfz7_0
  try clear hfz7_1
  try clear hfz7_2
  obtain ⟨x7_1, x14_1, rfl, HA, HK1, HO_7, BK190, HB⟩ := hrel
  cases gk with
  | zero => exact absurd HA.out (by simp [impl_Fixed_on.l0])
  | succ k1 =>
   have H := HA.out
   clear HA
   simp only [impl_Fixed_on.l0] at H
   by_cases c8 : x14_1 < (l0_2.length : Int)
   ·rw [if_pos c8] at H
    have c8b0 : decide (x14_1 < (l0_2.length : Int)) = true := decide_eq_true c8
    clear c8
    by_cases c9 : 0 ≤ x14_1
    ·rw [if_pos c9] at H
     have c9b0 : decide (0 ≤ x14_1) = true := decide_eq_true c9
     clear c9
     by_cases c10 : x14_1 < (l0_2.length : Int)
     ·rw [if_pos c10] at H
      have c10b0 : decide (x14_1 < (l0_2.length : Int)) = true := decide_eq_true c10
      clear c10
      by_cases c11 : 0 ≤ a1
      ·rw [if_pos c11] at H
       have c11b0 : decide (0 ≤ a1) = true := decide_eq_true c11
       clear c11
       by_cases c12 : a1 < 4
       ·rw [if_pos c12] at H
        have c12b0 : decide (a1 < 4) = true := decide_eq_true c12
        clear c12
        by_cases c14 : (rd [(rd_T40 l0_2 x14_1).f0, (rd_T40 l0_2 x14_1).f1, (rd_T40 l0_2 x14_1).f2, (rd_T40 l0_2 x14_1).f3] a1) = a2
        ·rw [if_pos c14] at H
         have c14b0 : ((rd [(rd_T40 l0_2 x14_1).f0, (rd_T40 l0_2 x14_1).f1, (rd_T40 l0_2 x14_1).f2, (rd_T40 l0_2 x14_1).f3] a1) == a2) = true := beq_iff_eq.mpr c14
         have c14b1 : ((rd [(rd_T40 l0_2 x14_1).f0, (rd_T40 l0_2 x14_1).f1, (rd_T40 l0_2 x14_1).f2, (rd_T40 l0_2 x14_1).f3] a1) != a2) = false := bne_eq_false_iff_eq.mpr c14
         clear c14
         by_cases c15 : x7_1.length < 17592186044416
         ·rw [if_pos c15] at H
          have LMc15 := Aside0.mk c15
          clear c15
          obtain ⟨y196, hy196⟩ : ∃ y_ : List Int, y_ = (x7_1 ++ [x14_1]) := ⟨_, rfl⟩
          replace H : (impl_Fixed_on.l0 k1 a1 a2 y196 l0_2 (l0_2.length : Int) (wrap64 (x14_1 + 1))) = some r := by first | (rw [hy196]; with_reducible exact H) | (have H2_ := (Option.bind_some _ _).symm.trans H; rw [hy196]; with_reducible exact H2_) | (have H2_ := (Option.bind_some _ _).symm.trans H; with_reducible exact H2_) | with_reducible exact H | (rw [hy196]; exact H) | exact H
          have Ny196 := Aside0.mk hy196
          clear hy196
          have H' := Aside0.mk H
          clear H
          have p194 : 0 ≤ (x14_1 : Int) := asm_
          have q194 : x14_1 < (l0_2.length : Int) := asm_
          obtain ⟨ad194, e194, hx194_0, hx194_1, hx194_2, hx194_3⟩ := at_T40 HR0_2.out x14_1 p194 q194
          cases e194
          (try replace hx194_0 := (HB.out.cell (World.block_lt_of_cell? w _ hx194_0)).trans hx194_0)
          (try replace hx194_1 := (HB.out.cell (World.block_lt_of_cell? w _ hx194_1)).trans hx194_1)
          (try replace hx194_2 := (HB.out.cell (World.block_lt_of_cell? w _ hx194_2)).trans hx194_2)
          (try replace hx194_3 := (HB.out.cell (World.block_lt_of_cell? w _ hx194_3)).trans hx194_3)
          replace p194 := eq_true p194
          replace q194 := eq_true q194
          go_wp2_with (first | ((with_reducible refine gate_dst (N := 9) rfl ?_); refine box_event ?hg (N := 9) ?hd (cs := #[.int .i8 0, .int .i8 0, .int .i8 0, .int .i8 0]) (t := 40) ?hr ?_; (case hd => rfl); (case hg => rfl); (case hr => first | (go_simp; done) | (go_simp; rfl)); intro gb195 hg w16 hbox hb; have n0_ := A_ (Kd.R_below (pr_ HO_7) hb); have n1_ := A_ (blk_below (g := gb190) (o := .cells #[.int .i8 a0_0, .int .i8 a0_1, .slice (some ad194) l0_2.length c0_2] 30 (0, 0)) (pl_ BK190) hb); have n2_ := A_ (below_step (bl_ HB) hb); have n3_ := A_ (hbox); have n4_ := A_ ((by rw [hg]; exact (below_size (bl_ HB)) : w.heap.size ≤ gb195)); have n5_ := n4_; have n6_ := A_ ((by rw [hg]; exact Nat.ne_of_lt (blk_lt (g := gb190) (o := .cells #[.int .i8 a0_0, .int .i8 a0_1, .slice (some ad194) l0_2.length c0_2] 30 (0, 0)) (pl_ BK190)) : gb190 ≠ gb195)); have n7_ := A_ ((by rw [hg]; exact Nat.ne_of_gt (blk_lt (g := gb190) (o := .cells #[.int .i8 a0_0, .int .i8 a0_1, .slice (some ad194) l0_2.length c0_2] 30 (0, 0)) (pl_ BK190)) : gb195 ≠ gb190)); clear HO_7; clear BK190; clear HB; have HO_7 := n0_; have BK190 := n1_; have HB := n2_; have BK195 := n3_; have GW195 := n4_; have GE195 := n5_; have NB190_195 := n6_; have NB195_190 := n7_; clear n0_ n1_ n2_ n3_ n4_ n5_ n6_ n7_; clear hb hbox hg; have hnb17 := NB195_190.out; have hnc17 := NB190_195.out; have hcz18_0 : w16.cell? ⟨gb195, 0, none⟩ = some (.int .i8 0) := (blk_cell BK195.out 0).trans rfl; have hcz18_1 : w16.cell? ⟨gb195, 1, none⟩ = some (.int .i8 0) := (blk_cell BK195.out 1).trans rfl; have hcz18_2 : w16.cell? ⟨gb195, 2, none⟩ = some (.int .i8 0) := (blk_cell BK195.out 2).trans rfl; have hcz18_3 : w16.cell? ⟨gb195, 3, none⟩ = some (.int .i8 0) := (blk_cell BK195.out 3).trans rfl; have hfz18_0 := blk_frozen BK195.out 0; have hfz18_1 := blk_frozen BK195.out 1; have hfz18_2 := blk_frozen BK195.out 2; have hfz18_3 := blk_frozen BK195.out 3) | ((with_reducible refine gate_dst (N := 20) rfl ?_); have p13 : 0 ≤ (a1 : Int) := asm_; have q13 : (a1 : Int) < 4 := asm_; have P13 := Aside0.mk p13; have Q13 := Aside0.mk q13; replace p13 := eq_true p13; replace q13 := eq_true q13; refine addr_event ?hg (N := 20) ?hd (v := .pointer (some ⟨gb195, (a1 : Int).toNat, none⟩)) ?hr ?_; (case hd => rfl); (case hg => rfl); (case hr => first | (go_simp; done) | (go_simp; rfl)); have n0_ : Aside0 (Kd.R (Kd.int .i64) 2 ((((w16.setCell ⟨gb195, 0, none⟩ (.int .i8 ((rd_T40 l0_2 x14_1).f0))).setCell ⟨gb195, 1, none⟩ (.int .i8 ((rd_T40 l0_2 x14_1).f1))).setCell ⟨gb195, 2, none⟩ (.int .i8 ((rd_T40 l0_2 x14_1).f2))).setCell ⟨gb195, 3, none⟩ (.int .i8 ((rd_T40 l0_2 x14_1).f3))) w.heap.size (fun _ => True) u7 x7_1) := ⟨by (with_reducible repeat (first | apply Kd.R_alloc | apply Kd.R_drewN | apply Kd.R_drew)); exact Kd.R_mono (Kd.R_far (p := ⟨gb195, 3, none⟩) (Kd.R_far (p := ⟨gb195, 2, none⟩) (Kd.R_far (p := ⟨gb195, 1, none⟩) (Kd.R_far (p := ⟨gb195, 0, none⟩) (Kd.R_types HO_7.out BK195.out (by decide)) (fun _ hk => hk.2) (.int .i8 ((rd_T40 l0_2 x14_1).f0))) (fun _ hk => hk.2) (.int .i8 ((rd_T40 l0_2 x14_1).f1))) (fun _ hk => hk.2) (.int .i8 ((rd_T40 l0_2 x14_1).f2))) (fun _ hk => hk.2) (.int .i8 ((rd_T40 l0_2 x14_1).f3))) (fun _ hk => trivial)⟩; have n1_ : Aside0 (((((w16.setCell ⟨gb195, 0, none⟩ (.int .i8 ((rd_T40 l0_2 x14_1).f0))).setCell ⟨gb195, 1, none⟩ (.int .i8 ((rd_T40 l0_2 x14_1).f1))).setCell ⟨gb195, 2, none⟩ (.int .i8 ((rd_T40 l0_2 x14_1).f2))).setCell ⟨gb195, 3, none⟩ (.int .i8 ((rd_T40 l0_2 x14_1).f3))).heap[gb190]? = some (.cells #[.int .i8 a0_0, .int .i8 a0_1, .slice (some ad194) l0_2.length c0_2] 30 (0, 0))) := ⟨pf_ BK190 NB190_195⟩; have n2_ : Aside0 (((((w16.setCell ⟨gb195, 0, none⟩ (.int .i8 ((rd_T40 l0_2 x14_1).f0))).setCell ⟨gb195, 1, none⟩ (.int .i8 ((rd_T40 l0_2 x14_1).f1))).setCell ⟨gb195, 2, none⟩ (.int .i8 ((rd_T40 l0_2 x14_1).f2))).setCell ⟨gb195, 3, none⟩ (.int .i8 ((rd_T40 l0_2 x14_1).f3))).heap[gb195]? = some (.cells #[.int .i8 ((rd_T40 l0_2 x14_1).f0), .int .i8 ((rd_T40 l0_2 x14_1).f1), .int .i8 ((rd_T40 l0_2 x14_1).f2), .int .i8 ((rd_T40 l0_2 x14_1).f3)] 40 (0, 0))) := ⟨by (with_reducible repeat (first | refine blk_drewN ?_ _ | refine blk_drew ?_ | refine blk_alloc ?_ _)); refine blk_put (cs := #[.int .i8 ((rd_T40 l0_2 x14_1).f0), .int .i8 ((rd_T40 l0_2 x14_1).f1), .int .i8 ((rd_T40 l0_2 x14_1).f2), .int .i8 0]) ?_ 3 _ rfl; (with_reducible repeat (first | refine blk_drewN ?_ _ | refine blk_drew ?_ | refine blk_alloc ?_ _)); refine blk_put (cs := #[.int .i8 ((rd_T40 l0_2 x14_1).f0), .int .i8 ((rd_T40 l0_2 x14_1).f1), .int .i8 0, .int .i8 0]) ?_ 2 _ rfl; (with_reducible repeat (first | refine blk_drewN ?_ _ | refine blk_drew ?_ | refine blk_alloc ?_ _)); refine blk_put (cs := #[.int .i8 ((rd_T40 l0_2 x14_1).f0), .int .i8 0, .int .i8 0, .int .i8 0]) ?_ 1 _ rfl; (with_reducible repeat (first | refine blk_drewN ?_ _ | refine blk_drew ?_ | refine blk_alloc ?_ _)); refine blk_put (cs := #[.int .i8 0, .int .i8 0, .int .i8 0, .int .i8 0]) ?_ 0 _ rfl; (with_reducible repeat (first | refine blk_drewN ?_ _ | refine blk_drew ?_ | refine blk_alloc ?_ _)); exact BK195.out⟩; have n3_ : Aside0 (Below w.heap.size w ((((w16.setCell ⟨gb195, 0, none⟩ (.int .i8 ((rd_T40 l0_2 x14_1).f0))).setCell ⟨gb195, 1, none⟩ (.int .i8 ((rd_T40 l0_2 x14_1).f1))).setCell ⟨gb195, 2, none⟩ (.int .i8 ((rd_T40 l0_2 x14_1).f2))).setCell ⟨gb195, 3, none⟩ (.int .i8 ((rd_T40 l0_2 x14_1).f3)))) := ⟨bs_ HB GE195⟩; (try clear HO_7); (try clear BK190); (try clear BK195); (try clear HB); generalize ((((w16.setCell ⟨gb195, 0, none⟩ (.int .i8 ((rd_T40 l0_2 x14_1).f0))).setCell ⟨gb195, 1, none⟩ (.int .i8 ((rd_T40 l0_2 x14_1).f1))).setCell ⟨gb195, 2, none⟩ (.int .i8 ((rd_T40 l0_2 x14_1).f2))).setCell ⟨gb195, 3, none⟩ (.int .i8 ((rd_T40 l0_2 x14_1).f3))) = w19 at n0_ n1_ n2_ n3_ ⊢; have HO_7 := n0_; have BK190 := n1_; have BK195 := n2_; have HB := n3_; clear n0_ n1_ n2_ n3_; have hx13 : w19.cell? ⟨gb195, (a1 : Int).toNat, none⟩ = some (.int .i8 (rd [(rd_T40 l0_2 x14_1).f0, (rd_T40 l0_2 x14_1).f1, (rd_T40 l0_2 x14_1).f2, (rd_T40 l0_2 x14_1).f3] a1)) := ard_cell (k := .i8) (l := [(rd_T40 l0_2 x14_1).f0, (rd_T40 l0_2 x14_1).f1, (rd_T40 l0_2 x14_1).f2, (rd_T40 l0_2 x14_1).f3]) BK195.out P13.out Q13.out; have hf13 := blk_frozen BK195.out (a1 : Int).toNat) | ((with_reducible refine gate_builtin (b := .append) (xs := #[.tmp 24, .tmp 26]) rfl ?_); at_builtin; refine Kd.R_append (Kd.int .i64) (w0 := w) w.heap.size rfl (.tmp 24) (.tmp 26) 46 2 (.int .i64 0) 8 rfl Try.underlying46 info2 rfl (by decide) (by omega) u7 x7_1 x14_1 [.int .i64 x14_1] (fun _ => True) (fun _ => False) rfl rfl ?aP (fun _ hk => hk.elim) ?aF ?aO ?aB ?aS ?aL ?_; (case aP => exact rfl); (case aB => exact (bl_ HB)); (case aF => exact (fun _ _ => trivial)); (case aO => exact (pr_ HO_7)); (case aS => exact (below_size (bl_ HB))); (case aL => have := LMc15.out; omega); intro v197 w20 ho hb hg hat; rw [← Ny196.out] at ho; have n0_ := A_ (blk_grown (g := gb190) (o := .cells #[.int .i8 a0_0, .int .i8 a0_1, .slice (some ad194) l0_2.length c0_2] 30 (0, 0)) (pl_ BK190) hg (Kd.R_ne HO_7.out BK190.out (by decide))); have n1_ := A_ (blk_grown (g := gb195) (o := .cells #[.int .i8 ((rd_T40 l0_2 x14_1).f0), .int .i8 ((rd_T40 l0_2 x14_1).f1), .int .i8 ((rd_T40 l0_2 x14_1).f2), .int .i8 ((rd_T40 l0_2 x14_1).f3)] 40 (0, 0)) (pl_ BK195) hg (Kd.R_ne HO_7.out BK195.out (by decide))); have n2_ := A_ (hb); have n3_ := A_ (ho); clear BK190; clear BK195; clear HB; clear HO_7; have BK190 := n0_; have BK195 := n1_; have HB := n2_; have HO198 := n3_; clear n0_ n1_ n2_ n3_; clear ho hb hg hat))
          go_roundg k1
          case measure => have := HK1.out; omega
          case rel => exact ⟨(y196), (wrap64 (x14_1 + 1)), rs_, H', ⟨by have := HK1.out; omega⟩, ⟨pr_ HO198⟩, ⟨pl_ BK190⟩, ⟨bl_ HB⟩⟩
         ·rw [if_neg c15] at H
          exact absurd H (by simp)
        ·rw [if_neg c14] at H
         have c14b0 : ((rd [(rd_T40 l0_2 x14_1).f0, (rd_T40 l0_2 x14_1).f1, (rd_T40 l0_2 x14_1).f2, (rd_T40 l0_2 x14_1).f3] a1) == a2) = false := beq_eq_false_iff_ne.mpr c14
         have c14b1 : ((rd [(rd_T40 l0_2 x14_1).f0, (rd_T40 l0_2 x14_1).f1, (rd_T40 l0_2 x14_1).f2, (rd_T40 l0_2 x14_1).f3] a1) != a2) = true := bne_iff_ne.mpr c14
         have H' := Aside0.mk H
         clear H
         have p194 : 0 ≤ (x14_1 : Int) := asm_
         have q194 : x14_1 < (l0_2.length : Int) := asm_
         obtain ⟨ad194, e194, hx194_0, hx194_1, hx194_2, hx194_3⟩ := at_T40 HR0_2.out x14_1 p194 q194
         cases e194
         (try replace hx194_0 := (HB.out.cell (World.block_lt_of_cell? w _ hx194_0)).trans hx194_0)
         (try replace hx194_1 := (HB.out.cell (World.block_lt_of_cell? w _ hx194_1)).trans hx194_1)
         (try replace hx194_2 := (HB.out.cell (World.block_lt_of_cell? w _ hx194_2)).trans hx194_2)
         (try replace hx194_3 := (HB.out.cell (World.block_lt_of_cell? w _ hx194_3)).trans hx194_3)
         replace p194 := eq_true p194
         replace q194 := eq_true q194
         go_wp2_with (first | ((with_reducible refine gate_dst (N := 9) rfl ?_); refine box_event ?hg (N := 9) ?hd (cs := #[.int .i8 0, .int .i8 0, .int .i8 0, .int .i8 0]) (t := 40) ?hr ?_; (case hd => rfl); (case hg => rfl); (case hr => first | (go_simp; done) | (go_simp; rfl)); intro gb195 hg w21 hbox hb; have n0_ := A_ (Kd.R_below (pr_ HO_7) hb); have n1_ := A_ (blk_below (g := gb190) (o := .cells #[.int .i8 a0_0, .int .i8 a0_1, .slice (some ad194) l0_2.length c0_2] 30 (0, 0)) (pl_ BK190) hb); have n2_ := A_ (below_step (bl_ HB) hb); have n3_ := A_ (hbox); have n4_ := A_ ((by rw [hg]; exact (below_size (bl_ HB)) : w.heap.size ≤ gb195)); have n5_ := n4_; have n6_ := A_ ((by rw [hg]; exact Nat.ne_of_lt (blk_lt (g := gb190) (o := .cells #[.int .i8 a0_0, .int .i8 a0_1, .slice (some ad194) l0_2.length c0_2] 30 (0, 0)) (pl_ BK190)) : gb190 ≠ gb195)); have n7_ := A_ ((by rw [hg]; exact Nat.ne_of_gt (blk_lt (g := gb190) (o := .cells #[.int .i8 a0_0, .int .i8 a0_1, .slice (some ad194) l0_2.length c0_2] 30 (0, 0)) (pl_ BK190)) : gb195 ≠ gb190)); clear HO_7; clear BK190; clear HB; have HO_7 := n0_; have BK190 := n1_; have HB := n2_; have BK195 := n3_; have GW195 := n4_; have GE195 := n5_; have NB190_195 := n6_; have NB195_190 := n7_; clear n0_ n1_ n2_ n3_ n4_ n5_ n6_ n7_; clear hb hbox hg; have hnb22 := NB195_190.out; have hnc22 := NB190_195.out; have hcz23_0 : w21.cell? ⟨gb195, 0, none⟩ = some (.int .i8 0) := (blk_cell BK195.out 0).trans rfl; have hcz23_1 : w21.cell? ⟨gb195, 1, none⟩ = some (.int .i8 0) := (blk_cell BK195.out 1).trans rfl; have hcz23_2 : w21.cell? ⟨gb195, 2, none⟩ = some (.int .i8 0) := (blk_cell BK195.out 2).trans rfl; have hcz23_3 : w21.cell? ⟨gb195, 3, none⟩ = some (.int .i8 0) := (blk_cell BK195.out 3).trans rfl; have hfz23_0 := blk_frozen BK195.out 0; have hfz23_1 := blk_frozen BK195.out 1; have hfz23_2 := blk_frozen BK195.out 2; have hfz23_3 := blk_frozen BK195.out 3) | ((with_reducible refine gate_dst (N := 20) rfl ?_); have p13 : 0 ≤ (a1 : Int) := asm_; have q13 : (a1 : Int) < 4 := asm_; have P13 := Aside0.mk p13; have Q13 := Aside0.mk q13; replace p13 := eq_true p13; replace q13 := eq_true q13; refine addr_event ?hg (N := 20) ?hd (v := .pointer (some ⟨gb195, (a1 : Int).toNat, none⟩)) ?hr ?_; (case hd => rfl); (case hg => rfl); (case hr => first | (go_simp; done) | (go_simp; rfl)); have n0_ : Aside0 (Kd.R (Kd.int .i64) 2 ((((w21.setCell ⟨gb195, 0, none⟩ (.int .i8 ((rd_T40 l0_2 x14_1).f0))).setCell ⟨gb195, 1, none⟩ (.int .i8 ((rd_T40 l0_2 x14_1).f1))).setCell ⟨gb195, 2, none⟩ (.int .i8 ((rd_T40 l0_2 x14_1).f2))).setCell ⟨gb195, 3, none⟩ (.int .i8 ((rd_T40 l0_2 x14_1).f3))) w.heap.size (fun _ => True) u7 x7_1) := ⟨by (with_reducible repeat (first | apply Kd.R_alloc | apply Kd.R_drewN | apply Kd.R_drew)); exact Kd.R_mono (Kd.R_far (p := ⟨gb195, 3, none⟩) (Kd.R_far (p := ⟨gb195, 2, none⟩) (Kd.R_far (p := ⟨gb195, 1, none⟩) (Kd.R_far (p := ⟨gb195, 0, none⟩) (Kd.R_types HO_7.out BK195.out (by decide)) (fun _ hk => hk.2) (.int .i8 ((rd_T40 l0_2 x14_1).f0))) (fun _ hk => hk.2) (.int .i8 ((rd_T40 l0_2 x14_1).f1))) (fun _ hk => hk.2) (.int .i8 ((rd_T40 l0_2 x14_1).f2))) (fun _ hk => hk.2) (.int .i8 ((rd_T40 l0_2 x14_1).f3))) (fun _ hk => trivial)⟩; have n1_ : Aside0 (((((w21.setCell ⟨gb195, 0, none⟩ (.int .i8 ((rd_T40 l0_2 x14_1).f0))).setCell ⟨gb195, 1, none⟩ (.int .i8 ((rd_T40 l0_2 x14_1).f1))).setCell ⟨gb195, 2, none⟩ (.int .i8 ((rd_T40 l0_2 x14_1).f2))).setCell ⟨gb195, 3, none⟩ (.int .i8 ((rd_T40 l0_2 x14_1).f3))).heap[gb190]? = some (.cells #[.int .i8 a0_0, .int .i8 a0_1, .slice (some ad194) l0_2.length c0_2] 30 (0, 0))) := ⟨pf_ BK190 NB190_195⟩; have n2_ : Aside0 (((((w21.setCell ⟨gb195, 0, none⟩ (.int .i8 ((rd_T40 l0_2 x14_1).f0))).setCell ⟨gb195, 1, none⟩ (.int .i8 ((rd_T40 l0_2 x14_1).f1))).setCell ⟨gb195, 2, none⟩ (.int .i8 ((rd_T40 l0_2 x14_1).f2))).setCell ⟨gb195, 3, none⟩ (.int .i8 ((rd_T40 l0_2 x14_1).f3))).heap[gb195]? = some (.cells #[.int .i8 ((rd_T40 l0_2 x14_1).f0), .int .i8 ((rd_T40 l0_2 x14_1).f1), .int .i8 ((rd_T40 l0_2 x14_1).f2), .int .i8 ((rd_T40 l0_2 x14_1).f3)] 40 (0, 0))) := ⟨by (with_reducible repeat (first | refine blk_drewN ?_ _ | refine blk_drew ?_ | refine blk_alloc ?_ _)); refine blk_put (cs := #[.int .i8 ((rd_T40 l0_2 x14_1).f0), .int .i8 ((rd_T40 l0_2 x14_1).f1), .int .i8 ((rd_T40 l0_2 x14_1).f2), .int .i8 0]) ?_ 3 _ rfl; (with_reducible repeat (first | refine blk_drewN ?_ _ | refine blk_drew ?_ | refine blk_alloc ?_ _)); refine blk_put (cs := #[.int .i8 ((rd_T40 l0_2 x14_1).f0), .int .i8 ((rd_T40 l0_2 x14_1).f1), .int .i8 0, .int .i8 0]) ?_ 2 _ rfl; (with_reducible repeat (first | refine blk_drewN ?_ _ | refine blk_drew ?_ | refine blk_alloc ?_ _)); refine blk_put (cs := #[.int .i8 ((rd_T40 l0_2 x14_1).f0), .int .i8 0, .int .i8 0, .int .i8 0]) ?_ 1 _ rfl; (with_reducible repeat (first | refine blk_drewN ?_ _ | refine blk_drew ?_ | refine blk_alloc ?_ _)); refine blk_put (cs := #[.int .i8 0, .int .i8 0, .int .i8 0, .int .i8 0]) ?_ 0 _ rfl; (with_reducible repeat (first | refine blk_drewN ?_ _ | refine blk_drew ?_ | refine blk_alloc ?_ _)); exact BK195.out⟩; have n3_ : Aside0 (Below w.heap.size w ((((w21.setCell ⟨gb195, 0, none⟩ (.int .i8 ((rd_T40 l0_2 x14_1).f0))).setCell ⟨gb195, 1, none⟩ (.int .i8 ((rd_T40 l0_2 x14_1).f1))).setCell ⟨gb195, 2, none⟩ (.int .i8 ((rd_T40 l0_2 x14_1).f2))).setCell ⟨gb195, 3, none⟩ (.int .i8 ((rd_T40 l0_2 x14_1).f3)))) := ⟨bs_ HB GE195⟩; (try clear HO_7); (try clear BK190); (try clear BK195); (try clear HB); generalize ((((w21.setCell ⟨gb195, 0, none⟩ (.int .i8 ((rd_T40 l0_2 x14_1).f0))).setCell ⟨gb195, 1, none⟩ (.int .i8 ((rd_T40 l0_2 x14_1).f1))).setCell ⟨gb195, 2, none⟩ (.int .i8 ((rd_T40 l0_2 x14_1).f2))).setCell ⟨gb195, 3, none⟩ (.int .i8 ((rd_T40 l0_2 x14_1).f3))) = w24 at n0_ n1_ n2_ n3_ ⊢; have HO_7 := n0_; have BK190 := n1_; have BK195 := n2_; have HB := n3_; clear n0_ n1_ n2_ n3_; have hx13 : w24.cell? ⟨gb195, (a1 : Int).toNat, none⟩ = some (.int .i8 (rd [(rd_T40 l0_2 x14_1).f0, (rd_T40 l0_2 x14_1).f1, (rd_T40 l0_2 x14_1).f2, (rd_T40 l0_2 x14_1).f3] a1)) := ard_cell (k := .i8) (l := [(rd_T40 l0_2 x14_1).f0, (rd_T40 l0_2 x14_1).f1, (rd_T40 l0_2 x14_1).f2, (rd_T40 l0_2 x14_1).f3]) BK195.out P13.out Q13.out; have hf13 := blk_frozen BK195.out (a1 : Int).toNat))
         go_roundg k1
         case measure => have := HK1.out; omega
         case rel => exact ⟨(x7_1), (wrap64 (x14_1 + 1)), rs_, H', ⟨by have := HK1.out; omega⟩, ⟨pr_ HO_7⟩, ⟨pl_ BK190⟩, ⟨bl_ HB⟩⟩
       ·rw [if_neg c12] at H
        exact absurd H (by simp)
      ·rw [if_neg c11] at H
       exact absurd H (by simp)
     ·rw [if_neg c10] at H
      exact absurd H (by simp)
    ·rw [if_neg c9] at H
     exact absurd H (by simp)
   ·rw [if_neg c8] at H
    have c8b0 : decide (x14_1 < (l0_2.length : Int)) = false := decide_eq_false c8
    clear c8
    obtain rfl := Option.some.inj H
    go_wp2
    go_ret
    exact ⟨_, by first | rfl | (simp [errW_none, errW_some] <;> rfl) | (simp [*, errW_none, errW_some] <;> rfl), pr_ HO_7, bl_ HB⟩

end Go.Proofs.Ytonifpgaagdohaa.M
