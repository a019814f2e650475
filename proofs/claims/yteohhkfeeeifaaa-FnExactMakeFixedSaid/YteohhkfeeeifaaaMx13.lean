-- By this seat's own program over the kit's printer (arrays, functions told by hand); nothing of it is trusted: the kernel checks it.
import Derived.Test.YteohhkfeeeifaaaMx0
namespace Go.Proofs.Yteohhkfeeeifaaa.M
open Go.RowKit Go.Proofs.YteohhkfeeeifaaaW.PrintWords Go.Proofs.YteohhkfeeeifaaaW.PrintLast Go.Proofs.YteohhkfeeeifaaaW.PrintMore
attribute [local go_sem] max2_int min2_int max_two min_two max_three min_three max_four min_four   -- for this text's walks alone
set_option linter.unusedVariables false
set_option linter.unusedSimpArgs false

/-! ### impl_begins: function 49 -/
mutual
def impl_begins.j1 : Nat → Int → Int → Int → Int → Int → Int → Int → Option (Bool)
 | 0, _, _, _, _, _, _, _ => none
 | k + 1, x0, x1, x7, x176000, x176001, x176002, x176003 => if x176000 = (-1) then (impl_begins.j2 k x1 x7 (x7 == x0) x176000 x176001 x176002 x176003) else (impl_begins.j2 k x1 x7 true x176000 x176001 x176002 x176003)
def impl_begins.j2 : Nat → Int → Int → Bool → Int → Int → Int → Int → Option (Bool)
 | 0, _, _, _, _, _, _, _ => none
 | k + 1, x1, x7, x30, x176000, x176001, x176002, x176003 => if x30 = true then (some false) else (if x1 = 2 then (if 0 ≤ x7 then (if x7 < 4 then (some ((rd [x176000, x176001, x176002, x176003] x7) == 0)) else (none)) else (none)) else (some true))
def impl_begins.l0 : Nat → Int → Int → Int → Int → Int → Int → Int → Option (Bool)
 | 0, _, _, _, _, _, _, _ => none
 | k + 1, x0, x1, x7, x176000, x176001, x176002, x176003 => if x7 < x0 then (if 0 ≤ x7 then (if x7 < 4 then (if 0 ≤ (wrap64 (x7 - 1)) then (if (wrap64 (x7 - 1)) < 4 then (if (rd [x176000, x176001, x176002, x176003] x7) = (rd [x176000, x176001, x176002, x176003] (wrap64 (x7 - 1))) then (impl_begins.l0 k x0 x1 (wrap64 (x7 + 1)) x176000 x176001 x176002 x176003) else (impl_begins.j1 k x0 x1 x7 x176000 x176001 x176002 x176003)) else (none)) else (none)) else (none)) else (none)) else (impl_begins.j1 k x0 x1 x7 x176000 x176001 x176002 x176003)
end
def impl_begins.f (k : Nat) (a0 : Int) (a1 : Int) (a2_0 : Int) (a2_1 : Int) (a2_2 : Int) (a2_3 : Int) : Option (Bool) := impl_begins.l0 k a0 a1 1 a2_0 a2_1 a2_2 a2_3
theorem impl_begins.mono_l : ∀ k, (∀ y0 y1 y2 y3 y4 y5 y6, LeO (impl_begins.j1 k y0 y1 y2 y3 y4 y5 y6) (impl_begins.j1 (k + 1) y0 y1 y2 y3 y4 y5 y6)) ∧ (∀ y0 y1 y2 y3 y4 y5 y6, LeO (impl_begins.j2 k y0 y1 y2 y3 y4 y5 y6) (impl_begins.j2 (k + 1) y0 y1 y2 y3 y4 y5 y6)) ∧ (∀ y0 y1 y2 y3 y4 y5 y6, LeO (impl_begins.l0 k y0 y1 y2 y3 y4 y5 y6) (impl_begins.l0 (k + 1) y0 y1 y2 y3 y4 y5 y6))
 | 0 => ⟨fun _ _ _ _ _ _ _ r h => by simp [impl_begins.j1] at h, fun _ _ _ _ _ _ _ r h => by simp [impl_begins.j2] at h, fun _ _ _ _ _ _ _ r h => by simp [impl_begins.l0] at h⟩
 | k + 1 => by
  obtain ⟨ih0, ih1, ih2⟩ := impl_begins.mono_l k
  refine ⟨?_, ?_, ?_⟩
  ·intro y0 y1 y2 y3 y4 y5 y6
   unfold impl_begins.j1
   repeat' first
   | (with_reducible exact ih0 _ _ _ _ _ _ _)
   | (with_reducible exact ih1 _ _ _ _ _ _ _)
   | (with_reducible exact ih2 _ _ _ _ _ _ _)
   | (with_reducible exact LeO.refl _)
   | (with_reducible exact LeO.none _)
   | (with_reducible refine LeO.ite ?_ ?_)
   | (with_reducible refine LeO.bind ?_ (fun _ => ?_))
   | exact ih0 _ _ _ _ _ _ _
   | exact ih1 _ _ _ _ _ _ _
   | exact ih2 _ _ _ _ _ _ _
   | exact LeO.none _
   | refine LeO.ite ?_ ?_
   | refine LeO.bind ?_ (fun _ => ?_)
  ·intro y0 y1 y2 y3 y4 y5 y6
   unfold impl_begins.j2
   repeat' first
   | (with_reducible exact ih0 _ _ _ _ _ _ _)
   | (with_reducible exact ih1 _ _ _ _ _ _ _)
   | (with_reducible exact ih2 _ _ _ _ _ _ _)
   | (with_reducible exact LeO.refl _)
   | (with_reducible exact LeO.none _)
   | (with_reducible refine LeO.ite ?_ ?_)
   | (with_reducible refine LeO.bind ?_ (fun _ => ?_))
   | exact ih0 _ _ _ _ _ _ _
   | exact ih1 _ _ _ _ _ _ _
   | exact ih2 _ _ _ _ _ _ _
   | exact LeO.none _
   | refine LeO.ite ?_ ?_
   | refine LeO.bind ?_ (fun _ => ?_)
  ·intro y0 y1 y2 y3 y4 y5 y6
   unfold impl_begins.l0
   repeat' first
   | (with_reducible exact ih0 _ _ _ _ _ _ _)
   | (with_reducible exact ih1 _ _ _ _ _ _ _)
   | (with_reducible exact ih2 _ _ _ _ _ _ _)
   | (with_reducible exact LeO.refl _)
   | (with_reducible exact LeO.none _)
   | (with_reducible refine LeO.ite ?_ ?_)
   | (with_reducible refine LeO.bind ?_ (fun _ => ?_))
   | exact ih0 _ _ _ _ _ _ _
   | exact ih1 _ _ _ _ _ _ _
   | exact ih2 _ _ _ _ _ _ _
   | exact LeO.none _
   | refine LeO.ite ?_ ?_
   | refine LeO.bind ?_ (fun _ => ?_)
theorem impl_begins.mono : ∀ a0 a1 a2 a3 a4 a5 k, LeO (impl_begins.f k a0 a1 a2 a3 a4 a5) (impl_begins.f (k + 1) a0 a1 a2 a3 a4 a5) := by
 intro a0 a1 a2 a3 a4 a5 k
 obtain ⟨ih0, ih1, ih2⟩ := impl_begins.mono_l k
 unfold impl_begins.f
 repeat' first
   | (with_reducible exact ih0 _ _ _ _ _ _ _)
   | (with_reducible exact ih1 _ _ _ _ _ _ _)
   | (with_reducible exact ih2 _ _ _ _ _ _ _)
   | (with_reducible exact LeO.refl _)
   | (with_reducible exact LeO.none _)
   | (with_reducible refine LeO.ite ?_ ?_)
   | (with_reducible refine LeO.bind ?_ (fun _ => ?_))
   | exact ih0 _ _ _ _ _ _ _
   | exact ih1 _ _ _ _ _ _ _
   | exact ih2 _ _ _ _ _ _ _
   | exact LeO.none _
   | refine LeO.ite ?_ ?_
   | refine LeO.bind ?_ (fun _ => ?_)
set_option maxHeartbeats 8000000 in
set_option maxRecDepth 100000 in
theorem impl_begins.calls (k : Nat) (a0 : Int) (a1 : Int) (a2_0 : Int) (a2_1 : Int) (a2_2 : Int) (a2_3 : Int) (r : Bool) (w : World) (h : impl_begins.f k a0 a1 a2_0 a2_1 a2_2 a2_3 = some r) :
  Calls Try.prog 49 #[.int .i64 a0, .int .i64 a1, .agg #[.int .i8 a2_0, .int .i8 a2_1, .int .i8 a2_2, .int .i8 a2_3]] w fun e w' => e = .returned (.bool r) ∧ Below w.heap.size w w' := by
 have hu24 := Try.underlying24
 have HB := Aside0.mk (Below.refl w.heap.size w)
 have H : (impl_begins.l0 k a0 a1 1 a2_0 a2_1 a2_2 a2_3) = some r := h
 clear h
 have HC4 := Aside0.mk H
 clear H
 go_enter Try.func49, Try.ntmps49
 go_upto_block 0 with (first | ((with_reducible refine gate_dst (N := 5) rfl ?_); refine box_event ?hg (N := 5) ?hd (cs := #[.int .i8 a2_0, .int .i8 a2_1, .int .i8 a2_2, .int .i8 a2_3]) (t := 24) ?hr ?_; (case hd => rfl); (case hg => rfl); (case hr => first | (go_simp; done) | (go_simp; rfl)); intro gb175 hg w5 hbox hb; have n0_ := Aside0.mk (below_step (bl_ HB) hb); have n1_ := Aside0.mk (hbox); have n2_ := Aside0.mk ((by rw [hg]; exact (below_size (bl_ HB)) : w.heap.size ≤ gb175)); have n3_ := Aside0.mk ((by rw [hg]; exact (below_size (bl_ HB)) : w.heap.size ≤ gb175)); clear HB; have HB := n0_; have BK175 := n1_; have GW175 := n2_; have GE175 := n3_; clear n0_ n1_ n2_ n3_; clear hb hbox hg))
 repeat (go_quiet (first | ((with_reducible refine gate_dst (N := 5) rfl ?_); refine box_event ?hg (N := 5) ?hd (cs := #[.int .i8 a2_0, .int .i8 a2_1, .int .i8 a2_2, .int .i8 a2_3]) (t := 24) ?hr ?_; (case hd => rfl); (case hg => rfl); (case hr => first | (go_simp; done) | (go_simp; rfl)); intro gb175 hg w5 hbox hb; have n0_ := Aside0.mk (below_step (bl_ HB) hb); have n1_ := Aside0.mk (hbox); have n2_ := Aside0.mk ((by rw [hg]; exact (below_size (bl_ HB)) : w.heap.size ≤ gb175)); have n3_ := Aside0.mk ((by rw [hg]; exact (below_size (bl_ HB)) : w.heap.size ≤ gb175)); clear HB; have HB := n0_; have BK175 := n1_; have GW175 := n2_; have GE175 := n3_; clear n0_ n1_ n2_ n3_; clear hb hbox hg)); go_upto_block 0 with (first | ((with_reducible refine gate_dst (N := 5) rfl ?_); refine box_event ?hg (N := 5) ?hd (cs := #[.int .i8 a2_0, .int .i8 a2_1, .int .i8 a2_2, .int .i8 a2_3]) (t := 24) ?hr ?_; (case hd => rfl); (case hg => rfl); (case hr => first | (go_simp; done) | (go_simp; rfl)); intro gb175 hg w5 hbox hb; have n0_ := Aside0.mk (below_step (bl_ HB) hb); have n1_ := Aside0.mk (hbox); have n2_ := Aside0.mk ((by rw [hg]; exact (below_size (bl_ HB)) : w.heap.size ≤ gb175)); have n3_ := Aside0.mk ((by rw [hg]; exact (below_size (bl_ HB)) : w.heap.size ≤ gb175)); clear HB; have HB := n0_; have BK175 := n1_; have GW175 := n2_; have GE175 := n3_; clear n0_ n1_ n2_ n3_; clear hb hbox hg)))
 (try simp only [Act.put, List.setIfInBounds_toArray, List.set_cons_zero, List.set_cons_succ])
 go_cut [7] (fun v7 wc => ∃ (kq : Nat) (x7_3 : Int), v7 = .int .i64 x7_3 ∧ Aside0 (impl_begins.j1 kq a0 a1 x7_3 a2_0 a2_1 a2_2 a2_3 = some r) ∧ Aside0 (kq ≤ k) ∧ Aside0 (wc.heap[gb175]? = some (.cells #[.int .i8 a2_0, .int .i8 a2_1, .int .i8 a2_2, .int .i8 a2_3] 24 (0, 0))) ∧ Aside0 (Below w.heap.size w wc))
 case first =>
  have H := HC4.out
  clear HC4
  have H' := Aside0.mk H
  clear H
  go_wp2
  repeat (go_quiet (fail); try go_wp2)
  go_loopg [7] k (fun kq v7 w' => ∃ (x7_1 : Int), v7 = .int .i64 x7_1 ∧ Aside0 (impl_begins.l0 kq a0 a1 x7_1 a2_0 a2_1 a2_2 a2_3 = some r) ∧ Aside0 (kq ≤ k) ∧ Aside0 (w'.heap[gb175]? = some (.cells #[.int .i8 a2_0, .int .i8 a2_1, .int .i8 a2_2, .int .i8 a2_3] 24 (0, 0))) ∧ Aside0 (Below w.heap.size w w'))
  case atStart => exact ⟨(1), (by first | rfl | (simp; done) | (simp [*]; done)), H', ⟨Nat.le_refl _⟩, ⟨pl_ BK175⟩, ⟨by repeat (first | (with_reducible first | exact HB.out | apply below_alloc | apply pw_below_drewN | apply below_drew1 | refine below_set ?_ GE175.out) | exact HB.out)⟩⟩
  case round =>
   clear H'
   try clear p2
   try clear c4
   obtain ⟨x7_1, rfl, HA, HK1, BK175, HB⟩ := hrel
   cases gk with
   | zero => exact absurd HA.out (by simp [impl_begins.l0])
   | succ k1 =>
    have H := HA.out
    clear HA
    simp only [impl_begins.l0] at H
    by_cases c6 : x7_1 < a0
    ·rw [if_pos c6] at H
     have c6b0 : decide (x7_1 < a0) = true := decide_eq_true c6
     clear c6
     (first | rw [c6b0] | (simp only [i64_w, i32_w]; rw [c6b0]) | skip)
     by_cases c7 : 0 ≤ x7_1
     ·rw [if_pos c7] at H
      have c7b0 : decide (0 ≤ x7_1) = true := decide_eq_true c7
      clear c7
      by_cases c8 : x7_1 < 4
      ·rw [if_pos c8] at H
       have c8b0 : decide (x7_1 < 4) = true := decide_eq_true c8
       clear c8
       obtain ⟨ji10, hji10⟩ : ∃ j_ : Int, (wrap64 (x7_1 - 1)) = j_ := ⟨_, rfl⟩
       replace H : (if 0 ≤ (ji10) then (if (ji10) < 4 then (if (rd [a2_0, a2_1, a2_2, a2_3] x7_1) = (rd [a2_0, a2_1, a2_2, a2_3] (ji10)) then (impl_begins.l0 k1 a0 a1 (wrap64 (x7_1 + 1)) a2_0 a2_1 a2_2 a2_3) else (impl_begins.j1 k1 a0 a1 x7_1 a2_0 a2_1 a2_2 a2_3)) else (none)) else (none)) = some r := by first | (rw [hji10] at H; exact H) | (simp only [hji10] at H ⊢; exact H)
       have hji10w : (IntKind.i64.wrap (x7_1 - 1)) = ji10 := (i64_w _).trans hji10
       by_cases c11 : 0 ≤ (ji10)
       ·rw [if_pos c11] at H
        have c11b0 : decide (0 ≤ (ji10)) = true := decide_eq_true c11
        clear c11
        by_cases c12 : (ji10) < 4
        ·rw [if_pos c12] at H
         have c12b0 : decide ((ji10) < 4) = true := decide_eq_true c12
         clear c12
         by_cases c14 : (rd [a2_0, a2_1, a2_2, a2_3] x7_1) = (rd [a2_0, a2_1, a2_2, a2_3] (ji10))
         ·rw [if_pos c14] at H
          have c14b0 : ((rd [a2_0, a2_1, a2_2, a2_3] x7_1) == (rd [a2_0, a2_1, a2_2, a2_3] (ji10))) = true := beq_iff_eq.mpr c14
          have c14b1 : ((rd [a2_0, a2_1, a2_2, a2_3] x7_1) != (rd [a2_0, a2_1, a2_2, a2_3] (ji10))) = false := bne_eq_false_iff_eq.mpr c14
          clear c14
          have H' := Aside0.mk H
          clear H
          have hcz15_0 : wr.cell? ⟨gb175, 0, none⟩ = some (.int .i8 a2_0) := (blk_cell BK175.out 0).trans rfl
          have hcz15_1 : wr.cell? ⟨gb175, 1, none⟩ = some (.int .i8 a2_1) := (blk_cell BK175.out 1).trans rfl
          have hcz15_2 : wr.cell? ⟨gb175, 2, none⟩ = some (.int .i8 a2_2) := (blk_cell BK175.out 2).trans rfl
          have hcz15_3 : wr.cell? ⟨gb175, 3, none⟩ = some (.int .i8 a2_3) := (blk_cell BK175.out 3).trans rfl
          have hfz15_0 := blk_frozen BK175.out 0
          have hfz15_1 := blk_frozen BK175.out 1
          have hfz15_2 := blk_frozen BK175.out 2
          have hfz15_3 := blk_frozen BK175.out 3
          have p9 : 0 ≤ (x7_1 : Int) := asm_
          have q9 : (x7_1 : Int) < 4 := asm_
          have hx9 : wr.cell? ⟨gb175, (x7_1 : Int).toNat, none⟩ = some (.int .i8 (rd [a2_0, a2_1, a2_2, a2_3] x7_1)) := ard_cell (k := .i8) (l := [a2_0, a2_1, a2_2, a2_3]) BK175.out p9 q9
          have hf9 := blk_frozen BK175.out (x7_1 : Int).toNat
          have P9 := Aside0.mk p9
          have Q9 := Aside0.mk q9
          replace p9 := eq_true p9
          replace q9 := eq_true q9
          have p13 : 0 ≤ ((ji10) : Int) := asm_
          have q13 : ((ji10) : Int) < 4 := asm_
          have hx13 : wr.cell? ⟨gb175, ((ji10) : Int).toNat, none⟩ = some (.int .i8 (rd [a2_0, a2_1, a2_2, a2_3] (ji10))) := ard_cell (k := .i8) (l := [a2_0, a2_1, a2_2, a2_3]) BK175.out p13 q13
          have hf13 := blk_frozen BK175.out ((ji10) : Int).toNat
          have P13 := Aside0.mk p13
          have Q13 := Aside0.mk q13
          replace p13 := eq_true p13
          replace q13 := eq_true q13
          go_wp2
          repeat (go_quiet (fail); try go_wp2)
          go_roundg k1
          case measure => have := HK1.out; omega
          case rel => exact ⟨(wrap64 (x7_1 + 1)), (by first | rfl | (simp; done) | (simp [*]; done)), H', ⟨by have := HK1.out; omega⟩, ⟨pl_ BK175⟩, ⟨by repeat (first | (with_reducible first | exact HB.out | apply below_alloc | apply pw_below_drewN | apply below_drew1 | refine below_set ?_ GE175.out) | exact HB.out)⟩⟩
         ·rw [if_neg c14] at H
          have c14b0 : ((rd [a2_0, a2_1, a2_2, a2_3] x7_1) == (rd [a2_0, a2_1, a2_2, a2_3] (ji10))) = false := beq_eq_false_iff_ne.mpr c14
          have c14b1 : ((rd [a2_0, a2_1, a2_2, a2_3] x7_1) != (rd [a2_0, a2_1, a2_2, a2_3] (ji10))) = true := bne_iff_ne.mpr c14
          have H' := Aside0.mk H
          clear H
          have hcz16_0 : wr.cell? ⟨gb175, 0, none⟩ = some (.int .i8 a2_0) := (blk_cell BK175.out 0).trans rfl
          have hcz16_1 : wr.cell? ⟨gb175, 1, none⟩ = some (.int .i8 a2_1) := (blk_cell BK175.out 1).trans rfl
          have hcz16_2 : wr.cell? ⟨gb175, 2, none⟩ = some (.int .i8 a2_2) := (blk_cell BK175.out 2).trans rfl
          have hcz16_3 : wr.cell? ⟨gb175, 3, none⟩ = some (.int .i8 a2_3) := (blk_cell BK175.out 3).trans rfl
          have hfz16_0 := blk_frozen BK175.out 0
          have hfz16_1 := blk_frozen BK175.out 1
          have hfz16_2 := blk_frozen BK175.out 2
          have hfz16_3 := blk_frozen BK175.out 3
          have p9 : 0 ≤ (x7_1 : Int) := asm_
          have q9 : (x7_1 : Int) < 4 := asm_
          have hx9 : wr.cell? ⟨gb175, (x7_1 : Int).toNat, none⟩ = some (.int .i8 (rd [a2_0, a2_1, a2_2, a2_3] x7_1)) := ard_cell (k := .i8) (l := [a2_0, a2_1, a2_2, a2_3]) BK175.out p9 q9
          have hf9 := blk_frozen BK175.out (x7_1 : Int).toNat
          have P9 := Aside0.mk p9
          have Q9 := Aside0.mk q9
          replace p9 := eq_true p9
          replace q9 := eq_true q9
          have p13 : 0 ≤ ((ji10) : Int) := asm_
          have q13 : ((ji10) : Int) < 4 := asm_
          have hx13 : wr.cell? ⟨gb175, ((ji10) : Int).toNat, none⟩ = some (.int .i8 (rd [a2_0, a2_1, a2_2, a2_3] (ji10))) := ard_cell (k := .i8) (l := [a2_0, a2_1, a2_2, a2_3]) BK175.out p13 q13
          have hf13 := blk_frozen BK175.out ((ji10) : Int).toNat
          have P13 := Aside0.mk p13
          have Q13 := Aside0.mk q13
          replace p13 := eq_true p13
          replace q13 := eq_true q13
          go_wp2
          repeat (go_quiet (fail); try go_wp2)
          go_meet
          case rel => exact ⟨_, (x7_1), (by first | rfl | (simp; done) | (simp [*]; done)), H', ⟨by have := HK1.out; first | omega | exact Nat.le_refl _⟩, ⟨pl_ BK175⟩, ⟨by repeat (first | (with_reducible first | exact HB.out | apply below_alloc | apply pw_below_drewN | apply below_drew1 | refine below_set ?_ GE175.out) | exact HB.out)⟩⟩
        ·rw [if_neg c12] at H
         exact absurd H (by simp)
       ·rw [if_neg c11] at H
        exact absurd H (by simp)
      ·rw [if_neg c8] at H
       exact absurd H (by simp)
     ·rw [if_neg c7] at H
      exact absurd H (by simp)
    ·rw [if_neg c6] at H
     have c6b0 : decide (x7_1 < a0) = false := decide_eq_false c6
     clear c6
     (first | rw [c6b0] | (simp only [i64_w, i32_w]; rw [c6b0]) | skip)
     have H' := Aside0.mk H
     clear H
     go_wp2
     repeat (go_quiet (fail); try go_wp2)
     go_meet
     case rel => exact ⟨_, (x7_1), (by first | rfl | (simp; done) | (simp [*]; done)), H', ⟨by have := HK1.out; first | omega | exact Nat.le_refl _⟩, ⟨pl_ BK175⟩, ⟨by repeat (first | (with_reducible first | exact HB.out | apply below_alloc | apply pw_below_drewN | apply below_drew1 | refine below_set ?_ GE175.out) | exact HB.out)⟩⟩
 case rest =>
  clear HC4
  try clear c1
  try clear p1
  try clear q1
  try clear hx1
  try clear p2
  try clear c4
  try clear c6
  try clear c6b0
  try clear p6
  try clear c7
  try clear c7b0
  try clear c8
  try clear c8b0
  try clear p9
  try clear q9
  try clear hx9
  try clear hf9
  try clear c11
  try clear c11b0
  try clear c12
  try clear c12b0
  try clear p13
  try clear q13
  try clear hx13
  try clear hf13
  try clear c14
  try clear c14b0
  try clear c14b1
  try clear hcz15_0
  try clear hcz15_1
  try clear hcz15_2
  try clear hcz15_3
  try clear hcz16_0
  try clear hcz16_1
  try clear hcz16_2
  try clear hcz16_3
  try clear hfz15_0
  try clear hfz15_1
  try clear hfz15_2
  try clear hfz15_3
  try clear hfz16_0
  try clear hfz16_1
  try clear hfz16_2
  try clear hfz16_3
  try clear p13
  try clear p2
  try clear p9
  try clear q13
  try clear q9
  obtain ⟨kq, x7_3, rfl, HA, HJ3, BK175, HB⟩ := hcut
  cases kq with
  | zero => exact absurd HA.out (by simp [impl_begins.j1])
  | succ kj3 =>
   have H := HA.out
   clear HA
   simp only [impl_begins.j1] at H
   have HC17 := Aside0.mk H
   clear H
   go_upto_region 4 with (fail)
   repeat (go_quiet (fail); go_upto_region 4 with (fail))
   go_cut [30] (fun v30 wc => ∃ (kq : Nat) (x30_16 : Bool), v30 = .bool x30_16 ∧ Aside0 (impl_begins.j2 kq a1 x7_3 x30_16 a2_0 a2_1 a2_2 a2_3 = some r) ∧ Aside0 (kq ≤ kj3) ∧ Aside0 (wc.heap[gb175]? = some (.cells #[.int .i8 a2_0, .int .i8 a2_1, .int .i8 a2_2, .int .i8 a2_3] 24 (0, 0))) ∧ Aside0 (Below w.heap.size w wc))
   case first =>
    have H := HC17.out
    clear HC17
    by_cases c18 : a2_0 = (-1)
    ·rw [if_pos c18] at H
     have c18b0 : (a2_0 == (-1)) = true := beq_iff_eq.mpr c18
     have c18b1 : (a2_0 != (-1)) = false := bne_eq_false_iff_eq.mpr c18
     clear c18
     (first | rw [c18b0] | (simp only [i64_w, i32_w]; rw [c18b0]) | skip)
     have H' := Aside0.mk H
     clear H
     have hcz19_0 : wc.cell? ⟨gb175, 0, none⟩ = some (.int .i8 a2_0) := (blk_cell BK175.out 0).trans rfl
     have hcz19_1 : wc.cell? ⟨gb175, 1, none⟩ = some (.int .i8 a2_1) := (blk_cell BK175.out 1).trans rfl
     have hcz19_2 : wc.cell? ⟨gb175, 2, none⟩ = some (.int .i8 a2_2) := (blk_cell BK175.out 2).trans rfl
     have hcz19_3 : wc.cell? ⟨gb175, 3, none⟩ = some (.int .i8 a2_3) := (blk_cell BK175.out 3).trans rfl
     have hfz19_0 := blk_frozen BK175.out 0
     have hfz19_1 := blk_frozen BK175.out 1
     have hfz19_2 := blk_frozen BK175.out 2
     have hfz19_3 := blk_frozen BK175.out 3
     go_wp2
     repeat (go_quiet (fail); try go_wp2)
     go_meet
     case rel => exact ⟨_, ((x7_3 == a0)), (by first | rfl | (simp; done) | (simp [*]; done)), H', ⟨by have := HJ3.out; first | omega | exact Nat.le_refl _⟩, ⟨pl_ BK175⟩, ⟨by repeat (first | (with_reducible first | exact HB.out | apply below_alloc | apply pw_below_drewN | apply below_drew1 | refine below_set ?_ GE175.out) | exact HB.out)⟩⟩
    ·rw [if_neg c18] at H
     have c18b0 : (a2_0 == (-1)) = false := beq_eq_false_iff_ne.mpr c18
     have c18b1 : (a2_0 != (-1)) = true := bne_iff_ne.mpr c18
     (first | rw [c18b0] | (simp only [i64_w, i32_w]; rw [c18b0]) | skip)
     have H' := Aside0.mk H
     clear H
     have hcz20_0 : wc.cell? ⟨gb175, 0, none⟩ = some (.int .i8 a2_0) := (blk_cell BK175.out 0).trans rfl
     have hcz20_1 : wc.cell? ⟨gb175, 1, none⟩ = some (.int .i8 a2_1) := (blk_cell BK175.out 1).trans rfl
     have hcz20_2 : wc.cell? ⟨gb175, 2, none⟩ = some (.int .i8 a2_2) := (blk_cell BK175.out 2).trans rfl
     have hcz20_3 : wc.cell? ⟨gb175, 3, none⟩ = some (.int .i8 a2_3) := (blk_cell BK175.out 3).trans rfl
     have hfz20_0 := blk_frozen BK175.out 0
     have hfz20_1 := blk_frozen BK175.out 1
     have hfz20_2 := blk_frozen BK175.out 2
     have hfz20_3 := blk_frozen BK175.out 3
     go_wp2
     repeat (go_quiet (fail); try go_wp2)
     go_meet
     case rel => exact ⟨_, (true), (by first | rfl | (simp; done) | (simp [*]; done)), H', ⟨by have := HJ3.out; first | omega | exact Nat.le_refl _⟩, ⟨pl_ BK175⟩, ⟨by repeat (first | (with_reducible first | exact HB.out | apply below_alloc | apply pw_below_drewN | apply below_drew1 | refine below_set ?_ GE175.out) | exact HB.out)⟩⟩
   case rest =>
    clear HC17
    try clear c1
    try clear p1
    try clear q1
    try clear hx1
    try clear p2
    try clear c4
    try clear c6
    try clear c6b0
    try clear p6
    try clear c7
    try clear c7b0
    try clear c8
    try clear c8b0
    try clear p9
    try clear q9
    try clear hx9
    try clear hf9
    try clear c11
    try clear c11b0
    try clear c12
    try clear c12b0
    try clear p13
    try clear q13
    try clear hx13
    try clear hf13
    try clear c14
    try clear c14b0
    try clear c14b1
    try clear c18
    try clear c18b0
    try clear c18b1
    try clear hcz15_0
    try clear hcz15_1
    try clear hcz15_2
    try clear hcz15_3
    try clear hcz16_0
    try clear hcz16_1
    try clear hcz16_2
    try clear hcz16_3
    try clear hcz19_0
    try clear hcz19_1
    try clear hcz19_2
    try clear hcz19_3
    try clear hcz20_0
    try clear hcz20_1
    try clear hcz20_2
    try clear hcz20_3
    try clear hfz15_0
    try clear hfz15_1
    try clear hfz15_2
    try clear hfz15_3
    try clear hfz16_0
    try clear hfz16_1
    try clear hfz16_2
    try clear hfz16_3
    try clear hfz19_0
    try clear hfz19_1
    try clear hfz19_2
    try clear hfz19_3
    try clear hfz20_0
    try clear hfz20_1
    try clear hfz20_2
    try clear hfz20_3
    try clear p1
    try clear p13
    try clear p2
    try clear p6
    try clear p9
    try clear q1
    try clear q13
    try clear q9
    obtain ⟨kq, x30_16, rfl, HA, HJ16, BK175, HB⟩ := hcut
    cases kq with
    | zero => exact absurd HA.out (by simp [impl_begins.j2])
    | succ kj16 =>
     have H := HA.out
     clear HA
     simp only [impl_begins.j2] at H
     by_cases c21 : x30_16 = true
     ·subst c21
      have H1 : (some false) = some r := by rw [if_pos rfl] at H; exact H
      clear H
      have H := H1
      clear H1
      obtain rfl := Option.some.inj H
      go_wp2
      repeat (go_quiet (fail); try go_wp2)
      go_ret
      exact ⟨by first | rfl | (simp [errW_none, errW_some] <;> rfl) | (simp [*, errW_none, errW_some] <;> rfl), by repeat (first | (with_reducible first | exact HB.out | apply below_alloc | apply pw_below_drewN | apply below_drew1 | refine below_set ?_ GE175.out) | exact HB.out)⟩
     ·replace c21 := Bool.eq_false_iff.mpr c21
      subst c21
      have H1 : (if a1 = 2 then (if 0 ≤ x7_3 then (if x7_3 < 4 then (some ((rd [a2_0, a2_1, a2_2, a2_3] x7_3) == 0)) else (none)) else (none)) else (some true)) = some r := by rw [if_neg (show ¬ (false = true) by decide)] at H; exact H
      clear H
      have H := H1
      clear H1
      by_cases c22 : a1 = 2
      ·rw [if_pos c22] at H
       have c22b0 : (a1 == 2) = true := beq_iff_eq.mpr c22
       have c22b1 : (a1 != 2) = false := bne_eq_false_iff_eq.mpr c22
       clear c22
       by_cases c23 : 0 ≤ x7_3
       ·rw [if_pos c23] at H
        have c23b0 : decide (0 ≤ x7_3) = true := decide_eq_true c23
        clear c23
        by_cases c24 : x7_3 < 4
        ·rw [if_pos c24] at H
         have c24b0 : decide (x7_3 < 4) = true := decide_eq_true c24
         clear c24
         obtain rfl := Option.some.inj H
         have hcz26_0 : wc.cell? ⟨gb175, 0, none⟩ = some (.int .i8 a2_0) := (blk_cell BK175.out 0).trans rfl
         have hcz26_1 : wc.cell? ⟨gb175, 1, none⟩ = some (.int .i8 a2_1) := (blk_cell BK175.out 1).trans rfl
         have hcz26_2 : wc.cell? ⟨gb175, 2, none⟩ = some (.int .i8 a2_2) := (blk_cell BK175.out 2).trans rfl
         have hcz26_3 : wc.cell? ⟨gb175, 3, none⟩ = some (.int .i8 a2_3) := (blk_cell BK175.out 3).trans rfl
         have hfz26_0 := blk_frozen BK175.out 0
         have hfz26_1 := blk_frozen BK175.out 1
         have hfz26_2 := blk_frozen BK175.out 2
         have hfz26_3 := blk_frozen BK175.out 3
         have p25 : 0 ≤ (x7_3 : Int) := asm_
         have q25 : (x7_3 : Int) < 4 := asm_
         have hx25 : wc.cell? ⟨gb175, (x7_3 : Int).toNat, none⟩ = some (.int .i8 (rd [a2_0, a2_1, a2_2, a2_3] x7_3)) := ard_cell (k := .i8) (l := [a2_0, a2_1, a2_2, a2_3]) BK175.out p25 q25
         have hf25 := blk_frozen BK175.out (x7_3 : Int).toNat
         have P25 := Aside0.mk p25
         have Q25 := Aside0.mk q25
         replace p25 := eq_true p25
         replace q25 := eq_true q25
         go_wp2
         repeat (go_quiet (fail); try go_wp2)
         go_ret
         exact ⟨by first | rfl | (simp [errW_none, errW_some] <;> rfl) | (simp [*, errW_none, errW_some] <;> rfl), by repeat (first | (with_reducible first | exact HB.out | apply below_alloc | apply pw_below_drewN | apply below_drew1 | refine below_set ?_ GE175.out) | exact HB.out)⟩
        ·rw [if_neg c24] at H
         exact absurd H (by simp)
       ·rw [if_neg c23] at H
        exact absurd H (by simp)
      ·rw [if_neg c22] at H
       have c22b0 : (a1 == 2) = false := beq_eq_false_iff_ne.mpr c22
       have c22b1 : (a1 != 2) = true := bne_iff_ne.mpr c22
       obtain rfl := Option.some.inj H
       go_wp2
       repeat (go_quiet (fail); try go_wp2)
       go_ret
       exact ⟨by first | rfl | (simp [errW_none, errW_some] <;> rfl) | (simp [*, errW_none, errW_some] <;> rfl), by repeat (first | (with_reducible first | exact HB.out | apply below_alloc | apply pw_below_drewN | apply below_drew1 | refine below_set ?_ GE175.out) | exact HB.out)⟩

end Go.Proofs.Yteohhkfeeeifaaa.M
