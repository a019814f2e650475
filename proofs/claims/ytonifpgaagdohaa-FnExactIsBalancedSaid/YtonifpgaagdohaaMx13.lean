-- By this seat's own program over the kit's printer (arrays, functions told by hand); nothing of it is trusted: the kernel checks it.
import Derived.Test.YtonifpgaagdohaaMx0
import Derived.Test.YtonifpgaagdohaaMx9
namespace Go.Proofs.Ytonifpgaagdohaa.M
open Go.RowKit Go.Proofs.YtonifpgaagdohaaW.PrintWords Go.Proofs.YtonifpgaagdohaaW.PrintLast Go.Proofs.YtonifpgaagdohaaW.PrintMore
attribute [local go_sem] max2_int min2_int max_two min_two max_three min_three max_four min_four   -- for this text's walks alone
set_option linter.unusedVariables false
set_option linter.unusedSimpArgs false

/-! ### spec_l04Balanced: function 42 -/
mutual
def spec_l04Balanced.l0 : Nat → Int → Int → Int → List (S40) → Option (Bool)
  | 0, _, _, _, _ => none
  | k + 1, x3, x231000, x231001, x231002 => if x3 < x231000 then (spec_l04Balanced.l1 k x3 0 0 x231000 x231001 x231002) else (some true)
def spec_l04Balanced.l1 : Nat → Int → Int → Int → Int → Int → List (S40) → Option (Bool)
  | 0, _, _, _, _, _, _ => none
  | k + 1, x3, x4, x5, x231000, x231001, x231002 => if x5 < (x231002.length : Int) then (if 0 ≤ x5 then (if 0 ≤ x3 then (if x3 < 4 then (spec_l04Balanced.l1 k x3 (wrap64 (x4 + (wrap64 (rd [(rd_T40 x231002 x5).f0, (rd_T40 x231002 x5).f1, (rd_T40 x231002 x5).f2, (rd_T40 x231002 x5).f3] x3)))) (wrap64 (x5 + 1)) x231000 x231001 x231002) else (none)) else (none)) else (none)) else (if x4 = 0 then (spec_l04Balanced.l0 k (IntKind.i8.wrap (x3 + 1)) x231000 x231001 x231002) else (some false))
end
def spec_l04Balanced.f (k : Nat) (a0_0 : Int) (a0_1 : Int) (l0_2 : List (S40)) : Option (Bool) := spec_l04Balanced.l0 k 0 a0_0 a0_1 l0_2
theorem spec_l04Balanced.mono_l : ∀ k, (∀ y0 y1 y2 y3, LeO (spec_l04Balanced.l0 k y0 y1 y2 y3) (spec_l04Balanced.l0 (k + 1) y0 y1 y2 y3)) ∧ (∀ y0 y1 y2 y3 y4 y5, LeO (spec_l04Balanced.l1 k y0 y1 y2 y3 y4 y5) (spec_l04Balanced.l1 (k + 1) y0 y1 y2 y3 y4 y5))
  | 0 => ⟨fun _ _ _ _ r h => by simp [spec_l04Balanced.l0] at h, fun _ _ _ _ _ _ r h => by simp [spec_l04Balanced.l1] at h⟩
  | k + 1 => by
    obtain ⟨ih0, ih1⟩ := spec_l04Balanced.mono_l k
    refine ⟨?_, ?_⟩
    · intro y0 y1 y2 y3
      unfold spec_l04Balanced.l0
      repeat' first
      | (with_reducible exact ih0 _ _ _ _)
      | (with_reducible exact ih1 _ _ _ _ _ _)
      | (with_reducible exact LeO.refl _)
      | (with_reducible exact LeO.none _)
      | (with_reducible refine LeO.ite ?_ ?_)
      | (with_reducible refine LeO.bind ?_ (fun _ => ?_))
      | exact ih0 _ _ _ _
      | exact ih1 _ _ _ _ _ _
      | exact LeO.none _
      | refine LeO.ite ?_ ?_
      | refine LeO.bind ?_ (fun _ => ?_)
    · intro y0 y1 y2 y3 y4 y5
      unfold spec_l04Balanced.l1
      repeat' first
      | (with_reducible exact ih0 _ _ _ _)
      | (with_reducible exact ih1 _ _ _ _ _ _)
      | (with_reducible exact LeO.refl _)
      | (with_reducible exact LeO.none _)
      | (with_reducible refine LeO.ite ?_ ?_)
      | (with_reducible refine LeO.bind ?_ (fun _ => ?_))
      | exact ih0 _ _ _ _
      | exact ih1 _ _ _ _ _ _
      | exact LeO.none _
      | refine LeO.ite ?_ ?_
      | refine LeO.bind ?_ (fun _ => ?_)
theorem spec_l04Balanced.mono : ∀ a0 a1 a2 k, LeO (spec_l04Balanced.f k a0 a1 a2) (spec_l04Balanced.f (k + 1) a0 a1 a2) := by
  intro a0 a1 a2 k
  obtain ⟨ih0, ih1⟩ := spec_l04Balanced.mono_l k
  unfold spec_l04Balanced.f
  repeat' first
      | (with_reducible exact ih0 _ _ _ _)
      | (with_reducible exact ih1 _ _ _ _ _ _)
      | (with_reducible exact LeO.refl _)
      | (with_reducible exact LeO.none _)
      | (with_reducible refine LeO.ite ?_ ?_)
      | (with_reducible refine LeO.bind ?_ (fun _ => ?_))
      | exact ih0 _ _ _ _
      | exact ih1 _ _ _ _ _ _
      | exact LeO.none _
      | refine LeO.ite ?_ ?_
      | refine LeO.bind ?_ (fun _ => ?_)
set_option maxHeartbeats 8000000 in
set_option maxRecDepth 100000 in
theorem spec_l04Balanced.calls (k : Nat) (gp0 : Nat) (a0_0 : Int) (a0_1 : Int) (A0_2 : Option Addr) (c0_2 : Nat) (l0_2 : List (S40)) (r : Bool) (w : World) (hb0 : w.heap[gp0]? = some (.cells #[.int .i8 a0_0, .int .i8 a0_1, .slice A0_2 l0_2.length c0_2] 30 (0, 0))) (hr0_2 : Kd.C k40 w A0_2 l0_2.length l0_2) (hc0_2 : l0_2.length ≤ c0_2) (h : spec_l04Balanced.f k a0_0 a0_1 l0_2 = some r) :
    Calls Try.prog 42 #[.pointer (some ⟨gp0, 0, none⟩)] w fun e w' => e = .returned (.bool r) ∧ Below w.heap.size w w' := by
  have HR0_2 := Aside0.mk hr0_2
  have HC0_2 := Aside0.mk hc0_2
  clear hr0_2 hc0_2
  have BK230 := Aside0.mk hb0
  clear hb0
  have HB := Aside0.mk (Below.refl w.heap.size w)
  have H : (spec_l04Balanced.l0 k 0 a0_0 a0_1 l0_2) = some r := h
  clear h
  have H' := Aside0.mk H
  clear H
  go_enter Try.func42, Try.ntmps42
  go_wp2
  go_loopg [3] k (fun kq v3 w' => ∃ (x3_1 : Int), v3 = .int .i8 x3_1 ∧ Aside0 (spec_l04Balanced.l0 kq x3_1 a0_0 a0_1 l0_2 = some r) ∧ Aside0 (kq ≤ k) ∧ Aside0 (w'.heap[gp0]? = some (.cells #[.int .i8 a0_0, .int .i8 a0_1, (.slice A0_2 l0_2.length c0_2)] 30 (0, 0))) ∧ Aside0 (Below w.heap.size w w'))
  case atStart => exact ⟨(0), (by first | rfl | (simp; done) | (simp [*]; done)), H', ⟨Nat.le_refl _⟩, ⟨by (with_reducible repeat (first | refine blk_drewN ?_ _ | refine blk_drew ?_ | refine blk_alloc ?_ _)); exact BK230.out⟩, ⟨by repeat (first | (with_reducible first | exact HB.out | apply below_alloc | apply pw_below_drewN | apply below_drew1 | refine below_set ?_ GE230.out) | exact HB.out)⟩⟩
  case round =>
    clear H'
    obtain ⟨x3_1, rfl, HA, HK1, BK230, HB⟩ := hrel
    cases gk with
    | zero => exact absurd HA.out (by simp [spec_l04Balanced.l0])
    | succ k1 =>
      have H := HA.out
      clear HA
      simp only [spec_l04Balanced.l0] at H
      by_cases c2 : x3_1 < a0_0
      · rw [if_pos c2] at H
        have c2b0 : decide (x3_1 < a0_0) = true := decide_eq_true c2
        clear c2
        have H' := Aside0.mk H
        clear H
        have hcz3_0 : wr.cell? ⟨gp0, 0, none⟩ = some (.int .i8 a0_0) := (blk_cell BK230.out 0).trans rfl
        have hcz3_1 : wr.cell? ⟨gp0, 1, none⟩ = some (.int .i8 a0_1) := (blk_cell BK230.out 1).trans rfl
        have hcz3_2 : wr.cell? ⟨gp0, 2, none⟩ = some (.slice A0_2 l0_2.length c0_2) := (blk_cell BK230.out 2).trans rfl
        have hfz3_0 := blk_frozen BK230.out 0
        have hfz3_1 := blk_frozen BK230.out 1
        have hfz3_2 := blk_frozen BK230.out 2
        go_wp2
        go_loopg [4, 5] k1 (fun kq v4 v5 w' => ∃ (x4_2 : Int) (x5_2 : Int), v4 = .int .i64 x4_2 ∧ v5 = .int .i64 x5_2 ∧ Aside0 (spec_l04Balanced.l1 kq x3_1 x4_2 x5_2 a0_0 a0_1 l0_2 = some r) ∧ Aside0 (kq ≤ k1) ∧ Aside0 (w'.heap[gp0]? = some (.cells #[.int .i8 a0_0, .int .i8 a0_1, (.slice A0_2 l0_2.length c0_2)] 30 (0, 0))) ∧ Aside0 (Below w.heap.size w w'))
        case atStart => exact ⟨(0), (0), (by first | rfl | (simp; done) | (simp [*]; done)), (by first | rfl | (simp; done) | (simp [*]; done)), H', ⟨Nat.le_refl _⟩, ⟨by (with_reducible repeat (first | refine blk_drewN ?_ _ | refine blk_drew ?_ | refine blk_alloc ?_ _)); exact BK230.out⟩, ⟨by repeat (first | (with_reducible first | exact HB.out | apply below_alloc | apply pw_below_drewN | apply below_drew1 | refine below_set ?_ GE230.out) | exact HB.out)⟩⟩
        case round =>
          clear H'
          try clear c2
          try clear c2b0
          try clear p2
          try clear hcz3_0
          try clear hcz3_1
          try clear hcz3_2
          try clear hfz3_0
          try clear hfz3_1
          try clear hfz3_2
          obtain ⟨x4_2, x5_2, rfl, rfl, HA, HK2, BK230, HB⟩ := hrel
          cases gk with
          | zero => exact absurd HA.out (by simp [spec_l04Balanced.l1])
          | succ k2 =>
            have H := HA.out
            clear HA
            simp only [spec_l04Balanced.l1] at H
            by_cases c4 : x5_2 < (l0_2.length : Int)
            · rw [if_pos c4] at H
              have c4b0 : decide (x5_2 < (l0_2.length : Int)) = true := decide_eq_true c4
              clear c4
              by_cases c5 : 0 ≤ x5_2
              · rw [if_pos c5] at H
                have c5b0 : decide (0 ≤ x5_2) = true := decide_eq_true c5
                clear c5
                by_cases c6 : 0 ≤ x3_1
                · rw [if_pos c6] at H
                  have c6b0 : decide (0 ≤ x3_1) = true := decide_eq_true c6
                  clear c6
                  by_cases c7 : x3_1 < 4
                  · rw [if_pos c7] at H
                    have c7b0 : decide (x3_1 < 4) = true := decide_eq_true c7
                    clear c7
                    have H' := Aside0.mk H
                    clear H
                    have hcz9_0 : wr.cell? ⟨gp0, 0, none⟩ = some (.int .i8 a0_0) := (blk_cell BK230.out 0).trans rfl
                    have hcz9_1 : wr.cell? ⟨gp0, 1, none⟩ = some (.int .i8 a0_1) := (blk_cell BK230.out 1).trans rfl
                    have hcz9_2 : wr.cell? ⟨gp0, 2, none⟩ = some (.slice A0_2 l0_2.length c0_2) := (blk_cell BK230.out 2).trans rfl
                    have hfz9_0 := blk_frozen BK230.out 0
                    have hfz9_1 := blk_frozen BK230.out 1
                    have hfz9_2 := blk_frozen BK230.out 2
                    have p231 : 0 ≤ (x5_2 : Int) := of_decide_eq_true (by first | (with_reducible assumption) | assumption)
                    have q231 : x5_2 < (l0_2.length : Int) := of_decide_eq_true (by first | (with_reducible assumption) | assumption)
                    obtain ⟨ad231, e231, hx231_0, hx231_1, hx231_2, hx231_3⟩ := at_T40 HR0_2.out x5_2 p231 q231
                    cases e231
                    replace hx231_0 := (HB.out.cell (World.block_lt_of_cell? w _ hx231_0)).trans hx231_0
                    replace hx231_1 := (HB.out.cell (World.block_lt_of_cell? w _ hx231_1)).trans hx231_1
                    replace hx231_2 := (HB.out.cell (World.block_lt_of_cell? w _ hx231_2)).trans hx231_2
                    replace hx231_3 := (HB.out.cell (World.block_lt_of_cell? w _ hx231_3)).trans hx231_3
                    replace p231 := eq_true p231
                    replace q231 := eq_true q231
                    have p8 : 0 ≤ (x3_1 : Int) := of_decide_eq_true (by first | (with_reducible assumption) | assumption)
                    have q8 : (x3_1 : Int) < 4 := of_decide_eq_true (by first | (with_reducible assumption) | assumption)
                    have hx8 : ∀ W_ : World, (W_.cell? (ad231.add ((x5_2).toNat * 4)) = some (.int .i8 ((rd_T40 l0_2 x5_2).f0)) ∧ W_.cell? ⟨(ad231.add ((x5_2).toNat * 4)).block, (ad231.add ((x5_2).toNat * 4)).off + 1, none⟩ = some (.int .i8 ((rd_T40 l0_2 x5_2).f1)) ∧ W_.cell? ⟨(ad231.add ((x5_2).toNat * 4)).block, (ad231.add ((x5_2).toNat * 4)).off + 2, none⟩ = some (.int .i8 ((rd_T40 l0_2 x5_2).f2)) ∧ W_.cell? ⟨(ad231.add ((x5_2).toNat * 4)).block, (ad231.add ((x5_2).toNat * 4)).off + 3, none⟩ = some (.int .i8 ((rd_T40 l0_2 x5_2).f3))) → W_.cell? (Addr.add (ad231.add ((x5_2).toNat * 4)) (x3_1 : Int).toNat) = some (.int .i8 (rd [(rd_T40 l0_2 x5_2).f0, (rd_T40 l0_2 x5_2).f1, (rd_T40 l0_2 x5_2).f2, (rd_T40 l0_2 x5_2).f3] x3_1)) := fun W_ ⟨y0_, y1_, y2_, y3_⟩ => ard_at (k := .i8) (l := [(rd_T40 l0_2 x5_2).f0, (rd_T40 l0_2 x5_2).f1, (rd_T40 l0_2 x5_2).f2, (rd_T40 l0_2 x5_2).f3]) (a := (ad231.add ((x5_2).toNat * 4))) (fun n_ x_ h_ => by match n_, h_ with | 0, h_ => (cases h_; exact y0_) | 1, h_ => (cases h_; exact y1_) | 2, h_ => (cases h_; exact y2_) | 3, h_ => (cases h_; exact y3_) | n_ + 4, h_ => simp at h_) p8 q8
                    replace hx8 := hx8 _ ⟨hx231_0, hx231_1, hx231_2, hx231_3⟩
                    replace p8 := eq_true p8
                    replace q8 := eq_true q8
                    go_wp2
                    go_roundg k2
                    case measure => have := HK1.out; have := HK2.out; omega
                    case rel => exact ⟨(wrap64 (x4_2 + (wrap64 (rd [(rd_T40 l0_2 x5_2).f0, (rd_T40 l0_2 x5_2).f1, (rd_T40 l0_2 x5_2).f2, (rd_T40 l0_2 x5_2).f3] x3_1)))), (wrap64 (x5_2 + 1)), (by first | rfl | (simp; done) | (simp [*]; done)), (by first | rfl | (simp; done) | (simp [*]; done)), H', ⟨by have := HK1.out; have := HK2.out; omega⟩, ⟨by (with_reducible repeat (first | refine blk_drewN ?_ _ | refine blk_drew ?_ | refine blk_alloc ?_ _)); exact BK230.out⟩, ⟨by repeat (first | (with_reducible first | exact HB.out | apply below_alloc | apply pw_below_drewN | apply below_drew1 | refine below_set ?_ GE230.out) | exact HB.out)⟩⟩
                  · rw [if_neg c7] at H
                    exact absurd H (by simp)
                · rw [if_neg c6] at H
                  exact absurd H (by simp)
              · rw [if_neg c5] at H
                exact absurd H (by simp)
            · rw [if_neg c4] at H
              have c4b0 : decide (x5_2 < (l0_2.length : Int)) = false := decide_eq_false c4
              clear c4
              by_cases c10 : x4_2 = 0
              · rw [if_pos c10] at H
                have c10b0 : (x4_2 == 0) = true := beq_iff_eq.mpr c10
                have c10b1 : (x4_2 != 0) = false := bne_eq_false_iff_eq.mpr c10
                clear c10
                have H' := Aside0.mk H
                clear H
                have hcz11_0 : wr.cell? ⟨gp0, 0, none⟩ = some (.int .i8 a0_0) := (blk_cell BK230.out 0).trans rfl
                have hcz11_1 : wr.cell? ⟨gp0, 1, none⟩ = some (.int .i8 a0_1) := (blk_cell BK230.out 1).trans rfl
                have hcz11_2 : wr.cell? ⟨gp0, 2, none⟩ = some (.slice A0_2 l0_2.length c0_2) := (blk_cell BK230.out 2).trans rfl
                have hfz11_0 := blk_frozen BK230.out 0
                have hfz11_1 := blk_frozen BK230.out 1
                have hfz11_2 := blk_frozen BK230.out 2
                go_wp2
                go_roundg k2
                case measure => have := HK1.out; have := HK2.out; omega
                case rel => exact ⟨(IntKind.i8.wrap (x3_1 + 1)), (by first | rfl | (simp; done) | (simp [*]; done)), H', ⟨by have := HK1.out; have := HK2.out; omega⟩, ⟨by (with_reducible repeat (first | refine blk_drewN ?_ _ | refine blk_drew ?_ | refine blk_alloc ?_ _)); exact BK230.out⟩, ⟨by repeat (first | (with_reducible first | exact HB.out | apply below_alloc | apply pw_below_drewN | apply below_drew1 | refine below_set ?_ GE230.out) | exact HB.out)⟩⟩
              · rw [if_neg c10] at H
                have c10b0 : (x4_2 == 0) = false := beq_eq_false_iff_ne.mpr c10
                have c10b1 : (x4_2 != 0) = true := bne_iff_ne.mpr c10
                obtain rfl := Option.some.inj H
                have hcz12_0 : wr.cell? ⟨gp0, 0, none⟩ = some (.int .i8 a0_0) := (blk_cell BK230.out 0).trans rfl
                have hcz12_1 : wr.cell? ⟨gp0, 1, none⟩ = some (.int .i8 a0_1) := (blk_cell BK230.out 1).trans rfl
                have hcz12_2 : wr.cell? ⟨gp0, 2, none⟩ = some (.slice A0_2 l0_2.length c0_2) := (blk_cell BK230.out 2).trans rfl
                have hfz12_0 := blk_frozen BK230.out 0
                have hfz12_1 := blk_frozen BK230.out 1
                have hfz12_2 := blk_frozen BK230.out 2
                go_wp2
                go_ret
                exact ⟨by first | rfl | (simp [errW_none, errW_some] <;> rfl) | (simp [*, errW_none, errW_some] <;> rfl), by repeat (first | (with_reducible first | exact HB.out | apply below_alloc | apply pw_below_drewN | apply below_drew1 | refine below_set ?_ GE230.out) | exact HB.out)⟩
      · rw [if_neg c2] at H
        have c2b0 : decide (x3_1 < a0_0) = false := decide_eq_false c2
        clear c2
        obtain rfl := Option.some.inj H
        have hcz13_0 : wr.cell? ⟨gp0, 0, none⟩ = some (.int .i8 a0_0) := (blk_cell BK230.out 0).trans rfl
        have hcz13_1 : wr.cell? ⟨gp0, 1, none⟩ = some (.int .i8 a0_1) := (blk_cell BK230.out 1).trans rfl
        have hcz13_2 : wr.cell? ⟨gp0, 2, none⟩ = some (.slice A0_2 l0_2.length c0_2) := (blk_cell BK230.out 2).trans rfl
        have hfz13_0 := blk_frozen BK230.out 0
        have hfz13_1 := blk_frozen BK230.out 1
        have hfz13_2 := blk_frozen BK230.out 2
        go_wp2
        go_ret
        exact ⟨by first | rfl | (simp [errW_none, errW_some] <;> rfl) | (simp [*, errW_none, errW_some] <;> rfl), by repeat (first | (with_reducible first | exact HB.out | apply below_alloc | apply pw_below_drewN | apply below_drew1 | refine below_set ?_ GE230.out) | exact HB.out)⟩

/-! ### spec_IsBalanced: function 16 -/
def spec_IsBalanced.f (k : Nat) (a0_0 : Int) (a0_1 : Int) (l0_2 : List (S40)) : Option (Bool × Int) := (spec_l04Ok.f k a0_0 a0_1 l0_2).bind fun t233 => (if t233 = true then ((spec_l04Balanced.f k a0_0 a0_1 l0_2).bind fun t234 => (some (t234, 0))) else (some (false, 1)))
theorem spec_IsBalanced.mono : ∀ a0 a1 a2 k, LeO (spec_IsBalanced.f k a0 a1 a2) (spec_IsBalanced.f (k + 1) a0 a1 a2) := by
  intro a0 a1 a2 k
  unfold spec_IsBalanced.f
  repeat' first
      | (with_reducible exact spec_l04Balanced.mono _ _ _ _)
      | (with_reducible exact spec_l04Ok.mono _ _ _ _)
      | (with_reducible exact LeO.refl _)
      | (with_reducible exact LeO.none _)
      | (with_reducible refine LeO.ite ?_ ?_)
      | (with_reducible refine LeO.bind ?_ (fun _ => ?_))
      | exact spec_l04Balanced.mono _ _ _ _
      | exact spec_l04Ok.mono _ _ _ _
      | exact LeO.none _
      | refine LeO.ite ?_ ?_
      | refine LeO.bind ?_ (fun _ => ?_)
set_option maxHeartbeats 8000000 in
set_option maxRecDepth 100000 in
theorem spec_IsBalanced.calls (k : Nat) (a0_0 : Int) (a0_1 : Int) (A0_2 : Option Addr) (c0_2 : Nat) (l0_2 : List (S40)) (r1 : Bool) (r2 : Int) (w : World) (hr0_2 : Kd.C k40 w A0_2 l0_2.length l0_2) (hc0_2 : l0_2.length ≤ c0_2) (h : spec_IsBalanced.f k a0_0 a0_1 l0_2 = some (r1, r2)) :
    Calls Try.prog 16 #[.agg #[.int .i8 a0_0, .int .i8 a0_1, .slice A0_2 l0_2.length c0_2]] w fun e w' => e = .returned (.tuple #[.bool r1, .int .i64 r2]) ∧ Below w.heap.size w w' := by
  have hu30 := Try.underlying30
  have HR0_2 := Aside0.mk hr0_2
  have HC0_2 := Aside0.mk hc0_2
  clear hr0_2 hc0_2
  have HB := Aside0.mk (Below.refl w.heap.size w)
  have H : ((spec_l04Ok.f k a0_0 a0_1 l0_2).bind fun t233 => (if t233 = true then ((spec_l04Balanced.f k a0_0 a0_1 l0_2).bind fun t234 => (some (t234, 0))) else (some (false, 1)))) = some (r1, r2) := h
  clear h
  replace H := Option.bind_eq_some_iff.mp H
  obtain ⟨t233, A20, H⟩ := H
  replace H : (if t233 = true then ((spec_l04Balanced.f k a0_0 a0_1 l0_2).bind fun t234 => (some (t234, 0))) else (some (false, 1))) = some (r1, r2) := H
  have A2 := Aside0.mk A20
  clear A20
  by_cases c3 : t233 = true
  · subst c3
    have H1 : ((spec_l04Balanced.f k a0_0 a0_1 l0_2).bind fun t234 => (some (t234, 0))) = some (r1, r2) := by rw [if_pos rfl] at H; exact H
    clear H
    have H := H1
    clear H1
    replace H := Option.bind_eq_some_iff.mp H
    obtain ⟨t234, A40, H⟩ := H
    replace H : (some (t234, 0)) = some (r1, r2) := H
    have A4 := Aside0.mk A40
    clear A40
    simp only [Option.some.injEq, Prod.mk.injEq] at H
    obtain ⟨rfl, rfl⟩ := H
    go_enter Try.func16, Try.ntmps16
    go_wp2_with (first | ((with_reducible refine gate_dst (N := 1) rfl ?_); refine box_event ?hg (N := 1) ?hd (cs := #[.int .i8 a0_0, .int .i8 a0_1, .slice A0_2 l0_2.length c0_2]) (t := 30) ?hr ?_; (case hd => rfl); (case hg => rfl); (case hr => first | (go_simp; done) | (go_simp; rfl)); intro gb232 hg w5 hbox hb; have n0_ := Aside0.mk (below_step (by repeat (first | (with_reducible first | exact HB.out | apply below_alloc | apply pw_below_drewN | apply below_drew1) | exact HB.out)) hb); have n1_ := Aside0.mk (hbox); have n2_ := Aside0.mk ((by rw [hg]; exact (below_size (by repeat (first | (with_reducible first | exact HB.out | apply below_alloc | apply pw_below_drewN | apply below_drew1) | exact HB.out))) : w.heap.size ≤ gb232)); have n3_ := Aside0.mk ((by rw [hg]; exact (below_size (by repeat (first | (with_reducible first | exact HB.out | apply below_alloc | apply pw_below_drewN | apply below_drew1) | exact HB.out))) : w.heap.size ≤ gb232)); clear HB; have HB := n0_; have BK232 := n1_; have GW232 := n2_; have GE232 := n3_; clear n0_ n1_ n2_ n3_; clear hb hbox hg) | ((with_reducible refine gate_callee (f := 34) rfl ?_); refine goesL_ (some 4) rfl rfl Try.func34 (by kernel_rfl) rfl #[.pointer (some ⟨gb232, 0, none⟩)] rfl (by (try simp only [List.map_toArray, List.map_cons, List.map_nil]); first | done | rfl | (simp only [List.length_drop, List.length_take]; rfl)) ?_; (with_reducible refine (spec_l04Ok.calls k gb232 a0_0 a0_1 A0_2 c0_2 l0_2 true _ ?side1 ?side2 ?side3 A2.out).mono ?_); (case side1 => exact (by (with_reducible repeat (first | refine blk_drewN ?_ _ | refine blk_drew ?_ | refine blk_alloc ?_ _)); exact BK232.out)); (case side2 => repeat (first | exact (Kd.C_below HR0_2.out HB.out) | (with_reducible refine Kd.C_alloc ?_ _) | (with_reducible refine Kd.C_drewN ?_ _) | (with_reducible refine Kd.C_drew ?_))); (case side3 => exact HC0_2.out); rintro e w6 ⟨rfl, hb⟩; refine ⟨_, rfl, ?_⟩; have n0_ := Aside0.mk (blk_below (g := gb232) (o := .cells #[.int .i8 a0_0, .int .i8 a0_1, .slice A0_2 l0_2.length c0_2] 30 (0, 0)) (by (with_reducible repeat (first | refine blk_drewN ?_ _ | refine blk_drew ?_ | refine blk_alloc ?_ _)); exact BK232.out) hb); have n1_ := Aside0.mk (below_step (by repeat (first | (with_reducible first | exact HB.out | apply below_alloc | apply pw_below_drewN | apply below_drew1 | refine below_set ?_ GE232.out) | exact HB.out)) hb); clear BK232; clear HB; have BK232 := n0_; have HB := n1_; clear n0_ n1_; (try clear hb); (try clear hb2); (try clear hk); (try clear hi)) | ((with_reducible refine gate_callee (f := 42) rfl ?_); refine goesL_ (some 6) rfl rfl Try.func42 (by kernel_rfl) rfl #[.pointer (some ⟨gb232, 0, none⟩)] rfl (by (try simp only [List.map_toArray, List.map_cons, List.map_nil]); first | done | rfl | (simp only [List.length_drop, List.length_take]; rfl)) ?_; (with_reducible refine (spec_l04Balanced.calls k gb232 a0_0 a0_1 A0_2 c0_2 l0_2 t234 _ ?side1 ?side2 ?side3 A4.out).mono ?_); (case side1 => exact (by (with_reducible repeat (first | refine blk_drewN ?_ _ | refine blk_drew ?_ | refine blk_alloc ?_ _)); exact BK232.out)); (case side2 => repeat (first | exact (Kd.C_below HR0_2.out HB.out) | (with_reducible refine Kd.C_alloc ?_ _) | (with_reducible refine Kd.C_drewN ?_ _) | (with_reducible refine Kd.C_drew ?_))); (case side3 => exact HC0_2.out); rintro e w7 ⟨rfl, hb⟩; refine ⟨_, rfl, ?_⟩; have n0_ := Aside0.mk (blk_below (g := gb232) (o := .cells #[.int .i8 a0_0, .int .i8 a0_1, .slice A0_2 l0_2.length c0_2] 30 (0, 0)) (by (with_reducible repeat (first | refine blk_drewN ?_ _ | refine blk_drew ?_ | refine blk_alloc ?_ _)); exact BK232.out) hb); have n1_ := Aside0.mk (below_step (by repeat (first | (with_reducible first | exact HB.out | apply below_alloc | apply pw_below_drewN | apply below_drew1 | refine below_set ?_ GE232.out) | exact HB.out)) hb); clear BK232; clear HB; have BK232 := n0_; have HB := n1_; clear n0_ n1_; (try clear hb); (try clear hb2); (try clear hk); (try clear hi)))
    go_ret2
    exact ⟨by first | rfl | (simp [errW_none, errW_some] <;> rfl) | (simp [*, errW_none, errW_some] <;> rfl), by repeat (first | (with_reducible first | exact HB.out | apply below_alloc | apply pw_below_drewN | apply below_drew1 | refine below_set ?_ GE232.out) | exact HB.out)⟩
  · replace c3 := Bool.eq_false_iff.mpr c3
    subst c3
    have H1 : (some (false, 1)) = some (r1, r2) := by rw [if_neg (show ¬ (false = true) by decide)] at H; exact H
    clear H
    have H := H1
    clear H1
    simp only [Option.some.injEq, Prod.mk.injEq] at H
    obtain ⟨rfl, rfl⟩ := H
    go_enter Try.func16, Try.ntmps16
    go_wp2_with (first | ((with_reducible refine gate_dst (N := 1) rfl ?_); refine box_event ?hg (N := 1) ?hd (cs := #[.int .i8 a0_0, .int .i8 a0_1, .slice A0_2 l0_2.length c0_2]) (t := 30) ?hr ?_; (case hd => rfl); (case hg => rfl); (case hr => first | (go_simp; done) | (go_simp; rfl)); intro gb232 hg w8 hbox hb; have n0_ := Aside0.mk (below_step (by repeat (first | (with_reducible first | exact HB.out | apply below_alloc | apply pw_below_drewN | apply below_drew1) | exact HB.out)) hb); have n1_ := Aside0.mk (hbox); have n2_ := Aside0.mk ((by rw [hg]; exact (below_size (by repeat (first | (with_reducible first | exact HB.out | apply below_alloc | apply pw_below_drewN | apply below_drew1) | exact HB.out))) : w.heap.size ≤ gb232)); have n3_ := Aside0.mk ((by rw [hg]; exact (below_size (by repeat (first | (with_reducible first | exact HB.out | apply below_alloc | apply pw_below_drewN | apply below_drew1) | exact HB.out))) : w.heap.size ≤ gb232)); clear HB; have HB := n0_; have BK232 := n1_; have GW232 := n2_; have GE232 := n3_; clear n0_ n1_ n2_ n3_; clear hb hbox hg) | ((with_reducible refine gate_callee (f := 34) rfl ?_); refine goesL_ (some 4) rfl rfl Try.func34 (by kernel_rfl) rfl #[.pointer (some ⟨gb232, 0, none⟩)] rfl (by (try simp only [List.map_toArray, List.map_cons, List.map_nil]); first | done | rfl | (simp only [List.length_drop, List.length_take]; rfl)) ?_; (with_reducible refine (spec_l04Ok.calls k gb232 a0_0 a0_1 A0_2 c0_2 l0_2 false _ ?side1 ?side2 ?side3 A2.out).mono ?_); (case side1 => exact (by (with_reducible repeat (first | refine blk_drewN ?_ _ | refine blk_drew ?_ | refine blk_alloc ?_ _)); exact BK232.out)); (case side2 => repeat (first | exact (Kd.C_below HR0_2.out HB.out) | (with_reducible refine Kd.C_alloc ?_ _) | (with_reducible refine Kd.C_drewN ?_ _) | (with_reducible refine Kd.C_drew ?_))); (case side3 => exact HC0_2.out); rintro e w9 ⟨rfl, hb⟩; refine ⟨_, rfl, ?_⟩; have n0_ := Aside0.mk (blk_below (g := gb232) (o := .cells #[.int .i8 a0_0, .int .i8 a0_1, .slice A0_2 l0_2.length c0_2] 30 (0, 0)) (by (with_reducible repeat (first | refine blk_drewN ?_ _ | refine blk_drew ?_ | refine blk_alloc ?_ _)); exact BK232.out) hb); have n1_ := Aside0.mk (below_step (by repeat (first | (with_reducible first | exact HB.out | apply below_alloc | apply pw_below_drewN | apply below_drew1 | refine below_set ?_ GE232.out) | exact HB.out)) hb); clear BK232; clear HB; have BK232 := n0_; have HB := n1_; clear n0_ n1_; (try clear hb); (try clear hb2); (try clear hk); (try clear hi)))
    go_ret2
    exact ⟨by first | rfl | (simp [errW_none, errW_some] <;> rfl) | (simp [*, errW_none, errW_some] <;> rfl), by repeat (first | (with_reducible first | exact HB.out | apply below_alloc | apply pw_below_drewN | apply below_drew1 | refine below_set ?_ GE232.out) | exact HB.out)⟩

end Go.Proofs.Ytonifpgaagdohaa.M
