-- By this seat's own program over the kit's printer (arrays, functions told by hand); nothing of it is trusted: the kernel checks it.
import Derived.Test.YtodmfjophjhbeaaMx0
namespace Go.Proofs.Ytodmfjophjhbeaa.M
open Go.RowKit Go.Proofs.YtodmfjophjhbeaaW.PrintWords Go.Proofs.YtodmfjophjhbeaaW.PrintLast Go.Proofs.YtodmfjophjhbeaaW.PrintMore
attribute [local go_sem] max2_int min2_int max_two min_two max_three min_three max_four min_four   -- for this text's walks alone
set_option linter.unusedVariables false
set_option linter.unusedSimpArgs false

/-! ### impl_Puzzle_states: function 65 -/
def impl_Puzzle_states.l0 : Nat → Int → List Int → Int → Int → Option (Int)
  | 0, _, _, _, _ => none
  | k + 1, x3, x7, x8, x9 => if x9 < x8 then (if 0 ≤ x9 then (if x9 < (x7.length : Int) then (impl_Puzzle_states.l0 k (wrap64 (x3 * (wrap64 ((wrap64 (rd x7 x9)) + 1)))) x7 x8 (wrap64 (x9 + 1))) else (none)) else (none)) else (some x3)
def impl_Puzzle_states.f (k : Nat) (l0_0 : List Int) (a0_1 : Int) (a0_2 : Int) (a0_3 : Int) (a0_4 : Int) (a0_5 : Bool) : Option (Int) := impl_Puzzle_states.l0 k 1 l0_0 (l0_0.length : Int) 0
theorem impl_Puzzle_states.mono_l : ∀ k, (∀ y0 y1 y2 y3, LeO (impl_Puzzle_states.l0 k y0 y1 y2 y3) (impl_Puzzle_states.l0 (k + 1) y0 y1 y2 y3))
  | 0 => fun _ _ _ _ r h => by simp [impl_Puzzle_states.l0] at h
  | k + 1 => by
    have ih0 := impl_Puzzle_states.mono_l k
    · intro y0 y1 y2 y3
      unfold impl_Puzzle_states.l0
      repeat' first
      | (with_reducible exact ih0 _ _ _ _)
      | (with_reducible exact LeO.refl _)
      | (with_reducible exact LeO.none _)
      | (with_reducible refine LeO.ite ?_ ?_)
      | (with_reducible refine LeO.bind ?_ (fun _ => ?_))
      | exact ih0 _ _ _ _
      | exact LeO.none _
      | refine LeO.ite ?_ ?_
      | refine LeO.bind ?_ (fun _ => ?_)
theorem impl_Puzzle_states.mono : ∀ a0 a1 a2 a3 a4 a5 k, LeO (impl_Puzzle_states.f k a0 a1 a2 a3 a4 a5) (impl_Puzzle_states.f (k + 1) a0 a1 a2 a3 a4 a5) := by
  intro a0 a1 a2 a3 a4 a5 k
  have ih0 := impl_Puzzle_states.mono_l k
  unfold impl_Puzzle_states.f
  repeat' first
      | (with_reducible exact ih0 _ _ _ _)
      | (with_reducible exact LeO.refl _)
      | (with_reducible exact LeO.none _)
      | (with_reducible refine LeO.ite ?_ ?_)
      | (with_reducible refine LeO.bind ?_ (fun _ => ?_))
      | exact ih0 _ _ _ _
      | exact LeO.none _
      | refine LeO.ite ?_ ?_
      | refine LeO.bind ?_ (fun _ => ?_)
set_option maxHeartbeats 8000000 in
set_option maxRecDepth 100000 in
theorem impl_Puzzle_states.calls (k : Nat) (A0_0 : Option Addr) (c0_0 : Nat) (l0_0 : List Int) (a0_1 : Int) (a0_2 : Int) (a0_3 : Int) (a0_4 : Int) (a0_5 : Bool) (r : Int) (w : World) (hr0_0 : Kd.C (Kd.int .i16) w A0_0 l0_0.length l0_0) (hc0_0 : l0_0.length ≤ c0_0) (h : impl_Puzzle_states.f k l0_0 a0_1 a0_2 a0_3 a0_4 a0_5 = some r) :
    Calls Try.prog 65 #[.agg #[.slice A0_0 l0_0.length c0_0, .int .i16 a0_1, .int .i16 a0_2, .int .i16 a0_3, .int .i16 a0_4, .bool a0_5]] w fun e w' => e = .returned (.int .i64 r) ∧ Below w.heap.size w w' := by
  have hu32 := Try.underlying32
  have HR0_0 := Aside0.mk hr0_0
  have HC0_0 := Aside0.mk hc0_0
  clear hr0_0 hc0_0
  have HB := Aside0.mk (Below.refl w.heap.size w)
  have H : (impl_Puzzle_states.l0 k 1 l0_0 (l0_0.length : Int) 0) = some r := h
  clear h
  have H' := Aside0.mk H
  clear H
  go_enter Try.func65, Try.ntmps65
  go_wp2_with (first | ((with_reducible refine gate_dst (N := 1) rfl ?_); refine box_event ?hg (N := 1) ?hd (cs := #[.slice A0_0 l0_0.length c0_0, .int .i16 a0_1, .int .i16 a0_2, .int .i16 a0_3, .int .i16 a0_4, .bool a0_5]) (t := 32) ?hr ?_; (case hd => rfl); (case hg => rfl); (case hr => first | (go_simp; done) | (go_simp; rfl)); intro gb140 hg w2 hbox hb; have n0_ := Aside0.mk (below_step (by repeat (first | (with_reducible first | exact HB.out | apply below_alloc | apply pw_below_drewN | apply below_drew1) | exact HB.out)) hb); have n1_ := Aside0.mk (hbox); have n2_ := Aside0.mk ((by rw [hg]; exact (below_size (by repeat (first | (with_reducible first | exact HB.out | apply below_alloc | apply pw_below_drewN | apply below_drew1) | exact HB.out))) : w.heap.size ≤ gb140)); have n3_ := Aside0.mk ((by rw [hg]; exact (below_size (by repeat (first | (with_reducible first | exact HB.out | apply below_alloc | apply pw_below_drewN | apply below_drew1) | exact HB.out))) : w.heap.size ≤ gb140)); clear HB; have HB := n0_; have BK140 := n1_; have GW140 := n2_; have GE140 := n3_; clear n0_ n1_ n2_ n3_; clear hb hbox hg; have hcz3_0 : w2.cell? ⟨gb140, 0, none⟩ = some (.slice A0_0 l0_0.length c0_0) := (blk_cell BK140.out 0).trans rfl; have hcz3_1 : w2.cell? ⟨gb140, 1, none⟩ = some (.int .i16 a0_1) := (blk_cell BK140.out 1).trans rfl; have hcz3_2 : w2.cell? ⟨gb140, 2, none⟩ = some (.int .i16 a0_2) := (blk_cell BK140.out 2).trans rfl; have hcz3_3 : w2.cell? ⟨gb140, 3, none⟩ = some (.int .i16 a0_3) := (blk_cell BK140.out 3).trans rfl; have hcz3_4 : w2.cell? ⟨gb140, 4, none⟩ = some (.int .i16 a0_4) := (blk_cell BK140.out 4).trans rfl; have hcz3_5 : w2.cell? ⟨gb140, 5, none⟩ = some (.bool a0_5) := (blk_cell BK140.out 5).trans rfl; have hfz3_0 := blk_frozen BK140.out 0; have hfz3_1 := blk_frozen BK140.out 1; have hfz3_2 := blk_frozen BK140.out 2; have hfz3_3 := blk_frozen BK140.out 3; have hfz3_4 := blk_frozen BK140.out 4; have hfz3_5 := blk_frozen BK140.out 5))
  go_loopg [3, 9] k (fun kq v3 v9 w' => ∃ (x3_1 : Int) (x9_1 : Int), v3 = .int .i64 x3_1 ∧ v9 = .int .i64 x9_1 ∧ Aside0 (impl_Puzzle_states.l0 kq x3_1 l0_0 (l0_0.length : Int) x9_1 = some r) ∧ Aside0 (kq ≤ k) ∧ Aside0 (w'.heap[gb140]? = some (.cells #[(.slice A0_0 l0_0.length c0_0), .int .i16 a0_1, .int .i16 a0_2, .int .i16 a0_3, .int .i16 a0_4, .bool a0_5] 32 (0, 0))) ∧ Aside0 (Below w.heap.size w w'))
  case atStart => exact ⟨(1), (0), (by first | rfl | (simp; done) | (simp [*]; done)), (by first | rfl | (simp; done) | (simp [*]; done)), H', ⟨Nat.le_refl _⟩, ⟨by (with_reducible repeat (first | refine blk_drewN ?_ _ | refine blk_drew ?_ | refine blk_alloc ?_ _)); exact BK140.out⟩, ⟨by repeat (first | (with_reducible first | exact HB.out | apply below_alloc | apply pw_below_drewN | apply below_drew1 | refine below_set ?_ GE140.out) | exact HB.out)⟩⟩
  case round =>
    clear H'
    try clear p2
    try clear hcz3_0
    try clear hcz3_1
    try clear hcz3_2
    try clear hcz3_3
    try clear hcz3_4
    try clear hcz3_5
    try clear hfz3_0
    try clear hfz3_1
    try clear hfz3_2
    try clear hfz3_3
    try clear hfz3_4
    try clear hfz3_5
    obtain ⟨x3_1, x9_1, rfl, rfl, HA, HK1, BK140, HB⟩ := hrel
    cases gk with
    | zero => exact absurd HA.out (by simp [impl_Puzzle_states.l0])
    | succ k1 =>
      have H := HA.out
      clear HA
      simp only [impl_Puzzle_states.l0] at H
      by_cases c4 : x9_1 < (l0_0.length : Int)
      · rw [if_pos c4] at H
        have c4b0 : decide (x9_1 < (l0_0.length : Int)) = true := decide_eq_true c4
        clear c4
        by_cases c5 : 0 ≤ x9_1
        · rw [if_pos c5] at H
          have c5b0 : decide (0 ≤ x9_1) = true := decide_eq_true c5
          clear c5
          by_cases c6 : x9_1 < (l0_0.length : Int)
          · rw [if_pos c6] at H
            have c6b0 : decide (x9_1 < (l0_0.length : Int)) = true := decide_eq_true c6
            clear c6
            have H' := Aside0.mk H
            clear H
            have p141 : 0 ≤ (x9_1 : Int) := of_decide_eq_true (by first | (with_reducible assumption) | assumption)
            have q141 : x9_1 < (l0_0.length : Int) := of_decide_eq_true (by first | (with_reducible assumption) | assumption)
            obtain ⟨ad141, e141, hx141_0⟩ := Kd.at_int HR0_0.out x9_1 p141 q141
            cases e141
            replace hx141_0 := (HB.out.cell (World.block_lt_of_cell? w _ hx141_0)).trans hx141_0
            replace p141 := eq_true p141
            replace q141 := eq_true q141
            go_wp2
            go_roundg k1
            case measure => have := HK1.out; omega
            case rel => exact ⟨(wrap64 (x3_1 * (wrap64 ((wrap64 (rd l0_0 x9_1)) + 1)))), (wrap64 (x9_1 + 1)), (by first | rfl | (simp; done) | (simp [*]; done)), (by first | rfl | (simp; done) | (simp [*]; done)), H', ⟨by have := HK1.out; omega⟩, ⟨by (with_reducible repeat (first | refine blk_drewN ?_ _ | refine blk_drew ?_ | refine blk_alloc ?_ _)); exact BK140.out⟩, ⟨by repeat (first | (with_reducible first | exact HB.out | apply below_alloc | apply pw_below_drewN | apply below_drew1 | refine below_set ?_ GE140.out) | exact HB.out)⟩⟩
          · rw [if_neg c6] at H
            exact absurd H (by simp)
        · rw [if_neg c5] at H
          exact absurd H (by simp)
      · rw [if_neg c4] at H
        have c4b0 : decide (x9_1 < (l0_0.length : Int)) = false := decide_eq_false c4
        clear c4
        obtain rfl := Option.some.inj H
        go_wp2
        go_ret
        exact ⟨by first | rfl | (simp [errW_none, errW_some] <;> rfl) | (simp [*, errW_none, errW_some] <;> rfl), by repeat (first | (with_reducible first | exact HB.out | apply below_alloc | apply pw_below_drewN | apply below_drew1 | refine below_set ?_ GE140.out) | exact HB.out)⟩

/-! ### impl_size_int16: function 69 -/
def impl_size_int16.f (l0 : List Int) : Option (Int) := some (l0.length : Int)
set_option maxHeartbeats 8000000 in
set_option maxRecDepth 100000 in
theorem impl_size_int16.calls (A0 : Option Addr) (c0 : Nat) (l0 : List Int) (r : Int) (w : World) (hr0 : Kd.C (Kd.int .i16) w A0 l0.length l0) (hc0 : l0.length ≤ c0) (h : impl_size_int16.f l0 = some r) :
    Calls Try.prog 69 #[.slice A0 l0.length c0] w fun e w' => e = .returned (.int .i64 r) ∧ Drawn0 w w' := by
  have HR0 := Aside0.mk hr0
  have HC0 := Aside0.mk hc0
  clear hr0 hc0
  have H : (some (l0.length : Int)) = some r := h
  clear h
  obtain rfl := Option.some.inj H
  go_enter Try.func69, Try.ntmps69
  go_wp2
  go_ret
  exact ⟨by first | rfl | (simp; done) | (simp [*]; done), by repeat (first | exact Drawn0.refl _ | apply Drawn0.step)⟩

-- NOT PRINTED: function 93 (slices_IndexFunc_int16_int16)

-- NOT PRINTED: function 70 (slices_ContainsFunc_int16_int16)

/-! ### impl_Puzzle_holds: function 72 -/
def impl_Puzzle_holds.l0 : Nat → Int → Int → Int → Int → Int → List Int → Int → Int → Int → Int → Bool → Option (Bool)
  | 0, _, _, _, _, _, _, _, _, _, _, _ => none
  | k + 1, x9, x504, x505, x506, x507, x143000, x143001, x143002, x143003, x143004, x143005 => if x9 < 4 then (if 0 ≤ x9 then (if x9 < (x143000.length : Int) then (if (rd [x504, x505, x506, x507] x9) < 0 then (some false) else (if (rd [x504, x505, x506, x507] x9) > (rd x143000 x9) then (some false) else (impl_Puzzle_holds.l0 k (wrap64 (x9 + 1)) x504 x505 x506 x507 x143000 x143001 x143002 x143003 x143004 x143005))) else (if (rd [x504, x505, x506, x507] x9) < 0 then (some false) else (if (rd [x504, x505, x506, x507] x9) > 0 then (some false) else (impl_Puzzle_holds.l0 k (wrap64 (x9 + 1)) x504 x505 x506 x507 x143000 x143001 x143002 x143003 x143004 x143005)))) else (none)) else (some true)
def impl_Puzzle_holds.f (k : Nat) (l0_0 : List Int) (a0_1 : Int) (a0_2 : Int) (a0_3 : Int) (a0_4 : Int) (a0_5 : Bool) (a1_0 : Int) (a1_1 : Int) (a1_2 : Int) (a1_3 : Int) : Option (Bool) := impl_Puzzle_holds.l0 k 0 a1_0 a1_1 a1_2 a1_3 l0_0 a0_1 a0_2 a0_3 a0_4 a0_5
theorem impl_Puzzle_holds.mono_l : ∀ k, (∀ y0 y1 y2 y3 y4 y5 y6 y7 y8 y9 y10, LeO (impl_Puzzle_holds.l0 k y0 y1 y2 y3 y4 y5 y6 y7 y8 y9 y10) (impl_Puzzle_holds.l0 (k + 1) y0 y1 y2 y3 y4 y5 y6 y7 y8 y9 y10))
  | 0 => fun _ _ _ _ _ _ _ _ _ _ _ r h => by simp [impl_Puzzle_holds.l0] at h
  | k + 1 => by
    have ih0 := impl_Puzzle_holds.mono_l k
    · intro y0 y1 y2 y3 y4 y5 y6 y7 y8 y9 y10
      unfold impl_Puzzle_holds.l0
      repeat' first
      | (with_reducible exact ih0 _ _ _ _ _ _ _ _ _ _ _)
      | (with_reducible exact LeO.refl _)
      | (with_reducible exact LeO.none _)
      | (with_reducible refine LeO.ite ?_ ?_)
      | (with_reducible refine LeO.bind ?_ (fun _ => ?_))
      | exact ih0 _ _ _ _ _ _ _ _ _ _ _
      | exact LeO.none _
      | refine LeO.ite ?_ ?_
      | refine LeO.bind ?_ (fun _ => ?_)
theorem impl_Puzzle_holds.mono : ∀ a0 a1 a2 a3 a4 a5 a6 a7 a8 a9 k, LeO (impl_Puzzle_holds.f k a0 a1 a2 a3 a4 a5 a6 a7 a8 a9) (impl_Puzzle_holds.f (k + 1) a0 a1 a2 a3 a4 a5 a6 a7 a8 a9) := by
  intro a0 a1 a2 a3 a4 a5 a6 a7 a8 a9 k
  have ih0 := impl_Puzzle_holds.mono_l k
  unfold impl_Puzzle_holds.f
  repeat' first
      | (with_reducible exact ih0 _ _ _ _ _ _ _ _ _ _ _)
      | (with_reducible exact LeO.refl _)
      | (with_reducible exact LeO.none _)
      | (with_reducible refine LeO.ite ?_ ?_)
      | (with_reducible refine LeO.bind ?_ (fun _ => ?_))
      | exact ih0 _ _ _ _ _ _ _ _ _ _ _
      | exact LeO.none _
      | refine LeO.ite ?_ ?_
      | refine LeO.bind ?_ (fun _ => ?_)
set_option maxHeartbeats 8000000 in
set_option maxRecDepth 100000 in
theorem impl_Puzzle_holds.calls (k : Nat) (A0_0 : Option Addr) (c0_0 : Nat) (l0_0 : List Int) (a0_1 : Int) (a0_2 : Int) (a0_3 : Int) (a0_4 : Int) (a0_5 : Bool) (a1_0 : Int) (a1_1 : Int) (a1_2 : Int) (a1_3 : Int) (r : Bool) (w : World) (hr0_0 : Kd.C (Kd.int .i16) w A0_0 l0_0.length l0_0) (hc0_0 : l0_0.length ≤ c0_0) (h : impl_Puzzle_holds.f k l0_0 a0_1 a0_2 a0_3 a0_4 a0_5 a1_0 a1_1 a1_2 a1_3 = some r) :
    Calls Try.prog 72 #[.agg #[.slice A0_0 l0_0.length c0_0, .int .i16 a0_1, .int .i16 a0_2, .int .i16 a0_3, .int .i16 a0_4, .bool a0_5], .agg #[.int .i16 a1_0, .int .i16 a1_1, .int .i16 a1_2, .int .i16 a1_3]] w fun e w' => e = .returned (.bool r) ∧ Below w.heap.size w w' := by
  have hu32 := Try.underlying32
  have hu30 := Try.underlying30
  have HR0_0 := Aside0.mk hr0_0
  have HC0_0 := Aside0.mk hc0_0
  clear hr0_0 hc0_0
  have HB := Aside0.mk (Below.refl w.heap.size w)
  have H : (impl_Puzzle_holds.l0 k 0 a1_0 a1_1 a1_2 a1_3 l0_0 a0_1 a0_2 a0_3 a0_4 a0_5) = some r := h
  clear h
  have H' := Aside0.mk H
  clear H
  go_enter Try.func72, Try.ntmps72
  go_wp2_with (first | ((with_reducible refine gate_dst (N := 2) rfl ?_); refine box_event ?hg (N := 2) ?hd (cs := #[.slice A0_0 l0_0.length c0_0, .int .i16 a0_1, .int .i16 a0_2, .int .i16 a0_3, .int .i16 a0_4, .bool a0_5]) (t := 32) ?hr ?_; (case hd => rfl); (case hg => rfl); (case hr => first | (go_simp; done) | (go_simp; rfl)); intro gb142 hg w3 hbox hb; have n0_ := Aside0.mk (below_step (by repeat (first | (with_reducible first | exact HB.out | apply below_alloc | apply pw_below_drewN | apply below_drew1) | exact HB.out)) hb); have n1_ := Aside0.mk (hbox); have n2_ := Aside0.mk ((by rw [hg]; exact (below_size (by repeat (first | (with_reducible first | exact HB.out | apply below_alloc | apply pw_below_drewN | apply below_drew1) | exact HB.out))) : w.heap.size ≤ gb142)); have n3_ := Aside0.mk ((by rw [hg]; exact (below_size (by repeat (first | (with_reducible first | exact HB.out | apply below_alloc | apply pw_below_drewN | apply below_drew1) | exact HB.out))) : w.heap.size ≤ gb142)); clear HB; have HB := n0_; have BK142 := n1_; have GW142 := n2_; have GE142 := n3_; clear n0_ n1_ n2_ n3_; clear hb hbox hg) | ((with_reducible refine gate_dst (N := 3) rfl ?_); refine box_event ?hg (N := 3) ?hd (cs := #[.int .i16 a1_0, .int .i16 a1_1, .int .i16 a1_2, .int .i16 a1_3]) (t := 30) ?hr ?_; (case hd => rfl); (case hg => rfl); (case hr => first | (go_simp; done) | (go_simp; rfl)); intro gb143 hg w4 hbox hb; have n0_ := Aside0.mk (blk_below (g := gb142) (o := .cells #[.slice A0_0 l0_0.length c0_0, .int .i16 a0_1, .int .i16 a0_2, .int .i16 a0_3, .int .i16 a0_4, .bool a0_5] 32 (0, 0)) (by (with_reducible repeat (first | refine blk_drewN ?_ _ | refine blk_drew ?_ | refine blk_alloc ?_ _)); exact BK142.out) hb); have n1_ := Aside0.mk (below_step (by repeat (first | (with_reducible first | exact HB.out | apply below_alloc | apply pw_below_drewN | apply below_drew1 | refine below_set ?_ GE142.out) | exact HB.out)) hb); have n2_ := Aside0.mk (hbox); have n3_ := Aside0.mk ((by rw [hg]; exact (below_size (by repeat (first | (with_reducible first | exact HB.out | apply below_alloc | apply pw_below_drewN | apply below_drew1 | refine below_set ?_ GE142.out) | exact HB.out))) : w.heap.size ≤ gb143)); have n4_ := Aside0.mk ((by rw [hg]; exact (below_size (by repeat (first | (with_reducible first | exact HB.out | apply below_alloc | apply pw_below_drewN | apply below_drew1 | refine below_set ?_ GE142.out) | exact HB.out))) : w.heap.size ≤ gb143)); have n5_ := Aside0.mk ((by rw [hg]; exact Nat.ne_of_lt (blk_lt (g := gb142) (o := .cells #[.slice A0_0 l0_0.length c0_0, .int .i16 a0_1, .int .i16 a0_2, .int .i16 a0_3, .int .i16 a0_4, .bool a0_5] 32 (0, 0)) (by (with_reducible repeat (first | refine blk_drewN ?_ _ | refine blk_drew ?_ | refine blk_alloc ?_ _)); exact BK142.out)) : gb142 ≠ gb143)); have n6_ := Aside0.mk ((by rw [hg]; exact Nat.ne_of_gt (blk_lt (g := gb142) (o := .cells #[.slice A0_0 l0_0.length c0_0, .int .i16 a0_1, .int .i16 a0_2, .int .i16 a0_3, .int .i16 a0_4, .bool a0_5] 32 (0, 0)) (by (with_reducible repeat (first | refine blk_drewN ?_ _ | refine blk_drew ?_ | refine blk_alloc ?_ _)); exact BK142.out)) : gb143 ≠ gb142)); clear BK142; clear HB; have BK142 := n0_; have HB := n1_; have BK143 := n2_; have GW143 := n3_; have GE143 := n4_; have NB142_143 := n5_; have NB143_142 := n6_; clear n0_ n1_ n2_ n3_ n4_ n5_ n6_; clear hb hbox hg; have hnb5 := NB143_142.out; have hnc5 := NB142_143.out; have hcz6_0 : w4.cell? ⟨gb143, 0, none⟩ = some (.int .i16 a1_0) := (blk_cell BK143.out 0).trans rfl; have hcz6_1 : w4.cell? ⟨gb143, 1, none⟩ = some (.int .i16 a1_1) := (blk_cell BK143.out 1).trans rfl; have hcz6_2 : w4.cell? ⟨gb143, 2, none⟩ = some (.int .i16 a1_2) := (blk_cell BK143.out 2).trans rfl; have hcz6_3 : w4.cell? ⟨gb143, 3, none⟩ = some (.int .i16 a1_3) := (blk_cell BK143.out 3).trans rfl; have hfz6_0 := blk_frozen BK143.out 0; have hfz6_1 := blk_frozen BK143.out 1; have hfz6_2 := blk_frozen BK143.out 2; have hfz6_3 := blk_frozen BK143.out 3))
  go_loopg [9] k (fun kq v9 w' => ∃ (x9_1 : Int), v9 = .int .i64 x9_1 ∧ Aside0 (impl_Puzzle_holds.l0 kq x9_1 a1_0 a1_1 a1_2 a1_3 l0_0 a0_1 a0_2 a0_3 a0_4 a0_5 = some r) ∧ Aside0 (kq ≤ k) ∧ Aside0 (w'.heap[gb142]? = some (.cells #[(.slice A0_0 l0_0.length c0_0), .int .i16 a0_1, .int .i16 a0_2, .int .i16 a0_3, .int .i16 a0_4, .bool a0_5] 32 (0, 0))) ∧ Aside0 (w'.heap[gb143]? = some (.cells #[.int .i16 a1_0, .int .i16 a1_1, .int .i16 a1_2, .int .i16 a1_3] 30 (0, 0))) ∧ Aside0 (Below w.heap.size w w'))
  case atStart => exact ⟨(0), (by first | rfl | (simp; done) | (simp [*]; done)), H', ⟨Nat.le_refl _⟩, ⟨by (with_reducible repeat (first | refine blk_drewN ?_ _ | refine blk_drew ?_ | refine blk_alloc ?_ _)); exact BK142.out⟩, ⟨by (with_reducible repeat (first | refine blk_drewN ?_ _ | refine blk_drew ?_ | refine blk_alloc ?_ _)); exact BK143.out⟩, ⟨by repeat (first | (with_reducible first | exact HB.out | apply below_alloc | apply pw_below_drewN | apply below_drew1 | refine below_set ?_ GE142.out | refine below_set ?_ GE143.out) | exact HB.out)⟩⟩
  case round =>
    clear H'
    try clear p2
    try clear c5
    try clear hcz6_0
    try clear hcz6_1
    try clear hcz6_2
    try clear hcz6_3
    try clear hfz6_0
    try clear hfz6_1
    try clear hfz6_2
    try clear hfz6_3
    obtain ⟨x9_1, rfl, HA, HK1, BK142, BK143, HB⟩ := hrel
    cases gk with
    | zero => exact absurd HA.out (by simp [impl_Puzzle_holds.l0])
    | succ k1 =>
      have H := HA.out
      clear HA
      simp only [impl_Puzzle_holds.l0] at H
      by_cases c7 : x9_1 < 4
      · rw [if_pos c7] at H
        have c7b0 : decide (x9_1 < 4) = true := decide_eq_true c7
        clear c7
        by_cases c8 : 0 ≤ x9_1
        · rw [if_pos c8] at H
          have c8b0 : decide (0 ≤ x9_1) = true := decide_eq_true c8
          clear c8
          by_cases c10 : x9_1 < (l0_0.length : Int)
          · rw [if_pos c10] at H
            have c10b0 : decide (x9_1 < (l0_0.length : Int)) = true := decide_eq_true c10
            clear c10
            by_cases c11 : (rd [a1_0, a1_1, a1_2, a1_3] x9_1) < 0
            · rw [if_pos c11] at H
              have c11b0 : decide ((rd [a1_0, a1_1, a1_2, a1_3] x9_1) < 0) = true := decide_eq_true c11
              clear c11
              obtain rfl := Option.some.inj H
              have p9 : 0 ≤ (x9_1 : Int) := of_decide_eq_true (by first | (with_reducible assumption) | assumption)
              have q9 : (x9_1 : Int) < 4 := of_decide_eq_true (by first | (with_reducible assumption) | assumption)
              have hxv9 : ∀ W_ : World, (Instr.index 30 (.agg #[.int .i16 a1_0, .int .i16 a1_1, .int .i16 a1_2, .int .i16 a1_3]) (.int .i64 x9_1)).run Try.prog W_ = .ok (.int .i16 (rd [a1_0, a1_1, a1_2, a1_3] x9_1)) W_ := fun W_ => ard_index (k := .i16) (l := [a1_0, a1_1, a1_2, a1_3]) Try.underlying30 (by kernel_rfl) (by kernel_rfl) ⟨_, Try.underlying23⟩ rfl p9 q9 W_
              replace p9 := eq_true p9
              replace q9 := eq_true q9
              have hnb12 := NB142_143.out
              have hnc12 := NB143_142.out
              have hcz13_0 : wr.cell? ⟨gb142, 0, none⟩ = some (.slice A0_0 l0_0.length c0_0) := (blk_cell BK142.out 0).trans rfl
              have hcz13_1 : wr.cell? ⟨gb142, 1, none⟩ = some (.int .i16 a0_1) := (blk_cell BK142.out 1).trans rfl
              have hcz13_2 : wr.cell? ⟨gb142, 2, none⟩ = some (.int .i16 a0_2) := (blk_cell BK142.out 2).trans rfl
              have hcz13_3 : wr.cell? ⟨gb142, 3, none⟩ = some (.int .i16 a0_3) := (blk_cell BK142.out 3).trans rfl
              have hcz13_4 : wr.cell? ⟨gb142, 4, none⟩ = some (.int .i16 a0_4) := (blk_cell BK142.out 4).trans rfl
              have hcz13_5 : wr.cell? ⟨gb142, 5, none⟩ = some (.bool a0_5) := (blk_cell BK142.out 5).trans rfl
              have hfz13_0 := blk_frozen BK142.out 0
              have hfz13_1 := blk_frozen BK142.out 1
              have hfz13_2 := blk_frozen BK142.out 2
              have hfz13_3 := blk_frozen BK142.out 3
              have hfz13_4 := blk_frozen BK142.out 4
              have hfz13_5 := blk_frozen BK142.out 5
              have p144 : 0 ≤ (x9_1 : Int) := of_decide_eq_true (by first | (with_reducible assumption) | assumption)
              have q144 : x9_1 < (l0_0.length : Int) := of_decide_eq_true (by first | (with_reducible assumption) | assumption)
              obtain ⟨ad144, e144, hx144_0⟩ := Kd.at_int HR0_0.out x9_1 p144 q144
              cases e144
              replace hx144_0 := (HB.out.cell (World.block_lt_of_cell? w _ hx144_0)).trans hx144_0
              replace p144 := eq_true p144
              replace q144 := eq_true q144
              go_wp2
              go_ret
              exact ⟨by first | rfl | (simp [errW_none, errW_some] <;> rfl) | (simp [*, errW_none, errW_some] <;> rfl), by repeat (first | (with_reducible first | exact HB.out | apply below_alloc | apply pw_below_drewN | apply below_drew1 | refine below_set ?_ GE142.out | refine below_set ?_ GE143.out) | exact HB.out)⟩
            · rw [if_neg c11] at H
              have c11b0 : decide ((rd [a1_0, a1_1, a1_2, a1_3] x9_1) < 0) = false := decide_eq_false c11
              clear c11
              by_cases c14 : (rd [a1_0, a1_1, a1_2, a1_3] x9_1) > (rd l0_0 x9_1)
              · rw [if_pos c14] at H
                have c14b0 : decide ((rd l0_0 x9_1) < (rd [a1_0, a1_1, a1_2, a1_3] x9_1)) = true := decide_eq_true c14
                clear c14
                obtain rfl := Option.some.inj H
                have p9 : 0 ≤ (x9_1 : Int) := of_decide_eq_true (by first | (with_reducible assumption) | assumption)
                have q9 : (x9_1 : Int) < 4 := of_decide_eq_true (by first | (with_reducible assumption) | assumption)
                have hxv9 : ∀ W_ : World, (Instr.index 30 (.agg #[.int .i16 a1_0, .int .i16 a1_1, .int .i16 a1_2, .int .i16 a1_3]) (.int .i64 x9_1)).run Try.prog W_ = .ok (.int .i16 (rd [a1_0, a1_1, a1_2, a1_3] x9_1)) W_ := fun W_ => ard_index (k := .i16) (l := [a1_0, a1_1, a1_2, a1_3]) Try.underlying30 (by kernel_rfl) (by kernel_rfl) ⟨_, Try.underlying23⟩ rfl p9 q9 W_
                replace p9 := eq_true p9
                replace q9 := eq_true q9
                have hnb15 := NB142_143.out
                have hnc15 := NB143_142.out
                have hcz16_0 : wr.cell? ⟨gb142, 0, none⟩ = some (.slice A0_0 l0_0.length c0_0) := (blk_cell BK142.out 0).trans rfl
                have hcz16_1 : wr.cell? ⟨gb142, 1, none⟩ = some (.int .i16 a0_1) := (blk_cell BK142.out 1).trans rfl
                have hcz16_2 : wr.cell? ⟨gb142, 2, none⟩ = some (.int .i16 a0_2) := (blk_cell BK142.out 2).trans rfl
                have hcz16_3 : wr.cell? ⟨gb142, 3, none⟩ = some (.int .i16 a0_3) := (blk_cell BK142.out 3).trans rfl
                have hcz16_4 : wr.cell? ⟨gb142, 4, none⟩ = some (.int .i16 a0_4) := (blk_cell BK142.out 4).trans rfl
                have hcz16_5 : wr.cell? ⟨gb142, 5, none⟩ = some (.bool a0_5) := (blk_cell BK142.out 5).trans rfl
                have hfz16_0 := blk_frozen BK142.out 0
                have hfz16_1 := blk_frozen BK142.out 1
                have hfz16_2 := blk_frozen BK142.out 2
                have hfz16_3 := blk_frozen BK142.out 3
                have hfz16_4 := blk_frozen BK142.out 4
                have hfz16_5 := blk_frozen BK142.out 5
                have p144 : 0 ≤ (x9_1 : Int) := of_decide_eq_true (by first | (with_reducible assumption) | assumption)
                have q144 : x9_1 < (l0_0.length : Int) := of_decide_eq_true (by first | (with_reducible assumption) | assumption)
                obtain ⟨ad144, e144, hx144_0⟩ := Kd.at_int HR0_0.out x9_1 p144 q144
                cases e144
                replace hx144_0 := (HB.out.cell (World.block_lt_of_cell? w _ hx144_0)).trans hx144_0
                replace p144 := eq_true p144
                replace q144 := eq_true q144
                go_wp2
                go_ret
                exact ⟨by first | rfl | (simp [errW_none, errW_some] <;> rfl) | (simp [*, errW_none, errW_some] <;> rfl), by repeat (first | (with_reducible first | exact HB.out | apply below_alloc | apply pw_below_drewN | apply below_drew1 | refine below_set ?_ GE142.out | refine below_set ?_ GE143.out) | exact HB.out)⟩
              · rw [if_neg c14] at H
                have c14b0 : decide ((rd l0_0 x9_1) < (rd [a1_0, a1_1, a1_2, a1_3] x9_1)) = false := decide_eq_false c14
                clear c14
                have H' := Aside0.mk H
                clear H
                have p9 : 0 ≤ (x9_1 : Int) := of_decide_eq_true (by first | (with_reducible assumption) | assumption)
                have q9 : (x9_1 : Int) < 4 := of_decide_eq_true (by first | (with_reducible assumption) | assumption)
                have hxv9 : ∀ W_ : World, (Instr.index 30 (.agg #[.int .i16 a1_0, .int .i16 a1_1, .int .i16 a1_2, .int .i16 a1_3]) (.int .i64 x9_1)).run Try.prog W_ = .ok (.int .i16 (rd [a1_0, a1_1, a1_2, a1_3] x9_1)) W_ := fun W_ => ard_index (k := .i16) (l := [a1_0, a1_1, a1_2, a1_3]) Try.underlying30 (by kernel_rfl) (by kernel_rfl) ⟨_, Try.underlying23⟩ rfl p9 q9 W_
                replace p9 := eq_true p9
                replace q9 := eq_true q9
                have hnb17 := NB142_143.out
                have hnc17 := NB143_142.out
                have hcz18_0 : wr.cell? ⟨gb142, 0, none⟩ = some (.slice A0_0 l0_0.length c0_0) := (blk_cell BK142.out 0).trans rfl
                have hcz18_1 : wr.cell? ⟨gb142, 1, none⟩ = some (.int .i16 a0_1) := (blk_cell BK142.out 1).trans rfl
                have hcz18_2 : wr.cell? ⟨gb142, 2, none⟩ = some (.int .i16 a0_2) := (blk_cell BK142.out 2).trans rfl
                have hcz18_3 : wr.cell? ⟨gb142, 3, none⟩ = some (.int .i16 a0_3) := (blk_cell BK142.out 3).trans rfl
                have hcz18_4 : wr.cell? ⟨gb142, 4, none⟩ = some (.int .i16 a0_4) := (blk_cell BK142.out 4).trans rfl
                have hcz18_5 : wr.cell? ⟨gb142, 5, none⟩ = some (.bool a0_5) := (blk_cell BK142.out 5).trans rfl
                have hfz18_0 := blk_frozen BK142.out 0
                have hfz18_1 := blk_frozen BK142.out 1
                have hfz18_2 := blk_frozen BK142.out 2
                have hfz18_3 := blk_frozen BK142.out 3
                have hfz18_4 := blk_frozen BK142.out 4
                have hfz18_5 := blk_frozen BK142.out 5
                have p144 : 0 ≤ (x9_1 : Int) := of_decide_eq_true (by first | (with_reducible assumption) | assumption)
                have q144 : x9_1 < (l0_0.length : Int) := of_decide_eq_true (by first | (with_reducible assumption) | assumption)
                obtain ⟨ad144, e144, hx144_0⟩ := Kd.at_int HR0_0.out x9_1 p144 q144
                cases e144
                replace hx144_0 := (HB.out.cell (World.block_lt_of_cell? w _ hx144_0)).trans hx144_0
                replace p144 := eq_true p144
                replace q144 := eq_true q144
                go_wp2
                go_roundg k1
                case measure => have := HK1.out; omega
                case rel => exact ⟨(wrap64 (x9_1 + 1)), (by first | rfl | (simp; done) | (simp [*]; done)), H', ⟨by have := HK1.out; omega⟩, ⟨by (with_reducible repeat (first | refine blk_drewN ?_ _ | refine blk_drew ?_ | refine blk_alloc ?_ _)); exact BK142.out⟩, ⟨by (with_reducible repeat (first | refine blk_drewN ?_ _ | refine blk_drew ?_ | refine blk_alloc ?_ _)); exact BK143.out⟩, ⟨by repeat (first | (with_reducible first | exact HB.out | apply below_alloc | apply pw_below_drewN | apply below_drew1 | refine below_set ?_ GE142.out | refine below_set ?_ GE143.out) | exact HB.out)⟩⟩
          · rw [if_neg c10] at H
            have c10b0 : decide (x9_1 < (l0_0.length : Int)) = false := decide_eq_false c10
            clear c10
            by_cases c19 : (rd [a1_0, a1_1, a1_2, a1_3] x9_1) < 0
            · rw [if_pos c19] at H
              have c19b0 : decide ((rd [a1_0, a1_1, a1_2, a1_3] x9_1) < 0) = true := decide_eq_true c19
              clear c19
              obtain rfl := Option.some.inj H
              have p9 : 0 ≤ (x9_1 : Int) := of_decide_eq_true (by first | (with_reducible assumption) | assumption)
              have q9 : (x9_1 : Int) < 4 := of_decide_eq_true (by first | (with_reducible assumption) | assumption)
              have hxv9 : ∀ W_ : World, (Instr.index 30 (.agg #[.int .i16 a1_0, .int .i16 a1_1, .int .i16 a1_2, .int .i16 a1_3]) (.int .i64 x9_1)).run Try.prog W_ = .ok (.int .i16 (rd [a1_0, a1_1, a1_2, a1_3] x9_1)) W_ := fun W_ => ard_index (k := .i16) (l := [a1_0, a1_1, a1_2, a1_3]) Try.underlying30 (by kernel_rfl) (by kernel_rfl) ⟨_, Try.underlying23⟩ rfl p9 q9 W_
              replace p9 := eq_true p9
              replace q9 := eq_true q9
              have hnb20 := NB142_143.out
              have hnc20 := NB143_142.out
              have hcz21_0 : wr.cell? ⟨gb142, 0, none⟩ = some (.slice A0_0 l0_0.length c0_0) := (blk_cell BK142.out 0).trans rfl
              have hcz21_1 : wr.cell? ⟨gb142, 1, none⟩ = some (.int .i16 a0_1) := (blk_cell BK142.out 1).trans rfl
              have hcz21_2 : wr.cell? ⟨gb142, 2, none⟩ = some (.int .i16 a0_2) := (blk_cell BK142.out 2).trans rfl
              have hcz21_3 : wr.cell? ⟨gb142, 3, none⟩ = some (.int .i16 a0_3) := (blk_cell BK142.out 3).trans rfl
              have hcz21_4 : wr.cell? ⟨gb142, 4, none⟩ = some (.int .i16 a0_4) := (blk_cell BK142.out 4).trans rfl
              have hcz21_5 : wr.cell? ⟨gb142, 5, none⟩ = some (.bool a0_5) := (blk_cell BK142.out 5).trans rfl
              have hfz21_0 := blk_frozen BK142.out 0
              have hfz21_1 := blk_frozen BK142.out 1
              have hfz21_2 := blk_frozen BK142.out 2
              have hfz21_3 := blk_frozen BK142.out 3
              have hfz21_4 := blk_frozen BK142.out 4
              have hfz21_5 := blk_frozen BK142.out 5
              go_wp2
              go_ret
              exact ⟨by first | rfl | (simp [errW_none, errW_some] <;> rfl) | (simp [*, errW_none, errW_some] <;> rfl), by repeat (first | (with_reducible first | exact HB.out | apply below_alloc | apply pw_below_drewN | apply below_drew1 | refine below_set ?_ GE142.out | refine below_set ?_ GE143.out) | exact HB.out)⟩
            · rw [if_neg c19] at H
              have c19b0 : decide ((rd [a1_0, a1_1, a1_2, a1_3] x9_1) < 0) = false := decide_eq_false c19
              clear c19
              by_cases c22 : (rd [a1_0, a1_1, a1_2, a1_3] x9_1) > 0
              · rw [if_pos c22] at H
                have c22b0 : decide (0 < (rd [a1_0, a1_1, a1_2, a1_3] x9_1)) = true := decide_eq_true c22
                clear c22
                obtain rfl := Option.some.inj H
                have p9 : 0 ≤ (x9_1 : Int) := of_decide_eq_true (by first | (with_reducible assumption) | assumption)
                have q9 : (x9_1 : Int) < 4 := of_decide_eq_true (by first | (with_reducible assumption) | assumption)
                have hxv9 : ∀ W_ : World, (Instr.index 30 (.agg #[.int .i16 a1_0, .int .i16 a1_1, .int .i16 a1_2, .int .i16 a1_3]) (.int .i64 x9_1)).run Try.prog W_ = .ok (.int .i16 (rd [a1_0, a1_1, a1_2, a1_3] x9_1)) W_ := fun W_ => ard_index (k := .i16) (l := [a1_0, a1_1, a1_2, a1_3]) Try.underlying30 (by kernel_rfl) (by kernel_rfl) ⟨_, Try.underlying23⟩ rfl p9 q9 W_
                replace p9 := eq_true p9
                replace q9 := eq_true q9
                have hnb23 := NB142_143.out
                have hnc23 := NB143_142.out
                have hcz24_0 : wr.cell? ⟨gb142, 0, none⟩ = some (.slice A0_0 l0_0.length c0_0) := (blk_cell BK142.out 0).trans rfl
                have hcz24_1 : wr.cell? ⟨gb142, 1, none⟩ = some (.int .i16 a0_1) := (blk_cell BK142.out 1).trans rfl
                have hcz24_2 : wr.cell? ⟨gb142, 2, none⟩ = some (.int .i16 a0_2) := (blk_cell BK142.out 2).trans rfl
                have hcz24_3 : wr.cell? ⟨gb142, 3, none⟩ = some (.int .i16 a0_3) := (blk_cell BK142.out 3).trans rfl
                have hcz24_4 : wr.cell? ⟨gb142, 4, none⟩ = some (.int .i16 a0_4) := (blk_cell BK142.out 4).trans rfl
                have hcz24_5 : wr.cell? ⟨gb142, 5, none⟩ = some (.bool a0_5) := (blk_cell BK142.out 5).trans rfl
                have hfz24_0 := blk_frozen BK142.out 0
                have hfz24_1 := blk_frozen BK142.out 1
                have hfz24_2 := blk_frozen BK142.out 2
                have hfz24_3 := blk_frozen BK142.out 3
                have hfz24_4 := blk_frozen BK142.out 4
                have hfz24_5 := blk_frozen BK142.out 5
                go_wp2
                go_ret
                exact ⟨by first | rfl | (simp [errW_none, errW_some] <;> rfl) | (simp [*, errW_none, errW_some] <;> rfl), by repeat (first | (with_reducible first | exact HB.out | apply below_alloc | apply pw_below_drewN | apply below_drew1 | refine below_set ?_ GE142.out | refine below_set ?_ GE143.out) | exact HB.out)⟩
              · rw [if_neg c22] at H
                have c22b0 : decide (0 < (rd [a1_0, a1_1, a1_2, a1_3] x9_1)) = false := decide_eq_false c22
                clear c22
                have H' := Aside0.mk H
                clear H
                have p9 : 0 ≤ (x9_1 : Int) := of_decide_eq_true (by first | (with_reducible assumption) | assumption)
                have q9 : (x9_1 : Int) < 4 := of_decide_eq_true (by first | (with_reducible assumption) | assumption)
                have hxv9 : ∀ W_ : World, (Instr.index 30 (.agg #[.int .i16 a1_0, .int .i16 a1_1, .int .i16 a1_2, .int .i16 a1_3]) (.int .i64 x9_1)).run Try.prog W_ = .ok (.int .i16 (rd [a1_0, a1_1, a1_2, a1_3] x9_1)) W_ := fun W_ => ard_index (k := .i16) (l := [a1_0, a1_1, a1_2, a1_3]) Try.underlying30 (by kernel_rfl) (by kernel_rfl) ⟨_, Try.underlying23⟩ rfl p9 q9 W_
                replace p9 := eq_true p9
                replace q9 := eq_true q9
                have hnb25 := NB142_143.out
                have hnc25 := NB143_142.out
                have hcz26_0 : wr.cell? ⟨gb142, 0, none⟩ = some (.slice A0_0 l0_0.length c0_0) := (blk_cell BK142.out 0).trans rfl
                have hcz26_1 : wr.cell? ⟨gb142, 1, none⟩ = some (.int .i16 a0_1) := (blk_cell BK142.out 1).trans rfl
                have hcz26_2 : wr.cell? ⟨gb142, 2, none⟩ = some (.int .i16 a0_2) := (blk_cell BK142.out 2).trans rfl
                have hcz26_3 : wr.cell? ⟨gb142, 3, none⟩ = some (.int .i16 a0_3) := (blk_cell BK142.out 3).trans rfl
                have hcz26_4 : wr.cell? ⟨gb142, 4, none⟩ = some (.int .i16 a0_4) := (blk_cell BK142.out 4).trans rfl
                have hcz26_5 : wr.cell? ⟨gb142, 5, none⟩ = some (.bool a0_5) := (blk_cell BK142.out 5).trans rfl
                have hfz26_0 := blk_frozen BK142.out 0
                have hfz26_1 := blk_frozen BK142.out 1
                have hfz26_2 := blk_frozen BK142.out 2
                have hfz26_3 := blk_frozen BK142.out 3
                have hfz26_4 := blk_frozen BK142.out 4
                have hfz26_5 := blk_frozen BK142.out 5
                go_wp2
                go_roundg k1
                case measure => have := HK1.out; omega
                case rel => exact ⟨(wrap64 (x9_1 + 1)), (by first | rfl | (simp; done) | (simp [*]; done)), H', ⟨by have := HK1.out; omega⟩, ⟨by (with_reducible repeat (first | refine blk_drewN ?_ _ | refine blk_drew ?_ | refine blk_alloc ?_ _)); exact BK142.out⟩, ⟨by (with_reducible repeat (first | refine blk_drewN ?_ _ | refine blk_drew ?_ | refine blk_alloc ?_ _)); exact BK143.out⟩, ⟨by repeat (first | (with_reducible first | exact HB.out | apply below_alloc | apply pw_below_drewN | apply below_drew1 | refine below_set ?_ GE142.out | refine below_set ?_ GE143.out) | exact HB.out)⟩⟩
        · rw [if_neg c8] at H
          exact absurd H (by simp)
      · rw [if_neg c7] at H
        have c7b0 : decide (x9_1 < 4) = false := decide_eq_false c7
        clear c7
        obtain rfl := Option.some.inj H
        go_wp2
        go_ret
        exact ⟨by first | rfl | (simp [errW_none, errW_some] <;> rfl) | (simp [*, errW_none, errW_some] <;> rfl), by repeat (first | (with_reducible first | exact HB.out | apply below_alloc | apply pw_below_drewN | apply below_drew1 | refine below_set ?_ GE142.out | refine below_set ?_ GE143.out) | exact HB.out)⟩

/-! ### impl_ValidPuzzle_1_71: function 71 -/
def impl_ValidPuzzle_1_71.f (a0 : Int) : Option (Bool) := if a0 < 1 then (some true) else (some (decide (a0 > 60)))
set_option maxHeartbeats 8000000 in
set_option maxRecDepth 100000 in
theorem impl_ValidPuzzle_1_71.calls (a0 : Int) (r : Bool) (w : World) (h : impl_ValidPuzzle_1_71.f a0 = some r) :
    Calls Try.prog 71 #[.int .i16 a0] w fun e w' => e = .returned (.bool r) ∧ Drawn0 w w' := by
  have H : (if a0 < 1 then (some true) else (some (decide (a0 > 60)))) = some r := h
  clear h
  by_cases c2 : a0 < 1
  · rw [if_pos c2] at H
    have c2b0 : decide (a0 < 1) = true := decide_eq_true c2
    clear c2
    obtain rfl := Option.some.inj H
    go_enter Try.func71, Try.ntmps71
    go_wp2
    go_ret
    exact ⟨by first | rfl | (simp; done) | (simp [*]; done), by repeat (first | exact Drawn0.refl _ | apply Drawn0.step)⟩
  · rw [if_neg c2] at H
    have c2b0 : decide (a0 < 1) = false := decide_eq_false c2
    clear c2
    obtain rfl := Option.some.inj H
    go_enter Try.func71, Try.ntmps71
    go_wp2
    go_ret
    exact ⟨by first | rfl | (simp; done) | (simp [*]; done), by repeat (first | exact Drawn0.refl _ | apply Drawn0.step)⟩

end Go.Proofs.Ytodmfjophjhbeaa.M
