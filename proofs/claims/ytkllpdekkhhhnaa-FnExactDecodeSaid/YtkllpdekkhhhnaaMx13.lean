-- By this seat's own program over the kit's printer (arrays, functions told by hand); nothing of it is trusted: the kernel checks it.
import Derived.Test.YtkllpdekkhhhnaaMx0
import Derived.Test.YtkllpdekkhhhnaaMx12
namespace Go.Proofs.Ytkllpdekkhhhnaa.M
open Go.RowKit Go.Proofs.YtkllpdekkhhhnaaW.PrintWords Go.Proofs.YtkllpdekkhhhnaaW.PrintLast Go.Proofs.YtkllpdekkhhhnaaW.PrintMore
attribute [local go_sem] max2_int min2_int max_two min_two max_three min_three max_four min_four   -- for this text's walks alone
set_option linter.unusedVariables false
set_option linter.unusedSimpArgs false

/-! ### impl_ValidWord: function 41 -/
def impl_ValidWord.l0 : Nat → Int → Int → Int → Int → Int → Int → Option (Bool)
 | 0, _, _, _, _, _, _ => none
 | k + 1, x0, x11, x504, x505, x506, x507 => if x11 < 4 then (if 0 ≤ x11 then (if (rd [x504, x505, x506, x507] x11) < (-1) then (some false) else (if (rd [x504, x505, x506, x507] x11) > 1 then (some false) else (if x11 ≥ x0 then (if (rd [x504, x505, x506, x507] x11) = 0 then (impl_ValidWord.l0 k x0 (wrap64 (x11 + 1)) x504 x505 x506 x507) else (some false)) else (impl_ValidWord.l0 k x0 (wrap64 (x11 + 1)) x504 x505 x506 x507)))) else (none)) else (some true)
def impl_ValidWord.f (k : Nat) (a0 : Int) (a1_0 : Int) (a1_1 : Int) (a1_2 : Int) (a1_3 : Int) : Option (Bool) := (impl_areLetters.f a0).bind fun t200 => (if t200 = true then (impl_ValidWord.l0 k a0 0 a1_0 a1_1 a1_2 a1_3) else (some false))
theorem impl_ValidWord.mono_l : ∀ k, (∀ y0 y1 y2 y3 y4 y5, LeO (impl_ValidWord.l0 k y0 y1 y2 y3 y4 y5) (impl_ValidWord.l0 (k + 1) y0 y1 y2 y3 y4 y5))
 | 0 => fun _ _ _ _ _ _ r h => by simp [impl_ValidWord.l0] at h
 | k + 1 => by
  have ih0 := impl_ValidWord.mono_l k
  ·intro y0 y1 y2 y3 y4 y5
   unfold impl_ValidWord.l0
   repeat' first
   | (with_reducible exact ih0 _ _ _ _ _ _)
   | (with_reducible exact LeO.refl _)
   | (with_reducible exact LeO.none _)
   | (with_reducible refine LeO.ite ?_ ?_)
   | (with_reducible refine LeO.bind ?_ (fun _ => ?_))
   | exact ih0 _ _ _ _ _ _
   | exact LeO.none _
   | refine LeO.ite ?_ ?_
   | refine LeO.bind ?_ (fun _ => ?_)
theorem impl_ValidWord.mono : ∀ a0 a1 a2 a3 a4 k, LeO (impl_ValidWord.f k a0 a1 a2 a3 a4) (impl_ValidWord.f (k + 1) a0 a1 a2 a3 a4) := by
 intro a0 a1 a2 a3 a4 k
 have ih0 := impl_ValidWord.mono_l k
 unfold impl_ValidWord.f
 repeat' first
   | (with_reducible exact ih0 _ _ _ _ _ _)
   | (with_reducible exact LeO.refl _)
   | (with_reducible exact LeO.none _)
   | (with_reducible refine LeO.ite ?_ ?_)
   | (with_reducible refine LeO.bind ?_ (fun _ => ?_))
   | exact ih0 _ _ _ _ _ _
   | exact LeO.none _
   | refine LeO.ite ?_ ?_
   | refine LeO.bind ?_ (fun _ => ?_)
set_option maxHeartbeats 8000000 in
set_option maxRecDepth 100000 in
theorem impl_ValidWord.calls (k : Nat) (a0 : Int) (a1_0 : Int) (a1_1 : Int) (a1_2 : Int) (a1_3 : Int) (r : Bool) (w : World) (h : impl_ValidWord.f k a0 a1_0 a1_1 a1_2 a1_3 = some r) :
  Calls Try.prog 41 #[.int .i64 a0, .agg #[.int .i8 a1_0, .int .i8 a1_1, .int .i8 a1_2, .int .i8 a1_3]] w fun e w' => e = .returned (.bool r) ∧ Below w.heap.size w w' := by
 have hu30 := Try.underlying30
 have HB := Aside0.mk (Below.refl w.heap.size w)
 have H : ((impl_areLetters.f a0).bind fun t200 => (if t200 = true then (impl_ValidWord.l0 k a0 0 a1_0 a1_1 a1_2 a1_3) else (some false))) = some r := h
 clear h
 replace H := Option.bind_eq_some_iff.mp H
 obtain ⟨t200, A30, H⟩ := H
 replace H : (if t200 = true then (impl_ValidWord.l0 k a0 0 a1_0 a1_1 a1_2 a1_3) else (some false)) = some r := H
 have A3 := Aside0.mk A30
 clear A30
 by_cases c4 : t200 = true
 ·subst c4
  have H1 : (impl_ValidWord.l0 k a0 0 a1_0 a1_1 a1_2 a1_3) = some r := by rw [if_pos rfl] at H; exact H
  clear H
  have H := H1
  clear H1
  have H' := Aside0.mk H
  clear H
  go_enter Try.func41, Try.ntmps41
  go_wp2_with (first | ((with_reducible refine gate_dst (N := 3) rfl ?_); refine box_event ?hg (N := 3) ?hd (cs := #[.int .i8 a1_0, .int .i8 a1_1, .int .i8 a1_2, .int .i8 a1_3]) (t := 30) ?hr ?_; (case hd => rfl); (case hg => rfl); (case hr => first | (go_simp; done) | (go_simp; rfl)); intro gb199 hg w5 hbox hb; have n0_ := Aside0.mk (below_step (bl_ HB) hb); have n1_ := Aside0.mk (hbox); have n2_ := Aside0.mk ((by rw [hg]; exact (below_size (bl_ HB)) : w.heap.size ≤ gb199)); have n3_ := Aside0.mk ((by rw [hg]; exact (below_size (bl_ HB)) : w.heap.size ≤ gb199)); clear HB; have HB := n0_; have BK199 := n1_; have GW199 := n2_; have GE199 := n3_; clear n0_ n1_ n2_ n3_; clear hb hbox hg) | ((with_reducible refine gate_callee (f := 53) rfl ?_); refine goesL_ (some 8) rfl rfl Try.func53 (by kernel_rfl) rfl #[.int .i64 a0] rfl (by (try simp only [List.map_toArray, List.map_cons, List.map_nil]); first | done | rfl | (simp only [List.length_drop, List.length_take]; rfl)) ?_; (with_reducible refine (impl_areLetters.calls a0 true _ A3.out).mono ?_); rintro e w' ⟨rfl, ⟨nd, rfl⟩⟩; refine ⟨_, rfl, ?_⟩; have hcz6_0 : w5.cell? ⟨gb199, 0, none⟩ = some (.int .i8 a1_0) := (blk_cell BK199.out 0).trans rfl; have hcz6_1 : w5.cell? ⟨gb199, 1, none⟩ = some (.int .i8 a1_1) := (blk_cell BK199.out 1).trans rfl; have hcz6_2 : w5.cell? ⟨gb199, 2, none⟩ = some (.int .i8 a1_2) := (blk_cell BK199.out 2).trans rfl; have hcz6_3 : w5.cell? ⟨gb199, 3, none⟩ = some (.int .i8 a1_3) := (blk_cell BK199.out 3).trans rfl; have hfz6_0 := blk_frozen BK199.out 0; have hfz6_1 := blk_frozen BK199.out 1; have hfz6_2 := blk_frozen BK199.out 2; have hfz6_3 := blk_frozen BK199.out 3))
  go_loopg [11] k (fun kq v11 w' => ∃ (x11_1 : Int), v11 = .int .i64 x11_1 ∧ Aside0 (impl_ValidWord.l0 kq a0 x11_1 a1_0 a1_1 a1_2 a1_3 = some r) ∧ Aside0 (kq ≤ k) ∧ Aside0 (w'.heap[gb199]? = some (.cells #[.int .i8 a1_0, .int .i8 a1_1, .int .i8 a1_2, .int .i8 a1_3] 30 (0, 0))) ∧ Aside0 (Below w.heap.size w w'))
  case atStart => exact ⟨(0), (by first | rfl | (simp; done) | (simp [*]; done)), H', ⟨Nat.le_refl _⟩, ⟨pl_ BK199⟩, ⟨by repeat (first | (with_reducible first | exact HB.out | apply below_alloc | apply pw_below_drewN | apply below_drew1 | refine below_set ?_ GE199.out) | exact HB.out)⟩⟩
  case round =>
   clear H'
   try clear p2
   try clear c4
   try clear c5
   try clear hcz6_0
   try clear hcz6_1
   try clear hcz6_2
   try clear hcz6_3
   try clear hfz6_0
   try clear hfz6_1
   try clear hfz6_2
   try clear hfz6_3
   obtain ⟨x11_1, rfl, HA, HK1, BK199, HB⟩ := hrel
   cases gk with
   | zero => exact absurd HA.out (by simp [impl_ValidWord.l0])
   | succ k1 =>
    have H := HA.out
    clear HA
    simp only [impl_ValidWord.l0] at H
    by_cases c7 : x11_1 < 4
    ·rw [if_pos c7] at H
     have c7b0 : decide (x11_1 < 4) = true := decide_eq_true c7
     clear c7
     by_cases c8 : 0 ≤ x11_1
     ·rw [if_pos c8] at H
      have c8b0 : decide (0 ≤ x11_1) = true := decide_eq_true c8
      clear c8
      by_cases c10 : (rd [a1_0, a1_1, a1_2, a1_3] x11_1) < (-1)
      ·rw [if_pos c10] at H
       have c10b0 : decide ((rd [a1_0, a1_1, a1_2, a1_3] x11_1) < (-1)) = true := decide_eq_true c10
       clear c10
       obtain rfl := Option.some.inj H
       have p9 : 0 ≤ (x11_1 : Int) := asm_
       have q9 : (x11_1 : Int) < 4 := asm_
       have hxv9 : ∀ W_ : World, (Instr.index 30 (.agg #[.int .i8 a1_0, .int .i8 a1_1, .int .i8 a1_2, .int .i8 a1_3]) (.int .i64 x11_1)).run Try.prog W_ = .ok (.int .i8 (rd [a1_0, a1_1, a1_2, a1_3] x11_1)) W_ := fun W_ => ard_index (k := .i8) (l := [a1_0, a1_1, a1_2, a1_3]) Try.underlying30 (by kernel_rfl) (by kernel_rfl) ⟨_, Try.underlying22⟩ rfl p9 q9 W_
       replace p9 := eq_true p9
       replace q9 := eq_true q9
       go_wp2
       go_ret
       exact ⟨by first | rfl | (simp [errW_none, errW_some] <;> rfl) | (simp [*, errW_none, errW_some] <;> rfl), by repeat (first | (with_reducible first | exact HB.out | apply below_alloc | apply pw_below_drewN | apply below_drew1 | refine below_set ?_ GE199.out) | exact HB.out)⟩
      ·rw [if_neg c10] at H
       have c10b0 : decide ((rd [a1_0, a1_1, a1_2, a1_3] x11_1) < (-1)) = false := decide_eq_false c10
       clear c10
       by_cases c11 : (rd [a1_0, a1_1, a1_2, a1_3] x11_1) > 1
       ·rw [if_pos c11] at H
        have c11b0 : decide (1 < (rd [a1_0, a1_1, a1_2, a1_3] x11_1)) = true := decide_eq_true c11
        clear c11
        obtain rfl := Option.some.inj H
        have p9 : 0 ≤ (x11_1 : Int) := asm_
        have q9 : (x11_1 : Int) < 4 := asm_
        have hxv9 : ∀ W_ : World, (Instr.index 30 (.agg #[.int .i8 a1_0, .int .i8 a1_1, .int .i8 a1_2, .int .i8 a1_3]) (.int .i64 x11_1)).run Try.prog W_ = .ok (.int .i8 (rd [a1_0, a1_1, a1_2, a1_3] x11_1)) W_ := fun W_ => ard_index (k := .i8) (l := [a1_0, a1_1, a1_2, a1_3]) Try.underlying30 (by kernel_rfl) (by kernel_rfl) ⟨_, Try.underlying22⟩ rfl p9 q9 W_
        replace p9 := eq_true p9
        replace q9 := eq_true q9
        go_wp2
        go_ret
        exact ⟨by first | rfl | (simp [errW_none, errW_some] <;> rfl) | (simp [*, errW_none, errW_some] <;> rfl), by repeat (first | (with_reducible first | exact HB.out | apply below_alloc | apply pw_below_drewN | apply below_drew1 | refine below_set ?_ GE199.out) | exact HB.out)⟩
       ·rw [if_neg c11] at H
        have c11b0 : decide (1 < (rd [a1_0, a1_1, a1_2, a1_3] x11_1)) = false := decide_eq_false c11
        clear c11
        by_cases c12 : x11_1 ≥ a0
        ·rw [if_pos c12] at H
         have c12b0 : decide (a0 ≤ x11_1) = true := decide_eq_true c12
         clear c12
         by_cases c13 : (rd [a1_0, a1_1, a1_2, a1_3] x11_1) = 0
         ·rw [if_pos c13] at H
          have c13b0 : ((rd [a1_0, a1_1, a1_2, a1_3] x11_1) == 0) = true := beq_iff_eq.mpr c13
          have c13b1 : ((rd [a1_0, a1_1, a1_2, a1_3] x11_1) != 0) = false := bne_eq_false_iff_eq.mpr c13
          clear c13
          have H' := Aside0.mk H
          clear H
          have p9 : 0 ≤ (x11_1 : Int) := asm_
          have q9 : (x11_1 : Int) < 4 := asm_
          have hxv9 : ∀ W_ : World, (Instr.index 30 (.agg #[.int .i8 a1_0, .int .i8 a1_1, .int .i8 a1_2, .int .i8 a1_3]) (.int .i64 x11_1)).run Try.prog W_ = .ok (.int .i8 (rd [a1_0, a1_1, a1_2, a1_3] x11_1)) W_ := fun W_ => ard_index (k := .i8) (l := [a1_0, a1_1, a1_2, a1_3]) Try.underlying30 (by kernel_rfl) (by kernel_rfl) ⟨_, Try.underlying22⟩ rfl p9 q9 W_
          replace p9 := eq_true p9
          replace q9 := eq_true q9
          go_wp2
          go_roundg k1
          case measure => have := HK1.out; omega
          case rel => exact ⟨(wrap64 (x11_1 + 1)), (by first | rfl | (simp; done) | (simp [*]; done)), H', ⟨by have := HK1.out; omega⟩, ⟨pl_ BK199⟩, ⟨by repeat (first | (with_reducible first | exact HB.out | apply below_alloc | apply pw_below_drewN | apply below_drew1 | refine below_set ?_ GE199.out) | exact HB.out)⟩⟩
         ·rw [if_neg c13] at H
          have c13b0 : ((rd [a1_0, a1_1, a1_2, a1_3] x11_1) == 0) = false := beq_eq_false_iff_ne.mpr c13
          have c13b1 : ((rd [a1_0, a1_1, a1_2, a1_3] x11_1) != 0) = true := bne_iff_ne.mpr c13
          obtain rfl := Option.some.inj H
          have p9 : 0 ≤ (x11_1 : Int) := asm_
          have q9 : (x11_1 : Int) < 4 := asm_
          have hxv9 : ∀ W_ : World, (Instr.index 30 (.agg #[.int .i8 a1_0, .int .i8 a1_1, .int .i8 a1_2, .int .i8 a1_3]) (.int .i64 x11_1)).run Try.prog W_ = .ok (.int .i8 (rd [a1_0, a1_1, a1_2, a1_3] x11_1)) W_ := fun W_ => ard_index (k := .i8) (l := [a1_0, a1_1, a1_2, a1_3]) Try.underlying30 (by kernel_rfl) (by kernel_rfl) ⟨_, Try.underlying22⟩ rfl p9 q9 W_
          replace p9 := eq_true p9
          replace q9 := eq_true q9
          go_wp2
          go_ret
          exact ⟨by first | rfl | (simp [errW_none, errW_some] <;> rfl) | (simp [*, errW_none, errW_some] <;> rfl), by repeat (first | (with_reducible first | exact HB.out | apply below_alloc | apply pw_below_drewN | apply below_drew1 | refine below_set ?_ GE199.out) | exact HB.out)⟩
        ·rw [if_neg c12] at H
         have c12b0 : decide (a0 ≤ x11_1) = false := decide_eq_false c12
         clear c12
         have H' := Aside0.mk H
         clear H
         have p9 : 0 ≤ (x11_1 : Int) := asm_
         have q9 : (x11_1 : Int) < 4 := asm_
         have hxv9 : ∀ W_ : World, (Instr.index 30 (.agg #[.int .i8 a1_0, .int .i8 a1_1, .int .i8 a1_2, .int .i8 a1_3]) (.int .i64 x11_1)).run Try.prog W_ = .ok (.int .i8 (rd [a1_0, a1_1, a1_2, a1_3] x11_1)) W_ := fun W_ => ard_index (k := .i8) (l := [a1_0, a1_1, a1_2, a1_3]) Try.underlying30 (by kernel_rfl) (by kernel_rfl) ⟨_, Try.underlying22⟩ rfl p9 q9 W_
         replace p9 := eq_true p9
         replace q9 := eq_true q9
         go_wp2
         go_roundg k1
         case measure => have := HK1.out; omega
         case rel => exact ⟨(wrap64 (x11_1 + 1)), (by first | rfl | (simp; done) | (simp [*]; done)), H', ⟨by have := HK1.out; omega⟩, ⟨pl_ BK199⟩, ⟨by repeat (first | (with_reducible first | exact HB.out | apply below_alloc | apply pw_below_drewN | apply below_drew1 | refine below_set ?_ GE199.out) | exact HB.out)⟩⟩
     ·rw [if_neg c8] at H
      exact absurd H (by simp)
    ·rw [if_neg c7] at H
     have c7b0 : decide (x11_1 < 4) = false := decide_eq_false c7
     clear c7
     obtain rfl := Option.some.inj H
     go_wp2
     go_ret
     exact ⟨by first | rfl | (simp [errW_none, errW_some] <;> rfl) | (simp [*, errW_none, errW_some] <;> rfl), by repeat (first | (with_reducible first | exact HB.out | apply below_alloc | apply pw_below_drewN | apply below_drew1 | refine below_set ?_ GE199.out) | exact HB.out)⟩
 ·replace c4 := Bool.eq_false_iff.mpr c4
  subst c4
  have H1 : (some false) = some r := by rw [if_neg (show ¬ (false = true) by decide)] at H; exact H
  clear H
  have H := H1
  clear H1
  obtain rfl := Option.some.inj H
  go_enter Try.func41, Try.ntmps41
  go_wp2_with (first | ((with_reducible refine gate_dst (N := 3) rfl ?_); refine box_event ?hg (N := 3) ?hd (cs := #[.int .i8 a1_0, .int .i8 a1_1, .int .i8 a1_2, .int .i8 a1_3]) (t := 30) ?hr ?_; (case hd => rfl); (case hg => rfl); (case hr => first | (go_simp; done) | (go_simp; rfl)); intro gb199 hg w14 hbox hb; have n0_ := Aside0.mk (below_step (bl_ HB) hb); have n1_ := Aside0.mk (hbox); have n2_ := Aside0.mk ((by rw [hg]; exact (below_size (bl_ HB)) : w.heap.size ≤ gb199)); have n3_ := Aside0.mk ((by rw [hg]; exact (below_size (bl_ HB)) : w.heap.size ≤ gb199)); clear HB; have HB := n0_; have BK199 := n1_; have GW199 := n2_; have GE199 := n3_; clear n0_ n1_ n2_ n3_; clear hb hbox hg) | ((with_reducible refine gate_callee (f := 53) rfl ?_); refine goesL_ (some 8) rfl rfl Try.func53 (by kernel_rfl) rfl #[.int .i64 a0] rfl (by (try simp only [List.map_toArray, List.map_cons, List.map_nil]); first | done | rfl | (simp only [List.length_drop, List.length_take]; rfl)) ?_; (with_reducible refine (impl_areLetters.calls a0 false _ A3.out).mono ?_); rintro e w' ⟨rfl, ⟨nd, rfl⟩⟩; refine ⟨_, rfl, ?_⟩))
  go_ret
  exact ⟨by first | rfl | (simp [errW_none, errW_some] <;> rfl) | (simp [*, errW_none, errW_some] <;> rfl), by repeat (first | (with_reducible first | exact HB.out | apply below_alloc | apply pw_below_drewN | apply below_drew1 | refine below_set ?_ GE199.out) | exact HB.out)⟩

/-! ### impl_ValidFixed_1_57: function 57 -/
def impl_ValidFixed_1_57.f (k : Nat) (a0_0 : Int) (a0_1 : Int) (a0_2 : Int) (a0_3 : Int) (a1_0 : Int) : Option (Bool) := (impl_ValidWord.f k a1_0 a0_0 a0_1 a0_2 a0_3).bind fun t203 => (some (!t203))
theorem impl_ValidFixed_1_57.mono : ∀ a0 a1 a2 a3 a4 k, LeO (impl_ValidFixed_1_57.f k a0 a1 a2 a3 a4) (impl_ValidFixed_1_57.f (k + 1) a0 a1 a2 a3 a4) := by
 intro a0 a1 a2 a3 a4 k
 unfold impl_ValidFixed_1_57.f
 repeat' first
   | (with_reducible exact impl_ValidWord.mono _ _ _ _ _ _)
   | (with_reducible exact LeO.refl _)
   | (with_reducible exact LeO.none _)
   | (with_reducible refine LeO.ite ?_ ?_)
   | (with_reducible refine LeO.bind ?_ (fun _ => ?_))
   | exact impl_ValidWord.mono _ _ _ _ _ _
   | exact LeO.none _
   | refine LeO.ite ?_ ?_
   | refine LeO.bind ?_ (fun _ => ?_)
set_option maxHeartbeats 8000000 in
set_option maxRecDepth 100000 in
theorem impl_ValidFixed_1_57.calls (k : Nat) (a0_0 : Int) (a0_1 : Int) (a0_2 : Int) (a0_3 : Int) (gp1 : Nat) (a1_0 : Int) (r : Bool) (w : World) (hb1 : w.heap[gp1]? = some (.cells #[.int .i64 a1_0] 2 (0, 0))) (h : impl_ValidFixed_1_57.f k a0_0 a0_1 a0_2 a0_3 a1_0 = some r) :
  Calls Try.prog 57 #[.agg #[.int .i8 a0_0, .int .i8 a0_1, .int .i8 a0_2, .int .i8 a0_3], .pointer (some ⟨gp1, 0, none⟩)] w fun e w' => e = .returned (.bool r) ∧ Below w.heap.size w w' := by
 have hu30 := Try.underlying30
 have BK201 := Aside0.mk hb1
 clear hb1
 have HB := Aside0.mk (Below.refl w.heap.size w)
 have H : ((impl_ValidWord.f k a1_0 a0_0 a0_1 a0_2 a0_3).bind fun t203 => (some (!t203))) = some r := h
 clear h
 replace H := Option.bind_eq_some_iff.mp H
 obtain ⟨t203, A30, H⟩ := H
 replace H : (some (!t203)) = some r := H
 have A3 := Aside0.mk A30
 clear A30
 obtain rfl := Option.some.inj H
 go_enter Try.func57, Try.ntmps57
 go_wp2_with (first | ((with_reducible refine gate_dst (N := 2) rfl ?_); refine box_event ?hg (N := 2) ?hd (cs := #[.int .i8 a0_0, .int .i8 a0_1, .int .i8 a0_2, .int .i8 a0_3]) (t := 30) ?hr ?_; (case hd => rfl); (case hg => rfl); (case hr => first | (go_simp; done) | (go_simp; rfl)); intro gb202 hg w4 hbox hb; have n0_ := Aside0.mk (blk_below (g := gp1) (o := .cells #[.int .i64 a1_0] 2 (0, 0)) (pl_ BK201) hb); have n1_ := Aside0.mk (below_step (by repeat (first | (with_reducible first | exact HB.out | apply below_alloc | apply pw_below_drewN | apply below_drew1 | refine below_set ?_ GE201.out) | exact HB.out)) hb); have n2_ := Aside0.mk (hbox); have n3_ := Aside0.mk ((by rw [hg]; exact (below_size (by repeat (first | (with_reducible first | exact HB.out | apply below_alloc | apply pw_below_drewN | apply below_drew1 | refine below_set ?_ GE201.out) | exact HB.out))) : w.heap.size ≤ gb202)); have n4_ := Aside0.mk ((by rw [hg]; exact (below_size (by repeat (first | (with_reducible first | exact HB.out | apply below_alloc | apply pw_below_drewN | apply below_drew1 | refine below_set ?_ GE201.out) | exact HB.out))) : w.heap.size ≤ gb202)); have n5_ := Aside0.mk ((by rw [hg]; exact Nat.ne_of_lt (blk_lt (g := gp1) (o := .cells #[.int .i64 a1_0] 2 (0, 0)) (pl_ BK201)) : gp1 ≠ gb202)); have n6_ := Aside0.mk ((by rw [hg]; exact Nat.ne_of_gt (blk_lt (g := gp1) (o := .cells #[.int .i64 a1_0] 2 (0, 0)) (pl_ BK201)) : gb202 ≠ gp1)); clear BK201; clear HB; have BK201 := n0_; have HB := n1_; have BK202 := n2_; have GW202 := n3_; have GE202 := n4_; have NB201_202 := n5_; have NB202_201 := n6_; clear n0_ n1_ n2_ n3_ n4_ n5_ n6_; clear hb hbox hg; have hnb5 := NB201_202.out; have hnc5 := NB202_201.out; have hcz6_0 : w4.cell? ⟨gp1, 0, none⟩ = some (.int .i64 a1_0) := (blk_cell BK201.out 0).trans rfl; have hfz6_0 := blk_frozen BK201.out 0; have hcz7_0 : w4.cell? ⟨gb202, 0, none⟩ = some (.int .i8 a0_0) := (blk_cell BK202.out 0).trans rfl; have hcz7_1 : w4.cell? ⟨gb202, 1, none⟩ = some (.int .i8 a0_1) := (blk_cell BK202.out 1).trans rfl; have hcz7_2 : w4.cell? ⟨gb202, 2, none⟩ = some (.int .i8 a0_2) := (blk_cell BK202.out 2).trans rfl; have hcz7_3 : w4.cell? ⟨gb202, 3, none⟩ = some (.int .i8 a0_3) := (blk_cell BK202.out 3).trans rfl; have hfz7_0 := blk_frozen BK202.out 0; have hfz7_1 := blk_frozen BK202.out 1; have hfz7_2 := blk_frozen BK202.out 2; have hfz7_3 := blk_frozen BK202.out 3) | ((with_reducible refine gate_callee (f := 41) rfl ?_); refine goesL_ (some 6) rfl rfl Try.func41 (by kernel_rfl) rfl #[.int .i64 a1_0, .agg #[.int .i8 a0_0, .int .i8 a0_1, .int .i8 a0_2, .int .i8 a0_3]] rfl (by (try simp only [List.map_toArray, List.map_cons, List.map_nil]); first | done | rfl | (simp only [List.length_drop, List.length_take]; rfl)) ?_; (with_reducible refine (impl_ValidWord.calls k a1_0 a0_0 a0_1 a0_2 a0_3 t203 _ A3.out).mono ?_); rintro e w8 ⟨rfl, hb⟩; refine ⟨_, rfl, ?_⟩; have n0_ := Aside0.mk (blk_below (g := gp1) (o := .cells #[.int .i64 a1_0] 2 (0, 0)) (pl_ BK201) hb); have n1_ := Aside0.mk (blk_below (g := gb202) (o := .cells #[.int .i8 a0_0, .int .i8 a0_1, .int .i8 a0_2, .int .i8 a0_3] 30 (0, 0)) (pl_ BK202) hb); have n2_ := Aside0.mk (below_step (by repeat (first | (with_reducible first | exact HB.out | apply below_alloc | apply pw_below_drewN | apply below_drew1 | refine below_set ?_ GE201.out | refine below_set ?_ GE202.out) | exact HB.out)) hb); clear BK201; clear BK202; clear HB; have BK201 := n0_; have BK202 := n1_; have HB := n2_; clear n0_ n1_ n2_; (try clear hb); (try clear hb2); (try clear hk); (try clear hi)))
 go_ret
 exact ⟨by first | rfl | (simp [errW_none, errW_some] <;> rfl) | (simp [*, errW_none, errW_some] <;> rfl), by repeat (first | (with_reducible first | exact HB.out | apply below_alloc | apply pw_below_drewN | apply below_drew1 | refine below_set ?_ GE201.out | refine below_set ?_ GE202.out) | exact HB.out)⟩

end Go.Proofs.Ytkllpdekkhhhnaa.M
