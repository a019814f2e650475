-- By this seat's own program over the kit's printer (arrays, functions told by hand); nothing of it is trusted: the kernel checks it.
import Derived.Test.YteohhkfeeeifaaaMx0
import Derived.Test.YteohhkfeeeifaaaMx7
namespace Go.Proofs.Yteohhkfeeeifaaa.M
open Go.RowKit Go.Proofs.YteohhkfeeeifaaaW.PrintWords Go.Proofs.YteohhkfeeeifaaaW.PrintLast Go.Proofs.YteohhkfeeeifaaaW.PrintMore
attribute [local go_sem] max2_int min2_int max_two min_two max_three min_three max_four min_four   -- for this text's walks alone
set_option linter.unusedVariables false
set_option linter.unusedSimpArgs false

/-! ### spec_l04Turns: function 47 -/
def spec_l04Turns.l0 : Nat → Int → Int → Int → Int → Int → Int → Option (Bool)
 | 0, _, _, _, _, _, _ => none
 | k + 1, x0, x5, x150000, x150001, x150002, x150003 => if x5 < x0 then (if 0 ≤ x5 then (if x5 < 4 then (if 0 ≤ (wrap64 (x5 - 1)) then (if (wrap64 (x5 - 1)) < 4 then (if (rd [x150000, x150001, x150002, x150003] x5) = (rd [x150000, x150001, x150002, x150003] (wrap64 (x5 - 1))) then (spec_l04Turns.l0 k x0 (wrap64 (x5 + 1)) x150000 x150001 x150002 x150003) else ((spec_l04Next.f (rd [x150000, x150001, x150002, x150003] (wrap64 (x5 - 1)))).bind fun t150 => (some ((rd [x150000, x150001, x150002, x150003] x5) == t150)))) else (none)) else (none)) else (none)) else (none)) else (some false)
def spec_l04Turns.f (k : Nat) (a0 : Int) (a1_0 : Int) (a1_1 : Int) (a1_2 : Int) (a1_3 : Int) : Option (Bool) := spec_l04Turns.l0 k a0 1 a1_0 a1_1 a1_2 a1_3
theorem spec_l04Turns.mono_l : ∀ k, (∀ y0 y1 y2 y3 y4 y5, LeO (spec_l04Turns.l0 k y0 y1 y2 y3 y4 y5) (spec_l04Turns.l0 (k + 1) y0 y1 y2 y3 y4 y5))
 | 0 => fun _ _ _ _ _ _ r h => by simp [spec_l04Turns.l0] at h
 | k + 1 => by
  have ih0 := spec_l04Turns.mono_l k
  ·intro y0 y1 y2 y3 y4 y5
   unfold spec_l04Turns.l0
   repeat' first
   | (with_reducible exact ih0 _ _ _ _ _ _)
   | (with_reducible exact LeO.refl _)
   | (with_reducible exact LeO.none _)
   | (with_reducible refine LeO.ite ?_ ?_)
   | (with_reducible refine LeO.bind ?_ (fun _ => ?_))
   | exact ih0 _ _ _ _ _ _
   | exact LeO.none _
   | refine LeO.ite ?_ ?_
   | refine LeO.bind ?_ (fun _ => ?_)
theorem spec_l04Turns.mono : ∀ a0 a1 a2 a3 a4 k, LeO (spec_l04Turns.f k a0 a1 a2 a3 a4) (spec_l04Turns.f (k + 1) a0 a1 a2 a3 a4) := by
 intro a0 a1 a2 a3 a4 k
 have ih0 := spec_l04Turns.mono_l k
 unfold spec_l04Turns.f
 repeat' first
   | (with_reducible exact ih0 _ _ _ _ _ _)
   | (with_reducible exact LeO.refl _)
   | (with_reducible exact LeO.none _)
   | (with_reducible refine LeO.ite ?_ ?_)
   | (with_reducible refine LeO.bind ?_ (fun _ => ?_))
   | exact ih0 _ _ _ _ _ _
   | exact LeO.none _
   | refine LeO.ite ?_ ?_
   | refine LeO.bind ?_ (fun _ => ?_)
set_option maxHeartbeats 8000000 in
set_option maxRecDepth 100000 in
theorem spec_l04Turns.calls (k : Nat) (a0 : Int) (a1_0 : Int) (a1_1 : Int) (a1_2 : Int) (a1_3 : Int) (r : Bool) (w : World) (h : spec_l04Turns.f k a0 a1_0 a1_1 a1_2 a1_3 = some r) :
  Calls Try.prog 47 #[.int .i64 a0, .agg #[.int .i8 a1_0, .int .i8 a1_1, .int .i8 a1_2, .int .i8 a1_3]] w fun e w' => e = .returned (.bool r) ∧ Below w.heap.size w w' := by
 have hu24 := Try.underlying24
 have HB := Aside0.mk (Below.refl w.heap.size w)
 have H : (spec_l04Turns.l0 k a0 1 a1_0 a1_1 a1_2 a1_3) = some r := h
 clear h
 have H' := Aside0.mk H
 clear H
 go_enter Try.func47, Try.ntmps47
 go_wp2_with (first | ((with_reducible refine gate_dst (N := 3) rfl ?_); refine box_event ?hg (N := 3) ?hd (cs := #[.int .i8 a1_0, .int .i8 a1_1, .int .i8 a1_2, .int .i8 a1_3]) (t := 24) ?hr ?_; (case hd => rfl); (case hg => rfl); (case hr => first | (go_simp; done) | (go_simp; rfl)); intro gb149 hg w3 hbox hb; have n0_ := Aside0.mk (below_step (bl_ HB) hb); have n1_ := Aside0.mk (hbox); have n2_ := Aside0.mk ((by rw [hg]; exact (below_size (bl_ HB)) : w.heap.size ≤ gb149)); have n3_ := Aside0.mk ((by rw [hg]; exact (below_size (bl_ HB)) : w.heap.size ≤ gb149)); clear HB; have HB := n0_; have BK149 := n1_; have GW149 := n2_; have GE149 := n3_; clear n0_ n1_ n2_ n3_; clear hb hbox hg))
 repeat (go_quiet (first | ((with_reducible refine gate_dst (N := 3) rfl ?_); refine box_event ?hg (N := 3) ?hd (cs := #[.int .i8 a1_0, .int .i8 a1_1, .int .i8 a1_2, .int .i8 a1_3]) (t := 24) ?hr ?_; (case hd => rfl); (case hg => rfl); (case hr => first | (go_simp; done) | (go_simp; rfl)); intro gb149 hg w3 hbox hb; have n0_ := Aside0.mk (below_step (bl_ HB) hb); have n1_ := Aside0.mk (hbox); have n2_ := Aside0.mk ((by rw [hg]; exact (below_size (bl_ HB)) : w.heap.size ≤ gb149)); have n3_ := Aside0.mk ((by rw [hg]; exact (below_size (bl_ HB)) : w.heap.size ≤ gb149)); clear HB; have HB := n0_; have BK149 := n1_; have GW149 := n2_; have GE149 := n3_; clear n0_ n1_ n2_ n3_; clear hb hbox hg)); try go_wp2_with (first | ((with_reducible refine gate_dst (N := 3) rfl ?_); refine box_event ?hg (N := 3) ?hd (cs := #[.int .i8 a1_0, .int .i8 a1_1, .int .i8 a1_2, .int .i8 a1_3]) (t := 24) ?hr ?_; (case hd => rfl); (case hg => rfl); (case hr => first | (go_simp; done) | (go_simp; rfl)); intro gb149 hg w3 hbox hb; have n0_ := Aside0.mk (below_step (bl_ HB) hb); have n1_ := Aside0.mk (hbox); have n2_ := Aside0.mk ((by rw [hg]; exact (below_size (bl_ HB)) : w.heap.size ≤ gb149)); have n3_ := Aside0.mk ((by rw [hg]; exact (below_size (bl_ HB)) : w.heap.size ≤ gb149)); clear HB; have HB := n0_; have BK149 := n1_; have GW149 := n2_; have GE149 := n3_; clear n0_ n1_ n2_ n3_; clear hb hbox hg)))
 go_loopg [5] k (fun kq v5 w' => ∃ (x5_1 : Int), v5 = .int .i64 x5_1 ∧ Aside0 (spec_l04Turns.l0 kq a0 x5_1 a1_0 a1_1 a1_2 a1_3 = some r) ∧ Aside0 (kq ≤ k) ∧ Aside0 (w'.heap[gb149]? = some (.cells #[.int .i8 a1_0, .int .i8 a1_1, .int .i8 a1_2, .int .i8 a1_3] 24 (0, 0))) ∧ Aside0 (Below w.heap.size w w'))
 case atStart => exact ⟨(1), (by first | rfl | (simp; done) | (simp [*]; done)), H', ⟨Nat.le_refl _⟩, ⟨pl_ BK149⟩, ⟨by repeat (first | (with_reducible first | exact HB.out | apply below_alloc | apply pw_below_drewN | apply below_drew1 | refine below_set ?_ GE149.out) | exact HB.out)⟩⟩
 case round =>
  clear H'
  try clear p2
  obtain ⟨x5_1, rfl, HA, HK1, BK149, HB⟩ := hrel
  cases gk with
  | zero => exact absurd HA.out (by simp [spec_l04Turns.l0])
  | succ k1 =>
   have H := HA.out
   clear HA
   simp only [spec_l04Turns.l0] at H
   by_cases c4 : x5_1 < a0
   ·rw [if_pos c4] at H
    have c4b0 : decide (x5_1 < a0) = true := decide_eq_true c4
    clear c4
    by_cases c5 : 0 ≤ x5_1
    ·rw [if_pos c5] at H
     have c5b0 : decide (0 ≤ x5_1) = true := decide_eq_true c5
     clear c5
     by_cases c6 : x5_1 < 4
     ·rw [if_pos c6] at H
      have c6b0 : decide (x5_1 < 4) = true := decide_eq_true c6
      clear c6
      obtain ⟨ji8, hji8⟩ : ∃ j_ : Int, (wrap64 (x5_1 - 1)) = j_ := ⟨_, rfl⟩
      replace H : (if 0 ≤ (ji8) then (if (ji8) < 4 then (if (rd [a1_0, a1_1, a1_2, a1_3] x5_1) = (rd [a1_0, a1_1, a1_2, a1_3] (ji8)) then (spec_l04Turns.l0 k1 a0 (wrap64 (x5_1 + 1)) a1_0 a1_1 a1_2 a1_3) else ((spec_l04Next.f (rd [a1_0, a1_1, a1_2, a1_3] (ji8))).bind fun t150 => (some ((rd [a1_0, a1_1, a1_2, a1_3] x5_1) == t150)))) else (none)) else (none)) = some r := by first | (rw [hji8] at H; exact H) | (simp only [hji8] at H ⊢; exact H)
      have hji8w : (IntKind.i64.wrap (x5_1 - 1)) = ji8 := (i64_w _).trans hji8
      by_cases c9 : 0 ≤ (ji8)
      ·rw [if_pos c9] at H
       have c9b0 : decide (0 ≤ (ji8)) = true := decide_eq_true c9
       clear c9
       by_cases c10 : (ji8) < 4
       ·rw [if_pos c10] at H
        have c10b0 : decide ((ji8) < 4) = true := decide_eq_true c10
        clear c10
        by_cases c12 : (rd [a1_0, a1_1, a1_2, a1_3] x5_1) = (rd [a1_0, a1_1, a1_2, a1_3] (ji8))
        ·rw [if_pos c12] at H
         have c12b0 : ((rd [a1_0, a1_1, a1_2, a1_3] x5_1) == (rd [a1_0, a1_1, a1_2, a1_3] (ji8))) = true := beq_iff_eq.mpr c12
         have c12b1 : ((rd [a1_0, a1_1, a1_2, a1_3] x5_1) != (rd [a1_0, a1_1, a1_2, a1_3] (ji8))) = false := bne_eq_false_iff_eq.mpr c12
         clear c12
         have H' := Aside0.mk H
         clear H
         have hcz13_0 : wr.cell? ⟨gb149, 0, none⟩ = some (.int .i8 a1_0) := (blk_cell BK149.out 0).trans rfl
         have hcz13_1 : wr.cell? ⟨gb149, 1, none⟩ = some (.int .i8 a1_1) := (blk_cell BK149.out 1).trans rfl
         have hcz13_2 : wr.cell? ⟨gb149, 2, none⟩ = some (.int .i8 a1_2) := (blk_cell BK149.out 2).trans rfl
         have hcz13_3 : wr.cell? ⟨gb149, 3, none⟩ = some (.int .i8 a1_3) := (blk_cell BK149.out 3).trans rfl
         have hfz13_0 := blk_frozen BK149.out 0
         have hfz13_1 := blk_frozen BK149.out 1
         have hfz13_2 := blk_frozen BK149.out 2
         have hfz13_3 := blk_frozen BK149.out 3
         have p7 : 0 ≤ (x5_1 : Int) := asm_
         have q7 : (x5_1 : Int) < 4 := asm_
         have hx7 : wr.cell? ⟨gb149, (x5_1 : Int).toNat, none⟩ = some (.int .i8 (rd [a1_0, a1_1, a1_2, a1_3] x5_1)) := ard_cell (k := .i8) (l := [a1_0, a1_1, a1_2, a1_3]) BK149.out p7 q7
         have hf7 := blk_frozen BK149.out (x5_1 : Int).toNat
         have P7 := Aside0.mk p7
         have Q7 := Aside0.mk q7
         replace p7 := eq_true p7
         replace q7 := eq_true q7
         have p11 : 0 ≤ ((ji8) : Int) := asm_
         have q11 : ((ji8) : Int) < 4 := asm_
         have hx11 : wr.cell? ⟨gb149, ((ji8) : Int).toNat, none⟩ = some (.int .i8 (rd [a1_0, a1_1, a1_2, a1_3] (ji8))) := ard_cell (k := .i8) (l := [a1_0, a1_1, a1_2, a1_3]) BK149.out p11 q11
         have hf11 := blk_frozen BK149.out ((ji8) : Int).toNat
         have P11 := Aside0.mk p11
         have Q11 := Aside0.mk q11
         replace p11 := eq_true p11
         replace q11 := eq_true q11
         go_wp2
         repeat (go_quiet (fail); try go_wp2)
         go_roundg k1
         case measure => have := HK1.out; omega
         case rel => exact ⟨(wrap64 (x5_1 + 1)), (by first | rfl | (simp; done) | (simp [*]; done)), H', ⟨by have := HK1.out; omega⟩, ⟨pl_ BK149⟩, ⟨by repeat (first | (with_reducible first | exact HB.out | apply below_alloc | apply pw_below_drewN | apply below_drew1 | refine below_set ?_ GE149.out) | exact HB.out)⟩⟩
        ·rw [if_neg c12] at H
         have c12b0 : ((rd [a1_0, a1_1, a1_2, a1_3] x5_1) == (rd [a1_0, a1_1, a1_2, a1_3] (ji8))) = false := beq_eq_false_iff_ne.mpr c12
         have c12b1 : ((rd [a1_0, a1_1, a1_2, a1_3] x5_1) != (rd [a1_0, a1_1, a1_2, a1_3] (ji8))) = true := bne_iff_ne.mpr c12
         replace H := Option.bind_eq_some_iff.mp H
         obtain ⟨t150, A160, H⟩ := H
         replace H : (some ((rd [a1_0, a1_1, a1_2, a1_3] x5_1) == t150)) = some r := H
         have A16 := Aside0.mk A160
         clear A160
         obtain rfl := Option.some.inj H
         have hcz17_0 : wr.cell? ⟨gb149, 0, none⟩ = some (.int .i8 a1_0) := (blk_cell BK149.out 0).trans rfl
         have hcz17_1 : wr.cell? ⟨gb149, 1, none⟩ = some (.int .i8 a1_1) := (blk_cell BK149.out 1).trans rfl
         have hcz17_2 : wr.cell? ⟨gb149, 2, none⟩ = some (.int .i8 a1_2) := (blk_cell BK149.out 2).trans rfl
         have hcz17_3 : wr.cell? ⟨gb149, 3, none⟩ = some (.int .i8 a1_3) := (blk_cell BK149.out 3).trans rfl
         have hfz17_0 := blk_frozen BK149.out 0
         have hfz17_1 := blk_frozen BK149.out 1
         have hfz17_2 := blk_frozen BK149.out 2
         have hfz17_3 := blk_frozen BK149.out 3
         have p7 : 0 ≤ (x5_1 : Int) := asm_
         have q7 : (x5_1 : Int) < 4 := asm_
         have hx7 : wr.cell? ⟨gb149, (x5_1 : Int).toNat, none⟩ = some (.int .i8 (rd [a1_0, a1_1, a1_2, a1_3] x5_1)) := ard_cell (k := .i8) (l := [a1_0, a1_1, a1_2, a1_3]) BK149.out p7 q7
         have hf7 := blk_frozen BK149.out (x5_1 : Int).toNat
         have P7 := Aside0.mk p7
         have Q7 := Aside0.mk q7
         replace p7 := eq_true p7
         replace q7 := eq_true q7
         have p11 : 0 ≤ ((ji8) : Int) := asm_
         have q11 : ((ji8) : Int) < 4 := asm_
         have hx11 : wr.cell? ⟨gb149, ((ji8) : Int).toNat, none⟩ = some (.int .i8 (rd [a1_0, a1_1, a1_2, a1_3] (ji8))) := ard_cell (k := .i8) (l := [a1_0, a1_1, a1_2, a1_3]) BK149.out p11 q11
         have hf11 := blk_frozen BK149.out ((ji8) : Int).toNat
         have P11 := Aside0.mk p11
         have Q11 := Aside0.mk q11
         replace p11 := eq_true p11
         replace q11 := eq_true q11
         have p14 : 0 ≤ (x5_1 : Int) := asm_
         have q14 : (x5_1 : Int) < 4 := asm_
         have hx14 : wr.cell? ⟨gb149, (x5_1 : Int).toNat, none⟩ = some (.int .i8 (rd [a1_0, a1_1, a1_2, a1_3] x5_1)) := ard_cell (k := .i8) (l := [a1_0, a1_1, a1_2, a1_3]) BK149.out p14 q14
         have hf14 := blk_frozen BK149.out (x5_1 : Int).toNat
         have P14 := Aside0.mk p14
         have Q14 := Aside0.mk q14
         replace p14 := eq_true p14
         replace q14 := eq_true q14
         have p15 : 0 ≤ ((ji8) : Int) := asm_
         have q15 : ((ji8) : Int) < 4 := asm_
         have hx15 : wr.cell? ⟨gb149, ((ji8) : Int).toNat, none⟩ = some (.int .i8 (rd [a1_0, a1_1, a1_2, a1_3] (ji8))) := ard_cell (k := .i8) (l := [a1_0, a1_1, a1_2, a1_3]) BK149.out p15 q15
         have hf15 := blk_frozen BK149.out ((ji8) : Int).toNat
         have P15 := Aside0.mk p15
         have Q15 := Aside0.mk q15
         replace p15 := eq_true p15
         replace q15 := eq_true q15
         go_wp2_with (first | (go_at_call 54; (with_reducible refine (spec_l04Next.calls (rd [a1_0, a1_1, a1_2, a1_3] (ji8)) t150 _ A16.out).mono ?_); rintro e w' ⟨rfl, ⟨nd, rfl⟩⟩; (try first | exact ⟨rfl, _, World.drewN_drewN _ _ _⟩ | exact ⟨rfl, _, Eq.trans (World.drewN_drewN _ _ _) (congrArg (World.drewN _) (Nat.add_assoc _ _ _))⟩)))
         repeat (go_quiet (first | (go_at_call 54; (with_reducible refine (spec_l04Next.calls (rd [a1_0, a1_1, a1_2, a1_3] (ji8)) t150 _ A16.out).mono ?_); rintro e w' ⟨rfl, ⟨nd, rfl⟩⟩; (try first | exact ⟨rfl, _, World.drewN_drewN _ _ _⟩ | exact ⟨rfl, _, Eq.trans (World.drewN_drewN _ _ _) (congrArg (World.drewN _) (Nat.add_assoc _ _ _))⟩))); try go_wp2_with (first | (go_at_call 54; (with_reducible refine (spec_l04Next.calls (rd [a1_0, a1_1, a1_2, a1_3] (ji8)) t150 _ A16.out).mono ?_); rintro e w' ⟨rfl, ⟨nd, rfl⟩⟩; (try first | exact ⟨rfl, _, World.drewN_drewN _ _ _⟩ | exact ⟨rfl, _, Eq.trans (World.drewN_drewN _ _ _) (congrArg (World.drewN _) (Nat.add_assoc _ _ _))⟩))))
         go_ret
         exact ⟨by first | rfl | (simp [errW_none, errW_some] <;> rfl) | (simp only [← hji8]; first | rfl | (simp [errW_none, errW_some] <;> rfl)) | (simp [*, errW_none, errW_some] <;> rfl), by repeat (first | (with_reducible first | exact HB.out | apply below_alloc | apply pw_below_drewN | apply below_drew1 | refine below_set ?_ GE149.out) | exact HB.out)⟩
       ·rw [if_neg c10] at H
        exact absurd H (by simp)
      ·rw [if_neg c9] at H
       exact absurd H (by simp)
     ·rw [if_neg c6] at H
      exact absurd H (by simp)
    ·rw [if_neg c5] at H
     exact absurd H (by simp)
   ·rw [if_neg c4] at H
    have c4b0 : decide (x5_1 < a0) = false := decide_eq_false c4
    clear c4
    obtain rfl := Option.some.inj H
    go_wp2
    repeat (go_quiet (fail); try go_wp2)
    go_ret
    exact ⟨by first | rfl | (simp [errW_none, errW_some] <;> rfl) | (simp [*, errW_none, errW_some] <;> rfl), by repeat (first | (with_reducible first | exact HB.out | apply below_alloc | apply pw_below_drewN | apply below_drew1 | refine below_set ?_ GE149.out) | exact HB.out)⟩

end Go.Proofs.Yteohhkfeeeifaaa.M
