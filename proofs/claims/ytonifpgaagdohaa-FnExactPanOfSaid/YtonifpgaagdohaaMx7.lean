-- By this seat's own program over the kit's printer (arrays, functions told by hand); nothing of it is trusted: the kernel checks it.
import Derived.Test.YtonifpgaagdohaaMx0
import Derived.Test.YtonifpgaagdohaaMx6
namespace Go.Proofs.Ytonifpgaagdohaa.M
open Go.RowKit Go.Proofs.YtonifpgaagdohaaW.PrintWords Go.Proofs.YtonifpgaagdohaaW.PrintLast Go.Proofs.YtonifpgaagdohaaW.PrintMore
attribute [local go_sem] max2_int min2_int max_two min_two max_three min_three max_four min_four   -- for this text's walks alone
set_option linter.unusedVariables false
set_option linter.unusedSimpArgs false

/-! ### spec_l04Word: function 44 -/
def spec_l04Word.l0 : Nat → Int → Int → Int → Int → Int → Int → Option (Bool)
 | 0, _, _, _, _, _, _ => none
 | k + 1, x0, x5, x135000, x135001, x135002, x135003 => if x5 < 4 then (if 0 ≤ x5 then (if (rd [x135000, x135001, x135002, x135003] x5) < (-1) then (some false) else (if (rd [x135000, x135001, x135002, x135003] x5) > 1 then (some false) else (if x5 ≥ x0 then (if (rd [x135000, x135001, x135002, x135003] x5) = 0 then (spec_l04Word.l0 k x0 (wrap64 (x5 + 1)) x135000 x135001 x135002 x135003) else (some false)) else (spec_l04Word.l0 k x0 (wrap64 (x5 + 1)) x135000 x135001 x135002 x135003)))) else (none)) else ((spec_l04Letters.f x0).bind fun t135 => (some t135))
def spec_l04Word.f (k : Nat) (a0 : Int) (a1_0 : Int) (a1_1 : Int) (a1_2 : Int) (a1_3 : Int) : Option (Bool) := spec_l04Word.l0 k a0 0 a1_0 a1_1 a1_2 a1_3
theorem spec_l04Word.mono_l : ∀ k, (∀ y0 y1 y2 y3 y4 y5, LeO (spec_l04Word.l0 k y0 y1 y2 y3 y4 y5) (spec_l04Word.l0 (k + 1) y0 y1 y2 y3 y4 y5))
 | 0 => fun _ _ _ _ _ _ r h => by simp [spec_l04Word.l0] at h
 | k + 1 => by
  have ih0 := spec_l04Word.mono_l k
  ·intro y0 y1 y2 y3 y4 y5
   unfold spec_l04Word.l0
   repeat' first
   | (with_reducible exact ih0 _ _ _ _ _ _)
   | (with_reducible exact LeO.refl _)
   | (with_reducible exact LeO.none _)
   | (with_reducible refine LeO.ite ?_ ?_)
   | (with_reducible refine LeO.bind ?_ (fun _ => ?_))
   | exact ih0 _ _ _ _ _ _
   | exact LeO.none _
   | refine LeO.ite ?_ ?_
   | refine LeO.bind ?_ (fun _ => ?_)
theorem spec_l04Word.mono : ∀ a0 a1 a2 a3 a4 k, LeO (spec_l04Word.f k a0 a1 a2 a3 a4) (spec_l04Word.f (k + 1) a0 a1 a2 a3 a4) := by
 intro a0 a1 a2 a3 a4 k
 have ih0 := spec_l04Word.mono_l k
 unfold spec_l04Word.f
 repeat' first
   | (with_reducible exact ih0 _ _ _ _ _ _)
   | (with_reducible exact LeO.refl _)
   | (with_reducible exact LeO.none _)
   | (with_reducible refine LeO.ite ?_ ?_)
   | (with_reducible refine LeO.bind ?_ (fun _ => ?_))
   | exact ih0 _ _ _ _ _ _
   | exact LeO.none _
   | refine LeO.ite ?_ ?_
   | refine LeO.bind ?_ (fun _ => ?_)
set_option maxHeartbeats 8000000 in
set_option maxRecDepth 100000 in
theorem spec_l04Word.calls (k : Nat) (a0 : Int) (a1_0 : Int) (a1_1 : Int) (a1_2 : Int) (a1_3 : Int) (r : Bool) (w : World) (h : spec_l04Word.f k a0 a1_0 a1_1 a1_2 a1_3 = some r) :
  Calls Try.prog 44 #[.int .i64 a0, .agg #[.int .i8 a1_0, .int .i8 a1_1, .int .i8 a1_2, .int .i8 a1_3]] w fun e w' => e = .returned (.bool r) ∧ Below w.heap.size w w' := by
 have hu40 := Try.underlying40
 have HB := A_ (Below.refl w.heap.size w)
 have H : (spec_l04Word.l0 k a0 0 a1_0 a1_1 a1_2 a1_3) = some r := h
 clear h
 have H' := Aside0.mk H
 clear H
 go_enter Try.func44, Try.ntmps44
 go_wp2_with (first | ((with_reducible refine gate_dst (N := 3) rfl ?_); refine box_event ?hg (N := 3) ?hd (cs := #[.int .i8 a1_0, .int .i8 a1_1, .int .i8 a1_2, .int .i8 a1_3]) (t := 40) ?hr ?_; (case hd => rfl); (case hg => rfl); (case hr => first | (go_simp; done) | (go_simp; rfl)); intro gb134 hg w3 hbox hb; have n0_ := A_ (below_step (bl_ HB) hb); have n1_ := A_ (hbox); have n2_ := A_ ((by rw [hg]; exact (below_size (bl_ HB)) : w.heap.size ≤ gb134)); have n3_ := n2_; clear HB; have HB := n0_; have BK134 := n1_; have GW134 := n2_; have GE134 := n3_; clear n0_ n1_ n2_ n3_; clear hb hbox hg))
 go_loopg [5] k (fun kq v5 w' => ∃ (x5_1 : Int), v5 = .int .i64 x5_1 ∧ Aside0 (spec_l04Word.l0 kq a0 x5_1 a1_0 a1_1 a1_2 a1_3 = some r) ∧ Aside0 (kq ≤ k) ∧ Aside0 (w'.heap[gb134]? = some (.cells #[.int .i8 a1_0, .int .i8 a1_1, .int .i8 a1_2, .int .i8 a1_3] 40 (0, 0))) ∧ Aside0 (Below w.heap.size w w'))
 case atStart => exact ⟨(0), rs_, H', ⟨Nat.le_refl _⟩, ⟨pl_ BK134⟩, ⟨bl_ HB⟩⟩
 case round =>
  clear H'
  try clear p2
  obtain ⟨x5_1, rfl, HA, HK1, BK134, HB⟩ := hrel
  cases gk with
  | zero => exact absurd HA.out (by simp [spec_l04Word.l0])
  | succ k1 =>
   have H := HA.out
   clear HA
   simp only [spec_l04Word.l0] at H
   by_cases c4 : x5_1 < 4
   ·rw [if_pos c4] at H
    have c4b0 : decide (x5_1 < 4) = true := decide_eq_true c4
    clear c4
    by_cases c5 : 0 ≤ x5_1
    ·rw [if_pos c5] at H
     have c5b0 : decide (0 ≤ x5_1) = true := decide_eq_true c5
     clear c5
     by_cases c7 : (rd [a1_0, a1_1, a1_2, a1_3] x5_1) < (-1)
     ·rw [if_pos c7] at H
      have c7b0 : decide ((rd [a1_0, a1_1, a1_2, a1_3] x5_1) < (-1)) = true := decide_eq_true c7
      clear c7
      obtain rfl := Option.some.inj H
      have hcz8_0 : wr.cell? ⟨gb134, 0, none⟩ = some (.int .i8 a1_0) := (blk_cell BK134.out 0).trans rfl
      have hcz8_1 : wr.cell? ⟨gb134, 1, none⟩ = some (.int .i8 a1_1) := (blk_cell BK134.out 1).trans rfl
      have hcz8_2 : wr.cell? ⟨gb134, 2, none⟩ = some (.int .i8 a1_2) := (blk_cell BK134.out 2).trans rfl
      have hcz8_3 : wr.cell? ⟨gb134, 3, none⟩ = some (.int .i8 a1_3) := (blk_cell BK134.out 3).trans rfl
      have hfz8_0 := blk_frozen BK134.out 0
      have hfz8_1 := blk_frozen BK134.out 1
      have hfz8_2 := blk_frozen BK134.out 2
      have hfz8_3 := blk_frozen BK134.out 3
      have p6 : 0 ≤ (x5_1 : Int) := asm_
      have q6 : (x5_1 : Int) < 4 := asm_
      have hx6 : wr.cell? ⟨gb134, (x5_1 : Int).toNat, none⟩ = some (.int .i8 (rd [a1_0, a1_1, a1_2, a1_3] x5_1)) := ard_cell (k := .i8) (l := [a1_0, a1_1, a1_2, a1_3]) BK134.out p6 q6
      have hf6 := blk_frozen BK134.out (x5_1 : Int).toNat
      have P6 := Aside0.mk p6
      have Q6 := Aside0.mk q6
      replace p6 := eq_true p6
      replace q6 := eq_true q6
      go_wp2
      go_ret
      exact ⟨by first | rfl | (simp [errW_none, errW_some] <;> rfl) | (simp [*, errW_none, errW_some] <;> rfl), bl_ HB⟩
     ·rw [if_neg c7] at H
      have c7b0 : decide ((rd [a1_0, a1_1, a1_2, a1_3] x5_1) < (-1)) = false := decide_eq_false c7
      clear c7
      by_cases c10 : (rd [a1_0, a1_1, a1_2, a1_3] x5_1) > 1
      ·rw [if_pos c10] at H
       have c10b0 : decide (1 < (rd [a1_0, a1_1, a1_2, a1_3] x5_1)) = true := decide_eq_true c10
       clear c10
       obtain rfl := Option.some.inj H
       have hcz11_0 : wr.cell? ⟨gb134, 0, none⟩ = some (.int .i8 a1_0) := (blk_cell BK134.out 0).trans rfl
       have hcz11_1 : wr.cell? ⟨gb134, 1, none⟩ = some (.int .i8 a1_1) := (blk_cell BK134.out 1).trans rfl
       have hcz11_2 : wr.cell? ⟨gb134, 2, none⟩ = some (.int .i8 a1_2) := (blk_cell BK134.out 2).trans rfl
       have hcz11_3 : wr.cell? ⟨gb134, 3, none⟩ = some (.int .i8 a1_3) := (blk_cell BK134.out 3).trans rfl
       have hfz11_0 := blk_frozen BK134.out 0
       have hfz11_1 := blk_frozen BK134.out 1
       have hfz11_2 := blk_frozen BK134.out 2
       have hfz11_3 := blk_frozen BK134.out 3
       have p6 : 0 ≤ (x5_1 : Int) := asm_
       have q6 : (x5_1 : Int) < 4 := asm_
       have hx6 : wr.cell? ⟨gb134, (x5_1 : Int).toNat, none⟩ = some (.int .i8 (rd [a1_0, a1_1, a1_2, a1_3] x5_1)) := ard_cell (k := .i8) (l := [a1_0, a1_1, a1_2, a1_3]) BK134.out p6 q6
       have hf6 := blk_frozen BK134.out (x5_1 : Int).toNat
       have P6 := Aside0.mk p6
       have Q6 := Aside0.mk q6
       replace p6 := eq_true p6
       replace q6 := eq_true q6
       have p9 : 0 ≤ (x5_1 : Int) := asm_
       have q9 : (x5_1 : Int) < 4 := asm_
       have hx9 : wr.cell? ⟨gb134, (x5_1 : Int).toNat, none⟩ = some (.int .i8 (rd [a1_0, a1_1, a1_2, a1_3] x5_1)) := ard_cell (k := .i8) (l := [a1_0, a1_1, a1_2, a1_3]) BK134.out p9 q9
       have hf9 := blk_frozen BK134.out (x5_1 : Int).toNat
       have P9 := Aside0.mk p9
       have Q9 := Aside0.mk q9
       replace p9 := eq_true p9
       replace q9 := eq_true q9
       go_wp2
       go_ret
       exact ⟨by first | rfl | (simp [errW_none, errW_some] <;> rfl) | (simp [*, errW_none, errW_some] <;> rfl), bl_ HB⟩
      ·rw [if_neg c10] at H
       have c10b0 : decide (1 < (rd [a1_0, a1_1, a1_2, a1_3] x5_1)) = false := decide_eq_false c10
       clear c10
       by_cases c12 : x5_1 ≥ a0
       ·rw [if_pos c12] at H
        have c12b0 : decide (a0 ≤ x5_1) = true := decide_eq_true c12
        clear c12
        by_cases c14 : (rd [a1_0, a1_1, a1_2, a1_3] x5_1) = 0
        ·rw [if_pos c14] at H
         have c14b0 : ((rd [a1_0, a1_1, a1_2, a1_3] x5_1) == 0) = true := beq_iff_eq.mpr c14
         have c14b1 : ((rd [a1_0, a1_1, a1_2, a1_3] x5_1) != 0) = false := bne_eq_false_iff_eq.mpr c14
         clear c14
         have H' := Aside0.mk H
         clear H
         have hcz15_0 : wr.cell? ⟨gb134, 0, none⟩ = some (.int .i8 a1_0) := (blk_cell BK134.out 0).trans rfl
         have hcz15_1 : wr.cell? ⟨gb134, 1, none⟩ = some (.int .i8 a1_1) := (blk_cell BK134.out 1).trans rfl
         have hcz15_2 : wr.cell? ⟨gb134, 2, none⟩ = some (.int .i8 a1_2) := (blk_cell BK134.out 2).trans rfl
         have hcz15_3 : wr.cell? ⟨gb134, 3, none⟩ = some (.int .i8 a1_3) := (blk_cell BK134.out 3).trans rfl
         have hfz15_0 := blk_frozen BK134.out 0
         have hfz15_1 := blk_frozen BK134.out 1
         have hfz15_2 := blk_frozen BK134.out 2
         have hfz15_3 := blk_frozen BK134.out 3
         have p6 : 0 ≤ (x5_1 : Int) := asm_
         have q6 : (x5_1 : Int) < 4 := asm_
         have hx6 : wr.cell? ⟨gb134, (x5_1 : Int).toNat, none⟩ = some (.int .i8 (rd [a1_0, a1_1, a1_2, a1_3] x5_1)) := ard_cell (k := .i8) (l := [a1_0, a1_1, a1_2, a1_3]) BK134.out p6 q6
         have hf6 := blk_frozen BK134.out (x5_1 : Int).toNat
         have P6 := Aside0.mk p6
         have Q6 := Aside0.mk q6
         replace p6 := eq_true p6
         replace q6 := eq_true q6
         have p9 : 0 ≤ (x5_1 : Int) := asm_
         have q9 : (x5_1 : Int) < 4 := asm_
         have hx9 : wr.cell? ⟨gb134, (x5_1 : Int).toNat, none⟩ = some (.int .i8 (rd [a1_0, a1_1, a1_2, a1_3] x5_1)) := ard_cell (k := .i8) (l := [a1_0, a1_1, a1_2, a1_3]) BK134.out p9 q9
         have hf9 := blk_frozen BK134.out (x5_1 : Int).toNat
         have P9 := Aside0.mk p9
         have Q9 := Aside0.mk q9
         replace p9 := eq_true p9
         replace q9 := eq_true q9
         have p13 : 0 ≤ (x5_1 : Int) := asm_
         have q13 : (x5_1 : Int) < 4 := asm_
         have hx13 : wr.cell? ⟨gb134, (x5_1 : Int).toNat, none⟩ = some (.int .i8 (rd [a1_0, a1_1, a1_2, a1_3] x5_1)) := ard_cell (k := .i8) (l := [a1_0, a1_1, a1_2, a1_3]) BK134.out p13 q13
         have hf13 := blk_frozen BK134.out (x5_1 : Int).toNat
         have P13 := Aside0.mk p13
         have Q13 := Aside0.mk q13
         replace p13 := eq_true p13
         replace q13 := eq_true q13
         go_wp2
         go_roundg k1
         case measure => have := HK1.out; omega
         case rel => exact ⟨(wrap64 (x5_1 + 1)), rs_, H', ⟨by have := HK1.out; omega⟩, ⟨pl_ BK134⟩, ⟨bl_ HB⟩⟩
        ·rw [if_neg c14] at H
         have c14b0 : ((rd [a1_0, a1_1, a1_2, a1_3] x5_1) == 0) = false := beq_eq_false_iff_ne.mpr c14
         have c14b1 : ((rd [a1_0, a1_1, a1_2, a1_3] x5_1) != 0) = true := bne_iff_ne.mpr c14
         obtain rfl := Option.some.inj H
         have hcz16_0 : wr.cell? ⟨gb134, 0, none⟩ = some (.int .i8 a1_0) := (blk_cell BK134.out 0).trans rfl
         have hcz16_1 : wr.cell? ⟨gb134, 1, none⟩ = some (.int .i8 a1_1) := (blk_cell BK134.out 1).trans rfl
         have hcz16_2 : wr.cell? ⟨gb134, 2, none⟩ = some (.int .i8 a1_2) := (blk_cell BK134.out 2).trans rfl
         have hcz16_3 : wr.cell? ⟨gb134, 3, none⟩ = some (.int .i8 a1_3) := (blk_cell BK134.out 3).trans rfl
         have hfz16_0 := blk_frozen BK134.out 0
         have hfz16_1 := blk_frozen BK134.out 1
         have hfz16_2 := blk_frozen BK134.out 2
         have hfz16_3 := blk_frozen BK134.out 3
         have p6 : 0 ≤ (x5_1 : Int) := asm_
         have q6 : (x5_1 : Int) < 4 := asm_
         have hx6 : wr.cell? ⟨gb134, (x5_1 : Int).toNat, none⟩ = some (.int .i8 (rd [a1_0, a1_1, a1_2, a1_3] x5_1)) := ard_cell (k := .i8) (l := [a1_0, a1_1, a1_2, a1_3]) BK134.out p6 q6
         have hf6 := blk_frozen BK134.out (x5_1 : Int).toNat
         have P6 := Aside0.mk p6
         have Q6 := Aside0.mk q6
         replace p6 := eq_true p6
         replace q6 := eq_true q6
         have p9 : 0 ≤ (x5_1 : Int) := asm_
         have q9 : (x5_1 : Int) < 4 := asm_
         have hx9 : wr.cell? ⟨gb134, (x5_1 : Int).toNat, none⟩ = some (.int .i8 (rd [a1_0, a1_1, a1_2, a1_3] x5_1)) := ard_cell (k := .i8) (l := [a1_0, a1_1, a1_2, a1_3]) BK134.out p9 q9
         have hf9 := blk_frozen BK134.out (x5_1 : Int).toNat
         have P9 := Aside0.mk p9
         have Q9 := Aside0.mk q9
         replace p9 := eq_true p9
         replace q9 := eq_true q9
         have p13 : 0 ≤ (x5_1 : Int) := asm_
         have q13 : (x5_1 : Int) < 4 := asm_
         have hx13 : wr.cell? ⟨gb134, (x5_1 : Int).toNat, none⟩ = some (.int .i8 (rd [a1_0, a1_1, a1_2, a1_3] x5_1)) := ard_cell (k := .i8) (l := [a1_0, a1_1, a1_2, a1_3]) BK134.out p13 q13
         have hf13 := blk_frozen BK134.out (x5_1 : Int).toNat
         have P13 := Aside0.mk p13
         have Q13 := Aside0.mk q13
         replace p13 := eq_true p13
         replace q13 := eq_true q13
         go_wp2
         go_ret
         exact ⟨by first | rfl | (simp [errW_none, errW_some] <;> rfl) | (simp [*, errW_none, errW_some] <;> rfl), bl_ HB⟩
       ·rw [if_neg c12] at H
        have c12b0 : decide (a0 ≤ x5_1) = false := decide_eq_false c12
        clear c12
        have H' := Aside0.mk H
        clear H
        have hcz17_0 : wr.cell? ⟨gb134, 0, none⟩ = some (.int .i8 a1_0) := (blk_cell BK134.out 0).trans rfl
        have hcz17_1 : wr.cell? ⟨gb134, 1, none⟩ = some (.int .i8 a1_1) := (blk_cell BK134.out 1).trans rfl
        have hcz17_2 : wr.cell? ⟨gb134, 2, none⟩ = some (.int .i8 a1_2) := (blk_cell BK134.out 2).trans rfl
        have hcz17_3 : wr.cell? ⟨gb134, 3, none⟩ = some (.int .i8 a1_3) := (blk_cell BK134.out 3).trans rfl
        have hfz17_0 := blk_frozen BK134.out 0
        have hfz17_1 := blk_frozen BK134.out 1
        have hfz17_2 := blk_frozen BK134.out 2
        have hfz17_3 := blk_frozen BK134.out 3
        have p6 : 0 ≤ (x5_1 : Int) := asm_
        have q6 : (x5_1 : Int) < 4 := asm_
        have hx6 : wr.cell? ⟨gb134, (x5_1 : Int).toNat, none⟩ = some (.int .i8 (rd [a1_0, a1_1, a1_2, a1_3] x5_1)) := ard_cell (k := .i8) (l := [a1_0, a1_1, a1_2, a1_3]) BK134.out p6 q6
        have hf6 := blk_frozen BK134.out (x5_1 : Int).toNat
        have P6 := Aside0.mk p6
        have Q6 := Aside0.mk q6
        replace p6 := eq_true p6
        replace q6 := eq_true q6
        have p9 : 0 ≤ (x5_1 : Int) := asm_
        have q9 : (x5_1 : Int) < 4 := asm_
        have hx9 : wr.cell? ⟨gb134, (x5_1 : Int).toNat, none⟩ = some (.int .i8 (rd [a1_0, a1_1, a1_2, a1_3] x5_1)) := ard_cell (k := .i8) (l := [a1_0, a1_1, a1_2, a1_3]) BK134.out p9 q9
        have hf9 := blk_frozen BK134.out (x5_1 : Int).toNat
        have P9 := Aside0.mk p9
        have Q9 := Aside0.mk q9
        replace p9 := eq_true p9
        replace q9 := eq_true q9
        go_wp2
        go_roundg k1
        case measure => have := HK1.out; omega
        case rel => exact ⟨(wrap64 (x5_1 + 1)), rs_, H', ⟨by have := HK1.out; omega⟩, ⟨pl_ BK134⟩, ⟨bl_ HB⟩⟩
    ·rw [if_neg c5] at H
     exact absurd H (by simp)
   ·rw [if_neg c4] at H
    have c4b0 : decide (x5_1 < 4) = false := decide_eq_false c4
    clear c4
    replace H := Option.bind_eq_some_iff.mp H
    obtain ⟨t135, A180, H⟩ := H
    replace H : (some t135) = some r := H
    have A18 := Aside0.mk A180
    clear A180
    obtain rfl := Option.some.inj H
    go_wp2_with (first | ((with_reducible refine gate_callee (f := 53) rfl ?_); refine goesL_ (some 32) rfl rfl Try.func53 (by kernel_rfl) rfl #[.int .i64 a0] rfl arg_ ?_; (with_reducible refine (spec_l04Letters.calls a0 t135 _ A18.out).mono ?_); rintro e w' ⟨rfl, ⟨nd, rfl⟩⟩; refine ⟨_, rfl, ?_⟩))
    go_ret
    exact ⟨by first | rfl | (simp [errW_none, errW_some] <;> rfl) | (simp [*, errW_none, errW_some] <;> rfl), bl_ HB⟩

/-! ### spec_l04Kind: function 54 -/
def spec_l04Kind.f (a0 : Int) : Option (Bool) := (spec_l00In.f a0 0 2).bind fun t136 => (some t136)
set_option maxHeartbeats 8000000 in
set_option maxRecDepth 100000 in
theorem spec_l04Kind.calls (a0 : Int) (r : Bool) (w : World) (h : spec_l04Kind.f a0 = some r) :
  Calls Try.prog 54 #[.int .i64 a0] w fun e w' => e = .returned (.bool r) ∧ Drawn0 w w' := by
 have H : ((spec_l00In.f a0 0 2).bind fun t136 => (some t136)) = some r := h
 clear h
 replace H := Option.bind_eq_some_iff.mp H
 obtain ⟨t136, A20, H⟩ := H
 replace H : (some t136) = some r := H
 have A2 := Aside0.mk A20
 clear A20
 obtain rfl := Option.some.inj H
 go_enter Try.func54, Try.ntmps54
 go_wp2_with (first | ((with_reducible refine gate_callee (f := 49) rfl ?_); refine goesL_ (some 4) rfl rfl Try.func49 (by kernel_rfl) rfl #[.int .i64 a0, .int .i64 0, .int .i64 2] rfl arg_ ?_; (with_reducible refine (spec_l00In.calls a0 0 2 t136 _ A2.out).mono ?_); rintro e w' ⟨rfl, ⟨nd, rfl⟩⟩; refine ⟨_, rfl, ?_⟩))
 go_ret
 exact ⟨by first | rfl | (simp; done) | (simp [*]; done), by repeat (first | exact Drawn0.refl _ | apply Drawn0.step)⟩

end Go.Proofs.Ytonifpgaagdohaa.M
