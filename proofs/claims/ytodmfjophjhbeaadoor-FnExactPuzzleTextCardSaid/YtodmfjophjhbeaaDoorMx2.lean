-- By this seat's own program over the kit's printer (arrays, functions told by hand); nothing of it is trusted: the kernel checks it.
import Derived.Test.YtodmfjophjhbeaaDoorMx0
namespace Go.Proofs.YtodmfjophjhbeaaDoor.M
open Go.RowKit Go.Proofs.YtodmfjophjhbeaaDoorW.PrintWords Go.Proofs.YtodmfjophjhbeaaDoorW.PrintLast Go.Proofs.YtodmfjophjhbeaaDoorW.PrintMore
attribute [local go_sem] max2_int min2_int max_two min_two max_three min_three max_four min_four   -- for this text's walks alone
set_option linter.unusedVariables false
set_option linter.unusedSimpArgs false

/-! ### spec_l02Water: function 32 -/
def spec_l02Water.l0 : Nat → List Int → Int → Int → Int → Int → Int → Option (Bool)
 | 0, _, _, _, _, _, _ => none
 | k + 1, x0, x5, x108000, x108001, x108002, x108003 => if x5 < 4 then (if x5 < (x0.length : Int) then (if 0 ≤ x5 then (if (rd [x108000, x108001, x108002, x108003] x5) < 0 then (some false) else (if (rd [x108000, x108001, x108002, x108003] x5) > (rd x0 x5) then (some false) else (spec_l02Water.l0 k x0 (wrap64 (x5 + 1)) x108000 x108001 x108002 x108003))) else (none)) else (if 0 ≤ x5 then (if (rd [x108000, x108001, x108002, x108003] x5) < 0 then (some false) else (if (rd [x108000, x108001, x108002, x108003] x5) > 0 then (some false) else (spec_l02Water.l0 k x0 (wrap64 (x5 + 1)) x108000 x108001 x108002 x108003))) else (none))) else (some true)
def spec_l02Water.f (k : Nat) (l0 : List Int) (a1_0 : Int) (a1_1 : Int) (a1_2 : Int) (a1_3 : Int) : Option (Bool) := spec_l02Water.l0 k l0 0 a1_0 a1_1 a1_2 a1_3
theorem spec_l02Water.mono_l : ∀ k, (∀ y0 y1 y2 y3 y4 y5, LeO (spec_l02Water.l0 k y0 y1 y2 y3 y4 y5) (spec_l02Water.l0 (k + 1) y0 y1 y2 y3 y4 y5))
 | 0 => fun _ _ _ _ _ _ r h => by simp [spec_l02Water.l0] at h
 | k + 1 => by
  have ih0 := spec_l02Water.mono_l k
  ·intro y0 y1 y2 y3 y4 y5
   unfold spec_l02Water.l0
   repeat' first
   | (with_reducible exact ih0 _ _ _ _ _ _)
   | (with_reducible exact LeO.refl _)
   | (with_reducible exact LeO.none _)
   | (with_reducible refine LeO.ite ?_ ?_)
   | (with_reducible refine LeO.bind ?_ (fun _ => ?_))
   | exact ih0 _ _ _ _ _ _
   | exact LeO.none _
   | refine LeO.ite ?_ ?_
   | refine LeO.bind ?_ (fun _ => ?_)
theorem spec_l02Water.mono : ∀ a0 a1 a2 a3 a4 k, LeO (spec_l02Water.f k a0 a1 a2 a3 a4) (spec_l02Water.f (k + 1) a0 a1 a2 a3 a4) := by
 intro a0 a1 a2 a3 a4 k
 have ih0 := spec_l02Water.mono_l k
 unfold spec_l02Water.f
 repeat' first
   | (with_reducible exact ih0 _ _ _ _ _ _)
   | (with_reducible exact LeO.refl _)
   | (with_reducible exact LeO.none _)
   | (with_reducible refine LeO.ite ?_ ?_)
   | (with_reducible refine LeO.bind ?_ (fun _ => ?_))
   | exact ih0 _ _ _ _ _ _
   | exact LeO.none _
   | refine LeO.ite ?_ ?_
   | refine LeO.bind ?_ (fun _ => ?_)
set_option maxHeartbeats 8000000 in
set_option maxRecDepth 100000 in
theorem spec_l02Water.calls (k : Nat) (A0 : Option Addr) (c0 : Nat) (l0 : List Int) (a1_0 : Int) (a1_1 : Int) (a1_2 : Int) (a1_3 : Int) (r : Bool) (w : World) (hr0 : Kd.C (Kd.int .i16) w A0 l0.length l0) (hc0 : l0.length ≤ c0) (h : spec_l02Water.f k l0 a1_0 a1_1 a1_2 a1_3 = some r) :
  Calls Tryd.prog 32 #[.slice A0 l0.length c0, .agg #[.int .i16 a1_0, .int .i16 a1_1, .int .i16 a1_2, .int .i16 a1_3]] w fun e w' => e = .returned (.bool r) ∧ Below w.heap.size w w' := by
 have hu29 := Tryd.underlying29
 have HR0 := Aside0.mk hr0
 have HC0 := Aside0.mk hc0
 clear hr0 hc0
 have HB := A_ (Below.refl w.heap.size w)
 have H : (spec_l02Water.l0 k l0 0 a1_0 a1_1 a1_2 a1_3) = some r := h
 clear h
 have H' := Aside0.mk H
 clear H
 go_enter Tryd.func32, Tryd.ntmps32
 go_wp2_with (first | ((with_reducible refine gate_dst (N := 3) rfl ?_); refine box_event ?hg (N := 3) ?hd (cs := #[.int .i16 a1_0, .int .i16 a1_1, .int .i16 a1_2, .int .i16 a1_3]) (t := 29) ?hr ?_; (case hd => rfl); (case hg => rfl); (case hr => first | (go_simp; done) | (go_simp; rfl)); intro gb107 hg w3 hbox hb; have n0_ := A_ (below_step (bl_ HB) hb); have n1_ := A_ (hbox); have n2_ := A_ ((by rw [hg]; exact (below_size (bl_ HB)) : w.heap.size ≤ gb107)); have n3_ := n2_; clear HB; have HB := n0_; have BK107 := n1_; have GW107 := n2_; have GE107 := n3_; clear n0_ n1_ n2_ n3_; clear hb hbox hg))
 go_loopg [5] k (fun kq v5 w' => ∃ (x5_1 : Int), v5 = .int .i64 x5_1 ∧ Aside0 (spec_l02Water.l0 kq l0 x5_1 a1_0 a1_1 a1_2 a1_3 = some r) ∧ Aside0 (kq ≤ k) ∧ Aside0 (w'.heap[gb107]? = some (.cells #[.int .i16 a1_0, .int .i16 a1_1, .int .i16 a1_2, .int .i16 a1_3] 29 (0, 0))) ∧ Aside0 (Below w.heap.size w w'))
 case atStart => exact ⟨(0), rs_, H', ⟨Nat.le_refl _⟩, ⟨pl_ BK107⟩, ⟨bl_ HB⟩⟩
 case round =>
  clear H'
  try clear p2
  try clear c3
  obtain ⟨x5_1, rfl, HA, HK1, BK107, HB⟩ := hrel
  cases gk with
  | zero => exact absurd HA.out (by simp [spec_l02Water.l0])
  | succ k1 =>
   have H := HA.out
   clear HA
   simp only [spec_l02Water.l0] at H
   by_cases c4 : x5_1 < 4
   ·rw [if_pos c4] at H
    have c4b0 : decide (x5_1 < 4) = true := decide_eq_true c4
    clear c4
    by_cases c5 : x5_1 < (l0.length : Int)
    ·rw [if_pos c5] at H
     have c5b0 : decide (x5_1 < (l0.length : Int)) = true := decide_eq_true c5
     clear c5
     by_cases c6 : 0 ≤ x5_1
     ·rw [if_pos c6] at H
      have c6b0 : decide (0 ≤ x5_1) = true := decide_eq_true c6
      clear c6
      by_cases c8 : (rd [a1_0, a1_1, a1_2, a1_3] x5_1) < 0
      ·rw [if_pos c8] at H
       have c8b0 : decide ((rd [a1_0, a1_1, a1_2, a1_3] x5_1) < 0) = true := decide_eq_true c8
       clear c8
       obtain rfl := Option.some.inj H
       have p108 : 0 ≤ (x5_1 : Int) := asm_
       have q108 : x5_1 < (l0.length : Int) := asm_
       obtain ⟨ad108, e108, hx108_0⟩ := Kd.at_int HR0.out x5_1 p108 q108
       cases e108
       (try replace hx108_0 := (HB.out.cell (World.block_lt_of_cell? w _ hx108_0)).trans hx108_0)
       replace p108 := eq_true p108
       replace q108 := eq_true q108
       obtain ⟨hcz9_0, hcz9_1, hcz9_2, hcz9_3, hfz9_0, hfz9_1, hfz9_2, hfz9_3⟩ := cl4_ BK107
       have p7 : 0 ≤ (x5_1 : Int) := asm_
       have q7 : (x5_1 : Int) < 4 := asm_
       have hx7 : wr.cell? ⟨gb107, (x5_1 : Int).toNat, none⟩ = some (.int .i16 (rd [a1_0, a1_1, a1_2, a1_3] x5_1)) := ard_cell (k := .i16) (l := [a1_0, a1_1, a1_2, a1_3]) BK107.out p7 q7
       have hf7 := blk_frozen BK107.out (x5_1 : Int).toNat
       have P7 := Aside0.mk p7
       have Q7 := Aside0.mk q7
       replace p7 := eq_true p7
       replace q7 := eq_true q7
       go_wp2
       go_ret
       exact ⟨by first | rfl | (simp [errW_none, errW_some] <;> rfl) | (simp [*, errW_none, errW_some] <;> rfl), bl_ HB⟩
      ·rw [if_neg c8] at H
       have c8b0 : decide ((rd [a1_0, a1_1, a1_2, a1_3] x5_1) < 0) = false := decide_eq_false c8
       clear c8
       by_cases c11 : (rd [a1_0, a1_1, a1_2, a1_3] x5_1) > (rd l0 x5_1)
       ·rw [if_pos c11] at H
        have c11b0 : decide ((rd l0 x5_1) < (rd [a1_0, a1_1, a1_2, a1_3] x5_1)) = true := decide_eq_true c11
        clear c11
        obtain rfl := Option.some.inj H
        have p108 : 0 ≤ (x5_1 : Int) := asm_
        have q108 : x5_1 < (l0.length : Int) := asm_
        obtain ⟨ad108, e108, hx108_0⟩ := Kd.at_int HR0.out x5_1 p108 q108
        cases e108
        (try replace hx108_0 := (HB.out.cell (World.block_lt_of_cell? w _ hx108_0)).trans hx108_0)
        replace p108 := eq_true p108
        replace q108 := eq_true q108
        obtain ⟨hcz12_0, hcz12_1, hcz12_2, hcz12_3, hfz12_0, hfz12_1, hfz12_2, hfz12_3⟩ := cl4_ BK107
        have p7 : 0 ≤ (x5_1 : Int) := asm_
        have q7 : (x5_1 : Int) < 4 := asm_
        have hx7 : wr.cell? ⟨gb107, (x5_1 : Int).toNat, none⟩ = some (.int .i16 (rd [a1_0, a1_1, a1_2, a1_3] x5_1)) := ard_cell (k := .i16) (l := [a1_0, a1_1, a1_2, a1_3]) BK107.out p7 q7
        have hf7 := blk_frozen BK107.out (x5_1 : Int).toNat
        have P7 := Aside0.mk p7
        have Q7 := Aside0.mk q7
        replace p7 := eq_true p7
        replace q7 := eq_true q7
        have p10 : 0 ≤ (x5_1 : Int) := asm_
        have q10 : (x5_1 : Int) < 4 := asm_
        have hx10 : wr.cell? ⟨gb107, (x5_1 : Int).toNat, none⟩ = some (.int .i16 (rd [a1_0, a1_1, a1_2, a1_3] x5_1)) := ard_cell (k := .i16) (l := [a1_0, a1_1, a1_2, a1_3]) BK107.out p10 q10
        have hf10 := blk_frozen BK107.out (x5_1 : Int).toNat
        have P10 := Aside0.mk p10
        have Q10 := Aside0.mk q10
        replace p10 := eq_true p10
        replace q10 := eq_true q10
        go_wp2
        go_ret
        exact ⟨by first | rfl | (simp [errW_none, errW_some] <;> rfl) | (simp [*, errW_none, errW_some] <;> rfl), bl_ HB⟩
       ·rw [if_neg c11] at H
        have c11b0 : decide ((rd l0 x5_1) < (rd [a1_0, a1_1, a1_2, a1_3] x5_1)) = false := decide_eq_false c11
        clear c11
        have H' := Aside0.mk H
        clear H
        have p108 : 0 ≤ (x5_1 : Int) := asm_
        have q108 : x5_1 < (l0.length : Int) := asm_
        obtain ⟨ad108, e108, hx108_0⟩ := Kd.at_int HR0.out x5_1 p108 q108
        cases e108
        (try replace hx108_0 := (HB.out.cell (World.block_lt_of_cell? w _ hx108_0)).trans hx108_0)
        replace p108 := eq_true p108
        replace q108 := eq_true q108
        obtain ⟨hcz13_0, hcz13_1, hcz13_2, hcz13_3, hfz13_0, hfz13_1, hfz13_2, hfz13_3⟩ := cl4_ BK107
        have p7 : 0 ≤ (x5_1 : Int) := asm_
        have q7 : (x5_1 : Int) < 4 := asm_
        have hx7 : wr.cell? ⟨gb107, (x5_1 : Int).toNat, none⟩ = some (.int .i16 (rd [a1_0, a1_1, a1_2, a1_3] x5_1)) := ard_cell (k := .i16) (l := [a1_0, a1_1, a1_2, a1_3]) BK107.out p7 q7
        have hf7 := blk_frozen BK107.out (x5_1 : Int).toNat
        have P7 := Aside0.mk p7
        have Q7 := Aside0.mk q7
        replace p7 := eq_true p7
        replace q7 := eq_true q7
        have p10 : 0 ≤ (x5_1 : Int) := asm_
        have q10 : (x5_1 : Int) < 4 := asm_
        have hx10 : wr.cell? ⟨gb107, (x5_1 : Int).toNat, none⟩ = some (.int .i16 (rd [a1_0, a1_1, a1_2, a1_3] x5_1)) := ard_cell (k := .i16) (l := [a1_0, a1_1, a1_2, a1_3]) BK107.out p10 q10
        have hf10 := blk_frozen BK107.out (x5_1 : Int).toNat
        have P10 := Aside0.mk p10
        have Q10 := Aside0.mk q10
        replace p10 := eq_true p10
        replace q10 := eq_true q10
        go_wp2
        go_roundg k1
        case measure => have := HK1.out; omega
        case rel => exact ⟨(wrap64 (x5_1 + 1)), rs_, H', ⟨by have := HK1.out; omega⟩, ⟨pl_ BK107⟩, ⟨bl_ HB⟩⟩
     ·rw [if_neg c6] at H
      exact absurd H (by simp)
    ·rw [if_neg c5] at H
     have c5b0 : decide (x5_1 < (l0.length : Int)) = false := decide_eq_false c5
     clear c5
     by_cases c14 : 0 ≤ x5_1
     ·rw [if_pos c14] at H
      have c14b0 : decide (0 ≤ x5_1) = true := decide_eq_true c14
      clear c14
      by_cases c16 : (rd [a1_0, a1_1, a1_2, a1_3] x5_1) < 0
      ·rw [if_pos c16] at H
       have c16b0 : decide ((rd [a1_0, a1_1, a1_2, a1_3] x5_1) < 0) = true := decide_eq_true c16
       clear c16
       obtain rfl := Option.some.inj H
       obtain ⟨hcz17_0, hcz17_1, hcz17_2, hcz17_3, hfz17_0, hfz17_1, hfz17_2, hfz17_3⟩ := cl4_ BK107
       have p15 : 0 ≤ (x5_1 : Int) := asm_
       have q15 : (x5_1 : Int) < 4 := asm_
       have hx15 : wr.cell? ⟨gb107, (x5_1 : Int).toNat, none⟩ = some (.int .i16 (rd [a1_0, a1_1, a1_2, a1_3] x5_1)) := ard_cell (k := .i16) (l := [a1_0, a1_1, a1_2, a1_3]) BK107.out p15 q15
       have hf15 := blk_frozen BK107.out (x5_1 : Int).toNat
       have P15 := Aside0.mk p15
       have Q15 := Aside0.mk q15
       replace p15 := eq_true p15
       replace q15 := eq_true q15
       go_wp2
       go_ret
       exact ⟨by first | rfl | (simp [errW_none, errW_some] <;> rfl) | (simp [*, errW_none, errW_some] <;> rfl), bl_ HB⟩
      ·rw [if_neg c16] at H
       have c16b0 : decide ((rd [a1_0, a1_1, a1_2, a1_3] x5_1) < 0) = false := decide_eq_false c16
       clear c16
       by_cases c19 : (rd [a1_0, a1_1, a1_2, a1_3] x5_1) > 0
       ·rw [if_pos c19] at H
        have c19b0 : decide (0 < (rd [a1_0, a1_1, a1_2, a1_3] x5_1)) = true := decide_eq_true c19
        clear c19
        obtain rfl := Option.some.inj H
        obtain ⟨hcz20_0, hcz20_1, hcz20_2, hcz20_3, hfz20_0, hfz20_1, hfz20_2, hfz20_3⟩ := cl4_ BK107
        have p15 : 0 ≤ (x5_1 : Int) := asm_
        have q15 : (x5_1 : Int) < 4 := asm_
        have hx15 : wr.cell? ⟨gb107, (x5_1 : Int).toNat, none⟩ = some (.int .i16 (rd [a1_0, a1_1, a1_2, a1_3] x5_1)) := ard_cell (k := .i16) (l := [a1_0, a1_1, a1_2, a1_3]) BK107.out p15 q15
        have hf15 := blk_frozen BK107.out (x5_1 : Int).toNat
        have P15 := Aside0.mk p15
        have Q15 := Aside0.mk q15
        replace p15 := eq_true p15
        replace q15 := eq_true q15
        have p18 : 0 ≤ (x5_1 : Int) := asm_
        have q18 : (x5_1 : Int) < 4 := asm_
        have hx18 : wr.cell? ⟨gb107, (x5_1 : Int).toNat, none⟩ = some (.int .i16 (rd [a1_0, a1_1, a1_2, a1_3] x5_1)) := ard_cell (k := .i16) (l := [a1_0, a1_1, a1_2, a1_3]) BK107.out p18 q18
        have hf18 := blk_frozen BK107.out (x5_1 : Int).toNat
        have P18 := Aside0.mk p18
        have Q18 := Aside0.mk q18
        replace p18 := eq_true p18
        replace q18 := eq_true q18
        go_wp2
        go_ret
        exact ⟨by first | rfl | (simp [errW_none, errW_some] <;> rfl) | (simp [*, errW_none, errW_some] <;> rfl), bl_ HB⟩
       ·rw [if_neg c19] at H
        have c19b0 : decide (0 < (rd [a1_0, a1_1, a1_2, a1_3] x5_1)) = false := decide_eq_false c19
        clear c19
        have H' := Aside0.mk H
        clear H
        obtain ⟨hcz21_0, hcz21_1, hcz21_2, hcz21_3, hfz21_0, hfz21_1, hfz21_2, hfz21_3⟩ := cl4_ BK107
        have p15 : 0 ≤ (x5_1 : Int) := asm_
        have q15 : (x5_1 : Int) < 4 := asm_
        have hx15 : wr.cell? ⟨gb107, (x5_1 : Int).toNat, none⟩ = some (.int .i16 (rd [a1_0, a1_1, a1_2, a1_3] x5_1)) := ard_cell (k := .i16) (l := [a1_0, a1_1, a1_2, a1_3]) BK107.out p15 q15
        have hf15 := blk_frozen BK107.out (x5_1 : Int).toNat
        have P15 := Aside0.mk p15
        have Q15 := Aside0.mk q15
        replace p15 := eq_true p15
        replace q15 := eq_true q15
        have p18 : 0 ≤ (x5_1 : Int) := asm_
        have q18 : (x5_1 : Int) < 4 := asm_
        have hx18 : wr.cell? ⟨gb107, (x5_1 : Int).toNat, none⟩ = some (.int .i16 (rd [a1_0, a1_1, a1_2, a1_3] x5_1)) := ard_cell (k := .i16) (l := [a1_0, a1_1, a1_2, a1_3]) BK107.out p18 q18
        have hf18 := blk_frozen BK107.out (x5_1 : Int).toNat
        have P18 := Aside0.mk p18
        have Q18 := Aside0.mk q18
        replace p18 := eq_true p18
        replace q18 := eq_true q18
        go_wp2
        go_roundg k1
        case measure => have := HK1.out; omega
        case rel => exact ⟨(wrap64 (x5_1 + 1)), rs_, H', ⟨by have := HK1.out; omega⟩, ⟨pl_ BK107⟩, ⟨bl_ HB⟩⟩
     ·rw [if_neg c14] at H
      exact absurd H (by simp)
   ·rw [if_neg c4] at H
    have c4b0 : decide (x5_1 < 4) = false := decide_eq_false c4
    clear c4
    obtain rfl := Option.some.inj H
    go_wp2
    go_ret
    exact ⟨by first | rfl | (simp [errW_none, errW_some] <;> rfl) | (simp [*, errW_none, errW_some] <;> rfl), bl_ HB⟩

end Go.Proofs.YtodmfjophjhbeaaDoor.M
