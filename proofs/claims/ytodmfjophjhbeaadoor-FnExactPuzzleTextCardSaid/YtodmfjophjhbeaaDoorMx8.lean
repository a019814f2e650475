-- By this seat's own program over the kit's printer (arrays, functions told by hand); nothing of it is trusted: the kernel checks it.
import Derived.Test.YtodmfjophjhbeaaDoorMx0
namespace Go.Proofs.YtodmfjophjhbeaaDoor.M
open Go.RowKit Go.Proofs.YtodmfjophjhbeaaDoorW.PrintWords Go.Proofs.YtodmfjophjhbeaaDoorW.PrintLast Go.Proofs.YtodmfjophjhbeaaDoorW.PrintMore
attribute [local go_sem] max2_int min2_int max_two min_two max_three min_three max_four min_four   -- for this text's walks alone
set_option linter.unusedVariables false
set_option linter.unusedSimpArgs false

/-! ### impl_Puzzle_holds: function 39 -/
def impl_Puzzle_holds.l0 : Nat → Int → Int → Int → Int → Int → List Int → Int → Int → Int → Int → Bool → Option (Bool)
 | 0, _, _, _, _, _, _, _, _, _, _, _ => none
 | k + 1, x9, x504, x505, x506, x507, x150000, x150001, x150002, x150003, x150004, x150005 => if x9 < 4 then (if 0 ≤ x9 then (if x9 < (x150000.length : Int) then (if (rd [x504, x505, x506, x507] x9) < 0 then (some false) else (if (rd [x504, x505, x506, x507] x9) > (rd x150000 x9) then (some false) else (impl_Puzzle_holds.l0 k (wrap64 (x9 + 1)) x504 x505 x506 x507 x150000 x150001 x150002 x150003 x150004 x150005))) else (if (rd [x504, x505, x506, x507] x9) < 0 then (some false) else (if (rd [x504, x505, x506, x507] x9) > 0 then (some false) else (impl_Puzzle_holds.l0 k (wrap64 (x9 + 1)) x504 x505 x506 x507 x150000 x150001 x150002 x150003 x150004 x150005)))) else (none)) else (some true)
def impl_Puzzle_holds.f (k : Nat) (l0_0 : List Int) (a0_1 : Int) (a0_2 : Int) (a0_3 : Int) (a0_4 : Int) (a0_5 : Bool) (a1_0 : Int) (a1_1 : Int) (a1_2 : Int) (a1_3 : Int) : Option (Bool) := impl_Puzzle_holds.l0 k 0 a1_0 a1_1 a1_2 a1_3 l0_0 a0_1 a0_2 a0_3 a0_4 a0_5
theorem impl_Puzzle_holds.mono_l : ∀ k, (∀ y0 y1 y2 y3 y4 y5 y6 y7 y8 y9 y10, LeO (impl_Puzzle_holds.l0 k y0 y1 y2 y3 y4 y5 y6 y7 y8 y9 y10) (impl_Puzzle_holds.l0 (k + 1) y0 y1 y2 y3 y4 y5 y6 y7 y8 y9 y10))
 | 0 => fun _ _ _ _ _ _ _ _ _ _ _ r h => by simp [impl_Puzzle_holds.l0] at h
 | k + 1 => by
  have ih0 := impl_Puzzle_holds.mono_l k
  ·intro y0 y1 y2 y3 y4 y5 y6 y7 y8 y9 y10
   unfold impl_Puzzle_holds.l0
   repeat' first
   | (with_reducible exact ih0 _ _ _ _ _ _ _ _ _ _ _)
   | (with_reducible exact LeO.refl _)
   | (with_reducible exact LeO.none _)
   | (with_reducible refine LeO.ite ?_ ?_)
   | (with_reducible refine LeO.bind ?_ (fun _ => ?_))
   | exact ih0 _ _ _ _ _ _ _ _ _ _ _
   | exact LeO.none _
   | refine LeO.ite ?_ ?_
   | refine LeO.bind ?_ (fun _ => ?_)
theorem impl_Puzzle_holds.mono : ∀ a0 a1 a2 a3 a4 a5 a6 a7 a8 a9 k, LeO (impl_Puzzle_holds.f k a0 a1 a2 a3 a4 a5 a6 a7 a8 a9) (impl_Puzzle_holds.f (k + 1) a0 a1 a2 a3 a4 a5 a6 a7 a8 a9) := by
 intro a0 a1 a2 a3 a4 a5 a6 a7 a8 a9 k
 have ih0 := impl_Puzzle_holds.mono_l k
 unfold impl_Puzzle_holds.f
 repeat' first
   | (with_reducible exact ih0 _ _ _ _ _ _ _ _ _ _ _)
   | (with_reducible exact LeO.refl _)
   | (with_reducible exact LeO.none _)
   | (with_reducible refine LeO.ite ?_ ?_)
   | (with_reducible refine LeO.bind ?_ (fun _ => ?_))
   | exact ih0 _ _ _ _ _ _ _ _ _ _ _
   | exact LeO.none _
   | refine LeO.ite ?_ ?_
   | refine LeO.bind ?_ (fun _ => ?_)
set_option maxHeartbeats 8000000 in
set_option maxRecDepth 100000 in
theorem impl_Puzzle_holds.calls (k : Nat) (A0_0 : Option Addr) (c0_0 : Nat) (l0_0 : List Int) (a0_1 : Int) (a0_2 : Int) (a0_3 : Int) (a0_4 : Int) (a0_5 : Bool) (a1_0 : Int) (a1_1 : Int) (a1_2 : Int) (a1_3 : Int) (r : Bool) (w : World) (hr0_0 : Kd.C (Kd.int .i16) w A0_0 l0_0.length l0_0) (hc0_0 : l0_0.length ≤ c0_0) (h : impl_Puzzle_holds.f k l0_0 a0_1 a0_2 a0_3 a0_4 a0_5 a1_0 a1_1 a1_2 a1_3 = some r) :
  Calls Tryd.prog 39 #[.agg #[.slice A0_0 l0_0.length c0_0, .int .i16 a0_1, .int .i16 a0_2, .int .i16 a0_3, .int .i16 a0_4, .bool a0_5], .agg #[.int .i16 a1_0, .int .i16 a1_1, .int .i16 a1_2, .int .i16 a1_3]] w fun e w' => e = .returned (.bool r) ∧ Below w.heap.size w w' := by
 have hu31 := Tryd.underlying31
 have hu29 := Tryd.underlying29
 have HR0_0 := Aside0.mk hr0_0
 have HC0_0 := Aside0.mk hc0_0
 clear hr0_0 hc0_0
 have HB := A_ (Below.refl w.heap.size w)
 have H : (impl_Puzzle_holds.l0 k 0 a1_0 a1_1 a1_2 a1_3 l0_0 a0_1 a0_2 a0_3 a0_4 a0_5) = some r := h
 clear h
 have H' := Aside0.mk H
 clear H
 go_enter Tryd.func39, Tryd.ntmps39
 go_wp2_with (first | ((with_reducible refine gate_dst (N := 2) rfl ?_); refine box_event ?hg (N := 2) ?hd (cs := #[.slice A0_0 l0_0.length c0_0, .int .i16 a0_1, .int .i16 a0_2, .int .i16 a0_3, .int .i16 a0_4, .bool a0_5]) (t := 31) ?hr ?_; (case hd => rfl); (case hg => rfl); (case hr => first | (go_simp; done) | (go_simp; rfl)); intro gb149 hg w3 hbox hb; have n0_ := A_ (below_step (bl_ HB) hb); have n1_ := A_ (hbox); have n2_ := A_ ((by rw [hg]; exact (below_size (bl_ HB)) : w.heap.size ≤ gb149)); have n3_ := n2_; clear HB; have HB := n0_; have BK149 := n1_; have GW149 := n2_; have GE149 := n3_; clear n0_ n1_ n2_ n3_; clear hb hbox hg) | ((with_reducible refine gate_dst (N := 3) rfl ?_); refine box_event ?hg (N := 3) ?hd (cs := #[.int .i16 a1_0, .int .i16 a1_1, .int .i16 a1_2, .int .i16 a1_3]) (t := 29) ?hr ?_; (case hd => rfl); (case hg => rfl); (case hr => first | (go_simp; done) | (go_simp; rfl)); intro gb150 hg w4 hbox hb; have n0_ := A_ (blk_below (pl_ BK149) hb); have n1_ := A_ (below_step (bl_ HB) hb); have n2_ := A_ (hbox); have n3_ := A_ ((by rw [hg]; exact (below_size (bl_ HB)) : w.heap.size ≤ gb150)); have n4_ := n3_; have n5_ := A_ ((by rw [hg]; exact Nat.ne_of_lt (blk_lt (pl_ BK149)) : gb149 ≠ gb150)); have n6_ := Aside0.mk n5_.out.symm; clear BK149; clear HB; have BK149 := n0_; have HB := n1_; have BK150 := n2_; have GW150 := n3_; have GE150 := n4_; have NB149_150 := n5_; have NB150_149 := n6_; clear n0_ n1_ n2_ n3_ n4_ n5_ n6_; clear hb hbox hg; have hnb5 := NB150_149.out; have hnc5 := NB149_150.out; obtain ⟨hcz6_0, hcz6_1, hcz6_2, hcz6_3, hfz6_0, hfz6_1, hfz6_2, hfz6_3⟩ := cl4_ BK150))
 go_loopg [9] k (fun kq v9 w' => ∃ (x9_1 : Int), v9 = .int .i64 x9_1 ∧ Aside0 (impl_Puzzle_holds.l0 kq x9_1 a1_0 a1_1 a1_2 a1_3 l0_0 a0_1 a0_2 a0_3 a0_4 a0_5 = some r) ∧ Aside0 (kq ≤ k) ∧ Aside0 (w'.heap[gb149]? = some (.cells #[(.slice A0_0 l0_0.length c0_0), .int .i16 a0_1, .int .i16 a0_2, .int .i16 a0_3, .int .i16 a0_4, .bool a0_5] 31 (0, 0))) ∧ Aside0 (w'.heap[gb150]? = some (.cells #[.int .i16 a1_0, .int .i16 a1_1, .int .i16 a1_2, .int .i16 a1_3] 29 (0, 0))) ∧ Aside0 (Below w.heap.size w w'))
 case atStart => exact ⟨(0), rs_, H', ⟨Nat.le_refl _⟩, ⟨pl_ BK149⟩, ⟨pl_ BK150⟩, ⟨bl_ HB⟩⟩
 case round =>
  clear H'
  try clear p2
  try clear c3
  try clear c5
  try clear hcz6_0
  try clear hcz6_1
  try clear hcz6_2
  try clear hcz6_3
  try clear hfz6_0
  try clear hfz6_1
  try clear hfz6_2
  try clear hfz6_3
  obtain ⟨x9_1, rfl, HA, HK1, BK149, BK150, HB⟩ := hrel
  cases gk with
  | zero => exact absurd HA.out (by simp [impl_Puzzle_holds.l0])
  | succ k1 =>
   have H := HA.out
   clear HA
   simp only [impl_Puzzle_holds.l0] at H
   by_cases c7 : x9_1 < 4
   ·rw [if_pos c7] at H
    have c7b0 : decide (x9_1 < 4) = true := decide_eq_true c7
    clear c7
    by_cases c8 : 0 ≤ x9_1
    ·rw [if_pos c8] at H
     have c8b0 : decide (0 ≤ x9_1) = true := decide_eq_true c8
     clear c8
     by_cases c10 : x9_1 < (l0_0.length : Int)
     ·rw [if_pos c10] at H
      have c10b0 : decide (x9_1 < (l0_0.length : Int)) = true := decide_eq_true c10
      clear c10
      by_cases c11 : (rd [a1_0, a1_1, a1_2, a1_3] x9_1) < 0
      ·rw [if_pos c11] at H
       have c11b0 : decide ((rd [a1_0, a1_1, a1_2, a1_3] x9_1) < 0) = true := decide_eq_true c11
       clear c11
       obtain rfl := Option.some.inj H
       have p9 : 0 ≤ (x9_1 : Int) := asm_
       have q9 : (x9_1 : Int) < 4 := asm_
       have hxv9 : ∀ W_ : World, (Instr.index 29 (.agg #[.int .i16 a1_0, .int .i16 a1_1, .int .i16 a1_2, .int .i16 a1_3]) (.int .i64 x9_1)).run Tryd.prog W_ = .ok (.int .i16 (rd [a1_0, a1_1, a1_2, a1_3] x9_1)) W_ := fun W_ => ard_index (k := .i16) (l := [a1_0, a1_1, a1_2, a1_3]) Tryd.underlying29 (by kernel_rfl) (by kernel_rfl) ⟨_, Tryd.underlying23⟩ rfl p9 q9 W_
       replace p9 := eq_true p9
       replace q9 := eq_true q9
       have hnb12 := NB149_150.out
       have hnc12 := NB150_149.out
       obtain ⟨hcz13_0, hcz13_1, hcz13_2, hcz13_3, hcz13_4, hcz13_5, hfz13_0, hfz13_1, hfz13_2, hfz13_3, hfz13_4, hfz13_5⟩ := cl6_ BK149
       have p151 : 0 ≤ (x9_1 : Int) := asm_
       have q151 : x9_1 < (l0_0.length : Int) := asm_
       obtain ⟨ad151, e151, hx151_0⟩ := Kd.at_int HR0_0.out x9_1 p151 q151
       cases e151
       (try replace hx151_0 := (HB.out.cell (World.block_lt_of_cell? w _ hx151_0)).trans hx151_0)
       replace p151 := eq_true p151
       replace q151 := eq_true q151
       go_wp2
       go_ret
       exact ⟨by first | rfl | (simp [errW_none, errW_some] <;> rfl) | (simp [*, errW_none, errW_some] <;> rfl), bl_ HB⟩
      ·rw [if_neg c11] at H
       have c11b0 : decide ((rd [a1_0, a1_1, a1_2, a1_3] x9_1) < 0) = false := decide_eq_false c11
       clear c11
       by_cases c14 : (rd [a1_0, a1_1, a1_2, a1_3] x9_1) > (rd l0_0 x9_1)
       ·rw [if_pos c14] at H
        have c14b0 : decide ((rd l0_0 x9_1) < (rd [a1_0, a1_1, a1_2, a1_3] x9_1)) = true := decide_eq_true c14
        clear c14
        obtain rfl := Option.some.inj H
        have p9 : 0 ≤ (x9_1 : Int) := asm_
        have q9 : (x9_1 : Int) < 4 := asm_
        have hxv9 : ∀ W_ : World, (Instr.index 29 (.agg #[.int .i16 a1_0, .int .i16 a1_1, .int .i16 a1_2, .int .i16 a1_3]) (.int .i64 x9_1)).run Tryd.prog W_ = .ok (.int .i16 (rd [a1_0, a1_1, a1_2, a1_3] x9_1)) W_ := fun W_ => ard_index (k := .i16) (l := [a1_0, a1_1, a1_2, a1_3]) Tryd.underlying29 (by kernel_rfl) (by kernel_rfl) ⟨_, Tryd.underlying23⟩ rfl p9 q9 W_
        replace p9 := eq_true p9
        replace q9 := eq_true q9
        have hnb15 := NB149_150.out
        have hnc15 := NB150_149.out
        obtain ⟨hcz16_0, hcz16_1, hcz16_2, hcz16_3, hcz16_4, hcz16_5, hfz16_0, hfz16_1, hfz16_2, hfz16_3, hfz16_4, hfz16_5⟩ := cl6_ BK149
        have p151 : 0 ≤ (x9_1 : Int) := asm_
        have q151 : x9_1 < (l0_0.length : Int) := asm_
        obtain ⟨ad151, e151, hx151_0⟩ := Kd.at_int HR0_0.out x9_1 p151 q151
        cases e151
        (try replace hx151_0 := (HB.out.cell (World.block_lt_of_cell? w _ hx151_0)).trans hx151_0)
        replace p151 := eq_true p151
        replace q151 := eq_true q151
        go_wp2
        go_ret
        exact ⟨by first | rfl | (simp [errW_none, errW_some] <;> rfl) | (simp [*, errW_none, errW_some] <;> rfl), bl_ HB⟩
       ·rw [if_neg c14] at H
        have c14b0 : decide ((rd l0_0 x9_1) < (rd [a1_0, a1_1, a1_2, a1_3] x9_1)) = false := decide_eq_false c14
        clear c14
        have H' := Aside0.mk H
        clear H
        have p9 : 0 ≤ (x9_1 : Int) := asm_
        have q9 : (x9_1 : Int) < 4 := asm_
        have hxv9 : ∀ W_ : World, (Instr.index 29 (.agg #[.int .i16 a1_0, .int .i16 a1_1, .int .i16 a1_2, .int .i16 a1_3]) (.int .i64 x9_1)).run Tryd.prog W_ = .ok (.int .i16 (rd [a1_0, a1_1, a1_2, a1_3] x9_1)) W_ := fun W_ => ard_index (k := .i16) (l := [a1_0, a1_1, a1_2, a1_3]) Tryd.underlying29 (by kernel_rfl) (by kernel_rfl) ⟨_, Tryd.underlying23⟩ rfl p9 q9 W_
        replace p9 := eq_true p9
        replace q9 := eq_true q9
        have hnb17 := NB149_150.out
        have hnc17 := NB150_149.out
        obtain ⟨hcz18_0, hcz18_1, hcz18_2, hcz18_3, hcz18_4, hcz18_5, hfz18_0, hfz18_1, hfz18_2, hfz18_3, hfz18_4, hfz18_5⟩ := cl6_ BK149
        have p151 : 0 ≤ (x9_1 : Int) := asm_
        have q151 : x9_1 < (l0_0.length : Int) := asm_
        obtain ⟨ad151, e151, hx151_0⟩ := Kd.at_int HR0_0.out x9_1 p151 q151
        cases e151
        (try replace hx151_0 := (HB.out.cell (World.block_lt_of_cell? w _ hx151_0)).trans hx151_0)
        replace p151 := eq_true p151
        replace q151 := eq_true q151
        go_wp2
        go_roundg k1
        case measure => have := HK1.out; omega
        case rel => exact ⟨(wrap64 (x9_1 + 1)), rs_, H', ⟨by have := HK1.out; omega⟩, ⟨pl_ BK149⟩, ⟨pl_ BK150⟩, ⟨bl_ HB⟩⟩
     ·rw [if_neg c10] at H
      have c10b0 : decide (x9_1 < (l0_0.length : Int)) = false := decide_eq_false c10
      clear c10
      by_cases c19 : (rd [a1_0, a1_1, a1_2, a1_3] x9_1) < 0
      ·rw [if_pos c19] at H
       have c19b0 : decide ((rd [a1_0, a1_1, a1_2, a1_3] x9_1) < 0) = true := decide_eq_true c19
       clear c19
       obtain rfl := Option.some.inj H
       have p9 : 0 ≤ (x9_1 : Int) := asm_
       have q9 : (x9_1 : Int) < 4 := asm_
       have hxv9 : ∀ W_ : World, (Instr.index 29 (.agg #[.int .i16 a1_0, .int .i16 a1_1, .int .i16 a1_2, .int .i16 a1_3]) (.int .i64 x9_1)).run Tryd.prog W_ = .ok (.int .i16 (rd [a1_0, a1_1, a1_2, a1_3] x9_1)) W_ := fun W_ => ard_index (k := .i16) (l := [a1_0, a1_1, a1_2, a1_3]) Tryd.underlying29 (by kernel_rfl) (by kernel_rfl) ⟨_, Tryd.underlying23⟩ rfl p9 q9 W_
       replace p9 := eq_true p9
       replace q9 := eq_true q9
       have hnb20 := NB149_150.out
       have hnc20 := NB150_149.out
       obtain ⟨hcz21_0, hcz21_1, hcz21_2, hcz21_3, hcz21_4, hcz21_5, hfz21_0, hfz21_1, hfz21_2, hfz21_3, hfz21_4, hfz21_5⟩ := cl6_ BK149
       go_wp2
       go_ret
       exact ⟨by first | rfl | (simp [errW_none, errW_some] <;> rfl) | (simp [*, errW_none, errW_some] <;> rfl), bl_ HB⟩
      ·rw [if_neg c19] at H
       have c19b0 : decide ((rd [a1_0, a1_1, a1_2, a1_3] x9_1) < 0) = false := decide_eq_false c19
       clear c19
       by_cases c22 : (rd [a1_0, a1_1, a1_2, a1_3] x9_1) > 0
       ·rw [if_pos c22] at H
        have c22b0 : decide (0 < (rd [a1_0, a1_1, a1_2, a1_3] x9_1)) = true := decide_eq_true c22
        clear c22
        obtain rfl := Option.some.inj H
        have p9 : 0 ≤ (x9_1 : Int) := asm_
        have q9 : (x9_1 : Int) < 4 := asm_
        have hxv9 : ∀ W_ : World, (Instr.index 29 (.agg #[.int .i16 a1_0, .int .i16 a1_1, .int .i16 a1_2, .int .i16 a1_3]) (.int .i64 x9_1)).run Tryd.prog W_ = .ok (.int .i16 (rd [a1_0, a1_1, a1_2, a1_3] x9_1)) W_ := fun W_ => ard_index (k := .i16) (l := [a1_0, a1_1, a1_2, a1_3]) Tryd.underlying29 (by kernel_rfl) (by kernel_rfl) ⟨_, Tryd.underlying23⟩ rfl p9 q9 W_
        replace p9 := eq_true p9
        replace q9 := eq_true q9
        have hnb23 := NB149_150.out
        have hnc23 := NB150_149.out
        obtain ⟨hcz24_0, hcz24_1, hcz24_2, hcz24_3, hcz24_4, hcz24_5, hfz24_0, hfz24_1, hfz24_2, hfz24_3, hfz24_4, hfz24_5⟩ := cl6_ BK149
        go_wp2
        go_ret
        exact ⟨by first | rfl | (simp [errW_none, errW_some] <;> rfl) | (simp [*, errW_none, errW_some] <;> rfl), bl_ HB⟩
       ·rw [if_neg c22] at H
        have c22b0 : decide (0 < (rd [a1_0, a1_1, a1_2, a1_3] x9_1)) = false := decide_eq_false c22
        clear c22
        have H' := Aside0.mk H
        clear H
        have p9 : 0 ≤ (x9_1 : Int) := asm_
        have q9 : (x9_1 : Int) < 4 := asm_
        have hxv9 : ∀ W_ : World, (Instr.index 29 (.agg #[.int .i16 a1_0, .int .i16 a1_1, .int .i16 a1_2, .int .i16 a1_3]) (.int .i64 x9_1)).run Tryd.prog W_ = .ok (.int .i16 (rd [a1_0, a1_1, a1_2, a1_3] x9_1)) W_ := fun W_ => ard_index (k := .i16) (l := [a1_0, a1_1, a1_2, a1_3]) Tryd.underlying29 (by kernel_rfl) (by kernel_rfl) ⟨_, Tryd.underlying23⟩ rfl p9 q9 W_
        replace p9 := eq_true p9
        replace q9 := eq_true q9
        have hnb25 := NB149_150.out
        have hnc25 := NB150_149.out
        obtain ⟨hcz26_0, hcz26_1, hcz26_2, hcz26_3, hcz26_4, hcz26_5, hfz26_0, hfz26_1, hfz26_2, hfz26_3, hfz26_4, hfz26_5⟩ := cl6_ BK149
        go_wp2
        go_roundg k1
        case measure => have := HK1.out; omega
        case rel => exact ⟨(wrap64 (x9_1 + 1)), rs_, H', ⟨by have := HK1.out; omega⟩, ⟨pl_ BK149⟩, ⟨pl_ BK150⟩, ⟨bl_ HB⟩⟩
    ·rw [if_neg c8] at H
     exact absurd H (by simp)
   ·rw [if_neg c7] at H
    have c7b0 : decide (x9_1 < 4) = false := decide_eq_false c7
    clear c7
    obtain rfl := Option.some.inj H
    go_wp2
    go_ret
    exact ⟨by first | rfl | (simp [errW_none, errW_some] <;> rfl) | (simp [*, errW_none, errW_some] <;> rfl), bl_ HB⟩

/-! ### impl_ValidPuzzle_1_37: function 37 -/
def impl_ValidPuzzle_1_37.f (a0 : Int) : Option (Bool) := if a0 < 1 then (some true) else (some (decide (a0 > 60)))
set_option maxHeartbeats 8000000 in
set_option maxRecDepth 100000 in
theorem impl_ValidPuzzle_1_37.calls (a0 : Int) (r : Bool) (w : World) (h : impl_ValidPuzzle_1_37.f a0 = some r) :
  Calls Tryd.prog 37 #[.int .i16 a0] w fun e w' => e = .returned (.bool r) ∧ Drawn0 w w' := by
 have H : (if a0 < 1 then (some true) else (some (decide (a0 > 60)))) = some r := h
 clear h
 by_cases c2 : a0 < 1
 ·rw [if_pos c2] at H
  have c2b0 : decide (a0 < 1) = true := decide_eq_true c2
  clear c2
  obtain rfl := Option.some.inj H
  go_enter Tryd.func37, Tryd.ntmps37
  go_wp2
  go_ret
  exact ⟨by first | rfl | (simp; done) | (simp [*]; done), by repeat (first | exact Drawn0.refl _ | apply Drawn0.step)⟩
 ·rw [if_neg c2] at H
  have c2b0 : decide (a0 < 1) = false := decide_eq_false c2
  clear c2
  obtain rfl := Option.some.inj H
  go_enter Tryd.func37, Tryd.ntmps37
  go_wp2
  go_ret
  exact ⟨by first | rfl | (simp; done) | (simp [*]; done), by repeat (first | exact Drawn0.refl _ | apply Drawn0.step)⟩

end Go.Proofs.YtodmfjophjhbeaaDoor.M
