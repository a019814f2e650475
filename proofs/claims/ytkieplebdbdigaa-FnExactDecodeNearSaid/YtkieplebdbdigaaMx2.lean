-- By this seat's own program over the kit's printer (arrays, functions told by hand); nothing of it is trusted: the kernel checks it.
import Derived.Test.YtkieplebdbdigaaMx0
namespace Go.Proofs.Ytkieplebdbdigaa.M
open Go.RowKit Go.Proofs.YtkieplebdbdigaaW.PrintWords Go.Proofs.YtkieplebdbdigaaW.PrintLast Go.Proofs.YtkieplebdbdigaaW.PrintMore
attribute [local go_sem] max2_int min2_int max_two min_two max_three min_three max_four min_four   -- for this text's walks alone
set_option linter.unusedVariables false
set_option linter.unusedSimpArgs false

/-! ### laws_eqWord: function 44 -/
def laws_eqWord.l0 : Nat → Int → Int → Int → Int → Int → Int → Int → Int → Int → Option (Bool)
 | 0, _, _, _, _, _, _, _, _, _ => none
 | k + 1, x5, x122000, x122001, x122002, x122003, x123000, x123001, x123002, x123003 => if x5 < 4 then (if 0 ≤ x5 then (if (rd [x122000, x122001, x122002, x122003] x5) = (rd [x123000, x123001, x123002, x123003] x5) then (laws_eqWord.l0 k (wrap64 (x5 + 1)) x122000 x122001 x122002 x122003 x123000 x123001 x123002 x123003) else (some false)) else (none)) else (some true)
def laws_eqWord.f (k : Nat) (a0_0 : Int) (a0_1 : Int) (a0_2 : Int) (a0_3 : Int) (a1_0 : Int) (a1_1 : Int) (a1_2 : Int) (a1_3 : Int) : Option (Bool) := laws_eqWord.l0 k 0 a0_0 a0_1 a0_2 a0_3 a1_0 a1_1 a1_2 a1_3
theorem laws_eqWord.mono_l : ∀ k, (∀ y0 y1 y2 y3 y4 y5 y6 y7 y8, LeO (laws_eqWord.l0 k y0 y1 y2 y3 y4 y5 y6 y7 y8) (laws_eqWord.l0 (k + 1) y0 y1 y2 y3 y4 y5 y6 y7 y8))
 | 0 => fun _ _ _ _ _ _ _ _ _ r h => by simp [laws_eqWord.l0] at h
 | k + 1 => by
  have ih0 := laws_eqWord.mono_l k
  ·intro y0 y1 y2 y3 y4 y5 y6 y7 y8
   unfold laws_eqWord.l0
   repeat' first
   | (with_reducible exact ih0 _ _ _ _ _ _ _ _ _)
   | (with_reducible exact LeO.refl _)
   | (with_reducible exact LeO.none _)
   | (with_reducible refine LeO.ite ?_ ?_)
   | (with_reducible refine LeO.bind ?_ (fun _ => ?_))
   | exact ih0 _ _ _ _ _ _ _ _ _
   | exact LeO.none _
   | refine LeO.ite ?_ ?_
   | refine LeO.bind ?_ (fun _ => ?_)
theorem laws_eqWord.mono : ∀ a0 a1 a2 a3 a4 a5 a6 a7 k, LeO (laws_eqWord.f k a0 a1 a2 a3 a4 a5 a6 a7) (laws_eqWord.f (k + 1) a0 a1 a2 a3 a4 a5 a6 a7) := by
 intro a0 a1 a2 a3 a4 a5 a6 a7 k
 have ih0 := laws_eqWord.mono_l k
 unfold laws_eqWord.f
 repeat' first
   | (with_reducible exact ih0 _ _ _ _ _ _ _ _ _)
   | (with_reducible exact LeO.refl _)
   | (with_reducible exact LeO.none _)
   | (with_reducible refine LeO.ite ?_ ?_)
   | (with_reducible refine LeO.bind ?_ (fun _ => ?_))
   | exact ih0 _ _ _ _ _ _ _ _ _
   | exact LeO.none _
   | refine LeO.ite ?_ ?_
   | refine LeO.bind ?_ (fun _ => ?_)
set_option maxHeartbeats 8000000 in
set_option maxRecDepth 100000 in
theorem laws_eqWord.calls (k : Nat) (a0_0 : Int) (a0_1 : Int) (a0_2 : Int) (a0_3 : Int) (a1_0 : Int) (a1_1 : Int) (a1_2 : Int) (a1_3 : Int) (r : Bool) (w : World) (h : laws_eqWord.f k a0_0 a0_1 a0_2 a0_3 a1_0 a1_1 a1_2 a1_3 = some r) :
  Calls Try.prog 44 #[.agg #[.int .i8 a0_0, .int .i8 a0_1, .int .i8 a0_2, .int .i8 a0_3], .agg #[.int .i8 a1_0, .int .i8 a1_1, .int .i8 a1_2, .int .i8 a1_3]] w fun e w' => e = .returned (.bool r) ∧ Below w.heap.size w w' := by
 have hu41 := Try.underlying41
 have HB := A_ (Below.refl w.heap.size w)
 have H : (laws_eqWord.l0 k 0 a0_0 a0_1 a0_2 a0_3 a1_0 a1_1 a1_2 a1_3) = some r := h
 clear h
 have H' := Aside0.mk H
 clear H
 go_enter Try.func44, Try.ntmps44
 have o_ : True := trivial
 repeat ((first | go_quiet (first | ((with_reducible refine gate_dst (N := 2) rfl ?_); refine box_event ?hg (N := 2) ?hd (cs := #[.int .i8 a0_0, .int .i8 a0_1, .int .i8 a0_2, .int .i8 a0_3]) (t := 41) ?hr ?_; (case hd => rfl); (case hg => rfl); (case hr => first | (go_simp; done) | (go_simp; rfl)); intro gb121 hg w3 hbox hb; have n0_ := A_ (below_step (bl_ HB) hb); have n1_ := A_ (hbox); have n2_ := A_ ((by rw [hg]; exact (below_size (bl_ HB)) : w.heap.size ≤ gb121)); have n3_ := n2_; clear HB; have HB := n0_; have BK121 := n1_; have GW121 := n2_; have GE121 := n3_; clear n0_ n1_ n2_ n3_; clear hb hbox hg) | ((with_reducible refine gate_dst (N := 3) rfl ?_); refine box_event ?hg (N := 3) ?hd (cs := #[.int .i8 a1_0, .int .i8 a1_1, .int .i8 a1_2, .int .i8 a1_3]) (t := 41) ?hr ?_; (case hd => rfl); (case hg => rfl); (case hr => first | (go_simp; done) | (go_simp; rfl)); intro gb122 hg w4 hbox hb; have n0_ := A_ (blk_below (pl_ BK121) hb); have n1_ := A_ (below_step (bl_ HB) hb); have n2_ := A_ (hbox); have n3_ := A_ ((by rw [hg]; exact (below_size (bl_ HB)) : w.heap.size ≤ gb122)); have n4_ := n3_; have n5_ := A_ ((by rw [hg]; exact Nat.ne_of_lt (blk_lt (pl_ BK121)) : gb121 ≠ gb122)); have n6_ := Aside0.mk n5_.out.symm; clear BK121; clear HB; have BK121 := n0_; have HB := n1_; have BK122 := n2_; have GW122 := n3_; have GE122 := n4_; have NB121_122 := n5_; have NB122_121 := n6_; clear n0_ n1_ n2_ n3_ n4_ n5_ n6_; clear hb hbox hg)) | clear o_); go_wp2_with (first | ((with_reducible refine gate_dst (N := 2) rfl ?_); refine box_event ?hg (N := 2) ?hd (cs := #[.int .i8 a0_0, .int .i8 a0_1, .int .i8 a0_2, .int .i8 a0_3]) (t := 41) ?hr ?_; (case hd => rfl); (case hg => rfl); (case hr => first | (go_simp; done) | (go_simp; rfl)); intro gb121 hg w3 hbox hb; have n0_ := A_ (below_step (bl_ HB) hb); have n1_ := A_ (hbox); have n2_ := A_ ((by rw [hg]; exact (below_size (bl_ HB)) : w.heap.size ≤ gb121)); have n3_ := n2_; clear HB; have HB := n0_; have BK121 := n1_; have GW121 := n2_; have GE121 := n3_; clear n0_ n1_ n2_ n3_; clear hb hbox hg) | ((with_reducible refine gate_dst (N := 3) rfl ?_); refine box_event ?hg (N := 3) ?hd (cs := #[.int .i8 a1_0, .int .i8 a1_1, .int .i8 a1_2, .int .i8 a1_3]) (t := 41) ?hr ?_; (case hd => rfl); (case hg => rfl); (case hr => first | (go_simp; done) | (go_simp; rfl)); intro gb122 hg w4 hbox hb; have n0_ := A_ (blk_below (pl_ BK121) hb); have n1_ := A_ (below_step (bl_ HB) hb); have n2_ := A_ (hbox); have n3_ := A_ ((by rw [hg]; exact (below_size (bl_ HB)) : w.heap.size ≤ gb122)); have n4_ := n3_; have n5_ := A_ ((by rw [hg]; exact Nat.ne_of_lt (blk_lt (pl_ BK121)) : gb121 ≠ gb122)); have n6_ := Aside0.mk n5_.out.symm; clear BK121; clear HB; have BK121 := n0_; have HB := n1_; have BK122 := n2_; have GW122 := n3_; have GE122 := n4_; have NB121_122 := n5_; have NB122_121 := n6_; clear n0_ n1_ n2_ n3_ n4_ n5_ n6_; clear hb hbox hg)))
 go_loopg [5] k (fun kq v5 w' => ∃ (x5_1 : Int), v5 = .int .i64 x5_1 ∧ Aside0 (laws_eqWord.l0 kq x5_1 a0_0 a0_1 a0_2 a0_3 a1_0 a1_1 a1_2 a1_3 = some r) ∧ Aside0 (kq ≤ k) ∧ Aside0 (w'.heap[gb121]? = some (.cells #[.int .i8 a0_0, .int .i8 a0_1, .int .i8 a0_2, .int .i8 a0_3] 41 (0, 0))) ∧ Aside0 (w'.heap[gb122]? = some (.cells #[.int .i8 a1_0, .int .i8 a1_1, .int .i8 a1_2, .int .i8 a1_3] 41 (0, 0))) ∧ Aside0 (Below w.heap.size w w'))
 case atStart => exact ⟨(0), rs_, H', ⟨Nat.le_refl _⟩, ⟨pl_ BK121⟩, ⟨pl_ BK122⟩, ⟨bl_ HB⟩⟩
 case round =>
  clear H'
  try clear p2
  try clear c4
  obtain ⟨x5_1, rfl, HA, HK1, BK121, BK122, HB⟩ := hrel
  cases gk with
  | zero => exact absurd HA.out (by simp [laws_eqWord.l0])
  | succ k1 =>
   have H := HA.out
   clear HA
   simp only [laws_eqWord.l0] at H
   by_cases c5 : x5_1 < 4
   ·rw [if_pos c5] at H
    have c5b0 : decide (x5_1 < 4) = true := decide_eq_true c5
    clear c5
    by_cases c6 : 0 ≤ x5_1
    ·rw [if_pos c6] at H
     have c6b0 : decide (0 ≤ x5_1) = true := decide_eq_true c6
     clear c6
     by_cases c9 : (rd [a0_0, a0_1, a0_2, a0_3] x5_1) = (rd [a1_0, a1_1, a1_2, a1_3] x5_1)
     ·rw [if_pos c9] at H
      have c9b0 : ((rd [a0_0, a0_1, a0_2, a0_3] x5_1) == (rd [a1_0, a1_1, a1_2, a1_3] x5_1)) = true := beq_iff_eq.mpr c9
      have c9b1 : ((rd [a0_0, a0_1, a0_2, a0_3] x5_1) != (rd [a1_0, a1_1, a1_2, a1_3] x5_1)) = false := bne_eq_false_iff_eq.mpr c9
      clear c9
      have H' := Aside0.mk H
      clear H
      have hnb10 := NB121_122.out
      have hnc10 := NB122_121.out
      obtain ⟨hcz11_0, hcz11_1, hcz11_2, hcz11_3, hfz11_0, hfz11_1, hfz11_2, hfz11_3⟩ := cl4_ BK121
      have p7 : 0 ≤ (x5_1 : Int) := asm_
      have q7 : (x5_1 : Int) < 4 := asm_
      have hx7 : wr.cell? ⟨gb121, (x5_1 : Int).toNat, none⟩ = some (.int .i8 (rd [a0_0, a0_1, a0_2, a0_3] x5_1)) := ard_cell (k := .i8) (l := [a0_0, a0_1, a0_2, a0_3]) BK121.out p7 q7
      have hf7 := blk_frozen BK121.out (x5_1 : Int).toNat
      have P7 := Aside0.mk p7
      have Q7 := Aside0.mk q7
      replace p7 := eq_true p7
      replace q7 := eq_true q7
      obtain ⟨hcz12_0, hcz12_1, hcz12_2, hcz12_3, hfz12_0, hfz12_1, hfz12_2, hfz12_3⟩ := cl4_ BK122
      have p8 : 0 ≤ (x5_1 : Int) := asm_
      have q8 : (x5_1 : Int) < 4 := asm_
      have hx8 : wr.cell? ⟨gb122, (x5_1 : Int).toNat, none⟩ = some (.int .i8 (rd [a1_0, a1_1, a1_2, a1_3] x5_1)) := ard_cell (k := .i8) (l := [a1_0, a1_1, a1_2, a1_3]) BK122.out p8 q8
      have hf8 := blk_frozen BK122.out (x5_1 : Int).toNat
      have P8 := Aside0.mk p8
      have Q8 := Aside0.mk q8
      replace p8 := eq_true p8
      replace q8 := eq_true q8
      go_wp2
      repeat (go_quiet (fail); try go_wp2)
      go_roundg k1
      case measure => have := HK1.out; omega
      case rel => exact ⟨(wrap64 (x5_1 + 1)), rs_, H', ⟨by have := HK1.out; omega⟩, ⟨pl_ BK121⟩, ⟨pl_ BK122⟩, ⟨bl_ HB⟩⟩
     ·rw [if_neg c9] at H
      have c9b0 : ((rd [a0_0, a0_1, a0_2, a0_3] x5_1) == (rd [a1_0, a1_1, a1_2, a1_3] x5_1)) = false := beq_eq_false_iff_ne.mpr c9
      have c9b1 : ((rd [a0_0, a0_1, a0_2, a0_3] x5_1) != (rd [a1_0, a1_1, a1_2, a1_3] x5_1)) = true := bne_iff_ne.mpr c9
      obtain rfl := Option.some.inj H
      have hnb13 := NB121_122.out
      have hnc13 := NB122_121.out
      obtain ⟨hcz14_0, hcz14_1, hcz14_2, hcz14_3, hfz14_0, hfz14_1, hfz14_2, hfz14_3⟩ := cl4_ BK121
      have p7 : 0 ≤ (x5_1 : Int) := asm_
      have q7 : (x5_1 : Int) < 4 := asm_
      have hx7 : wr.cell? ⟨gb121, (x5_1 : Int).toNat, none⟩ = some (.int .i8 (rd [a0_0, a0_1, a0_2, a0_3] x5_1)) := ard_cell (k := .i8) (l := [a0_0, a0_1, a0_2, a0_3]) BK121.out p7 q7
      have hf7 := blk_frozen BK121.out (x5_1 : Int).toNat
      have P7 := Aside0.mk p7
      have Q7 := Aside0.mk q7
      replace p7 := eq_true p7
      replace q7 := eq_true q7
      obtain ⟨hcz15_0, hcz15_1, hcz15_2, hcz15_3, hfz15_0, hfz15_1, hfz15_2, hfz15_3⟩ := cl4_ BK122
      have p8 : 0 ≤ (x5_1 : Int) := asm_
      have q8 : (x5_1 : Int) < 4 := asm_
      have hx8 : wr.cell? ⟨gb122, (x5_1 : Int).toNat, none⟩ = some (.int .i8 (rd [a1_0, a1_1, a1_2, a1_3] x5_1)) := ard_cell (k := .i8) (l := [a1_0, a1_1, a1_2, a1_3]) BK122.out p8 q8
      have hf8 := blk_frozen BK122.out (x5_1 : Int).toNat
      have P8 := Aside0.mk p8
      have Q8 := Aside0.mk q8
      replace p8 := eq_true p8
      replace q8 := eq_true q8
      go_wp2
      repeat (go_quiet (fail); try go_wp2)
      go_ret
      exact ⟨by first | rfl | (simp [errW_none, errW_some] <;> rfl) | (simp [*, errW_none, errW_some] <;> rfl), bl_ HB⟩
    ·rw [if_neg c6] at H
     exact absurd H (by simp)
   ·rw [if_neg c5] at H
    have c5b0 : decide (x5_1 < 4) = false := decide_eq_false c5
    clear c5
    obtain rfl := Option.some.inj H
    go_wp2
    repeat (go_quiet (fail); try go_wp2)
    go_ret
    exact ⟨by first | rfl | (simp [errW_none, errW_some] <;> rfl) | (simp [*, errW_none, errW_some] <;> rfl), bl_ HB⟩

end Go.Proofs.Ytkieplebdbdigaa.M
