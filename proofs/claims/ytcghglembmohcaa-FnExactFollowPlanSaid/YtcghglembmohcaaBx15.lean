-- By this seat's own program over the kit's printer (arrays, functions told by hand); nothing of it is trusted: the kernel checks it.
import Derived.Test.YtcghglembmohcaaBx0
import Derived.Test.YtcghglembmohcaaBx14
namespace Go.Proofs.Ytcghglembmohcaa.B
open Go.RowKit Go.Proofs.YtcghglembmohcaaW.PrintWords Go.Proofs.YtcghglembmohcaaW.PrintLast Go.Proofs.YtcghglembmohcaaW.PrintMore
attribute [local go_sem] max2_int min2_int max_two min_two max_three min_three max_four min_four   -- for this text's walks alone
set_option linter.unusedVariables false
set_option linter.unusedSimpArgs false

/-! ### spec_l03Weighing: function 23 -/
def spec_l03Weighing.l0 : Nat → Int → Int → Int → Int → Bool → Bool → Int → Int → Int → Int → Int → Int → Int → Int → Int → Int → Int → Int → Int → Int → Option (Bool)
 | 0, _, _, _, _, _, _, _, _, _, _, _, _, _, _, _, _, _, _, _, _ => none
 | k + 1, x5, x6, x179000, x179001, x179002, x179003, x180000, x180001, x180002, x180003, x180004, x180005, x180006, x180007, x180008, x180009, x180010, x180011, x180012, x180013 => if x6 < 14 then (if 0 ≤ x6 then (if (rd [x180000, x180001, x180002, x180003, x180004, x180005, x180006, x180007, x180008, x180009, x180010, x180011, x180012, x180013] x6) < (-1) then (some false) else (if (rd [x180000, x180001, x180002, x180003, x180004, x180005, x180006, x180007, x180008, x180009, x180010, x180011, x180012, x180013] x6) > 1 then (some false) else (if (rd [x180000, x180001, x180002, x180003, x180004, x180005, x180006, x180007, x180008, x180009, x180010, x180011, x180012, x180013] x6) = 0 then (spec_l03Weighing.l0 k (wrap64 (x5 + (wrap64 (rd [x180000, x180001, x180002, x180003, x180004, x180005, x180006, x180007, x180008, x180009, x180010, x180011, x180012, x180013] x6)))) (wrap64 (x6 + 1)) x179000 x179001 x179002 x179003 x180000 x180001 x180002 x180003 x180004 x180005 x180006 x180007 x180008 x180009 x180010 x180011 x180012 x180013) else ((spec_l03There.f x179000 x179001 x179002 x179003 x6).bind fun t180 => (if t180 = true then (spec_l03Weighing.l0 k (wrap64 (x5 + (wrap64 (rd [x180000, x180001, x180002, x180003, x180004, x180005, x180006, x180007, x180008, x180009, x180010, x180011, x180012, x180013] x6)))) (wrap64 (x6 + 1)) x179000 x179001 x179002 x179003 x180000 x180001 x180002 x180003 x180004 x180005 x180006 x180007 x180008 x180009 x180010 x180011 x180012 x180013) else (some false)))))) else (none)) else (some (x5 == 0))
def spec_l03Weighing.f (k : Nat) (a0_0 : Int) (a0_1 : Int) (a0_2 : Bool) (a0_3 : Bool) (a1_0 : Int) (a1_1 : Int) (a1_2 : Int) (a1_3 : Int) (a1_4 : Int) (a1_5 : Int) (a1_6 : Int) (a1_7 : Int) (a1_8 : Int) (a1_9 : Int) (a1_10 : Int) (a1_11 : Int) (a1_12 : Int) (a1_13 : Int) : Option (Bool) := spec_l03Weighing.l0 k 0 0 a0_0 a0_1 a0_2 a0_3 a1_0 a1_1 a1_2 a1_3 a1_4 a1_5 a1_6 a1_7 a1_8 a1_9 a1_10 a1_11 a1_12 a1_13
theorem spec_l03Weighing.mono_l : ∀ k, (∀ y0 y1 y2 y3 y4 y5 y6 y7 y8 y9 y10 y11 y12 y13 y14 y15 y16 y17 y18 y19, LeO (spec_l03Weighing.l0 k y0 y1 y2 y3 y4 y5 y6 y7 y8 y9 y10 y11 y12 y13 y14 y15 y16 y17 y18 y19) (spec_l03Weighing.l0 (k + 1) y0 y1 y2 y3 y4 y5 y6 y7 y8 y9 y10 y11 y12 y13 y14 y15 y16 y17 y18 y19))
 | 0 => fun _ _ _ _ _ _ _ _ _ _ _ _ _ _ _ _ _ _ _ _ r h => by simp [spec_l03Weighing.l0] at h
 | k + 1 => by
  have ih0 := spec_l03Weighing.mono_l k
  ·intro y0 y1 y2 y3 y4 y5 y6 y7 y8 y9 y10 y11 y12 y13 y14 y15 y16 y17 y18 y19
   unfold spec_l03Weighing.l0
   repeat' first
   | (with_reducible exact ih0 _ _ _ _ _ _ _ _ _ _ _ _ _ _ _ _ _ _ _ _)
   | (with_reducible exact LeO.refl _)
   | (with_reducible exact LeO.none _)
   | (with_reducible refine LeO.ite ?_ ?_)
   | (with_reducible refine LeO.bind ?_ (fun _ => ?_))
   | exact ih0 _ _ _ _ _ _ _ _ _ _ _ _ _ _ _ _ _ _ _ _
   | exact LeO.none _
   | refine LeO.ite ?_ ?_
   | refine LeO.bind ?_ (fun _ => ?_)
theorem spec_l03Weighing.mono : ∀ a0 a1 a2 a3 a4 a5 a6 a7 a8 a9 a10 a11 a12 a13 a14 a15 a16 a17 k, LeO (spec_l03Weighing.f k a0 a1 a2 a3 a4 a5 a6 a7 a8 a9 a10 a11 a12 a13 a14 a15 a16 a17) (spec_l03Weighing.f (k + 1) a0 a1 a2 a3 a4 a5 a6 a7 a8 a9 a10 a11 a12 a13 a14 a15 a16 a17) := by
 intro a0 a1 a2 a3 a4 a5 a6 a7 a8 a9 a10 a11 a12 a13 a14 a15 a16 a17 k
 have ih0 := spec_l03Weighing.mono_l k
 unfold spec_l03Weighing.f
 repeat' first
   | (with_reducible exact ih0 _ _ _ _ _ _ _ _ _ _ _ _ _ _ _ _ _ _ _ _)
   | (with_reducible exact LeO.refl _)
   | (with_reducible exact LeO.none _)
   | (with_reducible refine LeO.ite ?_ ?_)
   | (with_reducible refine LeO.bind ?_ (fun _ => ?_))
   | exact ih0 _ _ _ _ _ _ _ _ _ _ _ _ _ _ _ _ _ _ _ _
   | exact LeO.none _
   | refine LeO.ite ?_ ?_
   | refine LeO.bind ?_ (fun _ => ?_)
set_option maxHeartbeats 8000000 in
set_option maxRecDepth 100000 in
theorem spec_l03Weighing.calls (k : Nat) (a0_0 : Int) (a0_1 : Int) (a0_2 : Bool) (a0_3 : Bool) (a1_0 : Int) (a1_1 : Int) (a1_2 : Int) (a1_3 : Int) (a1_4 : Int) (a1_5 : Int) (a1_6 : Int) (a1_7 : Int) (a1_8 : Int) (a1_9 : Int) (a1_10 : Int) (a1_11 : Int) (a1_12 : Int) (a1_13 : Int) (r : Bool) (w : World) (h : spec_l03Weighing.f k a0_0 a0_1 a0_2 a0_3 a1_0 a1_1 a1_2 a1_3 a1_4 a1_5 a1_6 a1_7 a1_8 a1_9 a1_10 a1_11 a1_12 a1_13 = some r) :
  Calls Try.prog 23 #[.agg #[.int .i8 a0_0, .int .i8 a0_1, .bool a0_2, .bool a0_3], .agg #[.int .i8 a1_0, .int .i8 a1_1, .int .i8 a1_2, .int .i8 a1_3, .int .i8 a1_4, .int .i8 a1_5, .int .i8 a1_6, .int .i8 a1_7, .int .i8 a1_8, .int .i8 a1_9, .int .i8 a1_10, .int .i8 a1_11, .int .i8 a1_12, .int .i8 a1_13]] w fun e w' => e = .returned (.bool r) ∧ Below w.heap.size w w' := by
 have hu29 := Try.underlying29
 have hu26 := Try.underlying26
 have HB := A_ (Below.refl w.heap.size w)
 have H : (spec_l03Weighing.l0 k 0 0 a0_0 a0_1 a0_2 a0_3 a1_0 a1_1 a1_2 a1_3 a1_4 a1_5 a1_6 a1_7 a1_8 a1_9 a1_10 a1_11 a1_12 a1_13) = some r := h
 clear h
 have H' := Aside0.mk H
 clear H
 go_enter Try.func23, Try.ntmps23
 go_wp2_with (first | ((with_reducible refine gate_dst (N := 2) rfl ?_); refine box_event ?hg (N := 2) ?hd (cs := #[.int .i8 a0_0, .int .i8 a0_1, .bool a0_2, .bool a0_3]) (t := 29) ?hr ?_; (case hd => rfl); (case hg => rfl); (case hr => first | (go_simp; done) | (go_simp; rfl)); intro gb178 hg w3 hbox hb; have n0_ := A_ (below_step (bl_ HB) hb); have n1_ := A_ (hbox); have n2_ := A_ ((by rw [hg]; exact (below_size (bl_ HB)) : w.heap.size ≤ gb178)); have n3_ := n2_; clear HB; have HB := n0_; have BK178 := n1_; have GW178 := n2_; have GE178 := n3_; clear n0_ n1_ n2_ n3_; clear hb hbox hg) | ((with_reducible refine gate_dst (N := 3) rfl ?_); refine box_event ?hg (N := 3) ?hd (cs := #[.int .i8 a1_0, .int .i8 a1_1, .int .i8 a1_2, .int .i8 a1_3, .int .i8 a1_4, .int .i8 a1_5, .int .i8 a1_6, .int .i8 a1_7, .int .i8 a1_8, .int .i8 a1_9, .int .i8 a1_10, .int .i8 a1_11, .int .i8 a1_12, .int .i8 a1_13]) (t := 26) ?hr ?_; (case hd => rfl); (case hg => rfl); (case hr => first | (go_simp; done) | (go_simp; rfl)); intro gb179 hg w4 hbox hb; have n0_ := A_ (blk_below (pl_ BK178) hb); have n1_ := A_ (below_step (bl_ HB) hb); have n2_ := A_ (hbox); have n3_ := A_ ((by rw [hg]; exact (below_size (bl_ HB)) : w.heap.size ≤ gb179)); have n4_ := n3_; have n5_ := A_ ((by rw [hg]; exact Nat.ne_of_lt (blk_lt (pl_ BK178)) : gb178 ≠ gb179)); have n6_ := Aside0.mk n5_.out.symm; clear BK178; clear HB; have BK178 := n0_; have HB := n1_; have BK179 := n2_; have GW179 := n3_; have GE179 := n4_; have NB178_179 := n5_; have NB179_178 := n6_; clear n0_ n1_ n2_ n3_ n4_ n5_ n6_; clear hb hbox hg))
 go_loopg [5, 6] k (fun kq v5 v6 w' => ∃ (x5_1 : Int) (x6_1 : Int), v5 = .int .i64 x5_1 ∧ v6 = .int .i64 x6_1 ∧ Aside0 (spec_l03Weighing.l0 kq x5_1 x6_1 a0_0 a0_1 a0_2 a0_3 a1_0 a1_1 a1_2 a1_3 a1_4 a1_5 a1_6 a1_7 a1_8 a1_9 a1_10 a1_11 a1_12 a1_13 = some r) ∧ Aside0 (kq ≤ k) ∧ Aside0 (w'.heap[gb178]? = some (.cells #[.int .i8 a0_0, .int .i8 a0_1, .bool a0_2, .bool a0_3] 29 (0, 0))) ∧ Aside0 (w'.heap[gb179]? = some (.cells #[.int .i8 a1_0, .int .i8 a1_1, .int .i8 a1_2, .int .i8 a1_3, .int .i8 a1_4, .int .i8 a1_5, .int .i8 a1_6, .int .i8 a1_7, .int .i8 a1_8, .int .i8 a1_9, .int .i8 a1_10, .int .i8 a1_11, .int .i8 a1_12, .int .i8 a1_13] 26 (0, 0))) ∧ Aside0 (Below w.heap.size w w'))
 case atStart => exact ⟨(0), (0), rs_, rs_, H', ⟨Nat.le_refl _⟩, ⟨pl_ BK178⟩, ⟨pl_ BK179⟩, ⟨bl_ HB⟩⟩
 case round =>
  clear H'
  try clear c2
  try clear p2
  obtain ⟨x5_1, x6_1, rfl, rfl, HA, HK1, BK178, BK179, HB⟩ := hrel
  cases gk with
  | zero => exact absurd HA.out (by simp [spec_l03Weighing.l0])
  | succ k1 =>
   have H := HA.out
   clear HA
   simp only [spec_l03Weighing.l0] at H
   by_cases c5 : x6_1 < 14
   ·rw [if_pos c5] at H
    have c5b0 : decide (x6_1 < 14) = true := decide_eq_true c5
    clear c5
    by_cases c6 : 0 ≤ x6_1
    ·rw [if_pos c6] at H
     have c6b0 : decide (0 ≤ x6_1) = true := decide_eq_true c6
     clear c6
     by_cases c8 : (rd [a1_0, a1_1, a1_2, a1_3, a1_4, a1_5, a1_6, a1_7, a1_8, a1_9, a1_10, a1_11, a1_12, a1_13] x6_1) < (-1)
     ·rw [if_pos c8] at H
      have c8b0 : decide ((rd [a1_0, a1_1, a1_2, a1_3, a1_4, a1_5, a1_6, a1_7, a1_8, a1_9, a1_10, a1_11, a1_12, a1_13] x6_1) < (-1)) = true := decide_eq_true c8
      clear c8
      obtain rfl := Option.some.inj H
      have hnb9 := NB179_178.out
      have hnc9 := NB178_179.out
      obtain ⟨hcz10_0, hcz10_1, hcz10_2, hcz10_3, hcz10_4, hcz10_5, hcz10_6, hcz10_7, hcz10_8, hcz10_9, hcz10_10, hcz10_11, hcz10_12, hcz10_13, hfz10_0, hfz10_1, hfz10_2, hfz10_3, hfz10_4, hfz10_5, hfz10_6, hfz10_7, hfz10_8, hfz10_9, hfz10_10, hfz10_11, hfz10_12, hfz10_13⟩ := cl14_ BK179
      have p7 : 0 ≤ (x6_1 : Int) := asm_
      have q7 : (x6_1 : Int) < 14 := asm_
      have hx7 : wr.cell? ⟨gb179, (x6_1 : Int).toNat, none⟩ = some (.int .i8 (rd [a1_0, a1_1, a1_2, a1_3, a1_4, a1_5, a1_6, a1_7, a1_8, a1_9, a1_10, a1_11, a1_12, a1_13] x6_1)) := ard_cell (k := .i8) (l := [a1_0, a1_1, a1_2, a1_3, a1_4, a1_5, a1_6, a1_7, a1_8, a1_9, a1_10, a1_11, a1_12, a1_13]) BK179.out p7 q7
      have hf7 := blk_frozen BK179.out (x6_1 : Int).toNat
      have P7 := Aside0.mk p7
      have Q7 := Aside0.mk q7
      replace p7 := eq_true p7
      replace q7 := eq_true q7
      go_wp2
      go_ret
      exact ⟨by first | rfl | (simp [errW_none, errW_some] <;> rfl) | (simp [*, errW_none, errW_some] <;> rfl), bl_ HB⟩
     ·rw [if_neg c8] at H
      have c8b0 : decide ((rd [a1_0, a1_1, a1_2, a1_3, a1_4, a1_5, a1_6, a1_7, a1_8, a1_9, a1_10, a1_11, a1_12, a1_13] x6_1) < (-1)) = false := decide_eq_false c8
      clear c8
      by_cases c12 : (rd [a1_0, a1_1, a1_2, a1_3, a1_4, a1_5, a1_6, a1_7, a1_8, a1_9, a1_10, a1_11, a1_12, a1_13] x6_1) > 1
      ·rw [if_pos c12] at H
       have c12b0 : decide (1 < (rd [a1_0, a1_1, a1_2, a1_3, a1_4, a1_5, a1_6, a1_7, a1_8, a1_9, a1_10, a1_11, a1_12, a1_13] x6_1)) = true := decide_eq_true c12
       clear c12
       obtain rfl := Option.some.inj H
       have hnb13 := NB179_178.out
       have hnc13 := NB178_179.out
       obtain ⟨hcz14_0, hcz14_1, hcz14_2, hcz14_3, hcz14_4, hcz14_5, hcz14_6, hcz14_7, hcz14_8, hcz14_9, hcz14_10, hcz14_11, hcz14_12, hcz14_13, hfz14_0, hfz14_1, hfz14_2, hfz14_3, hfz14_4, hfz14_5, hfz14_6, hfz14_7, hfz14_8, hfz14_9, hfz14_10, hfz14_11, hfz14_12, hfz14_13⟩ := cl14_ BK179
       have p7 : 0 ≤ (x6_1 : Int) := asm_
       have q7 : (x6_1 : Int) < 14 := asm_
       have hx7 : wr.cell? ⟨gb179, (x6_1 : Int).toNat, none⟩ = some (.int .i8 (rd [a1_0, a1_1, a1_2, a1_3, a1_4, a1_5, a1_6, a1_7, a1_8, a1_9, a1_10, a1_11, a1_12, a1_13] x6_1)) := ard_cell (k := .i8) (l := [a1_0, a1_1, a1_2, a1_3, a1_4, a1_5, a1_6, a1_7, a1_8, a1_9, a1_10, a1_11, a1_12, a1_13]) BK179.out p7 q7
       have hf7 := blk_frozen BK179.out (x6_1 : Int).toNat
       have P7 := Aside0.mk p7
       have Q7 := Aside0.mk q7
       replace p7 := eq_true p7
       replace q7 := eq_true q7
       have p11 : 0 ≤ (x6_1 : Int) := asm_
       have q11 : (x6_1 : Int) < 14 := asm_
       have hx11 : wr.cell? ⟨gb179, (x6_1 : Int).toNat, none⟩ = some (.int .i8 (rd [a1_0, a1_1, a1_2, a1_3, a1_4, a1_5, a1_6, a1_7, a1_8, a1_9, a1_10, a1_11, a1_12, a1_13] x6_1)) := ard_cell (k := .i8) (l := [a1_0, a1_1, a1_2, a1_3, a1_4, a1_5, a1_6, a1_7, a1_8, a1_9, a1_10, a1_11, a1_12, a1_13]) BK179.out p11 q11
       have hf11 := blk_frozen BK179.out (x6_1 : Int).toNat
       have P11 := Aside0.mk p11
       have Q11 := Aside0.mk q11
       replace p11 := eq_true p11
       replace q11 := eq_true q11
       go_wp2
       go_ret
       exact ⟨by first | rfl | (simp [errW_none, errW_some] <;> rfl) | (simp [*, errW_none, errW_some] <;> rfl), bl_ HB⟩
      ·rw [if_neg c12] at H
       have c12b0 : decide (1 < (rd [a1_0, a1_1, a1_2, a1_3, a1_4, a1_5, a1_6, a1_7, a1_8, a1_9, a1_10, a1_11, a1_12, a1_13] x6_1)) = false := decide_eq_false c12
       clear c12
       by_cases c16 : (rd [a1_0, a1_1, a1_2, a1_3, a1_4, a1_5, a1_6, a1_7, a1_8, a1_9, a1_10, a1_11, a1_12, a1_13] x6_1) = 0
       ·rw [if_pos c16] at H
        have c16b0 : ((rd [a1_0, a1_1, a1_2, a1_3, a1_4, a1_5, a1_6, a1_7, a1_8, a1_9, a1_10, a1_11, a1_12, a1_13] x6_1) == 0) = true := beq_iff_eq.mpr c16
        have c16b1 : ((rd [a1_0, a1_1, a1_2, a1_3, a1_4, a1_5, a1_6, a1_7, a1_8, a1_9, a1_10, a1_11, a1_12, a1_13] x6_1) != 0) = false := bne_eq_false_iff_eq.mpr c16
        clear c16
        have H' := Aside0.mk H
        clear H
        have hnb18 := NB179_178.out
        have hnc18 := NB178_179.out
        obtain ⟨hcz19_0, hcz19_1, hcz19_2, hcz19_3, hcz19_4, hcz19_5, hcz19_6, hcz19_7, hcz19_8, hcz19_9, hcz19_10, hcz19_11, hcz19_12, hcz19_13, hfz19_0, hfz19_1, hfz19_2, hfz19_3, hfz19_4, hfz19_5, hfz19_6, hfz19_7, hfz19_8, hfz19_9, hfz19_10, hfz19_11, hfz19_12, hfz19_13⟩ := cl14_ BK179
        have p7 : 0 ≤ (x6_1 : Int) := asm_
        have q7 : (x6_1 : Int) < 14 := asm_
        have hx7 : wr.cell? ⟨gb179, (x6_1 : Int).toNat, none⟩ = some (.int .i8 (rd [a1_0, a1_1, a1_2, a1_3, a1_4, a1_5, a1_6, a1_7, a1_8, a1_9, a1_10, a1_11, a1_12, a1_13] x6_1)) := ard_cell (k := .i8) (l := [a1_0, a1_1, a1_2, a1_3, a1_4, a1_5, a1_6, a1_7, a1_8, a1_9, a1_10, a1_11, a1_12, a1_13]) BK179.out p7 q7
        have hf7 := blk_frozen BK179.out (x6_1 : Int).toNat
        have P7 := Aside0.mk p7
        have Q7 := Aside0.mk q7
        replace p7 := eq_true p7
        replace q7 := eq_true q7
        have p11 : 0 ≤ (x6_1 : Int) := asm_
        have q11 : (x6_1 : Int) < 14 := asm_
        have hx11 : wr.cell? ⟨gb179, (x6_1 : Int).toNat, none⟩ = some (.int .i8 (rd [a1_0, a1_1, a1_2, a1_3, a1_4, a1_5, a1_6, a1_7, a1_8, a1_9, a1_10, a1_11, a1_12, a1_13] x6_1)) := ard_cell (k := .i8) (l := [a1_0, a1_1, a1_2, a1_3, a1_4, a1_5, a1_6, a1_7, a1_8, a1_9, a1_10, a1_11, a1_12, a1_13]) BK179.out p11 q11
        have hf11 := blk_frozen BK179.out (x6_1 : Int).toNat
        have P11 := Aside0.mk p11
        have Q11 := Aside0.mk q11
        replace p11 := eq_true p11
        replace q11 := eq_true q11
        have p15 : 0 ≤ (x6_1 : Int) := asm_
        have q15 : (x6_1 : Int) < 14 := asm_
        have hx15 : wr.cell? ⟨gb179, (x6_1 : Int).toNat, none⟩ = some (.int .i8 (rd [a1_0, a1_1, a1_2, a1_3, a1_4, a1_5, a1_6, a1_7, a1_8, a1_9, a1_10, a1_11, a1_12, a1_13] x6_1)) := ard_cell (k := .i8) (l := [a1_0, a1_1, a1_2, a1_3, a1_4, a1_5, a1_6, a1_7, a1_8, a1_9, a1_10, a1_11, a1_12, a1_13]) BK179.out p15 q15
        have hf15 := blk_frozen BK179.out (x6_1 : Int).toNat
        have P15 := Aside0.mk p15
        have Q15 := Aside0.mk q15
        replace p15 := eq_true p15
        replace q15 := eq_true q15
        have p17 : 0 ≤ (x6_1 : Int) := asm_
        have q17 : (x6_1 : Int) < 14 := asm_
        have hx17 : wr.cell? ⟨gb179, (x6_1 : Int).toNat, none⟩ = some (.int .i8 (rd [a1_0, a1_1, a1_2, a1_3, a1_4, a1_5, a1_6, a1_7, a1_8, a1_9, a1_10, a1_11, a1_12, a1_13] x6_1)) := ard_cell (k := .i8) (l := [a1_0, a1_1, a1_2, a1_3, a1_4, a1_5, a1_6, a1_7, a1_8, a1_9, a1_10, a1_11, a1_12, a1_13]) BK179.out p17 q17
        have hf17 := blk_frozen BK179.out (x6_1 : Int).toNat
        have P17 := Aside0.mk p17
        have Q17 := Aside0.mk q17
        replace p17 := eq_true p17
        replace q17 := eq_true q17
        go_wp2
        go_roundg k1
        case measure => have := HK1.out; omega
        case rel => exact ⟨(wrap64 (x5_1 + (wrap64 (rd [a1_0, a1_1, a1_2, a1_3, a1_4, a1_5, a1_6, a1_7, a1_8, a1_9, a1_10, a1_11, a1_12, a1_13] x6_1)))), (wrap64 (x6_1 + 1)), rs_, rs_, H', ⟨by have := HK1.out; omega⟩, ⟨pl_ BK178⟩, ⟨pl_ BK179⟩, ⟨bl_ HB⟩⟩
       ·rw [if_neg c16] at H
        have c16b0 : ((rd [a1_0, a1_1, a1_2, a1_3, a1_4, a1_5, a1_6, a1_7, a1_8, a1_9, a1_10, a1_11, a1_12, a1_13] x6_1) == 0) = false := beq_eq_false_iff_ne.mpr c16
        have c16b1 : ((rd [a1_0, a1_1, a1_2, a1_3, a1_4, a1_5, a1_6, a1_7, a1_8, a1_9, a1_10, a1_11, a1_12, a1_13] x6_1) != 0) = true := bne_iff_ne.mpr c16
        replace H := Option.bind_eq_some_iff.mp H
        obtain ⟨t180, A200, H⟩ := H
        replace H : (if t180 = true then (spec_l03Weighing.l0 k1 (wrap64 (x5_1 + (wrap64 (rd [a1_0, a1_1, a1_2, a1_3, a1_4, a1_5, a1_6, a1_7, a1_8, a1_9, a1_10, a1_11, a1_12, a1_13] x6_1)))) (wrap64 (x6_1 + 1)) a0_0 a0_1 a0_2 a0_3 a1_0 a1_1 a1_2 a1_3 a1_4 a1_5 a1_6 a1_7 a1_8 a1_9 a1_10 a1_11 a1_12 a1_13) else (some false)) = some r := H
        have A20 := Aside0.mk A200
        clear A200
        by_cases c21 : t180 = true
        ·subst c21
         have H1 : (spec_l03Weighing.l0 k1 (wrap64 (x5_1 + (wrap64 (rd [a1_0, a1_1, a1_2, a1_3, a1_4, a1_5, a1_6, a1_7, a1_8, a1_9, a1_10, a1_11, a1_12, a1_13] x6_1)))) (wrap64 (x6_1 + 1)) a0_0 a0_1 a0_2 a0_3 a1_0 a1_1 a1_2 a1_3 a1_4 a1_5 a1_6 a1_7 a1_8 a1_9 a1_10 a1_11 a1_12 a1_13) = some r := by rw [if_pos rfl] at H; exact H
         clear H
         have H := H1
         clear H1
         have H' := Aside0.mk H
         clear H
         have hnb23 := NB179_178.out
         have hnc23 := NB178_179.out
         obtain ⟨hcz24_0, hcz24_1, hcz24_2, hcz24_3, hcz24_4, hcz24_5, hcz24_6, hcz24_7, hcz24_8, hcz24_9, hcz24_10, hcz24_11, hcz24_12, hcz24_13, hfz24_0, hfz24_1, hfz24_2, hfz24_3, hfz24_4, hfz24_5, hfz24_6, hfz24_7, hfz24_8, hfz24_9, hfz24_10, hfz24_11, hfz24_12, hfz24_13⟩ := cl14_ BK179
         have p7 : 0 ≤ (x6_1 : Int) := asm_
         have q7 : (x6_1 : Int) < 14 := asm_
         have hx7 : wr.cell? ⟨gb179, (x6_1 : Int).toNat, none⟩ = some (.int .i8 (rd [a1_0, a1_1, a1_2, a1_3, a1_4, a1_5, a1_6, a1_7, a1_8, a1_9, a1_10, a1_11, a1_12, a1_13] x6_1)) := ard_cell (k := .i8) (l := [a1_0, a1_1, a1_2, a1_3, a1_4, a1_5, a1_6, a1_7, a1_8, a1_9, a1_10, a1_11, a1_12, a1_13]) BK179.out p7 q7
         have hf7 := blk_frozen BK179.out (x6_1 : Int).toNat
         have P7 := Aside0.mk p7
         have Q7 := Aside0.mk q7
         replace p7 := eq_true p7
         replace q7 := eq_true q7
         have p11 : 0 ≤ (x6_1 : Int) := asm_
         have q11 : (x6_1 : Int) < 14 := asm_
         have hx11 : wr.cell? ⟨gb179, (x6_1 : Int).toNat, none⟩ = some (.int .i8 (rd [a1_0, a1_1, a1_2, a1_3, a1_4, a1_5, a1_6, a1_7, a1_8, a1_9, a1_10, a1_11, a1_12, a1_13] x6_1)) := ard_cell (k := .i8) (l := [a1_0, a1_1, a1_2, a1_3, a1_4, a1_5, a1_6, a1_7, a1_8, a1_9, a1_10, a1_11, a1_12, a1_13]) BK179.out p11 q11
         have hf11 := blk_frozen BK179.out (x6_1 : Int).toNat
         have P11 := Aside0.mk p11
         have Q11 := Aside0.mk q11
         replace p11 := eq_true p11
         replace q11 := eq_true q11
         have p15 : 0 ≤ (x6_1 : Int) := asm_
         have q15 : (x6_1 : Int) < 14 := asm_
         have hx15 : wr.cell? ⟨gb179, (x6_1 : Int).toNat, none⟩ = some (.int .i8 (rd [a1_0, a1_1, a1_2, a1_3, a1_4, a1_5, a1_6, a1_7, a1_8, a1_9, a1_10, a1_11, a1_12, a1_13] x6_1)) := ard_cell (k := .i8) (l := [a1_0, a1_1, a1_2, a1_3, a1_4, a1_5, a1_6, a1_7, a1_8, a1_9, a1_10, a1_11, a1_12, a1_13]) BK179.out p15 q15
         have hf15 := blk_frozen BK179.out (x6_1 : Int).toNat
         have P15 := Aside0.mk p15
         have Q15 := Aside0.mk q15
         replace p15 := eq_true p15
         replace q15 := eq_true q15
         obtain ⟨hcz25_0, hcz25_1, hcz25_2, hcz25_3, hfz25_0, hfz25_1, hfz25_2, hfz25_3⟩ := cl4_ BK178
         go_wp2_with (first | (go_at_call 40; (with_reducible refine (spec_l03There.calls a0_0 a0_1 a0_2 a0_3 x6_1 true _ A20.out).mono ?_); rintro e w26 ⟨rfl, hb⟩; have n0_ := A_ (blk_below (pl_ BK178) hb); have n1_ := A_ (blk_below (pl_ BK179) hb); have n2_ := A_ (below_step (bl_ HB) hb); clear BK178; clear BK179; clear HB; have BK178 := n0_; have BK179 := n1_; have HB := n2_; clear n0_ n1_ n2_; (try clear hb); (try clear hb2); (try clear hk); (try clear hi); obtain ⟨hcz27_0, hcz27_1, hcz27_2, hcz27_3, hcz27_4, hcz27_5, hcz27_6, hcz27_7, hcz27_8, hcz27_9, hcz27_10, hcz27_11, hcz27_12, hcz27_13, hfz27_0, hfz27_1, hfz27_2, hfz27_3, hfz27_4, hfz27_5, hfz27_6, hfz27_7, hfz27_8, hfz27_9, hfz27_10, hfz27_11, hfz27_12, hfz27_13⟩ := cl14_ BK179; have p22 : 0 ≤ (x6_1 : Int) := asm_; have q22 : (x6_1 : Int) < 14 := asm_; have hx22 : w26.cell? ⟨gb179, (x6_1 : Int).toNat, none⟩ = some (.int .i8 (rd [a1_0, a1_1, a1_2, a1_3, a1_4, a1_5, a1_6, a1_7, a1_8, a1_9, a1_10, a1_11, a1_12, a1_13] x6_1)) := ard_cell (k := .i8) (l := [a1_0, a1_1, a1_2, a1_3, a1_4, a1_5, a1_6, a1_7, a1_8, a1_9, a1_10, a1_11, a1_12, a1_13]) BK179.out p22 q22; have hf22 := blk_frozen BK179.out (x6_1 : Int).toNat; have P22 := Aside0.mk p22; have Q22 := Aside0.mk q22; replace p22 := eq_true p22; replace q22 := eq_true q22))
         go_roundg k1
         case measure => have := HK1.out; omega
         case rel => exact ⟨(wrap64 (x5_1 + (wrap64 (rd [a1_0, a1_1, a1_2, a1_3, a1_4, a1_5, a1_6, a1_7, a1_8, a1_9, a1_10, a1_11, a1_12, a1_13] x6_1)))), (wrap64 (x6_1 + 1)), rs_, rs_, H', ⟨by have := HK1.out; omega⟩, ⟨pl_ BK178⟩, ⟨pl_ BK179⟩, ⟨bl_ HB⟩⟩
        ·replace c21 := Bool.eq_false_iff.mpr c21
         subst c21
         have H1 : (some false) = some r := by rw [if_neg (show ¬ (false = true) by decide)] at H; exact H
         clear H
         have H := H1
         clear H1
         obtain rfl := Option.some.inj H
         have hnb28 := NB179_178.out
         have hnc28 := NB178_179.out
         obtain ⟨hcz29_0, hcz29_1, hcz29_2, hcz29_3, hcz29_4, hcz29_5, hcz29_6, hcz29_7, hcz29_8, hcz29_9, hcz29_10, hcz29_11, hcz29_12, hcz29_13, hfz29_0, hfz29_1, hfz29_2, hfz29_3, hfz29_4, hfz29_5, hfz29_6, hfz29_7, hfz29_8, hfz29_9, hfz29_10, hfz29_11, hfz29_12, hfz29_13⟩ := cl14_ BK179
         have p7 : 0 ≤ (x6_1 : Int) := asm_
         have q7 : (x6_1 : Int) < 14 := asm_
         have hx7 : wr.cell? ⟨gb179, (x6_1 : Int).toNat, none⟩ = some (.int .i8 (rd [a1_0, a1_1, a1_2, a1_3, a1_4, a1_5, a1_6, a1_7, a1_8, a1_9, a1_10, a1_11, a1_12, a1_13] x6_1)) := ard_cell (k := .i8) (l := [a1_0, a1_1, a1_2, a1_3, a1_4, a1_5, a1_6, a1_7, a1_8, a1_9, a1_10, a1_11, a1_12, a1_13]) BK179.out p7 q7
         have hf7 := blk_frozen BK179.out (x6_1 : Int).toNat
         have P7 := Aside0.mk p7
         have Q7 := Aside0.mk q7
         replace p7 := eq_true p7
         replace q7 := eq_true q7
         have p11 : 0 ≤ (x6_1 : Int) := asm_
         have q11 : (x6_1 : Int) < 14 := asm_
         have hx11 : wr.cell? ⟨gb179, (x6_1 : Int).toNat, none⟩ = some (.int .i8 (rd [a1_0, a1_1, a1_2, a1_3, a1_4, a1_5, a1_6, a1_7, a1_8, a1_9, a1_10, a1_11, a1_12, a1_13] x6_1)) := ard_cell (k := .i8) (l := [a1_0, a1_1, a1_2, a1_3, a1_4, a1_5, a1_6, a1_7, a1_8, a1_9, a1_10, a1_11, a1_12, a1_13]) BK179.out p11 q11
         have hf11 := blk_frozen BK179.out (x6_1 : Int).toNat
         have P11 := Aside0.mk p11
         have Q11 := Aside0.mk q11
         replace p11 := eq_true p11
         replace q11 := eq_true q11
         have p15 : 0 ≤ (x6_1 : Int) := asm_
         have q15 : (x6_1 : Int) < 14 := asm_
         have hx15 : wr.cell? ⟨gb179, (x6_1 : Int).toNat, none⟩ = some (.int .i8 (rd [a1_0, a1_1, a1_2, a1_3, a1_4, a1_5, a1_6, a1_7, a1_8, a1_9, a1_10, a1_11, a1_12, a1_13] x6_1)) := ard_cell (k := .i8) (l := [a1_0, a1_1, a1_2, a1_3, a1_4, a1_5, a1_6, a1_7, a1_8, a1_9, a1_10, a1_11, a1_12, a1_13]) BK179.out p15 q15
         have hf15 := blk_frozen BK179.out (x6_1 : Int).toNat
         have P15 := Aside0.mk p15
         have Q15 := Aside0.mk q15
         replace p15 := eq_true p15
         replace q15 := eq_true q15
         obtain ⟨hcz30_0, hcz30_1, hcz30_2, hcz30_3, hfz30_0, hfz30_1, hfz30_2, hfz30_3⟩ := cl4_ BK178
         go_wp2_with (first | (go_at_call 40; (with_reducible refine (spec_l03There.calls a0_0 a0_1 a0_2 a0_3 x6_1 false _ A20.out).mono ?_); rintro e w31 ⟨rfl, hb⟩; have n0_ := A_ (blk_below (pl_ BK178) hb); have n1_ := A_ (blk_below (pl_ BK179) hb); have n2_ := A_ (below_step (bl_ HB) hb); clear BK178; clear BK179; clear HB; have BK178 := n0_; have BK179 := n1_; have HB := n2_; clear n0_ n1_ n2_; (try clear hb); (try clear hb2); (try clear hk); (try clear hi)))
         go_ret
         exact ⟨by first | rfl | (simp [errW_none, errW_some] <;> rfl) | (simp [*, errW_none, errW_some] <;> rfl), bl_ HB⟩
    ·rw [if_neg c6] at H
     exact absurd H (by simp)
   ·rw [if_neg c5] at H
    have c5b0 : decide (x6_1 < 14) = false := decide_eq_false c5
    clear c5
    obtain rfl := Option.some.inj H
    go_wp2
    go_ret
    exact ⟨by first | rfl | (simp [errW_none, errW_some] <;> rfl) | (simp [*, errW_none, errW_some] <;> rfl), bl_ HB⟩

end Go.Proofs.Ytcghglembmohcaa.B
