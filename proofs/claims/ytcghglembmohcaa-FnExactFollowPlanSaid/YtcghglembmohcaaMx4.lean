-- By this seat's own program over the kit's printer (arrays, functions told by hand); nothing of it is trusted: the kernel checks it.
import Derived.Test.YtcghglembmohcaaMx0
namespace Go.Proofs.Ytcghglembmohcaa.M
open Go.RowKit Go.Proofs.YtcghglembmohcaaW.PrintWords Go.Proofs.YtcghglembmohcaaW.PrintLast Go.Proofs.YtcghglembmohcaaW.PrintMore
attribute [local go_sem] max2_int min2_int max_two min_two max_three min_three max_four min_four   -- for this text's walks alone
set_option linter.unusedVariables false
set_option linter.unusedSimpArgs false

/-! ### laws_eqWeighing: function 10 -/
def laws_eqWeighing.l0 : Nat → Int → Int → Int → Int → Int → Int → Int → Int → Int → Int → Int → Int → Int → Int → Int → Int → Int → Int → Int → Int → Int → Int → Int → Int → Int → Int → Int → Int → Int → Option (Bool)
 | 0, _, _, _, _, _, _, _, _, _, _, _, _, _, _, _, _, _, _, _, _, _, _, _, _, _, _, _, _, _ => none
 | k + 1, x5, x159000, x159001, x159002, x159003, x159004, x159005, x159006, x159007, x159008, x159009, x159010, x159011, x159012, x159013, x160000, x160001, x160002, x160003, x160004, x160005, x160006, x160007, x160008, x160009, x160010, x160011, x160012, x160013 => if x5 < 14 then (if 0 ≤ x5 then (if (rd [x159000, x159001, x159002, x159003, x159004, x159005, x159006, x159007, x159008, x159009, x159010, x159011, x159012, x159013] x5) = (rd [x160000, x160001, x160002, x160003, x160004, x160005, x160006, x160007, x160008, x160009, x160010, x160011, x160012, x160013] x5) then (laws_eqWeighing.l0 k (wrap64 (x5 + 1)) x159000 x159001 x159002 x159003 x159004 x159005 x159006 x159007 x159008 x159009 x159010 x159011 x159012 x159013 x160000 x160001 x160002 x160003 x160004 x160005 x160006 x160007 x160008 x160009 x160010 x160011 x160012 x160013) else (some false)) else (none)) else (some true)
def laws_eqWeighing.f (k : Nat) (a0_0 : Int) (a0_1 : Int) (a0_2 : Int) (a0_3 : Int) (a0_4 : Int) (a0_5 : Int) (a0_6 : Int) (a0_7 : Int) (a0_8 : Int) (a0_9 : Int) (a0_10 : Int) (a0_11 : Int) (a0_12 : Int) (a0_13 : Int) (a1_0 : Int) (a1_1 : Int) (a1_2 : Int) (a1_3 : Int) (a1_4 : Int) (a1_5 : Int) (a1_6 : Int) (a1_7 : Int) (a1_8 : Int) (a1_9 : Int) (a1_10 : Int) (a1_11 : Int) (a1_12 : Int) (a1_13 : Int) : Option (Bool) := laws_eqWeighing.l0 k 0 a0_0 a0_1 a0_2 a0_3 a0_4 a0_5 a0_6 a0_7 a0_8 a0_9 a0_10 a0_11 a0_12 a0_13 a1_0 a1_1 a1_2 a1_3 a1_4 a1_5 a1_6 a1_7 a1_8 a1_9 a1_10 a1_11 a1_12 a1_13
theorem laws_eqWeighing.mono_l : ∀ k, (∀ y0 y1 y2 y3 y4 y5 y6 y7 y8 y9 y10 y11 y12 y13 y14 y15 y16 y17 y18 y19 y20 y21 y22 y23 y24 y25 y26 y27 y28, LeO (laws_eqWeighing.l0 k y0 y1 y2 y3 y4 y5 y6 y7 y8 y9 y10 y11 y12 y13 y14 y15 y16 y17 y18 y19 y20 y21 y22 y23 y24 y25 y26 y27 y28) (laws_eqWeighing.l0 (k + 1) y0 y1 y2 y3 y4 y5 y6 y7 y8 y9 y10 y11 y12 y13 y14 y15 y16 y17 y18 y19 y20 y21 y22 y23 y24 y25 y26 y27 y28))
 | 0 => fun _ _ _ _ _ _ _ _ _ _ _ _ _ _ _ _ _ _ _ _ _ _ _ _ _ _ _ _ _ r h => by simp [laws_eqWeighing.l0] at h
 | k + 1 => by
  have ih0 := laws_eqWeighing.mono_l k
  ·intro y0 y1 y2 y3 y4 y5 y6 y7 y8 y9 y10 y11 y12 y13 y14 y15 y16 y17 y18 y19 y20 y21 y22 y23 y24 y25 y26 y27 y28
   unfold laws_eqWeighing.l0
   repeat' first
   | (with_reducible exact ih0 _ _ _ _ _ _ _ _ _ _ _ _ _ _ _ _ _ _ _ _ _ _ _ _ _ _ _ _ _)
   | (with_reducible exact LeO.refl _)
   | (with_reducible exact LeO.none _)
   | (with_reducible refine LeO.ite ?_ ?_)
   | (with_reducible refine LeO.bind ?_ (fun _ => ?_))
   | exact ih0 _ _ _ _ _ _ _ _ _ _ _ _ _ _ _ _ _ _ _ _ _ _ _ _ _ _ _ _ _
   | exact LeO.none _
   | refine LeO.ite ?_ ?_
   | refine LeO.bind ?_ (fun _ => ?_)
theorem laws_eqWeighing.mono : ∀ a0 a1 a2 a3 a4 a5 a6 a7 a8 a9 a10 a11 a12 a13 a14 a15 a16 a17 a18 a19 a20 a21 a22 a23 a24 a25 a26 a27 k, LeO (laws_eqWeighing.f k a0 a1 a2 a3 a4 a5 a6 a7 a8 a9 a10 a11 a12 a13 a14 a15 a16 a17 a18 a19 a20 a21 a22 a23 a24 a25 a26 a27) (laws_eqWeighing.f (k + 1) a0 a1 a2 a3 a4 a5 a6 a7 a8 a9 a10 a11 a12 a13 a14 a15 a16 a17 a18 a19 a20 a21 a22 a23 a24 a25 a26 a27) := by
 intro a0 a1 a2 a3 a4 a5 a6 a7 a8 a9 a10 a11 a12 a13 a14 a15 a16 a17 a18 a19 a20 a21 a22 a23 a24 a25 a26 a27 k
 have ih0 := laws_eqWeighing.mono_l k
 unfold laws_eqWeighing.f
 repeat' first
   | (with_reducible exact ih0 _ _ _ _ _ _ _ _ _ _ _ _ _ _ _ _ _ _ _ _ _ _ _ _ _ _ _ _ _)
   | (with_reducible exact LeO.refl _)
   | (with_reducible exact LeO.none _)
   | (with_reducible refine LeO.ite ?_ ?_)
   | (with_reducible refine LeO.bind ?_ (fun _ => ?_))
   | exact ih0 _ _ _ _ _ _ _ _ _ _ _ _ _ _ _ _ _ _ _ _ _ _ _ _ _ _ _ _ _
   | exact LeO.none _
   | refine LeO.ite ?_ ?_
   | refine LeO.bind ?_ (fun _ => ?_)
set_option maxHeartbeats 8000000 in
set_option maxRecDepth 100000 in
theorem laws_eqWeighing.calls (k : Nat) (a0_0 : Int) (a0_1 : Int) (a0_2 : Int) (a0_3 : Int) (a0_4 : Int) (a0_5 : Int) (a0_6 : Int) (a0_7 : Int) (a0_8 : Int) (a0_9 : Int) (a0_10 : Int) (a0_11 : Int) (a0_12 : Int) (a0_13 : Int) (a1_0 : Int) (a1_1 : Int) (a1_2 : Int) (a1_3 : Int) (a1_4 : Int) (a1_5 : Int) (a1_6 : Int) (a1_7 : Int) (a1_8 : Int) (a1_9 : Int) (a1_10 : Int) (a1_11 : Int) (a1_12 : Int) (a1_13 : Int) (r : Bool) (w : World) (h : laws_eqWeighing.f k a0_0 a0_1 a0_2 a0_3 a0_4 a0_5 a0_6 a0_7 a0_8 a0_9 a0_10 a0_11 a0_12 a0_13 a1_0 a1_1 a1_2 a1_3 a1_4 a1_5 a1_6 a1_7 a1_8 a1_9 a1_10 a1_11 a1_12 a1_13 = some r) :
  Calls Try.prog 10 #[.agg #[.int .i8 a0_0, .int .i8 a0_1, .int .i8 a0_2, .int .i8 a0_3, .int .i8 a0_4, .int .i8 a0_5, .int .i8 a0_6, .int .i8 a0_7, .int .i8 a0_8, .int .i8 a0_9, .int .i8 a0_10, .int .i8 a0_11, .int .i8 a0_12, .int .i8 a0_13], .agg #[.int .i8 a1_0, .int .i8 a1_1, .int .i8 a1_2, .int .i8 a1_3, .int .i8 a1_4, .int .i8 a1_5, .int .i8 a1_6, .int .i8 a1_7, .int .i8 a1_8, .int .i8 a1_9, .int .i8 a1_10, .int .i8 a1_11, .int .i8 a1_12, .int .i8 a1_13]] w fun e w' => e = .returned (.bool r) ∧ Below w.heap.size w w' := by
 have hu26 := Try.underlying26
 have HB := A_ (Below.refl w.heap.size w)
 have H : (laws_eqWeighing.l0 k 0 a0_0 a0_1 a0_2 a0_3 a0_4 a0_5 a0_6 a0_7 a0_8 a0_9 a0_10 a0_11 a0_12 a0_13 a1_0 a1_1 a1_2 a1_3 a1_4 a1_5 a1_6 a1_7 a1_8 a1_9 a1_10 a1_11 a1_12 a1_13) = some r := h
 clear h
 have H' := Aside0.mk H
 clear H
 go_enter Try.func10, Try.ntmps10
 have o_ : True := trivial
 repeat ((first | go_quiet (first | ((with_reducible refine gate_dst (N := 2) rfl ?_); refine box_event ?hg (N := 2) ?hd (cs := #[.int .i8 a0_0, .int .i8 a0_1, .int .i8 a0_2, .int .i8 a0_3, .int .i8 a0_4, .int .i8 a0_5, .int .i8 a0_6, .int .i8 a0_7, .int .i8 a0_8, .int .i8 a0_9, .int .i8 a0_10, .int .i8 a0_11, .int .i8 a0_12, .int .i8 a0_13]) (t := 26) ?hr ?_; (case hd => rfl); (case hg => rfl); (case hr => first | (go_simp; done) | (go_simp; rfl)); intro gb158 hg w3 hbox hb; have n0_ := A_ (below_step (bl_ HB) hb); have n1_ := A_ (hbox); have n2_ := A_ ((by rw [hg]; exact (below_size (bl_ HB)) : w.heap.size ≤ gb158)); have n3_ := n2_; clear HB; have HB := n0_; have BK158 := n1_; have GW158 := n2_; have GE158 := n3_; clear n0_ n1_ n2_ n3_; clear hb hbox hg) | ((with_reducible refine gate_dst (N := 3) rfl ?_); refine box_event ?hg (N := 3) ?hd (cs := #[.int .i8 a1_0, .int .i8 a1_1, .int .i8 a1_2, .int .i8 a1_3, .int .i8 a1_4, .int .i8 a1_5, .int .i8 a1_6, .int .i8 a1_7, .int .i8 a1_8, .int .i8 a1_9, .int .i8 a1_10, .int .i8 a1_11, .int .i8 a1_12, .int .i8 a1_13]) (t := 26) ?hr ?_; (case hd => rfl); (case hg => rfl); (case hr => first | (go_simp; done) | (go_simp; rfl)); intro gb159 hg w4 hbox hb; have n0_ := A_ (blk_below (pl_ BK158) hb); have n1_ := A_ (below_step (bl_ HB) hb); have n2_ := A_ (hbox); have n3_ := A_ ((by rw [hg]; exact (below_size (bl_ HB)) : w.heap.size ≤ gb159)); have n4_ := n3_; have n5_ := A_ ((by rw [hg]; exact Nat.ne_of_lt (blk_lt (pl_ BK158)) : gb158 ≠ gb159)); have n6_ := Aside0.mk n5_.out.symm; clear BK158; clear HB; have BK158 := n0_; have HB := n1_; have BK159 := n2_; have GW159 := n3_; have GE159 := n4_; have NB158_159 := n5_; have NB159_158 := n6_; clear n0_ n1_ n2_ n3_ n4_ n5_ n6_; clear hb hbox hg)) | clear o_); go_wp2_with (first | ((with_reducible refine gate_dst (N := 2) rfl ?_); refine box_event ?hg (N := 2) ?hd (cs := #[.int .i8 a0_0, .int .i8 a0_1, .int .i8 a0_2, .int .i8 a0_3, .int .i8 a0_4, .int .i8 a0_5, .int .i8 a0_6, .int .i8 a0_7, .int .i8 a0_8, .int .i8 a0_9, .int .i8 a0_10, .int .i8 a0_11, .int .i8 a0_12, .int .i8 a0_13]) (t := 26) ?hr ?_; (case hd => rfl); (case hg => rfl); (case hr => first | (go_simp; done) | (go_simp; rfl)); intro gb158 hg w3 hbox hb; have n0_ := A_ (below_step (bl_ HB) hb); have n1_ := A_ (hbox); have n2_ := A_ ((by rw [hg]; exact (below_size (bl_ HB)) : w.heap.size ≤ gb158)); have n3_ := n2_; clear HB; have HB := n0_; have BK158 := n1_; have GW158 := n2_; have GE158 := n3_; clear n0_ n1_ n2_ n3_; clear hb hbox hg) | ((with_reducible refine gate_dst (N := 3) rfl ?_); refine box_event ?hg (N := 3) ?hd (cs := #[.int .i8 a1_0, .int .i8 a1_1, .int .i8 a1_2, .int .i8 a1_3, .int .i8 a1_4, .int .i8 a1_5, .int .i8 a1_6, .int .i8 a1_7, .int .i8 a1_8, .int .i8 a1_9, .int .i8 a1_10, .int .i8 a1_11, .int .i8 a1_12, .int .i8 a1_13]) (t := 26) ?hr ?_; (case hd => rfl); (case hg => rfl); (case hr => first | (go_simp; done) | (go_simp; rfl)); intro gb159 hg w4 hbox hb; have n0_ := A_ (blk_below (pl_ BK158) hb); have n1_ := A_ (below_step (bl_ HB) hb); have n2_ := A_ (hbox); have n3_ := A_ ((by rw [hg]; exact (below_size (bl_ HB)) : w.heap.size ≤ gb159)); have n4_ := n3_; have n5_ := A_ ((by rw [hg]; exact Nat.ne_of_lt (blk_lt (pl_ BK158)) : gb158 ≠ gb159)); have n6_ := Aside0.mk n5_.out.symm; clear BK158; clear HB; have BK158 := n0_; have HB := n1_; have BK159 := n2_; have GW159 := n3_; have GE159 := n4_; have NB158_159 := n5_; have NB159_158 := n6_; clear n0_ n1_ n2_ n3_ n4_ n5_ n6_; clear hb hbox hg)))
 go_loopg [5] k (fun kq v5 w' => ∃ (x5_1 : Int), v5 = .int .i64 x5_1 ∧ Aside0 (laws_eqWeighing.l0 kq x5_1 a0_0 a0_1 a0_2 a0_3 a0_4 a0_5 a0_6 a0_7 a0_8 a0_9 a0_10 a0_11 a0_12 a0_13 a1_0 a1_1 a1_2 a1_3 a1_4 a1_5 a1_6 a1_7 a1_8 a1_9 a1_10 a1_11 a1_12 a1_13 = some r) ∧ Aside0 (kq ≤ k) ∧ Aside0 (w'.heap[gb158]? = some (.cells #[.int .i8 a0_0, .int .i8 a0_1, .int .i8 a0_2, .int .i8 a0_3, .int .i8 a0_4, .int .i8 a0_5, .int .i8 a0_6, .int .i8 a0_7, .int .i8 a0_8, .int .i8 a0_9, .int .i8 a0_10, .int .i8 a0_11, .int .i8 a0_12, .int .i8 a0_13] 26 (0, 0))) ∧ Aside0 (w'.heap[gb159]? = some (.cells #[.int .i8 a1_0, .int .i8 a1_1, .int .i8 a1_2, .int .i8 a1_3, .int .i8 a1_4, .int .i8 a1_5, .int .i8 a1_6, .int .i8 a1_7, .int .i8 a1_8, .int .i8 a1_9, .int .i8 a1_10, .int .i8 a1_11, .int .i8 a1_12, .int .i8 a1_13] 26 (0, 0))) ∧ Aside0 (Below w.heap.size w w'))
 case atStart => exact ⟨(0), rs_, H', ⟨Nat.le_refl _⟩, ⟨pl_ BK158⟩, ⟨pl_ BK159⟩, ⟨bl_ HB⟩⟩
 case round =>
  clear H'
  try clear c1
  try clear p2
  obtain ⟨x5_1, rfl, HA, HK1, BK158, BK159, HB⟩ := hrel
  cases gk with
  | zero => exact absurd HA.out (by simp [laws_eqWeighing.l0])
  | succ k1 =>
   have H := HA.out
   clear HA
   simp only [laws_eqWeighing.l0] at H
   by_cases c5 : x5_1 < 14
   ·rw [if_pos c5] at H
    have c5b0 : decide (x5_1 < 14) = true := decide_eq_true c5
    clear c5
    by_cases c6 : 0 ≤ x5_1
    ·rw [if_pos c6] at H
     have c6b0 : decide (0 ≤ x5_1) = true := decide_eq_true c6
     clear c6
     by_cases c9 : (rd [a0_0, a0_1, a0_2, a0_3, a0_4, a0_5, a0_6, a0_7, a0_8, a0_9, a0_10, a0_11, a0_12, a0_13] x5_1) = (rd [a1_0, a1_1, a1_2, a1_3, a1_4, a1_5, a1_6, a1_7, a1_8, a1_9, a1_10, a1_11, a1_12, a1_13] x5_1)
     ·rw [if_pos c9] at H
      have c9b0 : ((rd [a0_0, a0_1, a0_2, a0_3, a0_4, a0_5, a0_6, a0_7, a0_8, a0_9, a0_10, a0_11, a0_12, a0_13] x5_1) == (rd [a1_0, a1_1, a1_2, a1_3, a1_4, a1_5, a1_6, a1_7, a1_8, a1_9, a1_10, a1_11, a1_12, a1_13] x5_1)) = true := beq_iff_eq.mpr c9
      have c9b1 : ((rd [a0_0, a0_1, a0_2, a0_3, a0_4, a0_5, a0_6, a0_7, a0_8, a0_9, a0_10, a0_11, a0_12, a0_13] x5_1) != (rd [a1_0, a1_1, a1_2, a1_3, a1_4, a1_5, a1_6, a1_7, a1_8, a1_9, a1_10, a1_11, a1_12, a1_13] x5_1)) = false := bne_eq_false_iff_eq.mpr c9
      clear c9
      have H' := Aside0.mk H
      clear H
      have hnb10 := NB158_159.out
      have hnc10 := NB159_158.out
      obtain ⟨hcz11_0, hcz11_1, hcz11_2, hcz11_3, hcz11_4, hcz11_5, hcz11_6, hcz11_7, hcz11_8, hcz11_9, hcz11_10, hcz11_11, hcz11_12, hcz11_13, hfz11_0, hfz11_1, hfz11_2, hfz11_3, hfz11_4, hfz11_5, hfz11_6, hfz11_7, hfz11_8, hfz11_9, hfz11_10, hfz11_11, hfz11_12, hfz11_13⟩ := cl14_ BK158
      have p7 : 0 ≤ (x5_1 : Int) := asm_
      have q7 : (x5_1 : Int) < 14 := asm_
      have hx7 : wr.cell? ⟨gb158, (x5_1 : Int).toNat, none⟩ = some (.int .i8 (rd [a0_0, a0_1, a0_2, a0_3, a0_4, a0_5, a0_6, a0_7, a0_8, a0_9, a0_10, a0_11, a0_12, a0_13] x5_1)) := ard_cell (k := .i8) (l := [a0_0, a0_1, a0_2, a0_3, a0_4, a0_5, a0_6, a0_7, a0_8, a0_9, a0_10, a0_11, a0_12, a0_13]) BK158.out p7 q7
      have hf7 := blk_frozen BK158.out (x5_1 : Int).toNat
      have P7 := Aside0.mk p7
      have Q7 := Aside0.mk q7
      replace p7 := eq_true p7
      replace q7 := eq_true q7
      obtain ⟨hcz12_0, hcz12_1, hcz12_2, hcz12_3, hcz12_4, hcz12_5, hcz12_6, hcz12_7, hcz12_8, hcz12_9, hcz12_10, hcz12_11, hcz12_12, hcz12_13, hfz12_0, hfz12_1, hfz12_2, hfz12_3, hfz12_4, hfz12_5, hfz12_6, hfz12_7, hfz12_8, hfz12_9, hfz12_10, hfz12_11, hfz12_12, hfz12_13⟩ := cl14_ BK159
      have p8 : 0 ≤ (x5_1 : Int) := asm_
      have q8 : (x5_1 : Int) < 14 := asm_
      have hx8 : wr.cell? ⟨gb159, (x5_1 : Int).toNat, none⟩ = some (.int .i8 (rd [a1_0, a1_1, a1_2, a1_3, a1_4, a1_5, a1_6, a1_7, a1_8, a1_9, a1_10, a1_11, a1_12, a1_13] x5_1)) := ard_cell (k := .i8) (l := [a1_0, a1_1, a1_2, a1_3, a1_4, a1_5, a1_6, a1_7, a1_8, a1_9, a1_10, a1_11, a1_12, a1_13]) BK159.out p8 q8
      have hf8 := blk_frozen BK159.out (x5_1 : Int).toNat
      have P8 := Aside0.mk p8
      have Q8 := Aside0.mk q8
      replace p8 := eq_true p8
      replace q8 := eq_true q8
      go_wp2
      repeat (go_quiet (fail); try go_wp2)
      go_roundg k1
      case measure => have := HK1.out; omega
      case rel => exact ⟨(wrap64 (x5_1 + 1)), rs_, H', ⟨by have := HK1.out; omega⟩, ⟨pl_ BK158⟩, ⟨pl_ BK159⟩, ⟨bl_ HB⟩⟩
     ·rw [if_neg c9] at H
      have c9b0 : ((rd [a0_0, a0_1, a0_2, a0_3, a0_4, a0_5, a0_6, a0_7, a0_8, a0_9, a0_10, a0_11, a0_12, a0_13] x5_1) == (rd [a1_0, a1_1, a1_2, a1_3, a1_4, a1_5, a1_6, a1_7, a1_8, a1_9, a1_10, a1_11, a1_12, a1_13] x5_1)) = false := beq_eq_false_iff_ne.mpr c9
      have c9b1 : ((rd [a0_0, a0_1, a0_2, a0_3, a0_4, a0_5, a0_6, a0_7, a0_8, a0_9, a0_10, a0_11, a0_12, a0_13] x5_1) != (rd [a1_0, a1_1, a1_2, a1_3, a1_4, a1_5, a1_6, a1_7, a1_8, a1_9, a1_10, a1_11, a1_12, a1_13] x5_1)) = true := bne_iff_ne.mpr c9
      obtain rfl := Option.some.inj H
      have hnb13 := NB158_159.out
      have hnc13 := NB159_158.out
      obtain ⟨hcz14_0, hcz14_1, hcz14_2, hcz14_3, hcz14_4, hcz14_5, hcz14_6, hcz14_7, hcz14_8, hcz14_9, hcz14_10, hcz14_11, hcz14_12, hcz14_13, hfz14_0, hfz14_1, hfz14_2, hfz14_3, hfz14_4, hfz14_5, hfz14_6, hfz14_7, hfz14_8, hfz14_9, hfz14_10, hfz14_11, hfz14_12, hfz14_13⟩ := cl14_ BK158
      have p7 : 0 ≤ (x5_1 : Int) := asm_
      have q7 : (x5_1 : Int) < 14 := asm_
      have hx7 : wr.cell? ⟨gb158, (x5_1 : Int).toNat, none⟩ = some (.int .i8 (rd [a0_0, a0_1, a0_2, a0_3, a0_4, a0_5, a0_6, a0_7, a0_8, a0_9, a0_10, a0_11, a0_12, a0_13] x5_1)) := ard_cell (k := .i8) (l := [a0_0, a0_1, a0_2, a0_3, a0_4, a0_5, a0_6, a0_7, a0_8, a0_9, a0_10, a0_11, a0_12, a0_13]) BK158.out p7 q7
      have hf7 := blk_frozen BK158.out (x5_1 : Int).toNat
      have P7 := Aside0.mk p7
      have Q7 := Aside0.mk q7
      replace p7 := eq_true p7
      replace q7 := eq_true q7
      obtain ⟨hcz15_0, hcz15_1, hcz15_2, hcz15_3, hcz15_4, hcz15_5, hcz15_6, hcz15_7, hcz15_8, hcz15_9, hcz15_10, hcz15_11, hcz15_12, hcz15_13, hfz15_0, hfz15_1, hfz15_2, hfz15_3, hfz15_4, hfz15_5, hfz15_6, hfz15_7, hfz15_8, hfz15_9, hfz15_10, hfz15_11, hfz15_12, hfz15_13⟩ := cl14_ BK159
      have p8 : 0 ≤ (x5_1 : Int) := asm_
      have q8 : (x5_1 : Int) < 14 := asm_
      have hx8 : wr.cell? ⟨gb159, (x5_1 : Int).toNat, none⟩ = some (.int .i8 (rd [a1_0, a1_1, a1_2, a1_3, a1_4, a1_5, a1_6, a1_7, a1_8, a1_9, a1_10, a1_11, a1_12, a1_13] x5_1)) := ard_cell (k := .i8) (l := [a1_0, a1_1, a1_2, a1_3, a1_4, a1_5, a1_6, a1_7, a1_8, a1_9, a1_10, a1_11, a1_12, a1_13]) BK159.out p8 q8
      have hf8 := blk_frozen BK159.out (x5_1 : Int).toNat
      have P8 := Aside0.mk p8
      have Q8 := Aside0.mk q8
      replace p8 := eq_true p8
      replace q8 := eq_true q8
      go_wp2
      repeat (go_quiet (fail); try go_wp2)
      go_ret
      exact ⟨by first | rfl | (simp [errW_none, errW_some] <;> rfl) | (simp [*, errW_none, errW_some] <;> rfl), bl_ HB⟩
    ·rw [if_neg c6] at H
     exact absurd H (by simp)
   ·rw [if_neg c5] at H
    have c5b0 : decide (x5_1 < 14) = false := decide_eq_false c5
    clear c5
    obtain rfl := Option.some.inj H
    go_wp2
    repeat (go_quiet (fail); try go_wp2)
    go_ret
    exact ⟨by first | rfl | (simp [errW_none, errW_some] <;> rfl) | (simp [*, errW_none, errW_some] <;> rfl), bl_ HB⟩

/-! ### laws_eqCase: function 21 -/
def laws_eqCase.f (a0_0 : Int) (a0_1 : Bool) (a1_0 : Int) (a1_1 : Bool) : Option (Bool) := if a0_0 = a1_0 then (if (a0_1 != a1_1) = true then (some false) else (some true)) else (some false)
set_option maxHeartbeats 8000000 in
set_option maxRecDepth 100000 in
theorem laws_eqCase.calls (a0_0 : Int) (a0_1 : Bool) (a1_0 : Int) (a1_1 : Bool) (r : Bool) (w : World) (h : laws_eqCase.f a0_0 a0_1 a1_0 a1_1 = some r) :
  Calls Try.prog 21 #[.agg #[.int .i8 a0_0, .bool a0_1], .agg #[.int .i8 a1_0, .bool a1_1]] w fun e w' => e = .returned (.bool r) ∧ Below w.heap.size w w' := by
 have hu43 := Try.underlying43
 have HB := A_ (Below.refl w.heap.size w)
 have H : (if a0_0 = a1_0 then (if (a0_1 != a1_1) = true then (some false) else (some true)) else (some false)) = some r := h
 clear h
 by_cases c3 : a0_0 = a1_0
 ·rw [if_pos c3] at H
  have c3b0 : (a0_0 == a1_0) = true := beq_iff_eq.mpr c3
  have c3b1 : (a0_0 != a1_0) = false := bne_eq_false_iff_eq.mpr c3
  clear c3
  by_cases c4 : (a0_1 != a1_1) = true
  ·rw [if_pos c4] at H
   have c4b0 : (a0_1 != a1_1) = true := c4
   (try (have c4b1 : decide (a0_1 = a1_1) = false := by simpa using c4))
   (try (have c4b2 : (a0_1 == a1_1) = false := by simpa using c4))
   (try (have c4b3 : ¬ (a0_1 = a1_1) := by simpa using c4))
   clear c4
   obtain rfl := Option.some.inj H
   go_enter Try.func21, Try.ntmps21
   go_wp2_with (first | ((with_reducible refine gate_dst (N := 2) rfl ?_); refine box_event ?hg (N := 2) ?hd (cs := #[.int .i8 a0_0, .bool a0_1]) (t := 43) ?hr ?_; (case hd => rfl); (case hg => rfl); (case hr => first | (go_simp; done) | (go_simp; rfl)); intro gb160 hg w5 hbox hb; have n0_ := A_ (below_step (bl_ HB) hb); have n1_ := A_ (hbox); have n2_ := A_ ((by rw [hg]; exact (below_size (bl_ HB)) : w.heap.size ≤ gb160)); have n3_ := n2_; clear HB; have HB := n0_; have BK160 := n1_; have GW160 := n2_; have GE160 := n3_; clear n0_ n1_ n2_ n3_; clear hb hbox hg) | ((with_reducible refine gate_dst (N := 3) rfl ?_); refine box_event ?hg (N := 3) ?hd (cs := #[.int .i8 a1_0, .bool a1_1]) (t := 43) ?hr ?_; (case hd => rfl); (case hg => rfl); (case hr => first | (go_simp; done) | (go_simp; rfl)); intro gb161 hg w6 hbox hb; have n0_ := A_ (blk_below (pl_ BK160) hb); have n1_ := A_ (below_step (bl_ HB) hb); have n2_ := A_ (hbox); have n3_ := A_ ((by rw [hg]; exact (below_size (bl_ HB)) : w.heap.size ≤ gb161)); have n4_ := n3_; have n5_ := A_ ((by rw [hg]; exact Nat.ne_of_lt (blk_lt (pl_ BK160)) : gb160 ≠ gb161)); have n6_ := Aside0.mk n5_.out.symm; clear BK160; clear HB; have BK160 := n0_; have HB := n1_; have BK161 := n2_; have GW161 := n3_; have GE161 := n4_; have NB160_161 := n5_; have NB161_160 := n6_; clear n0_ n1_ n2_ n3_ n4_ n5_ n6_; clear hb hbox hg; have hnb7 := NB160_161.out; have hnc7 := NB161_160.out; obtain ⟨hcz8_0, hcz8_1, hfz8_0, hfz8_1⟩ := cl2_ BK160; obtain ⟨hcz9_0, hcz9_1, hfz9_0, hfz9_1⟩ := cl2_ BK161))
   go_ret
   exact ⟨by first | rfl | (simp [errW_none, errW_some] <;> rfl) | (simp [*, errW_none, errW_some] <;> rfl), bl_ HB⟩
  ·rw [if_neg c4] at H
   have c4b0 : (a0_1 != a1_1) = false := by simpa using c4
   (try (have c4b1 : decide (a0_1 = a1_1) = true := by simpa using c4))
   (try (have c4b2 : (a0_1 == a1_1) = true := by simpa using c4))
   clear c4
   obtain rfl := Option.some.inj H
   go_enter Try.func21, Try.ntmps21
   go_wp2_with (first | ((with_reducible refine gate_dst (N := 2) rfl ?_); refine box_event ?hg (N := 2) ?hd (cs := #[.int .i8 a0_0, .bool a0_1]) (t := 43) ?hr ?_; (case hd => rfl); (case hg => rfl); (case hr => first | (go_simp; done) | (go_simp; rfl)); intro gb160 hg w10 hbox hb; have n0_ := A_ (below_step (bl_ HB) hb); have n1_ := A_ (hbox); have n2_ := A_ ((by rw [hg]; exact (below_size (bl_ HB)) : w.heap.size ≤ gb160)); have n3_ := n2_; clear HB; have HB := n0_; have BK160 := n1_; have GW160 := n2_; have GE160 := n3_; clear n0_ n1_ n2_ n3_; clear hb hbox hg) | ((with_reducible refine gate_dst (N := 3) rfl ?_); refine box_event ?hg (N := 3) ?hd (cs := #[.int .i8 a1_0, .bool a1_1]) (t := 43) ?hr ?_; (case hd => rfl); (case hg => rfl); (case hr => first | (go_simp; done) | (go_simp; rfl)); intro gb161 hg w11 hbox hb; have n0_ := A_ (blk_below (pl_ BK160) hb); have n1_ := A_ (below_step (bl_ HB) hb); have n2_ := A_ (hbox); have n3_ := A_ ((by rw [hg]; exact (below_size (bl_ HB)) : w.heap.size ≤ gb161)); have n4_ := n3_; have n5_ := A_ ((by rw [hg]; exact Nat.ne_of_lt (blk_lt (pl_ BK160)) : gb160 ≠ gb161)); have n6_ := Aside0.mk n5_.out.symm; clear BK160; clear HB; have BK160 := n0_; have HB := n1_; have BK161 := n2_; have GW161 := n3_; have GE161 := n4_; have NB160_161 := n5_; have NB161_160 := n6_; clear n0_ n1_ n2_ n3_ n4_ n5_ n6_; clear hb hbox hg; have hnb12 := NB160_161.out; have hnc12 := NB161_160.out; obtain ⟨hcz13_0, hcz13_1, hfz13_0, hfz13_1⟩ := cl2_ BK160; obtain ⟨hcz14_0, hcz14_1, hfz14_0, hfz14_1⟩ := cl2_ BK161))
   go_ret
   exact ⟨by first | rfl | (simp [errW_none, errW_some] <;> rfl) | (simp [*, errW_none, errW_some] <;> rfl), bl_ HB⟩
 ·rw [if_neg c3] at H
  have c3b0 : (a0_0 == a1_0) = false := beq_eq_false_iff_ne.mpr c3
  have c3b1 : (a0_0 != a1_0) = true := bne_iff_ne.mpr c3
  obtain rfl := Option.some.inj H
  go_enter Try.func21, Try.ntmps21
  go_wp2_with (first | ((with_reducible refine gate_dst (N := 2) rfl ?_); refine box_event ?hg (N := 2) ?hd (cs := #[.int .i8 a0_0, .bool a0_1]) (t := 43) ?hr ?_; (case hd => rfl); (case hg => rfl); (case hr => first | (go_simp; done) | (go_simp; rfl)); intro gb160 hg w15 hbox hb; have n0_ := A_ (below_step (bl_ HB) hb); have n1_ := A_ (hbox); have n2_ := A_ ((by rw [hg]; exact (below_size (bl_ HB)) : w.heap.size ≤ gb160)); have n3_ := n2_; clear HB; have HB := n0_; have BK160 := n1_; have GW160 := n2_; have GE160 := n3_; clear n0_ n1_ n2_ n3_; clear hb hbox hg) | ((with_reducible refine gate_dst (N := 3) rfl ?_); refine box_event ?hg (N := 3) ?hd (cs := #[.int .i8 a1_0, .bool a1_1]) (t := 43) ?hr ?_; (case hd => rfl); (case hg => rfl); (case hr => first | (go_simp; done) | (go_simp; rfl)); intro gb161 hg w16 hbox hb; have n0_ := A_ (blk_below (pl_ BK160) hb); have n1_ := A_ (below_step (bl_ HB) hb); have n2_ := A_ (hbox); have n3_ := A_ ((by rw [hg]; exact (below_size (bl_ HB)) : w.heap.size ≤ gb161)); have n4_ := n3_; have n5_ := A_ ((by rw [hg]; exact Nat.ne_of_lt (blk_lt (pl_ BK160)) : gb160 ≠ gb161)); have n6_ := Aside0.mk n5_.out.symm; clear BK160; clear HB; have BK160 := n0_; have HB := n1_; have BK161 := n2_; have GW161 := n3_; have GE161 := n4_; have NB160_161 := n5_; have NB161_160 := n6_; clear n0_ n1_ n2_ n3_ n4_ n5_ n6_; clear hb hbox hg; have hnb17 := NB160_161.out; have hnc17 := NB161_160.out; obtain ⟨hcz18_0, hcz18_1, hfz18_0, hfz18_1⟩ := cl2_ BK160; obtain ⟨hcz19_0, hcz19_1, hfz19_0, hfz19_1⟩ := cl2_ BK161))
  go_ret
  exact ⟨by first | rfl | (simp [errW_none, errW_some] <;> rfl) | (simp [*, errW_none, errW_some] <;> rfl), bl_ HB⟩

end Go.Proofs.Ytcghglembmohcaa.M
