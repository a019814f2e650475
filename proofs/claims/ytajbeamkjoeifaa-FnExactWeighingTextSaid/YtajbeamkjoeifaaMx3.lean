-- By this seat's own program over the kit's printer (arrays, functions told by hand); nothing of it is trusted: the kernel checks it.
import Derived.Test.YtajbeamkjoeifaaMx0
import Derived.Test.YtajbeamkjoeifaaMx2
namespace Go.Proofs.Ytajbeamkjoeifaa.M
open Go.RowKit Go.Proofs.YtajbeamkjoeifaaW.PrintWords Go.Proofs.YtajbeamkjoeifaaW.PrintLast Go.Proofs.YtajbeamkjoeifaaW.PrintMore
attribute [local go_sem] max2_int min2_int max_two min_two max_three min_three max_four min_four   -- for this text's walks alone
set_option linter.unusedVariables false
set_option linter.unusedSimpArgs false

/-! ### spec_l03Weighing: function 50 -/
def spec_l03Weighing.l0 : Nat → Int → Int → Int → Int → Bool → Bool → Int → Int → Int → Int → Int → Int → Int → Int → Int → Int → Int → Int → Int → Int → Option (Bool)
 | 0, _, _, _, _, _, _, _, _, _, _, _, _, _, _, _, _, _, _, _, _ => none
 | k + 1, x5, x6, x112000, x112001, x112002, x112003, x113000, x113001, x113002, x113003, x113004, x113005, x113006, x113007, x113008, x113009, x113010, x113011, x113012, x113013 => if x6 < 14 then (if 0 ≤ x6 then (if (rd [x113000, x113001, x113002, x113003, x113004, x113005, x113006, x113007, x113008, x113009, x113010, x113011, x113012, x113013] x6) < (-1) then (some false) else (if (rd [x113000, x113001, x113002, x113003, x113004, x113005, x113006, x113007, x113008, x113009, x113010, x113011, x113012, x113013] x6) > 1 then (some false) else (if (rd [x113000, x113001, x113002, x113003, x113004, x113005, x113006, x113007, x113008, x113009, x113010, x113011, x113012, x113013] x6) = 0 then (spec_l03Weighing.l0 k (wrap64 (x5 + (wrap64 (rd [x113000, x113001, x113002, x113003, x113004, x113005, x113006, x113007, x113008, x113009, x113010, x113011, x113012, x113013] x6)))) (wrap64 (x6 + 1)) x112000 x112001 x112002 x112003 x113000 x113001 x113002 x113003 x113004 x113005 x113006 x113007 x113008 x113009 x113010 x113011 x113012 x113013) else ((spec_l03There.f x112000 x112001 x112002 x112003 x6).bind fun t113 => (if t113 = true then (spec_l03Weighing.l0 k (wrap64 (x5 + (wrap64 (rd [x113000, x113001, x113002, x113003, x113004, x113005, x113006, x113007, x113008, x113009, x113010, x113011, x113012, x113013] x6)))) (wrap64 (x6 + 1)) x112000 x112001 x112002 x112003 x113000 x113001 x113002 x113003 x113004 x113005 x113006 x113007 x113008 x113009 x113010 x113011 x113012 x113013) else (some false)))))) else (none)) else (some (x5 == 0))
def spec_l03Weighing.f (k : Nat) (a0_0 : Int) (a0_1 : Int) (a0_2 : Bool) (a0_3 : Bool) (a1_0 : Int) (a1_1 : Int) (a1_2 : Int) (a1_3 : Int) (a1_4 : Int) (a1_5 : Int) (a1_6 : Int) (a1_7 : Int) (a1_8 : Int) (a1_9 : Int) (a1_10 : Int) (a1_11 : Int) (a1_12 : Int) (a1_13 : Int) : Option (Bool) := spec_l03Weighing.l0 k 0 0 a0_0 a0_1 a0_2 a0_3 a1_0 a1_1 a1_2 a1_3 a1_4 a1_5 a1_6 a1_7 a1_8 a1_9 a1_10 a1_11 a1_12 a1_13
theorem spec_l03Weighing.mono_l : ∀ k, (∀ y0 y1 y2 y3 y4 y5 y6 y7 y8 y9 y10 y11 y12 y13 y14 y15 y16 y17 y18 y19, LeO (spec_l03Weighing.l0 k y0 y1 y2 y3 y4 y5 y6 y7 y8 y9 y10 y11 y12 y13 y14 y15 y16 y17 y18 y19) (spec_l03Weighing.l0 (k + 1) y0 y1 y2 y3 y4 y5 y6 y7 y8 y9 y10 y11 y12 y13 y14 y15 y16 y17 y18 y19))
 | 0 => fun _ _ _ _ _ _ _ _ _ _ _ _ _ _ _ _ _ _ _ _ r h => by simp [spec_l03Weighing.l0] at h
 | k + 1 => by
  have ih0 := spec_l03Weighing.mono_l k
  ·intro y0 y1 y2 y3 y4 y5 y6 y7 y8 y9 y10 y11 y12 y13 y14 y15 y16 y17 y18 y19
   unfold spec_l03Weighing.l0
   repeat' first
   | (with_reducible exact ih0 _ _ _ _ _ _ _ _ _ _ _ _ _ _ _ _ _ _ _ _)
   | (with_reducible exact LeO.refl _)
   | (with_reducible exact LeO.none _)
   | (with_reducible refine LeO.ite ?_ ?_)
   | (with_reducible refine LeO.bind ?_ (fun _ => ?_))
   | exact ih0 _ _ _ _ _ _ _ _ _ _ _ _ _ _ _ _ _ _ _ _
   | exact LeO.none _
   | refine LeO.ite ?_ ?_
   | refine LeO.bind ?_ (fun _ => ?_)
theorem spec_l03Weighing.mono : ∀ a0 a1 a2 a3 a4 a5 a6 a7 a8 a9 a10 a11 a12 a13 a14 a15 a16 a17 k, LeO (spec_l03Weighing.f k a0 a1 a2 a3 a4 a5 a6 a7 a8 a9 a10 a11 a12 a13 a14 a15 a16 a17) (spec_l03Weighing.f (k + 1) a0 a1 a2 a3 a4 a5 a6 a7 a8 a9 a10 a11 a12 a13 a14 a15 a16 a17) := by
 intro a0 a1 a2 a3 a4 a5 a6 a7 a8 a9 a10 a11 a12 a13 a14 a15 a16 a17 k
 have ih0 := spec_l03Weighing.mono_l k
 unfold spec_l03Weighing.f
 repeat' first
   | (with_reducible exact ih0 _ _ _ _ _ _ _ _ _ _ _ _ _ _ _ _ _ _ _ _)
   | (with_reducible exact LeO.refl _)
   | (with_reducible exact LeO.none _)
   | (with_reducible refine LeO.ite ?_ ?_)
   | (with_reducible refine LeO.bind ?_ (fun _ => ?_))
   | exact ih0 _ _ _ _ _ _ _ _ _ _ _ _ _ _ _ _ _ _ _ _
   | exact LeO.none _
   | refine LeO.ite ?_ ?_
   | refine LeO.bind ?_ (fun _ => ?_)
set_option maxHeartbeats 8000000 in
set_option maxRecDepth 100000 in
theorem spec_l03Weighing.calls (k : Nat) (a0_0 : Int) (a0_1 : Int) (a0_2 : Bool) (a0_3 : Bool) (a1_0 : Int) (a1_1 : Int) (a1_2 : Int) (a1_3 : Int) (a1_4 : Int) (a1_5 : Int) (a1_6 : Int) (a1_7 : Int) (a1_8 : Int) (a1_9 : Int) (a1_10 : Int) (a1_11 : Int) (a1_12 : Int) (a1_13 : Int) (r : Bool) (w : World) (h : spec_l03Weighing.f k a0_0 a0_1 a0_2 a0_3 a1_0 a1_1 a1_2 a1_3 a1_4 a1_5 a1_6 a1_7 a1_8 a1_9 a1_10 a1_11 a1_12 a1_13 = some r) :
  Calls Try.prog 50 #[.agg #[.int .i8 a0_0, .int .i8 a0_1, .bool a0_2, .bool a0_3], .agg #[.int .i8 a1_0, .int .i8 a1_1, .int .i8 a1_2, .int .i8 a1_3, .int .i8 a1_4, .int .i8 a1_5, .int .i8 a1_6, .int .i8 a1_7, .int .i8 a1_8, .int .i8 a1_9, .int .i8 a1_10, .int .i8 a1_11, .int .i8 a1_12, .int .i8 a1_13]] w fun e w' => e = .returned (.bool r) ∧ Below w.heap.size w w' := by
 have hu26 := Try.underlying26
 have hu31 := Try.underlying31
 have HB := A_ (Below.refl w.heap.size w)
 have H : (spec_l03Weighing.l0 k 0 0 a0_0 a0_1 a0_2 a0_3 a1_0 a1_1 a1_2 a1_3 a1_4 a1_5 a1_6 a1_7 a1_8 a1_9 a1_10 a1_11 a1_12 a1_13) = some r := h
 clear h
 have H' := Aside0.mk H
 clear H
 go_enter Try.func50, Try.ntmps50
 go_wp2_with (first | ((with_reducible refine gate_dst (N := 2) rfl ?_); refine box_event ?hg (N := 2) ?hd (cs := #[.int .i8 a0_0, .int .i8 a0_1, .bool a0_2, .bool a0_3]) (t := 26) ?hr ?_; (case hd => rfl); (case hg => rfl); (case hr => first | (go_simp; done) | (go_simp; rfl)); intro gb111 hg w3 hbox hb; have n0_ := A_ (below_step (bl_ HB) hb); have n1_ := A_ (hbox); have n2_ := A_ ((by rw [hg]; exact (below_size (bl_ HB)) : w.heap.size ≤ gb111)); have n3_ := n2_; clear HB; have HB := n0_; have BK111 := n1_; have GW111 := n2_; have GE111 := n3_; clear n0_ n1_ n2_ n3_; clear hb hbox hg) | ((with_reducible refine gate_dst (N := 3) rfl ?_); refine box_event ?hg (N := 3) ?hd (cs := #[.int .i8 a1_0, .int .i8 a1_1, .int .i8 a1_2, .int .i8 a1_3, .int .i8 a1_4, .int .i8 a1_5, .int .i8 a1_6, .int .i8 a1_7, .int .i8 a1_8, .int .i8 a1_9, .int .i8 a1_10, .int .i8 a1_11, .int .i8 a1_12, .int .i8 a1_13]) (t := 31) ?hr ?_; (case hd => rfl); (case hg => rfl); (case hr => first | (go_simp; done) | (go_simp; rfl)); intro gb112 hg w4 hbox hb; have n0_ := A_ (blk_below (pl_ BK111) hb); have n1_ := A_ (below_step (bl_ HB) hb); have n2_ := A_ (hbox); have n3_ := A_ ((by rw [hg]; exact (below_size (bl_ HB)) : w.heap.size ≤ gb112)); have n4_ := n3_; have n5_ := A_ ((by rw [hg]; exact Nat.ne_of_lt (blk_lt (pl_ BK111)) : gb111 ≠ gb112)); have n6_ := Aside0.mk n5_.out.symm; clear BK111; clear HB; have BK111 := n0_; have HB := n1_; have BK112 := n2_; have GW112 := n3_; have GE112 := n4_; have NB111_112 := n5_; have NB112_111 := n6_; clear n0_ n1_ n2_ n3_ n4_ n5_ n6_; clear hb hbox hg))
 go_loopg [5, 6] k (fun kq v5 v6 w' => ∃ (x5_1 : Int) (x6_1 : Int), v5 = .int .i64 x5_1 ∧ v6 = .int .i64 x6_1 ∧ Aside0 (spec_l03Weighing.l0 kq x5_1 x6_1 a0_0 a0_1 a0_2 a0_3 a1_0 a1_1 a1_2 a1_3 a1_4 a1_5 a1_6 a1_7 a1_8 a1_9 a1_10 a1_11 a1_12 a1_13 = some r) ∧ Aside0 (kq ≤ k) ∧ Aside0 (w'.heap[gb111]? = some (.cells #[.int .i8 a0_0, .int .i8 a0_1, .bool a0_2, .bool a0_3] 26 (0, 0))) ∧ Aside0 (w'.heap[gb112]? = some (.cells #[.int .i8 a1_0, .int .i8 a1_1, .int .i8 a1_2, .int .i8 a1_3, .int .i8 a1_4, .int .i8 a1_5, .int .i8 a1_6, .int .i8 a1_7, .int .i8 a1_8, .int .i8 a1_9, .int .i8 a1_10, .int .i8 a1_11, .int .i8 a1_12, .int .i8 a1_13] 31 (0, 0))) ∧ Aside0 (Below w.heap.size w w'))
 case atStart => exact ⟨(0), (0), rs_, rs_, H', ⟨Nat.le_refl _⟩, ⟨pl_ BK111⟩, ⟨pl_ BK112⟩, ⟨bl_ HB⟩⟩
 case round =>
  clear H'
  try clear p2
  obtain ⟨x5_1, x6_1, rfl, rfl, HA, HK1, BK111, BK112, HB⟩ := hrel
  cases gk with
  | zero => exact absurd HA.out (by simp [spec_l03Weighing.l0])
  | succ k1 =>
   have H := HA.out
   clear HA
   simp only [spec_l03Weighing.l0] at H
   by_cases c5 : x6_1 < 14
   ·rw [if_pos c5] at H
    have c5b0 : decide (x6_1 < 14) = true := decide_eq_true c5
    clear c5
    by_cases c6 : 0 ≤ x6_1
    ·rw [if_pos c6] at H
     have c6b0 : decide (0 ≤ x6_1) = true := decide_eq_true c6
     clear c6
     by_cases c8 : (rd [a1_0, a1_1, a1_2, a1_3, a1_4, a1_5, a1_6, a1_7, a1_8, a1_9, a1_10, a1_11, a1_12, a1_13] x6_1) < (-1)
     ·rw [if_pos c8] at H
      have c8b0 : decide ((rd [a1_0, a1_1, a1_2, a1_3, a1_4, a1_5, a1_6, a1_7, a1_8, a1_9, a1_10, a1_11, a1_12, a1_13] x6_1) < (-1)) = true := decide_eq_true c8
      clear c8
      obtain rfl := Option.some.inj H
      have hnb9 := NB112_111.out
      have hnc9 := NB111_112.out
      have hcz10_0 : wr.cell? ⟨gb112, 0, none⟩ = some (.int .i8 a1_0) := (blk_cell BK112.out 0).trans rfl
      have hcz10_1 : wr.cell? ⟨gb112, 1, none⟩ = some (.int .i8 a1_1) := (blk_cell BK112.out 1).trans rfl
      have hcz10_2 : wr.cell? ⟨gb112, 2, none⟩ = some (.int .i8 a1_2) := (blk_cell BK112.out 2).trans rfl
      have hcz10_3 : wr.cell? ⟨gb112, 3, none⟩ = some (.int .i8 a1_3) := (blk_cell BK112.out 3).trans rfl
      have hcz10_4 : wr.cell? ⟨gb112, 4, none⟩ = some (.int .i8 a1_4) := (blk_cell BK112.out 4).trans rfl
      have hcz10_5 : wr.cell? ⟨gb112, 5, none⟩ = some (.int .i8 a1_5) := (blk_cell BK112.out 5).trans rfl
      have hcz10_6 : wr.cell? ⟨gb112, 6, none⟩ = some (.int .i8 a1_6) := (blk_cell BK112.out 6).trans rfl
      have hcz10_7 : wr.cell? ⟨gb112, 7, none⟩ = some (.int .i8 a1_7) := (blk_cell BK112.out 7).trans rfl
      have hcz10_8 : wr.cell? ⟨gb112, 8, none⟩ = some (.int .i8 a1_8) := (blk_cell BK112.out 8).trans rfl
      have hcz10_9 : wr.cell? ⟨gb112, 9, none⟩ = some (.int .i8 a1_9) := (blk_cell BK112.out 9).trans rfl
      have hcz10_10 : wr.cell? ⟨gb112, 10, none⟩ = some (.int .i8 a1_10) := (blk_cell BK112.out 10).trans rfl
      have hcz10_11 : wr.cell? ⟨gb112, 11, none⟩ = some (.int .i8 a1_11) := (blk_cell BK112.out 11).trans rfl
      have hcz10_12 : wr.cell? ⟨gb112, 12, none⟩ = some (.int .i8 a1_12) := (blk_cell BK112.out 12).trans rfl
      have hcz10_13 : wr.cell? ⟨gb112, 13, none⟩ = some (.int .i8 a1_13) := (blk_cell BK112.out 13).trans rfl
      have hfz10_0 := blk_frozen BK112.out 0
      have hfz10_1 := blk_frozen BK112.out 1
      have hfz10_2 := blk_frozen BK112.out 2
      have hfz10_3 := blk_frozen BK112.out 3
      have hfz10_4 := blk_frozen BK112.out 4
      have hfz10_5 := blk_frozen BK112.out 5
      have hfz10_6 := blk_frozen BK112.out 6
      have hfz10_7 := blk_frozen BK112.out 7
      have hfz10_8 := blk_frozen BK112.out 8
      have hfz10_9 := blk_frozen BK112.out 9
      have hfz10_10 := blk_frozen BK112.out 10
      have hfz10_11 := blk_frozen BK112.out 11
      have hfz10_12 := blk_frozen BK112.out 12
      have hfz10_13 := blk_frozen BK112.out 13
      have p7 : 0 ≤ (x6_1 : Int) := asm_
      have q7 : (x6_1 : Int) < 14 := asm_
      have hx7 : wr.cell? ⟨gb112, (x6_1 : Int).toNat, none⟩ = some (.int .i8 (rd [a1_0, a1_1, a1_2, a1_3, a1_4, a1_5, a1_6, a1_7, a1_8, a1_9, a1_10, a1_11, a1_12, a1_13] x6_1)) := ard_cell (k := .i8) (l := [a1_0, a1_1, a1_2, a1_3, a1_4, a1_5, a1_6, a1_7, a1_8, a1_9, a1_10, a1_11, a1_12, a1_13]) BK112.out p7 q7
      have hf7 := blk_frozen BK112.out (x6_1 : Int).toNat
      have P7 := Aside0.mk p7
      have Q7 := Aside0.mk q7
      replace p7 := eq_true p7
      replace q7 := eq_true q7
      go_wp2
      go_ret
      exact ⟨by first | rfl | (simp [errW_none, errW_some] <;> rfl) | (simp [*, errW_none, errW_some] <;> rfl), bl_ HB⟩
     ·rw [if_neg c8] at H
      have c8b0 : decide ((rd [a1_0, a1_1, a1_2, a1_3, a1_4, a1_5, a1_6, a1_7, a1_8, a1_9, a1_10, a1_11, a1_12, a1_13] x6_1) < (-1)) = false := decide_eq_false c8
      clear c8
      by_cases c12 : (rd [a1_0, a1_1, a1_2, a1_3, a1_4, a1_5, a1_6, a1_7, a1_8, a1_9, a1_10, a1_11, a1_12, a1_13] x6_1) > 1
      ·rw [if_pos c12] at H
       have c12b0 : decide (1 < (rd [a1_0, a1_1, a1_2, a1_3, a1_4, a1_5, a1_6, a1_7, a1_8, a1_9, a1_10, a1_11, a1_12, a1_13] x6_1)) = true := decide_eq_true c12
       clear c12
       obtain rfl := Option.some.inj H
       have hnb13 := NB112_111.out
       have hnc13 := NB111_112.out
       have hcz14_0 : wr.cell? ⟨gb112, 0, none⟩ = some (.int .i8 a1_0) := (blk_cell BK112.out 0).trans rfl
       have hcz14_1 : wr.cell? ⟨gb112, 1, none⟩ = some (.int .i8 a1_1) := (blk_cell BK112.out 1).trans rfl
       have hcz14_2 : wr.cell? ⟨gb112, 2, none⟩ = some (.int .i8 a1_2) := (blk_cell BK112.out 2).trans rfl
       have hcz14_3 : wr.cell? ⟨gb112, 3, none⟩ = some (.int .i8 a1_3) := (blk_cell BK112.out 3).trans rfl
       have hcz14_4 : wr.cell? ⟨gb112, 4, none⟩ = some (.int .i8 a1_4) := (blk_cell BK112.out 4).trans rfl
       have hcz14_5 : wr.cell? ⟨gb112, 5, none⟩ = some (.int .i8 a1_5) := (blk_cell BK112.out 5).trans rfl
       have hcz14_6 : wr.cell? ⟨gb112, 6, none⟩ = some (.int .i8 a1_6) := (blk_cell BK112.out 6).trans rfl
       have hcz14_7 : wr.cell? ⟨gb112, 7, none⟩ = some (.int .i8 a1_7) := (blk_cell BK112.out 7).trans rfl
       have hcz14_8 : wr.cell? ⟨gb112, 8, none⟩ = some (.int .i8 a1_8) := (blk_cell BK112.out 8).trans rfl
       have hcz14_9 : wr.cell? ⟨gb112, 9, none⟩ = some (.int .i8 a1_9) := (blk_cell BK112.out 9).trans rfl
       have hcz14_10 : wr.cell? ⟨gb112, 10, none⟩ = some (.int .i8 a1_10) := (blk_cell BK112.out 10).trans rfl
       have hcz14_11 : wr.cell? ⟨gb112, 11, none⟩ = some (.int .i8 a1_11) := (blk_cell BK112.out 11).trans rfl
       have hcz14_12 : wr.cell? ⟨gb112, 12, none⟩ = some (.int .i8 a1_12) := (blk_cell BK112.out 12).trans rfl
       have hcz14_13 : wr.cell? ⟨gb112, 13, none⟩ = some (.int .i8 a1_13) := (blk_cell BK112.out 13).trans rfl
       have hfz14_0 := blk_frozen BK112.out 0
       have hfz14_1 := blk_frozen BK112.out 1
       have hfz14_2 := blk_frozen BK112.out 2
       have hfz14_3 := blk_frozen BK112.out 3
       have hfz14_4 := blk_frozen BK112.out 4
       have hfz14_5 := blk_frozen BK112.out 5
       have hfz14_6 := blk_frozen BK112.out 6
       have hfz14_7 := blk_frozen BK112.out 7
       have hfz14_8 := blk_frozen BK112.out 8
       have hfz14_9 := blk_frozen BK112.out 9
       have hfz14_10 := blk_frozen BK112.out 10
       have hfz14_11 := blk_frozen BK112.out 11
       have hfz14_12 := blk_frozen BK112.out 12
       have hfz14_13 := blk_frozen BK112.out 13
       have p7 : 0 ≤ (x6_1 : Int) := asm_
       have q7 : (x6_1 : Int) < 14 := asm_
       have hx7 : wr.cell? ⟨gb112, (x6_1 : Int).toNat, none⟩ = some (.int .i8 (rd [a1_0, a1_1, a1_2, a1_3, a1_4, a1_5, a1_6, a1_7, a1_8, a1_9, a1_10, a1_11, a1_12, a1_13] x6_1)) := ard_cell (k := .i8) (l := [a1_0, a1_1, a1_2, a1_3, a1_4, a1_5, a1_6, a1_7, a1_8, a1_9, a1_10, a1_11, a1_12, a1_13]) BK112.out p7 q7
       have hf7 := blk_frozen BK112.out (x6_1 : Int).toNat
       have P7 := Aside0.mk p7
       have Q7 := Aside0.mk q7
       replace p7 := eq_true p7
       replace q7 := eq_true q7
       have p11 : 0 ≤ (x6_1 : Int) := asm_
       have q11 : (x6_1 : Int) < 14 := asm_
       have hx11 : wr.cell? ⟨gb112, (x6_1 : Int).toNat, none⟩ = some (.int .i8 (rd [a1_0, a1_1, a1_2, a1_3, a1_4, a1_5, a1_6, a1_7, a1_8, a1_9, a1_10, a1_11, a1_12, a1_13] x6_1)) := ard_cell (k := .i8) (l := [a1_0, a1_1, a1_2, a1_3, a1_4, a1_5, a1_6, a1_7, a1_8, a1_9, a1_10, a1_11, a1_12, a1_13]) BK112.out p11 q11
       have hf11 := blk_frozen BK112.out (x6_1 : Int).toNat
       have P11 := Aside0.mk p11
       have Q11 := Aside0.mk q11
       replace p11 := eq_true p11
       replace q11 := eq_true q11
       go_wp2
       go_ret
       exact ⟨by first | rfl | (simp [errW_none, errW_some] <;> rfl) | (simp [*, errW_none, errW_some] <;> rfl), bl_ HB⟩
      ·rw [if_neg c12] at H
       have c12b0 : decide (1 < (rd [a1_0, a1_1, a1_2, a1_3, a1_4, a1_5, a1_6, a1_7, a1_8, a1_9, a1_10, a1_11, a1_12, a1_13] x6_1)) = false := decide_eq_false c12
       clear c12
       by_cases c16 : (rd [a1_0, a1_1, a1_2, a1_3, a1_4, a1_5, a1_6, a1_7, a1_8, a1_9, a1_10, a1_11, a1_12, a1_13] x6_1) = 0
       ·rw [if_pos c16] at H
        have c16b0 : ((rd [a1_0, a1_1, a1_2, a1_3, a1_4, a1_5, a1_6, a1_7, a1_8, a1_9, a1_10, a1_11, a1_12, a1_13] x6_1) == 0) = true := beq_iff_eq.mpr c16
        have c16b1 : ((rd [a1_0, a1_1, a1_2, a1_3, a1_4, a1_5, a1_6, a1_7, a1_8, a1_9, a1_10, a1_11, a1_12, a1_13] x6_1) != 0) = false := bne_eq_false_iff_eq.mpr c16
        clear c16
        have H' := Aside0.mk H
        clear H
        have hnb18 := NB112_111.out
        have hnc18 := NB111_112.out
        have hcz19_0 : wr.cell? ⟨gb112, 0, none⟩ = some (.int .i8 a1_0) := (blk_cell BK112.out 0).trans rfl
        have hcz19_1 : wr.cell? ⟨gb112, 1, none⟩ = some (.int .i8 a1_1) := (blk_cell BK112.out 1).trans rfl
        have hcz19_2 : wr.cell? ⟨gb112, 2, none⟩ = some (.int .i8 a1_2) := (blk_cell BK112.out 2).trans rfl
        have hcz19_3 : wr.cell? ⟨gb112, 3, none⟩ = some (.int .i8 a1_3) := (blk_cell BK112.out 3).trans rfl
        have hcz19_4 : wr.cell? ⟨gb112, 4, none⟩ = some (.int .i8 a1_4) := (blk_cell BK112.out 4).trans rfl
        have hcz19_5 : wr.cell? ⟨gb112, 5, none⟩ = some (.int .i8 a1_5) := (blk_cell BK112.out 5).trans rfl
        have hcz19_6 : wr.cell? ⟨gb112, 6, none⟩ = some (.int .i8 a1_6) := (blk_cell BK112.out 6).trans rfl
        have hcz19_7 : wr.cell? ⟨gb112, 7, none⟩ = some (.int .i8 a1_7) := (blk_cell BK112.out 7).trans rfl
        have hcz19_8 : wr.cell? ⟨gb112, 8, none⟩ = some (.int .i8 a1_8) := (blk_cell BK112.out 8).trans rfl
        have hcz19_9 : wr.cell? ⟨gb112, 9, none⟩ = some (.int .i8 a1_9) := (blk_cell BK112.out 9).trans rfl
        have hcz19_10 : wr.cell? ⟨gb112, 10, none⟩ = some (.int .i8 a1_10) := (blk_cell BK112.out 10).trans rfl
        have hcz19_11 : wr.cell? ⟨gb112, 11, none⟩ = some (.int .i8 a1_11) := (blk_cell BK112.out 11).trans rfl
        have hcz19_12 : wr.cell? ⟨gb112, 12, none⟩ = some (.int .i8 a1_12) := (blk_cell BK112.out 12).trans rfl
        have hcz19_13 : wr.cell? ⟨gb112, 13, none⟩ = some (.int .i8 a1_13) := (blk_cell BK112.out 13).trans rfl
        have hfz19_0 := blk_frozen BK112.out 0
        have hfz19_1 := blk_frozen BK112.out 1
        have hfz19_2 := blk_frozen BK112.out 2
        have hfz19_3 := blk_frozen BK112.out 3
        have hfz19_4 := blk_frozen BK112.out 4
        have hfz19_5 := blk_frozen BK112.out 5
        have hfz19_6 := blk_frozen BK112.out 6
        have hfz19_7 := blk_frozen BK112.out 7
        have hfz19_8 := blk_frozen BK112.out 8
        have hfz19_9 := blk_frozen BK112.out 9
        have hfz19_10 := blk_frozen BK112.out 10
        have hfz19_11 := blk_frozen BK112.out 11
        have hfz19_12 := blk_frozen BK112.out 12
        have hfz19_13 := blk_frozen BK112.out 13
        have p7 : 0 ≤ (x6_1 : Int) := asm_
        have q7 : (x6_1 : Int) < 14 := asm_
        have hx7 : wr.cell? ⟨gb112, (x6_1 : Int).toNat, none⟩ = some (.int .i8 (rd [a1_0, a1_1, a1_2, a1_3, a1_4, a1_5, a1_6, a1_7, a1_8, a1_9, a1_10, a1_11, a1_12, a1_13] x6_1)) := ard_cell (k := .i8) (l := [a1_0, a1_1, a1_2, a1_3, a1_4, a1_5, a1_6, a1_7, a1_8, a1_9, a1_10, a1_11, a1_12, a1_13]) BK112.out p7 q7
        have hf7 := blk_frozen BK112.out (x6_1 : Int).toNat
        have P7 := Aside0.mk p7
        have Q7 := Aside0.mk q7
        replace p7 := eq_true p7
        replace q7 := eq_true q7
        have p11 : 0 ≤ (x6_1 : Int) := asm_
        have q11 : (x6_1 : Int) < 14 := asm_
        have hx11 : wr.cell? ⟨gb112, (x6_1 : Int).toNat, none⟩ = some (.int .i8 (rd [a1_0, a1_1, a1_2, a1_3, a1_4, a1_5, a1_6, a1_7, a1_8, a1_9, a1_10, a1_11, a1_12, a1_13] x6_1)) := ard_cell (k := .i8) (l := [a1_0, a1_1, a1_2, a1_3, a1_4, a1_5, a1_6, a1_7, a1_8, a1_9, a1_10, a1_11, a1_12, a1_13]) BK112.out p11 q11
        have hf11 := blk_frozen BK112.out (x6_1 : Int).toNat
        have P11 := Aside0.mk p11
        have Q11 := Aside0.mk q11
        replace p11 := eq_true p11
        replace q11 := eq_true q11
        have p15 : 0 ≤ (x6_1 : Int) := asm_
        have q15 : (x6_1 : Int) < 14 := asm_
        have hx15 : wr.cell? ⟨gb112, (x6_1 : Int).toNat, none⟩ = some (.int .i8 (rd [a1_0, a1_1, a1_2, a1_3, a1_4, a1_5, a1_6, a1_7, a1_8, a1_9, a1_10, a1_11, a1_12, a1_13] x6_1)) := ard_cell (k := .i8) (l := [a1_0, a1_1, a1_2, a1_3, a1_4, a1_5, a1_6, a1_7, a1_8, a1_9, a1_10, a1_11, a1_12, a1_13]) BK112.out p15 q15
        have hf15 := blk_frozen BK112.out (x6_1 : Int).toNat
        have P15 := Aside0.mk p15
        have Q15 := Aside0.mk q15
        replace p15 := eq_true p15
        replace q15 := eq_true q15
        have p17 : 0 ≤ (x6_1 : Int) := asm_
        have q17 : (x6_1 : Int) < 14 := asm_
        have hx17 : wr.cell? ⟨gb112, (x6_1 : Int).toNat, none⟩ = some (.int .i8 (rd [a1_0, a1_1, a1_2, a1_3, a1_4, a1_5, a1_6, a1_7, a1_8, a1_9, a1_10, a1_11, a1_12, a1_13] x6_1)) := ard_cell (k := .i8) (l := [a1_0, a1_1, a1_2, a1_3, a1_4, a1_5, a1_6, a1_7, a1_8, a1_9, a1_10, a1_11, a1_12, a1_13]) BK112.out p17 q17
        have hf17 := blk_frozen BK112.out (x6_1 : Int).toNat
        have P17 := Aside0.mk p17
        have Q17 := Aside0.mk q17
        replace p17 := eq_true p17
        replace q17 := eq_true q17
        go_wp2
        go_roundg k1
        case measure => have := HK1.out; omega
        case rel => exact ⟨(wrap64 (x5_1 + (wrap64 (rd [a1_0, a1_1, a1_2, a1_3, a1_4, a1_5, a1_6, a1_7, a1_8, a1_9, a1_10, a1_11, a1_12, a1_13] x6_1)))), (wrap64 (x6_1 + 1)), rs_, rs_, H', ⟨by have := HK1.out; omega⟩, ⟨pl_ BK111⟩, ⟨pl_ BK112⟩, ⟨bl_ HB⟩⟩
       ·rw [if_neg c16] at H
        have c16b0 : ((rd [a1_0, a1_1, a1_2, a1_3, a1_4, a1_5, a1_6, a1_7, a1_8, a1_9, a1_10, a1_11, a1_12, a1_13] x6_1) == 0) = false := beq_eq_false_iff_ne.mpr c16
        have c16b1 : ((rd [a1_0, a1_1, a1_2, a1_3, a1_4, a1_5, a1_6, a1_7, a1_8, a1_9, a1_10, a1_11, a1_12, a1_13] x6_1) != 0) = true := bne_iff_ne.mpr c16
        replace H := Option.bind_eq_some_iff.mp H
        obtain ⟨t113, A200, H⟩ := H
        replace H : (if t113 = true then (spec_l03Weighing.l0 k1 (wrap64 (x5_1 + (wrap64 (rd [a1_0, a1_1, a1_2, a1_3, a1_4, a1_5, a1_6, a1_7, a1_8, a1_9, a1_10, a1_11, a1_12, a1_13] x6_1)))) (wrap64 (x6_1 + 1)) a0_0 a0_1 a0_2 a0_3 a1_0 a1_1 a1_2 a1_3 a1_4 a1_5 a1_6 a1_7 a1_8 a1_9 a1_10 a1_11 a1_12 a1_13) else (some false)) = some r := H
        have A20 := Aside0.mk A200
        clear A200
        by_cases c21 : t113 = true
        ·subst c21
         have H1 : (spec_l03Weighing.l0 k1 (wrap64 (x5_1 + (wrap64 (rd [a1_0, a1_1, a1_2, a1_3, a1_4, a1_5, a1_6, a1_7, a1_8, a1_9, a1_10, a1_11, a1_12, a1_13] x6_1)))) (wrap64 (x6_1 + 1)) a0_0 a0_1 a0_2 a0_3 a1_0 a1_1 a1_2 a1_3 a1_4 a1_5 a1_6 a1_7 a1_8 a1_9 a1_10 a1_11 a1_12 a1_13) = some r := by rw [if_pos rfl] at H; exact H
         clear H
         have H := H1
         clear H1
         have H' := Aside0.mk H
         clear H
         have hnb23 := NB112_111.out
         have hnc23 := NB111_112.out
         have hcz24_0 : wr.cell? ⟨gb112, 0, none⟩ = some (.int .i8 a1_0) := (blk_cell BK112.out 0).trans rfl
         have hcz24_1 : wr.cell? ⟨gb112, 1, none⟩ = some (.int .i8 a1_1) := (blk_cell BK112.out 1).trans rfl
         have hcz24_2 : wr.cell? ⟨gb112, 2, none⟩ = some (.int .i8 a1_2) := (blk_cell BK112.out 2).trans rfl
         have hcz24_3 : wr.cell? ⟨gb112, 3, none⟩ = some (.int .i8 a1_3) := (blk_cell BK112.out 3).trans rfl
         have hcz24_4 : wr.cell? ⟨gb112, 4, none⟩ = some (.int .i8 a1_4) := (blk_cell BK112.out 4).trans rfl
         have hcz24_5 : wr.cell? ⟨gb112, 5, none⟩ = some (.int .i8 a1_5) := (blk_cell BK112.out 5).trans rfl
         have hcz24_6 : wr.cell? ⟨gb112, 6, none⟩ = some (.int .i8 a1_6) := (blk_cell BK112.out 6).trans rfl
         have hcz24_7 : wr.cell? ⟨gb112, 7, none⟩ = some (.int .i8 a1_7) := (blk_cell BK112.out 7).trans rfl
         have hcz24_8 : wr.cell? ⟨gb112, 8, none⟩ = some (.int .i8 a1_8) := (blk_cell BK112.out 8).trans rfl
         have hcz24_9 : wr.cell? ⟨gb112, 9, none⟩ = some (.int .i8 a1_9) := (blk_cell BK112.out 9).trans rfl
         have hcz24_10 : wr.cell? ⟨gb112, 10, none⟩ = some (.int .i8 a1_10) := (blk_cell BK112.out 10).trans rfl
         have hcz24_11 : wr.cell? ⟨gb112, 11, none⟩ = some (.int .i8 a1_11) := (blk_cell BK112.out 11).trans rfl
         have hcz24_12 : wr.cell? ⟨gb112, 12, none⟩ = some (.int .i8 a1_12) := (blk_cell BK112.out 12).trans rfl
         have hcz24_13 : wr.cell? ⟨gb112, 13, none⟩ = some (.int .i8 a1_13) := (blk_cell BK112.out 13).trans rfl
         have hfz24_0 := blk_frozen BK112.out 0
         have hfz24_1 := blk_frozen BK112.out 1
         have hfz24_2 := blk_frozen BK112.out 2
         have hfz24_3 := blk_frozen BK112.out 3
         have hfz24_4 := blk_frozen BK112.out 4
         have hfz24_5 := blk_frozen BK112.out 5
         have hfz24_6 := blk_frozen BK112.out 6
         have hfz24_7 := blk_frozen BK112.out 7
         have hfz24_8 := blk_frozen BK112.out 8
         have hfz24_9 := blk_frozen BK112.out 9
         have hfz24_10 := blk_frozen BK112.out 10
         have hfz24_11 := blk_frozen BK112.out 11
         have hfz24_12 := blk_frozen BK112.out 12
         have hfz24_13 := blk_frozen BK112.out 13
         have p7 : 0 ≤ (x6_1 : Int) := asm_
         have q7 : (x6_1 : Int) < 14 := asm_
         have hx7 : wr.cell? ⟨gb112, (x6_1 : Int).toNat, none⟩ = some (.int .i8 (rd [a1_0, a1_1, a1_2, a1_3, a1_4, a1_5, a1_6, a1_7, a1_8, a1_9, a1_10, a1_11, a1_12, a1_13] x6_1)) := ard_cell (k := .i8) (l := [a1_0, a1_1, a1_2, a1_3, a1_4, a1_5, a1_6, a1_7, a1_8, a1_9, a1_10, a1_11, a1_12, a1_13]) BK112.out p7 q7
         have hf7 := blk_frozen BK112.out (x6_1 : Int).toNat
         have P7 := Aside0.mk p7
         have Q7 := Aside0.mk q7
         replace p7 := eq_true p7
         replace q7 := eq_true q7
         have p11 : 0 ≤ (x6_1 : Int) := asm_
         have q11 : (x6_1 : Int) < 14 := asm_
         have hx11 : wr.cell? ⟨gb112, (x6_1 : Int).toNat, none⟩ = some (.int .i8 (rd [a1_0, a1_1, a1_2, a1_3, a1_4, a1_5, a1_6, a1_7, a1_8, a1_9, a1_10, a1_11, a1_12, a1_13] x6_1)) := ard_cell (k := .i8) (l := [a1_0, a1_1, a1_2, a1_3, a1_4, a1_5, a1_6, a1_7, a1_8, a1_9, a1_10, a1_11, a1_12, a1_13]) BK112.out p11 q11
         have hf11 := blk_frozen BK112.out (x6_1 : Int).toNat
         have P11 := Aside0.mk p11
         have Q11 := Aside0.mk q11
         replace p11 := eq_true p11
         replace q11 := eq_true q11
         have p15 : 0 ≤ (x6_1 : Int) := asm_
         have q15 : (x6_1 : Int) < 14 := asm_
         have hx15 : wr.cell? ⟨gb112, (x6_1 : Int).toNat, none⟩ = some (.int .i8 (rd [a1_0, a1_1, a1_2, a1_3, a1_4, a1_5, a1_6, a1_7, a1_8, a1_9, a1_10, a1_11, a1_12, a1_13] x6_1)) := ard_cell (k := .i8) (l := [a1_0, a1_1, a1_2, a1_3, a1_4, a1_5, a1_6, a1_7, a1_8, a1_9, a1_10, a1_11, a1_12, a1_13]) BK112.out p15 q15
         have hf15 := blk_frozen BK112.out (x6_1 : Int).toNat
         have P15 := Aside0.mk p15
         have Q15 := Aside0.mk q15
         replace p15 := eq_true p15
         replace q15 := eq_true q15
         have hcz25_0 : wr.cell? ⟨gb111, 0, none⟩ = some (.int .i8 a0_0) := (blk_cell BK111.out 0).trans rfl
         have hcz25_1 : wr.cell? ⟨gb111, 1, none⟩ = some (.int .i8 a0_1) := (blk_cell BK111.out 1).trans rfl
         have hcz25_2 : wr.cell? ⟨gb111, 2, none⟩ = some (.bool a0_2) := (blk_cell BK111.out 2).trans rfl
         have hcz25_3 : wr.cell? ⟨gb111, 3, none⟩ = some (.bool a0_3) := (blk_cell BK111.out 3).trans rfl
         have hfz25_0 := blk_frozen BK111.out 0
         have hfz25_1 := blk_frozen BK111.out 1
         have hfz25_2 := blk_frozen BK111.out 2
         have hfz25_3 := blk_frozen BK111.out 3
         go_wp2_with (first | (go_at_call 72; (with_reducible refine (spec_l03There.calls a0_0 a0_1 a0_2 a0_3 x6_1 true _ A20.out).mono ?_); rintro e w26 ⟨rfl, hb⟩; have n0_ := A_ (blk_below (pl_ BK111) hb); have n1_ := A_ (blk_below (pl_ BK112) hb); have n2_ := A_ (below_step (bl_ HB) hb); clear BK111; clear BK112; clear HB; have BK111 := n0_; have BK112 := n1_; have HB := n2_; clear n0_ n1_ n2_; (try clear hb); (try clear hb2); (try clear hk); (try clear hi); have hcz27_0 : w26.cell? ⟨gb112, 0, none⟩ = some (.int .i8 a1_0) := (blk_cell BK112.out 0).trans rfl; have hcz27_1 : w26.cell? ⟨gb112, 1, none⟩ = some (.int .i8 a1_1) := (blk_cell BK112.out 1).trans rfl; have hcz27_2 : w26.cell? ⟨gb112, 2, none⟩ = some (.int .i8 a1_2) := (blk_cell BK112.out 2).trans rfl; have hcz27_3 : w26.cell? ⟨gb112, 3, none⟩ = some (.int .i8 a1_3) := (blk_cell BK112.out 3).trans rfl; have hcz27_4 : w26.cell? ⟨gb112, 4, none⟩ = some (.int .i8 a1_4) := (blk_cell BK112.out 4).trans rfl; have hcz27_5 : w26.cell? ⟨gb112, 5, none⟩ = some (.int .i8 a1_5) := (blk_cell BK112.out 5).trans rfl; have hcz27_6 : w26.cell? ⟨gb112, 6, none⟩ = some (.int .i8 a1_6) := (blk_cell BK112.out 6).trans rfl; have hcz27_7 : w26.cell? ⟨gb112, 7, none⟩ = some (.int .i8 a1_7) := (blk_cell BK112.out 7).trans rfl; have hcz27_8 : w26.cell? ⟨gb112, 8, none⟩ = some (.int .i8 a1_8) := (blk_cell BK112.out 8).trans rfl; have hcz27_9 : w26.cell? ⟨gb112, 9, none⟩ = some (.int .i8 a1_9) := (blk_cell BK112.out 9).trans rfl; have hcz27_10 : w26.cell? ⟨gb112, 10, none⟩ = some (.int .i8 a1_10) := (blk_cell BK112.out 10).trans rfl; have hcz27_11 : w26.cell? ⟨gb112, 11, none⟩ = some (.int .i8 a1_11) := (blk_cell BK112.out 11).trans rfl; have hcz27_12 : w26.cell? ⟨gb112, 12, none⟩ = some (.int .i8 a1_12) := (blk_cell BK112.out 12).trans rfl; have hcz27_13 : w26.cell? ⟨gb112, 13, none⟩ = some (.int .i8 a1_13) := (blk_cell BK112.out 13).trans rfl; have hfz27_0 := blk_frozen BK112.out 0; have hfz27_1 := blk_frozen BK112.out 1; have hfz27_2 := blk_frozen BK112.out 2; have hfz27_3 := blk_frozen BK112.out 3; have hfz27_4 := blk_frozen BK112.out 4; have hfz27_5 := blk_frozen BK112.out 5; have hfz27_6 := blk_frozen BK112.out 6; have hfz27_7 := blk_frozen BK112.out 7; have hfz27_8 := blk_frozen BK112.out 8; have hfz27_9 := blk_frozen BK112.out 9; have hfz27_10 := blk_frozen BK112.out 10; have hfz27_11 := blk_frozen BK112.out 11; have hfz27_12 := blk_frozen BK112.out 12; have hfz27_13 := blk_frozen BK112.out 13; have p22 : 0 ≤ (x6_1 : Int) := asm_; have q22 : (x6_1 : Int) < 14 := asm_; have hx22 : w26.cell? ⟨gb112, (x6_1 : Int).toNat, none⟩ = some (.int .i8 (rd [a1_0, a1_1, a1_2, a1_3, a1_4, a1_5, a1_6, a1_7, a1_8, a1_9, a1_10, a1_11, a1_12, a1_13] x6_1)) := ard_cell (k := .i8) (l := [a1_0, a1_1, a1_2, a1_3, a1_4, a1_5, a1_6, a1_7, a1_8, a1_9, a1_10, a1_11, a1_12, a1_13]) BK112.out p22 q22; have hf22 := blk_frozen BK112.out (x6_1 : Int).toNat; have P22 := Aside0.mk p22; have Q22 := Aside0.mk q22; replace p22 := eq_true p22; replace q22 := eq_true q22))
         go_roundg k1
         case measure => have := HK1.out; omega
         case rel => exact ⟨(wrap64 (x5_1 + (wrap64 (rd [a1_0, a1_1, a1_2, a1_3, a1_4, a1_5, a1_6, a1_7, a1_8, a1_9, a1_10, a1_11, a1_12, a1_13] x6_1)))), (wrap64 (x6_1 + 1)), rs_, rs_, H', ⟨by have := HK1.out; omega⟩, ⟨pl_ BK111⟩, ⟨pl_ BK112⟩, ⟨bl_ HB⟩⟩
        ·replace c21 := Bool.eq_false_iff.mpr c21
         subst c21
         have H1 : (some false) = some r := by rw [if_neg (show ¬ (false = true) by decide)] at H; exact H
         clear H
         have H := H1
         clear H1
         obtain rfl := Option.some.inj H
         have hnb28 := NB112_111.out
         have hnc28 := NB111_112.out
         have hcz29_0 : wr.cell? ⟨gb112, 0, none⟩ = some (.int .i8 a1_0) := (blk_cell BK112.out 0).trans rfl
         have hcz29_1 : wr.cell? ⟨gb112, 1, none⟩ = some (.int .i8 a1_1) := (blk_cell BK112.out 1).trans rfl
         have hcz29_2 : wr.cell? ⟨gb112, 2, none⟩ = some (.int .i8 a1_2) := (blk_cell BK112.out 2).trans rfl
         have hcz29_3 : wr.cell? ⟨gb112, 3, none⟩ = some (.int .i8 a1_3) := (blk_cell BK112.out 3).trans rfl
         have hcz29_4 : wr.cell? ⟨gb112, 4, none⟩ = some (.int .i8 a1_4) := (blk_cell BK112.out 4).trans rfl
         have hcz29_5 : wr.cell? ⟨gb112, 5, none⟩ = some (.int .i8 a1_5) := (blk_cell BK112.out 5).trans rfl
         have hcz29_6 : wr.cell? ⟨gb112, 6, none⟩ = some (.int .i8 a1_6) := (blk_cell BK112.out 6).trans rfl
         have hcz29_7 : wr.cell? ⟨gb112, 7, none⟩ = some (.int .i8 a1_7) := (blk_cell BK112.out 7).trans rfl
         have hcz29_8 : wr.cell? ⟨gb112, 8, none⟩ = some (.int .i8 a1_8) := (blk_cell BK112.out 8).trans rfl
         have hcz29_9 : wr.cell? ⟨gb112, 9, none⟩ = some (.int .i8 a1_9) := (blk_cell BK112.out 9).trans rfl
         have hcz29_10 : wr.cell? ⟨gb112, 10, none⟩ = some (.int .i8 a1_10) := (blk_cell BK112.out 10).trans rfl
         have hcz29_11 : wr.cell? ⟨gb112, 11, none⟩ = some (.int .i8 a1_11) := (blk_cell BK112.out 11).trans rfl
         have hcz29_12 : wr.cell? ⟨gb112, 12, none⟩ = some (.int .i8 a1_12) := (blk_cell BK112.out 12).trans rfl
         have hcz29_13 : wr.cell? ⟨gb112, 13, none⟩ = some (.int .i8 a1_13) := (blk_cell BK112.out 13).trans rfl
         have hfz29_0 := blk_frozen BK112.out 0
         have hfz29_1 := blk_frozen BK112.out 1
         have hfz29_2 := blk_frozen BK112.out 2
         have hfz29_3 := blk_frozen BK112.out 3
         have hfz29_4 := blk_frozen BK112.out 4
         have hfz29_5 := blk_frozen BK112.out 5
         have hfz29_6 := blk_frozen BK112.out 6
         have hfz29_7 := blk_frozen BK112.out 7
         have hfz29_8 := blk_frozen BK112.out 8
         have hfz29_9 := blk_frozen BK112.out 9
         have hfz29_10 := blk_frozen BK112.out 10
         have hfz29_11 := blk_frozen BK112.out 11
         have hfz29_12 := blk_frozen BK112.out 12
         have hfz29_13 := blk_frozen BK112.out 13
         have p7 : 0 ≤ (x6_1 : Int) := asm_
         have q7 : (x6_1 : Int) < 14 := asm_
         have hx7 : wr.cell? ⟨gb112, (x6_1 : Int).toNat, none⟩ = some (.int .i8 (rd [a1_0, a1_1, a1_2, a1_3, a1_4, a1_5, a1_6, a1_7, a1_8, a1_9, a1_10, a1_11, a1_12, a1_13] x6_1)) := ard_cell (k := .i8) (l := [a1_0, a1_1, a1_2, a1_3, a1_4, a1_5, a1_6, a1_7, a1_8, a1_9, a1_10, a1_11, a1_12, a1_13]) BK112.out p7 q7
         have hf7 := blk_frozen BK112.out (x6_1 : Int).toNat
         have P7 := Aside0.mk p7
         have Q7 := Aside0.mk q7
         replace p7 := eq_true p7
         replace q7 := eq_true q7
         have p11 : 0 ≤ (x6_1 : Int) := asm_
         have q11 : (x6_1 : Int) < 14 := asm_
         have hx11 : wr.cell? ⟨gb112, (x6_1 : Int).toNat, none⟩ = some (.int .i8 (rd [a1_0, a1_1, a1_2, a1_3, a1_4, a1_5, a1_6, a1_7, a1_8, a1_9, a1_10, a1_11, a1_12, a1_13] x6_1)) := ard_cell (k := .i8) (l := [a1_0, a1_1, a1_2, a1_3, a1_4, a1_5, a1_6, a1_7, a1_8, a1_9, a1_10, a1_11, a1_12, a1_13]) BK112.out p11 q11
         have hf11 := blk_frozen BK112.out (x6_1 : Int).toNat
         have P11 := Aside0.mk p11
         have Q11 := Aside0.mk q11
         replace p11 := eq_true p11
         replace q11 := eq_true q11
         have p15 : 0 ≤ (x6_1 : Int) := asm_
         have q15 : (x6_1 : Int) < 14 := asm_
         have hx15 : wr.cell? ⟨gb112, (x6_1 : Int).toNat, none⟩ = some (.int .i8 (rd [a1_0, a1_1, a1_2, a1_3, a1_4, a1_5, a1_6, a1_7, a1_8, a1_9, a1_10, a1_11, a1_12, a1_13] x6_1)) := ard_cell (k := .i8) (l := [a1_0, a1_1, a1_2, a1_3, a1_4, a1_5, a1_6, a1_7, a1_8, a1_9, a1_10, a1_11, a1_12, a1_13]) BK112.out p15 q15
         have hf15 := blk_frozen BK112.out (x6_1 : Int).toNat
         have P15 := Aside0.mk p15
         have Q15 := Aside0.mk q15
         replace p15 := eq_true p15
         replace q15 := eq_true q15
         have hcz30_0 : wr.cell? ⟨gb111, 0, none⟩ = some (.int .i8 a0_0) := (blk_cell BK111.out 0).trans rfl
         have hcz30_1 : wr.cell? ⟨gb111, 1, none⟩ = some (.int .i8 a0_1) := (blk_cell BK111.out 1).trans rfl
         have hcz30_2 : wr.cell? ⟨gb111, 2, none⟩ = some (.bool a0_2) := (blk_cell BK111.out 2).trans rfl
         have hcz30_3 : wr.cell? ⟨gb111, 3, none⟩ = some (.bool a0_3) := (blk_cell BK111.out 3).trans rfl
         have hfz30_0 := blk_frozen BK111.out 0
         have hfz30_1 := blk_frozen BK111.out 1
         have hfz30_2 := blk_frozen BK111.out 2
         have hfz30_3 := blk_frozen BK111.out 3
         go_wp2_with (first | (go_at_call 72; (with_reducible refine (spec_l03There.calls a0_0 a0_1 a0_2 a0_3 x6_1 false _ A20.out).mono ?_); rintro e w31 ⟨rfl, hb⟩; have n0_ := A_ (blk_below (pl_ BK111) hb); have n1_ := A_ (blk_below (pl_ BK112) hb); have n2_ := A_ (below_step (bl_ HB) hb); clear BK111; clear BK112; clear HB; have BK111 := n0_; have BK112 := n1_; have HB := n2_; clear n0_ n1_ n2_; (try clear hb); (try clear hb2); (try clear hk); (try clear hi)))
         go_ret
         exact ⟨by first | rfl | (simp [errW_none, errW_some] <;> rfl) | (simp [*, errW_none, errW_some] <;> rfl), bl_ HB⟩
    ·rw [if_neg c6] at H
     exact absurd H (by simp)
   ·rw [if_neg c5] at H
    have c5b0 : decide (x6_1 < 14) = false := decide_eq_false c5
    clear c5
    obtain rfl := Option.some.inj H
    go_wp2
    go_ret
    exact ⟨by first | rfl | (simp [errW_none, errW_some] <;> rfl) | (simp [*, errW_none, errW_some] <;> rfl), bl_ HB⟩

end Go.Proofs.Ytajbeamkjoeifaa.M
