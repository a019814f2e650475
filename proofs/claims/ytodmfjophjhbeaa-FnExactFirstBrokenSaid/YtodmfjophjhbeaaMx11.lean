-- By this seat's own program over the kit's printer (arrays, functions told by hand); nothing of it is trusted: the kernel checks it.
import Derived.Test.YtodmfjophjhbeaaMx0
namespace Go.Proofs.Ytodmfjophjhbeaa.M
open Go.RowKit Go.Proofs.YtodmfjophjhbeaaW.PrintWords Go.Proofs.YtodmfjophjhbeaaW.PrintLast Go.Proofs.YtodmfjophjhbeaaW.PrintMore
attribute [local go_sem] max2_int min2_int max_two min_two max_three min_three max_four min_four   -- for this text's walks alone
set_option linter.unusedVariables false
set_option linter.unusedSimpArgs false

/-! ### spec_l02Index: function 78 -/
def spec_l02Index.l0 : Nat → Int → Int → List Int → Int → Int → Int → Int → Bool → Int → Int → Int → Int → Option (Int)
 | 0, _, _, _, _, _, _, _, _, _, _, _, _ => none
 | k + 1, x5, x6, x321000, x321001, x321002, x321003, x321004, x321005, x322000, x322001, x322002, x322003 => if x6 ≥ 0 then (if 0 ≤ x6 then (if x6 < (x321000.length : Int) then (if x6 < 4 then (spec_l02Index.l0 k (wrap64 ((wrap64 (x5 * (wrap64 ((wrap64 (rd x321000 x6)) + 1)))) + (wrap64 (rd [x322000, x322001, x322002, x322003] x6)))) (wrap64 (x6 - 1)) x321000 x321001 x321002 x321003 x321004 x321005 x322000 x322001 x322002 x322003) else (none)) else (none)) else (none)) else (some x5)
def spec_l02Index.f (k : Nat) (l0_0 : List Int) (a0_1 : Int) (a0_2 : Int) (a0_3 : Int) (a0_4 : Int) (a0_5 : Bool) (a1_0 : Int) (a1_1 : Int) (a1_2 : Int) (a1_3 : Int) : Option (Int) := spec_l02Index.l0 k 0 (wrap64 ((l0_0.length : Int) - 1)) l0_0 a0_1 a0_2 a0_3 a0_4 a0_5 a1_0 a1_1 a1_2 a1_3
theorem spec_l02Index.mono_l : ∀ k, (∀ y0 y1 y2 y3 y4 y5 y6 y7 y8 y9 y10 y11, LeO (spec_l02Index.l0 k y0 y1 y2 y3 y4 y5 y6 y7 y8 y9 y10 y11) (spec_l02Index.l0 (k + 1) y0 y1 y2 y3 y4 y5 y6 y7 y8 y9 y10 y11))
 | 0 => fun _ _ _ _ _ _ _ _ _ _ _ _ r h => by simp [spec_l02Index.l0] at h
 | k + 1 => by
  have ih0 := spec_l02Index.mono_l k
  ·intro y0 y1 y2 y3 y4 y5 y6 y7 y8 y9 y10 y11
   unfold spec_l02Index.l0
   repeat' first
   | (with_reducible exact ih0 _ _ _ _ _ _ _ _ _ _ _ _)
   | (with_reducible exact LeO.refl _)
   | (with_reducible exact LeO.none _)
   | (with_reducible refine LeO.ite ?_ ?_)
   | (with_reducible refine LeO.bind ?_ (fun _ => ?_))
   | exact ih0 _ _ _ _ _ _ _ _ _ _ _ _
   | exact LeO.none _
   | refine LeO.ite ?_ ?_
   | refine LeO.bind ?_ (fun _ => ?_)
theorem spec_l02Index.mono : ∀ a0 a1 a2 a3 a4 a5 a6 a7 a8 a9 k, LeO (spec_l02Index.f k a0 a1 a2 a3 a4 a5 a6 a7 a8 a9) (spec_l02Index.f (k + 1) a0 a1 a2 a3 a4 a5 a6 a7 a8 a9) := by
 intro a0 a1 a2 a3 a4 a5 a6 a7 a8 a9 k
 have ih0 := spec_l02Index.mono_l k
 unfold spec_l02Index.f
 repeat' first
   | (with_reducible exact ih0 _ _ _ _ _ _ _ _ _ _ _ _)
   | (with_reducible exact LeO.refl _)
   | (with_reducible exact LeO.none _)
   | (with_reducible refine LeO.ite ?_ ?_)
   | (with_reducible refine LeO.bind ?_ (fun _ => ?_))
   | exact ih0 _ _ _ _ _ _ _ _ _ _ _ _
   | exact LeO.none _
   | refine LeO.ite ?_ ?_
   | refine LeO.bind ?_ (fun _ => ?_)
set_option maxHeartbeats 8000000 in
set_option maxRecDepth 100000 in
theorem spec_l02Index.calls (k : Nat) (gp0 : Nat) (A0_0 : Option Addr) (c0_0 : Nat) (l0_0 : List Int) (a0_1 : Int) (a0_2 : Int) (a0_3 : Int) (a0_4 : Int) (a0_5 : Bool) (a1_0 : Int) (a1_1 : Int) (a1_2 : Int) (a1_3 : Int) (r : Int) (w : World) (hb0 : w.heap[gp0]? = some (.cells #[.slice A0_0 l0_0.length c0_0, .int .i16 a0_1, .int .i16 a0_2, .int .i16 a0_3, .int .i16 a0_4, .bool a0_5] 32 (0, 0))) (hr0_0 : Kd.C (Kd.int .i16) w A0_0 l0_0.length l0_0) (hc0_0 : l0_0.length ≤ c0_0) (h : spec_l02Index.f k l0_0 a0_1 a0_2 a0_3 a0_4 a0_5 a1_0 a1_1 a1_2 a1_3 = some r) :
  Calls Try.prog 78 #[.pointer (some ⟨gp0, 0, none⟩), .agg #[.int .i16 a1_0, .int .i16 a1_1, .int .i16 a1_2, .int .i16 a1_3]] w fun e w' => e = .returned (.int .i64 r) ∧ Below w.heap.size w w' := by
 have hu30 := Try.underlying30
 have HR0_0 := Aside0.mk hr0_0
 have HC0_0 := Aside0.mk hc0_0
 clear hr0_0 hc0_0
 have BK320 := Aside0.mk hb0
 clear hb0
 have HB := A_ (Below.refl w.heap.size w)
 have H : (spec_l02Index.l0 k 0 (wrap64 ((l0_0.length : Int) - 1)) l0_0 a0_1 a0_2 a0_3 a0_4 a0_5 a1_0 a1_1 a1_2 a1_3) = some r := h
 clear h
 have H' := Aside0.mk H
 clear H
 go_enter Try.func78, Try.ntmps78
 go_wp2_with (first | ((with_reducible refine gate_dst (N := 3) rfl ?_); refine box_event ?hg (N := 3) ?hd (cs := #[.int .i16 a1_0, .int .i16 a1_1, .int .i16 a1_2, .int .i16 a1_3]) (t := 30) ?hr ?_; (case hd => rfl); (case hg => rfl); (case hr => first | (go_simp; done) | (go_simp; rfl)); intro gb321 hg w3 hbox hb; have n0_ := A_ (blk_below (pl_ BK320) hb); have n1_ := A_ (below_step (bl_ HB) hb); have n2_ := A_ (hbox); have n3_ := A_ ((by rw [hg]; exact (below_size (bl_ HB)) : w.heap.size ≤ gb321)); have n4_ := n3_; have n5_ := A_ ((by rw [hg]; exact Nat.ne_of_lt (blk_lt (pl_ BK320)) : gp0 ≠ gb321)); have n6_ := Aside0.mk n5_.out.symm; clear BK320; clear HB; have BK320 := n0_; have HB := n1_; have BK321 := n2_; have GW321 := n3_; have GE321 := n4_; have NB320_321 := n5_; have NB321_320 := n6_; clear n0_ n1_ n2_ n3_ n4_ n5_ n6_; clear hb hbox hg; have hnb4 := NB320_321.out; have hnc4 := NB321_320.out; have hcz5_0 : w3.cell? ⟨gp0, 0, none⟩ = some (.slice A0_0 l0_0.length c0_0) := (blk_cell BK320.out 0).trans rfl; have hcz5_1 : w3.cell? ⟨gp0, 1, none⟩ = some (.int .i16 a0_1) := (blk_cell BK320.out 1).trans rfl; have hcz5_2 : w3.cell? ⟨gp0, 2, none⟩ = some (.int .i16 a0_2) := (blk_cell BK320.out 2).trans rfl; have hcz5_3 : w3.cell? ⟨gp0, 3, none⟩ = some (.int .i16 a0_3) := (blk_cell BK320.out 3).trans rfl; have hcz5_4 : w3.cell? ⟨gp0, 4, none⟩ = some (.int .i16 a0_4) := (blk_cell BK320.out 4).trans rfl; have hcz5_5 : w3.cell? ⟨gp0, 5, none⟩ = some (.bool a0_5) := (blk_cell BK320.out 5).trans rfl; have hfz5_0 := blk_frozen BK320.out 0; have hfz5_1 := blk_frozen BK320.out 1; have hfz5_2 := blk_frozen BK320.out 2; have hfz5_3 := blk_frozen BK320.out 3; have hfz5_4 := blk_frozen BK320.out 4; have hfz5_5 := blk_frozen BK320.out 5))
 repeat (go_quiet (first | ((with_reducible refine gate_dst (N := 3) rfl ?_); refine box_event ?hg (N := 3) ?hd (cs := #[.int .i16 a1_0, .int .i16 a1_1, .int .i16 a1_2, .int .i16 a1_3]) (t := 30) ?hr ?_; (case hd => rfl); (case hg => rfl); (case hr => first | (go_simp; done) | (go_simp; rfl)); intro gb321 hg w3 hbox hb; have n0_ := A_ (blk_below (pl_ BK320) hb); have n1_ := A_ (below_step (bl_ HB) hb); have n2_ := A_ (hbox); have n3_ := A_ ((by rw [hg]; exact (below_size (bl_ HB)) : w.heap.size ≤ gb321)); have n4_ := n3_; have n5_ := A_ ((by rw [hg]; exact Nat.ne_of_lt (blk_lt (pl_ BK320)) : gp0 ≠ gb321)); have n6_ := Aside0.mk n5_.out.symm; clear BK320; clear HB; have BK320 := n0_; have HB := n1_; have BK321 := n2_; have GW321 := n3_; have GE321 := n4_; have NB320_321 := n5_; have NB321_320 := n6_; clear n0_ n1_ n2_ n3_ n4_ n5_ n6_; clear hb hbox hg; have hnb4 := NB320_321.out; have hnc4 := NB321_320.out; have hcz5_0 : w3.cell? ⟨gp0, 0, none⟩ = some (.slice A0_0 l0_0.length c0_0) := (blk_cell BK320.out 0).trans rfl; have hcz5_1 : w3.cell? ⟨gp0, 1, none⟩ = some (.int .i16 a0_1) := (blk_cell BK320.out 1).trans rfl; have hcz5_2 : w3.cell? ⟨gp0, 2, none⟩ = some (.int .i16 a0_2) := (blk_cell BK320.out 2).trans rfl; have hcz5_3 : w3.cell? ⟨gp0, 3, none⟩ = some (.int .i16 a0_3) := (blk_cell BK320.out 3).trans rfl; have hcz5_4 : w3.cell? ⟨gp0, 4, none⟩ = some (.int .i16 a0_4) := (blk_cell BK320.out 4).trans rfl; have hcz5_5 : w3.cell? ⟨gp0, 5, none⟩ = some (.bool a0_5) := (blk_cell BK320.out 5).trans rfl; have hfz5_0 := blk_frozen BK320.out 0; have hfz5_1 := blk_frozen BK320.out 1; have hfz5_2 := blk_frozen BK320.out 2; have hfz5_3 := blk_frozen BK320.out 3; have hfz5_4 := blk_frozen BK320.out 4; have hfz5_5 := blk_frozen BK320.out 5)); try go_wp2_with (first | ((with_reducible refine gate_dst (N := 3) rfl ?_); refine box_event ?hg (N := 3) ?hd (cs := #[.int .i16 a1_0, .int .i16 a1_1, .int .i16 a1_2, .int .i16 a1_3]) (t := 30) ?hr ?_; (case hd => rfl); (case hg => rfl); (case hr => first | (go_simp; done) | (go_simp; rfl)); intro gb321 hg w3 hbox hb; have n0_ := A_ (blk_below (pl_ BK320) hb); have n1_ := A_ (below_step (bl_ HB) hb); have n2_ := A_ (hbox); have n3_ := A_ ((by rw [hg]; exact (below_size (bl_ HB)) : w.heap.size ≤ gb321)); have n4_ := n3_; have n5_ := A_ ((by rw [hg]; exact Nat.ne_of_lt (blk_lt (pl_ BK320)) : gp0 ≠ gb321)); have n6_ := Aside0.mk n5_.out.symm; clear BK320; clear HB; have BK320 := n0_; have HB := n1_; have BK321 := n2_; have GW321 := n3_; have GE321 := n4_; have NB320_321 := n5_; have NB321_320 := n6_; clear n0_ n1_ n2_ n3_ n4_ n5_ n6_; clear hb hbox hg; have hnb4 := NB320_321.out; have hnc4 := NB321_320.out; have hcz5_0 : w3.cell? ⟨gp0, 0, none⟩ = some (.slice A0_0 l0_0.length c0_0) := (blk_cell BK320.out 0).trans rfl; have hcz5_1 : w3.cell? ⟨gp0, 1, none⟩ = some (.int .i16 a0_1) := (blk_cell BK320.out 1).trans rfl; have hcz5_2 : w3.cell? ⟨gp0, 2, none⟩ = some (.int .i16 a0_2) := (blk_cell BK320.out 2).trans rfl; have hcz5_3 : w3.cell? ⟨gp0, 3, none⟩ = some (.int .i16 a0_3) := (blk_cell BK320.out 3).trans rfl; have hcz5_4 : w3.cell? ⟨gp0, 4, none⟩ = some (.int .i16 a0_4) := (blk_cell BK320.out 4).trans rfl; have hcz5_5 : w3.cell? ⟨gp0, 5, none⟩ = some (.bool a0_5) := (blk_cell BK320.out 5).trans rfl; have hfz5_0 := blk_frozen BK320.out 0; have hfz5_1 := blk_frozen BK320.out 1; have hfz5_2 := blk_frozen BK320.out 2; have hfz5_3 := blk_frozen BK320.out 3; have hfz5_4 := blk_frozen BK320.out 4; have hfz5_5 := blk_frozen BK320.out 5)))
 go_loopg [5, 6] k (fun kq v5 v6 w' => ∃ (x5_1 : Int) (x6_1 : Int), v5 = .int .i64 x5_1 ∧ v6 = .int .i64 x6_1 ∧ Aside0 (spec_l02Index.l0 kq x5_1 x6_1 l0_0 a0_1 a0_2 a0_3 a0_4 a0_5 a1_0 a1_1 a1_2 a1_3 = some r) ∧ Aside0 (kq ≤ k) ∧ Aside0 (w'.heap[gp0]? = some (.cells #[(.slice A0_0 l0_0.length c0_0), .int .i16 a0_1, .int .i16 a0_2, .int .i16 a0_3, .int .i16 a0_4, .bool a0_5] 32 (0, 0))) ∧ Aside0 (w'.heap[gb321]? = some (.cells #[.int .i16 a1_0, .int .i16 a1_1, .int .i16 a1_2, .int .i16 a1_3] 30 (0, 0))) ∧ Aside0 (Below w.heap.size w w'))
 case atStart => exact ⟨(0), (wrap64 ((l0_0.length : Int) - 1)), rs_, rs_, H', ⟨Nat.le_refl _⟩, ⟨pl_ BK320⟩, ⟨pl_ BK321⟩, ⟨bl_ HB⟩⟩
 case round =>
  clear H'
  try clear p2
  try clear c4
  try clear hcz5_0
  try clear hcz5_1
  try clear hcz5_2
  try clear hcz5_3
  try clear hcz5_4
  try clear hcz5_5
  try clear hfz5_0
  try clear hfz5_1
  try clear hfz5_2
  try clear hfz5_3
  try clear hfz5_4
  try clear hfz5_5
  obtain ⟨x5_1, x6_1, rfl, rfl, HA, HK1, BK320, BK321, HB⟩ := hrel
  cases gk with
  | zero => exact absurd HA.out (by simp [spec_l02Index.l0])
  | succ k1 =>
   have H := HA.out
   clear HA
   simp only [spec_l02Index.l0] at H
   by_cases c6 : x6_1 ≥ 0
   ·rw [if_pos c6] at H
    have c6b0 : decide (0 ≤ x6_1) = true := decide_eq_true c6
    clear c6
    by_cases c7 : 0 ≤ x6_1
    ·rw [if_pos c7] at H
     have c7b0 : decide (0 ≤ x6_1) = true := decide_eq_true c7
     clear c7
     by_cases c8 : x6_1 < (l0_0.length : Int)
     ·rw [if_pos c8] at H
      have c8b0 : decide (x6_1 < (l0_0.length : Int)) = true := decide_eq_true c8
      clear c8
      by_cases c9 : x6_1 < 4
      ·rw [if_pos c9] at H
       have c9b0 : decide (x6_1 < 4) = true := decide_eq_true c9
       clear c9
       have H' := Aside0.mk H
       clear H
       have hnb11 := NB320_321.out
       have hnc11 := NB321_320.out
       have hcz12_0 : wr.cell? ⟨gp0, 0, none⟩ = some (.slice A0_0 l0_0.length c0_0) := (blk_cell BK320.out 0).trans rfl
       have hcz12_1 : wr.cell? ⟨gp0, 1, none⟩ = some (.int .i16 a0_1) := (blk_cell BK320.out 1).trans rfl
       have hcz12_2 : wr.cell? ⟨gp0, 2, none⟩ = some (.int .i16 a0_2) := (blk_cell BK320.out 2).trans rfl
       have hcz12_3 : wr.cell? ⟨gp0, 3, none⟩ = some (.int .i16 a0_3) := (blk_cell BK320.out 3).trans rfl
       have hcz12_4 : wr.cell? ⟨gp0, 4, none⟩ = some (.int .i16 a0_4) := (blk_cell BK320.out 4).trans rfl
       have hcz12_5 : wr.cell? ⟨gp0, 5, none⟩ = some (.bool a0_5) := (blk_cell BK320.out 5).trans rfl
       have hfz12_0 := blk_frozen BK320.out 0
       have hfz12_1 := blk_frozen BK320.out 1
       have hfz12_2 := blk_frozen BK320.out 2
       have hfz12_3 := blk_frozen BK320.out 3
       have hfz12_4 := blk_frozen BK320.out 4
       have hfz12_5 := blk_frozen BK320.out 5
       have p322 : 0 ≤ (x6_1 : Int) := asm_
       have q322 : x6_1 < (l0_0.length : Int) := asm_
       obtain ⟨ad322, e322, hx322_0⟩ := Kd.at_int HR0_0.out x6_1 p322 q322
       cases e322
       (try replace hx322_0 := (HB.out.cell (World.block_lt_of_cell? w _ hx322_0)).trans hx322_0)
       replace p322 := eq_true p322
       replace q322 := eq_true q322
       have hcz13_0 : wr.cell? ⟨gb321, 0, none⟩ = some (.int .i16 a1_0) := (blk_cell BK321.out 0).trans rfl
       have hcz13_1 : wr.cell? ⟨gb321, 1, none⟩ = some (.int .i16 a1_1) := (blk_cell BK321.out 1).trans rfl
       have hcz13_2 : wr.cell? ⟨gb321, 2, none⟩ = some (.int .i16 a1_2) := (blk_cell BK321.out 2).trans rfl
       have hcz13_3 : wr.cell? ⟨gb321, 3, none⟩ = some (.int .i16 a1_3) := (blk_cell BK321.out 3).trans rfl
       have hfz13_0 := blk_frozen BK321.out 0
       have hfz13_1 := blk_frozen BK321.out 1
       have hfz13_2 := blk_frozen BK321.out 2
       have hfz13_3 := blk_frozen BK321.out 3
       have p10 : 0 ≤ (x6_1 : Int) := asm_
       have q10 : (x6_1 : Int) < 4 := asm_
       have hx10 : wr.cell? ⟨gb321, (x6_1 : Int).toNat, none⟩ = some (.int .i16 (rd [a1_0, a1_1, a1_2, a1_3] x6_1)) := ard_cell (k := .i16) (l := [a1_0, a1_1, a1_2, a1_3]) BK321.out p10 q10
       have hf10 := blk_frozen BK321.out (x6_1 : Int).toNat
       have P10 := Aside0.mk p10
       have Q10 := Aside0.mk q10
       replace p10 := eq_true p10
       replace q10 := eq_true q10
       go_wp2
       repeat (go_quiet (fail); try go_wp2)
       go_roundg k1
       case measure => have := HK1.out; omega
       case rel => exact ⟨(wrap64 ((wrap64 (x5_1 * (wrap64 ((wrap64 (rd l0_0 x6_1)) + 1)))) + (wrap64 (rd [a1_0, a1_1, a1_2, a1_3] x6_1)))), (wrap64 (x6_1 - 1)), rs_, rs_, H', ⟨by have := HK1.out; omega⟩, ⟨pl_ BK320⟩, ⟨pl_ BK321⟩, ⟨bl_ HB⟩⟩
      ·rw [if_neg c9] at H
       exact absurd H (by simp)
     ·rw [if_neg c8] at H
      exact absurd H (by simp)
    ·rw [if_neg c7] at H
     exact absurd H (by simp)
   ·rw [if_neg c6] at H
    have c6b0 : decide (0 ≤ x6_1) = false := decide_eq_false c6
    clear c6
    obtain rfl := Option.some.inj H
    go_wp2
    repeat (go_quiet (fail); try go_wp2)
    go_ret
    exact ⟨by first | rfl | (simp [errW_none, errW_some] <;> rfl) | (simp [*, errW_none, errW_some] <;> rfl), bl_ HB⟩

end Go.Proofs.Ytodmfjophjhbeaa.M
