-- By this seat's own program over the kit's printer (arrays, functions told by hand); nothing of it is trusted: the kernel checks it.
import Derived.Test.YtonifpgaagdohaaMx0
import Derived.Test.YtonifpgaagdohaaMx6
import Derived.Test.YtonifpgaagdohaaMx7
import Derived.Test.YtonifpgaagdohaaMx11
namespace Go.Proofs.Ytonifpgaagdohaa.M
open Go.RowKit Go.Proofs.YtonifpgaagdohaaW.PrintWords Go.Proofs.YtonifpgaagdohaaW.PrintLast Go.Proofs.YtonifpgaagdohaaW.PrintMore
attribute [local go_sem] max2_int min2_int max_two min_two max_three min_three max_four min_four   -- for this text's walks alone
set_option linter.unusedVariables false
set_option linter.unusedSimpArgs false

/-! ### spec_AddWord: function 18 -/
def spec_AddWord.j0 : Nat → Bool → Int → Int → List (S40) → Int → Int → Int → Int → Option (Int × Int × (List (S40)) × Int)
 | 0, _, _, _, _, _, _, _, _ => none
 | k + 1, x16, x148000, x148001, x148002, x149000, x149001, x149002, x149003 => if x16 = true then (some (0, 0, ([] : List (S40)), 1)) else (if (x148002.length : Int) ≥ 80 then (some (0, 0, ([] : List (S40)), 3)) else ((spec_l04Copy.f x148000 x148001 x148002).bind fun bt152 => (if bt152.2.2.length < 35184372088832 then (some (bt152.1, bt152.2.1, (bt152.2.2 ++ [(⟨x149000, x149001, x149002, x149003⟩ : S40)]), 0)) else (none))))
def spec_AddWord.f (k : Nat) (a0_0 : Int) (a0_1 : Int) (l0_2 : List (S40)) (a1_0 : Int) (a1_1 : Int) (a1_2 : Int) (a1_3 : Int) : Option (Int × Int × (List (S40)) × Int) := (spec_l04Ok.f k a0_0 a0_1 l0_2).bind fun t150 => (if t150 = true then ((spec_l04Word.f k (wrap64 (a0_0)) a1_0 a1_1 a1_2 a1_3).bind fun t151 => (spec_AddWord.j0 k (!t151) a0_0 a0_1 l0_2 a1_0 a1_1 a1_2 a1_3)) else (spec_AddWord.j0 k true a0_0 a0_1 l0_2 a1_0 a1_1 a1_2 a1_3))
theorem spec_AddWord.mono_l : ∀ k, (∀ y0 y1 y2 y3 y4 y5 y6 y7, LeO (spec_AddWord.j0 k y0 y1 y2 y3 y4 y5 y6 y7) (spec_AddWord.j0 (k + 1) y0 y1 y2 y3 y4 y5 y6 y7))
 | 0 => fun _ _ _ _ _ _ _ _ r h => by simp [spec_AddWord.j0] at h
 | k + 1 => by
  have ih0 := spec_AddWord.mono_l k
  ·intro y0 y1 y2 y3 y4 y5 y6 y7
   unfold spec_AddWord.j0
   repeat' first
   | (with_reducible exact ih0 _ _ _ _ _ _ _ _)
   | (with_reducible exact spec_l04Ok.mono _ _ _ _)
   | (with_reducible exact spec_l04Word.mono _ _ _ _ _ _)
   | (with_reducible exact LeO.refl _)
   | (with_reducible exact LeO.none _)
   | (with_reducible refine LeO.ite ?_ ?_)
   | (with_reducible refine LeO.bind ?_ (fun _ => ?_))
   | exact ih0 _ _ _ _ _ _ _ _
   | exact spec_l04Ok.mono _ _ _ _
   | exact spec_l04Word.mono _ _ _ _ _ _
   | exact LeO.none _
   | refine LeO.ite ?_ ?_
   | refine LeO.bind ?_ (fun _ => ?_)
theorem spec_AddWord.mono : ∀ a0 a1 a2 a3 a4 a5 a6 k, LeO (spec_AddWord.f k a0 a1 a2 a3 a4 a5 a6) (spec_AddWord.f (k + 1) a0 a1 a2 a3 a4 a5 a6) := by
 intro a0 a1 a2 a3 a4 a5 a6 k
 have ih0 := spec_AddWord.mono_l k
 unfold spec_AddWord.f
 repeat' first
   | (with_reducible exact ih0 _ _ _ _ _ _ _ _)
   | (with_reducible exact spec_l04Ok.mono _ _ _ _)
   | (with_reducible exact spec_l04Word.mono _ _ _ _ _ _)
   | (with_reducible exact LeO.refl _)
   | (with_reducible exact LeO.none _)
   | (with_reducible refine LeO.ite ?_ ?_)
   | (with_reducible refine LeO.bind ?_ (fun _ => ?_))
   | exact ih0 _ _ _ _ _ _ _ _
   | exact spec_l04Ok.mono _ _ _ _
   | exact spec_l04Word.mono _ _ _ _ _ _
   | exact LeO.none _
   | refine LeO.ite ?_ ?_
   | refine LeO.bind ?_ (fun _ => ?_)
set_option maxHeartbeats 8000000 in
set_option maxRecDepth 100000 in
theorem spec_AddWord.calls (k : Nat) (a0_0 : Int) (a0_1 : Int) (A0_2 : Option Addr) (c0_2 : Nat) (l0_2 : List (S40)) (a1_0 : Int) (a1_1 : Int) (a1_2 : Int) (a1_3 : Int) (r1 : Int) (r2 : Int) (r3 : List (S40)) (r4 : Int) (w : World) (hr0_2 : Kd.C k40 w A0_2 l0_2.length l0_2) (hc0_2 : l0_2.length ≤ c0_2) (h : spec_AddWord.f k a0_0 a0_1 l0_2 a1_0 a1_1 a1_2 a1_3 = some (r1, r2, r3, r4)) :
  Calls Try.prog 18 #[.agg #[.int .i8 a0_0, .int .i8 a0_1, .slice A0_2 l0_2.length c0_2], .agg #[.int .i8 a1_0, .int .i8 a1_1, .int .i8 a1_2, .int .i8 a1_3]] w fun e w' => ∃ v2_ : Value, e = .returned (.tuple #[.agg #[.int .i8 r1, .int .i8 r2, v2_], .int .i64 r4]) ∧ Kd.R k40 40 w' w.heap.size (fun _ => True) v2_ r3 ∧ Below w.heap.size w w' := by
 have hu30 := Try.underlying30
 have hu40 := Try.underlying40
 have HR0_2 := Aside0.mk hr0_2
 have HC0_2 := Aside0.mk hc0_2
 clear hr0_2 hc0_2
 have HB := A_ (Below.refl w.heap.size w)
 have H : ((spec_l04Ok.f k a0_0 a0_1 l0_2).bind fun t150 => (if t150 = true then ((spec_l04Word.f k (wrap64 (a0_0)) a1_0 a1_1 a1_2 a1_3).bind fun t151 => (spec_AddWord.j0 k (!t151) a0_0 a0_1 l0_2 a1_0 a1_1 a1_2 a1_3)) else (spec_AddWord.j0 k true a0_0 a0_1 l0_2 a1_0 a1_1 a1_2 a1_3))) = some (r1, r2, r3, r4) := h
 clear h
 have HC3 := Aside0.mk H
 clear H
 go_enter Try.func18, Try.ntmps18
 go_upto_region 1 with (first | ((with_reducible refine gate_dst (N := 2) rfl ?_); refine box_event ?hg (N := 2) ?hd (cs := #[.int .i8 a0_0, .int .i8 a0_1, .slice A0_2 l0_2.length c0_2]) (t := 30) ?hr ?_; (case hd => rfl); (case hg => rfl); (case hr => first | (go_simp; done) | (go_simp; rfl)); intro gb147 hg w4 hbox hb; have n0_ := A_ (below_step (bl_ HB) hb); have n1_ := A_ (hbox); have n2_ := A_ ((by rw [hg]; exact (below_size (bl_ HB)) : w.heap.size ≤ gb147)); have n3_ := n2_; clear HB; have HB := n0_; have BK147 := n1_; have GW147 := n2_; have GE147 := n3_; clear n0_ n1_ n2_ n3_; clear hb hbox hg) | ((with_reducible refine gate_dst (N := 3) rfl ?_); refine box_event ?hg (N := 3) ?hd (cs := #[.int .i8 a1_0, .int .i8 a1_1, .int .i8 a1_2, .int .i8 a1_3]) (t := 40) ?hr ?_; (case hd => rfl); (case hg => rfl); (case hr => first | (go_simp; done) | (go_simp; rfl)); intro gb148 hg w5 hbox hb; have n0_ := A_ (blk_below (pl_ BK147) hb); have n1_ := A_ (below_step (bl_ HB) hb); have n2_ := A_ (hbox); have n3_ := A_ ((by rw [hg]; exact (below_size (bl_ HB)) : w.heap.size ≤ gb148)); have n4_ := n3_; have n5_ := A_ ((by rw [hg]; exact Nat.ne_of_lt (blk_lt (pl_ BK147)) : gb147 ≠ gb148)); have n6_ := Aside0.mk n5_.out.symm; clear BK147; clear HB; have BK147 := n0_; have HB := n1_; have BK148 := n2_; have GW148 := n3_; have GE148 := n4_; have NB147_148 := n5_; have NB148_147 := n6_; clear n0_ n1_ n2_ n3_ n4_ n5_ n6_; clear hb hbox hg) | ((with_reducible refine gate_dst (N := 4) rfl ?_); refine box_event ?hg (N := 4) ?hd (cs := #[.int .i8 0, .int .i8 0, .slice none 0 0]) (t := 30) ?hr ?_; (case hd => rfl); (case hg => rfl); (case hr => first | (go_simp; done) | (go_simp; rfl)); intro gb149 hg w6 hbox hb; have n0_ := A_ (blk_below (pl_ BK147) hb); have n1_ := A_ (blk_below (pl_ BK148) hb); have n2_ := A_ (below_step (bl_ HB) hb); have n3_ := A_ (hbox); have n4_ := A_ ((by rw [hg]; exact (below_size (bl_ HB)) : w.heap.size ≤ gb149)); have n5_ := n4_; have n6_ := A_ ((by rw [hg]; exact Nat.ne_of_lt (blk_lt (pl_ BK147)) : gb147 ≠ gb149)); have n7_ := Aside0.mk n6_.out.symm; have n8_ := A_ ((by rw [hg]; exact Nat.ne_of_lt (blk_lt (pl_ BK148)) : gb148 ≠ gb149)); have n9_ := Aside0.mk n8_.out.symm; clear BK147; clear BK148; clear HB; have BK147 := n0_; have BK148 := n1_; have HB := n2_; have BK149 := n3_; have GW149 := n4_; have GE149 := n5_; have NB147_149 := n6_; have NB149_147 := n7_; have NB148_149 := n8_; have NB149_148 := n9_; clear n0_ n1_ n2_ n3_ n4_ n5_ n6_ n7_ n8_ n9_; clear hb hbox hg))
 (try simp only [Act.put, List.setIfInBounds_toArray, List.set_cons_zero, List.set_cons_succ])
 go_cut [16] (fun v16 wc => ∃ (kq : Nat) (x16_2 : Bool) (x148000_2 : Int) (x148001_2 : Int), v16 = .bool x16_2 ∧ Aside0 (spec_AddWord.j0 kq x16_2 x148000_2 x148001_2 l0_2 a1_0 a1_1 a1_2 a1_3 = some (r1, r2, r3, r4)) ∧ Aside0 (kq ≤ k) ∧ Aside0 (wc.heap[gb147]? = some (.cells #[.int .i8 x148000_2, .int .i8 x148001_2, (.slice A0_2 l0_2.length c0_2)] 30 (0, 0))) ∧ Aside0 (wc.heap[gb148]? = some (.cells #[.int .i8 a1_0, .int .i8 a1_1, .int .i8 a1_2, .int .i8 a1_3] 40 (0, 0))) ∧ Aside0 (wc.heap[gb149]? = some (.cells #[.int .i8 0, .int .i8 0, (.slice none 0 0)] 30 (0, 0))) ∧ Aside0 (Below w.heap.size w wc))
 case first =>
  have H := HC3.out
  clear HC3
  replace H := Option.bind_eq_some_iff.mp H
  obtain ⟨t150, A70, H⟩ := H
  replace H : (if t150 = true then ((spec_l04Word.f k (wrap64 (a0_0)) a1_0 a1_1 a1_2 a1_3).bind fun t151 => (spec_AddWord.j0 k (!t151) a0_0 a0_1 l0_2 a1_0 a1_1 a1_2 a1_3)) else (spec_AddWord.j0 k true a0_0 a0_1 l0_2 a1_0 a1_1 a1_2 a1_3)) = some (r1, r2, r3, r4) := H
  have A7 := Aside0.mk A70
  clear A70
  by_cases c8 : t150 = true
  ·subst c8
   have H1 : ((spec_l04Word.f k (wrap64 (a0_0)) a1_0 a1_1 a1_2 a1_3).bind fun t151 => (spec_AddWord.j0 k (!t151) a0_0 a0_1 l0_2 a1_0 a1_1 a1_2 a1_3)) = some (r1, r2, r3, r4) := by rw [if_pos rfl] at H; exact H
   clear H
   have H := H1
   clear H1
   replace H := Option.bind_eq_some_iff.mp H
   obtain ⟨t151, A90, H⟩ := H
   replace H : (spec_AddWord.j0 k (!t151) a0_0 a0_1 l0_2 a1_0 a1_1 a1_2 a1_3) = some (r1, r2, r3, r4) := H
   have A9 := Aside0.mk A90
   clear A90
   have H' := Aside0.mk H
   clear H
   go_wp2_with (first | ((with_reducible refine gate_callee (f := 34) rfl ?_); refine goesL_ (some 7) rfl rfl Try.func34 (by kernel_rfl) rfl #[.pointer (some ⟨gb147, 0, none⟩)] rfl arg_ ?_; (with_reducible refine (spec_l04Ok.calls k gb147 a0_0 a0_1 A0_2 c0_2 l0_2 true _ ?side1 ?side2 ?side3 A7.out).mono ?_); (case side1 => exact (pl_ BK147)); (case side2 => repeat (first | exact (Kd.C_below HR0_2.out HB.out) | (with_reducible refine Kd.C_alloc ?_ _) | (with_reducible refine Kd.C_drewN ?_ _) | (with_reducible refine Kd.C_drew ?_))); (case side3 => exact HC0_2.out); rintro e w10 ⟨rfl, hb⟩; refine ⟨_, rfl, ?_⟩; have n0_ := A_ (blk_below (pl_ BK147) hb); have n1_ := A_ (blk_below (pl_ BK148) hb); have n2_ := A_ (blk_below (pl_ BK149) hb); have n3_ := A_ (below_step (bl_ HB) hb); clear BK147; clear BK148; clear BK149; clear HB; have BK147 := n0_; have BK148 := n1_; have BK149 := n2_; have HB := n3_; clear n0_ n1_ n2_ n3_; (try clear hb); (try clear hb2); (try clear hk); (try clear hi); have hnb11 := NB147_148.out; have hnc11 := NB148_147.out; have hnb12 := NB147_149.out; have hnc12 := NB149_147.out; have hcz13_0 : w10.cell? ⟨gb147, 0, none⟩ = some (.int .i8 a0_0) := (blk_cell BK147.out 0).trans rfl; have hcz13_1 : w10.cell? ⟨gb147, 1, none⟩ = some (.int .i8 a0_1) := (blk_cell BK147.out 1).trans rfl; have hcz13_2 : w10.cell? ⟨gb147, 2, none⟩ = some (.slice A0_2 l0_2.length c0_2) := (blk_cell BK147.out 2).trans rfl; have hfz13_0 := blk_frozen BK147.out 0; have hfz13_1 := blk_frozen BK147.out 1; have hfz13_2 := blk_frozen BK147.out 2; have hnb14 := NB148_149.out; have hnc14 := NB149_148.out; have hcz15_0 : w10.cell? ⟨gb148, 0, none⟩ = some (.int .i8 a1_0) := (blk_cell BK148.out 0).trans rfl; have hcz15_1 : w10.cell? ⟨gb148, 1, none⟩ = some (.int .i8 a1_1) := (blk_cell BK148.out 1).trans rfl; have hcz15_2 : w10.cell? ⟨gb148, 2, none⟩ = some (.int .i8 a1_2) := (blk_cell BK148.out 2).trans rfl; have hcz15_3 : w10.cell? ⟨gb148, 3, none⟩ = some (.int .i8 a1_3) := (blk_cell BK148.out 3).trans rfl; have hfz15_0 := blk_frozen BK148.out 0; have hfz15_1 := blk_frozen BK148.out 1; have hfz15_2 := blk_frozen BK148.out 2; have hfz15_3 := blk_frozen BK148.out 3) | (go_at_call 44; (with_reducible refine (spec_l04Word.calls k (wrap64 (a0_0)) a1_0 a1_1 a1_2 a1_3 t151 _ A9.out).mono ?_); rintro e w16 ⟨rfl, hb⟩; have n0_ := A_ (blk_below (pl_ BK147) hb); have n1_ := A_ (blk_below (pl_ BK148) hb); have n2_ := A_ (blk_below (pl_ BK149) hb); have n3_ := A_ (below_step (bl_ HB) hb); clear BK147; clear BK148; clear BK149; clear HB; have BK147 := n0_; have BK148 := n1_; have BK149 := n2_; have HB := n3_; clear n0_ n1_ n2_ n3_; (try clear hb); (try clear hb2); (try clear hk); (try clear hi)))
   go_meet
   case rel => exact ⟨_, (!t151), (a0_0), (a0_1), rs_, H', ⟨by first | omega | exact Nat.le_refl _⟩, ⟨pl_ BK147⟩, ⟨pl_ BK148⟩, ⟨pl_ BK149⟩, ⟨bl_ HB⟩⟩
  ·replace c8 := Bool.eq_false_iff.mpr c8
   subst c8
   have H1 : (spec_AddWord.j0 k true a0_0 a0_1 l0_2 a1_0 a1_1 a1_2 a1_3) = some (r1, r2, r3, r4) := by rw [if_neg (show ¬ (false = true) by decide)] at H; exact H
   clear H
   have H := H1
   clear H1
   have H' := Aside0.mk H
   clear H
   go_wp2_with (first | ((with_reducible refine gate_callee (f := 34) rfl ?_); refine goesL_ (some 7) rfl rfl Try.func34 (by kernel_rfl) rfl #[.pointer (some ⟨gb147, 0, none⟩)] rfl arg_ ?_; (with_reducible refine (spec_l04Ok.calls k gb147 a0_0 a0_1 A0_2 c0_2 l0_2 false _ ?side1 ?side2 ?side3 A7.out).mono ?_); (case side1 => exact (pl_ BK147)); (case side2 => repeat (first | exact (Kd.C_below HR0_2.out HB.out) | (with_reducible refine Kd.C_alloc ?_ _) | (with_reducible refine Kd.C_drewN ?_ _) | (with_reducible refine Kd.C_drew ?_))); (case side3 => exact HC0_2.out); rintro e w17 ⟨rfl, hb⟩; refine ⟨_, rfl, ?_⟩; have n0_ := A_ (blk_below (pl_ BK147) hb); have n1_ := A_ (blk_below (pl_ BK148) hb); have n2_ := A_ (blk_below (pl_ BK149) hb); have n3_ := A_ (below_step (bl_ HB) hb); clear BK147; clear BK148; clear BK149; clear HB; have BK147 := n0_; have BK148 := n1_; have BK149 := n2_; have HB := n3_; clear n0_ n1_ n2_ n3_; (try clear hb); (try clear hb2); (try clear hk); (try clear hi)))
   go_meet
   case rel => exact ⟨_, (true), (a0_0), (a0_1), rs_, H', ⟨by first | omega | exact Nat.le_refl _⟩, ⟨pl_ BK147⟩, ⟨pl_ BK148⟩, ⟨pl_ BK149⟩, ⟨bl_ HB⟩⟩
 case rest =>
  clear HC3
  try clear c1
  try clear p2
  try clear c3
  try clear p6
  try clear c8
  try clear c11
  try clear c12
  try clear c14
  try clear hcz13_0
  try clear hcz13_1
  try clear hcz13_2
  try clear hcz15_0
  try clear hcz15_1
  try clear hcz15_2
  try clear hcz15_3
  try clear hfz13_0
  try clear hfz13_1
  try clear hfz13_2
  try clear hfz15_0
  try clear hfz15_1
  try clear hfz15_2
  try clear hfz15_3
  obtain ⟨kq, x16_2, x148000_2, x148001_2, rfl, HA, HJ2, BK147, BK148, BK149, HB⟩ := hcut
  cases kq with
  | zero => exact absurd HA.out (by simp [spec_AddWord.j0])
  | succ kj2 =>
   have H := HA.out
   clear HA
   simp only [spec_AddWord.j0] at H
   by_cases c18 : x16_2 = true
   ·subst c18
    have H1 : (some (0, 0, ([] : List (S40)), 1)) = some (r1, r2, r3, r4) := by rw [if_pos rfl] at H; exact H
    clear H
    have H := H1
    clear H1
    simp only [Option.some.injEq, Prod.mk.injEq] at H
    obtain ⟨rfl, rfl, rfl, rfl⟩ := H
    have hnb19 := NB149_147.out
    have hnc19 := NB147_149.out
    have hnb20 := NB149_148.out
    have hnc20 := NB148_149.out
    have hcz21_0 : wc.cell? ⟨gb149, 0, none⟩ = some (.int .i8 0) := (blk_cell BK149.out 0).trans rfl
    have hcz21_1 : wc.cell? ⟨gb149, 1, none⟩ = some (.int .i8 0) := (blk_cell BK149.out 1).trans rfl
    have hcz21_2 : wc.cell? ⟨gb149, 2, none⟩ = some (.slice none 0 0) := (blk_cell BK149.out 2).trans rfl
    have hfz21_0 := blk_frozen BK149.out 0
    have hfz21_1 := blk_frozen BK149.out 1
    have hfz21_2 := blk_frozen BK149.out 2
    go_wp2
    refine bodyPost_ret (results_ct rfl _ _ gb149 30 #[.int .i8 0, .int .i8 0, .slice none 0 0] (0, 0) _ rfl (by (with_reducible repeat (first | refine blk_drewN ?_ _ | refine blk_drew ?_ | refine blk_alloc ?_ _)); refine blk_put (cs := #[.int .i8 0, .int .i8 0, .slice none 0 0]) ?_ 2 _ rfl; (with_reducible repeat (first | refine blk_drewN ?_ _ | refine blk_drew ?_ | refine blk_alloc ?_ _)); refine blk_put (cs := #[.int .i8 0, .int .i8 0, .slice none 0 0]) ?_ 1 _ rfl; (with_reducible repeat (first | refine blk_drewN ?_ _ | refine blk_drew ?_ | refine blk_alloc ?_ _)); refine blk_put (cs := #[.int .i8 0, .int .i8 0, .slice none 0 0]) ?_ 0 _ rfl; (with_reducible repeat (first | refine blk_drewN ?_ _ | refine blk_drew ?_ | refine blk_alloc ?_ _)); exact BK149.out) Try.underlying30 rfl (by kernel_rfl)) rfl ?_
    exact ⟨_, by first | rfl | (simp [errW_none, errW_some] <;> rfl) | (simp [*, errW_none, errW_some] <;> rfl), by first | exact Kd.R_nil _ _ _ _ _ | exact Kd.N_nil _ _ _ _ _ | exact Kd.V_nil _ _ _ _ _ | exact Kd.Q_nil _ _ _ _ _ | exact Kd.S_nil _ _ _ _ _, bs_ HB GE149⟩
   ·replace c18 := Bool.eq_false_iff.mpr c18
    subst c18
    have H1 : (if (l0_2.length : Int) ≥ 80 then (some (0, 0, ([] : List (S40)), 3)) else ((spec_l04Copy.f x148000_2 x148001_2 l0_2).bind fun bt152 => (if bt152.2.2.length < 35184372088832 then (some (bt152.1, bt152.2.1, (bt152.2.2 ++ [(⟨a1_0, a1_1, a1_2, a1_3⟩ : S40)]), 0)) else (none)))) = some (r1, r2, r3, r4) := by rw [if_neg (show ¬ (false = true) by decide)] at H; exact H
    clear H
    have H := H1
    clear H1
    by_cases c22 : (l0_2.length : Int) ≥ 80
    ·rw [if_pos c22] at H
     have c22b0 : decide (80 ≤ (l0_2.length : Int)) = true := decide_eq_true c22
     have c22b1 : decide (80 ≤ l0_2.length) = true := decide_eq_true (by omega)
     clear c22
     simp only [Option.some.injEq, Prod.mk.injEq] at H
     obtain ⟨rfl, rfl, rfl, rfl⟩ := H
     have hnb23 := NB147_148.out
     have hnc23 := NB148_147.out
     have hnb24 := NB147_149.out
     have hnc24 := NB149_147.out
     have hcz25_0 : wc.cell? ⟨gb147, 0, none⟩ = some (.int .i8 x148000_2) := (blk_cell BK147.out 0).trans rfl
     have hcz25_1 : wc.cell? ⟨gb147, 1, none⟩ = some (.int .i8 x148001_2) := (blk_cell BK147.out 1).trans rfl
     have hcz25_2 : wc.cell? ⟨gb147, 2, none⟩ = some (.slice A0_2 l0_2.length c0_2) := (blk_cell BK147.out 2).trans rfl
     have hfz25_0 := blk_frozen BK147.out 0
     have hfz25_1 := blk_frozen BK147.out 1
     have hfz25_2 := blk_frozen BK147.out 2
     have hnb26 := NB149_148.out
     have hnc26 := NB148_149.out
     have hcz27_0 : wc.cell? ⟨gb149, 0, none⟩ = some (.int .i8 0) := (blk_cell BK149.out 0).trans rfl
     have hcz27_1 : wc.cell? ⟨gb149, 1, none⟩ = some (.int .i8 0) := (blk_cell BK149.out 1).trans rfl
     have hcz27_2 : wc.cell? ⟨gb149, 2, none⟩ = some (.slice none 0 0) := (blk_cell BK149.out 2).trans rfl
     have hfz27_0 := blk_frozen BK149.out 0
     have hfz27_1 := blk_frozen BK149.out 1
     have hfz27_2 := blk_frozen BK149.out 2
     go_wp2
     refine bodyPost_ret (results_ct rfl _ _ gb149 30 #[.int .i8 0, .int .i8 0, .slice none 0 0] (0, 0) _ rfl (by (with_reducible repeat (first | refine blk_drewN ?_ _ | refine blk_drew ?_ | refine blk_alloc ?_ _)); refine blk_put (cs := #[.int .i8 0, .int .i8 0, .slice none 0 0]) ?_ 2 _ rfl; (with_reducible repeat (first | refine blk_drewN ?_ _ | refine blk_drew ?_ | refine blk_alloc ?_ _)); refine blk_put (cs := #[.int .i8 0, .int .i8 0, .slice none 0 0]) ?_ 1 _ rfl; (with_reducible repeat (first | refine blk_drewN ?_ _ | refine blk_drew ?_ | refine blk_alloc ?_ _)); refine blk_put (cs := #[.int .i8 0, .int .i8 0, .slice none 0 0]) ?_ 0 _ rfl; (with_reducible repeat (first | refine blk_drewN ?_ _ | refine blk_drew ?_ | refine blk_alloc ?_ _)); exact BK149.out) Try.underlying30 rfl (by kernel_rfl)) rfl ?_
     exact ⟨_, by first | rfl | (simp [errW_none, errW_some] <;> rfl) | (simp [*, errW_none, errW_some] <;> rfl), by first | exact Kd.R_nil _ _ _ _ _ | exact Kd.N_nil _ _ _ _ _ | exact Kd.V_nil _ _ _ _ _ | exact Kd.Q_nil _ _ _ _ _ | exact Kd.S_nil _ _ _ _ _, bs_ HB GE149⟩
    ·rw [if_neg c22] at H
     have c22b0 : decide (80 ≤ (l0_2.length : Int)) = false := decide_eq_false c22
     have c22b1 : decide (80 ≤ l0_2.length) = false := decide_eq_false (by omega)
     clear c22
     replace H := Option.bind_eq_some_iff.mp H
     obtain ⟨⟨t152, t153, t154⟩, A280, H⟩ := H
     replace H : (if t154.length < 35184372088832 then (some (t152, t153, (t154 ++ [(⟨a1_0, a1_1, a1_2, a1_3⟩ : S40)]), 0)) else (none)) = some (r1, r2, r3, r4) := H
     have A28 := Aside0.mk A280
     clear A280
     by_cases c29 : t154.length < 35184372088832
     ·rw [if_pos c29] at H
      have LMc29 := Aside0.mk c29
      clear c29
      obtain ⟨y158, hy158⟩ : ∃ y_ : List (S40), y_ = (t154 ++ [(⟨a1_0, a1_1, a1_2, a1_3⟩ : S40)]) := ⟨_, rfl⟩
      replace H : (some (t152, t153, y158, 0)) = some (r1, r2, r3, r4) := by first | (rw [hy158]; with_reducible exact H) | (have H2_ := (Option.bind_some _ _).symm.trans H; rw [hy158]; with_reducible exact H2_) | (have H2_ := (Option.bind_some _ _).symm.trans H; with_reducible exact H2_) | with_reducible exact H | (rw [hy158]; exact H) | exact H
      have Ny158 := Aside0.mk hy158
      clear hy158
      simp only [Option.some.injEq, Prod.mk.injEq] at H
      obtain ⟨rfl, rfl, rfl, rfl⟩ := H
      have hnb30 := NB147_148.out
      have hnc30 := NB148_147.out
      have hnb31 := NB147_149.out
      have hnc31 := NB149_147.out
      have hcz32_0 : wc.cell? ⟨gb147, 0, none⟩ = some (.int .i8 x148000_2) := (blk_cell BK147.out 0).trans rfl
      have hcz32_1 : wc.cell? ⟨gb147, 1, none⟩ = some (.int .i8 x148001_2) := (blk_cell BK147.out 1).trans rfl
      have hcz32_2 : wc.cell? ⟨gb147, 2, none⟩ = some (.slice A0_2 l0_2.length c0_2) := (blk_cell BK147.out 2).trans rfl
      have hfz32_0 := blk_frozen BK147.out 0
      have hfz32_1 := blk_frozen BK147.out 1
      have hfz32_2 := blk_frozen BK147.out 2
      go_wp2_with (first | ((with_reducible refine gate_callee (f := 45) rfl ?_); refine goesL_ (some 23) rfl rfl Try.func45 (by kernel_rfl) rfl #[.pointer (some ⟨gb147, 0, none⟩)] rfl arg_ ?_; (with_reducible refine (spec_l04Copy.calls gb147 x148000_2 x148001_2 A0_2 c0_2 l0_2 t152 t153 t154 _ ?side1 ?side2 ?side3 A28.out).mono ?_); (case side1 => exact (pl_ BK147)); (case side2 => repeat (first | exact (Kd.C_below HR0_2.out HB.out) | (with_reducible refine Kd.C_alloc ?_ _) | (with_reducible refine Kd.C_drewN ?_ _) | (with_reducible refine Kd.C_drew ?_))); (case side3 => exact HC0_2.out); rintro e w33 ⟨v155, rfl, ho0, hb⟩; refine ⟨_, rfl, ?_⟩; have n0_ := A_ (Kd.R_lower (Kd.R_newB ho0 (pl_ BK148)) (below_size (bl_ HB))); have n1_ := A_ (blk_below (pl_ BK147) hb); have n2_ := A_ (blk_below (pl_ BK148) hb); have n3_ := A_ (blk_below (pl_ BK149) hb); have n4_ := A_ (below_step (bl_ HB) hb); clear BK147; clear BK148; clear BK149; clear HB; have HO156 := n0_; have BK147 := n1_; have BK148 := n2_; have BK149 := n3_; have HB := n4_; clear n0_ n1_ n2_ n3_ n4_; (try clear hb); (try clear hb2); (try clear hk); (try clear hi); (try clear ho0)) | ((with_reducible refine gate_dst (N := 6) rfl ?_); refine box_event ?hg (N := 6) ?hd (cs := #[.int .i8 0, .int .i8 0, .slice none 0 0]) (t := 30) ?hr ?_; (case hd => rfl); (case hg => rfl); (case hr => first | (go_simp; done) | (go_simp; rfl)); intro gb157 hg w34 hbox hb; have n0_ := A_ (Kd.R_below (pr_ HO156) hb); have n1_ := A_ (blk_below (pl_ BK147) hb); have n2_ := A_ (blk_below (pl_ BK148) hb); have n3_ := A_ (blk_below (pl_ BK149) hb); have n4_ := A_ (below_step (bl_ HB) hb); have n5_ := A_ (hbox); have n6_ := A_ ((by rw [hg]; exact (below_size (bl_ HB)) : w.heap.size ≤ gb157)); have n7_ := n6_; have n8_ := A_ ((by rw [hg]; exact Nat.ne_of_lt (blk_lt (pl_ BK147)) : gb147 ≠ gb157)); have n9_ := Aside0.mk n8_.out.symm; have n10_ := A_ ((by rw [hg]; exact Nat.ne_of_lt (blk_lt (pl_ BK148)) : gb148 ≠ gb157)); have n11_ := Aside0.mk n10_.out.symm; have n12_ := A_ ((by rw [hg]; exact Nat.ne_of_lt (blk_lt (pl_ BK149)) : gb149 ≠ gb157)); have n13_ := Aside0.mk n12_.out.symm; clear HO156; clear BK147; clear BK148; clear BK149; clear HB; have HO156 := n0_; have BK147 := n1_; have BK148 := n2_; have BK149 := n3_; have HB := n4_; have BK157 := n5_; have GW157 := n6_; have GE157 := n7_; have NB147_157 := n8_; have NB157_147 := n9_; have NB148_157 := n10_; have NB157_148 := n11_; have NB149_157 := n12_; have NB157_149 := n13_; clear n0_ n1_ n2_ n3_ n4_ n5_ n6_ n7_ n8_ n9_ n10_ n11_ n12_ n13_; clear hb hbox hg; have hnb35 := NB157_147.out; have hnc35 := NB147_157.out; have hnb36 := NB157_148.out; have hnc36 := NB148_157.out; have hnb37 := NB157_149.out; have hnc37 := NB149_157.out; have hcz38_0 : w34.cell? ⟨gb157, 0, none⟩ = some (.int .i8 0) := (blk_cell BK157.out 0).trans rfl; have hcz38_1 : w34.cell? ⟨gb157, 1, none⟩ = some (.int .i8 0) := (blk_cell BK157.out 1).trans rfl; have hcz38_2 : w34.cell? ⟨gb157, 2, none⟩ = some (.slice none 0 0) := (blk_cell BK157.out 2).trans rfl; have hfz38_0 := blk_frozen BK157.out 0; have hfz38_1 := blk_frozen BK157.out 1; have hfz38_2 := blk_frozen BK157.out 2; obtain ⟨Ao39, co39, eo39⟩ := Kd.R_slice HO156.out; subst eo39; have hnb40 := NB148_149.out; have hnc40 := NB149_148.out; have hcz41_0 : w34.cell? ⟨gb148, 0, none⟩ = some (.int .i8 a1_0) := (blk_cell BK148.out 0).trans rfl; have hcz41_1 : w34.cell? ⟨gb148, 1, none⟩ = some (.int .i8 a1_1) := (blk_cell BK148.out 1).trans rfl; have hcz41_2 : w34.cell? ⟨gb148, 2, none⟩ = some (.int .i8 a1_2) := (blk_cell BK148.out 2).trans rfl; have hcz41_3 : w34.cell? ⟨gb148, 3, none⟩ = some (.int .i8 a1_3) := (blk_cell BK148.out 3).trans rfl; have hfz41_0 := blk_frozen BK148.out 0; have hfz41_1 := blk_frozen BK148.out 1; have hfz41_2 := blk_frozen BK148.out 2; have hfz41_3 := blk_frozen BK148.out 3) | ((with_reducible refine gate_builtin (b := .append) (xs := #[.tmp 25, .tmp 27]) rfl ?_); at_builtin; refine Kd.R_append k40 (w0 := w) w.heap.size rfl (.tmp 25) (.tmp 27) 28 40 (.agg #[(.int .i8 0), (.int .i8 0), (.int .i8 0), (.int .i8 0)]) 4 rfl Try.underlying28 info40 rfl (by decide) (by omega) (.slice Ao39 t154.length co39) t154 (⟨a1_0, a1_1, a1_2, a1_3⟩ : S40) [.int .i8 a1_0, .int .i8 a1_1, .int .i8 a1_2, .int .i8 a1_3] (fun k_ => k_ ≠ gb148) (fun _ => False) rfl (by first | (go_simp; done) | (go_simp; rfl)) ?aP (fun _ hk => hk.elim) ?aF ?aO ?aB ?aS ?aL ?_; (case aP => exact k40_mkM _ _ _ (⟨a1_0, a1_1, a1_2, a1_3⟩ : S40)); (case aB => exact (bs_ HB GE157)); (case aF => exact (fun k_ hk => Kd.freshB (g := gb148) (o := .cells #[.int .i8 a1_0, .int .i8 a1_1, .int .i8 a1_2, .int .i8 a1_3] 40 (0, 0)) (pf_ BK148 NB148_157) k_ hk)); (case aO => exact (by (with_reducible repeat (first | apply Kd.R_alloc | apply Kd.R_drewN | apply Kd.R_drew)); exact Kd.R_mono (Kd.R_far (p := ⟨gb157, 2, none⟩) (Kd.R_far (p := ⟨gb157, 1, none⟩) (Kd.R_far (p := ⟨gb157, 0, none⟩) (Kd.R_types HO156.out BK157.out (by decide)) (fun _ hk => hk.2) (.int .i8 t152)) (fun _ hk => hk.2) (.int .i8 t153)) (fun _ hk => hk.2) (.slice Ao39 t154.length co39)) (fun _ hk => hk.1.2))); (case aS => exact (below_size (bs_ HB GE157))); (case aL => have := LMc29.out; omega); intro v159 w42 ho hb hg hat; rw [← Ny158.out] at ho; have n0_ := A_ (blk_grown (g := gb147) (o := .cells #[.int .i8 x148000_2, .int .i8 x148001_2, .slice A0_2 l0_2.length c0_2] 30 (0, 0)) (pf_ BK147 NB147_157) hg (Kd.R_ne HO156.out BK147.out (by decide))); have n1_ := A_ (blk_grown (g := gb148) (o := .cells #[.int .i8 a1_0, .int .i8 a1_1, .int .i8 a1_2, .int .i8 a1_3] 40 (0, 0)) (pf_ BK148 NB148_157) hg (Kd.R_away HO156.out (fun _ hk => hk.2))); have n2_ := A_ (blk_grown (g := gb149) (o := .cells #[.int .i8 0, .int .i8 0, .slice none 0 0] 30 (0, 0)) (pf_ BK149 NB149_157) hg (Kd.R_ne HO156.out BK149.out (by decide))); have n3_ := A_ (blk_grown (g := gb157) (o := .cells #[.int .i8 t152, .int .i8 t153, .slice Ao39 t154.length co39] 30 (0, 0)) (by (with_reducible repeat (first | refine blk_drewN ?_ _ | refine blk_drew ?_ | refine blk_alloc ?_ _)); refine blk_put (cs := #[.int .i8 t152, .int .i8 t153, .slice none 0 0]) ?_ 2 _ rfl; (with_reducible repeat (first | refine blk_drewN ?_ _ | refine blk_drew ?_ | refine blk_alloc ?_ _)); refine blk_put (cs := #[.int .i8 t152, .int .i8 0, .slice none 0 0]) ?_ 1 _ rfl; (with_reducible repeat (first | refine blk_drewN ?_ _ | refine blk_drew ?_ | refine blk_alloc ?_ _)); refine blk_put (cs := #[.int .i8 0, .int .i8 0, .slice none 0 0]) ?_ 0 _ rfl; (with_reducible repeat (first | refine blk_drewN ?_ _ | refine blk_drew ?_ | refine blk_alloc ?_ _)); exact BK157.out) hg (Kd.R_ne HO156.out BK157.out (by decide))); have n4_ := A_ (hb); have n5_ := A_ (ho); clear BK147; clear BK148; clear BK149; clear BK157; clear HB; clear HO156; have BK147 := n0_; have BK148 := n1_; have BK149 := n2_; have BK157 := n3_; have HB := n4_; have HO160 := n5_; clear n0_ n1_ n2_ n3_ n4_ n5_; clear ho hb hg hat; obtain ⟨Ao43, co43, eo43⟩ := Kd.R_slice HO160.out; subst eo43; have hcz44_0 : w42.cell? ⟨gb157, 0, none⟩ = some (.int .i8 t152) := (blk_cell BK157.out 0).trans rfl; have hcz44_1 : w42.cell? ⟨gb157, 1, none⟩ = some (.int .i8 t153) := (blk_cell BK157.out 1).trans rfl; have hcz44_2 : w42.cell? ⟨gb157, 2, none⟩ = some (.slice Ao39 t154.length co39) := (blk_cell BK157.out 2).trans rfl; have hfz44_0 := blk_frozen BK157.out 0; have hfz44_1 := blk_frozen BK157.out 1; have hfz44_2 := blk_frozen BK157.out 2; have hcz45_0 : w42.cell? ⟨gb149, 0, none⟩ = some (.int .i8 0) := (blk_cell BK149.out 0).trans rfl; have hcz45_1 : w42.cell? ⟨gb149, 1, none⟩ = some (.int .i8 0) := (blk_cell BK149.out 1).trans rfl; have hcz45_2 : w42.cell? ⟨gb149, 2, none⟩ = some (.slice none 0 0) := (blk_cell BK149.out 2).trans rfl; have hfz45_0 := blk_frozen BK149.out 0; have hfz45_1 := blk_frozen BK149.out 1; have hfz45_2 := blk_frozen BK149.out 2))
      refine bodyPost_ret (results_ct rfl _ _ gb149 30 #[.int .i8 t152, .int .i8 t153, .slice Ao43 y158.length co43] (0, 0) _ rfl (by (with_reducible repeat (first | refine blk_drewN ?_ _ | refine blk_drew ?_ | refine blk_alloc ?_ _)); refine blk_put (cs := #[.int .i8 t152, .int .i8 t153, .slice none 0 0]) ?_ 2 _ rfl; (with_reducible repeat (first | refine blk_drewN ?_ _ | refine blk_drew ?_ | refine blk_alloc ?_ _)); refine blk_put (cs := #[.int .i8 t152, .int .i8 0, .slice none 0 0]) ?_ 1 _ rfl; (with_reducible repeat (first | refine blk_drewN ?_ _ | refine blk_drew ?_ | refine blk_alloc ?_ _)); refine blk_put (cs := #[.int .i8 0, .int .i8 0, .slice none 0 0]) ?_ 0 _ rfl; (with_reducible repeat (first | refine blk_drewN ?_ _ | refine blk_drew ?_ | refine blk_alloc ?_ _)); refine blk_far ?_ NB149_157.out _; (with_reducible repeat (first | refine blk_drewN ?_ _ | refine blk_drew ?_ | refine blk_alloc ?_ _)); exact BK149.out) Try.underlying30 rfl (by kernel_rfl)) rfl ?_
      exact ⟨_, by first | rfl | (simp [errW_none, errW_some] <;> rfl) | (simp [*, errW_none, errW_some] <;> rfl), by (with_reducible repeat (first | apply Kd.R_alloc | apply Kd.R_drewN | apply Kd.R_drew)); exact Kd.R_mono (Kd.R_far (p := ⟨gb149, 2, none⟩) (Kd.R_far (p := ⟨gb149, 1, none⟩) (Kd.R_far (p := ⟨gb149, 0, none⟩) (Kd.R_far (p := ⟨gb157, 2, none⟩) (Kd.R_types (Kd.R_types HO160.out BK157.out (by decide)) BK149.out (by decide)) (fun _ hk => hk.1.2) (.slice Ao43 y158.length co43)) (fun _ hk => hk.2) (.int .i8 t152)) (fun _ hk => hk.2) (.int .i8 t153)) (fun _ hk => hk.2) (.slice Ao43 y158.length co43)) (fun _ hk => trivial), by repeat (first | (with_reducible first | exact HB.out | apply below_alloc | apply pw_below_drewN | apply below_drew1 | refine below_set ?_ GE149.out | refine below_set ?_ GE157.out) | exact HB.out)⟩
     ·rw [if_neg c29] at H
      exact absurd H (by simp)

/-! ### impl_Word_46: function 46 -/
def impl_Word_46.f (l0 : List (S40)) : Option ((List (S40))) := (some (([] : List (S40)) : List (S40))).bind fun y180 => (if y180.length + l0.length < 35184372088832 then (some (y180 ++ l0)) else (none))
set_option maxHeartbeats 8000000 in
set_option maxRecDepth 100000 in
theorem impl_Word_46.calls_some (adq_ : Addr) (c0 : Nat) (l0 : List (S40)) (r : List (S40)) (w : World) (hr0 : Kd.C k40 w (some adq_) l0.length l0) (hc0 : l0.length ≤ c0) (h : impl_Word_46.f l0 = some r) :
  Calls Try.prog 46 #[.slice (some adq_) l0.length c0] w fun e w' => ∃ v0_ : Value, e = .returned (v0_) ∧ Kd.R k40 40 w' w.heap.size (fun _ => True) v0_ r ∧ Below w.heap.size w w' := by
 have hnq0 := fun (n_ c_ : Nat) (W_ : World) => Lib.run_eql_slice_nil (P := Try.prog) W_ 28 40 (some adq_) n_ c_ 0 0 Try.underlying28
 have HR0 := Aside0.mk hr0
 have HC0 := Aside0.mk hc0
 clear hr0 hc0
 have HB := A_ (Below.refl w.heap.size w)
 have H : ((some (([] : List (S40)) : List (S40))).bind fun y180 => (if y180.length + l0.length < 35184372088832 then (some (y180 ++ l0)) else (none))) = some r := h
 clear h
 obtain ⟨y180, hy180⟩ : ∃ y_ : List (S40), y_ = (([] : List (S40))) := ⟨_, rfl⟩
 replace H : (if y180.length + l0.length < 35184372088832 then (some (y180 ++ l0)) else (none)) = some r := by first | (rw [hy180]; with_reducible exact H) | (have H2_ := (Option.bind_some _ _).symm.trans H; rw [hy180]; with_reducible exact H2_) | (have H2_ := (Option.bind_some _ _).symm.trans H; with_reducible exact H2_) | with_reducible exact H | (rw [hy180]; exact H) | exact H
 have Ny180 := Aside0.mk hy180
 clear hy180
 by_cases c2 : y180.length + l0.length < 35184372088832
 ·rw [if_pos c2] at H
  have LMc2 := Aside0.mk c2
  clear c2
  obtain ⟨y183, hy183⟩ : ∃ y_ : List (S40), y_ = (y180 ++ l0) := ⟨_, rfl⟩
  replace H : (some y183) = some r := by first | (rw [hy183]; with_reducible exact H) | (have H2_ := (Option.bind_some _ _).symm.trans H; rw [hy183]; with_reducible exact H2_) | (have H2_ := (Option.bind_some _ _).symm.trans H; with_reducible exact H2_) | with_reducible exact H | (rw [hy183]; exact H) | exact H
  have Ny183 := Aside0.mk hy183
  clear hy183
  obtain rfl := Option.some.inj H
  go_enter Try.func46, Try.ntmps46
  go_wp2_with (first | ((with_reducible refine gate_dst (N := 5) rfl ?_); refine Kd.R_lit k40 _ 40 ?hg (N := 5) ?hd (xs := ([] : List (S40))) (inner := []) (ok := fun _ => True) (okp := fun _ => True) ?hr ?hp (fun _ hk => hk) trivial (Below.refl _ _) (Nat.le_refl _) (by simp) ?_; (case hd => rfl); (case hg => rfl); (case hr => first | (go_simp; done) | (go_simp; rfl)); (case hp => exact (Reps.none _ _)); intro v181 w3 ho4 hb hg_ hnew_; clear hg_ hnew_; (first | rw [← Ny180.out] at ho4 | (simp only [Int.reduceToNat] at ho4; rw [← Ny180.out] at ho4)); have n0_ := A_ (Kd.R_lower ho4 (below_size (bl_ HB))); have n1_ := A_ (below_step (bl_ HB) hb); clear HB; have HO182 := n0_; have HB := n1_; clear n0_ n1_; clear hb ho4) | ((with_reducible refine gate_builtin (b := .append) (xs := #[.tmp 5, .tmp 6]) rfl ?_); at_builtin; refine Kd.R_append_rows k40 (w0 := w) w.heap.size rfl (.tmp 5) (.tmp 6) 28 40 (.agg #[(.int .i8 0), (.int .i8 0), (.int .i8 0), (.int .i8 0)]) 4 rfl Try.underlying28 info40 rfl (by decide) (by omega) v181 y180 l0 _ _ _ (fun _ => True) (fun _ => False) rfl rfl ?aO ?aR (fun _ _ h => h) (fun _ h => h.elim) ?aF ?aB ?aS ?aL ?_; (case aR => repeat (first | exact (Kd.C_below HR0.out HB.out) | (with_reducible refine Kd.C_alloc ?_ _) | (with_reducible refine Kd.C_drewN ?_ _) | (with_reducible refine Kd.C_drew ?_))); (case aB => exact (bl_ HB)); (case aF => exact (fun _ _ => trivial)); (case aO => exact (pr_ HO182)); (case aS => exact (below_size (bl_ HB))); (case aL => have := LMc2.out; omega); intro v184 w5 ho hb hg hat; rw [← Ny183.out] at ho; have n0_ := A_ (hb); have n1_ := A_ (ho); clear HB; clear HO182; have HB := n0_; have HO185 := n1_; clear n0_ n1_; clear ho hb hg hat))
  go_ret
  exact ⟨_, by first | rfl | (simp [errW_none, errW_some] <;> rfl) | (simp [*, errW_none, errW_some] <;> rfl), pr_ HO185, bl_ HB⟩
 ·rw [if_neg c2] at H
  exact absurd H (by simp)

set_option maxHeartbeats 800000 in
theorem impl_Word_46.calls (A0 : Option Addr) (c0 : Nat) (l0 : List (S40)) (r : List (S40)) (w : World) (hr0 : Kd.C k40 w A0 l0.length l0) (hc0 : l0.length ≤ c0) (h : impl_Word_46.f l0 = some r) :
  Calls Try.prog 46 #[.slice A0 l0.length c0] w fun e w' => ∃ v0_ : Value, e = .returned (v0_) ∧ Kd.R k40 40 w' w.heap.size (fun _ => True) v0_ r ∧ Below w.heap.size w w' := by
 cases A0 with
 | none =>
  obtain rfl : l0 = [] := List.eq_nil_of_length_eq_zero (by rcases Nat.eq_zero_or_pos l0.length with h_ | h_; exact h_; exact absurd (hr0.2.2 h_) (by simp))
  obtain rfl : r = [] := by simpa [impl_Word_46.f] using h.symm
  have hnq := fun (n_ c_ : Nat) (W_ : World) => Lib.run_eql_slice_nil (P := Try.prog) W_ 28 40 none n_ c_ 0 0 Try.underlying28
  go_enter Try.func46, Try.ntmps46
  go_wp2
  go_ret
  exact ⟨_, rfl, Kd.R_nil _ _ _ _ _, Below.refl _ _⟩
 | some adq_ => exact impl_Word_46.calls_some adq_ c0 l0 r w hr0 hc0 h

end Go.Proofs.Ytonifpgaagdohaa.M
