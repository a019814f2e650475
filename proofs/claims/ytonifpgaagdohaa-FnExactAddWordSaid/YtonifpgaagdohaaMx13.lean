-- By this seat's own program over the kit's printer (arrays, functions told by hand); nothing of it is trusted: the kernel checks it.
import Derived.Test.YtonifpgaagdohaaMx0
import Derived.Test.YtonifpgaagdohaaMx8
import Derived.Test.YtonifpgaagdohaaMx9
import Derived.Test.YtonifpgaagdohaaMx12
namespace Go.Proofs.Ytonifpgaagdohaa.M
open Go.RowKit Go.Proofs.YtonifpgaagdohaaW.PrintWords Go.Proofs.YtonifpgaagdohaaW.PrintLast Go.Proofs.YtonifpgaagdohaaW.PrintMore
attribute [local go_sem] max2_int min2_int max_two min_two max_three min_three max_four min_four   -- for this text's walks alone
set_option linter.unusedVariables false
set_option linter.unusedSimpArgs false

/-! ### impl_AddWord: function 20 -/
def impl_AddWord.j0 : Nat → Bool → Int → Int → List (S40) → Int → Int → Int → Int → Option (Int × Int × (List (S40)) × Int)
 | 0, _, _, _, _, _, _, _, _ => none
 | k + 1, x6, x187000, x187001, x187002, x188000, x188001, x188002, x188003 => if x6 = true then (some (0, 0, ([] : List (S40)), 1)) else (if (x187002.length : Int) = 80 then (some (0, 0, ([] : List (S40)), 3)) else ((impl_Word_46.f x187002).bind fun t191 => ((some (([(⟨x188000, x188001, x188002, x188003⟩ : S40)] : List (S40)) : List (S40))).bind fun y194 => (if t191.length + y194.length < 35184372088832 then (some (x187000, x187001, (t191 ++ y194), 0)) else (none)))))
def impl_AddWord.f (k : Nat) (a0_0 : Int) (a0_1 : Int) (l0_2 : List (S40)) (a1_0 : Int) (a1_1 : Int) (a1_2 : Int) (a1_3 : Int) : Option (Int × Int × (List (S40)) × Int) := (impl_ValidFixed.f k a0_0 a0_1 l0_2).bind fun t189 => (if t189 = true then ((impl_ValidWord.f k (wrap64 (a0_0)) a1_0 a1_1 a1_2 a1_3).bind fun t190 => (impl_AddWord.j0 k (!t190) a0_0 a0_1 l0_2 a1_0 a1_1 a1_2 a1_3)) else (impl_AddWord.j0 k true a0_0 a0_1 l0_2 a1_0 a1_1 a1_2 a1_3))
theorem impl_AddWord.mono_l : ∀ k, (∀ y0 y1 y2 y3 y4 y5 y6 y7, LeO (impl_AddWord.j0 k y0 y1 y2 y3 y4 y5 y6 y7) (impl_AddWord.j0 (k + 1) y0 y1 y2 y3 y4 y5 y6 y7))
 | 0 => fun _ _ _ _ _ _ _ _ r h => by simp [impl_AddWord.j0] at h
 | k + 1 => by
  have ih0 := impl_AddWord.mono_l k
  ·intro y0 y1 y2 y3 y4 y5 y6 y7
   unfold impl_AddWord.j0
   repeat' first
   | (with_reducible exact ih0 _ _ _ _ _ _ _ _)
   | (with_reducible exact impl_ValidFixed.mono _ _ _ _)
   | (with_reducible exact impl_ValidWord.mono _ _ _ _ _ _)
   | (with_reducible exact LeO.refl _)
   | (with_reducible exact LeO.none _)
   | (with_reducible refine LeO.ite ?_ ?_)
   | (with_reducible refine LeO.bind ?_ (fun _ => ?_))
   | exact ih0 _ _ _ _ _ _ _ _
   | exact impl_ValidFixed.mono _ _ _ _
   | exact impl_ValidWord.mono _ _ _ _ _ _
   | exact LeO.none _
   | refine LeO.ite ?_ ?_
   | refine LeO.bind ?_ (fun _ => ?_)
theorem impl_AddWord.mono : ∀ a0 a1 a2 a3 a4 a5 a6 k, LeO (impl_AddWord.f k a0 a1 a2 a3 a4 a5 a6) (impl_AddWord.f (k + 1) a0 a1 a2 a3 a4 a5 a6) := by
 intro a0 a1 a2 a3 a4 a5 a6 k
 have ih0 := impl_AddWord.mono_l k
 unfold impl_AddWord.f
 repeat' first
   | (with_reducible exact ih0 _ _ _ _ _ _ _ _)
   | (with_reducible exact impl_ValidFixed.mono _ _ _ _)
   | (with_reducible exact impl_ValidWord.mono _ _ _ _ _ _)
   | (with_reducible exact LeO.refl _)
   | (with_reducible exact LeO.none _)
   | (with_reducible refine LeO.ite ?_ ?_)
   | (with_reducible refine LeO.bind ?_ (fun _ => ?_))
   | exact ih0 _ _ _ _ _ _ _ _
   | exact impl_ValidFixed.mono _ _ _ _
   | exact impl_ValidWord.mono _ _ _ _ _ _
   | exact LeO.none _
   | refine LeO.ite ?_ ?_
   | refine LeO.bind ?_ (fun _ => ?_)
def impl_AddWord.T5 : Bool × List (List Nat × List Nat) := (true, [([], []), ([0], [0]), ([], []), ([2], [2]), ([], []), ([4], [4]), ([5], [5]), ([], []), ([7], [7]), ([6, 8, 6], [6, 8]), ([1, 3, 9], [1, 3, 9]), ([10, 9, 0, 1, 2, 3, 4, 5, 6, 7, 8, 9, 10], [10]), ([11, 0, 1, 2, 3, 4, 5, 6, 7, 8, 9, 10, 11], [])])
def impl_AddWord.B5 : List Nat := [0, 1, 0, 4, 0, 16, 48, 0, 128, 496, 1023, 2047, 4095]
theorem impl_AddWord.tab5 : rtab .any (opsOf Try.f20 5) = impl_AddWord.T5 := by kernel_rfl
theorem impl_AddWord.bits5 : waitsOk impl_AddWord.T5.2 impl_AddWord.B5 = true := by kernel_rfl
set_option maxHeartbeats 8000000 in
set_option maxRecDepth 100000 in
theorem impl_AddWord.calls (k : Nat) (a0_0 : Int) (a0_1 : Int) (A0_2 : Option Addr) (c0_2 : Nat) (l0_2 : List (S40)) (a1_0 : Int) (a1_1 : Int) (a1_2 : Int) (a1_3 : Int) (r1 : Int) (r2 : Int) (r3 : List (S40)) (r4 : Int) (w : World) (hr0_2 : Kd.C k40 w A0_2 l0_2.length l0_2) (hc0_2 : l0_2.length ≤ c0_2) (h : impl_AddWord.f k a0_0 a0_1 l0_2 a1_0 a1_1 a1_2 a1_3 = some (r1, r2, r3, r4)) :
  Calls Try.prog 20 #[.agg #[.int .i8 a0_0, .int .i8 a0_1, .slice A0_2 l0_2.length c0_2], .agg #[.int .i8 a1_0, .int .i8 a1_1, .int .i8 a1_2, .int .i8 a1_3]] w fun e w' => ∃ v2_ : Value, e = .returned (.tuple #[.agg #[.int .i8 r1, .int .i8 r2, v2_], .int .i64 r4]) ∧ Kd.R k40 40 w' w.heap.size (fun _ => True) v2_ r3 ∧ Below w.heap.size w w' := by
 have hu30 := Try.underlying30
 have hu40 := Try.underlying40
 have HR0_2 := Aside0.mk hr0_2
 have HC0_2 := Aside0.mk hc0_2
 clear hr0_2 hc0_2
 have HB := A_ (Below.refl w.heap.size w)
 have H : ((impl_ValidFixed.f k a0_0 a0_1 l0_2).bind fun t189 => (if t189 = true then ((impl_ValidWord.f k (wrap64 (a0_0)) a1_0 a1_1 a1_2 a1_3).bind fun t190 => (impl_AddWord.j0 k (!t190) a0_0 a0_1 l0_2 a1_0 a1_1 a1_2 a1_3)) else (impl_AddWord.j0 k true a0_0 a0_1 l0_2 a1_0 a1_1 a1_2 a1_3))) = some (r1, r2, r3, r4) := h
 clear h
 have HC3 := Aside0.mk H
 clear H
 go_enter Try.func20, Try.ntmps20
 go_upto_region 1 with (first | ((with_reducible refine gate_dst (N := 2) rfl ?_); refine box_event ?hg (N := 2) ?hd (cs := #[.int .i8 a0_0, .int .i8 a0_1, .slice A0_2 l0_2.length c0_2]) (t := 30) ?hr ?_; (case hd => rfl); (case hg => rfl); (case hr => first | (go_simp; done) | (go_simp; rfl)); intro gb186 hg w4 hbox hb; have n0_ := A_ (below_step (bl_ HB) hb); have n1_ := A_ (hbox); have n2_ := A_ ((by rw [hg]; exact (below_size (bl_ HB)) : w.heap.size ≤ gb186)); have n3_ := n2_; clear HB; have HB := n0_; have BK186 := n1_; have GW186 := n2_; have GE186 := n3_; clear n0_ n1_ n2_ n3_; clear hb hbox hg) | ((with_reducible refine gate_dst (N := 3) rfl ?_); refine box_event ?hg (N := 3) ?hd (cs := #[.int .i8 a1_0, .int .i8 a1_1, .int .i8 a1_2, .int .i8 a1_3]) (t := 40) ?hr ?_; (case hd => rfl); (case hg => rfl); (case hr => first | (go_simp; done) | (go_simp; rfl)); intro gb187 hg w5 hbox hb; have n0_ := A_ (blk_below (pl_ BK186) hb); have n1_ := A_ (below_step (bl_ HB) hb); have n2_ := A_ (hbox); have n3_ := A_ ((by rw [hg]; exact (below_size (bl_ HB)) : w.heap.size ≤ gb187)); have n4_ := n3_; have n5_ := A_ ((by rw [hg]; exact Nat.ne_of_lt (blk_lt (pl_ BK186)) : gb186 ≠ gb187)); have n6_ := Aside0.mk n5_.out.symm; clear BK186; clear HB; have BK186 := n0_; have HB := n1_; have BK187 := n2_; have GW187 := n3_; have GE187 := n4_; have NB186_187 := n5_; have NB187_186 := n6_; clear n0_ n1_ n2_ n3_ n4_ n5_ n6_; clear hb hbox hg) | ((with_reducible refine gate_dst (N := 4) rfl ?_); refine box_event ?hg (N := 4) ?hd (cs := #[.int .i8 0, .int .i8 0, .slice none 0 0]) (t := 30) ?hr ?_; (case hd => rfl); (case hg => rfl); (case hr => first | (go_simp; done) | (go_simp; rfl)); intro gb188 hg w6 hbox hb; have n0_ := A_ (blk_below (pl_ BK186) hb); have n1_ := A_ (blk_below (pl_ BK187) hb); have n2_ := A_ (below_step (bl_ HB) hb); have n3_ := A_ (hbox); have n4_ := A_ ((by rw [hg]; exact (below_size (bl_ HB)) : w.heap.size ≤ gb188)); have n5_ := n4_; have n6_ := A_ ((by rw [hg]; exact Nat.ne_of_lt (blk_lt (pl_ BK186)) : gb186 ≠ gb188)); have n7_ := Aside0.mk n6_.out.symm; have n8_ := A_ ((by rw [hg]; exact Nat.ne_of_lt (blk_lt (pl_ BK187)) : gb187 ≠ gb188)); have n9_ := Aside0.mk n8_.out.symm; clear BK186; clear BK187; clear HB; have BK186 := n0_; have BK187 := n1_; have HB := n2_; have BK188 := n3_; have GW188 := n4_; have GE188 := n5_; have NB186_188 := n6_; have NB188_186 := n7_; have NB187_188 := n8_; have NB188_187 := n9_; clear n0_ n1_ n2_ n3_ n4_ n5_ n6_ n7_ n8_ n9_; clear hb hbox hg))
 (try simp only [Act.put, List.setIfInBounds_toArray, List.set_cons_zero, List.set_cons_succ])
 go_cut [6] (fun v6 wc => ∃ (kq : Nat) (x6_2 : Bool), v6 = .bool x6_2 ∧ Aside0 (impl_AddWord.j0 kq x6_2 a0_0 a0_1 l0_2 a1_0 a1_1 a1_2 a1_3 = some (r1, r2, r3, r4)) ∧ Aside0 (kq ≤ k) ∧ Aside0 (wc.heap[gb186]? = some (.cells #[.int .i8 a0_0, .int .i8 a0_1, (.slice A0_2 l0_2.length c0_2)] 30 (0, 0))) ∧ Aside0 (wc.heap[gb187]? = some (.cells #[.int .i8 a1_0, .int .i8 a1_1, .int .i8 a1_2, .int .i8 a1_3] 40 (0, 0))) ∧ Aside0 (wc.heap[gb188]? = some (.cells #[.int .i8 0, .int .i8 0, (.slice none 0 0)] 30 (0, 0))) ∧ Aside0 (Below w.heap.size w wc))
 case first =>
  have H := HC3.out
  clear HC3
  replace H := Option.bind_eq_some_iff.mp H
  obtain ⟨t189, A70, H⟩ := H
  replace H : (if t189 = true then ((impl_ValidWord.f k (wrap64 (a0_0)) a1_0 a1_1 a1_2 a1_3).bind fun t190 => (impl_AddWord.j0 k (!t190) a0_0 a0_1 l0_2 a1_0 a1_1 a1_2 a1_3)) else (impl_AddWord.j0 k true a0_0 a0_1 l0_2 a1_0 a1_1 a1_2 a1_3)) = some (r1, r2, r3, r4) := H
  have A7 := Aside0.mk A70
  clear A70
  by_cases c8 : t189 = true
  ·subst c8
   have H1 : ((impl_ValidWord.f k (wrap64 (a0_0)) a1_0 a1_1 a1_2 a1_3).bind fun t190 => (impl_AddWord.j0 k (!t190) a0_0 a0_1 l0_2 a1_0 a1_1 a1_2 a1_3)) = some (r1, r2, r3, r4) := by rw [if_pos rfl] at H; exact H
   clear H
   have H := H1
   clear H1
   replace H := Option.bind_eq_some_iff.mp H
   obtain ⟨t190, A90, H⟩ := H
   replace H : (impl_AddWord.j0 k (!t190) a0_0 a0_1 l0_2 a1_0 a1_1 a1_2 a1_3) = some (r1, r2, r3, r4) := H
   have A9 := Aside0.mk A90
   clear A90
   have H' := Aside0.mk H
   clear H
   have hnb10 := NB186_187.out
   have hnc10 := NB187_186.out
   have hnb11 := NB186_188.out
   have hnc11 := NB188_186.out
   have hcz12_0 : w6.cell? ⟨gb186, 0, none⟩ = some (.int .i8 a0_0) := (blk_cell BK186.out 0).trans rfl
   have hcz12_1 : w6.cell? ⟨gb186, 1, none⟩ = some (.int .i8 a0_1) := (blk_cell BK186.out 1).trans rfl
   have hcz12_2 : w6.cell? ⟨gb186, 2, none⟩ = some (.slice A0_2 l0_2.length c0_2) := (blk_cell BK186.out 2).trans rfl
   have hfz12_0 := blk_frozen BK186.out 0
   have hfz12_1 := blk_frozen BK186.out 1
   have hfz12_2 := blk_frozen BK186.out 2
   go_wp2_with (first | ((with_reducible refine gate_callee (f := 15) rfl ?_); refine goesL_ (some 8) rfl rfl Try.func15 (by kernel_rfl) rfl #[.agg #[.int .i8 a0_0, .int .i8 a0_1, .slice A0_2 l0_2.length c0_2]] rfl arg_ ?_; (with_reducible refine (impl_ValidFixed.calls k a0_0 a0_1 _ _ l0_2 true _ ?side1 ?side2 A7.out).mono ?_); (case side1 => repeat (first | exact (Kd.C_below HR0_2.out HB.out) | (with_reducible refine Kd.C_alloc ?_ _) | (with_reducible refine Kd.C_drewN ?_ _) | (with_reducible refine Kd.C_drew ?_))); (case side2 => exact HC0_2.out); rintro e w13 ⟨rfl, hb⟩; refine ⟨_, rfl, ?_⟩; have n0_ := A_ (blk_below (pl_ BK186) hb); have n1_ := A_ (blk_below (pl_ BK187) hb); have n2_ := A_ (blk_below (pl_ BK188) hb); have n3_ := A_ (below_step (bl_ HB) hb); clear BK186; clear BK187; clear BK188; clear HB; have BK186 := n0_; have BK187 := n1_; have BK188 := n2_; have HB := n3_; clear n0_ n1_ n2_ n3_; (try clear hb); (try clear hb2); (try clear hk); (try clear hi); have hcz14_0 : w13.cell? ⟨gb186, 0, none⟩ = some (.int .i8 a0_0) := (blk_cell BK186.out 0).trans rfl; have hcz14_1 : w13.cell? ⟨gb186, 1, none⟩ = some (.int .i8 a0_1) := (blk_cell BK186.out 1).trans rfl; have hcz14_2 : w13.cell? ⟨gb186, 2, none⟩ = some (.slice A0_2 l0_2.length c0_2) := (blk_cell BK186.out 2).trans rfl; have hfz14_0 := blk_frozen BK186.out 0; have hfz14_1 := blk_frozen BK186.out 1; have hfz14_2 := blk_frozen BK186.out 2; have hnb15 := NB187_188.out; have hnc15 := NB188_187.out; have hcz16_0 : w13.cell? ⟨gb187, 0, none⟩ = some (.int .i8 a1_0) := (blk_cell BK187.out 0).trans rfl; have hcz16_1 : w13.cell? ⟨gb187, 1, none⟩ = some (.int .i8 a1_1) := (blk_cell BK187.out 1).trans rfl; have hcz16_2 : w13.cell? ⟨gb187, 2, none⟩ = some (.int .i8 a1_2) := (blk_cell BK187.out 2).trans rfl; have hcz16_3 : w13.cell? ⟨gb187, 3, none⟩ = some (.int .i8 a1_3) := (blk_cell BK187.out 3).trans rfl; have hfz16_0 := blk_frozen BK187.out 0; have hfz16_1 := blk_frozen BK187.out 1; have hfz16_2 := blk_frozen BK187.out 2; have hfz16_3 := blk_frozen BK187.out 3) | (go_at_call 41; (with_reducible refine (impl_ValidWord.calls k (wrap64 (a0_0)) a1_0 a1_1 a1_2 a1_3 t190 _ A9.out).mono ?_); rintro e w17 ⟨rfl, hb⟩; have n0_ := A_ (blk_below (pl_ BK186) hb); have n1_ := A_ (blk_below (pl_ BK187) hb); have n2_ := A_ (blk_below (pl_ BK188) hb); have n3_ := A_ (below_step (bl_ HB) hb); clear BK186; clear BK187; clear BK188; clear HB; have BK186 := n0_; have BK187 := n1_; have BK188 := n2_; have HB := n3_; clear n0_ n1_ n2_ n3_; (try clear hb); (try clear hb2); (try clear hk); (try clear hi)))
   go_meet
   case rel => exact ⟨_, (!t190), rs_, H', ⟨by first | omega | exact Nat.le_refl _⟩, ⟨pl_ BK186⟩, ⟨pl_ BK187⟩, ⟨pl_ BK188⟩, ⟨bl_ HB⟩⟩
  ·replace c8 := Bool.eq_false_iff.mpr c8
   subst c8
   have H1 : (impl_AddWord.j0 k true a0_0 a0_1 l0_2 a1_0 a1_1 a1_2 a1_3) = some (r1, r2, r3, r4) := by rw [if_neg (show ¬ (false = true) by decide)] at H; exact H
   clear H
   have H := H1
   clear H1
   have H' := Aside0.mk H
   clear H
   have hnb18 := NB186_187.out
   have hnc18 := NB187_186.out
   have hnb19 := NB186_188.out
   have hnc19 := NB188_186.out
   have hcz20_0 : w6.cell? ⟨gb186, 0, none⟩ = some (.int .i8 a0_0) := (blk_cell BK186.out 0).trans rfl
   have hcz20_1 : w6.cell? ⟨gb186, 1, none⟩ = some (.int .i8 a0_1) := (blk_cell BK186.out 1).trans rfl
   have hcz20_2 : w6.cell? ⟨gb186, 2, none⟩ = some (.slice A0_2 l0_2.length c0_2) := (blk_cell BK186.out 2).trans rfl
   have hfz20_0 := blk_frozen BK186.out 0
   have hfz20_1 := blk_frozen BK186.out 1
   have hfz20_2 := blk_frozen BK186.out 2
   go_wp2_with (first | ((with_reducible refine gate_callee (f := 15) rfl ?_); refine goesL_ (some 8) rfl rfl Try.func15 (by kernel_rfl) rfl #[.agg #[.int .i8 a0_0, .int .i8 a0_1, .slice A0_2 l0_2.length c0_2]] rfl arg_ ?_; (with_reducible refine (impl_ValidFixed.calls k a0_0 a0_1 _ _ l0_2 false _ ?side1 ?side2 A7.out).mono ?_); (case side1 => repeat (first | exact (Kd.C_below HR0_2.out HB.out) | (with_reducible refine Kd.C_alloc ?_ _) | (with_reducible refine Kd.C_drewN ?_ _) | (with_reducible refine Kd.C_drew ?_))); (case side2 => exact HC0_2.out); rintro e w21 ⟨rfl, hb⟩; refine ⟨_, rfl, ?_⟩; have n0_ := A_ (blk_below (pl_ BK186) hb); have n1_ := A_ (blk_below (pl_ BK187) hb); have n2_ := A_ (blk_below (pl_ BK188) hb); have n3_ := A_ (below_step (bl_ HB) hb); clear BK186; clear BK187; clear BK188; clear HB; have BK186 := n0_; have BK187 := n1_; have BK188 := n2_; have HB := n3_; clear n0_ n1_ n2_ n3_; (try clear hb); (try clear hb2); (try clear hk); (try clear hi)))
   go_meet
   case rel => exact ⟨_, (true), rs_, H', ⟨by first | omega | exact Nat.le_refl _⟩, ⟨pl_ BK186⟩, ⟨pl_ BK187⟩, ⟨pl_ BK188⟩, ⟨bl_ HB⟩⟩
 case rest =>
  clear HC3
  try clear c1
  try clear c2
  try clear p2
  try clear p6
  try clear c8
  try clear c10
  try clear c11
  try clear c15
  try clear c18
  try clear c19
  try clear c20
  try clear hcz12_0
  try clear hcz12_1
  try clear hcz12_2
  try clear hcz14_0
  try clear hcz14_1
  try clear hcz14_2
  try clear hcz16_0
  try clear hcz16_1
  try clear hcz16_2
  try clear hcz16_3
  try clear hcz20_0
  try clear hcz20_1
  try clear hcz20_2
  try clear hfz12_0
  try clear hfz12_1
  try clear hfz12_2
  try clear hfz14_0
  try clear hfz14_1
  try clear hfz14_2
  try clear hfz16_0
  try clear hfz16_1
  try clear hfz16_2
  try clear hfz16_3
  try clear hfz20_0
  try clear hfz20_1
  try clear hfz20_2
  obtain ⟨kq, x6_2, rfl, HA, HJ2, BK186, BK187, BK188, HB⟩ := hcut
  cases kq with
  | zero => exact absurd HA.out (by simp [impl_AddWord.j0])
  | succ kj2 =>
   have H := HA.out
   clear HA
   simp only [impl_AddWord.j0] at H
   by_cases c22 : x6_2 = true
   ·subst c22
    have H1 : (some (0, 0, ([] : List (S40)), 1)) = some (r1, r2, r3, r4) := by rw [if_pos rfl] at H; exact H
    clear H
    have H := H1
    clear H1
    simp only [Option.some.injEq, Prod.mk.injEq] at H
    obtain ⟨rfl, rfl, rfl, rfl⟩ := H
    have hnb23 := NB188_186.out
    have hnc23 := NB186_188.out
    have hnb24 := NB188_187.out
    have hnc24 := NB187_188.out
    have hcz25_0 : wc.cell? ⟨gb188, 0, none⟩ = some (.int .i8 0) := (blk_cell BK188.out 0).trans rfl
    have hcz25_1 : wc.cell? ⟨gb188, 1, none⟩ = some (.int .i8 0) := (blk_cell BK188.out 1).trans rfl
    have hcz25_2 : wc.cell? ⟨gb188, 2, none⟩ = some (.slice none 0 0) := (blk_cell BK188.out 2).trans rfl
    have hfz25_0 := blk_frozen BK188.out 0
    have hfz25_1 := blk_frozen BK188.out 1
    have hfz25_2 := blk_frozen BK188.out 2
    go_wp2
    refine bodyPost_ret (results_ct rfl _ _ gb188 30 #[.int .i8 0, .int .i8 0, .slice none 0 0] (0, 0) _ rfl (by (with_reducible repeat (first | refine blk_drewN ?_ _ | refine blk_drew ?_ | refine blk_alloc ?_ _)); refine blk_put (cs := #[.int .i8 0, .int .i8 0, .slice none 0 0]) ?_ 2 _ rfl; (with_reducible repeat (first | refine blk_drewN ?_ _ | refine blk_drew ?_ | refine blk_alloc ?_ _)); refine blk_put (cs := #[.int .i8 0, .int .i8 0, .slice none 0 0]) ?_ 1 _ rfl; (with_reducible repeat (first | refine blk_drewN ?_ _ | refine blk_drew ?_ | refine blk_alloc ?_ _)); refine blk_put (cs := #[.int .i8 0, .int .i8 0, .slice none 0 0]) ?_ 0 _ rfl; (with_reducible repeat (first | refine blk_drewN ?_ _ | refine blk_drew ?_ | refine blk_alloc ?_ _)); exact BK188.out) Try.underlying30 rfl (by kernel_rfl)) rfl ?_
    exact ⟨_, by first | rfl | (simp [errW_none, errW_some] <;> rfl) | (simp [*, errW_none, errW_some] <;> rfl), by first | exact Kd.R_nil _ _ _ _ _ | exact Kd.N_nil _ _ _ _ _ | exact Kd.V_nil _ _ _ _ _ | exact Kd.Q_nil _ _ _ _ _ | exact Kd.S_nil _ _ _ _ _, bs_ HB GE188⟩
   ·replace c22 := Bool.eq_false_iff.mpr c22
    subst c22
    have H1 : (if (l0_2.length : Int) = 80 then (some (0, 0, ([] : List (S40)), 3)) else ((impl_Word_46.f l0_2).bind fun t191 => ((some (([(⟨a1_0, a1_1, a1_2, a1_3⟩ : S40)] : List (S40)) : List (S40))).bind fun y194 => (if t191.length + y194.length < 35184372088832 then (some (a0_0, a0_1, (t191 ++ y194), 0)) else (none))))) = some (r1, r2, r3, r4) := by rw [if_neg (show ¬ (false = true) by decide)] at H; exact H
    clear H
    have H := H1
    clear H1
    by_cases c26 : (l0_2.length : Int) = 80
    ·rw [if_pos c26] at H
     have c26b0 : ((l0_2.length : Int) == 80) = true := beq_iff_eq.mpr c26
     have c26b1 : ((l0_2.length : Int) != 80) = false := bne_eq_false_iff_eq.mpr c26
     clear c26
     simp only [Option.some.injEq, Prod.mk.injEq] at H
     obtain ⟨rfl, rfl, rfl, rfl⟩ := H
     have hnb27 := NB186_187.out
     have hnc27 := NB187_186.out
     have hnb28 := NB186_188.out
     have hnc28 := NB188_186.out
     have hcz29_0 : wc.cell? ⟨gb186, 0, none⟩ = some (.int .i8 a0_0) := (blk_cell BK186.out 0).trans rfl
     have hcz29_1 : wc.cell? ⟨gb186, 1, none⟩ = some (.int .i8 a0_1) := (blk_cell BK186.out 1).trans rfl
     have hcz29_2 : wc.cell? ⟨gb186, 2, none⟩ = some (.slice A0_2 l0_2.length c0_2) := (blk_cell BK186.out 2).trans rfl
     have hfz29_0 := blk_frozen BK186.out 0
     have hfz29_1 := blk_frozen BK186.out 1
     have hfz29_2 := blk_frozen BK186.out 2
     have hnb30 := NB188_187.out
     have hnc30 := NB187_188.out
     have hcz31_0 : wc.cell? ⟨gb188, 0, none⟩ = some (.int .i8 0) := (blk_cell BK188.out 0).trans rfl
     have hcz31_1 : wc.cell? ⟨gb188, 1, none⟩ = some (.int .i8 0) := (blk_cell BK188.out 1).trans rfl
     have hcz31_2 : wc.cell? ⟨gb188, 2, none⟩ = some (.slice none 0 0) := (blk_cell BK188.out 2).trans rfl
     have hfz31_0 := blk_frozen BK188.out 0
     have hfz31_1 := blk_frozen BK188.out 1
     have hfz31_2 := blk_frozen BK188.out 2
     go_wp2
     refine bodyPost_ret (results_ct rfl _ _ gb188 30 #[.int .i8 0, .int .i8 0, .slice none 0 0] (0, 0) _ rfl (by (with_reducible repeat (first | refine blk_drewN ?_ _ | refine blk_drew ?_ | refine blk_alloc ?_ _)); refine blk_put (cs := #[.int .i8 0, .int .i8 0, .slice none 0 0]) ?_ 2 _ rfl; (with_reducible repeat (first | refine blk_drewN ?_ _ | refine blk_drew ?_ | refine blk_alloc ?_ _)); refine blk_put (cs := #[.int .i8 0, .int .i8 0, .slice none 0 0]) ?_ 1 _ rfl; (with_reducible repeat (first | refine blk_drewN ?_ _ | refine blk_drew ?_ | refine blk_alloc ?_ _)); refine blk_put (cs := #[.int .i8 0, .int .i8 0, .slice none 0 0]) ?_ 0 _ rfl; (with_reducible repeat (first | refine blk_drewN ?_ _ | refine blk_drew ?_ | refine blk_alloc ?_ _)); exact BK188.out) Try.underlying30 rfl (by kernel_rfl)) rfl ?_
     exact ⟨_, by first | rfl | (simp [errW_none, errW_some] <;> rfl) | (simp [*, errW_none, errW_some] <;> rfl), by first | exact Kd.R_nil _ _ _ _ _ | exact Kd.N_nil _ _ _ _ _ | exact Kd.V_nil _ _ _ _ _ | exact Kd.Q_nil _ _ _ _ _ | exact Kd.S_nil _ _ _ _ _, bs_ HB GE188⟩
    ·rw [if_neg c26] at H
     have c26b0 : ((l0_2.length : Int) == 80) = false := beq_eq_false_iff_ne.mpr c26
     have c26b1 : ((l0_2.length : Int) != 80) = true := bne_iff_ne.mpr c26
     replace H := Option.bind_eq_some_iff.mp H
     obtain ⟨t191, A320, H⟩ := H
     replace H : ((some (([(⟨a1_0, a1_1, a1_2, a1_3⟩ : S40)] : List (S40)) : List (S40))).bind fun y194 => (if t191.length + y194.length < 35184372088832 then (some (a0_0, a0_1, (t191 ++ y194), 0)) else (none))) = some (r1, r2, r3, r4) := H
     have A32 := Aside0.mk A320
     clear A320
     obtain ⟨y194, hy194⟩ : ∃ y_ : List (S40), y_ = (([(⟨a1_0, a1_1, a1_2, a1_3⟩ : S40)] : List (S40))) := ⟨_, rfl⟩
     replace H : (if t191.length + y194.length < 35184372088832 then (some (a0_0, a0_1, (t191 ++ y194), 0)) else (none)) = some (r1, r2, r3, r4) := by first | (rw [hy194]; with_reducible exact H) | (have H2_ := (Option.bind_some _ _).symm.trans H; rw [hy194]; with_reducible exact H2_) | (have H2_ := (Option.bind_some _ _).symm.trans H; with_reducible exact H2_) | with_reducible exact H | (rw [hy194]; exact H) | exact H
     have Ny194 := Aside0.mk hy194
     clear hy194
     by_cases c33 : t191.length + y194.length < 35184372088832
     ·rw [if_pos c33] at H
      have LMc33 := Aside0.mk c33
      clear c33
      obtain ⟨y197, hy197⟩ : ∃ y_ : List (S40), y_ = (t191 ++ y194) := ⟨_, rfl⟩
      replace H : (some (a0_0, a0_1, y197, 0)) = some (r1, r2, r3, r4) := by first | (rw [hy197]; with_reducible exact H) | (have H2_ := (Option.bind_some _ _).symm.trans H; rw [hy197]; with_reducible exact H2_) | (have H2_ := (Option.bind_some _ _).symm.trans H; with_reducible exact H2_) | with_reducible exact H | (rw [hy197]; exact H) | exact H
      have Ny197 := Aside0.mk hy197
      clear hy197
      simp only [Option.some.injEq, Prod.mk.injEq] at H
      obtain ⟨rfl, rfl, rfl, rfl⟩ := H
      have hnb34 := NB186_187.out
      have hnc34 := NB187_186.out
      have hnb35 := NB186_188.out
      have hnc35 := NB188_186.out
      have hcz36_0 : wc.cell? ⟨gb186, 0, none⟩ = some (.int .i8 a0_0) := (blk_cell BK186.out 0).trans rfl
      have hcz36_1 : wc.cell? ⟨gb186, 1, none⟩ = some (.int .i8 a0_1) := (blk_cell BK186.out 1).trans rfl
      have hcz36_2 : wc.cell? ⟨gb186, 2, none⟩ = some (.slice A0_2 l0_2.length c0_2) := (blk_cell BK186.out 2).trans rfl
      have hfz36_0 := blk_frozen BK186.out 0
      have hfz36_1 := blk_frozen BK186.out 1
      have hfz36_2 := blk_frozen BK186.out 2
      try go_wp2
      have n0_ := A_ (blk_drew BK186.out)
      have n1_ := A_ (blk_drew BK187.out)
      have n2_ := A_ (blk_drew BK188.out)
      have n3_ := A_ (below_drew1 HB.out)
      clear BK186
      clear BK187
      clear BK188
      clear HB
      have BK186 := n0_
      have BK187 := n1_
      have BK188 := n2_
      have HB := n3_
      clear n0_ n1_ n2_ n3_
      refine start_ (n := 13) (S := fun w' => w'.cell? ⟨gb186, 0, none⟩ = some (.int .i8 a0_0) ∧ w'.cell? ⟨gb186, 1, none⟩ = some (.int .i8 a0_1) ∧ w'.cell? ⟨gb186, 2, none⟩ = some (.slice A0_2 l0_2.length c0_2) ∧ w'.cell? ⟨gb187, 0, none⟩ = some (.int .i8 a1_0) ∧ w'.cell? ⟨gb187, 1, none⟩ = some (.int .i8 a1_1) ∧ w'.cell? ⟨gb187, 2, none⟩ = some (.int .i8 a1_2) ∧ w'.cell? ⟨gb187, 3, none⟩ = some (.int .i8 a1_3)) (ds := []) #[false, false, false, false, false, false, false, false, false, false, false, false, false] (by kernel_rfl) rfl rfl ⟨(blk_cell BK186.out 0).trans rfl, (blk_cell BK186.out 1).trans rfl, (blk_cell BK186.out 2).trans rfl, (blk_cell BK187.out 0).trans rfl, (blk_cell BK187.out 1).trans rfl, (blk_cell BK187.out 2).trans rfl, (blk_cell BK187.out 3).trans rfl⟩ (fun hHeld => ?_); refine with_tabW impl_AddWord.tab5 impl_AddWord.bits5 (fun HT_ HW_ => ?_)
      generalize wc.drew = w37 at BK186 BK187 BK188 HB hHeld ⊢
      refine pure_ (i := 0) (N := some 25) (v := ?_) (a' := ?_) #[true, false, false, false, false, false, false, false, false, false, false, false, false] rfl rfl (any_of HT_.out (by kernel_rfl)) (fun _ _ _ h => h) (Or.inl ⟨by rfl, ?_⟩) ?_ ?_
      rotate_left
      ·intro w'
       go_simp
       with_reducible rfl
      rotate_left
      ·simp only [Act.put, List.setIfInBounds_toArray, List.set_cons_zero, List.set_cons_succ, i64_w, i32_w]
       rfl
      refine pure_ (i := 2) (N := some 27) (v := ?_) (a' := ?_) #[true, false, true, false, false, false, false, false, false, false, false, false, false] rfl rfl (any_of HT_.out (by kernel_rfl)) (fun _ _ _ h => h) (Or.inl ⟨by rfl, ?_⟩) ?_ ?_
      rotate_left
      ·intro w'
       go_simp
       with_reducible rfl
      rotate_left
      ·simp only [Act.put, List.setIfInBounds_toArray, List.set_cons_zero, List.set_cons_succ, i64_w, i32_w]
       rfl
      refine pure_ (i := 4) (N := some 29) (v := ?_) (a' := ?_) #[true, false, true, false, true, false, false, false, false, false, false, false, false] rfl rfl (any_of HT_.out (by kernel_rfl)) (fun _ _ _ h => h) (Or.inl ⟨by rfl, ?_⟩) ?_ ?_
      rotate_left
      ·intro w'
       go_simp
       with_reducible rfl
      rotate_left
      ·simp only [Act.put, List.setIfInBounds_toArray, List.set_cons_zero, List.set_cons_succ, i64_w, i32_w]
       rfl
      refine take_ (i := 1) (N := some 26) (v := ?_) (a' := ?_) #[true, true, true, false, true, false, false, false, false, false, false, false, false] rfl rfl (take_ofW HT_.out HW_.out (by kernel_rfl)) (fun _ _ _ h => h) (Or.inl ⟨by rfl, ?_⟩) hHeld ?_ ?_
      rotate_left
      ·rintro w' ⟨s0, s1, s2, s3, s4, s5, s6⟩
       go_simp
       with_reducible rfl
      rotate_left
      ·simp only [Act.put, List.setIfInBounds_toArray, List.set_cons_zero, List.set_cons_succ, i64_w, i32_w]
       rfl
      refine take_ (i := 3) (N := some 28) (v := ?_) (a' := ?_) #[true, true, true, true, true, false, false, false, false, false, false, false, false] rfl rfl (take_ofW HT_.out HW_.out (by kernel_rfl)) (fun _ _ _ h => h) (Or.inl ⟨by rfl, ?_⟩) hHeld ?_ ?_
      rotate_left
      ·rintro w' ⟨s0, s1, s2, s3, s4, s5, s6⟩
       go_simp
       with_reducible rfl
      rotate_left
      ·simp only [Act.put, List.setIfInBounds_toArray, List.set_cons_zero, List.set_cons_succ, i64_w, i32_w]
       rfl
      refine take_ (i := 5) (N := some 30) (v := ?_) (a' := ?_) #[true, true, true, true, true, true, false, false, false, false, false, false, false] rfl rfl (take_ofW HT_.out HW_.out (by kernel_rfl)) (fun _ _ _ h => h) (Or.inl ⟨by rfl, ?_⟩) hHeld ?_ ?_
      rotate_left
      ·rintro w' ⟨s0, s1, s2, s3, s4, s5, s6⟩
       go_simp
       with_reducible rfl
      rotate_left
      ·simp only [Act.put, List.setIfInBounds_toArray, List.set_cons_zero, List.set_cons_succ, i64_w, i32_w]
       rfl
      refine take_ (i := 7) (N := some 32) (v := ?_) (a' := ?_) #[true, true, true, true, true, true, false, true, false, false, false, false, false] rfl rfl (take_ofW HT_.out HW_.out (by kernel_rfl)) (fun _ _ _ h => h) (Or.inl ⟨by rfl, ?_⟩) hHeld ?_ ?_
      rotate_left
      ·rintro w' ⟨s0, s1, s2, s3, s4, s5, s6⟩
       go_simp
       with_reducible rfl
      rotate_left
      ·simp only [Act.put, List.setIfInBounds_toArray, List.set_cons_zero, List.set_cons_succ, i64_w, i32_w]
       rfl
      refine join_ (σ := Value × Value) 4 #[true, true, true, true, true, true, true, true, true, false, false, false, false] (fun s_ => [(31, s_.1), (33, s_.2)]) (fun s_ w' => (w'.cell? ⟨gb186, 0, none⟩ = some (.int .i8 a0_0) ∧ w'.cell? ⟨gb186, 1, none⟩ = some (.int .i8 a0_1) ∧ w'.cell? ⟨gb186, 2, none⟩ = some (.slice A0_2 l0_2.length c0_2) ∧ w'.cell? ⟨gb187, 0, none⟩ = some (.int .i8 a1_0) ∧ w'.cell? ⟨gb187, 1, none⟩ = some (.int .i8 a1_1) ∧ w'.cell? ⟨gb187, 2, none⟩ = some (.int .i8 a1_2) ∧ w'.cell? ⟨gb187, 3, none⟩ = some (.int .i8 a1_3)) ∧ (Kd.R k40 40 w' w.heap.size (fun k_ => some k_ ≠ (s_.2 : Value).ownBlock ∧ k_ ≠ gb187) s_.1 t191) ∧ (Kd.R k40 40 w' w.heap.size (fun k_ => some k_ ≠ (s_.1 : Value).ownBlock ∧ k_ ≠ gb187) s_.2 y194) ∧ (w'.heap[gb186]? = some (.cells #[.int .i8 a0_0, .int .i8 a0_1, .slice A0_2 l0_2.length c0_2] 30 (0, 0))) ∧ (w'.heap[gb187]? = some (.cells #[.int .i8 a1_0, .int .i8 a1_1, .int .i8 a1_2, .int .i8 a1_3] 40 (0, 0))) ∧ (w'.heap[gb188]? = some (.cells #[.int .i8 0, .int .i8 0, .slice none 0 0] 30 (0, 0))) ∧ (Below w.heap.size w w')) ?_ ?_
      rotate_left
      ·intro hCont
       refine two_ (i := 6) (j := 8) (Ni := some 31) (Nj := some 33) #[true, true, true, true, true, true, true, true, false, false, false, false, false] #[true, true, true, true, true, true, false, true, true, false, false, false, false] rfl rfl rfl rfl (two_of HT_.out (by kernel_rfl)) (by decide) (by decide) (fun K hK => ?_) (fun K hK => ?_)
       ·skip
        refine goes_ Try.func46 (by kernel_rfl) rfl #[.slice A0_2 l0_2.length c0_2] (by rfl) rfl rfl arg_ ?_
        with_reducible refine (impl_Word_46.calls _ _ l0_2 t191 _ ?side1 ?side2 A32.out).mono ?_
        (case side1 => repeat (first | exact (Kd.C_below HR0_2.out HB.out) | (with_reducible refine Kd.C_alloc ?_ _) | (with_reducible refine Kd.C_drewN ?_ _) | (with_reducible refine Kd.C_drew ?_)))
        (case side2 => exact HC0_2.out)
        rintro e w38 ⟨v192, rfl, ho0, hb⟩
        refine ⟨_, rfl, ?_⟩
        have n0_ := A_ (Kd.R_lower (Kd.R_newB ho0 (pl_ BK187)) (below_size (bl_ HB)))
        have n1_ := A_ (blk_below (pl_ BK186) hb)
        have n2_ := A_ (blk_below (pl_ BK187) hb)
        have n3_ := A_ (blk_below (pl_ BK188) hb)
        have n4_ := A_ (below_step (bl_ HB) hb)
        clear BK186
        clear BK187
        clear BK188
        clear HB
        have HO193 := n0_
        have BK186 := n1_
        have BK187 := n2_
        have BK188 := n3_
        have HB := n4_
        clear n0_ n1_ n2_ n3_ n4_
        (try clear hb)
        (try clear hb2)
        (try clear hk)
        (try clear hi)
        (try clear ho0)
        refine hK.out _ _ ⟨(blk_cell BK186.out 0).trans rfl, (blk_cell BK186.out 1).trans rfl, (blk_cell BK186.out 2).trans rfl, (blk_cell BK187.out 0).trans rfl, (blk_cell BK187.out 1).trans rfl, (blk_cell BK187.out 2).trans rfl, (blk_cell BK187.out 3).trans rfl⟩ (fun hHeld => ?_)
        clear hK K
        refine norm_ (a' := ?_) ?_ ?_
        rotate_left
        ·show Act.put _ (some 31) _ = _
         simp only [Act.put, List.setIfInBounds_toArray, List.set_cons_zero, List.set_cons_succ, i64_w, i32_w]
         rfl
        refine one_ (i := 8) (N := some 33) #[true, true, true, true, true, true, true, true, true, false, false, false, false] rfl rfl (one_of HT_.out (by kernel_rfl)) (by decide) (fun K hK => ?_)
        refine Kd.R_lit_step k40 _ 40 ?hg (N := 33) ?hd (xs := ([(⟨a1_0, a1_1, a1_2, a1_3⟩ : S40)] : List (S40))) (inner := [.int .i8 a1_0, .int .i8 a1_1, .int .i8 a1_2, .int .i8 a1_3]) (ok := fun _ => True) (okp := fun _ => True) ?hr ?hp (fun _ hk => hk) trivial (Below.refl _ _) (Nat.le_refl _) (by simp) ?_; (case hd => rfl); (case hg => rfl); (case hr => first | (go_simp; done) | (go_simp; rfl)); (case hp => exact (Reps.c4 (show Kd.M k40 _ _ _ (⟨a1_0, a1_1, a1_2, a1_3⟩ : S40) [.int .i8 a1_0, .int .i8 a1_1, .int .i8 a1_2, .int .i8 a1_3] from (k40_mkM _ _ _ (⟨a1_0, a1_1, a1_2, a1_3⟩ : S40) )) (Reps.none _ _)))
        intro v195 w39 ho40 hb hg_ hnew_
        clear hg_ hnew_
        (first | rw [← Ny194.out] at ho40 | (simp only [Int.reduceToNat] at ho40; rw [← Ny194.out] at ho40))
        have n0_ := A_ (Kd.R_elder' (pr_ HO193) (Kd.R_base ho40) hb)
        have n1_ := A_ (Kd.R_lower (Kd.R_newB (Kd.R_new' ho40 (Kd.R_lt (pr_ HO193))) (pl_ BK187)) (below_size (bl_ HB)))
        have n2_ := A_ (blk_below (pl_ BK186) hb)
        have n3_ := A_ (blk_below (pl_ BK187) hb)
        have n4_ := A_ (blk_below (pl_ BK188) hb)
        have n5_ := A_ (below_step (bl_ HB) hb)
        clear HO193
        clear BK186
        clear BK187
        clear BK188
        clear HB
        have HO193 := n0_
        have HO196 := n1_
        have BK186 := n2_
        have BK187 := n3_
        have BK188 := n4_
        have HB := n5_
        clear n0_ n1_ n2_ n3_ n4_ n5_
        clear hb ho40
        refine hK.out _ _ ⟨(blk_cell BK186.out 0).trans rfl, (blk_cell BK186.out 1).trans rfl, (blk_cell BK186.out 2).trans rfl, (blk_cell BK187.out 0).trans rfl, (blk_cell BK187.out 1).trans rfl, (blk_cell BK187.out 2).trans rfl, (blk_cell BK187.out 3).trans rfl⟩ (fun hHeld => ?_)
        clear hK K
        refine norm_ (a' := ?_) ?_ ?_
        rotate_left
        ·show Act.put _ (some 33) _ = _
         simp only [Act.put, List.setIfInBounds_toArray, List.set_cons_zero, List.set_cons_succ, i64_w, i32_w]
         rfl
        exact norm_ pa_ (hCont (v192, v195) _ ⟨hHeld, (by (with_reducible repeat (first | apply Kd.R_alloc | apply Kd.R_drewN | apply Kd.R_drew)); exact Kd.R_mono HO193.out (fun _ hk => ⟨hk.2, hk.1.2⟩)), (by (with_reducible repeat (first | apply Kd.R_alloc | apply Kd.R_drewN | apply Kd.R_drew)); exact Kd.R_mono HO196.out (fun _ hk => ⟨hk.1.2, hk.2⟩)), (pl_ BK186), (pl_ BK187), (pl_ BK188), (bl_ HB)⟩)
       ·skip
        refine Kd.R_lit_step k40 _ 40 ?hg (N := 33) ?hd (xs := ([(⟨a1_0, a1_1, a1_2, a1_3⟩ : S40)] : List (S40))) (inner := [.int .i8 a1_0, .int .i8 a1_1, .int .i8 a1_2, .int .i8 a1_3]) (ok := fun _ => True) (okp := fun _ => True) ?hr ?hp (fun _ hk => hk) trivial (Below.refl _ _) (Nat.le_refl _) (by simp) ?_; (case hd => rfl); (case hg => rfl); (case hr => first | (go_simp; done) | (go_simp; rfl)); (case hp => exact (Reps.c4 (show Kd.M k40 _ _ _ (⟨a1_0, a1_1, a1_2, a1_3⟩ : S40) [.int .i8 a1_0, .int .i8 a1_1, .int .i8 a1_2, .int .i8 a1_3] from (k40_mkM _ _ _ (⟨a1_0, a1_1, a1_2, a1_3⟩ : S40) )) (Reps.none _ _)))
        intro v195 w38 ho39 hb hg_ hnew_
        clear hg_ hnew_
        (first | rw [← Ny194.out] at ho39 | (simp only [Int.reduceToNat] at ho39; rw [← Ny194.out] at ho39))
        have n0_ := A_ (Kd.R_lower (Kd.R_newB ho39 (pl_ BK187)) (below_size (bl_ HB)))
        have n1_ := A_ (blk_below (pl_ BK186) hb)
        have n2_ := A_ (blk_below (pl_ BK187) hb)
        have n3_ := A_ (blk_below (pl_ BK188) hb)
        have n4_ := A_ (below_step (bl_ HB) hb)
        clear BK186
        clear BK187
        clear BK188
        clear HB
        have HO196 := n0_
        have BK186 := n1_
        have BK187 := n2_
        have BK188 := n3_
        have HB := n4_
        clear n0_ n1_ n2_ n3_ n4_
        clear hb ho39
        refine hK.out _ _ ⟨(blk_cell BK186.out 0).trans rfl, (blk_cell BK186.out 1).trans rfl, (blk_cell BK186.out 2).trans rfl, (blk_cell BK187.out 0).trans rfl, (blk_cell BK187.out 1).trans rfl, (blk_cell BK187.out 2).trans rfl, (blk_cell BK187.out 3).trans rfl⟩ (fun hHeld => ?_)
        clear hK K
        refine norm_ (a' := ?_) ?_ ?_
        rotate_left
        ·show Act.put _ (some 33) _ = _
         simp only [Act.put, List.setIfInBounds_toArray, List.set_cons_zero, List.set_cons_succ, i64_w, i32_w]
         rfl
        refine one_ (i := 6) (N := some 31) #[true, true, true, true, true, true, true, true, true, false, false, false, false] rfl rfl (one_of HT_.out (by kernel_rfl)) (by decide) (fun K hK => ?_)
        refine goes_ Try.func46 (by kernel_rfl) rfl #[.slice A0_2 l0_2.length c0_2] (by rfl) rfl rfl arg_ ?_
        with_reducible refine (impl_Word_46.calls _ _ l0_2 t191 _ ?side1 ?side2 A32.out).mono ?_
        (case side1 => repeat (first | exact (Kd.C_below HR0_2.out HB.out) | (with_reducible refine Kd.C_alloc ?_ _) | (with_reducible refine Kd.C_drewN ?_ _) | (with_reducible refine Kd.C_drew ?_)))
        (case side2 => exact HC0_2.out)
        rintro e w40 ⟨v192, rfl, ho0, hb⟩
        refine ⟨_, rfl, ?_⟩
        have n0_ := A_ (Kd.R_elder' (pr_ HO196) (Kd.R_base ho0) hb)
        have n1_ := A_ (Kd.R_lower (Kd.R_newB (Kd.R_new' ho0 (Kd.R_lt (pr_ HO196))) (pl_ BK187)) (below_size (bl_ HB)))
        have n2_ := A_ (blk_below (pl_ BK186) hb)
        have n3_ := A_ (blk_below (pl_ BK187) hb)
        have n4_ := A_ (blk_below (pl_ BK188) hb)
        have n5_ := A_ (below_step (bl_ HB) hb)
        clear HO196
        clear BK186
        clear BK187
        clear BK188
        clear HB
        have HO196 := n0_
        have HO193 := n1_
        have BK186 := n2_
        have BK187 := n3_
        have BK188 := n4_
        have HB := n5_
        clear n0_ n1_ n2_ n3_ n4_ n5_
        (try clear hb)
        (try clear hb2)
        (try clear hk)
        (try clear hi)
        (try clear ho0)
        refine hK.out _ _ ⟨(blk_cell BK186.out 0).trans rfl, (blk_cell BK186.out 1).trans rfl, (blk_cell BK186.out 2).trans rfl, (blk_cell BK187.out 0).trans rfl, (blk_cell BK187.out 1).trans rfl, (blk_cell BK187.out 2).trans rfl, (blk_cell BK187.out 3).trans rfl⟩ (fun hHeld => ?_)
        clear hK K
        refine norm_ (a' := ?_) ?_ ?_
        rotate_left
        ·show Act.put _ (some 31) _ = _
         simp only [Act.put, List.setIfInBounds_toArray, List.set_cons_zero, List.set_cons_succ, i64_w, i32_w]
         rfl
        exact norm_ pa_ (hCont (v192, v195) _ ⟨hHeld, (by (with_reducible repeat (first | apply Kd.R_alloc | apply Kd.R_drewN | apply Kd.R_drew)); exact Kd.R_mono HO193.out (fun _ hk => ⟨hk.1.2, hk.2⟩)), (by (with_reducible repeat (first | apply Kd.R_alloc | apply Kd.R_drewN | apply Kd.R_drew)); exact Kd.R_mono HO196.out (fun _ hk => ⟨hk.2, hk.1.2⟩)), (pl_ BK186), (pl_ BK187), (pl_ BK188), (bl_ HB)⟩)
      rintro ⟨v192, v195⟩ w41 ⟨hS_, h0_, h1_, h2_, h3_, h4_, h5_⟩
      have n0_ : Aside0 (Kd.R k40 40 w41 w.heap.size (fun k_ => some k_ ≠ (v195 : Value).ownBlock ∧ k_ ≠ gb187) v192 t191) := ⟨h0_⟩
      have n1_ : Aside0 (Kd.R k40 40 w41 w.heap.size (fun k_ => some k_ ≠ (v192 : Value).ownBlock ∧ k_ ≠ gb187) v195 y194) := ⟨h1_⟩
      have n2_ : Aside0 (w41.heap[gb186]? = some (.cells #[.int .i8 a0_0, .int .i8 a0_1, .slice A0_2 l0_2.length c0_2] 30 (0, 0))) := ⟨h2_⟩
      have n3_ : Aside0 (w41.heap[gb187]? = some (.cells #[.int .i8 a1_0, .int .i8 a1_1, .int .i8 a1_2, .int .i8 a1_3] 40 (0, 0))) := ⟨h3_⟩
      have n4_ : Aside0 (w41.heap[gb188]? = some (.cells #[.int .i8 0, .int .i8 0, .slice none 0 0] 30 (0, 0))) := ⟨h4_⟩
      have n5_ : Aside0 (Below w.heap.size w w41) := ⟨h5_⟩
      clear BK186
      clear BK187
      clear BK188
      clear HB
      clear h0_ h1_ h2_ h3_ h4_ h5_
      have HO193 := n0_
      have HO196 := n1_
      have BK186 := n2_
      have BK187 := n3_
      have BK188 := n4_
      have HB := n5_
      clear n0_ n1_ n2_ n3_ n4_ n5_
      have hHeld : w41.cell? ⟨gb186, 0, none⟩ = some (.int .i8 a0_0) ∧ w41.cell? ⟨gb186, 1, none⟩ = some (.int .i8 a0_1) ∧ w41.cell? ⟨gb186, 2, none⟩ = some (.slice A0_2 l0_2.length c0_2) ∧ w41.cell? ⟨gb187, 0, none⟩ = some (.int .i8 a1_0) ∧ w41.cell? ⟨gb187, 1, none⟩ = some (.int .i8 a1_1) ∧ w41.cell? ⟨gb187, 2, none⟩ = some (.int .i8 a1_2) ∧ w41.cell? ⟨gb187, 3, none⟩ = some (.int .i8 a1_3) := hS_
      obtain ⟨Ao43, co43, eo43⟩ := Kd.R_slice HO196.out
      (first | subst eo43 | (injection eo43 with f1_ f2_ f3_; have f4_ := f1_.symm; have f5_ := f3_.symm; clear f1_ f2_ f3_; subst f4_; subst f5_))
      refine norm_ (a' := ?_) ?_ ?_
      rotate_left
      ·simp only [putAll, Act.put, List.setIfInBounds_toArray, List.set_cons_zero, List.set_cons_succ]
       rfl
      refine one_ (i := 9) (N := some 34) #[true, true, true, true, true, true, true, true, true, true, false, false, false] rfl rfl (one_of HT_.out (by kernel_rfl)) (by decide) (fun K hK => ?_)
      refine Kd.R_append_rows_step k40 (w0 := w) w.heap.size (by rfl) (.tmp 31) (.tmp 33) 28 40 (.agg #[(.int .i8 0), (.int .i8 0), (.int .i8 0), (.int .i8 0)]) 4 rfl Try.underlying28 info40 rfl (by decide) (by omega) v192 t191 y194 _ _ _ (fun k_ => some k_ ≠ (.slice Ao43 y194.length co43 : Value).ownBlock ∧ k_ ≠ gb187) (fun _ => False) rfl rfl ?aO ?aR (fun _ _ h => h) (fun _ h => h.elim) ?aF ?aB ?aS ?aL ?_
      (case aR => repeat (first | exact (Kd.R_reads' HO196.out).2.2 | (with_reducible refine Kd.C_alloc ?_ _) | (with_reducible refine Kd.C_drewN ?_ _) | (with_reducible refine Kd.C_drew ?_)))
      (case aB => exact (bl_ HB))
      (case aF => exact (fun k_ hk => ⟨Kd.fresh' (Kd.R_lt (pr_ HO196)) k_ hk, Kd.freshB (pl_ BK187) k_ hk⟩))
      (case aO => exact (pr_ HO193))
      (case aS => exact (below_size (bl_ HB)))
      (case aL => have := LMc33.out; omega)
      intro v198 w42 ho hb hg hat
      rw [← Ny197.out] at ho
      have n0_ := A_ (blk_grown (pl_ BK186) hg (Kd.R_ne HO193.out BK186.out (by decide)))
      have n1_ := A_ (blk_grown (pl_ BK187) hg (Kd.R_away HO193.out (fun _ hk => hk.2)))
      have n2_ := A_ (blk_grown (pl_ BK188) hg (Kd.R_ne HO193.out BK188.out (by decide)))
      have n3_ := A_ (Kd.R_after (ok := (fun k_ => k_ ≠ gb187)) (by (with_reducible repeat (first | apply Kd.R_alloc | apply Kd.R_drewN | apply Kd.R_drew)); exact Kd.R_mono HO196.out (fun _ hk => ⟨hk.2, hk.1⟩)) hg hat)
      have n4_ := A_ (hb)
      have n5_ := A_ (ho)
      clear BK186
      clear BK187
      clear BK188
      clear HO196
      clear HB
      clear HO193
      have BK186 := n0_
      have BK187 := n1_
      have BK188 := n2_
      have HO196 := n3_
      have HB := n4_
      have HO199 := n5_
      clear n0_ n1_ n2_ n3_ n4_ n5_
      clear ho hb hg hat
      obtain ⟨Ao44, co44, eo44⟩ := Kd.R_slice HO199.out
      (first | subst eo44 | (injection eo44 with f1_ f2_ f3_; have f4_ := f1_.symm; have f5_ := f3_.symm; clear f1_ f2_ f3_; subst f4_; subst f5_))
      refine hK.out _ _ ⟨(blk_cell BK186.out 0).trans rfl, (blk_cell BK186.out 1).trans rfl, (blk_cell BK186.out 2).trans rfl, (blk_cell BK187.out 0).trans rfl, (blk_cell BK187.out 1).trans rfl, (blk_cell BK187.out 2).trans rfl, (blk_cell BK187.out 3).trans rfl⟩ (fun hHeld => ?_)
      clear hK K
      refine norm_ (a' := ?_) ?_ ?_
      rotate_left
      ·show Act.put _ (some 34) _ = _
       simp only [Act.put, List.setIfInBounds_toArray, List.set_cons_zero, List.set_cons_succ, i64_w, i32_w]
       rfl
      refine pure_ (i := 10) (N := some 35) (v := ?_) (a' := ?_) #[true, true, true, true, true, true, true, true, true, true, true, false, false] rfl rfl (any_of HT_.out (by kernel_rfl)) (fun _ _ _ h => h) (Or.inl ⟨by rfl, ?_⟩) ?_ ?_
      rotate_left
      ·intro w'
       go_simp
       with_reducible rfl
      rotate_left
      ·simp only [Act.put, List.setIfInBounds_toArray, List.set_cons_zero, List.set_cons_succ, i64_w, i32_w]
       rfl
      refine one_ (i := 11) (N := none) #[true, true, true, true, true, true, true, true, true, true, true, true, false] rfl rfl (one_of HT_.out (by kernel_rfl)) (by decide) (fun K hK => ?_)
      have hs45 : w42.cell? ⟨gb188, 0, none⟩ = some (.int .i8 0) := (blk_cell BK188.out 0).trans rfl
      have hfs45 := blk_frozen BK188.out 0
      have hns45_0 := NB186_188.out
      have hns45_1 := NB187_188.out
      have hms45_0 := NB188_186.out
      have hms45_1 := NB188_187.out
      have hs46 : w42.cell? ⟨gb188, 1, none⟩ = some (.int .i8 0) := (blk_cell BK188.out 1).trans rfl
      have hfs46 := blk_frozen BK188.out 1
      have hns46_0 := NB186_188.out
      have hns46_1 := NB187_188.out
      have hms46_0 := NB188_186.out
      have hms46_1 := NB188_187.out
      have hs47 : w42.cell? ⟨gb188, 2, none⟩ = some (.slice none 0 0) := (blk_cell BK188.out 2).trans rfl
      have hfs47 := blk_frozen BK188.out 2
      have hns47_0 := NB186_188.out
      have hns47_1 := NB187_188.out
      have hms47_0 := NB188_186.out
      have hms47_1 := NB188_187.out
      refine skip_ (w1 := ?_) (by rfl) rfl ?_ ?_
      rotate_left
      ·go_simp
       rfl
      refine hK.out _ _ ⟨(cf3_ NB186_188 (hHeld.1)), (cf3_ NB186_188 (hHeld.2.1)), (cf3_ NB186_188 (hHeld.2.2.1)), (cf3_ NB187_188 (hHeld.2.2.2.1)), (cf3_ NB187_188 (hHeld.2.2.2.2.1)), (cf3_ NB187_188 (hHeld.2.2.2.2.2.1)), (cf3_ NB187_188 (hHeld.2.2.2.2.2.2))⟩ (fun hHeld => ?_)
      clear hK K
      refine pure_ (i := 12) (N := some 5) (v := ?_) (a' := ?_) #[true, true, true, true, true, true, true, true, true, true, true, true, true] rfl rfl (any_of HT_.out (by kernel_rfl)) (fun _ _ _ h => h) (Or.inl ⟨by rfl, ?_⟩) ?_ ?_
      rotate_left
      ·intro w'
       go_simp
       with_reducible rfl
      rotate_left
      ·simp only [Act.put, List.setIfInBounds_toArray, List.set_cons_zero, List.set_cons_succ, i64_w, i32_w]
       rfl
      refine done_ (done_of HT_.out (by kernel_rfl)) ?_
      try go_wp2
      refine bodyPost_ret (results_ct rfl _ _ gb188 30 #[.int .i8 a0_0, .int .i8 a0_1, .slice Ao44 y197.length co44] (0, 0) _ rfl (by (with_reducible repeat (first | refine blk_drewN ?_ _ | refine blk_drew ?_ | refine blk_alloc ?_ _)); refine blk_put (cs := #[.int .i8 a0_0, .int .i8 a0_1, .slice none 0 0]) ?_ 2 _ rfl; (with_reducible repeat (first | refine blk_drewN ?_ _ | refine blk_drew ?_ | refine blk_alloc ?_ _)); refine blk_put (cs := #[.int .i8 a0_0, .int .i8 0, .slice none 0 0]) ?_ 1 _ rfl; (with_reducible repeat (first | refine blk_drewN ?_ _ | refine blk_drew ?_ | refine blk_alloc ?_ _)); refine blk_put (cs := #[.int .i8 0, .int .i8 0, .slice none 0 0]) ?_ 0 _ rfl; (with_reducible repeat (first | refine blk_drewN ?_ _ | refine blk_drew ?_ | refine blk_alloc ?_ _)); exact BK188.out) Try.underlying30 rfl (by kernel_rfl)) rfl ?_
      exact ⟨_, by first | rfl | (simp [errW_none, errW_some] <;> rfl) | (simp [*, errW_none, errW_some] <;> rfl), by (with_reducible repeat (first | apply Kd.R_alloc | apply Kd.R_drewN | apply Kd.R_drew)); exact Kd.R_mono (Kd.R_far (p := ⟨gb188, 2, none⟩) (Kd.R_far (p := ⟨gb188, 1, none⟩) (Kd.R_far (p := ⟨gb188, 0, none⟩) (Kd.R_types HO199.out BK188.out (by decide)) (fun _ hk => hk.2) (.int .i8 a0_0)) (fun _ hk => hk.2) (.int .i8 a0_1)) (fun _ hk => hk.2) (.slice Ao44 y197.length co44)) (fun _ hk => trivial), bs_ HB GE188⟩
     ·rw [if_neg c33] at H
      exact absurd H (by simp)

end Go.Proofs.Ytonifpgaagdohaa.M
