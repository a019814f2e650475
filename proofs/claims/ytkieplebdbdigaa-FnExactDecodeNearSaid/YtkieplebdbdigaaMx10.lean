-- By this seat's own program over the kit's printer (arrays, functions told by hand); nothing of it is trusted: the kernel checks it.
import Derived.Test.YtkieplebdbdigaaMx0
import Derived.Test.YtkieplebdbdigaaMx9
namespace Go.Proofs.Ytkieplebdbdigaa.M
open Go.RowKit Go.Proofs.YtkieplebdbdigaaW.PrintWords Go.Proofs.YtkieplebdbdigaaW.PrintLast Go.Proofs.YtkieplebdbdigaaW.PrintMore
attribute [local go_sem] max2_int min2_int max_two min_two max_three min_three max_four min_four   -- for this text's walks alone
set_option linter.unusedVariables false
set_option linter.unusedSimpArgs false

/-! ### spec_l04Seen: function 31 -/
def spec_l04Seen.f (k : Nat) (a0_0 : Int) (a0_1 : Int) (l0_2 : List (S41)) (a1_0 : Int) (a1_1 : Bool) : Option (Int × Int × Int × Int) := if a1_0 < 0 then (some (0, 0, 0, 0)) else (if a1_1 = true then (if 0 ≤ a1_0 then (if a1_0 < (l0_2.length : Int) then (some ((rd_T41 l0_2 a1_0).f0, (rd_T41 l0_2 a1_0).f1, (rd_T41 l0_2 a1_0).f2, (rd_T41 l0_2 a1_0).f3)) else (none)) else (none)) else (if 0 ≤ a1_0 then (if a1_0 < (l0_2.length : Int) then ((spec_l04Opposite.f k ((rd_T41 l0_2 a1_0).f0) ((rd_T41 l0_2 a1_0).f1) ((rd_T41 l0_2 a1_0).f2) ((rd_T41 l0_2 a1_0).f3)).bind fun bt168 => (some (bt168.1, bt168.2.1, bt168.2.2.1, bt168.2.2.2))) else (none)) else (none)))
theorem spec_l04Seen.mono : ∀ a0 a1 a2 a3 a4 k, LeO (spec_l04Seen.f k a0 a1 a2 a3 a4) (spec_l04Seen.f (k + 1) a0 a1 a2 a3 a4) := by
 intro a0 a1 a2 a3 a4 k
 unfold spec_l04Seen.f
 repeat' first
   | (with_reducible exact spec_l04Opposite.mono _ _ _ _ _)
   | (with_reducible exact LeO.refl _)
   | (with_reducible exact LeO.none _)
   | (with_reducible refine LeO.ite ?_ ?_)
   | (with_reducible refine LeO.bind ?_ (fun _ => ?_))
   | exact spec_l04Opposite.mono _ _ _ _ _
   | exact LeO.none _
   | refine LeO.ite ?_ ?_
   | refine LeO.bind ?_ (fun _ => ?_)
def spec_l04Seen.T4 : Bool × List (List Nat × List Nat) := (true, [([], []), ([0], [0]), ([1], [1]), ([2], [2]), ([], []), ([4], [4]), ([3, 5], [3, 5]), ([6], [6]), ([7, 0, 1, 2, 3, 4, 5, 6, 7], [7])])
def spec_l04Seen.B4 : List Nat := [0, 1, 3, 7, 0, 16, 63, 127, 255]
theorem spec_l04Seen.tab4 : rtab .any (opsOf Try.f31 4) = spec_l04Seen.T4 := by kernel_rfl
theorem spec_l04Seen.bits4 : waitsOk spec_l04Seen.T4.2 spec_l04Seen.B4 = true := by kernel_rfl
def spec_l04Seen.T5 : Bool × List (List Nat × List Nat) := (true, [([], []), ([0], [0]), ([1], [1]), ([2], [2]), ([], []), ([4], [4]), ([3, 5], [3, 5]), ([6], [6]), ([7], [7]), ([8, 8, 0, 1, 2, 3, 4, 5, 6, 7, 8], [8])])
def spec_l04Seen.B5 : List Nat := [0, 1, 3, 7, 0, 16, 63, 127, 255, 511]
theorem spec_l04Seen.tab5 : rtab .any (opsOf Try.f31 5) = spec_l04Seen.T5 := by kernel_rfl
theorem spec_l04Seen.bits5 : waitsOk spec_l04Seen.T5.2 spec_l04Seen.B5 = true := by kernel_rfl
set_option maxHeartbeats 8000000 in
set_option maxRecDepth 100000 in
theorem spec_l04Seen.calls (k : Nat) (gp0 : Nat) (a0_0 : Int) (a0_1 : Int) (A0_2 : Option Addr) (c0_2 : Nat) (l0_2 : List (S41)) (a1_0 : Int) (a1_1 : Bool) (r1 : Int) (r2 : Int) (r3 : Int) (r4 : Int) (w : World) (hb0 : w.heap[gp0]? = some (.cells #[.int .i8 a0_0, .int .i8 a0_1, .slice A0_2 l0_2.length c0_2] 29 (0, 0))) (hr0_2 : Kd.C k41 w A0_2 l0_2.length l0_2) (hc0_2 : l0_2.length ≤ c0_2) (h : spec_l04Seen.f k a0_0 a0_1 l0_2 a1_0 a1_1 = some (r1, r2, r3, r4)) :
  Calls Try.prog 31 #[.pointer (some ⟨gp0, 0, none⟩), .agg #[.int .i8 a1_0, .bool a1_1]] w fun e w' => e = .returned (.agg #[.int .i8 r1, .int .i8 r2, .int .i8 r3, .int .i8 r4]) ∧ Below w.heap.size w w' := by
 have hu38 := Try.underlying38
 have hu41 := Try.underlying41
 have HR0_2 := Aside0.mk hr0_2
 have HC0_2 := Aside0.mk hc0_2
 clear hr0_2 hc0_2
 have BK163 := Aside0.mk hb0
 clear hb0
 have HB := A_ (Below.refl w.heap.size w)
 have H : (if a1_0 < 0 then (some (0, 0, 0, 0)) else (if a1_1 = true then (if 0 ≤ a1_0 then (if a1_0 < (l0_2.length : Int) then (some ((rd_T41 l0_2 a1_0).f0, (rd_T41 l0_2 a1_0).f1, (rd_T41 l0_2 a1_0).f2, (rd_T41 l0_2 a1_0).f3)) else (none)) else (none)) else (if 0 ≤ a1_0 then (if a1_0 < (l0_2.length : Int) then ((spec_l04Opposite.f k ((rd_T41 l0_2 a1_0).f0) ((rd_T41 l0_2 a1_0).f1) ((rd_T41 l0_2 a1_0).f2) ((rd_T41 l0_2 a1_0).f3)).bind fun bt168 => (some (bt168.1, bt168.2.1, bt168.2.2.1, bt168.2.2.2))) else (none)) else (none)))) = some (r1, r2, r3, r4) := h
 clear h
 by_cases c3 : a1_0 < 0
 ·rw [if_pos c3] at H
  have c3b0 : decide (a1_0 < 0) = true := decide_eq_true c3
  clear c3
  simp only [Option.some.injEq, Prod.mk.injEq] at H
  obtain ⟨rfl, rfl, rfl, rfl⟩ := H
  go_enter Try.func31, Try.ntmps31
  go_wp2_with (first | ((with_reducible refine gate_dst (N := 3) rfl ?_); refine box_event ?hg (N := 3) ?hd (cs := #[.int .i8 a1_0, .bool a1_1]) (t := 38) ?hr ?_; (case hd => rfl); (case hg => rfl); (case hr => first | (go_simp; done) | (go_simp; rfl)); intro gb164 hg w4 hbox hb; have n0_ := A_ (blk_below (pl_ BK163) hb); have n1_ := A_ (below_step (bl_ HB) hb); have n2_ := A_ (hbox); have n3_ := A_ ((by rw [hg]; exact (below_size (bl_ HB)) : w.heap.size ≤ gb164)); have n4_ := n3_; have n5_ := A_ ((by rw [hg]; exact Nat.ne_of_lt (blk_lt (pl_ BK163)) : gp0 ≠ gb164)); have n6_ := Aside0.mk n5_.out.symm; clear BK163; clear HB; have BK163 := n0_; have HB := n1_; have BK164 := n2_; have GW164 := n3_; have GE164 := n4_; have NB163_164 := n5_; have NB164_163 := n6_; clear n0_ n1_ n2_ n3_ n4_ n5_ n6_; clear hb hbox hg) | ((with_reducible refine gate_dst (N := 4) rfl ?_); refine box_event ?hg (N := 4) ?hd (cs := #[.int .i8 0, .int .i8 0, .int .i8 0, .int .i8 0]) (t := 41) ?hr ?_; (case hd => rfl); (case hg => rfl); (case hr => first | (go_simp; done) | (go_simp; rfl)); intro gb165 hg w5 hbox hb; have n0_ := A_ (blk_below (pl_ BK163) hb); have n1_ := A_ (blk_below (pl_ BK164) hb); have n2_ := A_ (below_step (bl_ HB) hb); have n3_ := A_ (hbox); have n4_ := A_ ((by rw [hg]; exact (below_size (bl_ HB)) : w.heap.size ≤ gb165)); have n5_ := n4_; have n6_ := A_ ((by rw [hg]; exact Nat.ne_of_lt (blk_lt (pl_ BK163)) : gp0 ≠ gb165)); have n7_ := Aside0.mk n6_.out.symm; have n8_ := A_ ((by rw [hg]; exact Nat.ne_of_lt (blk_lt (pl_ BK164)) : gb164 ≠ gb165)); have n9_ := Aside0.mk n8_.out.symm; clear BK163; clear BK164; clear HB; have BK163 := n0_; have BK164 := n1_; have HB := n2_; have BK165 := n3_; have GW165 := n4_; have GE165 := n5_; have NB163_165 := n6_; have NB165_163 := n7_; have NB164_165 := n8_; have NB165_164 := n9_; clear n0_ n1_ n2_ n3_ n4_ n5_ n6_ n7_ n8_ n9_; clear hb hbox hg; have hnb6 := NB164_163.out; have hnc6 := NB163_164.out; have hnb7 := NB164_165.out; have hnc7 := NB165_164.out; obtain ⟨hcz8_0, hcz8_1, hfz8_0, hfz8_1⟩ := cl2_ BK164; have hnb9 := NB165_163.out; have hnc9 := NB163_165.out; obtain ⟨hcz10_0, hcz10_1, hcz10_2, hcz10_3, hfz10_0, hfz10_1, hfz10_2, hfz10_3⟩ := cl4_ BK165))
  refine bodyPost_ret (results_cell_row rfl _ _ gb165 41 #[.int .i8 0, .int .i8 0, .int .i8 0, .int .i8 0] (0, 0) _ rfl (by (with_reducible repeat (first | refine blk_drewN ?_ _ | refine blk_drew ?_ | refine blk_alloc ?_ _)); refine blk_put (cs := #[.int .i8 0, .int .i8 0, .int .i8 0, .int .i8 0]) ?_ 3 _ rfl; (with_reducible repeat (first | refine blk_drewN ?_ _ | refine blk_drew ?_ | refine blk_alloc ?_ _)); refine blk_put (cs := #[.int .i8 0, .int .i8 0, .int .i8 0, .int .i8 0]) ?_ 2 _ rfl; (with_reducible repeat (first | refine blk_drewN ?_ _ | refine blk_drew ?_ | refine blk_alloc ?_ _)); refine blk_put (cs := #[.int .i8 0, .int .i8 0, .int .i8 0, .int .i8 0]) ?_ 1 _ rfl; (with_reducible repeat (first | refine blk_drewN ?_ _ | refine blk_drew ?_ | refine blk_alloc ?_ _)); refine blk_put (cs := #[.int .i8 0, .int .i8 0, .int .i8 0, .int .i8 0]) ?_ 0 _ rfl; (with_reducible repeat (first | refine blk_drewN ?_ _ | refine blk_drew ?_ | refine blk_alloc ?_ _)); exact BK165.out) Try.underlying41 rfl (by kernel_rfl)) rfl ?_
  exact ⟨by first | rfl | (simp [errW_none, errW_some] <;> rfl) | (simp [*, errW_none, errW_some] <;> rfl), bs_ HB GE165⟩
 ·rw [if_neg c3] at H
  have c3b0 : decide (a1_0 < 0) = false := decide_eq_false c3
  clear c3
  by_cases c11 : a1_1 = true
  ·subst c11
   have H1 : (if 0 ≤ a1_0 then (if a1_0 < (l0_2.length : Int) then (some ((rd_T41 l0_2 a1_0).f0, (rd_T41 l0_2 a1_0).f1, (rd_T41 l0_2 a1_0).f2, (rd_T41 l0_2 a1_0).f3)) else (none)) else (none)) = some (r1, r2, r3, r4) := by rw [if_pos rfl] at H; exact H
   clear H
   have H := H1
   clear H1
   by_cases c12 : 0 ≤ a1_0
   ·rw [if_pos c12] at H
    have c12b0 : decide (0 ≤ a1_0) = true := decide_eq_true c12
    clear c12
    by_cases c13 : a1_0 < (l0_2.length : Int)
    ·rw [if_pos c13] at H
     have c13b0 : decide (a1_0 < (l0_2.length : Int)) = true := decide_eq_true c13
     clear c13
     simp only [Option.some.injEq, Prod.mk.injEq] at H
     obtain ⟨rfl, rfl, rfl, rfl⟩ := H
     go_enter Try.func31, Try.ntmps31
     try go_wp2_with (first | ((with_reducible refine gate_dst (N := 3) rfl ?_); refine box_event ?hg (N := 3) ?hd (cs := #[.int .i8 a1_0, .bool true]) (t := 38) ?hr ?_; (case hd => rfl); (case hg => rfl); (case hr => first | (go_simp; done) | (go_simp; rfl)); intro gb164 hg w14 hbox hb; have n0_ := A_ (blk_below (pl_ BK163) hb); have n1_ := A_ (below_step (bl_ HB) hb); have n2_ := A_ (hbox); have n3_ := A_ ((by rw [hg]; exact (below_size (bl_ HB)) : w.heap.size ≤ gb164)); have n4_ := n3_; have n5_ := A_ ((by rw [hg]; exact Nat.ne_of_lt (blk_lt (pl_ BK163)) : gp0 ≠ gb164)); have n6_ := Aside0.mk n5_.out.symm; clear BK163; clear HB; have BK163 := n0_; have HB := n1_; have BK164 := n2_; have GW164 := n3_; have GE164 := n4_; have NB163_164 := n5_; have NB164_163 := n6_; clear n0_ n1_ n2_ n3_ n4_ n5_ n6_; clear hb hbox hg) | ((with_reducible refine gate_dst (N := 4) rfl ?_); refine box_event ?hg (N := 4) ?hd (cs := #[.int .i8 0, .int .i8 0, .int .i8 0, .int .i8 0]) (t := 41) ?hr ?_; (case hd => rfl); (case hg => rfl); (case hr => first | (go_simp; done) | (go_simp; rfl)); intro gb165 hg w15 hbox hb; have n0_ := A_ (blk_below (pl_ BK163) hb); have n1_ := A_ (blk_below (pl_ BK164) hb); have n2_ := A_ (below_step (bl_ HB) hb); have n3_ := A_ (hbox); have n4_ := A_ ((by rw [hg]; exact (below_size (bl_ HB)) : w.heap.size ≤ gb165)); have n5_ := n4_; have n6_ := A_ ((by rw [hg]; exact Nat.ne_of_lt (blk_lt (pl_ BK163)) : gp0 ≠ gb165)); have n7_ := Aside0.mk n6_.out.symm; have n8_ := A_ ((by rw [hg]; exact Nat.ne_of_lt (blk_lt (pl_ BK164)) : gb164 ≠ gb165)); have n9_ := Aside0.mk n8_.out.symm; clear BK163; clear BK164; clear HB; have BK163 := n0_; have BK164 := n1_; have HB := n2_; have BK165 := n3_; have GW165 := n4_; have GE165 := n5_; have NB163_165 := n6_; have NB165_163 := n7_; have NB164_165 := n8_; have NB165_164 := n9_; clear n0_ n1_ n2_ n3_ n4_ n5_ n6_ n7_ n8_ n9_; clear hb hbox hg; have hnb16 := NB164_163.out; have hnc16 := NB163_164.out; have hnb17 := NB164_165.out; have hnc17 := NB165_164.out; obtain ⟨hcz18_0, hcz18_1, hfz18_0, hfz18_1⟩ := cl2_ BK164))
     have n0_ := A_ (blk_drew BK163.out)
     have n1_ := A_ (blk_drew BK164.out)
     have n2_ := A_ (blk_drew BK165.out)
     have n3_ := A_ (below_drew1 HB.out)
     clear BK163
     clear BK164
     clear BK165
     clear HB
     have BK163 := n0_
     have BK164 := n1_
     have BK165 := n2_
     have HB := n3_
     clear n0_ n1_ n2_ n3_
     have p166 : 0 ≤ (a1_0 : Int) := asm_
     have q166 : a1_0 < (l0_2.length : Int) := asm_
     obtain ⟨ad166, e166, hx166_0, hx166_1, hx166_2, hx166_3⟩ := at_T41 HR0_2.out a1_0 p166 q166
     have hw166_3 := hx166_3
     have hw166_2 := hx166_2
     have hw166_1 := hx166_1
     have hw166_0 := hx166_0
     cases e166
     (try replace hx166_0 := (HB.out.cell (World.block_lt_of_cell? w _ hx166_0)).trans hx166_0)
     (try replace hx166_1 := (HB.out.cell (World.block_lt_of_cell? w _ hx166_1)).trans hx166_1)
     (try replace hx166_2 := (HB.out.cell (World.block_lt_of_cell? w _ hx166_2)).trans hx166_2)
     (try replace hx166_3 := (HB.out.cell (World.block_lt_of_cell? w _ hx166_3)).trans hx166_3)
     replace p166 := eq_true p166
     replace q166 := eq_true q166
     refine start_ (n := 9) (S := fun w' => w'.cell? ⟨gp0, 0, none⟩ = some (.int .i8 a0_0) ∧ w'.cell? ⟨gp0, 1, none⟩ = some (.int .i8 a0_1) ∧ w'.cell? ⟨gp0, 2, none⟩ = some (.slice (some ad166) l0_2.length c0_2) ∧ w'.cell? ⟨gb164, 0, none⟩ = some (.int .i8 a1_0) ∧ w'.cell? ⟨gb164, 1, none⟩ = some (.bool true) ∧ w'.cell? (ad166.add ((a1_0).toNat * 4)) = some (.int .i8 ((rd_T41 l0_2 a1_0).f0)) ∧ w'.cell? ⟨(ad166.add ((a1_0).toNat * 4)).block, (ad166.add ((a1_0).toNat * 4)).off + 1, none⟩ = some (.int .i8 ((rd_T41 l0_2 a1_0).f1)) ∧ w'.cell? ⟨(ad166.add ((a1_0).toNat * 4)).block, (ad166.add ((a1_0).toNat * 4)).off + 2, none⟩ = some (.int .i8 ((rd_T41 l0_2 a1_0).f2)) ∧ w'.cell? ⟨(ad166.add ((a1_0).toNat * 4)).block, (ad166.add ((a1_0).toNat * 4)).off + 3, none⟩ = some (.int .i8 ((rd_T41 l0_2 a1_0).f3))) (ds := []) #[false, false, false, false, false, false, false, false, false] (by kernel_rfl) rfl rfl ⟨(blk_cell BK163.out 0).trans rfl, (blk_cell BK163.out 1).trans rfl, (blk_cell BK163.out 2).trans rfl, (blk_cell BK164.out 0).trans rfl, (blk_cell BK164.out 1).trans rfl, (by first | exact (HB.out.cell (World.block_lt_of_cell? w _ hw166_0)).trans hw166_0 | exact hw166_0), (by first | exact (HB.out.cell (World.block_lt_of_cell? w _ hw166_1)).trans hw166_1 | exact hw166_1), (by first | exact (HB.out.cell (World.block_lt_of_cell? w _ hw166_2)).trans hw166_2 | exact hw166_2), (by first | exact (HB.out.cell (World.block_lt_of_cell? w _ hw166_3)).trans hw166_3 | exact hw166_3)⟩ (fun hHeld => ?_); refine with_tabW spec_l04Seen.tab4 spec_l04Seen.bits4 (fun HT_ HW_ => ?_)
     generalize w15.drew = w19 at BK163 BK164 BK165 HB hx166_0 hx166_1 hx166_2 hx166_3 hHeld ⊢
     refine pure_ (i := 0) (N := some 11) (v := ?_) (a' := ?_) #[true, false, false, false, false, false, false, false, false] rfl rfl (any_of HT_.out (by kernel_rfl)) (fun _ _ _ h => h) (Or.inl ⟨by rfl, ?_⟩) ?_ ?_
     rotate_left
     ·intro w'
      go_simp
      with_reducible rfl
     rotate_left
     ·simp only [Act.put, sp_]
      rfl
     refine pure_ (i := 1) (N := some 12) (v := ?_) (a' := ?_) #[true, true, false, false, false, false, false, false, false] rfl rfl (any_of HT_.out (by kernel_rfl)) (fun _ _ _ h => h) (Or.inl ⟨by rfl, ?_⟩) ?_ ?_
     rotate_left
     ·intro w'
      go_simp
      with_reducible rfl
     rotate_left
     ·simp only [Act.put, sp_]
      rfl
     refine pure_ (i := 2) (N := some 13) (v := ?_) (a' := ?_) #[true, true, true, false, false, false, false, false, false] rfl rfl (any_of HT_.out (by kernel_rfl)) (fun _ _ _ h => h) (Or.inl ⟨by rfl, ?_⟩) ?_ ?_
     rotate_left
     ·intro w'
      go_simp
      with_reducible rfl
     rotate_left
     ·simp only [Act.put, sp_]
      rfl
     refine pure_ (i := 4) (N := some 15) (v := ?_) (a' := ?_) #[true, true, true, false, true, false, false, false, false] rfl rfl (any_of HT_.out (by kernel_rfl)) (fun _ _ _ h => h) (Or.inl ⟨by rfl, ?_⟩) ?_ ?_
     rotate_left
     ·intro w'
      go_simp
      with_reducible rfl
     rotate_left
     ·simp only [Act.put, sp_]
      rfl
     refine take_ (i := 3) (N := some 14) (v := ?_) (a' := ?_) #[true, true, true, true, true, false, false, false, false] rfl rfl (take_ofW HT_.out HW_.out (by kernel_rfl)) (fun _ _ _ h => h) (Or.inl ⟨by rfl, ?_⟩) hHeld ?_ ?_
     rotate_left
     ·rintro w' ⟨s0, s1, s2, s3, s4, s5, s6, s7, s8⟩
      go_simp
      with_reducible rfl
     rotate_left
     ·simp only [Act.put, sp_]
      rfl
     refine take_ (i := 5) (N := some 16) (v := ?_) (a' := ?_) #[true, true, true, true, true, true, false, false, false] rfl rfl (take_ofW HT_.out HW_.out (by kernel_rfl)) (fun _ _ _ h => h) (Or.inl ⟨by rfl, ?_⟩) hHeld ?_ ?_
     rotate_left
     ·rintro w' ⟨s0, s1, s2, s3, s4, s5, s6, s7, s8⟩
      go_simp
      with_reducible rfl
     rotate_left
     ·simp only [Act.put, sp_]
      rfl
     refine pure_ (i := 6) (N := some 17) (v := ?_) (a' := ?_) #[true, true, true, true, true, true, true, false, false] rfl rfl (any_of HT_.out (by kernel_rfl)) (fun _ _ _ h => h) (Or.inl ⟨by rfl, ?_⟩) ?_ ?_
     rotate_left
     ·intro w'
      go_simp
      with_reducible rfl
     rotate_left
     ·simp only [Act.put, sp_]
      rfl
     refine take_ (i := 7) (N := some 18) (v := ?_) (a' := ?_) #[true, true, true, true, true, true, true, true, false] rfl rfl (take_ofW HT_.out HW_.out (by kernel_rfl)) (fun _ _ _ h => h) (Or.inl ⟨by rfl, ?_⟩) hHeld ?_ ?_
     rotate_left
     ·rintro w' ⟨s0, s1, s2, s3, s4, s5, s6, s7, s8⟩
      go_simp
      with_reducible rfl
     rotate_left
     ·simp only [Act.put, sp_]
      rfl
     refine one_ (i := 8) (N := none) #[true, true, true, true, true, true, true, true, true] rfl rfl (one_of HT_.out (by kernel_rfl)) (by decide) (fun K hK => ?_)
     have hs20 : w19.cell? ⟨gb165, 0, none⟩ = some (.int .i8 0) := (blk_cell BK165.out 0).trans rfl
     have hfs20 := blk_frozen BK165.out 0
     have hns20_0 := NB163_165.out
     have hns20_1 := NB164_165.out
     have hms20_0 := NB165_163.out
     have hms20_1 := NB165_164.out
     have hs21 : w19.cell? ⟨gb165, 1, none⟩ = some (.int .i8 0) := (blk_cell BK165.out 1).trans rfl
     have hfs21 := blk_frozen BK165.out 1
     have hns21_0 := NB163_165.out
     have hns21_1 := NB164_165.out
     have hms21_0 := NB165_163.out
     have hms21_1 := NB165_164.out
     have hs22 : w19.cell? ⟨gb165, 2, none⟩ = some (.int .i8 0) := (blk_cell BK165.out 2).trans rfl
     have hfs22 := blk_frozen BK165.out 2
     have hns22_0 := NB163_165.out
     have hns22_1 := NB164_165.out
     have hms22_0 := NB165_163.out
     have hms22_1 := NB165_164.out
     have hs23 : w19.cell? ⟨gb165, 3, none⟩ = some (.int .i8 0) := (blk_cell BK165.out 3).trans rfl
     have hfs23 := blk_frozen BK165.out 3
     have hns23_0 := NB163_165.out
     have hns23_1 := NB164_165.out
     have hms23_0 := NB165_163.out
     have hms23_1 := NB165_164.out
     refine skip_ (w1 := ?_) (by rfl) rfl ?_ ?_
     rotate_left
     ·go_simp
      rfl
     refine hK.out _ _ ⟨(cf4_ NB163_165 (hHeld.1)), (cf4_ NB163_165 (hHeld.2.1)), (cf4_ NB163_165 (hHeld.2.2.1)), (cf4_ NB164_165 (hHeld.2.2.2.1)), (cf4_ NB164_165 (hHeld.2.2.2.2.1)), ((cell_far (p := ⟨gb165, _, none⟩) (by first | exact Nat.ne_of_lt (Nat.lt_of_lt_of_le (by have := World.block_lt_of_cell? _ _ hw166_0; first | rwa [add_block] at this | exact this) GW165.out) | (rw [add_block]; exact Nat.ne_of_lt (Nat.lt_of_lt_of_le (by have := World.block_lt_of_cell? _ _ hw166_0; first | rwa [add_block] at this | exact this) GW165.out)) | (show (Addr.add _ _).block ≠ _; rw [add_block]; exact Nat.ne_of_lt (Nat.lt_of_lt_of_le (by have := World.block_lt_of_cell? _ _ hw166_0; first | rwa [add_block] at this | exact this) GW165.out)) | (dsimp only; exact Nat.ne_of_lt (Nat.lt_of_lt_of_le (by have := World.block_lt_of_cell? _ _ hw166_0; first | rwa [add_block] at this | exact this) GW165.out))) _).trans (((cell_far (p := ⟨gb165, _, none⟩) (by first | exact Nat.ne_of_lt (Nat.lt_of_lt_of_le (by have := World.block_lt_of_cell? _ _ hw166_0; first | rwa [add_block] at this | exact this) GW165.out) | (rw [add_block]; exact Nat.ne_of_lt (Nat.lt_of_lt_of_le (by have := World.block_lt_of_cell? _ _ hw166_0; first | rwa [add_block] at this | exact this) GW165.out)) | (show (Addr.add _ _).block ≠ _; rw [add_block]; exact Nat.ne_of_lt (Nat.lt_of_lt_of_le (by have := World.block_lt_of_cell? _ _ hw166_0; first | rwa [add_block] at this | exact this) GW165.out)) | (dsimp only; exact Nat.ne_of_lt (Nat.lt_of_lt_of_le (by have := World.block_lt_of_cell? _ _ hw166_0; first | rwa [add_block] at this | exact this) GW165.out))) _).trans (((cell_far (p := ⟨gb165, _, none⟩) (by first | exact Nat.ne_of_lt (Nat.lt_of_lt_of_le (by have := World.block_lt_of_cell? _ _ hw166_0; first | rwa [add_block] at this | exact this) GW165.out) | (rw [add_block]; exact Nat.ne_of_lt (Nat.lt_of_lt_of_le (by have := World.block_lt_of_cell? _ _ hw166_0; first | rwa [add_block] at this | exact this) GW165.out)) | (show (Addr.add _ _).block ≠ _; rw [add_block]; exact Nat.ne_of_lt (Nat.lt_of_lt_of_le (by have := World.block_lt_of_cell? _ _ hw166_0; first | rwa [add_block] at this | exact this) GW165.out)) | (dsimp only; exact Nat.ne_of_lt (Nat.lt_of_lt_of_le (by have := World.block_lt_of_cell? _ _ hw166_0; first | rwa [add_block] at this | exact this) GW165.out))) _).trans (((cell_far (p := ⟨gb165, _, none⟩) (by first | exact Nat.ne_of_lt (Nat.lt_of_lt_of_le (by have := World.block_lt_of_cell? _ _ hw166_0; first | rwa [add_block] at this | exact this) GW165.out) | (rw [add_block]; exact Nat.ne_of_lt (Nat.lt_of_lt_of_le (by have := World.block_lt_of_cell? _ _ hw166_0; first | rwa [add_block] at this | exact this) GW165.out)) | (show (Addr.add _ _).block ≠ _; rw [add_block]; exact Nat.ne_of_lt (Nat.lt_of_lt_of_le (by have := World.block_lt_of_cell? _ _ hw166_0; first | rwa [add_block] at this | exact this) GW165.out)) | (dsimp only; exact Nat.ne_of_lt (Nat.lt_of_lt_of_le (by have := World.block_lt_of_cell? _ _ hw166_0; first | rwa [add_block] at this | exact this) GW165.out))) _).trans (hHeld.2.2.2.2.2.1)))))))), ((cell_far (p := ⟨gb165, _, none⟩) (by first | exact Nat.ne_of_lt (Nat.lt_of_lt_of_le (by have := World.block_lt_of_cell? _ _ hw166_1; first | rwa [add_block] at this | exact this) GW165.out) | (rw [add_block]; exact Nat.ne_of_lt (Nat.lt_of_lt_of_le (by have := World.block_lt_of_cell? _ _ hw166_1; first | rwa [add_block] at this | exact this) GW165.out)) | (show (Addr.add _ _).block ≠ _; rw [add_block]; exact Nat.ne_of_lt (Nat.lt_of_lt_of_le (by have := World.block_lt_of_cell? _ _ hw166_1; first | rwa [add_block] at this | exact this) GW165.out)) | (dsimp only; exact Nat.ne_of_lt (Nat.lt_of_lt_of_le (by have := World.block_lt_of_cell? _ _ hw166_1; first | rwa [add_block] at this | exact this) GW165.out))) _).trans (((cell_far (p := ⟨gb165, _, none⟩) (by first | exact Nat.ne_of_lt (Nat.lt_of_lt_of_le (by have := World.block_lt_of_cell? _ _ hw166_1; first | rwa [add_block] at this | exact this) GW165.out) | (rw [add_block]; exact Nat.ne_of_lt (Nat.lt_of_lt_of_le (by have := World.block_lt_of_cell? _ _ hw166_1; first | rwa [add_block] at this | exact this) GW165.out)) | (show (Addr.add _ _).block ≠ _; rw [add_block]; exact Nat.ne_of_lt (Nat.lt_of_lt_of_le (by have := World.block_lt_of_cell? _ _ hw166_1; first | rwa [add_block] at this | exact this) GW165.out)) | (dsimp only; exact Nat.ne_of_lt (Nat.lt_of_lt_of_le (by have := World.block_lt_of_cell? _ _ hw166_1; first | rwa [add_block] at this | exact this) GW165.out))) _).trans (((cell_far (p := ⟨gb165, _, none⟩) (by first | exact Nat.ne_of_lt (Nat.lt_of_lt_of_le (by have := World.block_lt_of_cell? _ _ hw166_1; first | rwa [add_block] at this | exact this) GW165.out) | (rw [add_block]; exact Nat.ne_of_lt (Nat.lt_of_lt_of_le (by have := World.block_lt_of_cell? _ _ hw166_1; first | rwa [add_block] at this | exact this) GW165.out)) | (show (Addr.add _ _).block ≠ _; rw [add_block]; exact Nat.ne_of_lt (Nat.lt_of_lt_of_le (by have := World.block_lt_of_cell? _ _ hw166_1; first | rwa [add_block] at this | exact this) GW165.out)) | (dsimp only; exact Nat.ne_of_lt (Nat.lt_of_lt_of_le (by have := World.block_lt_of_cell? _ _ hw166_1; first | rwa [add_block] at this | exact this) GW165.out))) _).trans (((cell_far (p := ⟨gb165, _, none⟩) (by first | exact Nat.ne_of_lt (Nat.lt_of_lt_of_le (by have := World.block_lt_of_cell? _ _ hw166_1; first | rwa [add_block] at this | exact this) GW165.out) | (rw [add_block]; exact Nat.ne_of_lt (Nat.lt_of_lt_of_le (by have := World.block_lt_of_cell? _ _ hw166_1; first | rwa [add_block] at this | exact this) GW165.out)) | (show (Addr.add _ _).block ≠ _; rw [add_block]; exact Nat.ne_of_lt (Nat.lt_of_lt_of_le (by have := World.block_lt_of_cell? _ _ hw166_1; first | rwa [add_block] at this | exact this) GW165.out)) | (dsimp only; exact Nat.ne_of_lt (Nat.lt_of_lt_of_le (by have := World.block_lt_of_cell? _ _ hw166_1; first | rwa [add_block] at this | exact this) GW165.out))) _).trans (hHeld.2.2.2.2.2.2.1)))))))), ((cell_far (p := ⟨gb165, _, none⟩) (by first | exact Nat.ne_of_lt (Nat.lt_of_lt_of_le (by have := World.block_lt_of_cell? _ _ hw166_2; first | rwa [add_block] at this | exact this) GW165.out) | (rw [add_block]; exact Nat.ne_of_lt (Nat.lt_of_lt_of_le (by have := World.block_lt_of_cell? _ _ hw166_2; first | rwa [add_block] at this | exact this) GW165.out)) | (show (Addr.add _ _).block ≠ _; rw [add_block]; exact Nat.ne_of_lt (Nat.lt_of_lt_of_le (by have := World.block_lt_of_cell? _ _ hw166_2; first | rwa [add_block] at this | exact this) GW165.out)) | (dsimp only; exact Nat.ne_of_lt (Nat.lt_of_lt_of_le (by have := World.block_lt_of_cell? _ _ hw166_2; first | rwa [add_block] at this | exact this) GW165.out))) _).trans (((cell_far (p := ⟨gb165, _, none⟩) (by first | exact Nat.ne_of_lt (Nat.lt_of_lt_of_le (by have := World.block_lt_of_cell? _ _ hw166_2; first | rwa [add_block] at this | exact this) GW165.out) | (rw [add_block]; exact Nat.ne_of_lt (Nat.lt_of_lt_of_le (by have := World.block_lt_of_cell? _ _ hw166_2; first | rwa [add_block] at this | exact this) GW165.out)) | (show (Addr.add _ _).block ≠ _; rw [add_block]; exact Nat.ne_of_lt (Nat.lt_of_lt_of_le (by have := World.block_lt_of_cell? _ _ hw166_2; first | rwa [add_block] at this | exact this) GW165.out)) | (dsimp only; exact Nat.ne_of_lt (Nat.lt_of_lt_of_le (by have := World.block_lt_of_cell? _ _ hw166_2; first | rwa [add_block] at this | exact this) GW165.out))) _).trans (((cell_far (p := ⟨gb165, _, none⟩) (by first | exact Nat.ne_of_lt (Nat.lt_of_lt_of_le (by have := World.block_lt_of_cell? _ _ hw166_2; first | rwa [add_block] at this | exact this) GW165.out) | (rw [add_block]; exact Nat.ne_of_lt (Nat.lt_of_lt_of_le (by have := World.block_lt_of_cell? _ _ hw166_2; first | rwa [add_block] at this | exact this) GW165.out)) | (show (Addr.add _ _).block ≠ _; rw [add_block]; exact Nat.ne_of_lt (Nat.lt_of_lt_of_le (by have := World.block_lt_of_cell? _ _ hw166_2; first | rwa [add_block] at this | exact this) GW165.out)) | (dsimp only; exact Nat.ne_of_lt (Nat.lt_of_lt_of_le (by have := World.block_lt_of_cell? _ _ hw166_2; first | rwa [add_block] at this | exact this) GW165.out))) _).trans (((cell_far (p := ⟨gb165, _, none⟩) (by first | exact Nat.ne_of_lt (Nat.lt_of_lt_of_le (by have := World.block_lt_of_cell? _ _ hw166_2; first | rwa [add_block] at this | exact this) GW165.out) | (rw [add_block]; exact Nat.ne_of_lt (Nat.lt_of_lt_of_le (by have := World.block_lt_of_cell? _ _ hw166_2; first | rwa [add_block] at this | exact this) GW165.out)) | (show (Addr.add _ _).block ≠ _; rw [add_block]; exact Nat.ne_of_lt (Nat.lt_of_lt_of_le (by have := World.block_lt_of_cell? _ _ hw166_2; first | rwa [add_block] at this | exact this) GW165.out)) | (dsimp only; exact Nat.ne_of_lt (Nat.lt_of_lt_of_le (by have := World.block_lt_of_cell? _ _ hw166_2; first | rwa [add_block] at this | exact this) GW165.out))) _).trans (hHeld.2.2.2.2.2.2.2.1)))))))), ((cell_far (p := ⟨gb165, _, none⟩) (by first | exact Nat.ne_of_lt (Nat.lt_of_lt_of_le (by have := World.block_lt_of_cell? _ _ hw166_3; first | rwa [add_block] at this | exact this) GW165.out) | (rw [add_block]; exact Nat.ne_of_lt (Nat.lt_of_lt_of_le (by have := World.block_lt_of_cell? _ _ hw166_3; first | rwa [add_block] at this | exact this) GW165.out)) | (show (Addr.add _ _).block ≠ _; rw [add_block]; exact Nat.ne_of_lt (Nat.lt_of_lt_of_le (by have := World.block_lt_of_cell? _ _ hw166_3; first | rwa [add_block] at this | exact this) GW165.out)) | (dsimp only; exact Nat.ne_of_lt (Nat.lt_of_lt_of_le (by have := World.block_lt_of_cell? _ _ hw166_3; first | rwa [add_block] at this | exact this) GW165.out))) _).trans (((cell_far (p := ⟨gb165, _, none⟩) (by first | exact Nat.ne_of_lt (Nat.lt_of_lt_of_le (by have := World.block_lt_of_cell? _ _ hw166_3; first | rwa [add_block] at this | exact this) GW165.out) | (rw [add_block]; exact Nat.ne_of_lt (Nat.lt_of_lt_of_le (by have := World.block_lt_of_cell? _ _ hw166_3; first | rwa [add_block] at this | exact this) GW165.out)) | (show (Addr.add _ _).block ≠ _; rw [add_block]; exact Nat.ne_of_lt (Nat.lt_of_lt_of_le (by have := World.block_lt_of_cell? _ _ hw166_3; first | rwa [add_block] at this | exact this) GW165.out)) | (dsimp only; exact Nat.ne_of_lt (Nat.lt_of_lt_of_le (by have := World.block_lt_of_cell? _ _ hw166_3; first | rwa [add_block] at this | exact this) GW165.out))) _).trans (((cell_far (p := ⟨gb165, _, none⟩) (by first | exact Nat.ne_of_lt (Nat.lt_of_lt_of_le (by have := World.block_lt_of_cell? _ _ hw166_3; first | rwa [add_block] at this | exact this) GW165.out) | (rw [add_block]; exact Nat.ne_of_lt (Nat.lt_of_lt_of_le (by have := World.block_lt_of_cell? _ _ hw166_3; first | rwa [add_block] at this | exact this) GW165.out)) | (show (Addr.add _ _).block ≠ _; rw [add_block]; exact Nat.ne_of_lt (Nat.lt_of_lt_of_le (by have := World.block_lt_of_cell? _ _ hw166_3; first | rwa [add_block] at this | exact this) GW165.out)) | (dsimp only; exact Nat.ne_of_lt (Nat.lt_of_lt_of_le (by have := World.block_lt_of_cell? _ _ hw166_3; first | rwa [add_block] at this | exact this) GW165.out))) _).trans (((cell_far (p := ⟨gb165, _, none⟩) (by first | exact Nat.ne_of_lt (Nat.lt_of_lt_of_le (by have := World.block_lt_of_cell? _ _ hw166_3; first | rwa [add_block] at this | exact this) GW165.out) | (rw [add_block]; exact Nat.ne_of_lt (Nat.lt_of_lt_of_le (by have := World.block_lt_of_cell? _ _ hw166_3; first | rwa [add_block] at this | exact this) GW165.out)) | (show (Addr.add _ _).block ≠ _; rw [add_block]; exact Nat.ne_of_lt (Nat.lt_of_lt_of_le (by have := World.block_lt_of_cell? _ _ hw166_3; first | rwa [add_block] at this | exact this) GW165.out)) | (dsimp only; exact Nat.ne_of_lt (Nat.lt_of_lt_of_le (by have := World.block_lt_of_cell? _ _ hw166_3; first | rwa [add_block] at this | exact this) GW165.out))) _).trans (hHeld.2.2.2.2.2.2.2.2))))))))⟩ (fun hHeld => ?_)
     clear hK K
     refine done_ (done_of HT_.out (by kernel_rfl)) ?_
     try go_wp2
     refine bodyPost_ret (results_cell_row rfl _ _ gb165 41 #[.int .i8 ((rd_T41 l0_2 a1_0).f0), .int .i8 ((rd_T41 l0_2 a1_0).f1), .int .i8 ((rd_T41 l0_2 a1_0).f2), .int .i8 ((rd_T41 l0_2 a1_0).f3)] (0, 0) _ rfl (by (with_reducible repeat (first | refine blk_drewN ?_ _ | refine blk_drew ?_ | refine blk_alloc ?_ _)); refine blk_put (cs := #[.int .i8 ((rd_T41 l0_2 a1_0).f0), .int .i8 ((rd_T41 l0_2 a1_0).f1), .int .i8 ((rd_T41 l0_2 a1_0).f2), .int .i8 0]) ?_ 3 _ rfl; (with_reducible repeat (first | refine blk_drewN ?_ _ | refine blk_drew ?_ | refine blk_alloc ?_ _)); refine blk_put (cs := #[.int .i8 ((rd_T41 l0_2 a1_0).f0), .int .i8 ((rd_T41 l0_2 a1_0).f1), .int .i8 0, .int .i8 0]) ?_ 2 _ rfl; (with_reducible repeat (first | refine blk_drewN ?_ _ | refine blk_drew ?_ | refine blk_alloc ?_ _)); refine blk_put (cs := #[.int .i8 ((rd_T41 l0_2 a1_0).f0), .int .i8 0, .int .i8 0, .int .i8 0]) ?_ 1 _ rfl; (with_reducible repeat (first | refine blk_drewN ?_ _ | refine blk_drew ?_ | refine blk_alloc ?_ _)); refine blk_put (cs := #[.int .i8 0, .int .i8 0, .int .i8 0, .int .i8 0]) ?_ 0 _ rfl; (with_reducible repeat (first | refine blk_drewN ?_ _ | refine blk_drew ?_ | refine blk_alloc ?_ _)); exact BK165.out) Try.underlying41 rfl (by kernel_rfl)) rfl ?_
     exact ⟨by first | rfl | (simp [errW_none, errW_some] <;> rfl) | (simp [*, errW_none, errW_some] <;> rfl), bs_ HB GE165⟩
    ·rw [if_neg c13] at H
     exact absurd H (by simp)
   ·rw [if_neg c12] at H
    exact absurd H (by simp)
  ·replace c11 := Bool.eq_false_iff.mpr c11
   subst c11
   have H1 : (if 0 ≤ a1_0 then (if a1_0 < (l0_2.length : Int) then ((spec_l04Opposite.f k ((rd_T41 l0_2 a1_0).f0) ((rd_T41 l0_2 a1_0).f1) ((rd_T41 l0_2 a1_0).f2) ((rd_T41 l0_2 a1_0).f3)).bind fun bt168 => (some (bt168.1, bt168.2.1, bt168.2.2.1, bt168.2.2.2))) else (none)) else (none)) = some (r1, r2, r3, r4) := by rw [if_neg (show ¬ (false = true) by decide)] at H; exact H
   clear H
   have H := H1
   clear H1
   by_cases c24 : 0 ≤ a1_0
   ·rw [if_pos c24] at H
    have c24b0 : decide (0 ≤ a1_0) = true := decide_eq_true c24
    clear c24
    by_cases c25 : a1_0 < (l0_2.length : Int)
    ·rw [if_pos c25] at H
     have c25b0 : decide (a1_0 < (l0_2.length : Int)) = true := decide_eq_true c25
     clear c25
     replace H := Option.bind_eq_some_iff.mp H
     obtain ⟨⟨t168, t169, t170, t171⟩, A260, H⟩ := H
     replace H : (some (t168, t169, t170, t171)) = some (r1, r2, r3, r4) := H
     have A26 := Aside0.mk A260
     clear A260
     simp only [Option.some.injEq, Prod.mk.injEq] at H
     obtain ⟨rfl, rfl, rfl, rfl⟩ := H
     go_enter Try.func31, Try.ntmps31
     try go_wp2_with (first | ((with_reducible refine gate_dst (N := 3) rfl ?_); refine box_event ?hg (N := 3) ?hd (cs := #[.int .i8 a1_0, .bool false]) (t := 38) ?hr ?_; (case hd => rfl); (case hg => rfl); (case hr => first | (go_simp; done) | (go_simp; rfl)); intro gb164 hg w27 hbox hb; have n0_ := A_ (blk_below (pl_ BK163) hb); have n1_ := A_ (below_step (bl_ HB) hb); have n2_ := A_ (hbox); have n3_ := A_ ((by rw [hg]; exact (below_size (bl_ HB)) : w.heap.size ≤ gb164)); have n4_ := n3_; have n5_ := A_ ((by rw [hg]; exact Nat.ne_of_lt (blk_lt (pl_ BK163)) : gp0 ≠ gb164)); have n6_ := Aside0.mk n5_.out.symm; clear BK163; clear HB; have BK163 := n0_; have HB := n1_; have BK164 := n2_; have GW164 := n3_; have GE164 := n4_; have NB163_164 := n5_; have NB164_163 := n6_; clear n0_ n1_ n2_ n3_ n4_ n5_ n6_; clear hb hbox hg) | ((with_reducible refine gate_dst (N := 4) rfl ?_); refine box_event ?hg (N := 4) ?hd (cs := #[.int .i8 0, .int .i8 0, .int .i8 0, .int .i8 0]) (t := 41) ?hr ?_; (case hd => rfl); (case hg => rfl); (case hr => first | (go_simp; done) | (go_simp; rfl)); intro gb165 hg w28 hbox hb; have n0_ := A_ (blk_below (pl_ BK163) hb); have n1_ := A_ (blk_below (pl_ BK164) hb); have n2_ := A_ (below_step (bl_ HB) hb); have n3_ := A_ (hbox); have n4_ := A_ ((by rw [hg]; exact (below_size (bl_ HB)) : w.heap.size ≤ gb165)); have n5_ := n4_; have n6_ := A_ ((by rw [hg]; exact Nat.ne_of_lt (blk_lt (pl_ BK163)) : gp0 ≠ gb165)); have n7_ := Aside0.mk n6_.out.symm; have n8_ := A_ ((by rw [hg]; exact Nat.ne_of_lt (blk_lt (pl_ BK164)) : gb164 ≠ gb165)); have n9_ := Aside0.mk n8_.out.symm; clear BK163; clear BK164; clear HB; have BK163 := n0_; have BK164 := n1_; have HB := n2_; have BK165 := n3_; have GW165 := n4_; have GE165 := n5_; have NB163_165 := n6_; have NB165_163 := n7_; have NB164_165 := n8_; have NB165_164 := n9_; clear n0_ n1_ n2_ n3_ n4_ n5_ n6_ n7_ n8_ n9_; clear hb hbox hg; have hnb29 := NB164_163.out; have hnc29 := NB163_164.out; have hnb30 := NB164_165.out; have hnc30 := NB165_164.out; obtain ⟨hcz31_0, hcz31_1, hfz31_0, hfz31_1⟩ := cl2_ BK164))
     have n0_ := A_ (blk_drew BK163.out)
     have n1_ := A_ (blk_drew BK164.out)
     have n2_ := A_ (blk_drew BK165.out)
     have n3_ := A_ (below_drew1 HB.out)
     clear BK163
     clear BK164
     clear BK165
     clear HB
     have BK163 := n0_
     have BK164 := n1_
     have BK165 := n2_
     have HB := n3_
     clear n0_ n1_ n2_ n3_
     have p167 : 0 ≤ (a1_0 : Int) := asm_
     have q167 : a1_0 < (l0_2.length : Int) := asm_
     obtain ⟨ad167, e167, hx167_0, hx167_1, hx167_2, hx167_3⟩ := at_T41 HR0_2.out a1_0 p167 q167
     have hw167_3 := hx167_3
     have hw167_2 := hx167_2
     have hw167_1 := hx167_1
     have hw167_0 := hx167_0
     cases e167
     (try replace hx167_0 := (HB.out.cell (World.block_lt_of_cell? w _ hx167_0)).trans hx167_0)
     (try replace hx167_1 := (HB.out.cell (World.block_lt_of_cell? w _ hx167_1)).trans hx167_1)
     (try replace hx167_2 := (HB.out.cell (World.block_lt_of_cell? w _ hx167_2)).trans hx167_2)
     (try replace hx167_3 := (HB.out.cell (World.block_lt_of_cell? w _ hx167_3)).trans hx167_3)
     replace p167 := eq_true p167
     replace q167 := eq_true q167
     refine start_ (n := 10) (S := fun w' => w'.cell? ⟨gp0, 0, none⟩ = some (.int .i8 a0_0) ∧ w'.cell? ⟨gp0, 1, none⟩ = some (.int .i8 a0_1) ∧ w'.cell? ⟨gp0, 2, none⟩ = some (.slice (some ad167) l0_2.length c0_2) ∧ w'.cell? ⟨gb164, 0, none⟩ = some (.int .i8 a1_0) ∧ w'.cell? ⟨gb164, 1, none⟩ = some (.bool false) ∧ w'.cell? (ad167.add ((a1_0).toNat * 4)) = some (.int .i8 ((rd_T41 l0_2 a1_0).f0)) ∧ w'.cell? ⟨(ad167.add ((a1_0).toNat * 4)).block, (ad167.add ((a1_0).toNat * 4)).off + 1, none⟩ = some (.int .i8 ((rd_T41 l0_2 a1_0).f1)) ∧ w'.cell? ⟨(ad167.add ((a1_0).toNat * 4)).block, (ad167.add ((a1_0).toNat * 4)).off + 2, none⟩ = some (.int .i8 ((rd_T41 l0_2 a1_0).f2)) ∧ w'.cell? ⟨(ad167.add ((a1_0).toNat * 4)).block, (ad167.add ((a1_0).toNat * 4)).off + 3, none⟩ = some (.int .i8 ((rd_T41 l0_2 a1_0).f3))) (ds := []) #[false, false, false, false, false, false, false, false, false, false] (by kernel_rfl) rfl rfl ⟨(blk_cell BK163.out 0).trans rfl, (blk_cell BK163.out 1).trans rfl, (blk_cell BK163.out 2).trans rfl, (blk_cell BK164.out 0).trans rfl, (blk_cell BK164.out 1).trans rfl, (by first | exact (HB.out.cell (World.block_lt_of_cell? w _ hw167_0)).trans hw167_0 | exact hw167_0), (by first | exact (HB.out.cell (World.block_lt_of_cell? w _ hw167_1)).trans hw167_1 | exact hw167_1), (by first | exact (HB.out.cell (World.block_lt_of_cell? w _ hw167_2)).trans hw167_2 | exact hw167_2), (by first | exact (HB.out.cell (World.block_lt_of_cell? w _ hw167_3)).trans hw167_3 | exact hw167_3)⟩ (fun hHeld => ?_); refine with_tabW spec_l04Seen.tab5 spec_l04Seen.bits5 (fun HT_ HW_ => ?_)
     generalize w28.drew = w32 at BK163 BK164 BK165 HB hx167_0 hx167_1 hx167_2 hx167_3 hHeld ⊢
     refine pure_ (i := 0) (N := some 19) (v := ?_) (a' := ?_) #[true, false, false, false, false, false, false, false, false, false] rfl rfl (any_of HT_.out (by kernel_rfl)) (fun _ _ _ h => h) (Or.inl ⟨by rfl, ?_⟩) ?_ ?_
     rotate_left
     ·intro w'
      go_simp
      with_reducible rfl
     rotate_left
     ·simp only [Act.put, sp_]
      rfl
     refine pure_ (i := 1) (N := some 20) (v := ?_) (a' := ?_) #[true, true, false, false, false, false, false, false, false, false] rfl rfl (any_of HT_.out (by kernel_rfl)) (fun _ _ _ h => h) (Or.inl ⟨by rfl, ?_⟩) ?_ ?_
     rotate_left
     ·intro w'
      go_simp
      with_reducible rfl
     rotate_left
     ·simp only [Act.put, sp_]
      rfl
     refine pure_ (i := 2) (N := some 21) (v := ?_) (a' := ?_) #[true, true, true, false, false, false, false, false, false, false] rfl rfl (any_of HT_.out (by kernel_rfl)) (fun _ _ _ h => h) (Or.inl ⟨by rfl, ?_⟩) ?_ ?_
     rotate_left
     ·intro w'
      go_simp
      with_reducible rfl
     rotate_left
     ·simp only [Act.put, sp_]
      rfl
     refine pure_ (i := 4) (N := some 23) (v := ?_) (a' := ?_) #[true, true, true, false, true, false, false, false, false, false] rfl rfl (any_of HT_.out (by kernel_rfl)) (fun _ _ _ h => h) (Or.inl ⟨by rfl, ?_⟩) ?_ ?_
     rotate_left
     ·intro w'
      go_simp
      with_reducible rfl
     rotate_left
     ·simp only [Act.put, sp_]
      rfl
     refine take_ (i := 3) (N := some 22) (v := ?_) (a' := ?_) #[true, true, true, true, true, false, false, false, false, false] rfl rfl (take_ofW HT_.out HW_.out (by kernel_rfl)) (fun _ _ _ h => h) (Or.inl ⟨by rfl, ?_⟩) hHeld ?_ ?_
     rotate_left
     ·rintro w' ⟨s0, s1, s2, s3, s4, s5, s6, s7, s8⟩
      go_simp
      with_reducible rfl
     rotate_left
     ·simp only [Act.put, sp_]
      rfl
     refine take_ (i := 5) (N := some 24) (v := ?_) (a' := ?_) #[true, true, true, true, true, true, false, false, false, false] rfl rfl (take_ofW HT_.out HW_.out (by kernel_rfl)) (fun _ _ _ h => h) (Or.inl ⟨by rfl, ?_⟩) hHeld ?_ ?_
     rotate_left
     ·rintro w' ⟨s0, s1, s2, s3, s4, s5, s6, s7, s8⟩
      go_simp
      with_reducible rfl
     rotate_left
     ·simp only [Act.put, sp_]
      rfl
     refine pure_ (i := 6) (N := some 25) (v := ?_) (a' := ?_) #[true, true, true, true, true, true, true, false, false, false] rfl rfl (any_of HT_.out (by kernel_rfl)) (fun _ _ _ h => h) (Or.inl ⟨by rfl, ?_⟩) ?_ ?_
     rotate_left
     ·intro w'
      go_simp
      with_reducible rfl
     rotate_left
     ·simp only [Act.put, sp_]
      rfl
     refine take_ (i := 7) (N := some 26) (v := ?_) (a' := ?_) #[true, true, true, true, true, true, true, true, false, false] rfl rfl (take_ofW HT_.out HW_.out (by kernel_rfl)) (fun _ _ _ h => h) (Or.inl ⟨by rfl, ?_⟩) hHeld ?_ ?_
     rotate_left
     ·rintro w' ⟨s0, s1, s2, s3, s4, s5, s6, s7, s8⟩
      go_simp
      with_reducible rfl
     rotate_left
     ·simp only [Act.put, sp_]
      rfl
     refine one_ (i := 8) (N := some 27) #[true, true, true, true, true, true, true, true, true, false] rfl rfl (one_of HT_.out (by kernel_rfl)) (by decide) (fun K hK => ?_)
     refine goes_ Try.func46 (by kernel_rfl) rfl #[.agg #[.int .i8 ((rd_T41 l0_2 a1_0).f0), .int .i8 ((rd_T41 l0_2 a1_0).f1), .int .i8 ((rd_T41 l0_2 a1_0).f2), .int .i8 ((rd_T41 l0_2 a1_0).f3)]] (by rfl) rfl rfl arg_ ?_
     with_reducible refine (spec_l04Opposite.calls k ((rd_T41 l0_2 a1_0).f0) ((rd_T41 l0_2 a1_0).f1) ((rd_T41 l0_2 a1_0).f2) ((rd_T41 l0_2 a1_0).f3) t168 t169 t170 t171 _ A26.out).mono ?_
     rintro e w33 ⟨rfl, hb⟩
     refine ⟨_, rfl, ?_⟩
     have n0_ := A_ (blk_below (pl_ BK163) hb)
     have n1_ := A_ (blk_below (pl_ BK164) hb)
     have n2_ := A_ (blk_below (pl_ BK165) hb)
     have n3_ := A_ (below_step (bl_ HB) hb)
     clear BK163
     clear BK164
     clear BK165
     clear HB
     have BK163 := n0_
     have BK164 := n1_
     have BK165 := n2_
     have HB := n3_
     clear n0_ n1_ n2_ n3_
     (try clear hb)
     (try clear hb2)
     (try clear hk)
     (try clear hi)
     refine hK.out _ _ ⟨(blk_cell BK163.out 0).trans rfl, (blk_cell BK163.out 1).trans rfl, (blk_cell BK163.out 2).trans rfl, (blk_cell BK164.out 0).trans rfl, (blk_cell BK164.out 1).trans rfl, (by first | exact (HB.out.cell (World.block_lt_of_cell? w _ hw167_0)).trans hw167_0 | exact hw167_0), (by first | exact (HB.out.cell (World.block_lt_of_cell? w _ hw167_1)).trans hw167_1 | exact hw167_1), (by first | exact (HB.out.cell (World.block_lt_of_cell? w _ hw167_2)).trans hw167_2 | exact hw167_2), (by first | exact (HB.out.cell (World.block_lt_of_cell? w _ hw167_3)).trans hw167_3 | exact hw167_3)⟩ (fun hHeld => ?_)
     clear hK K
     refine norm_ (a' := ?_) ?_ ?_
     rotate_left
     ·show Act.put _ (some 27) _ = _
      simp only [Act.put, sp_]
      rfl
     refine one_ (i := 9) (N := none) #[true, true, true, true, true, true, true, true, true, true] rfl rfl (one_of HT_.out (by kernel_rfl)) (by decide) (fun K hK => ?_)
     have hs34 : w33.cell? ⟨gb165, 0, none⟩ = some (.int .i8 0) := (blk_cell BK165.out 0).trans rfl
     have hfs34 := blk_frozen BK165.out 0
     have hns34_0 := NB163_165.out
     have hns34_1 := NB164_165.out
     have hms34_0 := NB165_163.out
     have hms34_1 := NB165_164.out
     have hs35 : w33.cell? ⟨gb165, 1, none⟩ = some (.int .i8 0) := (blk_cell BK165.out 1).trans rfl
     have hfs35 := blk_frozen BK165.out 1
     have hns35_0 := NB163_165.out
     have hns35_1 := NB164_165.out
     have hms35_0 := NB165_163.out
     have hms35_1 := NB165_164.out
     have hs36 : w33.cell? ⟨gb165, 2, none⟩ = some (.int .i8 0) := (blk_cell BK165.out 2).trans rfl
     have hfs36 := blk_frozen BK165.out 2
     have hns36_0 := NB163_165.out
     have hns36_1 := NB164_165.out
     have hms36_0 := NB165_163.out
     have hms36_1 := NB165_164.out
     have hs37 : w33.cell? ⟨gb165, 3, none⟩ = some (.int .i8 0) := (blk_cell BK165.out 3).trans rfl
     have hfs37 := blk_frozen BK165.out 3
     have hns37_0 := NB163_165.out
     have hns37_1 := NB164_165.out
     have hms37_0 := NB165_163.out
     have hms37_1 := NB165_164.out
     refine skip_ (w1 := ?_) (by rfl) rfl ?_ ?_
     rotate_left
     ·go_simp
      rfl
     refine hK.out _ _ ⟨(cf4_ NB163_165 (hHeld.1)), (cf4_ NB163_165 (hHeld.2.1)), (cf4_ NB163_165 (hHeld.2.2.1)), (cf4_ NB164_165 (hHeld.2.2.2.1)), (cf4_ NB164_165 (hHeld.2.2.2.2.1)), ((cell_far (p := ⟨gb165, _, none⟩) (by first | exact Nat.ne_of_lt (Nat.lt_of_lt_of_le (by have := World.block_lt_of_cell? _ _ hw167_0; first | rwa [add_block] at this | exact this) GW165.out) | (rw [add_block]; exact Nat.ne_of_lt (Nat.lt_of_lt_of_le (by have := World.block_lt_of_cell? _ _ hw167_0; first | rwa [add_block] at this | exact this) GW165.out)) | (show (Addr.add _ _).block ≠ _; rw [add_block]; exact Nat.ne_of_lt (Nat.lt_of_lt_of_le (by have := World.block_lt_of_cell? _ _ hw167_0; first | rwa [add_block] at this | exact this) GW165.out)) | (dsimp only; exact Nat.ne_of_lt (Nat.lt_of_lt_of_le (by have := World.block_lt_of_cell? _ _ hw167_0; first | rwa [add_block] at this | exact this) GW165.out))) _).trans (((cell_far (p := ⟨gb165, _, none⟩) (by first | exact Nat.ne_of_lt (Nat.lt_of_lt_of_le (by have := World.block_lt_of_cell? _ _ hw167_0; first | rwa [add_block] at this | exact this) GW165.out) | (rw [add_block]; exact Nat.ne_of_lt (Nat.lt_of_lt_of_le (by have := World.block_lt_of_cell? _ _ hw167_0; first | rwa [add_block] at this | exact this) GW165.out)) | (show (Addr.add _ _).block ≠ _; rw [add_block]; exact Nat.ne_of_lt (Nat.lt_of_lt_of_le (by have := World.block_lt_of_cell? _ _ hw167_0; first | rwa [add_block] at this | exact this) GW165.out)) | (dsimp only; exact Nat.ne_of_lt (Nat.lt_of_lt_of_le (by have := World.block_lt_of_cell? _ _ hw167_0; first | rwa [add_block] at this | exact this) GW165.out))) _).trans (((cell_far (p := ⟨gb165, _, none⟩) (by first | exact Nat.ne_of_lt (Nat.lt_of_lt_of_le (by have := World.block_lt_of_cell? _ _ hw167_0; first | rwa [add_block] at this | exact this) GW165.out) | (rw [add_block]; exact Nat.ne_of_lt (Nat.lt_of_lt_of_le (by have := World.block_lt_of_cell? _ _ hw167_0; first | rwa [add_block] at this | exact this) GW165.out)) | (show (Addr.add _ _).block ≠ _; rw [add_block]; exact Nat.ne_of_lt (Nat.lt_of_lt_of_le (by have := World.block_lt_of_cell? _ _ hw167_0; first | rwa [add_block] at this | exact this) GW165.out)) | (dsimp only; exact Nat.ne_of_lt (Nat.lt_of_lt_of_le (by have := World.block_lt_of_cell? _ _ hw167_0; first | rwa [add_block] at this | exact this) GW165.out))) _).trans (((cell_far (p := ⟨gb165, _, none⟩) (by first | exact Nat.ne_of_lt (Nat.lt_of_lt_of_le (by have := World.block_lt_of_cell? _ _ hw167_0; first | rwa [add_block] at this | exact this) GW165.out) | (rw [add_block]; exact Nat.ne_of_lt (Nat.lt_of_lt_of_le (by have := World.block_lt_of_cell? _ _ hw167_0; first | rwa [add_block] at this | exact this) GW165.out)) | (show (Addr.add _ _).block ≠ _; rw [add_block]; exact Nat.ne_of_lt (Nat.lt_of_lt_of_le (by have := World.block_lt_of_cell? _ _ hw167_0; first | rwa [add_block] at this | exact this) GW165.out)) | (dsimp only; exact Nat.ne_of_lt (Nat.lt_of_lt_of_le (by have := World.block_lt_of_cell? _ _ hw167_0; first | rwa [add_block] at this | exact this) GW165.out))) _).trans (hHeld.2.2.2.2.2.1)))))))), ((cell_far (p := ⟨gb165, _, none⟩) (by first | exact Nat.ne_of_lt (Nat.lt_of_lt_of_le (by have := World.block_lt_of_cell? _ _ hw167_1; first | rwa [add_block] at this | exact this) GW165.out) | (rw [add_block]; exact Nat.ne_of_lt (Nat.lt_of_lt_of_le (by have := World.block_lt_of_cell? _ _ hw167_1; first | rwa [add_block] at this | exact this) GW165.out)) | (show (Addr.add _ _).block ≠ _; rw [add_block]; exact Nat.ne_of_lt (Nat.lt_of_lt_of_le (by have := World.block_lt_of_cell? _ _ hw167_1; first | rwa [add_block] at this | exact this) GW165.out)) | (dsimp only; exact Nat.ne_of_lt (Nat.lt_of_lt_of_le (by have := World.block_lt_of_cell? _ _ hw167_1; first | rwa [add_block] at this | exact this) GW165.out))) _).trans (((cell_far (p := ⟨gb165, _, none⟩) (by first | exact Nat.ne_of_lt (Nat.lt_of_lt_of_le (by have := World.block_lt_of_cell? _ _ hw167_1; first | rwa [add_block] at this | exact this) GW165.out) | (rw [add_block]; exact Nat.ne_of_lt (Nat.lt_of_lt_of_le (by have := World.block_lt_of_cell? _ _ hw167_1; first | rwa [add_block] at this | exact this) GW165.out)) | (show (Addr.add _ _).block ≠ _; rw [add_block]; exact Nat.ne_of_lt (Nat.lt_of_lt_of_le (by have := World.block_lt_of_cell? _ _ hw167_1; first | rwa [add_block] at this | exact this) GW165.out)) | (dsimp only; exact Nat.ne_of_lt (Nat.lt_of_lt_of_le (by have := World.block_lt_of_cell? _ _ hw167_1; first | rwa [add_block] at this | exact this) GW165.out))) _).trans (((cell_far (p := ⟨gb165, _, none⟩) (by first | exact Nat.ne_of_lt (Nat.lt_of_lt_of_le (by have := World.block_lt_of_cell? _ _ hw167_1; first | rwa [add_block] at this | exact this) GW165.out) | (rw [add_block]; exact Nat.ne_of_lt (Nat.lt_of_lt_of_le (by have := World.block_lt_of_cell? _ _ hw167_1; first | rwa [add_block] at this | exact this) GW165.out)) | (show (Addr.add _ _).block ≠ _; rw [add_block]; exact Nat.ne_of_lt (Nat.lt_of_lt_of_le (by have := World.block_lt_of_cell? _ _ hw167_1; first | rwa [add_block] at this | exact this) GW165.out)) | (dsimp only; exact Nat.ne_of_lt (Nat.lt_of_lt_of_le (by have := World.block_lt_of_cell? _ _ hw167_1; first | rwa [add_block] at this | exact this) GW165.out))) _).trans (((cell_far (p := ⟨gb165, _, none⟩) (by first | exact Nat.ne_of_lt (Nat.lt_of_lt_of_le (by have := World.block_lt_of_cell? _ _ hw167_1; first | rwa [add_block] at this | exact this) GW165.out) | (rw [add_block]; exact Nat.ne_of_lt (Nat.lt_of_lt_of_le (by have := World.block_lt_of_cell? _ _ hw167_1; first | rwa [add_block] at this | exact this) GW165.out)) | (show (Addr.add _ _).block ≠ _; rw [add_block]; exact Nat.ne_of_lt (Nat.lt_of_lt_of_le (by have := World.block_lt_of_cell? _ _ hw167_1; first | rwa [add_block] at this | exact this) GW165.out)) | (dsimp only; exact Nat.ne_of_lt (Nat.lt_of_lt_of_le (by have := World.block_lt_of_cell? _ _ hw167_1; first | rwa [add_block] at this | exact this) GW165.out))) _).trans (hHeld.2.2.2.2.2.2.1)))))))), ((cell_far (p := ⟨gb165, _, none⟩) (by first | exact Nat.ne_of_lt (Nat.lt_of_lt_of_le (by have := World.block_lt_of_cell? _ _ hw167_2; first | rwa [add_block] at this | exact this) GW165.out) | (rw [add_block]; exact Nat.ne_of_lt (Nat.lt_of_lt_of_le (by have := World.block_lt_of_cell? _ _ hw167_2; first | rwa [add_block] at this | exact this) GW165.out)) | (show (Addr.add _ _).block ≠ _; rw [add_block]; exact Nat.ne_of_lt (Nat.lt_of_lt_of_le (by have := World.block_lt_of_cell? _ _ hw167_2; first | rwa [add_block] at this | exact this) GW165.out)) | (dsimp only; exact Nat.ne_of_lt (Nat.lt_of_lt_of_le (by have := World.block_lt_of_cell? _ _ hw167_2; first | rwa [add_block] at this | exact this) GW165.out))) _).trans (((cell_far (p := ⟨gb165, _, none⟩) (by first | exact Nat.ne_of_lt (Nat.lt_of_lt_of_le (by have := World.block_lt_of_cell? _ _ hw167_2; first | rwa [add_block] at this | exact this) GW165.out) | (rw [add_block]; exact Nat.ne_of_lt (Nat.lt_of_lt_of_le (by have := World.block_lt_of_cell? _ _ hw167_2; first | rwa [add_block] at this | exact this) GW165.out)) | (show (Addr.add _ _).block ≠ _; rw [add_block]; exact Nat.ne_of_lt (Nat.lt_of_lt_of_le (by have := World.block_lt_of_cell? _ _ hw167_2; first | rwa [add_block] at this | exact this) GW165.out)) | (dsimp only; exact Nat.ne_of_lt (Nat.lt_of_lt_of_le (by have := World.block_lt_of_cell? _ _ hw167_2; first | rwa [add_block] at this | exact this) GW165.out))) _).trans (((cell_far (p := ⟨gb165, _, none⟩) (by first | exact Nat.ne_of_lt (Nat.lt_of_lt_of_le (by have := World.block_lt_of_cell? _ _ hw167_2; first | rwa [add_block] at this | exact this) GW165.out) | (rw [add_block]; exact Nat.ne_of_lt (Nat.lt_of_lt_of_le (by have := World.block_lt_of_cell? _ _ hw167_2; first | rwa [add_block] at this | exact this) GW165.out)) | (show (Addr.add _ _).block ≠ _; rw [add_block]; exact Nat.ne_of_lt (Nat.lt_of_lt_of_le (by have := World.block_lt_of_cell? _ _ hw167_2; first | rwa [add_block] at this | exact this) GW165.out)) | (dsimp only; exact Nat.ne_of_lt (Nat.lt_of_lt_of_le (by have := World.block_lt_of_cell? _ _ hw167_2; first | rwa [add_block] at this | exact this) GW165.out))) _).trans (((cell_far (p := ⟨gb165, _, none⟩) (by first | exact Nat.ne_of_lt (Nat.lt_of_lt_of_le (by have := World.block_lt_of_cell? _ _ hw167_2; first | rwa [add_block] at this | exact this) GW165.out) | (rw [add_block]; exact Nat.ne_of_lt (Nat.lt_of_lt_of_le (by have := World.block_lt_of_cell? _ _ hw167_2; first | rwa [add_block] at this | exact this) GW165.out)) | (show (Addr.add _ _).block ≠ _; rw [add_block]; exact Nat.ne_of_lt (Nat.lt_of_lt_of_le (by have := World.block_lt_of_cell? _ _ hw167_2; first | rwa [add_block] at this | exact this) GW165.out)) | (dsimp only; exact Nat.ne_of_lt (Nat.lt_of_lt_of_le (by have := World.block_lt_of_cell? _ _ hw167_2; first | rwa [add_block] at this | exact this) GW165.out))) _).trans (hHeld.2.2.2.2.2.2.2.1)))))))), ((cell_far (p := ⟨gb165, _, none⟩) (by first | exact Nat.ne_of_lt (Nat.lt_of_lt_of_le (by have := World.block_lt_of_cell? _ _ hw167_3; first | rwa [add_block] at this | exact this) GW165.out) | (rw [add_block]; exact Nat.ne_of_lt (Nat.lt_of_lt_of_le (by have := World.block_lt_of_cell? _ _ hw167_3; first | rwa [add_block] at this | exact this) GW165.out)) | (show (Addr.add _ _).block ≠ _; rw [add_block]; exact Nat.ne_of_lt (Nat.lt_of_lt_of_le (by have := World.block_lt_of_cell? _ _ hw167_3; first | rwa [add_block] at this | exact this) GW165.out)) | (dsimp only; exact Nat.ne_of_lt (Nat.lt_of_lt_of_le (by have := World.block_lt_of_cell? _ _ hw167_3; first | rwa [add_block] at this | exact this) GW165.out))) _).trans (((cell_far (p := ⟨gb165, _, none⟩) (by first | exact Nat.ne_of_lt (Nat.lt_of_lt_of_le (by have := World.block_lt_of_cell? _ _ hw167_3; first | rwa [add_block] at this | exact this) GW165.out) | (rw [add_block]; exact Nat.ne_of_lt (Nat.lt_of_lt_of_le (by have := World.block_lt_of_cell? _ _ hw167_3; first | rwa [add_block] at this | exact this) GW165.out)) | (show (Addr.add _ _).block ≠ _; rw [add_block]; exact Nat.ne_of_lt (Nat.lt_of_lt_of_le (by have := World.block_lt_of_cell? _ _ hw167_3; first | rwa [add_block] at this | exact this) GW165.out)) | (dsimp only; exact Nat.ne_of_lt (Nat.lt_of_lt_of_le (by have := World.block_lt_of_cell? _ _ hw167_3; first | rwa [add_block] at this | exact this) GW165.out))) _).trans (((cell_far (p := ⟨gb165, _, none⟩) (by first | exact Nat.ne_of_lt (Nat.lt_of_lt_of_le (by have := World.block_lt_of_cell? _ _ hw167_3; first | rwa [add_block] at this | exact this) GW165.out) | (rw [add_block]; exact Nat.ne_of_lt (Nat.lt_of_lt_of_le (by have := World.block_lt_of_cell? _ _ hw167_3; first | rwa [add_block] at this | exact this) GW165.out)) | (show (Addr.add _ _).block ≠ _; rw [add_block]; exact Nat.ne_of_lt (Nat.lt_of_lt_of_le (by have := World.block_lt_of_cell? _ _ hw167_3; first | rwa [add_block] at this | exact this) GW165.out)) | (dsimp only; exact Nat.ne_of_lt (Nat.lt_of_lt_of_le (by have := World.block_lt_of_cell? _ _ hw167_3; first | rwa [add_block] at this | exact this) GW165.out))) _).trans (((cell_far (p := ⟨gb165, _, none⟩) (by first | exact Nat.ne_of_lt (Nat.lt_of_lt_of_le (by have := World.block_lt_of_cell? _ _ hw167_3; first | rwa [add_block] at this | exact this) GW165.out) | (rw [add_block]; exact Nat.ne_of_lt (Nat.lt_of_lt_of_le (by have := World.block_lt_of_cell? _ _ hw167_3; first | rwa [add_block] at this | exact this) GW165.out)) | (show (Addr.add _ _).block ≠ _; rw [add_block]; exact Nat.ne_of_lt (Nat.lt_of_lt_of_le (by have := World.block_lt_of_cell? _ _ hw167_3; first | rwa [add_block] at this | exact this) GW165.out)) | (dsimp only; exact Nat.ne_of_lt (Nat.lt_of_lt_of_le (by have := World.block_lt_of_cell? _ _ hw167_3; first | rwa [add_block] at this | exact this) GW165.out))) _).trans (hHeld.2.2.2.2.2.2.2.2))))))))⟩ (fun hHeld => ?_)
     clear hK K
     refine done_ (done_of HT_.out (by kernel_rfl)) ?_
     try go_wp2
     refine bodyPost_ret (results_cell_row rfl _ _ gb165 41 #[.int .i8 t168, .int .i8 t169, .int .i8 t170, .int .i8 t171] (0, 0) _ rfl (by (with_reducible repeat (first | refine blk_drewN ?_ _ | refine blk_drew ?_ | refine blk_alloc ?_ _)); refine blk_put (cs := #[.int .i8 t168, .int .i8 t169, .int .i8 t170, .int .i8 0]) ?_ 3 _ rfl; (with_reducible repeat (first | refine blk_drewN ?_ _ | refine blk_drew ?_ | refine blk_alloc ?_ _)); refine blk_put (cs := #[.int .i8 t168, .int .i8 t169, .int .i8 0, .int .i8 0]) ?_ 2 _ rfl; (with_reducible repeat (first | refine blk_drewN ?_ _ | refine blk_drew ?_ | refine blk_alloc ?_ _)); refine blk_put (cs := #[.int .i8 t168, .int .i8 0, .int .i8 0, .int .i8 0]) ?_ 1 _ rfl; (with_reducible repeat (first | refine blk_drewN ?_ _ | refine blk_drew ?_ | refine blk_alloc ?_ _)); refine blk_put (cs := #[.int .i8 0, .int .i8 0, .int .i8 0, .int .i8 0]) ?_ 0 _ rfl; (with_reducible repeat (first | refine blk_drewN ?_ _ | refine blk_drew ?_ | refine blk_alloc ?_ _)); exact BK165.out) Try.underlying41 rfl (by kernel_rfl)) rfl ?_
     exact ⟨by first | rfl | (simp [errW_none, errW_some] <;> rfl) | (simp [*, errW_none, errW_some] <;> rfl), bs_ HB GE165⟩
    ·rw [if_neg c25] at H
     exact absurd H (by simp)
   ·rw [if_neg c24] at H
    exact absurd H (by simp)

end Go.Proofs.Ytkieplebdbdigaa.M
