-- By this seat's own program over the kit's printer (arrays, functions told by hand); nothing of it is trusted: the kernel checks it.
import Derived.Test.YtkllpdekkhhhnaaMx0
import Derived.Test.YtkllpdekkhhhnaaMx1
import Derived.Test.YtkllpdekkhhhnaaMx10
import Derived.Test.YtkllpdekkhhhnaaMx12
namespace Go.Proofs.Ytkllpdekkhhhnaa.M
open Go.RowKit Go.Proofs.YtkllpdekkhhhnaaW.PrintWords Go.Proofs.YtkllpdekkhhhnaaW.PrintLast Go.Proofs.YtkllpdekkhhhnaaW.PrintMore
attribute [local go_sem] max2_int min2_int max_two min_two max_three min_three max_four min_four   -- for this text's walks alone
set_option linter.unusedVariables false
set_option linter.unusedSimpArgs false

attribute [local go_sem high] eqA30
/-! ### spec_l04Decode: function 40 -/
def spec_l04Decode.l0 : Nat → List (S37) → Int → Int → Int → List (S30) → Int → Int → Int → Int → Option (Int × Bool × Bool)
 | 0, _, _, _, _, _, _, _, _, _ => none
 | k + 1, x6, x7, x350000, x350001, x350002, x351000, x351001, x351002, x351003 => if x7 < (x6.length : Int) then (if 0 ≤ x7 then ((spec_l04Seen.f k x350000 x350001 x350002 ((rd_T37 x6 x7).f0) ((rd_T37 x6 x7).f1)).bind fun bt356 => (if (bt356.1 == x351000 && (bt356.2.1 == x351001 && (bt356.2.2.1 == x351002 && (bt356.2.2.2 == x351003)))) = true then (some ((rd_T37 x6 x7).f0, (rd_T37 x6 x7).f1, true)) else (spec_l04Decode.l0 k x6 (wrap64 (x7 + 1)) x350000 x350001 x350002 x351000 x351001 x351002 x351003))) else (none)) else (some (0, false, false))
def spec_l04Decode.f (k : Nat) (a0_0 : Int) (a0_1 : Int) (l0_2 : List (S30)) (a1_0 : Int) (a1_1 : Int) (a1_2 : Int) (a1_3 : Int) : Option (Int × Bool × Bool) := (spec_l04Cases.f k a0_0 a0_1 l0_2).bind fun t352 => (spec_l04Decode.l0 k t352 0 a0_0 a0_1 l0_2 a1_0 a1_1 a1_2 a1_3)
theorem spec_l04Decode.mono_l : ∀ k, (∀ y0 y1 y2 y3 y4 y5 y6 y7 y8, LeO (spec_l04Decode.l0 k y0 y1 y2 y3 y4 y5 y6 y7 y8) (spec_l04Decode.l0 (k + 1) y0 y1 y2 y3 y4 y5 y6 y7 y8))
 | 0 => fun _ _ _ _ _ _ _ _ _ r h => by simp [spec_l04Decode.l0] at h
 | k + 1 => by
  have ih0 := spec_l04Decode.mono_l k
  ·intro y0 y1 y2 y3 y4 y5 y6 y7 y8
   unfold spec_l04Decode.l0
   repeat' first
   | (with_reducible exact ih0 _ _ _ _ _ _ _ _ _)
   | (with_reducible exact spec_l04Cases.mono _ _ _ _)
   | (with_reducible exact spec_l04Seen.mono _ _ _ _ _ _)
   | (with_reducible exact LeO.refl _)
   | (with_reducible exact LeO.none _)
   | (with_reducible refine LeO.ite ?_ ?_)
   | (with_reducible refine LeO.bind ?_ (fun _ => ?_))
   | exact ih0 _ _ _ _ _ _ _ _ _
   | exact spec_l04Cases.mono _ _ _ _
   | exact spec_l04Seen.mono _ _ _ _ _ _
   | exact LeO.none _
   | refine LeO.ite ?_ ?_
   | refine LeO.bind ?_ (fun _ => ?_)
theorem spec_l04Decode.mono : ∀ a0 a1 a2 a3 a4 a5 a6 k, LeO (spec_l04Decode.f k a0 a1 a2 a3 a4 a5 a6) (spec_l04Decode.f (k + 1) a0 a1 a2 a3 a4 a5 a6) := by
 intro a0 a1 a2 a3 a4 a5 a6 k
 have ih0 := spec_l04Decode.mono_l k
 unfold spec_l04Decode.f
 repeat' first
   | (with_reducible exact ih0 _ _ _ _ _ _ _ _ _)
   | (with_reducible exact spec_l04Cases.mono _ _ _ _)
   | (with_reducible exact spec_l04Seen.mono _ _ _ _ _ _)
   | (with_reducible exact LeO.refl _)
   | (with_reducible exact LeO.none _)
   | (with_reducible refine LeO.ite ?_ ?_)
   | (with_reducible refine LeO.bind ?_ (fun _ => ?_))
   | exact ih0 _ _ _ _ _ _ _ _ _
   | exact spec_l04Cases.mono _ _ _ _
   | exact spec_l04Seen.mono _ _ _ _ _ _
   | exact LeO.none _
   | refine LeO.ite ?_ ?_
   | refine LeO.bind ?_ (fun _ => ?_)
def spec_l04Decode.T5 : Bool × List (List Nat × List Nat) := (true, [([], []), ([], []), ([], []), ([1, 2], [1, 2]), ([3], [3]), ([0, 4], [0, 4]), ([], []), ([5, 6], [5, 6])])
def spec_l04Decode.B5 : List Nat := [0, 0, 0, 6, 14, 31, 0, 127]
theorem spec_l04Decode.tab5 : rtab .any (opsOf Try.f40 5) = spec_l04Decode.T5 := by kernel_rfl
theorem spec_l04Decode.bits5 : waitsOk spec_l04Decode.T5.2 spec_l04Decode.B5 = true := by kernel_rfl
set_option maxHeartbeats 8000000 in
set_option maxRecDepth 100000 in
theorem spec_l04Decode.calls (k : Nat) (gp0 : Nat) (a0_0 : Int) (a0_1 : Int) (A0_2 : Option Addr) (c0_2 : Nat) (l0_2 : List (S30)) (a1_0 : Int) (a1_1 : Int) (a1_2 : Int) (a1_3 : Int) (r1 : Int) (r2 : Bool) (r3 : Bool) (w : World) (hb0 : w.heap[gp0]? = some (.cells #[.int .i8 a0_0, .int .i8 a0_1, .slice A0_2 l0_2.length c0_2] 35 (0, 0))) (hr0_2 : Kd.C k30 w A0_2 l0_2.length l0_2) (hc0_2 : l0_2.length ≤ c0_2) (h : spec_l04Decode.f k a0_0 a0_1 l0_2 a1_0 a1_1 a1_2 a1_3 = some (r1, r2, r3)) :
  Calls Try.prog 40 #[.pointer (some ⟨gp0, 0, none⟩), .agg #[.int .i8 a1_0, .int .i8 a1_1, .int .i8 a1_2, .int .i8 a1_3]] w fun e w' => e = .returned (.tuple #[.agg #[.int .i8 r1, .bool r2], .bool r3]) ∧ Below w.heap.size w w' := by
 have hu30 := Try.underlying30
 have hu37 := Try.underlying37
 have HR0_2 := Aside0.mk hr0_2
 have HC0_2 := Aside0.mk hc0_2
 clear hr0_2 hc0_2
 have BK349 := Aside0.mk hb0
 clear hb0
 have HB := Aside0.mk (Below.refl w.heap.size w)
 have H : ((spec_l04Cases.f k a0_0 a0_1 l0_2).bind fun t352 => (spec_l04Decode.l0 k t352 0 a0_0 a0_1 l0_2 a1_0 a1_1 a1_2 a1_3)) = some (r1, r2, r3) := h
 clear h
 replace H := Option.bind_eq_some_iff.mp H
 obtain ⟨t352, A30, H⟩ := H
 replace H : (spec_l04Decode.l0 k t352 0 a0_0 a0_1 l0_2 a1_0 a1_1 a1_2 a1_3) = some (r1, r2, r3) := H
 have A3 := Aside0.mk A30
 clear A30
 have H' := Aside0.mk H
 clear H
 go_enter Try.func40, Try.ntmps40
 go_wp2_with (first | ((with_reducible refine gate_dst (N := 3) rfl ?_); refine box_event ?hg (N := 3) ?hd (cs := #[.int .i8 a1_0, .int .i8 a1_1, .int .i8 a1_2, .int .i8 a1_3]) (t := 30) ?hr ?_; (case hd => rfl); (case hg => rfl); (case hr => first | (go_simp; done) | (go_simp; rfl)); intro gb350 hg w4 hbox hb; have n0_ := Aside0.mk (blk_below (g := gp0) (o := .cells #[.int .i8 a0_0, .int .i8 a0_1, .slice A0_2 l0_2.length c0_2] 35 (0, 0)) (pl_ BK349) hb); have n1_ := Aside0.mk (below_step (by repeat (first | (with_reducible first | exact HB.out | apply below_alloc | apply pw_below_drewN | apply below_drew1 | refine below_set ?_ GE349.out) | exact HB.out)) hb); have n2_ := Aside0.mk (hbox); have n3_ := Aside0.mk ((by rw [hg]; exact (below_size (by repeat (first | (with_reducible first | exact HB.out | apply below_alloc | apply pw_below_drewN | apply below_drew1 | refine below_set ?_ GE349.out) | exact HB.out))) : w.heap.size ≤ gb350)); have n4_ := Aside0.mk ((by rw [hg]; exact (below_size (by repeat (first | (with_reducible first | exact HB.out | apply below_alloc | apply pw_below_drewN | apply below_drew1 | refine below_set ?_ GE349.out) | exact HB.out))) : w.heap.size ≤ gb350)); have n5_ := Aside0.mk ((by rw [hg]; exact Nat.ne_of_lt (blk_lt (g := gp0) (o := .cells #[.int .i8 a0_0, .int .i8 a0_1, .slice A0_2 l0_2.length c0_2] 35 (0, 0)) (pl_ BK349)) : gp0 ≠ gb350)); have n6_ := Aside0.mk ((by rw [hg]; exact Nat.ne_of_gt (blk_lt (g := gp0) (o := .cells #[.int .i8 a0_0, .int .i8 a0_1, .slice A0_2 l0_2.length c0_2] 35 (0, 0)) (pl_ BK349)) : gb350 ≠ gp0)); clear BK349; clear HB; have BK349 := n0_; have HB := n1_; have BK350 := n2_; have GW350 := n3_; have GE350 := n4_; have NB349_350 := n5_; have NB350_349 := n6_; clear n0_ n1_ n2_ n3_ n4_ n5_ n6_; clear hb hbox hg) | ((with_reducible refine gate_dst (N := 4) rfl ?_); refine box_event ?hg (N := 4) ?hd (cs := #[.int .i8 0, .bool false]) (t := 37) ?hr ?_; (case hd => rfl); (case hg => rfl); (case hr => first | (go_simp; done) | (go_simp; rfl)); intro gb351 hg w5 hbox hb; have n0_ := Aside0.mk (blk_below (g := gp0) (o := .cells #[.int .i8 a0_0, .int .i8 a0_1, .slice A0_2 l0_2.length c0_2] 35 (0, 0)) (pl_ BK349) hb); have n1_ := Aside0.mk (blk_below (g := gb350) (o := .cells #[.int .i8 a1_0, .int .i8 a1_1, .int .i8 a1_2, .int .i8 a1_3] 30 (0, 0)) (pl_ BK350) hb); have n2_ := Aside0.mk (below_step (by repeat (first | (with_reducible first | exact HB.out | apply below_alloc | apply pw_below_drewN | apply below_drew1 | refine below_set ?_ GE349.out | refine below_set ?_ GE350.out) | exact HB.out)) hb); have n3_ := Aside0.mk (hbox); have n4_ := Aside0.mk ((by rw [hg]; exact (below_size (by repeat (first | (with_reducible first | exact HB.out | apply below_alloc | apply pw_below_drewN | apply below_drew1 | refine below_set ?_ GE349.out | refine below_set ?_ GE350.out) | exact HB.out))) : w.heap.size ≤ gb351)); have n5_ := Aside0.mk ((by rw [hg]; exact (below_size (by repeat (first | (with_reducible first | exact HB.out | apply below_alloc | apply pw_below_drewN | apply below_drew1 | refine below_set ?_ GE349.out | refine below_set ?_ GE350.out) | exact HB.out))) : w.heap.size ≤ gb351)); have n6_ := Aside0.mk ((by rw [hg]; exact Nat.ne_of_lt (blk_lt (g := gp0) (o := .cells #[.int .i8 a0_0, .int .i8 a0_1, .slice A0_2 l0_2.length c0_2] 35 (0, 0)) (pl_ BK349)) : gp0 ≠ gb351)); have n7_ := Aside0.mk ((by rw [hg]; exact Nat.ne_of_gt (blk_lt (g := gp0) (o := .cells #[.int .i8 a0_0, .int .i8 a0_1, .slice A0_2 l0_2.length c0_2] 35 (0, 0)) (pl_ BK349)) : gb351 ≠ gp0)); have n8_ := Aside0.mk ((by rw [hg]; exact Nat.ne_of_lt (blk_lt (g := gb350) (o := .cells #[.int .i8 a1_0, .int .i8 a1_1, .int .i8 a1_2, .int .i8 a1_3] 30 (0, 0)) (pl_ BK350)) : gb350 ≠ gb351)); have n9_ := Aside0.mk ((by rw [hg]; exact Nat.ne_of_gt (blk_lt (g := gb350) (o := .cells #[.int .i8 a1_0, .int .i8 a1_1, .int .i8 a1_2, .int .i8 a1_3] 30 (0, 0)) (pl_ BK350)) : gb351 ≠ gb350)); clear BK349; clear BK350; clear HB; have BK349 := n0_; have BK350 := n1_; have HB := n2_; have BK351 := n3_; have GW351 := n4_; have GE351 := n5_; have NB349_351 := n6_; have NB351_349 := n7_; have NB350_351 := n8_; have NB351_350 := n9_; clear n0_ n1_ n2_ n3_ n4_ n5_ n6_ n7_ n8_ n9_; clear hb hbox hg) | ((with_reducible refine gate_callee (f := 43) rfl ?_); refine goesL_ (some 9) rfl rfl Try.func43 (by kernel_rfl) rfl #[.pointer (some ⟨gp0, 0, none⟩)] rfl (by (try simp only [List.map_toArray, List.map_cons, List.map_nil]); first | done | rfl | (simp only [List.length_drop, List.length_take]; rfl)) ?_; (with_reducible refine (spec_l04Cases.calls k gp0 a0_0 a0_1 A0_2 c0_2 l0_2 t352 _ ?side1 ?side2 ?side3 A3.out).mono ?_); (case side1 => exact (pl_ BK349)); (case side2 => repeat (first | exact (Kd.C_below HR0_2.out HB.out) | (with_reducible refine Kd.C_alloc ?_ _) | (with_reducible refine Kd.C_drewN ?_ _) | (with_reducible refine Kd.C_drew ?_))); (case side3 => exact HC0_2.out); rintro e w6 ⟨v353, rfl, ho0, hb⟩; refine ⟨_, rfl, ?_⟩; have n0_ := Aside0.mk (Kd.R_lower (Kd.R_newB ho0 (g := gb351) (o := .cells #[.int .i8 0, .bool false] 37 (0, 0)) (pl_ BK351)) (below_size (by repeat (first | (with_reducible first | exact HB.out | apply below_alloc | apply pw_below_drewN | apply below_drew1 | refine below_set ?_ GE349.out | refine below_set ?_ GE350.out | refine below_set ?_ GE351.out) | exact HB.out)))); have n1_ := Aside0.mk (blk_below (g := gp0) (o := .cells #[.int .i8 a0_0, .int .i8 a0_1, .slice A0_2 l0_2.length c0_2] 35 (0, 0)) (pl_ BK349) hb); have n2_ := Aside0.mk (blk_below (g := gb350) (o := .cells #[.int .i8 a1_0, .int .i8 a1_1, .int .i8 a1_2, .int .i8 a1_3] 30 (0, 0)) (pl_ BK350) hb); have n3_ := Aside0.mk (blk_below (g := gb351) (o := .cells #[.int .i8 0, .bool false] 37 (0, 0)) (pl_ BK351) hb); have n4_ := Aside0.mk (below_step (by repeat (first | (with_reducible first | exact HB.out | apply below_alloc | apply pw_below_drewN | apply below_drew1 | refine below_set ?_ GE349.out | refine below_set ?_ GE350.out | refine below_set ?_ GE351.out) | exact HB.out)) hb); clear BK349; clear BK350; clear BK351; clear HB; have HO354 := n0_; have BK349 := n1_; have BK350 := n2_; have BK351 := n3_; have HB := n4_; clear n0_ n1_ n2_ n3_ n4_; (try clear hb); (try clear hb2); (try clear hk); (try clear hi); (try clear ho0)))
 go_loopg [7] k (fun kq v7 w' => ∃ (x7_1 : Int) (x350000_1 : Int) (x350001_1 : Int) (x352000_1 : Int) (x352001_1 : Bool), v7 = .int .i64 x7_1 ∧ Aside0 (spec_l04Decode.l0 kq t352 x7_1 x350000_1 x350001_1 l0_2 a1_0 a1_1 a1_2 a1_3 = some (r1, r2, r3)) ∧ Aside0 (kq ≤ k) ∧ Aside0 (Kd.R k37 37 w' w.heap.size (fun k_ => k_ ≠ gb351) v353 t352) ∧ Aside0 (w'.heap[gp0]? = some (.cells #[.int .i8 x350000_1, .int .i8 x350001_1, (.slice A0_2 l0_2.length c0_2)] 35 (0, 0))) ∧ Aside0 (w'.heap[gb350]? = some (.cells #[.int .i8 a1_0, .int .i8 a1_1, .int .i8 a1_2, .int .i8 a1_3] 30 (0, 0))) ∧ Aside0 (w'.heap[gb351]? = some (.cells #[.int .i8 x352000_1, .bool x352001_1] 37 (0, 0))) ∧ Aside0 (Below w.heap.size w w'))
 case atStart => exact ⟨(0), (a0_0), (a0_1), (0), (false), (by first | rfl | (simp; done) | (simp [*]; done)), H', ⟨Nat.le_refl _⟩, ⟨by (with_reducible repeat (first | apply Kd.R_alloc | apply Kd.R_drewN | apply Kd.R_drew)); exact Kd.R_mono HO354.out (fun _ hk => hk.2)⟩, ⟨pl_ BK349⟩, ⟨pl_ BK350⟩, ⟨pl_ BK351⟩, ⟨by repeat (first | (with_reducible first | exact HB.out | apply below_alloc | apply pw_below_drewN | apply below_drew1 | refine below_set ?_ GE349.out | refine below_set ?_ GE350.out | refine below_set ?_ GE351.out) | exact HB.out)⟩⟩
 case round =>
  clear H'
  try clear p2
  try clear c4
  obtain ⟨x7_1, x350000_1, x350001_1, x352000_1, x352001_1, rfl, HA, HK1, HO_6, BK349, BK350, BK351, HB⟩ := hrel
  cases gk with
  | zero => exact absurd HA.out (by simp [spec_l04Decode.l0])
  | succ k1 =>
   have H := HA.out
   clear HA
   simp only [spec_l04Decode.l0] at H
   by_cases c7 : x7_1 < (t352.length : Int)
   ·rw [if_pos c7] at H
    have c7b0 : decide (x7_1 < (t352.length : Int)) = true := decide_eq_true c7
    clear c7
    by_cases c8 : 0 ≤ x7_1
    ·rw [if_pos c8] at H
     have c8b0 : decide (0 ≤ x7_1) = true := decide_eq_true c8
     clear c8
     replace H := Option.bind_eq_some_iff.mp H
     obtain ⟨⟨t356, t357, t358, t359⟩, A90, H⟩ := H
     replace H : (if (t356 == a1_0 && (t357 == a1_1 && (t358 == a1_2 && (t359 == a1_3)))) = true then (some ((rd_T37 t352 x7_1).f0, (rd_T37 t352 x7_1).f1, true)) else (spec_l04Decode.l0 k1 t352 (wrap64 (x7_1 + 1)) x350000_1 x350001_1 l0_2 a1_0 a1_1 a1_2 a1_3)) = some (r1, r2, r3) := H
     have A9 := Aside0.mk A90
     clear A90
     by_cases c10 : (t356 == a1_0 && (t357 == a1_1 && (t358 == a1_2 && (t359 == a1_3)))) = true
     ·rw [if_pos c10] at H
      have c10b0 : (t356 == a1_0 && (t357 == a1_1 && (t358 == a1_2 && (t359 == a1_3)))) = true := c10
      (try (have c10b1 : decide (t356 = a1_0 && (t357 == a1_1 && (t358 == a1_2 && (t359 == a1_3)))) = true := by simpa using c10))
      (try (have c10b2 : (t356 == a1_0 && (t357 == a1_1 && (t358 == a1_2 && (t359 == a1_3)))) = true := by simpa using c10))
      clear c10
      simp only [Option.some.injEq, Prod.mk.injEq] at H
      obtain ⟨rfl, rfl, rfl⟩ := H
      obtain ⟨Ao11, co11, eo11⟩ := Kd.R_slice HO_6.out
      subst eo11
      try go_wp2
      have n0_ := Aside0.mk (Kd.R_drew HO_6.out)
      have n1_ := Aside0.mk (blk_drew BK349.out)
      have n2_ := Aside0.mk (blk_drew BK350.out)
      have n3_ := Aside0.mk (blk_drew BK351.out)
      have n4_ := Aside0.mk (below_drew1 HB.out)
      clear HO_6
      clear BK349
      clear BK350
      clear BK351
      clear HB
      have HO_6 := n0_
      have BK349 := n1_
      have BK350 := n2_
      have BK351 := n3_
      have HB := n4_
      clear n0_ n1_ n2_ n3_ n4_
      have p355 : 0 ≤ (x7_1 : Int) := asm_
      have q355 : x7_1 < (t352.length : Int) := asm_
      obtain ⟨ad355, e355, hx355_0, hx355_1⟩ := at_T37 (Kd.R_reads' HO_6.out).2.2 x7_1 p355 q355
      cases e355
      replace p355 := eq_true p355
      replace q355 := eq_true q355
      refine start_ (n := 8) (S := fun w' => w'.cell? ⟨gb350, 0, none⟩ = some (.int .i8 a1_0) ∧ w'.cell? ⟨gb350, 1, none⟩ = some (.int .i8 a1_1) ∧ w'.cell? ⟨gb350, 2, none⟩ = some (.int .i8 a1_2) ∧ w'.cell? ⟨gb350, 3, none⟩ = some (.int .i8 a1_3) ∧ w'.cell? (ad355.add ((x7_1).toNat * 2)) = some (.int .i8 ((rd_T37 t352 x7_1).f0)) ∧ w'.cell? ⟨(ad355.add ((x7_1).toNat * 2)).block, (ad355.add ((x7_1).toNat * 2)).off + 1, none⟩ = some (.bool ((rd_T37 t352 x7_1).f1))) (ds := []) #[false, false, false, false, false, false, false, false] (by kernel_rfl) rfl rfl ⟨(blk_cell BK350.out 0).trans rfl, (blk_cell BK350.out 1).trans rfl, (blk_cell BK350.out 2).trans rfl, (blk_cell BK350.out 3).trans rfl, hx355_0, hx355_1⟩ (fun hHeld => ?_); refine with_tabW spec_l04Decode.tab5 spec_l04Decode.bits5 (fun HT_ HW_ => ?_)
      generalize wr.drew = w12 at HO_6 BK349 BK350 BK351 HB hx355_0 hx355_1 hHeld ⊢
      refine pure_ (i := 0) (N := some 16) (v := ?_) (a' := ?_) #[true, false, false, false, false, false, false, false] rfl rfl (any_of HT_.out (by kernel_rfl)) (fun _ _ _ h => h) (Or.inl ⟨by rfl, ?_⟩) ?_ ?_
      rotate_left
      ·intro w'
       go_simp
       with_reducible rfl
      rotate_left
      ·simp only [Act.put, List.setIfInBounds_toArray, List.set_cons_zero, List.set_cons_succ, i64_w, i32_w]
       rfl
      refine pure_ (i := 1) (N := some 17) (v := ?_) (a' := ?_) #[true, true, false, false, false, false, false, false] rfl rfl (any_of HT_.out (by kernel_rfl)) (fun _ _ _ h => h) (Or.inl ⟨by rfl, ?_⟩) ?_ ?_
      rotate_left
      ·intro w'
       go_simp
       with_reducible rfl
      rotate_left
      ·simp only [Act.put, List.setIfInBounds_toArray, List.set_cons_zero, List.set_cons_succ, i64_w, i32_w]
       rfl
      refine pure_ (i := 2) (N := some 18) (v := ?_) (a' := ?_) #[true, true, true, false, false, false, false, false] rfl rfl (any_of HT_.out (by kernel_rfl)) (fun _ _ _ h => h) (Or.inl ⟨by rfl, ?_⟩) ?_ ?_
      rotate_left
      ·intro w'
       go_simp
       with_reducible rfl
      rotate_left
      ·simp only [Act.put, List.setIfInBounds_toArray, List.set_cons_zero, List.set_cons_succ, i64_w, i32_w]
       rfl
      refine pure_ (i := 3) (N := some 19) (v := ?_) (a' := ?_) #[true, true, true, true, false, false, false, false] rfl rfl (any_of HT_.out (by kernel_rfl)) (fun _ _ _ h => h) (Or.inl ⟨by rfl, ?_⟩) ?_ ?_
      rotate_left
      ·intro w'
       go_simp
       with_reducible rfl
      rotate_left
      ·simp only [Act.put, List.setIfInBounds_toArray, List.set_cons_zero, List.set_cons_succ, i64_w, i32_w]
       rfl
      refine take_ (i := 4) (N := some 20) (v := ?_) (a' := ?_) #[true, true, true, true, true, false, false, false] rfl rfl (take_ofW HT_.out HW_.out (by kernel_rfl)) (fun _ _ _ h => h) (Or.inl ⟨by rfl, ?_⟩) hHeld ?_ ?_
      rotate_left
      ·rintro w' ⟨s0, s1, s2, s3, s4, s5⟩
       go_simp
       with_reducible rfl
      rotate_left
      ·simp only [Act.put, List.setIfInBounds_toArray, List.set_cons_zero, List.set_cons_succ, i64_w, i32_w]
       rfl
      refine take_ (i := 6) (N := some 22) (v := ?_) (a' := ?_) #[true, true, true, true, true, false, true, false] rfl rfl (take_ofW HT_.out HW_.out (by kernel_rfl)) (fun _ _ _ h => h) (Or.inl ⟨by rfl, ?_⟩) hHeld ?_ ?_
      rotate_left
      ·rintro w' ⟨s0, s1, s2, s3, s4, s5⟩
       go_simp
       with_reducible rfl
      rotate_left
      ·simp only [Act.put, List.setIfInBounds_toArray, List.set_cons_zero, List.set_cons_succ, i64_w, i32_w]
       rfl
      refine one_ (i := 5) (N := some 21) #[true, true, true, true, true, true, true, false] rfl rfl (one_of HT_.out (by kernel_rfl)) (by decide) (fun K hK => ?_)
      refine goes_ Try.func31 (by kernel_rfl) rfl #[.pointer (some ⟨gp0, 0, none⟩), .agg #[.int .i8 ((rd_T37 t352 x7_1).f0), .bool ((rd_T37 t352 x7_1).f1)]] (by rfl) rfl rfl (by (try simp only [List.map_toArray, List.map_cons, List.map_nil]); first | done | rfl | (simp only [List.length_drop, List.length_take]; rfl)) ?_
      with_reducible refine (spec_l04Seen.calls k1 gp0 x350000_1 x350001_1 A0_2 c0_2 l0_2 ((rd_T37 t352 x7_1).f0) ((rd_T37 t352 x7_1).f1) t356 t357 t358 t359 _ ?side1 ?side2 ?side3 A9.out).mono ?_
      (case side1 => exact (pl_ BK349))
      (case side2 => repeat (first | exact (Kd.C_below HR0_2.out HB.out) | (with_reducible refine Kd.C_alloc ?_ _) | (with_reducible refine Kd.C_drewN ?_ _) | (with_reducible refine Kd.C_drew ?_)))
      (case side3 => exact HC0_2.out)
      rintro e w13 ⟨rfl, hb⟩
      have HS4_ := (hb.cell (World.block_lt_of_cell? _ _ (hHeld.2.2.2.2.1))).trans (hHeld.2.2.2.2.1)
      have HS5_ := (hb.cell (World.block_lt_of_cell? _ _ (hHeld.2.2.2.2.2))).trans (hHeld.2.2.2.2.2)
      refine ⟨_, rfl, ?_⟩
      have n0_ := Aside0.mk (Kd.R_below (pr_ HO_6) hb)
      have n1_ := Aside0.mk (blk_below (g := gp0) (o := .cells #[.int .i8 x350000_1, .int .i8 x350001_1, .slice A0_2 l0_2.length c0_2] 35 (0, 0)) (pl_ BK349) hb)
      have n2_ := Aside0.mk (blk_below (g := gb350) (o := .cells #[.int .i8 a1_0, .int .i8 a1_1, .int .i8 a1_2, .int .i8 a1_3] 30 (0, 0)) (pl_ BK350) hb)
      have n3_ := Aside0.mk (blk_below (g := gb351) (o := .cells #[.int .i8 x352000_1, .bool x352001_1] 37 (0, 0)) (pl_ BK351) hb)
      have n4_ := Aside0.mk (below_step (by repeat (first | (with_reducible first | exact HB.out | apply below_alloc | apply pw_below_drewN | apply below_drew1 | refine below_set ?_ GE349.out | refine below_set ?_ GE350.out | refine below_set ?_ GE351.out) | exact HB.out)) hb)
      clear HO_6
      clear BK349
      clear BK350
      clear BK351
      clear HB
      have HO_6 := n0_
      have BK349 := n1_
      have BK350 := n2_
      have BK351 := n3_
      have HB := n4_
      clear n0_ n1_ n2_ n3_ n4_
      (try clear hb)
      (try clear hb2)
      (try clear hk)
      (try clear hi)
      refine hK.out _ _ ⟨(blk_cell BK350.out 0).trans rfl, (blk_cell BK350.out 1).trans rfl, (blk_cell BK350.out 2).trans rfl, (blk_cell BK350.out 3).trans rfl, HS4_, HS5_⟩ (fun hHeld => ?_)
      clear hK K
      refine norm_ (a' := ?_) ?_ ?_
      rotate_left
      ·show Act.put _ (some 21) _ = _
       simp only [Act.put, List.setIfInBounds_toArray, List.set_cons_zero, List.set_cons_succ, i64_w, i32_w]
       rfl
      refine pure_ (i := 7) (N := some 23) (v := ?_) (a' := ?_) #[true, true, true, true, true, true, true, true] rfl rfl (any_of HT_.out (by kernel_rfl)) (fun _ _ _ h => h) (Or.inl ⟨by rfl, ?_⟩) ?_ ?_
      rotate_left
      ·intro w'
       go_simp
       with_reducible rfl
      rotate_left
      ·simp only [Act.put, List.setIfInBounds_toArray, List.set_cons_zero, List.set_cons_succ, i64_w, i32_w]
       rfl
      refine done_ (done_of HT_.out (by kernel_rfl)) ?_
      have p360 : 0 ≤ (x7_1 : Int) := asm_
      have q360 : x7_1 < (t352.length : Int) := asm_
      obtain ⟨ad360, e360, hx360_0, hx360_1⟩ := at_T37 (Kd.R_reads' HO_6.out).2.2 x7_1 p360 q360
      obtain rfl : ad355 = ad360 := (by injection e360)
      replace p360 := eq_true p360
      replace q360 := eq_true q360
      have hnb14 := NB351_349.out
      have hnc14 := NB349_351.out
      have hnb15 := NB351_350.out
      have hnc15 := NB350_351.out
      have hcz16_0 : w13.cell? ⟨gb351, 0, none⟩ = some (.int .i8 x352000_1) := (blk_cell BK351.out 0).trans rfl
      have hcz16_1 : w13.cell? ⟨gb351, 1, none⟩ = some (.bool x352001_1) := (blk_cell BK351.out 1).trans rfl
      have hfz16_0 := blk_frozen BK351.out 0
      have hfz16_1 := blk_frozen BK351.out 1
      try go_wp2
      refine bodyPost_ret (results_ct rfl _ _ gb351 37 #[.int .i8 ((rd_T37 t352 x7_1).f0), .bool ((rd_T37 t352 x7_1).f1)] (0, 0) _ rfl (by (with_reducible repeat (first | refine blk_drewN ?_ _ | refine blk_drew ?_ | refine blk_alloc ?_ _)); refine blk_put (cs := #[.int .i8 ((rd_T37 t352 x7_1).f0), .bool x352001_1]) ?_ 1 _ rfl; (with_reducible repeat (first | refine blk_drewN ?_ _ | refine blk_drew ?_ | refine blk_alloc ?_ _)); refine blk_put (cs := #[.int .i8 x352000_1, .bool x352001_1]) ?_ 0 _ rfl; (with_reducible repeat (first | refine blk_drewN ?_ _ | refine blk_drew ?_ | refine blk_alloc ?_ _)); exact BK351.out) Try.underlying37 rfl (by kernel_rfl)) rfl ?_
      exact ⟨by first | rfl | (simp [errW_none, errW_some] <;> rfl) | (simp [*, errW_none, errW_some] <;> rfl), by repeat (first | (with_reducible first | exact HB.out | apply below_alloc | apply pw_below_drewN | apply below_drew1 | refine below_set ?_ GE349.out | refine below_set ?_ GE350.out | refine below_set ?_ GE351.out) | exact HB.out)⟩
     ·rw [if_neg c10] at H
      have c10b0 : (t356 == a1_0 && (t357 == a1_1 && (t358 == a1_2 && (t359 == a1_3)))) = false := by simpa using c10
      (try (have c10b1 : decide (t356 = a1_0 && (t357 == a1_1 && (t358 == a1_2 && (t359 == a1_3)))) = false := by simpa using c10))
      (try (have c10b2 : (t356 == a1_0 && (t357 == a1_1 && (t358 == a1_2 && (t359 == a1_3)))) = false := by simpa using c10))
      (try (have c10b3 : ¬ (t356 = a1_0 && (t357 == a1_1 && (t358 == a1_2 && (t359 == a1_3)))) := by simpa using c10))
      clear c10
      have H' := Aside0.mk H
      clear H
      obtain ⟨Ao17, co17, eo17⟩ := Kd.R_slice HO_6.out
      subst eo17
      try go_wp2
      have n0_ := Aside0.mk (Kd.R_drew HO_6.out)
      have n1_ := Aside0.mk (blk_drew BK349.out)
      have n2_ := Aside0.mk (blk_drew BK350.out)
      have n3_ := Aside0.mk (blk_drew BK351.out)
      have n4_ := Aside0.mk (below_drew1 HB.out)
      clear HO_6
      clear BK349
      clear BK350
      clear BK351
      clear HB
      have HO_6 := n0_
      have BK349 := n1_
      have BK350 := n2_
      have BK351 := n3_
      have HB := n4_
      clear n0_ n1_ n2_ n3_ n4_
      have p355 : 0 ≤ (x7_1 : Int) := asm_
      have q355 : x7_1 < (t352.length : Int) := asm_
      obtain ⟨ad355, e355, hx355_0, hx355_1⟩ := at_T37 (Kd.R_reads' HO_6.out).2.2 x7_1 p355 q355
      cases e355
      replace p355 := eq_true p355
      replace q355 := eq_true q355
      refine start_ (n := 8) (S := fun w' => w'.cell? ⟨gb350, 0, none⟩ = some (.int .i8 a1_0) ∧ w'.cell? ⟨gb350, 1, none⟩ = some (.int .i8 a1_1) ∧ w'.cell? ⟨gb350, 2, none⟩ = some (.int .i8 a1_2) ∧ w'.cell? ⟨gb350, 3, none⟩ = some (.int .i8 a1_3) ∧ w'.cell? (ad355.add ((x7_1).toNat * 2)) = some (.int .i8 ((rd_T37 t352 x7_1).f0)) ∧ w'.cell? ⟨(ad355.add ((x7_1).toNat * 2)).block, (ad355.add ((x7_1).toNat * 2)).off + 1, none⟩ = some (.bool ((rd_T37 t352 x7_1).f1))) (ds := []) #[false, false, false, false, false, false, false, false] (by kernel_rfl) rfl rfl ⟨(blk_cell BK350.out 0).trans rfl, (blk_cell BK350.out 1).trans rfl, (blk_cell BK350.out 2).trans rfl, (blk_cell BK350.out 3).trans rfl, hx355_0, hx355_1⟩ (fun hHeld => ?_); refine with_tabW spec_l04Decode.tab5 spec_l04Decode.bits5 (fun HT_ HW_ => ?_)
      generalize wr.drew = w18 at HO_6 BK349 BK350 BK351 HB hx355_0 hx355_1 hHeld ⊢
      refine pure_ (i := 0) (N := some 16) (v := ?_) (a' := ?_) #[true, false, false, false, false, false, false, false] rfl rfl (any_of HT_.out (by kernel_rfl)) (fun _ _ _ h => h) (Or.inl ⟨by rfl, ?_⟩) ?_ ?_
      rotate_left
      ·intro w'
       go_simp
       with_reducible rfl
      rotate_left
      ·simp only [Act.put, List.setIfInBounds_toArray, List.set_cons_zero, List.set_cons_succ, i64_w, i32_w]
       rfl
      refine pure_ (i := 1) (N := some 17) (v := ?_) (a' := ?_) #[true, true, false, false, false, false, false, false] rfl rfl (any_of HT_.out (by kernel_rfl)) (fun _ _ _ h => h) (Or.inl ⟨by rfl, ?_⟩) ?_ ?_
      rotate_left
      ·intro w'
       go_simp
       with_reducible rfl
      rotate_left
      ·simp only [Act.put, List.setIfInBounds_toArray, List.set_cons_zero, List.set_cons_succ, i64_w, i32_w]
       rfl
      refine pure_ (i := 2) (N := some 18) (v := ?_) (a' := ?_) #[true, true, true, false, false, false, false, false] rfl rfl (any_of HT_.out (by kernel_rfl)) (fun _ _ _ h => h) (Or.inl ⟨by rfl, ?_⟩) ?_ ?_
      rotate_left
      ·intro w'
       go_simp
       with_reducible rfl
      rotate_left
      ·simp only [Act.put, List.setIfInBounds_toArray, List.set_cons_zero, List.set_cons_succ, i64_w, i32_w]
       rfl
      refine pure_ (i := 3) (N := some 19) (v := ?_) (a' := ?_) #[true, true, true, true, false, false, false, false] rfl rfl (any_of HT_.out (by kernel_rfl)) (fun _ _ _ h => h) (Or.inl ⟨by rfl, ?_⟩) ?_ ?_
      rotate_left
      ·intro w'
       go_simp
       with_reducible rfl
      rotate_left
      ·simp only [Act.put, List.setIfInBounds_toArray, List.set_cons_zero, List.set_cons_succ, i64_w, i32_w]
       rfl
      refine take_ (i := 4) (N := some 20) (v := ?_) (a' := ?_) #[true, true, true, true, true, false, false, false] rfl rfl (take_ofW HT_.out HW_.out (by kernel_rfl)) (fun _ _ _ h => h) (Or.inl ⟨by rfl, ?_⟩) hHeld ?_ ?_
      rotate_left
      ·rintro w' ⟨s0, s1, s2, s3, s4, s5⟩
       go_simp
       with_reducible rfl
      rotate_left
      ·simp only [Act.put, List.setIfInBounds_toArray, List.set_cons_zero, List.set_cons_succ, i64_w, i32_w]
       rfl
      refine take_ (i := 6) (N := some 22) (v := ?_) (a' := ?_) #[true, true, true, true, true, false, true, false] rfl rfl (take_ofW HT_.out HW_.out (by kernel_rfl)) (fun _ _ _ h => h) (Or.inl ⟨by rfl, ?_⟩) hHeld ?_ ?_
      rotate_left
      ·rintro w' ⟨s0, s1, s2, s3, s4, s5⟩
       go_simp
       with_reducible rfl
      rotate_left
      ·simp only [Act.put, List.setIfInBounds_toArray, List.set_cons_zero, List.set_cons_succ, i64_w, i32_w]
       rfl
      refine one_ (i := 5) (N := some 21) #[true, true, true, true, true, true, true, false] rfl rfl (one_of HT_.out (by kernel_rfl)) (by decide) (fun K hK => ?_)
      refine goes_ Try.func31 (by kernel_rfl) rfl #[.pointer (some ⟨gp0, 0, none⟩), .agg #[.int .i8 ((rd_T37 t352 x7_1).f0), .bool ((rd_T37 t352 x7_1).f1)]] (by rfl) rfl rfl (by (try simp only [List.map_toArray, List.map_cons, List.map_nil]); first | done | rfl | (simp only [List.length_drop, List.length_take]; rfl)) ?_
      with_reducible refine (spec_l04Seen.calls k1 gp0 x350000_1 x350001_1 A0_2 c0_2 l0_2 ((rd_T37 t352 x7_1).f0) ((rd_T37 t352 x7_1).f1) t356 t357 t358 t359 _ ?side1 ?side2 ?side3 A9.out).mono ?_
      (case side1 => exact (pl_ BK349))
      (case side2 => repeat (first | exact (Kd.C_below HR0_2.out HB.out) | (with_reducible refine Kd.C_alloc ?_ _) | (with_reducible refine Kd.C_drewN ?_ _) | (with_reducible refine Kd.C_drew ?_)))
      (case side3 => exact HC0_2.out)
      rintro e w19 ⟨rfl, hb⟩
      have HS4_ := (hb.cell (World.block_lt_of_cell? _ _ (hHeld.2.2.2.2.1))).trans (hHeld.2.2.2.2.1)
      have HS5_ := (hb.cell (World.block_lt_of_cell? _ _ (hHeld.2.2.2.2.2))).trans (hHeld.2.2.2.2.2)
      refine ⟨_, rfl, ?_⟩
      have n0_ := Aside0.mk (Kd.R_below (pr_ HO_6) hb)
      have n1_ := Aside0.mk (blk_below (g := gp0) (o := .cells #[.int .i8 x350000_1, .int .i8 x350001_1, .slice A0_2 l0_2.length c0_2] 35 (0, 0)) (pl_ BK349) hb)
      have n2_ := Aside0.mk (blk_below (g := gb350) (o := .cells #[.int .i8 a1_0, .int .i8 a1_1, .int .i8 a1_2, .int .i8 a1_3] 30 (0, 0)) (pl_ BK350) hb)
      have n3_ := Aside0.mk (blk_below (g := gb351) (o := .cells #[.int .i8 x352000_1, .bool x352001_1] 37 (0, 0)) (pl_ BK351) hb)
      have n4_ := Aside0.mk (below_step (by repeat (first | (with_reducible first | exact HB.out | apply below_alloc | apply pw_below_drewN | apply below_drew1 | refine below_set ?_ GE349.out | refine below_set ?_ GE350.out | refine below_set ?_ GE351.out) | exact HB.out)) hb)
      clear HO_6
      clear BK349
      clear BK350
      clear BK351
      clear HB
      have HO_6 := n0_
      have BK349 := n1_
      have BK350 := n2_
      have BK351 := n3_
      have HB := n4_
      clear n0_ n1_ n2_ n3_ n4_
      (try clear hb)
      (try clear hb2)
      (try clear hk)
      (try clear hi)
      refine hK.out _ _ ⟨(blk_cell BK350.out 0).trans rfl, (blk_cell BK350.out 1).trans rfl, (blk_cell BK350.out 2).trans rfl, (blk_cell BK350.out 3).trans rfl, HS4_, HS5_⟩ (fun hHeld => ?_)
      clear hK K
      refine norm_ (a' := ?_) ?_ ?_
      rotate_left
      ·show Act.put _ (some 21) _ = _
       simp only [Act.put, List.setIfInBounds_toArray, List.set_cons_zero, List.set_cons_succ, i64_w, i32_w]
       rfl
      refine pure_ (i := 7) (N := some 23) (v := ?_) (a' := ?_) #[true, true, true, true, true, true, true, true] rfl rfl (any_of HT_.out (by kernel_rfl)) (fun _ _ _ h => h) (Or.inl ⟨by rfl, ?_⟩) ?_ ?_
      rotate_left
      ·intro w'
       go_simp
       with_reducible rfl
      rotate_left
      ·simp only [Act.put, List.setIfInBounds_toArray, List.set_cons_zero, List.set_cons_succ, i64_w, i32_w]
       rfl
      refine done_ (done_of HT_.out (by kernel_rfl)) ?_
      try go_wp2
      go_roundg k1
      case measure => have := HK1.out; omega
      case rel => exact ⟨(wrap64 (x7_1 + 1)), (x350000_1), (x350001_1), (x352000_1), (x352001_1), (by first | rfl | (simp; done) | (simp [*]; done)), H', ⟨by have := HK1.out; omega⟩, ⟨pr_ HO_6⟩, ⟨pl_ BK349⟩, ⟨pl_ BK350⟩, ⟨pl_ BK351⟩, ⟨by repeat (first | (with_reducible first | exact HB.out | apply below_alloc | apply pw_below_drewN | apply below_drew1 | refine below_set ?_ GE349.out | refine below_set ?_ GE350.out | refine below_set ?_ GE351.out) | exact HB.out)⟩⟩
    ·rw [if_neg c8] at H
     exact absurd H (by simp)
   ·rw [if_neg c7] at H
    have c7b0 : decide (x7_1 < (t352.length : Int)) = false := decide_eq_false c7
    clear c7
    simp only [Option.some.injEq, Prod.mk.injEq] at H
    obtain ⟨rfl, rfl, rfl⟩ := H
    obtain ⟨Ao20, co20, eo20⟩ := Kd.R_slice HO_6.out
    subst eo20
    have hnb21 := NB351_349.out
    have hnc21 := NB349_351.out
    have hnb22 := NB351_350.out
    have hnc22 := NB350_351.out
    have hcz23_0 : wr.cell? ⟨gb351, 0, none⟩ = some (.int .i8 x352000_1) := (blk_cell BK351.out 0).trans rfl
    have hcz23_1 : wr.cell? ⟨gb351, 1, none⟩ = some (.bool x352001_1) := (blk_cell BK351.out 1).trans rfl
    have hfz23_0 := blk_frozen BK351.out 0
    have hfz23_1 := blk_frozen BK351.out 1
    go_wp2
    refine bodyPost_ret (results_ct rfl _ _ gb351 37 #[.int .i8 0, .bool false] (0, 0) _ rfl (by (with_reducible repeat (first | refine blk_drewN ?_ _ | refine blk_drew ?_ | refine blk_alloc ?_ _)); refine blk_put (cs := #[.int .i8 0, .bool x352001_1]) ?_ 1 _ rfl; (with_reducible repeat (first | refine blk_drewN ?_ _ | refine blk_drew ?_ | refine blk_alloc ?_ _)); refine blk_put (cs := #[.int .i8 x352000_1, .bool x352001_1]) ?_ 0 _ rfl; (with_reducible repeat (first | refine blk_drewN ?_ _ | refine blk_drew ?_ | refine blk_alloc ?_ _)); exact BK351.out) Try.underlying37 rfl (by kernel_rfl)) rfl ?_
    exact ⟨by first | rfl | (simp [errW_none, errW_some] <;> rfl) | (simp [*, errW_none, errW_some] <;> rfl), by repeat (first | (with_reducible first | exact HB.out | apply below_alloc | apply pw_below_drewN | apply below_drew1 | refine below_set ?_ GE349.out | refine below_set ?_ GE350.out | refine below_set ?_ GE351.out) | exact HB.out)⟩

end Go.Proofs.Ytkllpdekkhhhnaa.M
