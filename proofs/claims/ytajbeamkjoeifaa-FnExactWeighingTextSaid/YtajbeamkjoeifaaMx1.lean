-- By this seat's own program over the kit's printer (arrays, functions told by hand); nothing of it is trusted: the kernel checks it.
import Derived.Test.YtajbeamkjoeifaaMx0
namespace Go.Proofs.Ytajbeamkjoeifaa.M
open Go.RowKit Go.Proofs.YtajbeamkjoeifaaW.PrintWords Go.Proofs.YtajbeamkjoeifaaW.PrintLast Go.Proofs.YtajbeamkjoeifaaW.PrintMore
attribute [local go_sem] max2_int min2_int max_two min_two max_three min_three max_four min_four   -- for this text's walks alone
set_option linter.unusedVariables false
set_option linter.unusedSimpArgs false

/-! ### laws_toTask: function 15 -/
def laws_toTask.f (a0_0 : Int) (a0_1 : Int) (a0_2 : Bool) (a0_3 : Bool) : Option (Int × Int × Bool × Bool) := some (a0_0, a0_1, a0_2, a0_3)
set_option maxHeartbeats 8000000 in
set_option maxRecDepth 100000 in
theorem laws_toTask.calls (a0_0 : Int) (a0_1 : Int) (a0_2 : Bool) (a0_3 : Bool) (r1 : Int) (r2 : Int) (r3 : Bool) (r4 : Bool) (w : World) (h : laws_toTask.f a0_0 a0_1 a0_2 a0_3 = some (r1, r2, r3, r4)) :
  Calls Try.prog 15 #[.agg #[.int .i8 a0_0, .int .i8 a0_1, .bool a0_2, .bool a0_3]] w fun e w' => e = .returned (.agg #[.int .i8 r1, .int .i8 r2, .bool r3, .bool r4]) ∧ Below w.heap.size w w' := by
 have hu24 := Try.underlying24
 have hu26 := Try.underlying26
 have HB := A_ (Below.refl w.heap.size w)
 have H : (some (a0_0, a0_1, a0_2, a0_3)) = some (r1, r2, r3, r4) := h
 clear h
 simp only [Option.some.injEq, Prod.mk.injEq] at H
 obtain ⟨rfl, rfl, rfl, rfl⟩ := H
 go_enter Try.func15, Try.ntmps15
 go_wp2_with (first | ((with_reducible refine gate_dst (N := 1) rfl ?_); refine box_event ?hg (N := 1) ?hd (cs := #[.int .i8 a0_0, .int .i8 a0_1, .bool a0_2, .bool a0_3]) (t := 24) ?hr ?_; (case hd => rfl); (case hg => rfl); (case hr => first | (go_simp; done) | (go_simp; rfl)); intro gb101 hg w2 hbox hb; have n0_ := A_ (below_step (bl_ HB) hb); have n1_ := A_ (hbox); have n2_ := A_ ((by rw [hg]; exact (below_size (bl_ HB)) : w.heap.size ≤ gb101)); have n3_ := n2_; clear HB; have HB := n0_; have BK101 := n1_; have GW101 := n2_; have GE101 := n3_; clear n0_ n1_ n2_ n3_; clear hb hbox hg) | ((with_reducible refine gate_dst (N := 2) rfl ?_); refine box_event ?hg (N := 2) ?hd (cs := #[.int .i8 0, .int .i8 0, .bool false, .bool false]) (t := 26) ?hr ?_; (case hd => rfl); (case hg => rfl); (case hr => first | (go_simp; done) | (go_simp; rfl)); intro gb102 hg w3 hbox hb; have n0_ := A_ (blk_below (pl_ BK101) hb); have n1_ := A_ (below_step (bl_ HB) hb); have n2_ := A_ (hbox); have n3_ := A_ ((by rw [hg]; exact (below_size (bl_ HB)) : w.heap.size ≤ gb102)); have n4_ := n3_; have n5_ := A_ ((by rw [hg]; exact Nat.ne_of_lt (blk_lt (pl_ BK101)) : gb101 ≠ gb102)); have n6_ := Aside0.mk n5_.out.symm; clear BK101; clear HB; have BK101 := n0_; have HB := n1_; have BK102 := n2_; have GW102 := n3_; have GE102 := n4_; have NB101_102 := n5_; have NB102_101 := n6_; clear n0_ n1_ n2_ n3_ n4_ n5_ n6_; clear hb hbox hg) | ((with_reducible refine gate_dst (N := 3) rfl ?_); refine box_event ?hg (N := 3) ?hd (cs := #[.int .i8 0, .int .i8 0, .bool false, .bool false]) (t := 26) ?hr ?_; (case hd => rfl); (case hg => rfl); (case hr => first | (go_simp; done) | (go_simp; rfl)); intro gb103 hg w4 hbox hb; have n0_ := A_ (blk_below (pl_ BK101) hb); have n1_ := A_ (blk_below (pl_ BK102) hb); have n2_ := A_ (below_step (bl_ HB) hb); have n3_ := A_ (hbox); have n4_ := A_ ((by rw [hg]; exact (below_size (bl_ HB)) : w.heap.size ≤ gb103)); have n5_ := n4_; have n6_ := A_ ((by rw [hg]; exact Nat.ne_of_lt (blk_lt (pl_ BK101)) : gb101 ≠ gb103)); have n7_ := Aside0.mk n6_.out.symm; have n8_ := A_ ((by rw [hg]; exact Nat.ne_of_lt (blk_lt (pl_ BK102)) : gb102 ≠ gb103)); have n9_ := Aside0.mk n8_.out.symm; clear BK101; clear BK102; clear HB; have BK101 := n0_; have BK102 := n1_; have HB := n2_; have BK103 := n3_; have GW103 := n4_; have GE103 := n5_; have NB101_103 := n6_; have NB103_101 := n7_; have NB102_103 := n8_; have NB103_102 := n9_; clear n0_ n1_ n2_ n3_ n4_ n5_ n6_ n7_ n8_ n9_; clear hb hbox hg; have hnb5 := NB101_102.out; have hnc5 := NB102_101.out; have hnb6 := NB101_103.out; have hnc6 := NB103_101.out; have hcz7_0 : w4.cell? ⟨gb101, 0, none⟩ = some (.int .i8 a0_0) := (blk_cell BK101.out 0).trans rfl; have hcz7_1 : w4.cell? ⟨gb101, 1, none⟩ = some (.int .i8 a0_1) := (blk_cell BK101.out 1).trans rfl; have hcz7_2 : w4.cell? ⟨gb101, 2, none⟩ = some (.bool a0_2) := (blk_cell BK101.out 2).trans rfl; have hcz7_3 : w4.cell? ⟨gb101, 3, none⟩ = some (.bool a0_3) := (blk_cell BK101.out 3).trans rfl; have hfz7_0 := blk_frozen BK101.out 0; have hfz7_1 := blk_frozen BK101.out 1; have hfz7_2 := blk_frozen BK101.out 2; have hfz7_3 := blk_frozen BK101.out 3; have hnb8 := NB103_102.out; have hnc8 := NB102_103.out; have hcz9_0 : w4.cell? ⟨gb103, 0, none⟩ = some (.int .i8 0) := (blk_cell BK103.out 0).trans rfl; have hcz9_1 : w4.cell? ⟨gb103, 1, none⟩ = some (.int .i8 0) := (blk_cell BK103.out 1).trans rfl; have hcz9_2 : w4.cell? ⟨gb103, 2, none⟩ = some (.bool false) := (blk_cell BK103.out 2).trans rfl; have hcz9_3 : w4.cell? ⟨gb103, 3, none⟩ = some (.bool false) := (blk_cell BK103.out 3).trans rfl; have hfz9_0 := blk_frozen BK103.out 0; have hfz9_1 := blk_frozen BK103.out 1; have hfz9_2 := blk_frozen BK103.out 2; have hfz9_3 := blk_frozen BK103.out 3; have hcz10_0 : w4.cell? ⟨gb102, 0, none⟩ = some (.int .i8 0) := (blk_cell BK102.out 0).trans rfl; have hcz10_1 : w4.cell? ⟨gb102, 1, none⟩ = some (.int .i8 0) := (blk_cell BK102.out 1).trans rfl; have hcz10_2 : w4.cell? ⟨gb102, 2, none⟩ = some (.bool false) := (blk_cell BK102.out 2).trans rfl; have hcz10_3 : w4.cell? ⟨gb102, 3, none⟩ = some (.bool false) := (blk_cell BK102.out 3).trans rfl; have hfz10_0 := blk_frozen BK102.out 0; have hfz10_1 := blk_frozen BK102.out 1; have hfz10_2 := blk_frozen BK102.out 2; have hfz10_3 := blk_frozen BK102.out 3))
 refine bodyPost_ret (results_cell_row rfl _ _ gb102 26 #[.int .i8 a0_0, .int .i8 a0_1, .bool a0_2, .bool a0_3] (0, 0) _ rfl (by (with_reducible repeat (first | refine blk_drewN ?_ _ | refine blk_drew ?_ | refine blk_alloc ?_ _)); refine blk_put (cs := #[.int .i8 a0_0, .int .i8 a0_1, .bool a0_2, .bool false]) ?_ 3 _ rfl; (with_reducible repeat (first | refine blk_drewN ?_ _ | refine blk_drew ?_ | refine blk_alloc ?_ _)); refine blk_put (cs := #[.int .i8 a0_0, .int .i8 a0_1, .bool false, .bool false]) ?_ 2 _ rfl; (with_reducible repeat (first | refine blk_drewN ?_ _ | refine blk_drew ?_ | refine blk_alloc ?_ _)); refine blk_put (cs := #[.int .i8 a0_0, .int .i8 0, .bool false, .bool false]) ?_ 1 _ rfl; (with_reducible repeat (first | refine blk_drewN ?_ _ | refine blk_drew ?_ | refine blk_alloc ?_ _)); refine blk_put (cs := #[.int .i8 0, .int .i8 0, .bool false, .bool false]) ?_ 0 _ rfl; (with_reducible repeat (first | refine blk_drewN ?_ _ | refine blk_drew ?_ | refine blk_alloc ?_ _)); refine blk_far ?_ NB102_103.out _; (with_reducible repeat (first | refine blk_drewN ?_ _ | refine blk_drew ?_ | refine blk_alloc ?_ _)); refine blk_far ?_ NB102_103.out _; (with_reducible repeat (first | refine blk_drewN ?_ _ | refine blk_drew ?_ | refine blk_alloc ?_ _)); refine blk_far ?_ NB102_103.out _; (with_reducible repeat (first | refine blk_drewN ?_ _ | refine blk_drew ?_ | refine blk_alloc ?_ _)); refine blk_far ?_ NB102_103.out _; (with_reducible repeat (first | refine blk_drewN ?_ _ | refine blk_drew ?_ | refine blk_alloc ?_ _)); exact BK102.out) Try.underlying26 rfl (by kernel_rfl)) rfl ?_
 exact ⟨by first | rfl | (simp [errW_none, errW_some] <;> rfl) | (simp [*, errW_none, errW_some] <;> rfl), by repeat (first | (with_reducible first | exact HB.out | apply below_alloc | apply pw_below_drewN | apply below_drew1 | refine below_set ?_ GE102.out | refine below_set ?_ GE103.out) | exact HB.out)⟩

/-! ### laws_toWeighing: function 18 -/
def laws_toWeighing.l0 : Nat → Int → Int → Int → Int → Int → Int → Int → Int → Int → Int → Int → Int → Int → Int → Int → Int → Int → Int → Int → Int → Int → Int → Int → Int → Int → Int → Int → Int → Int → Option (Int × Int × Int × Int × Int × Int × Int × Int × Int × Int × Int × Int × Int × Int)
 | 0, _, _, _, _, _, _, _, _, _, _, _, _, _, _, _, _, _, _, _, _, _, _, _, _, _, _, _, _, _ => none
 | k + 1, x4, x105000, x105001, x105002, x105003, x105004, x105005, x105006, x105007, x105008, x105009, x105010, x105011, x105012, x105013, x107000, x107001, x107002, x107003, x107004, x107005, x107006, x107007, x107008, x107009, x107010, x107011, x107012, x107013 => if x4 < 14 then (if 0 ≤ x4 then (laws_toWeighing.l0 k (wrap64 (x4 + 1)) x105000 x105001 x105002 x105003 x105004 x105005 x105006 x105007 x105008 x105009 x105010 x105011 x105012 x105013 (aup x4 0 (rd [x105000, x105001, x105002, x105003, x105004, x105005, x105006, x105007, x105008, x105009, x105010, x105011, x105012, x105013] x4) x107000) (aup x4 1 (rd [x105000, x105001, x105002, x105003, x105004, x105005, x105006, x105007, x105008, x105009, x105010, x105011, x105012, x105013] x4) x107001) (aup x4 2 (rd [x105000, x105001, x105002, x105003, x105004, x105005, x105006, x105007, x105008, x105009, x105010, x105011, x105012, x105013] x4) x107002) (aup x4 3 (rd [x105000, x105001, x105002, x105003, x105004, x105005, x105006, x105007, x105008, x105009, x105010, x105011, x105012, x105013] x4) x107003) (aup x4 4 (rd [x105000, x105001, x105002, x105003, x105004, x105005, x105006, x105007, x105008, x105009, x105010, x105011, x105012, x105013] x4) x107004) (aup x4 5 (rd [x105000, x105001, x105002, x105003, x105004, x105005, x105006, x105007, x105008, x105009, x105010, x105011, x105012, x105013] x4) x107005) (aup x4 6 (rd [x105000, x105001, x105002, x105003, x105004, x105005, x105006, x105007, x105008, x105009, x105010, x105011, x105012, x105013] x4) x107006) (aup x4 7 (rd [x105000, x105001, x105002, x105003, x105004, x105005, x105006, x105007, x105008, x105009, x105010, x105011, x105012, x105013] x4) x107007) (aup x4 8 (rd [x105000, x105001, x105002, x105003, x105004, x105005, x105006, x105007, x105008, x105009, x105010, x105011, x105012, x105013] x4) x107008) (aup x4 9 (rd [x105000, x105001, x105002, x105003, x105004, x105005, x105006, x105007, x105008, x105009, x105010, x105011, x105012, x105013] x4) x107009) (aup x4 10 (rd [x105000, x105001, x105002, x105003, x105004, x105005, x105006, x105007, x105008, x105009, x105010, x105011, x105012, x105013] x4) x107010) (aup x4 11 (rd [x105000, x105001, x105002, x105003, x105004, x105005, x105006, x105007, x105008, x105009, x105010, x105011, x105012, x105013] x4) x107011) (aup x4 12 (rd [x105000, x105001, x105002, x105003, x105004, x105005, x105006, x105007, x105008, x105009, x105010, x105011, x105012, x105013] x4) x107012) (aup x4 13 (rd [x105000, x105001, x105002, x105003, x105004, x105005, x105006, x105007, x105008, x105009, x105010, x105011, x105012, x105013] x4) x107013)) else (none)) else (some (x107000, x107001, x107002, x107003, x107004, x107005, x107006, x107007, x107008, x107009, x107010, x107011, x107012, x107013))
def laws_toWeighing.f (k : Nat) (a0_0 : Int) (a0_1 : Int) (a0_2 : Int) (a0_3 : Int) (a0_4 : Int) (a0_5 : Int) (a0_6 : Int) (a0_7 : Int) (a0_8 : Int) (a0_9 : Int) (a0_10 : Int) (a0_11 : Int) (a0_12 : Int) (a0_13 : Int) : Option (Int × Int × Int × Int × Int × Int × Int × Int × Int × Int × Int × Int × Int × Int) := laws_toWeighing.l0 k 0 a0_0 a0_1 a0_2 a0_3 a0_4 a0_5 a0_6 a0_7 a0_8 a0_9 a0_10 a0_11 a0_12 a0_13 0 0 0 0 0 0 0 0 0 0 0 0 0 0
theorem laws_toWeighing.mono_l : ∀ k, (∀ y0 y1 y2 y3 y4 y5 y6 y7 y8 y9 y10 y11 y12 y13 y14 y15 y16 y17 y18 y19 y20 y21 y22 y23 y24 y25 y26 y27 y28, LeO (laws_toWeighing.l0 k y0 y1 y2 y3 y4 y5 y6 y7 y8 y9 y10 y11 y12 y13 y14 y15 y16 y17 y18 y19 y20 y21 y22 y23 y24 y25 y26 y27 y28) (laws_toWeighing.l0 (k + 1) y0 y1 y2 y3 y4 y5 y6 y7 y8 y9 y10 y11 y12 y13 y14 y15 y16 y17 y18 y19 y20 y21 y22 y23 y24 y25 y26 y27 y28))
 | 0 => fun _ _ _ _ _ _ _ _ _ _ _ _ _ _ _ _ _ _ _ _ _ _ _ _ _ _ _ _ _ r h => by simp [laws_toWeighing.l0] at h
 | k + 1 => by
  have ih0 := laws_toWeighing.mono_l k
  ·intro y0 y1 y2 y3 y4 y5 y6 y7 y8 y9 y10 y11 y12 y13 y14 y15 y16 y17 y18 y19 y20 y21 y22 y23 y24 y25 y26 y27 y28
   unfold laws_toWeighing.l0
   repeat' first
   | (with_reducible exact ih0 _ _ _ _ _ _ _ _ _ _ _ _ _ _ _ _ _ _ _ _ _ _ _ _ _ _ _ _ _)
   | (with_reducible exact LeO.refl _)
   | (with_reducible exact LeO.none _)
   | (with_reducible refine LeO.ite ?_ ?_)
   | (with_reducible refine LeO.bind ?_ (fun _ => ?_))
   | exact ih0 _ _ _ _ _ _ _ _ _ _ _ _ _ _ _ _ _ _ _ _ _ _ _ _ _ _ _ _ _
   | exact LeO.none _
   | refine LeO.ite ?_ ?_
   | refine LeO.bind ?_ (fun _ => ?_)
theorem laws_toWeighing.mono : ∀ a0 a1 a2 a3 a4 a5 a6 a7 a8 a9 a10 a11 a12 a13 k, LeO (laws_toWeighing.f k a0 a1 a2 a3 a4 a5 a6 a7 a8 a9 a10 a11 a12 a13) (laws_toWeighing.f (k + 1) a0 a1 a2 a3 a4 a5 a6 a7 a8 a9 a10 a11 a12 a13) := by
 intro a0 a1 a2 a3 a4 a5 a6 a7 a8 a9 a10 a11 a12 a13 k
 have ih0 := laws_toWeighing.mono_l k
 unfold laws_toWeighing.f
 repeat' first
   | (with_reducible exact ih0 _ _ _ _ _ _ _ _ _ _ _ _ _ _ _ _ _ _ _ _ _ _ _ _ _ _ _ _ _)
   | (with_reducible exact LeO.refl _)
   | (with_reducible exact LeO.none _)
   | (with_reducible refine LeO.ite ?_ ?_)
   | (with_reducible refine LeO.bind ?_ (fun _ => ?_))
   | exact ih0 _ _ _ _ _ _ _ _ _ _ _ _ _ _ _ _ _ _ _ _ _ _ _ _ _ _ _ _ _
   | exact LeO.none _
   | refine LeO.ite ?_ ?_
   | refine LeO.bind ?_ (fun _ => ?_)
set_option maxHeartbeats 8000000 in
set_option maxRecDepth 100000 in
theorem laws_toWeighing.calls (k : Nat) (a0_0 : Int) (a0_1 : Int) (a0_2 : Int) (a0_3 : Int) (a0_4 : Int) (a0_5 : Int) (a0_6 : Int) (a0_7 : Int) (a0_8 : Int) (a0_9 : Int) (a0_10 : Int) (a0_11 : Int) (a0_12 : Int) (a0_13 : Int) (r1 : Int) (r2 : Int) (r3 : Int) (r4 : Int) (r5 : Int) (r6 : Int) (r7 : Int) (r8 : Int) (r9 : Int) (r10 : Int) (r11 : Int) (r12 : Int) (r13 : Int) (r14 : Int) (w : World) (h : laws_toWeighing.f k a0_0 a0_1 a0_2 a0_3 a0_4 a0_5 a0_6 a0_7 a0_8 a0_9 a0_10 a0_11 a0_12 a0_13 = some (r1, r2, r3, r4, r5, r6, r7, r8, r9, r10, r11, r12, r13, r14)) :
  Calls Try.prog 18 #[.agg #[.int .i8 a0_0, .int .i8 a0_1, .int .i8 a0_2, .int .i8 a0_3, .int .i8 a0_4, .int .i8 a0_5, .int .i8 a0_6, .int .i8 a0_7, .int .i8 a0_8, .int .i8 a0_9, .int .i8 a0_10, .int .i8 a0_11, .int .i8 a0_12, .int .i8 a0_13]] w fun e w' => e = .returned (.agg #[.int .i8 r1, .int .i8 r2, .int .i8 r3, .int .i8 r4, .int .i8 r5, .int .i8 r6, .int .i8 r7, .int .i8 r8, .int .i8 r9, .int .i8 r10, .int .i8 r11, .int .i8 r12, .int .i8 r13, .int .i8 r14]) ∧ Below w.heap.size w w' := by
 have hu29 := Try.underlying29
 have hu31 := Try.underlying31
 have HB := A_ (Below.refl w.heap.size w)
 have H : (laws_toWeighing.l0 k 0 a0_0 a0_1 a0_2 a0_3 a0_4 a0_5 a0_6 a0_7 a0_8 a0_9 a0_10 a0_11 a0_12 a0_13 0 0 0 0 0 0 0 0 0 0 0 0 0 0) = some (r1, r2, r3, r4, r5, r6, r7, r8, r9, r10, r11, r12, r13, r14) := h
 clear h
 have H' := Aside0.mk H
 clear H
 go_enter Try.func18, Try.ntmps18
 go_wp2_with (first | ((with_reducible refine gate_dst (N := 1) rfl ?_); refine box_event ?hg (N := 1) ?hd (cs := #[.int .i8 a0_0, .int .i8 a0_1, .int .i8 a0_2, .int .i8 a0_3, .int .i8 a0_4, .int .i8 a0_5, .int .i8 a0_6, .int .i8 a0_7, .int .i8 a0_8, .int .i8 a0_9, .int .i8 a0_10, .int .i8 a0_11, .int .i8 a0_12, .int .i8 a0_13]) (t := 29) ?hr ?_; (case hd => rfl); (case hg => rfl); (case hr => first | (go_simp; done) | (go_simp; rfl)); intro gb104 hg w2 hbox hb; have n0_ := A_ (below_step (bl_ HB) hb); have n1_ := A_ (hbox); have n2_ := A_ ((by rw [hg]; exact (below_size (bl_ HB)) : w.heap.size ≤ gb104)); have n3_ := n2_; clear HB; have HB := n0_; have BK104 := n1_; have GW104 := n2_; have GE104 := n3_; clear n0_ n1_ n2_ n3_; clear hb hbox hg) | ((with_reducible refine gate_dst (N := 2) rfl ?_); refine box_event ?hg (N := 2) ?hd (cs := #[.int .i8 0, .int .i8 0, .int .i8 0, .int .i8 0, .int .i8 0, .int .i8 0, .int .i8 0, .int .i8 0, .int .i8 0, .int .i8 0, .int .i8 0, .int .i8 0, .int .i8 0, .int .i8 0]) (t := 31) ?hr ?_; (case hd => rfl); (case hg => rfl); (case hr => first | (go_simp; done) | (go_simp; rfl)); intro gb105 hg w3 hbox hb; have n0_ := A_ (blk_below (pl_ BK104) hb); have n1_ := A_ (below_step (bl_ HB) hb); have n2_ := A_ (hbox); have n3_ := A_ ((by rw [hg]; exact (below_size (bl_ HB)) : w.heap.size ≤ gb105)); have n4_ := n3_; have n5_ := A_ ((by rw [hg]; exact Nat.ne_of_lt (blk_lt (pl_ BK104)) : gb104 ≠ gb105)); have n6_ := Aside0.mk n5_.out.symm; clear BK104; clear HB; have BK104 := n0_; have HB := n1_; have BK105 := n2_; have GW105 := n3_; have GE105 := n4_; have NB104_105 := n5_; have NB105_104 := n6_; clear n0_ n1_ n2_ n3_ n4_ n5_ n6_; clear hb hbox hg) | ((with_reducible refine gate_dst (N := 3) rfl ?_); refine box_event ?hg (N := 3) ?hd (cs := #[.int .i8 0, .int .i8 0, .int .i8 0, .int .i8 0, .int .i8 0, .int .i8 0, .int .i8 0, .int .i8 0, .int .i8 0, .int .i8 0, .int .i8 0, .int .i8 0, .int .i8 0, .int .i8 0]) (t := 31) ?hr ?_; (case hd => rfl); (case hg => rfl); (case hr => first | (go_simp; done) | (go_simp; rfl)); intro gb106 hg w4 hbox hb; have n0_ := A_ (blk_below (pl_ BK104) hb); have n1_ := A_ (blk_below (pl_ BK105) hb); have n2_ := A_ (below_step (bl_ HB) hb); have n3_ := A_ (hbox); have n4_ := A_ ((by rw [hg]; exact (below_size (bl_ HB)) : w.heap.size ≤ gb106)); have n5_ := n4_; have n6_ := A_ ((by rw [hg]; exact Nat.ne_of_lt (blk_lt (pl_ BK104)) : gb104 ≠ gb106)); have n7_ := Aside0.mk n6_.out.symm; have n8_ := A_ ((by rw [hg]; exact Nat.ne_of_lt (blk_lt (pl_ BK105)) : gb105 ≠ gb106)); have n9_ := Aside0.mk n8_.out.symm; clear BK104; clear BK105; clear HB; have BK104 := n0_; have BK105 := n1_; have HB := n2_; have BK106 := n3_; have GW106 := n4_; have GE106 := n5_; have NB104_106 := n6_; have NB106_104 := n7_; have NB105_106 := n8_; have NB106_105 := n9_; clear n0_ n1_ n2_ n3_ n4_ n5_ n6_ n7_ n8_ n9_; clear hb hbox hg))
 go_loopg [4] k (fun kq v4 w' => ∃ (x4_1 : Int) (x107000_1 : Int) (x107001_1 : Int) (x107002_1 : Int) (x107003_1 : Int) (x107004_1 : Int) (x107005_1 : Int) (x107006_1 : Int) (x107007_1 : Int) (x107008_1 : Int) (x107009_1 : Int) (x107010_1 : Int) (x107011_1 : Int) (x107012_1 : Int) (x107013_1 : Int), v4 = .int .i64 x4_1 ∧ Aside0 (laws_toWeighing.l0 kq x4_1 a0_0 a0_1 a0_2 a0_3 a0_4 a0_5 a0_6 a0_7 a0_8 a0_9 a0_10 a0_11 a0_12 a0_13 x107000_1 x107001_1 x107002_1 x107003_1 x107004_1 x107005_1 x107006_1 x107007_1 x107008_1 x107009_1 x107010_1 x107011_1 x107012_1 x107013_1 = some (r1, r2, r3, r4, r5, r6, r7, r8, r9, r10, r11, r12, r13, r14)) ∧ Aside0 (kq ≤ k) ∧ Aside0 (w'.heap[gb104]? = some (.cells #[.int .i8 a0_0, .int .i8 a0_1, .int .i8 a0_2, .int .i8 a0_3, .int .i8 a0_4, .int .i8 a0_5, .int .i8 a0_6, .int .i8 a0_7, .int .i8 a0_8, .int .i8 a0_9, .int .i8 a0_10, .int .i8 a0_11, .int .i8 a0_12, .int .i8 a0_13] 29 (0, 0))) ∧ Aside0 (w'.heap[gb105]? = some (.cells #[.int .i8 0, .int .i8 0, .int .i8 0, .int .i8 0, .int .i8 0, .int .i8 0, .int .i8 0, .int .i8 0, .int .i8 0, .int .i8 0, .int .i8 0, .int .i8 0, .int .i8 0, .int .i8 0] 31 (0, 0))) ∧ Aside0 (w'.heap[gb106]? = some (.cells #[.int .i8 x107000_1, .int .i8 x107001_1, .int .i8 x107002_1, .int .i8 x107003_1, .int .i8 x107004_1, .int .i8 x107005_1, .int .i8 x107006_1, .int .i8 x107007_1, .int .i8 x107008_1, .int .i8 x107009_1, .int .i8 x107010_1, .int .i8 x107011_1, .int .i8 x107012_1, .int .i8 x107013_1] 31 (0, 0))) ∧ Aside0 (Below w.heap.size w w'))
 case atStart => exact ⟨(0), (0), (0), (0), (0), (0), (0), (0), (0), (0), (0), (0), (0), (0), (0), rs_, H', ⟨Nat.le_refl _⟩, ⟨pl_ BK104⟩, ⟨pl_ BK105⟩, ⟨pl_ BK106⟩, ⟨bl_ HB⟩⟩
 case round =>
  clear H'
  try clear c1
  try clear p2
  obtain ⟨x4_1, x107000_1, x107001_1, x107002_1, x107003_1, x107004_1, x107005_1, x107006_1, x107007_1, x107008_1, x107009_1, x107010_1, x107011_1, x107012_1, x107013_1, rfl, HA, HK1, BK104, BK105, BK106, HB⟩ := hrel
  cases gk with
  | zero => exact absurd HA.out (by simp [laws_toWeighing.l0])
  | succ k1 =>
   have H := HA.out
   clear HA
   simp only [laws_toWeighing.l0] at H
   by_cases c5 : x4_1 < 14
   ·rw [if_pos c5] at H
    have c5b0 : decide (x4_1 < 14) = true := decide_eq_true c5
    clear c5
    by_cases c6 : 0 ≤ x4_1
    ·rw [if_pos c6] at H
     have c6b0 : decide (0 ≤ x4_1) = true := decide_eq_true c6
     clear c6
     have H' := Aside0.mk H
     clear H
     have hnb10 := NB104_105.out
     have hnc10 := NB105_104.out
     have hnb11 := NB104_106.out
     have hnc11 := NB106_104.out
     have hcz12_0 : wr.cell? ⟨gb104, 0, none⟩ = some (.int .i8 a0_0) := (blk_cell BK104.out 0).trans rfl
     have hcz12_1 : wr.cell? ⟨gb104, 1, none⟩ = some (.int .i8 a0_1) := (blk_cell BK104.out 1).trans rfl
     have hcz12_2 : wr.cell? ⟨gb104, 2, none⟩ = some (.int .i8 a0_2) := (blk_cell BK104.out 2).trans rfl
     have hcz12_3 : wr.cell? ⟨gb104, 3, none⟩ = some (.int .i8 a0_3) := (blk_cell BK104.out 3).trans rfl
     have hcz12_4 : wr.cell? ⟨gb104, 4, none⟩ = some (.int .i8 a0_4) := (blk_cell BK104.out 4).trans rfl
     have hcz12_5 : wr.cell? ⟨gb104, 5, none⟩ = some (.int .i8 a0_5) := (blk_cell BK104.out 5).trans rfl
     have hcz12_6 : wr.cell? ⟨gb104, 6, none⟩ = some (.int .i8 a0_6) := (blk_cell BK104.out 6).trans rfl
     have hcz12_7 : wr.cell? ⟨gb104, 7, none⟩ = some (.int .i8 a0_7) := (blk_cell BK104.out 7).trans rfl
     have hcz12_8 : wr.cell? ⟨gb104, 8, none⟩ = some (.int .i8 a0_8) := (blk_cell BK104.out 8).trans rfl
     have hcz12_9 : wr.cell? ⟨gb104, 9, none⟩ = some (.int .i8 a0_9) := (blk_cell BK104.out 9).trans rfl
     have hcz12_10 : wr.cell? ⟨gb104, 10, none⟩ = some (.int .i8 a0_10) := (blk_cell BK104.out 10).trans rfl
     have hcz12_11 : wr.cell? ⟨gb104, 11, none⟩ = some (.int .i8 a0_11) := (blk_cell BK104.out 11).trans rfl
     have hcz12_12 : wr.cell? ⟨gb104, 12, none⟩ = some (.int .i8 a0_12) := (blk_cell BK104.out 12).trans rfl
     have hcz12_13 : wr.cell? ⟨gb104, 13, none⟩ = some (.int .i8 a0_13) := (blk_cell BK104.out 13).trans rfl
     have hfz12_0 := blk_frozen BK104.out 0
     have hfz12_1 := blk_frozen BK104.out 1
     have hfz12_2 := blk_frozen BK104.out 2
     have hfz12_3 := blk_frozen BK104.out 3
     have hfz12_4 := blk_frozen BK104.out 4
     have hfz12_5 := blk_frozen BK104.out 5
     have hfz12_6 := blk_frozen BK104.out 6
     have hfz12_7 := blk_frozen BK104.out 7
     have hfz12_8 := blk_frozen BK104.out 8
     have hfz12_9 := blk_frozen BK104.out 9
     have hfz12_10 := blk_frozen BK104.out 10
     have hfz12_11 := blk_frozen BK104.out 11
     have hfz12_12 := blk_frozen BK104.out 12
     have hfz12_13 := blk_frozen BK104.out 13
     have p7 : 0 ≤ (x4_1 : Int) := asm_
     have q7 : (x4_1 : Int) < 14 := asm_
     have hx7 : wr.cell? ⟨gb104, (x4_1 : Int).toNat, none⟩ = some (.int .i8 (rd [a0_0, a0_1, a0_2, a0_3, a0_4, a0_5, a0_6, a0_7, a0_8, a0_9, a0_10, a0_11, a0_12, a0_13] x4_1)) := ard_cell (k := .i8) (l := [a0_0, a0_1, a0_2, a0_3, a0_4, a0_5, a0_6, a0_7, a0_8, a0_9, a0_10, a0_11, a0_12, a0_13]) BK104.out p7 q7
     have hf7 := blk_frozen BK104.out (x4_1 : Int).toNat
     have P7 := Aside0.mk p7
     have Q7 := Aside0.mk q7
     replace p7 := eq_true p7
     replace q7 := eq_true q7
     have hnb13 := NB106_105.out
     have hnc13 := NB105_106.out
     have hcz14_0 : wr.cell? ⟨gb106, 0, none⟩ = some (.int .i8 x107000_1) := (blk_cell BK106.out 0).trans rfl
     have hcz14_1 : wr.cell? ⟨gb106, 1, none⟩ = some (.int .i8 x107001_1) := (blk_cell BK106.out 1).trans rfl
     have hcz14_2 : wr.cell? ⟨gb106, 2, none⟩ = some (.int .i8 x107002_1) := (blk_cell BK106.out 2).trans rfl
     have hcz14_3 : wr.cell? ⟨gb106, 3, none⟩ = some (.int .i8 x107003_1) := (blk_cell BK106.out 3).trans rfl
     have hcz14_4 : wr.cell? ⟨gb106, 4, none⟩ = some (.int .i8 x107004_1) := (blk_cell BK106.out 4).trans rfl
     have hcz14_5 : wr.cell? ⟨gb106, 5, none⟩ = some (.int .i8 x107005_1) := (blk_cell BK106.out 5).trans rfl
     have hcz14_6 : wr.cell? ⟨gb106, 6, none⟩ = some (.int .i8 x107006_1) := (blk_cell BK106.out 6).trans rfl
     have hcz14_7 : wr.cell? ⟨gb106, 7, none⟩ = some (.int .i8 x107007_1) := (blk_cell BK106.out 7).trans rfl
     have hcz14_8 : wr.cell? ⟨gb106, 8, none⟩ = some (.int .i8 x107008_1) := (blk_cell BK106.out 8).trans rfl
     have hcz14_9 : wr.cell? ⟨gb106, 9, none⟩ = some (.int .i8 x107009_1) := (blk_cell BK106.out 9).trans rfl
     have hcz14_10 : wr.cell? ⟨gb106, 10, none⟩ = some (.int .i8 x107010_1) := (blk_cell BK106.out 10).trans rfl
     have hcz14_11 : wr.cell? ⟨gb106, 11, none⟩ = some (.int .i8 x107011_1) := (blk_cell BK106.out 11).trans rfl
     have hcz14_12 : wr.cell? ⟨gb106, 12, none⟩ = some (.int .i8 x107012_1) := (blk_cell BK106.out 12).trans rfl
     have hcz14_13 : wr.cell? ⟨gb106, 13, none⟩ = some (.int .i8 x107013_1) := (blk_cell BK106.out 13).trans rfl
     have hfz14_0 := blk_frozen BK106.out 0
     have hfz14_1 := blk_frozen BK106.out 1
     have hfz14_2 := blk_frozen BK106.out 2
     have hfz14_3 := blk_frozen BK106.out 3
     have hfz14_4 := blk_frozen BK106.out 4
     have hfz14_5 := blk_frozen BK106.out 5
     have hfz14_6 := blk_frozen BK106.out 6
     have hfz14_7 := blk_frozen BK106.out 7
     have hfz14_8 := blk_frozen BK106.out 8
     have hfz14_9 := blk_frozen BK106.out 9
     have hfz14_10 := blk_frozen BK106.out 10
     have hfz14_11 := blk_frozen BK106.out 11
     have hfz14_12 := blk_frozen BK106.out 12
     have hfz14_13 := blk_frozen BK106.out 13
     have p8 : 0 ≤ (x4_1 : Int) := asm_
     have q8 : (x4_1 : Int) < 14 := asm_
     have hx8 : wr.cell? ⟨gb106, (x4_1 : Int).toNat, none⟩ = some (.int .i8 (rd [x107000_1, x107001_1, x107002_1, x107003_1, x107004_1, x107005_1, x107006_1, x107007_1, x107008_1, x107009_1, x107010_1, x107011_1, x107012_1, x107013_1] x4_1)) := ard_cell (k := .i8) (l := [x107000_1, x107001_1, x107002_1, x107003_1, x107004_1, x107005_1, x107006_1, x107007_1, x107008_1, x107009_1, x107010_1, x107011_1, x107012_1, x107013_1]) BK106.out p8 q8
     have hf8 := blk_frozen BK106.out (x4_1 : Int).toNat
     have P8 := Aside0.mk p8
     have Q8 := Aside0.mk q8
     replace p8 := eq_true p8
     replace q8 := eq_true q8
     go_wp2_with (first | ((with_reducible refine gate_store (t := 22) (p := 13) rfl ?_); refine store_event (t := 22) (p := 13) (v := ?vo_w16) (w1 := (wr.setCell ⟨gb106, (x4_1 : Int).toNat, none⟩ (.int .i8 (rd [a0_0, a0_1, a0_2, a0_3, a0_4, a0_5, a0_6, a0_7, a0_8, a0_9, a0_10, a0_11, a0_12, a0_13] x4_1)))) ?hg ?ho ?hn ?hr ?_; (case ho => rfl); (case hg => rfl); (case hn => rfl); (case hr => first | (go_simp; done) | (go_simp; rfl)); intro w16 hw; have n0_ : Aside0 (w16.heap[gb104]? = some (.cells #[.int .i8 a0_0, .int .i8 a0_1, .int .i8 a0_2, .int .i8 a0_3, .int .i8 a0_4, .int .i8 a0_5, .int .i8 a0_6, .int .i8 a0_7, .int .i8 a0_8, .int .i8 a0_9, .int .i8 a0_10, .int .i8 a0_11, .int .i8 a0_12, .int .i8 a0_13] 29 (0, 0))) := ⟨(by rw [hw]; exact (pf_ BK104 NB104_106))⟩; have n1_ : Aside0 (w16.heap[gb105]? = some (.cells #[.int .i8 0, .int .i8 0, .int .i8 0, .int .i8 0, .int .i8 0, .int .i8 0, .int .i8 0, .int .i8 0, .int .i8 0, .int .i8 0, .int .i8 0, .int .i8 0, .int .i8 0, .int .i8 0] 31 (0, 0))) := ⟨(by rw [hw]; exact (pf_ BK105 NB105_106))⟩; have n2_ : Aside0 (w16.heap[gb106]? = some (.cells #[.int .i8 (aup x4_1 0 (rd [a0_0, a0_1, a0_2, a0_3, a0_4, a0_5, a0_6, a0_7, a0_8, a0_9, a0_10, a0_11, a0_12, a0_13] x4_1) x107000_1), .int .i8 (aup x4_1 1 (rd [a0_0, a0_1, a0_2, a0_3, a0_4, a0_5, a0_6, a0_7, a0_8, a0_9, a0_10, a0_11, a0_12, a0_13] x4_1) x107001_1), .int .i8 (aup x4_1 2 (rd [a0_0, a0_1, a0_2, a0_3, a0_4, a0_5, a0_6, a0_7, a0_8, a0_9, a0_10, a0_11, a0_12, a0_13] x4_1) x107002_1), .int .i8 (aup x4_1 3 (rd [a0_0, a0_1, a0_2, a0_3, a0_4, a0_5, a0_6, a0_7, a0_8, a0_9, a0_10, a0_11, a0_12, a0_13] x4_1) x107003_1), .int .i8 (aup x4_1 4 (rd [a0_0, a0_1, a0_2, a0_3, a0_4, a0_5, a0_6, a0_7, a0_8, a0_9, a0_10, a0_11, a0_12, a0_13] x4_1) x107004_1), .int .i8 (aup x4_1 5 (rd [a0_0, a0_1, a0_2, a0_3, a0_4, a0_5, a0_6, a0_7, a0_8, a0_9, a0_10, a0_11, a0_12, a0_13] x4_1) x107005_1), .int .i8 (aup x4_1 6 (rd [a0_0, a0_1, a0_2, a0_3, a0_4, a0_5, a0_6, a0_7, a0_8, a0_9, a0_10, a0_11, a0_12, a0_13] x4_1) x107006_1), .int .i8 (aup x4_1 7 (rd [a0_0, a0_1, a0_2, a0_3, a0_4, a0_5, a0_6, a0_7, a0_8, a0_9, a0_10, a0_11, a0_12, a0_13] x4_1) x107007_1), .int .i8 (aup x4_1 8 (rd [a0_0, a0_1, a0_2, a0_3, a0_4, a0_5, a0_6, a0_7, a0_8, a0_9, a0_10, a0_11, a0_12, a0_13] x4_1) x107008_1), .int .i8 (aup x4_1 9 (rd [a0_0, a0_1, a0_2, a0_3, a0_4, a0_5, a0_6, a0_7, a0_8, a0_9, a0_10, a0_11, a0_12, a0_13] x4_1) x107009_1), .int .i8 (aup x4_1 10 (rd [a0_0, a0_1, a0_2, a0_3, a0_4, a0_5, a0_6, a0_7, a0_8, a0_9, a0_10, a0_11, a0_12, a0_13] x4_1) x107010_1), .int .i8 (aup x4_1 11 (rd [a0_0, a0_1, a0_2, a0_3, a0_4, a0_5, a0_6, a0_7, a0_8, a0_9, a0_10, a0_11, a0_12, a0_13] x4_1) x107011_1), .int .i8 (aup x4_1 12 (rd [a0_0, a0_1, a0_2, a0_3, a0_4, a0_5, a0_6, a0_7, a0_8, a0_9, a0_10, a0_11, a0_12, a0_13] x4_1) x107012_1), .int .i8 (aup x4_1 13 (rd [a0_0, a0_1, a0_2, a0_3, a0_4, a0_5, a0_6, a0_7, a0_8, a0_9, a0_10, a0_11, a0_12, a0_13] x4_1) x107013_1)] 31 (0, 0))) := ⟨(by rw [hw]; exact (by (with_reducible repeat (first | refine blk_drewN ?_ _ | refine blk_drew ?_ | refine blk_alloc ?_ _)); refine blk_put (cs := #[.int .i8 x107000_1, .int .i8 x107001_1, .int .i8 x107002_1, .int .i8 x107003_1, .int .i8 x107004_1, .int .i8 x107005_1, .int .i8 x107006_1, .int .i8 x107007_1, .int .i8 x107008_1, .int .i8 x107009_1, .int .i8 x107010_1, .int .i8 x107011_1, .int .i8 x107012_1, .int .i8 x107013_1]) ?_ (x4_1 : Int).toNat _ (ups_set (k := .i8) (l := [x107000_1, x107001_1, x107002_1, x107003_1, x107004_1, x107005_1, x107006_1, x107007_1, x107008_1, x107009_1, x107010_1, x107011_1, x107012_1, x107013_1]) P8.out); (with_reducible repeat (first | refine blk_drewN ?_ _ | refine blk_drew ?_ | refine blk_alloc ?_ _)); exact BK106.out))⟩; have n3_ : Aside0 (Below w.heap.size w w16) := ⟨(by rw [hw]; exact (bs_ HB GE106))⟩; clear hw; clear BK104; clear BK105; clear BK106; clear HB; have BK104 := n0_; have BK105 := n1_; have BK106 := n2_; have HB := n3_; clear n0_ n1_ n2_ n3_))
     go_roundg k1
     case measure => have := HK1.out; omega
     case rel => exact ⟨(wrap64 (x4_1 + 1)), (aup x4_1 0 (rd [a0_0, a0_1, a0_2, a0_3, a0_4, a0_5, a0_6, a0_7, a0_8, a0_9, a0_10, a0_11, a0_12, a0_13] x4_1) x107000_1), (aup x4_1 1 (rd [a0_0, a0_1, a0_2, a0_3, a0_4, a0_5, a0_6, a0_7, a0_8, a0_9, a0_10, a0_11, a0_12, a0_13] x4_1) x107001_1), (aup x4_1 2 (rd [a0_0, a0_1, a0_2, a0_3, a0_4, a0_5, a0_6, a0_7, a0_8, a0_9, a0_10, a0_11, a0_12, a0_13] x4_1) x107002_1), (aup x4_1 3 (rd [a0_0, a0_1, a0_2, a0_3, a0_4, a0_5, a0_6, a0_7, a0_8, a0_9, a0_10, a0_11, a0_12, a0_13] x4_1) x107003_1), (aup x4_1 4 (rd [a0_0, a0_1, a0_2, a0_3, a0_4, a0_5, a0_6, a0_7, a0_8, a0_9, a0_10, a0_11, a0_12, a0_13] x4_1) x107004_1), (aup x4_1 5 (rd [a0_0, a0_1, a0_2, a0_3, a0_4, a0_5, a0_6, a0_7, a0_8, a0_9, a0_10, a0_11, a0_12, a0_13] x4_1) x107005_1), (aup x4_1 6 (rd [a0_0, a0_1, a0_2, a0_3, a0_4, a0_5, a0_6, a0_7, a0_8, a0_9, a0_10, a0_11, a0_12, a0_13] x4_1) x107006_1), (aup x4_1 7 (rd [a0_0, a0_1, a0_2, a0_3, a0_4, a0_5, a0_6, a0_7, a0_8, a0_9, a0_10, a0_11, a0_12, a0_13] x4_1) x107007_1), (aup x4_1 8 (rd [a0_0, a0_1, a0_2, a0_3, a0_4, a0_5, a0_6, a0_7, a0_8, a0_9, a0_10, a0_11, a0_12, a0_13] x4_1) x107008_1), (aup x4_1 9 (rd [a0_0, a0_1, a0_2, a0_3, a0_4, a0_5, a0_6, a0_7, a0_8, a0_9, a0_10, a0_11, a0_12, a0_13] x4_1) x107009_1), (aup x4_1 10 (rd [a0_0, a0_1, a0_2, a0_3, a0_4, a0_5, a0_6, a0_7, a0_8, a0_9, a0_10, a0_11, a0_12, a0_13] x4_1) x107010_1), (aup x4_1 11 (rd [a0_0, a0_1, a0_2, a0_3, a0_4, a0_5, a0_6, a0_7, a0_8, a0_9, a0_10, a0_11, a0_12, a0_13] x4_1) x107011_1), (aup x4_1 12 (rd [a0_0, a0_1, a0_2, a0_3, a0_4, a0_5, a0_6, a0_7, a0_8, a0_9, a0_10, a0_11, a0_12, a0_13] x4_1) x107012_1), (aup x4_1 13 (rd [a0_0, a0_1, a0_2, a0_3, a0_4, a0_5, a0_6, a0_7, a0_8, a0_9, a0_10, a0_11, a0_12, a0_13] x4_1) x107013_1), rs_, H', ⟨by have := HK1.out; omega⟩, ⟨pl_ BK104⟩, ⟨pl_ BK105⟩, ⟨pl_ BK106⟩, ⟨bl_ HB⟩⟩
    ·rw [if_neg c6] at H
     exact absurd H (by simp)
   ·rw [if_neg c5] at H
    have c5b0 : decide (x4_1 < 14) = false := decide_eq_false c5
    clear c5
    simp only [Option.some.injEq, Prod.mk.injEq] at H
    obtain ⟨rfl, rfl, rfl, rfl, rfl, rfl, rfl, rfl, rfl, rfl, rfl, rfl, rfl, rfl⟩ := H
    have hnb17 := NB106_104.out
    have hnc17 := NB104_106.out
    have hnb18 := NB106_105.out
    have hnc18 := NB105_106.out
    have hcz19_0 : wr.cell? ⟨gb106, 0, none⟩ = some (.int .i8 x107000_1) := (blk_cell BK106.out 0).trans rfl
    have hcz19_1 : wr.cell? ⟨gb106, 1, none⟩ = some (.int .i8 x107001_1) := (blk_cell BK106.out 1).trans rfl
    have hcz19_2 : wr.cell? ⟨gb106, 2, none⟩ = some (.int .i8 x107002_1) := (blk_cell BK106.out 2).trans rfl
    have hcz19_3 : wr.cell? ⟨gb106, 3, none⟩ = some (.int .i8 x107003_1) := (blk_cell BK106.out 3).trans rfl
    have hcz19_4 : wr.cell? ⟨gb106, 4, none⟩ = some (.int .i8 x107004_1) := (blk_cell BK106.out 4).trans rfl
    have hcz19_5 : wr.cell? ⟨gb106, 5, none⟩ = some (.int .i8 x107005_1) := (blk_cell BK106.out 5).trans rfl
    have hcz19_6 : wr.cell? ⟨gb106, 6, none⟩ = some (.int .i8 x107006_1) := (blk_cell BK106.out 6).trans rfl
    have hcz19_7 : wr.cell? ⟨gb106, 7, none⟩ = some (.int .i8 x107007_1) := (blk_cell BK106.out 7).trans rfl
    have hcz19_8 : wr.cell? ⟨gb106, 8, none⟩ = some (.int .i8 x107008_1) := (blk_cell BK106.out 8).trans rfl
    have hcz19_9 : wr.cell? ⟨gb106, 9, none⟩ = some (.int .i8 x107009_1) := (blk_cell BK106.out 9).trans rfl
    have hcz19_10 : wr.cell? ⟨gb106, 10, none⟩ = some (.int .i8 x107010_1) := (blk_cell BK106.out 10).trans rfl
    have hcz19_11 : wr.cell? ⟨gb106, 11, none⟩ = some (.int .i8 x107011_1) := (blk_cell BK106.out 11).trans rfl
    have hcz19_12 : wr.cell? ⟨gb106, 12, none⟩ = some (.int .i8 x107012_1) := (blk_cell BK106.out 12).trans rfl
    have hcz19_13 : wr.cell? ⟨gb106, 13, none⟩ = some (.int .i8 x107013_1) := (blk_cell BK106.out 13).trans rfl
    have hfz19_0 := blk_frozen BK106.out 0
    have hfz19_1 := blk_frozen BK106.out 1
    have hfz19_2 := blk_frozen BK106.out 2
    have hfz19_3 := blk_frozen BK106.out 3
    have hfz19_4 := blk_frozen BK106.out 4
    have hfz19_5 := blk_frozen BK106.out 5
    have hfz19_6 := blk_frozen BK106.out 6
    have hfz19_7 := blk_frozen BK106.out 7
    have hfz19_8 := blk_frozen BK106.out 8
    have hfz19_9 := blk_frozen BK106.out 9
    have hfz19_10 := blk_frozen BK106.out 10
    have hfz19_11 := blk_frozen BK106.out 11
    have hfz19_12 := blk_frozen BK106.out 12
    have hfz19_13 := blk_frozen BK106.out 13
    have hnb20 := NB105_104.out
    have hnc20 := NB104_105.out
    have hcz21_0 : wr.cell? ⟨gb105, 0, none⟩ = some (.int .i8 0) := (blk_cell BK105.out 0).trans rfl
    have hcz21_1 : wr.cell? ⟨gb105, 1, none⟩ = some (.int .i8 0) := (blk_cell BK105.out 1).trans rfl
    have hcz21_2 : wr.cell? ⟨gb105, 2, none⟩ = some (.int .i8 0) := (blk_cell BK105.out 2).trans rfl
    have hcz21_3 : wr.cell? ⟨gb105, 3, none⟩ = some (.int .i8 0) := (blk_cell BK105.out 3).trans rfl
    have hcz21_4 : wr.cell? ⟨gb105, 4, none⟩ = some (.int .i8 0) := (blk_cell BK105.out 4).trans rfl
    have hcz21_5 : wr.cell? ⟨gb105, 5, none⟩ = some (.int .i8 0) := (blk_cell BK105.out 5).trans rfl
    have hcz21_6 : wr.cell? ⟨gb105, 6, none⟩ = some (.int .i8 0) := (blk_cell BK105.out 6).trans rfl
    have hcz21_7 : wr.cell? ⟨gb105, 7, none⟩ = some (.int .i8 0) := (blk_cell BK105.out 7).trans rfl
    have hcz21_8 : wr.cell? ⟨gb105, 8, none⟩ = some (.int .i8 0) := (blk_cell BK105.out 8).trans rfl
    have hcz21_9 : wr.cell? ⟨gb105, 9, none⟩ = some (.int .i8 0) := (blk_cell BK105.out 9).trans rfl
    have hcz21_10 : wr.cell? ⟨gb105, 10, none⟩ = some (.int .i8 0) := (blk_cell BK105.out 10).trans rfl
    have hcz21_11 : wr.cell? ⟨gb105, 11, none⟩ = some (.int .i8 0) := (blk_cell BK105.out 11).trans rfl
    have hcz21_12 : wr.cell? ⟨gb105, 12, none⟩ = some (.int .i8 0) := (blk_cell BK105.out 12).trans rfl
    have hcz21_13 : wr.cell? ⟨gb105, 13, none⟩ = some (.int .i8 0) := (blk_cell BK105.out 13).trans rfl
    have hfz21_0 := blk_frozen BK105.out 0
    have hfz21_1 := blk_frozen BK105.out 1
    have hfz21_2 := blk_frozen BK105.out 2
    have hfz21_3 := blk_frozen BK105.out 3
    have hfz21_4 := blk_frozen BK105.out 4
    have hfz21_5 := blk_frozen BK105.out 5
    have hfz21_6 := blk_frozen BK105.out 6
    have hfz21_7 := blk_frozen BK105.out 7
    have hfz21_8 := blk_frozen BK105.out 8
    have hfz21_9 := blk_frozen BK105.out 9
    have hfz21_10 := blk_frozen BK105.out 10
    have hfz21_11 := blk_frozen BK105.out 11
    have hfz21_12 := blk_frozen BK105.out 12
    have hfz21_13 := blk_frozen BK105.out 13
    go_wp2
    refine bodyPost_ret (results_cell_row rfl _ _ gb105 31 #[.int .i8 x107000_1, .int .i8 x107001_1, .int .i8 x107002_1, .int .i8 x107003_1, .int .i8 x107004_1, .int .i8 x107005_1, .int .i8 x107006_1, .int .i8 x107007_1, .int .i8 x107008_1, .int .i8 x107009_1, .int .i8 x107010_1, .int .i8 x107011_1, .int .i8 x107012_1, .int .i8 x107013_1] (0, 0) _ rfl (by (with_reducible repeat (first | refine blk_drewN ?_ _ | refine blk_drew ?_ | refine blk_alloc ?_ _)); refine blk_put (cs := #[.int .i8 x107000_1, .int .i8 x107001_1, .int .i8 x107002_1, .int .i8 x107003_1, .int .i8 x107004_1, .int .i8 x107005_1, .int .i8 x107006_1, .int .i8 x107007_1, .int .i8 x107008_1, .int .i8 x107009_1, .int .i8 x107010_1, .int .i8 x107011_1, .int .i8 x107012_1, .int .i8 0]) ?_ 13 _ rfl; (with_reducible repeat (first | refine blk_drewN ?_ _ | refine blk_drew ?_ | refine blk_alloc ?_ _)); refine blk_put (cs := #[.int .i8 x107000_1, .int .i8 x107001_1, .int .i8 x107002_1, .int .i8 x107003_1, .int .i8 x107004_1, .int .i8 x107005_1, .int .i8 x107006_1, .int .i8 x107007_1, .int .i8 x107008_1, .int .i8 x107009_1, .int .i8 x107010_1, .int .i8 x107011_1, .int .i8 0, .int .i8 0]) ?_ 12 _ rfl; (with_reducible repeat (first | refine blk_drewN ?_ _ | refine blk_drew ?_ | refine blk_alloc ?_ _)); refine blk_put (cs := #[.int .i8 x107000_1, .int .i8 x107001_1, .int .i8 x107002_1, .int .i8 x107003_1, .int .i8 x107004_1, .int .i8 x107005_1, .int .i8 x107006_1, .int .i8 x107007_1, .int .i8 x107008_1, .int .i8 x107009_1, .int .i8 x107010_1, .int .i8 0, .int .i8 0, .int .i8 0]) ?_ 11 _ rfl; (with_reducible repeat (first | refine blk_drewN ?_ _ | refine blk_drew ?_ | refine blk_alloc ?_ _)); refine blk_put (cs := #[.int .i8 x107000_1, .int .i8 x107001_1, .int .i8 x107002_1, .int .i8 x107003_1, .int .i8 x107004_1, .int .i8 x107005_1, .int .i8 x107006_1, .int .i8 x107007_1, .int .i8 x107008_1, .int .i8 x107009_1, .int .i8 0, .int .i8 0, .int .i8 0, .int .i8 0]) ?_ 10 _ rfl; (with_reducible repeat (first | refine blk_drewN ?_ _ | refine blk_drew ?_ | refine blk_alloc ?_ _)); refine blk_put (cs := #[.int .i8 x107000_1, .int .i8 x107001_1, .int .i8 x107002_1, .int .i8 x107003_1, .int .i8 x107004_1, .int .i8 x107005_1, .int .i8 x107006_1, .int .i8 x107007_1, .int .i8 x107008_1, .int .i8 0, .int .i8 0, .int .i8 0, .int .i8 0, .int .i8 0]) ?_ 9 _ rfl; (with_reducible repeat (first | refine blk_drewN ?_ _ | refine blk_drew ?_ | refine blk_alloc ?_ _)); refine blk_put (cs := #[.int .i8 x107000_1, .int .i8 x107001_1, .int .i8 x107002_1, .int .i8 x107003_1, .int .i8 x107004_1, .int .i8 x107005_1, .int .i8 x107006_1, .int .i8 x107007_1, .int .i8 0, .int .i8 0, .int .i8 0, .int .i8 0, .int .i8 0, .int .i8 0]) ?_ 8 _ rfl; (with_reducible repeat (first | refine blk_drewN ?_ _ | refine blk_drew ?_ | refine blk_alloc ?_ _)); refine blk_put (cs := #[.int .i8 x107000_1, .int .i8 x107001_1, .int .i8 x107002_1, .int .i8 x107003_1, .int .i8 x107004_1, .int .i8 x107005_1, .int .i8 x107006_1, .int .i8 0, .int .i8 0, .int .i8 0, .int .i8 0, .int .i8 0, .int .i8 0, .int .i8 0]) ?_ 7 _ rfl; (with_reducible repeat (first | refine blk_drewN ?_ _ | refine blk_drew ?_ | refine blk_alloc ?_ _)); refine blk_put (cs := #[.int .i8 x107000_1, .int .i8 x107001_1, .int .i8 x107002_1, .int .i8 x107003_1, .int .i8 x107004_1, .int .i8 x107005_1, .int .i8 0, .int .i8 0, .int .i8 0, .int .i8 0, .int .i8 0, .int .i8 0, .int .i8 0, .int .i8 0]) ?_ 6 _ rfl; (with_reducible repeat (first | refine blk_drewN ?_ _ | refine blk_drew ?_ | refine blk_alloc ?_ _)); refine blk_put (cs := #[.int .i8 x107000_1, .int .i8 x107001_1, .int .i8 x107002_1, .int .i8 x107003_1, .int .i8 x107004_1, .int .i8 0, .int .i8 0, .int .i8 0, .int .i8 0, .int .i8 0, .int .i8 0, .int .i8 0, .int .i8 0, .int .i8 0]) ?_ 5 _ rfl; (with_reducible repeat (first | refine blk_drewN ?_ _ | refine blk_drew ?_ | refine blk_alloc ?_ _)); refine blk_put (cs := #[.int .i8 x107000_1, .int .i8 x107001_1, .int .i8 x107002_1, .int .i8 x107003_1, .int .i8 0, .int .i8 0, .int .i8 0, .int .i8 0, .int .i8 0, .int .i8 0, .int .i8 0, .int .i8 0, .int .i8 0, .int .i8 0]) ?_ 4 _ rfl; (with_reducible repeat (first | refine blk_drewN ?_ _ | refine blk_drew ?_ | refine blk_alloc ?_ _)); refine blk_put (cs := #[.int .i8 x107000_1, .int .i8 x107001_1, .int .i8 x107002_1, .int .i8 0, .int .i8 0, .int .i8 0, .int .i8 0, .int .i8 0, .int .i8 0, .int .i8 0, .int .i8 0, .int .i8 0, .int .i8 0, .int .i8 0]) ?_ 3 _ rfl; (with_reducible repeat (first | refine blk_drewN ?_ _ | refine blk_drew ?_ | refine blk_alloc ?_ _)); refine blk_put (cs := #[.int .i8 x107000_1, .int .i8 x107001_1, .int .i8 0, .int .i8 0, .int .i8 0, .int .i8 0, .int .i8 0, .int .i8 0, .int .i8 0, .int .i8 0, .int .i8 0, .int .i8 0, .int .i8 0, .int .i8 0]) ?_ 2 _ rfl; (with_reducible repeat (first | refine blk_drewN ?_ _ | refine blk_drew ?_ | refine blk_alloc ?_ _)); refine blk_put (cs := #[.int .i8 x107000_1, .int .i8 0, .int .i8 0, .int .i8 0, .int .i8 0, .int .i8 0, .int .i8 0, .int .i8 0, .int .i8 0, .int .i8 0, .int .i8 0, .int .i8 0, .int .i8 0, .int .i8 0]) ?_ 1 _ rfl; (with_reducible repeat (first | refine blk_drewN ?_ _ | refine blk_drew ?_ | refine blk_alloc ?_ _)); refine blk_put (cs := #[.int .i8 0, .int .i8 0, .int .i8 0, .int .i8 0, .int .i8 0, .int .i8 0, .int .i8 0, .int .i8 0, .int .i8 0, .int .i8 0, .int .i8 0, .int .i8 0, .int .i8 0, .int .i8 0]) ?_ 0 _ rfl; (with_reducible repeat (first | refine blk_drewN ?_ _ | refine blk_drew ?_ | refine blk_alloc ?_ _)); exact BK105.out) Try.underlying31 rfl (by kernel_rfl)) rfl ?_
    exact ⟨by first | rfl | (simp [errW_none, errW_some] <;> rfl) | (simp [*, errW_none, errW_some] <;> rfl), bs_ HB GE105⟩

/-! ### spec_l00In: function 71 -/
def spec_l00In.f (a0 : Int) (a1 : Int) (a2 : Int) : Option (Bool) := if a0 ≥ a1 then (some (decide (a0 ≤ a2))) else (some false)
set_option maxHeartbeats 8000000 in
set_option maxRecDepth 100000 in
theorem spec_l00In.calls (a0 : Int) (a1 : Int) (a2 : Int) (r : Bool) (w : World) (h : spec_l00In.f a0 a1 a2 = some r) :
  Calls Try.prog 71 #[.int .i64 a0, .int .i64 a1, .int .i64 a2] w fun e w' => e = .returned (.bool r) ∧ Drawn0 w w' := by
 have H : (if a0 ≥ a1 then (some (decide (a0 ≤ a2))) else (some false)) = some r := h
 clear h
 by_cases c4 : a0 ≥ a1
 ·rw [if_pos c4] at H
  have c4b0 : decide (a1 ≤ a0) = true := decide_eq_true c4
  clear c4
  obtain rfl := Option.some.inj H
  go_enter Try.func71, Try.ntmps71
  go_wp2
  go_ret
  exact ⟨by first | rfl | (simp; done) | (simp [*]; done), by repeat (first | exact Drawn0.refl _ | apply Drawn0.step)⟩
 ·rw [if_neg c4] at H
  have c4b0 : decide (a1 ≤ a0) = false := decide_eq_false c4
  clear c4
  obtain rfl := Option.some.inj H
  go_enter Try.func71, Try.ntmps71
  go_wp2
  go_ret
  exact ⟨by first | rfl | (simp; done) | (simp [*]; done), by repeat (first | exact Drawn0.refl _ | apply Drawn0.step)⟩

end Go.Proofs.Ytajbeamkjoeifaa.M
