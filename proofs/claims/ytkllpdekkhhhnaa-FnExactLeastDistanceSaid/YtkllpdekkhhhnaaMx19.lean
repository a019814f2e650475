-- By this seat's own program over the kit's printer (arrays, functions told by hand); nothing of it is trusted: the kernel checks it.
import Derived.Test.YtkllpdekkhhhnaaMx0
import Derived.Test.YtkllpdekkhhhnaaMx1
import Derived.Test.YtkllpdekkhhhnaaMx14
import Derived.Test.YtkllpdekkhhhnaaMx16
import Derived.Test.YtkllpdekkhhhnaaMx17
namespace Go.Proofs.Ytkllpdekkhhhnaa.M
open Go.RowKit Go.Proofs.YtkllpdekkhhhnaaW.PrintWords Go.Proofs.YtkllpdekkhhhnaaW.PrintLast Go.Proofs.YtkllpdekkhhhnaaW.PrintMore
attribute [local go_sem] max2_int min2_int max_two min_two max_three min_three max_four min_four   -- for this text's walks alone
set_option linter.unusedVariables false
set_option linter.unusedSimpArgs false

attribute [local go_sem high] eqA30
/-! ### impl_Confused: function 19 -/
mutual
def impl_Confused.l0 : Nat → List (S37) → List (S37) → Int → Int → Int → Int → List (S30) → Option (Int × Bool × Int × Bool × Int)
 | 0, _, _, _, _, _, _, _ => none
 | k + 1, x5, x17, x18, x19, x248000, x248001, x248002 => if x19 < x18 then (if 0 ≤ x19 then (if x19 < (x17.length : Int) then (if x19 ≤ (x5.length : Int) then ((some (x5.take (x19 : Int).toNat : List (S37))).bind fun y256 => (impl_Confused.l1 k x5 x17 x18 x19 y256 (y256.length : Int) 0 x248000 x248001 x248002 ((rd_T37 x17 x19).f0) ((rd_T37 x17 x19).f1))) else (none)) else (none)) else (none)) else (some (0, false, 0, false, 6))
def impl_Confused.l1 : Nat → List (S37) → List (S37) → Int → Int → List (S37) → Int → Int → Int → Int → List (S30) → Int → Bool → Option (Int × Bool × Int × Bool × Int)
 | 0, _, _, _, _, _, _, _, _, _, _, _, _ => none
 | k + 1, x5, x17, x18, x19, x26, x27, x28, x248000, x248001, x248002, x256000, x256001 => if x28 < x27 then (if 0 ≤ x28 then (if x28 < (x26.length : Int) then ((impl_Fixed_seen.f k x248000 x248001 x248002 ((rd_T37 x26 x28).f0) ((rd_T37 x26 x28).f1)).bind fun bt262 => ((impl_Fixed_seen.f k x248000 x248001 x248002 x256000 x256001).bind fun bt266 => (if (bt262.1 == bt266.1 && (bt262.2.1 == bt266.2.1 && (bt262.2.2.1 == bt266.2.2.1 && (bt262.2.2.2 == bt266.2.2.2)))) = true then (some ((rd_T37 x26 x28).f0, (rd_T37 x26 x28).f1, x256000, x256001, 0)) else (impl_Confused.l1 k x5 x17 x18 x19 x26 x27 (wrap64 (x28 + 1)) x248000 x248001 x248002 x256000 x256001)))) else (none)) else (none)) else (impl_Confused.l0 k x5 x17 x18 (wrap64 (x19 + 1)) x248000 x248001 x248002)
end
def impl_Confused.f (k : Nat) (a0_0 : Int) (a0_1 : Int) (l0_2 : List (S30)) : Option (Int × Bool × Int × Bool × Int) := (impl_ValidFixed.f k a0_0 a0_1 l0_2).bind fun t250 => (if t250 = true then ((impl_Fixed_cases.f k a0_0 a0_1 l0_2).bind fun t251 => (impl_Confused.l0 k t251 t251 (t251.length : Int) 0 a0_0 a0_1 l0_2)) else (some (0, false, 0, false, 1)))
theorem impl_Confused.mono_l : ∀ k, (∀ y0 y1 y2 y3 y4 y5 y6, LeO (impl_Confused.l0 k y0 y1 y2 y3 y4 y5 y6) (impl_Confused.l0 (k + 1) y0 y1 y2 y3 y4 y5 y6)) ∧ (∀ y0 y1 y2 y3 y4 y5 y6 y7 y8 y9 y10 y11, LeO (impl_Confused.l1 k y0 y1 y2 y3 y4 y5 y6 y7 y8 y9 y10 y11) (impl_Confused.l1 (k + 1) y0 y1 y2 y3 y4 y5 y6 y7 y8 y9 y10 y11))
 | 0 => ⟨fun _ _ _ _ _ _ _ r h => by simp [impl_Confused.l0] at h, fun _ _ _ _ _ _ _ _ _ _ _ _ r h => by simp [impl_Confused.l1] at h⟩
 | k + 1 => by
  obtain ⟨ih0, ih1⟩ := impl_Confused.mono_l k
  refine ⟨?_, ?_⟩
  ·intro y0 y1 y2 y3 y4 y5 y6
   unfold impl_Confused.l0
   repeat' first
   | (with_reducible exact ih0 _ _ _ _ _ _ _)
   | (with_reducible exact ih1 _ _ _ _ _ _ _ _ _ _ _ _)
   | (with_reducible exact impl_Fixed_cases.mono _ _ _ _)
   | (with_reducible exact impl_Fixed_seen.mono _ _ _ _ _ _)
   | (with_reducible exact impl_ValidFixed.mono _ _ _ _)
   | (with_reducible exact LeO.refl _)
   | (with_reducible exact LeO.none _)
   | (with_reducible refine LeO.ite ?_ ?_)
   | (with_reducible refine LeO.bind ?_ (fun _ => ?_))
   | exact ih0 _ _ _ _ _ _ _
   | exact ih1 _ _ _ _ _ _ _ _ _ _ _ _
   | exact impl_Fixed_cases.mono _ _ _ _
   | exact impl_Fixed_seen.mono _ _ _ _ _ _
   | exact impl_ValidFixed.mono _ _ _ _
   | exact LeO.none _
   | refine LeO.ite ?_ ?_
   | refine LeO.bind ?_ (fun _ => ?_)
  ·intro y0 y1 y2 y3 y4 y5 y6 y7 y8 y9 y10 y11
   unfold impl_Confused.l1
   repeat' first
   | (with_reducible exact ih0 _ _ _ _ _ _ _)
   | (with_reducible exact ih1 _ _ _ _ _ _ _ _ _ _ _ _)
   | (with_reducible exact impl_Fixed_cases.mono _ _ _ _)
   | (with_reducible exact impl_Fixed_seen.mono _ _ _ _ _ _)
   | (with_reducible exact impl_ValidFixed.mono _ _ _ _)
   | (with_reducible exact LeO.refl _)
   | (with_reducible exact LeO.none _)
   | (with_reducible refine LeO.ite ?_ ?_)
   | (with_reducible refine LeO.bind ?_ (fun _ => ?_))
   | exact ih0 _ _ _ _ _ _ _
   | exact ih1 _ _ _ _ _ _ _ _ _ _ _ _
   | exact impl_Fixed_cases.mono _ _ _ _
   | exact impl_Fixed_seen.mono _ _ _ _ _ _
   | exact impl_ValidFixed.mono _ _ _ _
   | exact LeO.none _
   | refine LeO.ite ?_ ?_
   | refine LeO.bind ?_ (fun _ => ?_)
theorem impl_Confused.mono : ∀ a0 a1 a2 k, LeO (impl_Confused.f k a0 a1 a2) (impl_Confused.f (k + 1) a0 a1 a2) := by
 intro a0 a1 a2 k
 obtain ⟨ih0, ih1⟩ := impl_Confused.mono_l k
 unfold impl_Confused.f
 repeat' first
   | (with_reducible exact ih0 _ _ _ _ _ _ _)
   | (with_reducible exact ih1 _ _ _ _ _ _ _ _ _ _ _ _)
   | (with_reducible exact impl_Fixed_cases.mono _ _ _ _)
   | (with_reducible exact impl_Fixed_seen.mono _ _ _ _ _ _)
   | (with_reducible exact impl_ValidFixed.mono _ _ _ _)
   | (with_reducible exact LeO.refl _)
   | (with_reducible exact LeO.none _)
   | (with_reducible refine LeO.ite ?_ ?_)
   | (with_reducible refine LeO.bind ?_ (fun _ => ?_))
   | exact ih0 _ _ _ _ _ _ _
   | exact ih1 _ _ _ _ _ _ _ _ _ _ _ _
   | exact impl_Fixed_cases.mono _ _ _ _
   | exact impl_Fixed_seen.mono _ _ _ _ _ _
   | exact impl_ValidFixed.mono _ _ _ _
   | exact LeO.none _
   | refine LeO.ite ?_ ?_
   | refine LeO.bind ?_ (fun _ => ?_)
set_option maxHeartbeats 8000000 in
set_option maxRecDepth 100000 in
theorem impl_Confused.calls (k : Nat) (a0_0 : Int) (a0_1 : Int) (A0_2 : Option Addr) (c0_2 : Nat) (l0_2 : List (S30)) (r1 : Int) (r2 : Bool) (r3 : Int) (r4 : Bool) (r5 : Int) (w : World) (hr0_2 : Kd.C k30 w A0_2 l0_2.length l0_2) (hc0_2 : l0_2.length ≤ c0_2) (h : impl_Confused.f k a0_0 a0_1 l0_2 = some (r1, r2, r3, r4, r5)) :
  Calls Try.prog 19 #[.agg #[.int .i8 a0_0, .int .i8 a0_1, .slice A0_2 l0_2.length c0_2]] w fun e w' => e = .returned (.tuple #[.agg #[.int .i8 r1, .bool r2], .agg #[.int .i8 r3, .bool r4], .int .i64 r5]) ∧ Below w.heap.size w w' := by
 have hu35 := Try.underlying35
 have hu37 := Try.underlying37
 have HR0_2 := Aside0.mk hr0_2
 have HC0_2 := Aside0.mk hc0_2
 clear hr0_2 hc0_2
 have HB := Aside0.mk (Below.refl w.heap.size w)
 have H : ((impl_ValidFixed.f k a0_0 a0_1 l0_2).bind fun t250 => (if t250 = true then ((impl_Fixed_cases.f k a0_0 a0_1 l0_2).bind fun t251 => (impl_Confused.l0 k t251 t251 (t251.length : Int) 0 a0_0 a0_1 l0_2)) else (some (0, false, 0, false, 1)))) = some (r1, r2, r3, r4, r5) := h
 clear h
 replace H := Option.bind_eq_some_iff.mp H
 obtain ⟨t250, A20, H⟩ := H
 replace H : (if t250 = true then ((impl_Fixed_cases.f k a0_0 a0_1 l0_2).bind fun t251 => (impl_Confused.l0 k t251 t251 (t251.length : Int) 0 a0_0 a0_1 l0_2)) else (some (0, false, 0, false, 1))) = some (r1, r2, r3, r4, r5) := H
 have A2 := Aside0.mk A20
 clear A20
 by_cases c3 : t250 = true
 ·subst c3
  have H1 : ((impl_Fixed_cases.f k a0_0 a0_1 l0_2).bind fun t251 => (impl_Confused.l0 k t251 t251 (t251.length : Int) 0 a0_0 a0_1 l0_2)) = some (r1, r2, r3, r4, r5) := by rw [if_pos rfl] at H; exact H
  clear H
  have H := H1
  clear H1
  replace H := Option.bind_eq_some_iff.mp H
  obtain ⟨t251, A40, H⟩ := H
  replace H : (impl_Confused.l0 k t251 t251 (t251.length : Int) 0 a0_0 a0_1 l0_2) = some (r1, r2, r3, r4, r5) := H
  have A4 := Aside0.mk A40
  clear A40
  have H' := Aside0.mk H
  clear H
  go_enter Try.func19, Try.ntmps19
  go_wp2_with (first | ((with_reducible refine gate_dst (N := 1) rfl ?_); refine box_event ?hg (N := 1) ?hd (cs := #[.int .i8 a0_0, .int .i8 a0_1, .slice A0_2 l0_2.length c0_2]) (t := 35) ?hr ?_; (case hd => rfl); (case hg => rfl); (case hr => first | (go_simp; done) | (go_simp; rfl)); intro gb247 hg w5 hbox hb; have n0_ := Aside0.mk (below_step (bl_ HB) hb); have n1_ := Aside0.mk (hbox); have n2_ := Aside0.mk ((by rw [hg]; exact (below_size (bl_ HB)) : w.heap.size ≤ gb247)); have n3_ := Aside0.mk ((by rw [hg]; exact (below_size (bl_ HB)) : w.heap.size ≤ gb247)); clear HB; have HB := n0_; have BK247 := n1_; have GW247 := n2_; have GE247 := n3_; clear n0_ n1_ n2_ n3_; clear hb hbox hg) | ((with_reducible refine gate_dst (N := 2) rfl ?_); refine box_event ?hg (N := 2) ?hd (cs := #[.int .i8 0, .bool false]) (t := 37) ?hr ?_; (case hd => rfl); (case hg => rfl); (case hr => first | (go_simp; done) | (go_simp; rfl)); intro gb248 hg w6 hbox hb; have n0_ := Aside0.mk (blk_below (g := gb247) (o := .cells #[.int .i8 a0_0, .int .i8 a0_1, .slice A0_2 l0_2.length c0_2] 35 (0, 0)) (pl_ BK247) hb); have n1_ := Aside0.mk (below_step (by repeat (first | (with_reducible first | exact HB.out | apply below_alloc | apply pw_below_drewN | apply below_drew1 | refine below_set ?_ GE247.out) | exact HB.out)) hb); have n2_ := Aside0.mk (hbox); have n3_ := Aside0.mk ((by rw [hg]; exact (below_size (by repeat (first | (with_reducible first | exact HB.out | apply below_alloc | apply pw_below_drewN | apply below_drew1 | refine below_set ?_ GE247.out) | exact HB.out))) : w.heap.size ≤ gb248)); have n4_ := Aside0.mk ((by rw [hg]; exact (below_size (by repeat (first | (with_reducible first | exact HB.out | apply below_alloc | apply pw_below_drewN | apply below_drew1 | refine below_set ?_ GE247.out) | exact HB.out))) : w.heap.size ≤ gb248)); have n5_ := Aside0.mk ((by rw [hg]; exact Nat.ne_of_lt (blk_lt (g := gb247) (o := .cells #[.int .i8 a0_0, .int .i8 a0_1, .slice A0_2 l0_2.length c0_2] 35 (0, 0)) (pl_ BK247)) : gb247 ≠ gb248)); have n6_ := Aside0.mk ((by rw [hg]; exact Nat.ne_of_gt (blk_lt (g := gb247) (o := .cells #[.int .i8 a0_0, .int .i8 a0_1, .slice A0_2 l0_2.length c0_2] 35 (0, 0)) (pl_ BK247)) : gb248 ≠ gb247)); clear BK247; clear HB; have BK247 := n0_; have HB := n1_; have BK248 := n2_; have GW248 := n3_; have GE248 := n4_; have NB247_248 := n5_; have NB248_247 := n6_; clear n0_ n1_ n2_ n3_ n4_ n5_ n6_; clear hb hbox hg) | ((with_reducible refine gate_dst (N := 3) rfl ?_); refine box_event ?hg (N := 3) ?hd (cs := #[.int .i8 0, .bool false]) (t := 37) ?hr ?_; (case hd => rfl); (case hg => rfl); (case hr => first | (go_simp; done) | (go_simp; rfl)); intro gb249 hg w7 hbox hb; have n0_ := Aside0.mk (blk_below (g := gb247) (o := .cells #[.int .i8 a0_0, .int .i8 a0_1, .slice A0_2 l0_2.length c0_2] 35 (0, 0)) (pl_ BK247) hb); have n1_ := Aside0.mk (blk_below (g := gb248) (o := .cells #[.int .i8 0, .bool false] 37 (0, 0)) (pl_ BK248) hb); have n2_ := Aside0.mk (below_step (by repeat (first | (with_reducible first | exact HB.out | apply below_alloc | apply pw_below_drewN | apply below_drew1 | refine below_set ?_ GE247.out | refine below_set ?_ GE248.out) | exact HB.out)) hb); have n3_ := Aside0.mk (hbox); have n4_ := Aside0.mk ((by rw [hg]; exact (below_size (by repeat (first | (with_reducible first | exact HB.out | apply below_alloc | apply pw_below_drewN | apply below_drew1 | refine below_set ?_ GE247.out | refine below_set ?_ GE248.out) | exact HB.out))) : w.heap.size ≤ gb249)); have n5_ := Aside0.mk ((by rw [hg]; exact (below_size (by repeat (first | (with_reducible first | exact HB.out | apply below_alloc | apply pw_below_drewN | apply below_drew1 | refine below_set ?_ GE247.out | refine below_set ?_ GE248.out) | exact HB.out))) : w.heap.size ≤ gb249)); have n6_ := Aside0.mk ((by rw [hg]; exact Nat.ne_of_lt (blk_lt (g := gb247) (o := .cells #[.int .i8 a0_0, .int .i8 a0_1, .slice A0_2 l0_2.length c0_2] 35 (0, 0)) (pl_ BK247)) : gb247 ≠ gb249)); have n7_ := Aside0.mk ((by rw [hg]; exact Nat.ne_of_gt (blk_lt (g := gb247) (o := .cells #[.int .i8 a0_0, .int .i8 a0_1, .slice A0_2 l0_2.length c0_2] 35 (0, 0)) (pl_ BK247)) : gb249 ≠ gb247)); have n8_ := Aside0.mk ((by rw [hg]; exact Nat.ne_of_lt (blk_lt (g := gb248) (o := .cells #[.int .i8 0, .bool false] 37 (0, 0)) (pl_ BK248)) : gb248 ≠ gb249)); have n9_ := Aside0.mk ((by rw [hg]; exact Nat.ne_of_gt (blk_lt (g := gb248) (o := .cells #[.int .i8 0, .bool false] 37 (0, 0)) (pl_ BK248)) : gb249 ≠ gb248)); clear BK247; clear BK248; clear HB; have BK247 := n0_; have BK248 := n1_; have HB := n2_; have BK249 := n3_; have GW249 := n4_; have GE249 := n5_; have NB247_249 := n6_; have NB249_247 := n7_; have NB248_249 := n8_; have NB249_248 := n9_; clear n0_ n1_ n2_ n3_ n4_ n5_ n6_ n7_ n8_ n9_; clear hb hbox hg; have hnb8 := NB247_248.out; have hnc8 := NB248_247.out; have hnb9 := NB247_249.out; have hnc9 := NB249_247.out; have hcz10_0 : w7.cell? ⟨gb247, 0, none⟩ = some (.int .i8 a0_0) := (blk_cell BK247.out 0).trans rfl; have hcz10_1 : w7.cell? ⟨gb247, 1, none⟩ = some (.int .i8 a0_1) := (blk_cell BK247.out 1).trans rfl; have hcz10_2 : w7.cell? ⟨gb247, 2, none⟩ = some (.slice A0_2 l0_2.length c0_2) := (blk_cell BK247.out 2).trans rfl; have hfz10_0 := blk_frozen BK247.out 0; have hfz10_1 := blk_frozen BK247.out 1; have hfz10_2 := blk_frozen BK247.out 2) | ((with_reducible refine gate_callee (f := 33) rfl ?_); refine goesL_ (some 11) rfl rfl Try.func33 (by kernel_rfl) rfl #[.agg #[.int .i8 a0_0, .int .i8 a0_1, .slice A0_2 l0_2.length c0_2]] rfl (by (try simp only [List.map_toArray, List.map_cons, List.map_nil]); first | done | rfl | (simp only [List.length_drop, List.length_take]; rfl)) ?_; (with_reducible refine (impl_ValidFixed.calls k a0_0 a0_1 _ _ l0_2 true _ ?side1 ?side2 A2.out).mono ?_); (case side1 => repeat (first | exact (Kd.C_below HR0_2.out HB.out) | (with_reducible refine Kd.C_alloc ?_ _) | (with_reducible refine Kd.C_drewN ?_ _) | (with_reducible refine Kd.C_drew ?_))); (case side2 => exact HC0_2.out); rintro e w11 ⟨rfl, hb⟩; refine ⟨_, rfl, ?_⟩; have n0_ := Aside0.mk (blk_below (g := gb247) (o := .cells #[.int .i8 a0_0, .int .i8 a0_1, .slice A0_2 l0_2.length c0_2] 35 (0, 0)) (pl_ BK247) hb); have n1_ := Aside0.mk (blk_below (g := gb248) (o := .cells #[.int .i8 0, .bool false] 37 (0, 0)) (pl_ BK248) hb); have n2_ := Aside0.mk (blk_below (g := gb249) (o := .cells #[.int .i8 0, .bool false] 37 (0, 0)) (pl_ BK249) hb); have n3_ := Aside0.mk (below_step (by repeat (first | (with_reducible first | exact HB.out | apply below_alloc | apply pw_below_drewN | apply below_drew1 | refine below_set ?_ GE247.out | refine below_set ?_ GE248.out | refine below_set ?_ GE249.out) | exact HB.out)) hb); clear BK247; clear BK248; clear BK249; clear HB; have BK247 := n0_; have BK248 := n1_; have BK249 := n2_; have HB := n3_; clear n0_ n1_ n2_ n3_; (try clear hb); (try clear hb2); (try clear hk); (try clear hi); have hcz12_0 : w11.cell? ⟨gb247, 0, none⟩ = some (.int .i8 a0_0) := (blk_cell BK247.out 0).trans rfl; have hcz12_1 : w11.cell? ⟨gb247, 1, none⟩ = some (.int .i8 a0_1) := (blk_cell BK247.out 1).trans rfl; have hcz12_2 : w11.cell? ⟨gb247, 2, none⟩ = some (.slice A0_2 l0_2.length c0_2) := (blk_cell BK247.out 2).trans rfl; have hfz12_0 := blk_frozen BK247.out 0; have hfz12_1 := blk_frozen BK247.out 1; have hfz12_2 := blk_frozen BK247.out 2) | ((with_reducible refine gate_callee (f := 35) rfl ?_); refine goesL_ (some 16) rfl rfl Try.func35 (by kernel_rfl) rfl #[.agg #[.int .i8 a0_0, .int .i8 a0_1, .slice A0_2 l0_2.length c0_2]] rfl (by (try simp only [List.map_toArray, List.map_cons, List.map_nil]); first | done | rfl | (simp only [List.length_drop, List.length_take]; rfl)) ?_; (with_reducible refine (impl_Fixed_cases.calls k a0_0 a0_1 _ _ l0_2 t251 _ ?side1 ?side2 A4.out).mono ?_); (case side1 => repeat (first | exact (Kd.C_below HR0_2.out HB.out) | (with_reducible refine Kd.C_alloc ?_ _) | (with_reducible refine Kd.C_drewN ?_ _) | (with_reducible refine Kd.C_drew ?_))); (case side2 => exact HC0_2.out); rintro e w13 ⟨v252, rfl, ho0, hb⟩; refine ⟨_, rfl, ?_⟩; have n0_ := Aside0.mk (Kd.R_lower (Kd.R_newB (Kd.R_newB ho0 (g := gb248) (o := .cells #[.int .i8 0, .bool false] 37 (0, 0)) (pl_ BK248)) (g := gb249) (o := .cells #[.int .i8 0, .bool false] 37 (0, 0)) (pl_ BK249)) (below_size (by repeat (first | (with_reducible first | exact HB.out | apply below_alloc | apply pw_below_drewN | apply below_drew1 | refine below_set ?_ GE247.out | refine below_set ?_ GE248.out | refine below_set ?_ GE249.out) | exact HB.out)))); have n1_ := Aside0.mk (blk_below (g := gb247) (o := .cells #[.int .i8 a0_0, .int .i8 a0_1, .slice A0_2 l0_2.length c0_2] 35 (0, 0)) (pl_ BK247) hb); have n2_ := Aside0.mk (blk_below (g := gb248) (o := .cells #[.int .i8 0, .bool false] 37 (0, 0)) (pl_ BK248) hb); have n3_ := Aside0.mk (blk_below (g := gb249) (o := .cells #[.int .i8 0, .bool false] 37 (0, 0)) (pl_ BK249) hb); have n4_ := Aside0.mk (below_step (by repeat (first | (with_reducible first | exact HB.out | apply below_alloc | apply pw_below_drewN | apply below_drew1 | refine below_set ?_ GE247.out | refine below_set ?_ GE248.out | refine below_set ?_ GE249.out) | exact HB.out)) hb); clear BK247; clear BK248; clear BK249; clear HB; have HO253 := n0_; have BK247 := n1_; have BK248 := n2_; have BK249 := n3_; have HB := n4_; clear n0_ n1_ n2_ n3_ n4_; (try clear hb); (try clear hb2); (try clear hk); (try clear hi); (try clear ho0); obtain ⟨Ao14, co14, eo14⟩ := Kd.R_slice HO253.out; subst eo14))
  go_loopg [19] k (fun kq v19 w' => ∃ (x19_1 : Int) (x249000_1 : Int) (x249001_1 : Bool) (x250000_1 : Int) (x250001_1 : Bool), v19 = .int .i64 x19_1 ∧ Aside0 (impl_Confused.l0 kq t251 t251 (t251.length : Int) x19_1 a0_0 a0_1 l0_2 = some (r1, r2, r3, r4, r5)) ∧ Aside0 (kq ≤ k) ∧ Aside0 (Kd.R k37 37 w' w.heap.size (fun k_ => k_ ≠ gb248 ∧ k_ ≠ gb249) (.slice Ao14 t251.length co14) t251) ∧ Aside0 (Kd.R k37 37 w' w.heap.size (fun k_ => k_ ≠ gb248 ∧ k_ ≠ gb249) (.slice Ao14 t251.length co14) t251) ∧ Aside0 (w'.heap[gb247]? = some (.cells #[.int .i8 a0_0, .int .i8 a0_1, (.slice A0_2 l0_2.length c0_2)] 35 (0, 0))) ∧ Aside0 (w'.heap[gb248]? = some (.cells #[.int .i8 x249000_1, .bool x249001_1] 37 (0, 0))) ∧ Aside0 (w'.heap[gb249]? = some (.cells #[.int .i8 x250000_1, .bool x250001_1] 37 (0, 0))) ∧ Aside0 (Below w.heap.size w w'))
  case atStart => exact ⟨(0), (0), (false), (0), (false), (by first | rfl | (simp; done) | (simp [*]; done)), H', ⟨Nat.le_refl _⟩, ⟨by (with_reducible repeat (first | apply Kd.R_alloc | apply Kd.R_drewN | apply Kd.R_drew)); exact Kd.R_mono HO253.out (fun _ hk => ⟨hk.1.2, hk.2⟩)⟩, ⟨by (with_reducible repeat (first | apply Kd.R_alloc | apply Kd.R_drewN | apply Kd.R_drew)); exact Kd.R_mono HO253.out (fun _ hk => ⟨hk.1.2, hk.2⟩)⟩, ⟨pl_ BK247⟩, ⟨pl_ BK248⟩, ⟨pl_ BK249⟩, ⟨by repeat (first | (with_reducible first | exact HB.out | apply below_alloc | apply pw_below_drewN | apply below_drew1 | refine below_set ?_ GE247.out | refine below_set ?_ GE248.out | refine below_set ?_ GE249.out) | exact HB.out)⟩⟩
  case round =>
   clear H'
   try clear c1
   try clear p2
   try clear c3
   try clear c8
   try clear c9
   try clear hcz10_0
   try clear hcz10_1
   try clear hcz10_2
   try clear hcz12_0
   try clear hcz12_1
   try clear hcz12_2
   try clear hfz10_0
   try clear hfz10_1
   try clear hfz10_2
   try clear hfz12_0
   try clear hfz12_1
   try clear hfz12_2
   obtain ⟨x19_1, x249000_1, x249001_1, x250000_1, x250001_1, rfl, HA, HK1, HO_5, HO_17, BK247, BK248, BK249, HB⟩ := hrel
   cases gk with
   | zero => exact absurd HA.out (by simp [impl_Confused.l0])
   | succ k1 =>
    have H := HA.out
    clear HA
    simp only [impl_Confused.l0] at H
    by_cases c15 : x19_1 < (t251.length : Int)
    ·rw [if_pos c15] at H
     have c15b0 : decide (x19_1 < (t251.length : Int)) = true := decide_eq_true c15
     clear c15
     by_cases c16 : 0 ≤ x19_1
     ·rw [if_pos c16] at H
      have c16b0 : decide (0 ≤ x19_1) = true := decide_eq_true c16
      clear c16
      by_cases c17 : x19_1 < (t251.length : Int)
      ·rw [if_pos c17] at H
       have c17b0 : decide (x19_1 < (t251.length : Int)) = true := decide_eq_true c17
       clear c17
       have c18b0 := eq_true (asm_ : 0 ≤ x19_1)
       by_cases c19 : x19_1 ≤ (t251.length : Int)
       ·rw [if_pos c19] at H
        have c19b0 := eq_true c19
        have c19b1 : decide (x19_1 ≤ (t251.length : Int)) = true := decide_eq_true c19
        clear c19
        obtain ⟨y256, hy256⟩ : ∃ y_ : List (S37), y_ = (t251.take (x19_1 : Int).toNat) := ⟨_, rfl⟩
        replace H : (impl_Confused.l1 k1 t251 t251 (t251.length : Int) x19_1 y256 (y256.length : Int) 0 a0_0 a0_1 l0_2 ((rd_T37 t251 x19_1).f0) ((rd_T37 t251 x19_1).f1)) = some (r1, r2, r3, r4, r5) := by first | (rw [hy256]; with_reducible exact H) | (have H2_ := (Option.bind_some _ _).symm.trans H; rw [hy256]; with_reducible exact H2_) | (have H2_ := (Option.bind_some _ _).symm.trans H; with_reducible exact H2_) | with_reducible exact H | (rw [hy256]; exact H) | exact H
        have Ny256 := Aside0.mk hy256
        clear hy256
        have H' := Aside0.mk H
        clear H
        have p254 : 0 ≤ (x19_1 : Int) := asm_
        have q254 : x19_1 < (t251.length : Int) := asm_
        obtain ⟨ad254, e254, hx254_0, hx254_1⟩ := at_T37 (Kd.R_reads' HO_17.out).2.2 x19_1 p254 q254
        cases e254
        replace p254 := eq_true p254
        replace q254 := eq_true q254
        go_wp2_with (first | ((with_reducible refine gate_dst (N := 7) rfl ?_); refine box_event ?hg (N := 7) ?hd (cs := #[.int .i8 0, .bool false]) (t := 37) ?hr ?_; (case hd => rfl); (case hg => rfl); (case hr => first | (go_simp; done) | (go_simp; rfl)); intro gb255 hg w20 hbox hb; have n0_ := Aside0.mk (Kd.R_below (Kd.R_elderB (pr_ HO_5) gb255 (Nat.le_of_eq hg.symm)) hb); have n1_ := Aside0.mk (Kd.R_below (Kd.R_elderB (pr_ HO_17) gb255 (Nat.le_of_eq hg.symm)) hb); have n2_ := Aside0.mk (blk_below (g := gb247) (o := .cells #[.int .i8 a0_0, .int .i8 a0_1, .slice A0_2 l0_2.length c0_2] 35 (0, 0)) (pl_ BK247) hb); have n3_ := Aside0.mk (blk_below (g := gb248) (o := .cells #[.int .i8 x249000_1, .bool x249001_1] 37 (0, 0)) (pl_ BK248) hb); have n4_ := Aside0.mk (blk_below (g := gb249) (o := .cells #[.int .i8 x250000_1, .bool x250001_1] 37 (0, 0)) (pl_ BK249) hb); have n5_ := Aside0.mk (below_step (by repeat (first | (with_reducible first | exact HB.out | apply below_alloc | apply pw_below_drewN | apply below_drew1 | refine below_set ?_ GE247.out | refine below_set ?_ GE248.out | refine below_set ?_ GE249.out) | exact HB.out)) hb); have n6_ := Aside0.mk (hbox); have n7_ := Aside0.mk ((by rw [hg]; exact (below_size (by repeat (first | (with_reducible first | exact HB.out | apply below_alloc | apply pw_below_drewN | apply below_drew1 | refine below_set ?_ GE247.out | refine below_set ?_ GE248.out | refine below_set ?_ GE249.out) | exact HB.out))) : w.heap.size ≤ gb255)); have n8_ := Aside0.mk ((by rw [hg]; exact (below_size (by repeat (first | (with_reducible first | exact HB.out | apply below_alloc | apply pw_below_drewN | apply below_drew1 | refine below_set ?_ GE247.out | refine below_set ?_ GE248.out | refine below_set ?_ GE249.out) | exact HB.out))) : w.heap.size ≤ gb255)); have n9_ := Aside0.mk ((by rw [hg]; exact Nat.ne_of_lt (blk_lt (g := gb247) (o := .cells #[.int .i8 a0_0, .int .i8 a0_1, .slice A0_2 l0_2.length c0_2] 35 (0, 0)) (pl_ BK247)) : gb247 ≠ gb255)); have n10_ := Aside0.mk ((by rw [hg]; exact Nat.ne_of_gt (blk_lt (g := gb247) (o := .cells #[.int .i8 a0_0, .int .i8 a0_1, .slice A0_2 l0_2.length c0_2] 35 (0, 0)) (pl_ BK247)) : gb255 ≠ gb247)); have n11_ := Aside0.mk ((by rw [hg]; exact Nat.ne_of_lt (blk_lt (g := gb248) (o := .cells #[.int .i8 x249000_1, .bool x249001_1] 37 (0, 0)) (pl_ BK248)) : gb248 ≠ gb255)); have n12_ := Aside0.mk ((by rw [hg]; exact Nat.ne_of_gt (blk_lt (g := gb248) (o := .cells #[.int .i8 x249000_1, .bool x249001_1] 37 (0, 0)) (pl_ BK248)) : gb255 ≠ gb248)); have n13_ := Aside0.mk ((by rw [hg]; exact Nat.ne_of_lt (blk_lt (g := gb249) (o := .cells #[.int .i8 x250000_1, .bool x250001_1] 37 (0, 0)) (pl_ BK249)) : gb249 ≠ gb255)); have n14_ := Aside0.mk ((by rw [hg]; exact Nat.ne_of_gt (blk_lt (g := gb249) (o := .cells #[.int .i8 x250000_1, .bool x250001_1] 37 (0, 0)) (pl_ BK249)) : gb255 ≠ gb249)); clear HO_5; clear HO_17; clear BK247; clear BK248; clear BK249; clear HB; have HO_5 := n0_; have HO_17 := n1_; have BK247 := n2_; have BK248 := n3_; have BK249 := n4_; have HB := n5_; have BK255 := n6_; have GW255 := n7_; have GE255 := n8_; have NB247_255 := n9_; have NB255_247 := n10_; have NB248_255 := n11_; have NB255_248 := n12_; have NB249_255 := n13_; have NB255_249 := n14_; clear n0_ n1_ n2_ n3_ n4_ n5_ n6_ n7_ n8_ n9_ n10_ n11_ n12_ n13_ n14_; clear hb hbox hg; have hnb21 := NB255_247.out; have hnc21 := NB247_255.out; have hnb22 := NB255_248.out; have hnc22 := NB248_255.out; have hnb23 := NB255_249.out; have hnc23 := NB249_255.out; have hcz24_0 : w20.cell? ⟨gb255, 0, none⟩ = some (.int .i8 0) := (blk_cell BK255.out 0).trans rfl; have hcz24_1 : w20.cell? ⟨gb255, 1, none⟩ = some (.bool false) := (blk_cell BK255.out 1).trans rfl; have hfz24_0 := blk_frozen BK255.out 0; have hfz24_1 := blk_frozen BK255.out 1) | ((with_reducible refine gate_store (t := 37) (p := 7) rfl ?_); refine store_event (t := 37) (p := 7) (v := ?vo_w25) (w1 := ((w20.setCell ⟨gb255, 0, none⟩ (.int .i8 ((rd_T37 t251 x19_1).f0))).setCell ⟨gb255, 1, none⟩ (.bool ((rd_T37 t251 x19_1).f1)))) ?hg ?ho ?hn ?hr ?_; (case ho => rfl); (case hg => rfl); (case hn => rfl); (case hr => first | (go_simp; done) | (go_simp; rfl)); intro w25 hw; have n0_ : Aside0 (Kd.R k37 37 w25 w.heap.size (fun k_ => k_ ≠ gb248 ∧ k_ ≠ gb249 ∧ k_ ≠ gb255) (.slice (some ad254) t251.length co14) t251) := ⟨(by rw [hw]; exact (by (with_reducible repeat (first | apply Kd.R_alloc | apply Kd.R_drewN | apply Kd.R_drew)); exact Kd.R_mono (Kd.R_far (p := ⟨gb255, 1, none⟩) (Kd.R_far (p := ⟨gb255, 0, none⟩) (Kd.R_mono HO_5.out (fun k_ hk => (⟨hk, hk.2⟩ : _ ∧ k_ ≠ gb255))) (fun _ hk => hk.2) (.int .i8 ((rd_T37 t251 x19_1).f0))) (fun _ hk => hk.2) (.bool ((rd_T37 t251 x19_1).f1))) (fun _ hk => ⟨hk.1.1.1, ⟨hk.1.1.2, hk.1.2⟩⟩)))⟩; have n1_ : Aside0 (Kd.R k37 37 w25 w.heap.size (fun k_ => k_ ≠ gb248 ∧ k_ ≠ gb249 ∧ k_ ≠ gb255) (.slice (some ad254) t251.length co14) t251) := ⟨(by rw [hw]; exact (by (with_reducible repeat (first | apply Kd.R_alloc | apply Kd.R_drewN | apply Kd.R_drew)); exact Kd.R_mono (Kd.R_far (p := ⟨gb255, 1, none⟩) (Kd.R_far (p := ⟨gb255, 0, none⟩) (Kd.R_mono HO_17.out (fun k_ hk => (⟨hk, hk.2⟩ : _ ∧ k_ ≠ gb255))) (fun _ hk => hk.2) (.int .i8 ((rd_T37 t251 x19_1).f0))) (fun _ hk => hk.2) (.bool ((rd_T37 t251 x19_1).f1))) (fun _ hk => ⟨hk.1.1.1, ⟨hk.1.1.2, hk.1.2⟩⟩)))⟩; have n2_ : Aside0 (w25.heap[gb247]? = some (.cells #[.int .i8 a0_0, .int .i8 a0_1, .slice A0_2 l0_2.length c0_2] 35 (0, 0))) := ⟨(by rw [hw]; exact (by (with_reducible repeat (first | refine blk_drewN ?_ _ | refine blk_drew ?_ | refine blk_alloc ?_ _)); refine blk_far ?_ NB247_255.out _; (with_reducible repeat (first | refine blk_drewN ?_ _ | refine blk_drew ?_ | refine blk_alloc ?_ _)); refine blk_far ?_ NB247_255.out _; (with_reducible repeat (first | refine blk_drewN ?_ _ | refine blk_drew ?_ | refine blk_alloc ?_ _)); exact BK247.out))⟩; have n3_ : Aside0 (w25.heap[gb248]? = some (.cells #[.int .i8 x249000_1, .bool x249001_1] 37 (0, 0))) := ⟨(by rw [hw]; exact (by (with_reducible repeat (first | refine blk_drewN ?_ _ | refine blk_drew ?_ | refine blk_alloc ?_ _)); refine blk_far ?_ NB248_255.out _; (with_reducible repeat (first | refine blk_drewN ?_ _ | refine blk_drew ?_ | refine blk_alloc ?_ _)); refine blk_far ?_ NB248_255.out _; (with_reducible repeat (first | refine blk_drewN ?_ _ | refine blk_drew ?_ | refine blk_alloc ?_ _)); exact BK248.out))⟩; have n4_ : Aside0 (w25.heap[gb249]? = some (.cells #[.int .i8 x250000_1, .bool x250001_1] 37 (0, 0))) := ⟨(by rw [hw]; exact (by (with_reducible repeat (first | refine blk_drewN ?_ _ | refine blk_drew ?_ | refine blk_alloc ?_ _)); refine blk_far ?_ NB249_255.out _; (with_reducible repeat (first | refine blk_drewN ?_ _ | refine blk_drew ?_ | refine blk_alloc ?_ _)); refine blk_far ?_ NB249_255.out _; (with_reducible repeat (first | refine blk_drewN ?_ _ | refine blk_drew ?_ | refine blk_alloc ?_ _)); exact BK249.out))⟩; have n5_ : Aside0 (w25.heap[gb255]? = some (.cells #[.int .i8 ((rd_T37 t251 x19_1).f0), .bool ((rd_T37 t251 x19_1).f1)] 37 (0, 0))) := ⟨(by rw [hw]; exact (by (with_reducible repeat (first | refine blk_drewN ?_ _ | refine blk_drew ?_ | refine blk_alloc ?_ _)); refine blk_put (cs := #[.int .i8 ((rd_T37 t251 x19_1).f0), .bool false]) ?_ 1 _ rfl; (with_reducible repeat (first | refine blk_drewN ?_ _ | refine blk_drew ?_ | refine blk_alloc ?_ _)); refine blk_put (cs := #[.int .i8 0, .bool false]) ?_ 0 _ rfl; (with_reducible repeat (first | refine blk_drewN ?_ _ | refine blk_drew ?_ | refine blk_alloc ?_ _)); exact BK255.out))⟩; have n6_ : Aside0 (Below w.heap.size w w25) := ⟨(by rw [hw]; exact (by repeat (first | (with_reducible first | exact HB.out | apply below_alloc | apply pw_below_drewN | apply below_drew1 | refine below_set ?_ GE247.out | refine below_set ?_ GE248.out | refine below_set ?_ GE249.out | refine below_set ?_ GE255.out) | exact HB.out)))⟩; clear hw; clear HO_5; clear HO_17; clear BK247; clear BK248; clear BK249; clear BK255; clear HB; have HO_5 := n0_; have HO_17 := n1_; have BK247 := n2_; have BK248 := n3_; have BK249 := n4_; have BK255 := n5_; have HB := n6_; clear n0_ n1_ n2_ n3_ n4_ n5_ n6_; have q26 : (x19_1 : Int) ≤ ((t251.length : Int) : Int) := asm_; obtain ⟨i026, hi026, _, hsz26, _⟩ := info_parts info37; have hroom26 : t251.length ≤ co14 := (Kd.R_reads' HO_5.out).2.1; have hC26 : Kd.C k37 _ (some ad254) t251.length t251 := (Kd.R_reads' HO_5.out).2.2; have hcut26 := cut_to (P := Try.prog) 64 37 .i64 Try.underlying64 hi026 (some ad254) t251.length co14 x19_1 (asm_) q26 hroom26; have hr26 := Kd.C_take (m := (x19_1 : Int).toNat) hC26 (by omega); have hy26 : y256.length = (x19_1 : Int).toNat := (by rw [Ny256.out, List.length_take]; omega); rw [← Ny256.out] at hr26; rw [← hy26] at hcut26; have HR259 := Aside0.mk hr26; have HC259 := Aside0.mk (show y256.length ≤ co14 from by omega); clear hr26 hC26 hroom26 hi026 hsz26; have KY26 := Aside0.mk hy26; clear hy26; have KL26 := Aside0.mk (show (x19_1 : Int).toNat ≤ t251.length from by omega); replace q26 := eq_true q26))
        go_loopg [28] k1 (fun kq v28 w' => ∃ (x28_2 : Int) (x249000_2 : Int) (x249001_2 : Bool) (x250000_2 : Int) (x250001_2 : Bool), v28 = .int .i64 x28_2 ∧ Aside0 (impl_Confused.l1 kq t251 t251 (t251.length : Int) x19_1 y256 (y256.length : Int) x28_2 a0_0 a0_1 l0_2 ((rd_T37 t251 x19_1).f0) ((rd_T37 t251 x19_1).f1) = some (r1, r2, r3, r4, r5)) ∧ Aside0 (kq ≤ k1) ∧ Aside0 (Kd.R k37 37 w' w.heap.size (fun k_ => k_ ≠ gb248 ∧ k_ ≠ gb249 ∧ k_ ≠ gb255) (.slice (some ad254) t251.length co14) t251) ∧ Aside0 (Kd.R k37 37 w' w.heap.size (fun k_ => k_ ≠ gb248 ∧ k_ ≠ gb249 ∧ k_ ≠ gb255) (.slice (some ad254) t251.length co14) t251) ∧ Aside0 (w'.heap[gb247]? = some (.cells #[.int .i8 a0_0, .int .i8 a0_1, (.slice A0_2 l0_2.length c0_2)] 35 (0, 0))) ∧ Aside0 (w'.heap[gb248]? = some (.cells #[.int .i8 x249000_2, .bool x249001_2] 37 (0, 0))) ∧ Aside0 (w'.heap[gb249]? = some (.cells #[.int .i8 x250000_2, .bool x250001_2] 37 (0, 0))) ∧ Aside0 (w'.heap[gb255]? = some (.cells #[.int .i8 ((rd_T37 t251 x19_1).f0), .bool ((rd_T37 t251 x19_1).f1)] 37 (0, 0))) ∧ Aside0 (Kd.C k37 w' (some ad254) y256.length y256) ∧ Aside0 (Below w.heap.size w w'))
        case atStart => exact ⟨(0), (x249000_1), (x249001_1), (x250000_1), (x250001_1), (by first | rfl | (simp; done) | (simp [*]; done)), H', ⟨Nat.le_refl _⟩, ⟨pr_ HO_5⟩, ⟨pr_ HO_17⟩, ⟨pl_ BK247⟩, ⟨pl_ BK248⟩, ⟨pl_ BK249⟩, ⟨pl_ BK255⟩, ⟨by repeat (first | (with_reducible exact HR259.out) | (with_reducible refine Kd.C_alloc ?_ _) | (with_reducible refine Kd.C_drewN ?_ _) | (with_reducible refine Kd.C_drew ?_) | exact HR259.out)⟩, ⟨by repeat (first | (with_reducible first | exact HB.out | apply below_alloc | apply pw_below_drewN | apply below_drew1 | refine below_set ?_ GE247.out | refine below_set ?_ GE248.out | refine below_set ?_ GE249.out | refine below_set ?_ GE255.out) | exact HB.out)⟩⟩
        case round =>
         clear H'
         try clear c1
         try clear c2
         try clear p2
         try clear q2
         try clear hx2
         try clear c3
         try clear c8
         try clear c9
         try clear c15
         try clear c15b0
         try clear c16
         try clear c16b0
         try clear c17
         try clear c17b0
         try clear c18
         try clear c18b0
         try clear c19
         try clear c19b0
         try clear c19b1
         try clear c21
         try clear c22
         try clear c23
         try clear p25
         try clear q25
         try clear hx25
         try clear q26
         try clear hcz10_0
         try clear hcz10_1
         try clear hcz10_2
         try clear hcz12_0
         try clear hcz12_1
         try clear hcz12_2
         try clear hcz24_0
         try clear hcz24_1
         try clear hfz10_0
         try clear hfz10_1
         try clear hfz10_2
         try clear hfz12_0
         try clear hfz12_1
         try clear hfz12_2
         try clear hfz24_0
         try clear hfz24_1
         try clear hx254_0
         try clear hx254_1
         try clear p2
         try clear p254
         try clear q254
         try clear q26
         obtain ⟨x28_2, x249000_2, x249001_2, x250000_2, x250001_2, rfl, HA, HK2, HO_5, HO_17, BK247, BK248, BK249, BK255, HR259, HB⟩ := hrel
         cases gk with
         | zero => exact absurd HA.out (by simp [impl_Confused.l1])
         | succ k2 =>
          have H := HA.out
          clear HA
          simp only [impl_Confused.l1] at H
          by_cases c27 : x28_2 < (y256.length : Int)
          ·rw [if_pos c27] at H
           have c27b0 : decide (x28_2 < (y256.length : Int)) = true := decide_eq_true c27
           clear c27
           by_cases c28 : 0 ≤ x28_2
           ·rw [if_pos c28] at H
            have c28b0 : decide (0 ≤ x28_2) = true := decide_eq_true c28
            clear c28
            by_cases c29 : x28_2 < (y256.length : Int)
            ·rw [if_pos c29] at H
             have c29b0 : decide (x28_2 < (y256.length : Int)) = true := decide_eq_true c29
             clear c29
             replace H := Option.bind_eq_some_iff.mp H
             obtain ⟨⟨t262, t263, t264, t265⟩, A300, H⟩ := H
             replace H : ((impl_Fixed_seen.f k2 a0_0 a0_1 l0_2 ((rd_T37 t251 x19_1).f0) ((rd_T37 t251 x19_1).f1)).bind fun bt266 => (if (t262 == bt266.1 && (t263 == bt266.2.1 && (t264 == bt266.2.2.1 && (t265 == bt266.2.2.2)))) = true then (some ((rd_T37 y256 x28_2).f0, (rd_T37 y256 x28_2).f1, ((rd_T37 t251 x19_1).f0), ((rd_T37 t251 x19_1).f1), 0)) else (impl_Confused.l1 k2 t251 t251 (t251.length : Int) x19_1 y256 (y256.length : Int) (wrap64 (x28_2 + 1)) a0_0 a0_1 l0_2 ((rd_T37 t251 x19_1).f0) ((rd_T37 t251 x19_1).f1)))) = some (r1, r2, r3, r4, r5) := H
             have A30 := Aside0.mk A300
             clear A300
             replace H := Option.bind_eq_some_iff.mp H
             obtain ⟨⟨t266, t267, t268, t269⟩, A310, H⟩ := H
             replace H : (if (t262 == t266 && (t263 == t267 && (t264 == t268 && (t265 == t269)))) = true then (some ((rd_T37 y256 x28_2).f0, (rd_T37 y256 x28_2).f1, ((rd_T37 t251 x19_1).f0), ((rd_T37 t251 x19_1).f1), 0)) else (impl_Confused.l1 k2 t251 t251 (t251.length : Int) x19_1 y256 (y256.length : Int) (wrap64 (x28_2 + 1)) a0_0 a0_1 l0_2 ((rd_T37 t251 x19_1).f0) ((rd_T37 t251 x19_1).f1))) = some (r1, r2, r3, r4, r5) := H
             have A31 := Aside0.mk A310
             clear A310
             by_cases c32 : (t262 == t266 && (t263 == t267 && (t264 == t268 && (t265 == t269)))) = true
             ·rw [if_pos c32] at H
              have c32b0 : (t262 == t266 && (t263 == t267 && (t264 == t268 && (t265 == t269)))) = true := c32
              (try (have c32b1 : decide (t262 = t266 && (t263 == t267 && (t264 == t268 && (t265 == t269)))) = true := by simpa using c32))
              (try (have c32b2 : (t262 == t266 && (t263 == t267 && (t264 == t268 && (t265 == t269)))) = true := by simpa using c32))
              clear c32
              simp only [Option.some.injEq, Prod.mk.injEq] at H
              obtain ⟨rfl, rfl, rfl, rfl, rfl⟩ := H
              have p260 : 0 ≤ (x28_2 : Int) := asm_
              have q260 : x28_2 < (y256.length : Int) := asm_
              obtain ⟨ad260, e260, hx260_0, hx260_1⟩ := at_T37 HR259.out x28_2 p260 q260
              obtain rfl : ad254 = ad260 := (by injection e260)
              (try replace hx260_0 := (HB.out.cell (World.block_lt_of_cell? w _ hx260_0)).trans hx260_0)
              (try replace hx260_1 := (HB.out.cell (World.block_lt_of_cell? w _ hx260_1)).trans hx260_1)
              replace p260 := eq_true p260
              replace q260 := eq_true q260
              try go_wp2_with (first | ((with_reducible refine gate_dst (N := 9) rfl ?_); refine box_event ?hg (N := 9) ?hd (cs := #[.int .i8 0, .bool false]) (t := 37) ?hr ?_; (case hd => rfl); (case hg => rfl); (case hr => first | (go_simp; done) | (go_simp; rfl)); intro gb261 hg w33 hbox hb; have n0_ := Aside0.mk (Kd.R_below (Kd.R_elderB (pr_ HO_5) gb261 (Nat.le_of_eq hg.symm)) hb); have n1_ := Aside0.mk (Kd.R_below (Kd.R_elderB (pr_ HO_17) gb261 (Nat.le_of_eq hg.symm)) hb); have n2_ := Aside0.mk (blk_below (g := gb247) (o := .cells #[.int .i8 a0_0, .int .i8 a0_1, .slice A0_2 l0_2.length c0_2] 35 (0, 0)) (pl_ BK247) hb); have n3_ := Aside0.mk (blk_below (g := gb248) (o := .cells #[.int .i8 x249000_2, .bool x249001_2] 37 (0, 0)) (pl_ BK248) hb); have n4_ := Aside0.mk (blk_below (g := gb249) (o := .cells #[.int .i8 x250000_2, .bool x250001_2] 37 (0, 0)) (pl_ BK249) hb); have n5_ := Aside0.mk (blk_below (g := gb255) (o := .cells #[.int .i8 ((rd_T37 t251 x19_1).f0), .bool ((rd_T37 t251 x19_1).f1)] 37 (0, 0)) (pl_ BK255) hb); have n6_ := Aside0.mk (Kd.C_below (by repeat (first | (with_reducible exact HR259.out) | (with_reducible refine Kd.C_alloc ?_ _) | (with_reducible refine Kd.C_drewN ?_ _) | (with_reducible refine Kd.C_drew ?_) | exact HR259.out)) hb); have n7_ := Aside0.mk (below_step (by repeat (first | (with_reducible first | exact HB.out | apply below_alloc | apply pw_below_drewN | apply below_drew1 | refine below_set ?_ GE247.out | refine below_set ?_ GE248.out | refine below_set ?_ GE249.out | refine below_set ?_ GE255.out) | exact HB.out)) hb); have n8_ := Aside0.mk (hbox); have n9_ := Aside0.mk ((by rw [hg]; exact (below_size (by repeat (first | (with_reducible first | exact HB.out | apply below_alloc | apply pw_below_drewN | apply below_drew1 | refine below_set ?_ GE247.out | refine below_set ?_ GE248.out | refine below_set ?_ GE249.out | refine below_set ?_ GE255.out) | exact HB.out))) : w.heap.size ≤ gb261)); have n10_ := Aside0.mk ((by rw [hg]; exact (below_size (by repeat (first | (with_reducible first | exact HB.out | apply below_alloc | apply pw_below_drewN | apply below_drew1 | refine below_set ?_ GE247.out | refine below_set ?_ GE248.out | refine below_set ?_ GE249.out | refine below_set ?_ GE255.out) | exact HB.out))) : w.heap.size ≤ gb261)); have n11_ := Aside0.mk ((by rw [hg]; exact Nat.ne_of_lt (blk_lt (g := gb247) (o := .cells #[.int .i8 a0_0, .int .i8 a0_1, .slice A0_2 l0_2.length c0_2] 35 (0, 0)) (pl_ BK247)) : gb247 ≠ gb261)); have n12_ := Aside0.mk ((by rw [hg]; exact Nat.ne_of_gt (blk_lt (g := gb247) (o := .cells #[.int .i8 a0_0, .int .i8 a0_1, .slice A0_2 l0_2.length c0_2] 35 (0, 0)) (pl_ BK247)) : gb261 ≠ gb247)); have n13_ := Aside0.mk ((by rw [hg]; exact Nat.ne_of_lt (blk_lt (g := gb248) (o := .cells #[.int .i8 x249000_2, .bool x249001_2] 37 (0, 0)) (pl_ BK248)) : gb248 ≠ gb261)); have n14_ := Aside0.mk ((by rw [hg]; exact Nat.ne_of_gt (blk_lt (g := gb248) (o := .cells #[.int .i8 x249000_2, .bool x249001_2] 37 (0, 0)) (pl_ BK248)) : gb261 ≠ gb248)); have n15_ := Aside0.mk ((by rw [hg]; exact Nat.ne_of_lt (blk_lt (g := gb249) (o := .cells #[.int .i8 x250000_2, .bool x250001_2] 37 (0, 0)) (pl_ BK249)) : gb249 ≠ gb261)); have n16_ := Aside0.mk ((by rw [hg]; exact Nat.ne_of_gt (blk_lt (g := gb249) (o := .cells #[.int .i8 x250000_2, .bool x250001_2] 37 (0, 0)) (pl_ BK249)) : gb261 ≠ gb249)); have n17_ := Aside0.mk ((by rw [hg]; exact Nat.ne_of_lt (blk_lt (g := gb255) (o := .cells #[.int .i8 ((rd_T37 t251 x19_1).f0), .bool ((rd_T37 t251 x19_1).f1)] 37 (0, 0)) (pl_ BK255)) : gb255 ≠ gb261)); have n18_ := Aside0.mk ((by rw [hg]; exact Nat.ne_of_gt (blk_lt (g := gb255) (o := .cells #[.int .i8 ((rd_T37 t251 x19_1).f0), .bool ((rd_T37 t251 x19_1).f1)] 37 (0, 0)) (pl_ BK255)) : gb261 ≠ gb255)); clear HO_5; clear HO_17; clear BK247; clear BK248; clear BK249; clear BK255; clear HR259; clear HB; have HO_5 := n0_; have HO_17 := n1_; have BK247 := n2_; have BK248 := n3_; have BK249 := n4_; have BK255 := n5_; have HR259 := n6_; have HB := n7_; have BK261 := n8_; have GW261 := n9_; have GE261 := n10_; have NB247_261 := n11_; have NB261_247 := n12_; have NB248_261 := n13_; have NB261_248 := n14_; have NB249_261 := n15_; have NB261_249 := n16_; have NB255_261 := n17_; have NB261_255 := n18_; clear n0_ n1_ n2_ n3_ n4_ n5_ n6_ n7_ n8_ n9_ n10_ n11_ n12_ n13_ n14_ n15_ n16_ n17_ n18_; clear hb hbox hg; have hnb34 := NB261_247.out; have hnc34 := NB247_261.out; have hnb35 := NB261_248.out; have hnc35 := NB248_261.out; have hnb36 := NB261_249.out; have hnc36 := NB249_261.out; have hnb37 := NB261_255.out; have hnc37 := NB255_261.out; have hcz38_0 : w33.cell? ⟨gb261, 0, none⟩ = some (.int .i8 0) := (blk_cell BK261.out 0).trans rfl; have hcz38_1 : w33.cell? ⟨gb261, 1, none⟩ = some (.bool false) := (blk_cell BK261.out 1).trans rfl; have hfz38_0 := blk_frozen BK261.out 0; have hfz38_1 := blk_frozen BK261.out 1))
              have n0_ : Aside0 (Kd.C k37 ((w33.setCell ⟨gb261, 0, none⟩ (.int .i8 ((rd_T37 y256 x28_2).f0))).setCell ⟨gb261, 1, none⟩ (.bool ((rd_T37 y256 x28_2).f1))) (some ad254) y256.length y256) := ⟨by have h_ := Kd.C_take (m := (x19_1 : Int).toNat) ((Kd.R_reads' ((show Kd.R k37 37 ((w33.setCell ⟨gb261, 0, none⟩ (.int .i8 ((rd_T37 y256 x28_2).f0))).setCell ⟨gb261, 1, none⟩ (.bool ((rd_T37 y256 x28_2).f1))) w.heap.size (fun k_ => k_ ≠ gb248 ∧ k_ ≠ gb249 ∧ k_ ≠ gb255 ∧ k_ ≠ gb261) (.slice (some ad254) t251.length co14) t251 from by (with_reducible repeat (first | apply Kd.R_alloc | apply Kd.R_drewN | apply Kd.R_drew)); exact Kd.R_mono (Kd.R_far (p := ⟨gb261, 1, none⟩) (Kd.R_far (p := ⟨gb261, 0, none⟩) (Kd.R_mono HO_5.out (fun k_ hk => (⟨hk, hk.2⟩ : _ ∧ k_ ≠ gb261))) (fun _ hk => hk.2) (.int .i8 ((rd_T37 y256 x28_2).f0))) (fun _ hk => hk.2) (.bool ((rd_T37 y256 x28_2).f1))) (fun _ hk => ⟨hk.1.1.1, ⟨hk.1.1.2.1, ⟨hk.1.1.2.2, hk.1.2⟩⟩⟩)))).2.2) KL26.out; rw [← Ny256.out] at h_; exact h_⟩
              have n1_ : Aside0 (Kd.R k37 37 ((w33.setCell ⟨gb261, 0, none⟩ (.int .i8 ((rd_T37 y256 x28_2).f0))).setCell ⟨gb261, 1, none⟩ (.bool ((rd_T37 y256 x28_2).f1))) w.heap.size (fun k_ => k_ ≠ gb248 ∧ k_ ≠ gb249 ∧ k_ ≠ gb255 ∧ k_ ≠ gb261) (.slice (some ad254) t251.length co14) t251) := ⟨by (with_reducible repeat (first | apply Kd.R_alloc | apply Kd.R_drewN | apply Kd.R_drew)); exact Kd.R_mono (Kd.R_far (p := ⟨gb261, 1, none⟩) (Kd.R_far (p := ⟨gb261, 0, none⟩) (Kd.R_mono HO_5.out (fun k_ hk => (⟨hk, hk.2⟩ : _ ∧ k_ ≠ gb261))) (fun _ hk => hk.2) (.int .i8 ((rd_T37 y256 x28_2).f0))) (fun _ hk => hk.2) (.bool ((rd_T37 y256 x28_2).f1))) (fun _ hk => ⟨hk.1.1.1, ⟨hk.1.1.2.1, ⟨hk.1.1.2.2, hk.1.2⟩⟩⟩)⟩
              have n2_ : Aside0 (Kd.R k37 37 ((w33.setCell ⟨gb261, 0, none⟩ (.int .i8 ((rd_T37 y256 x28_2).f0))).setCell ⟨gb261, 1, none⟩ (.bool ((rd_T37 y256 x28_2).f1))) w.heap.size (fun k_ => k_ ≠ gb248 ∧ k_ ≠ gb249 ∧ k_ ≠ gb255 ∧ k_ ≠ gb261) (.slice (some ad254) t251.length co14) t251) := ⟨by (with_reducible repeat (first | apply Kd.R_alloc | apply Kd.R_drewN | apply Kd.R_drew)); exact Kd.R_mono (Kd.R_far (p := ⟨gb261, 1, none⟩) (Kd.R_far (p := ⟨gb261, 0, none⟩) (Kd.R_mono HO_17.out (fun k_ hk => (⟨hk, hk.2⟩ : _ ∧ k_ ≠ gb261))) (fun _ hk => hk.2) (.int .i8 ((rd_T37 y256 x28_2).f0))) (fun _ hk => hk.2) (.bool ((rd_T37 y256 x28_2).f1))) (fun _ hk => ⟨hk.1.1.1, ⟨hk.1.1.2.1, ⟨hk.1.1.2.2, hk.1.2⟩⟩⟩)⟩
              have n3_ : Aside0 (((w33.setCell ⟨gb261, 0, none⟩ (.int .i8 ((rd_T37 y256 x28_2).f0))).setCell ⟨gb261, 1, none⟩ (.bool ((rd_T37 y256 x28_2).f1))).heap[gb247]? = some (.cells #[.int .i8 a0_0, .int .i8 a0_1, .slice A0_2 l0_2.length c0_2] 35 (0, 0))) := ⟨by (with_reducible repeat (first | refine blk_drewN ?_ _ | refine blk_drew ?_ | refine blk_alloc ?_ _)); refine blk_far ?_ NB247_261.out _; (with_reducible repeat (first | refine blk_drewN ?_ _ | refine blk_drew ?_ | refine blk_alloc ?_ _)); refine blk_far ?_ NB247_261.out _; (with_reducible repeat (first | refine blk_drewN ?_ _ | refine blk_drew ?_ | refine blk_alloc ?_ _)); exact BK247.out⟩
              have n4_ : Aside0 (((w33.setCell ⟨gb261, 0, none⟩ (.int .i8 ((rd_T37 y256 x28_2).f0))).setCell ⟨gb261, 1, none⟩ (.bool ((rd_T37 y256 x28_2).f1))).heap[gb248]? = some (.cells #[.int .i8 x249000_2, .bool x249001_2] 37 (0, 0))) := ⟨by (with_reducible repeat (first | refine blk_drewN ?_ _ | refine blk_drew ?_ | refine blk_alloc ?_ _)); refine blk_far ?_ NB248_261.out _; (with_reducible repeat (first | refine blk_drewN ?_ _ | refine blk_drew ?_ | refine blk_alloc ?_ _)); refine blk_far ?_ NB248_261.out _; (with_reducible repeat (first | refine blk_drewN ?_ _ | refine blk_drew ?_ | refine blk_alloc ?_ _)); exact BK248.out⟩
              have n5_ : Aside0 (((w33.setCell ⟨gb261, 0, none⟩ (.int .i8 ((rd_T37 y256 x28_2).f0))).setCell ⟨gb261, 1, none⟩ (.bool ((rd_T37 y256 x28_2).f1))).heap[gb249]? = some (.cells #[.int .i8 x250000_2, .bool x250001_2] 37 (0, 0))) := ⟨by (with_reducible repeat (first | refine blk_drewN ?_ _ | refine blk_drew ?_ | refine blk_alloc ?_ _)); refine blk_far ?_ NB249_261.out _; (with_reducible repeat (first | refine blk_drewN ?_ _ | refine blk_drew ?_ | refine blk_alloc ?_ _)); refine blk_far ?_ NB249_261.out _; (with_reducible repeat (first | refine blk_drewN ?_ _ | refine blk_drew ?_ | refine blk_alloc ?_ _)); exact BK249.out⟩
              have n6_ : Aside0 (((w33.setCell ⟨gb261, 0, none⟩ (.int .i8 ((rd_T37 y256 x28_2).f0))).setCell ⟨gb261, 1, none⟩ (.bool ((rd_T37 y256 x28_2).f1))).heap[gb255]? = some (.cells #[.int .i8 ((rd_T37 t251 x19_1).f0), .bool ((rd_T37 t251 x19_1).f1)] 37 (0, 0))) := ⟨by (with_reducible repeat (first | refine blk_drewN ?_ _ | refine blk_drew ?_ | refine blk_alloc ?_ _)); refine blk_far ?_ NB255_261.out _; (with_reducible repeat (first | refine blk_drewN ?_ _ | refine blk_drew ?_ | refine blk_alloc ?_ _)); refine blk_far ?_ NB255_261.out _; (with_reducible repeat (first | refine blk_drewN ?_ _ | refine blk_drew ?_ | refine blk_alloc ?_ _)); exact BK255.out⟩
              have n7_ : Aside0 (((w33.setCell ⟨gb261, 0, none⟩ (.int .i8 ((rd_T37 y256 x28_2).f0))).setCell ⟨gb261, 1, none⟩ (.bool ((rd_T37 y256 x28_2).f1))).heap[gb261]? = some (.cells #[.int .i8 ((rd_T37 y256 x28_2).f0), .bool ((rd_T37 y256 x28_2).f1)] 37 (0, 0))) := ⟨by (with_reducible repeat (first | refine blk_drewN ?_ _ | refine blk_drew ?_ | refine blk_alloc ?_ _)); refine blk_put (cs := #[.int .i8 ((rd_T37 y256 x28_2).f0), .bool false]) ?_ 1 _ rfl; (with_reducible repeat (first | refine blk_drewN ?_ _ | refine blk_drew ?_ | refine blk_alloc ?_ _)); refine blk_put (cs := #[.int .i8 0, .bool false]) ?_ 0 _ rfl; (with_reducible repeat (first | refine blk_drewN ?_ _ | refine blk_drew ?_ | refine blk_alloc ?_ _)); exact BK261.out⟩
              have n8_ : Aside0 (Below w.heap.size w ((w33.setCell ⟨gb261, 0, none⟩ (.int .i8 ((rd_T37 y256 x28_2).f0))).setCell ⟨gb261, 1, none⟩ (.bool ((rd_T37 y256 x28_2).f1)))) := ⟨by repeat (first | (with_reducible first | exact HB.out | apply below_alloc | apply pw_below_drewN | apply below_drew1 | refine below_set ?_ GE247.out | refine below_set ?_ GE248.out | refine below_set ?_ GE249.out | refine below_set ?_ GE255.out | refine below_set ?_ GE261.out) | exact HB.out)⟩
              (try clear HR259)
              (try clear HO_5)
              (try clear HO_17)
              (try clear BK247)
              (try clear BK248)
              (try clear BK249)
              (try clear BK255)
              (try clear BK261)
              (try clear HB)
              generalize ((w33.setCell ⟨gb261, 0, none⟩ (.int .i8 ((rd_T37 y256 x28_2).f0))).setCell ⟨gb261, 1, none⟩ (.bool ((rd_T37 y256 x28_2).f1))) = w39 at n0_ n1_ n2_ n3_ n4_ n5_ n6_ n7_ n8_ ⊢
              have HR259 := n0_
              have HO_5 := n1_
              have HO_17 := n2_
              have BK247 := n3_
              have BK248 := n4_
              have BK249 := n5_
              have BK255 := n6_
              have BK261 := n7_
              have HB := n8_
              clear n0_ n1_ n2_ n3_ n4_ n5_ n6_ n7_ n8_
              have n0_ := Aside0.mk (Kd.R_drew HO_5.out)
              have n1_ := Aside0.mk (Kd.R_drew HO_17.out)
              have n2_ := Aside0.mk (blk_drew BK247.out)
              have n3_ := Aside0.mk (blk_drew BK248.out)
              have n4_ := Aside0.mk (blk_drew BK249.out)
              have n5_ := Aside0.mk (blk_drew BK255.out)
              have n6_ := Aside0.mk (blk_drew BK261.out)
              have n7_ := Aside0.mk (Kd.C_drew HR259.out)
              have n8_ := Aside0.mk (below_drew1 HB.out)
              clear HO_5
              clear HO_17
              clear BK247
              clear BK248
              clear BK249
              clear BK255
              clear BK261
              clear HR259
              clear HB
              have HO_5 := n0_
              have HO_17 := n1_
              have BK247 := n2_
              have BK248 := n3_
              have BK249 := n4_
              have BK255 := n5_
              have BK261 := n6_
              have HR259 := n7_
              have HB := n8_
              clear n0_ n1_ n2_ n3_ n4_ n5_ n6_ n7_ n8_
              refine start_ (n := 7) (S := fun w' => w'.cell? ⟨gb247, 0, none⟩ = some (.int .i8 a0_0) ∧ w'.cell? ⟨gb247, 1, none⟩ = some (.int .i8 a0_1) ∧ w'.cell? ⟨gb247, 2, none⟩ = some (.slice A0_2 l0_2.length c0_2) ∧ w'.cell? ⟨gb261, 0, none⟩ = some (.int .i8 ((rd_T37 y256 x28_2).f0)) ∧ w'.cell? ⟨gb261, 1, none⟩ = some (.bool ((rd_T37 y256 x28_2).f1)) ∧ w'.cell? ⟨gb255, 0, none⟩ = some (.int .i8 ((rd_T37 t251 x19_1).f0)) ∧ w'.cell? ⟨gb255, 1, none⟩ = some (.bool ((rd_T37 t251 x19_1).f1))) (ds := []) #[false, false, false, false, false, false, false] (by kernel_rfl) rfl rfl ⟨(blk_cell BK247.out 0).trans rfl, (blk_cell BK247.out 1).trans rfl, (blk_cell BK247.out 2).trans rfl, (blk_cell BK261.out 0).trans rfl, (blk_cell BK261.out 1).trans rfl, (blk_cell BK255.out 0).trans rfl, (blk_cell BK255.out 1).trans rfl⟩ (fun hHeld => ?_)
              generalize w39.drew = w40 at HO_5 HO_17 BK247 BK248 BK249 BK255 BK261 HR259 HB hHeld ⊢
              refine take_ (i := 0) (N := some 32) (v := ?_) (a' := ?_) #[true, false, false, false, false, false, false] rfl rfl (by kernel_rfl) (fun _ _ _ h => h) (Or.inl ⟨by rfl, ?_⟩) hHeld ?_ ?_
              rotate_left
              ·rintro w' ⟨s0, s1, s2, s3, s4, s5, s6⟩
               go_simp
               with_reducible rfl
              rotate_left
              ·simp only [Act.put, List.setIfInBounds_toArray, List.set_cons_zero, List.set_cons_succ, i64_w, i32_w]
               rfl
              refine take_ (i := 1) (N := some 33) (v := ?_) (a' := ?_) #[true, true, false, false, false, false, false] rfl rfl (by kernel_rfl) (fun _ _ _ h => h) (Or.inl ⟨by rfl, ?_⟩) hHeld ?_ ?_
              rotate_left
              ·rintro w' ⟨s0, s1, s2, s3, s4, s5, s6⟩
               go_simp
               with_reducible rfl
              rotate_left
              ·simp only [Act.put, List.setIfInBounds_toArray, List.set_cons_zero, List.set_cons_succ, i64_w, i32_w]
               rfl
              refine take_ (i := 3) (N := some 35) (v := ?_) (a' := ?_) #[true, true, false, true, false, false, false] rfl rfl (by kernel_rfl) (fun _ _ _ h => h) (Or.inl ⟨by rfl, ?_⟩) hHeld ?_ ?_
              rotate_left
              ·rintro w' ⟨s0, s1, s2, s3, s4, s5, s6⟩
               go_simp
               with_reducible rfl
              rotate_left
              ·simp only [Act.put, List.setIfInBounds_toArray, List.set_cons_zero, List.set_cons_succ, i64_w, i32_w]
               rfl
              refine take_ (i := 4) (N := some 36) (v := ?_) (a' := ?_) #[true, true, false, true, true, false, false] rfl rfl (by kernel_rfl) (fun _ _ _ h => h) (Or.inl ⟨by rfl, ?_⟩) hHeld ?_ ?_
              rotate_left
              ·rintro w' ⟨s0, s1, s2, s3, s4, s5, s6⟩
               go_simp
               with_reducible rfl
              rotate_left
              ·simp only [Act.put, List.setIfInBounds_toArray, List.set_cons_zero, List.set_cons_succ, i64_w, i32_w]
               rfl
              refine one_ (i := 2) (N := some 34) #[true, true, true, true, true, false, false] rfl rfl (by kernel_rfl) (by decide) (fun K hK => ?_)
              refine goes_ Try.func36 (by kernel_rfl) rfl #[.agg #[.int .i8 a0_0, .int .i8 a0_1, .slice A0_2 l0_2.length c0_2], .agg #[.int .i8 ((rd_T37 y256 x28_2).f0), .bool ((rd_T37 y256 x28_2).f1)]] (by rfl) rfl rfl (by (try simp only [List.map_toArray, List.map_cons, List.map_nil]); first | done | rfl | (simp only [List.length_drop, List.length_take]; rfl)) ?_
              with_reducible refine (impl_Fixed_seen.calls k2 a0_0 a0_1 _ _ l0_2 ((rd_T37 y256 x28_2).f0) ((rd_T37 y256 x28_2).f1) t262 t263 t264 t265 _ ?side1 ?side2 A30.out).mono ?_
              (case side1 => repeat (first | exact (Kd.C_below HR0_2.out HB.out) | (with_reducible refine Kd.C_alloc ?_ _) | (with_reducible refine Kd.C_drewN ?_ _) | (with_reducible refine Kd.C_drew ?_)))
              (case side2 => exact HC0_2.out)
              rintro e w41 ⟨rfl, hb⟩
              refine ⟨_, rfl, ?_⟩
              have n0_ := Aside0.mk (Kd.R_below (pr_ HO_5) hb)
              have n1_ := Aside0.mk (Kd.R_below (pr_ HO_17) hb)
              have n2_ := Aside0.mk (blk_below (g := gb247) (o := .cells #[.int .i8 a0_0, .int .i8 a0_1, .slice A0_2 l0_2.length c0_2] 35 (0, 0)) (pl_ BK247) hb)
              have n3_ := Aside0.mk (blk_below (g := gb248) (o := .cells #[.int .i8 x249000_2, .bool x249001_2] 37 (0, 0)) (pl_ BK248) hb)
              have n4_ := Aside0.mk (blk_below (g := gb249) (o := .cells #[.int .i8 x250000_2, .bool x250001_2] 37 (0, 0)) (pl_ BK249) hb)
              have n5_ := Aside0.mk (blk_below (g := gb255) (o := .cells #[.int .i8 ((rd_T37 t251 x19_1).f0), .bool ((rd_T37 t251 x19_1).f1)] 37 (0, 0)) (pl_ BK255) hb)
              have n6_ := Aside0.mk (Kd.C_below (by repeat (first | (with_reducible exact HR259.out) | (with_reducible refine Kd.C_alloc ?_ _) | (with_reducible refine Kd.C_drewN ?_ _) | (with_reducible refine Kd.C_drew ?_) | exact HR259.out)) hb)
              have n7_ := Aside0.mk (blk_below (g := gb261) (o := .cells #[.int .i8 ((rd_T37 y256 x28_2).f0), .bool ((rd_T37 y256 x28_2).f1)] 37 (0, 0)) (pl_ BK261) hb)
              have n8_ := Aside0.mk (below_step (by repeat (first | (with_reducible first | exact HB.out | apply below_alloc | apply pw_below_drewN | apply below_drew1 | refine below_set ?_ GE247.out | refine below_set ?_ GE248.out | refine below_set ?_ GE249.out | refine below_set ?_ GE255.out | refine below_set ?_ GE261.out) | exact HB.out)) hb)
              clear HO_5
              clear HO_17
              clear BK247
              clear BK248
              clear BK249
              clear BK255
              clear HR259
              clear BK261
              clear HB
              have HO_5 := n0_
              have HO_17 := n1_
              have BK247 := n2_
              have BK248 := n3_
              have BK249 := n4_
              have BK255 := n5_
              have HR259 := n6_
              have BK261 := n7_
              have HB := n8_
              clear n0_ n1_ n2_ n3_ n4_ n5_ n6_ n7_ n8_
              (try clear hb)
              (try clear hb2)
              (try clear hk)
              (try clear hi)
              refine hK.out _ _ ⟨(blk_cell BK247.out 0).trans rfl, (blk_cell BK247.out 1).trans rfl, (blk_cell BK247.out 2).trans rfl, (blk_cell BK261.out 0).trans rfl, (blk_cell BK261.out 1).trans rfl, (blk_cell BK255.out 0).trans rfl, (blk_cell BK255.out 1).trans rfl⟩ (fun hHeld => ?_)
              clear hK K
              refine norm_ (a' := ?_) ?_ ?_
              rotate_left
              ·show Act.put _ (some 34) _ = _
               simp only [Act.put, List.setIfInBounds_toArray, List.set_cons_zero, List.set_cons_succ, i64_w, i32_w]
               rfl
              refine one_ (i := 5) (N := some 37) #[true, true, true, true, true, true, false] rfl rfl (by kernel_rfl) (by decide) (fun K hK => ?_)
              refine goes_ Try.func36 (by kernel_rfl) rfl #[.agg #[.int .i8 a0_0, .int .i8 a0_1, .slice A0_2 l0_2.length c0_2], .agg #[.int .i8 ((rd_T37 t251 x19_1).f0), .bool ((rd_T37 t251 x19_1).f1)]] (by rfl) rfl rfl (by (try simp only [List.map_toArray, List.map_cons, List.map_nil]); first | done | rfl | (simp only [List.length_drop, List.length_take]; rfl)) ?_
              with_reducible refine (impl_Fixed_seen.calls k2 a0_0 a0_1 _ _ l0_2 ((rd_T37 t251 x19_1).f0) ((rd_T37 t251 x19_1).f1) t266 t267 t268 t269 _ ?side1 ?side2 A31.out).mono ?_
              (case side1 => repeat (first | exact (Kd.C_below HR0_2.out HB.out) | (with_reducible refine Kd.C_alloc ?_ _) | (with_reducible refine Kd.C_drewN ?_ _) | (with_reducible refine Kd.C_drew ?_)))
              (case side2 => exact HC0_2.out)
              rintro e w42 ⟨rfl, hb⟩
              refine ⟨_, rfl, ?_⟩
              have n0_ := Aside0.mk (Kd.R_below (pr_ HO_5) hb)
              have n1_ := Aside0.mk (Kd.R_below (pr_ HO_17) hb)
              have n2_ := Aside0.mk (blk_below (g := gb247) (o := .cells #[.int .i8 a0_0, .int .i8 a0_1, .slice A0_2 l0_2.length c0_2] 35 (0, 0)) (pl_ BK247) hb)
              have n3_ := Aside0.mk (blk_below (g := gb248) (o := .cells #[.int .i8 x249000_2, .bool x249001_2] 37 (0, 0)) (pl_ BK248) hb)
              have n4_ := Aside0.mk (blk_below (g := gb249) (o := .cells #[.int .i8 x250000_2, .bool x250001_2] 37 (0, 0)) (pl_ BK249) hb)
              have n5_ := Aside0.mk (blk_below (g := gb255) (o := .cells #[.int .i8 ((rd_T37 t251 x19_1).f0), .bool ((rd_T37 t251 x19_1).f1)] 37 (0, 0)) (pl_ BK255) hb)
              have n6_ := Aside0.mk (Kd.C_below (by repeat (first | (with_reducible exact HR259.out) | (with_reducible refine Kd.C_alloc ?_ _) | (with_reducible refine Kd.C_drewN ?_ _) | (with_reducible refine Kd.C_drew ?_) | exact HR259.out)) hb)
              have n7_ := Aside0.mk (blk_below (g := gb261) (o := .cells #[.int .i8 ((rd_T37 y256 x28_2).f0), .bool ((rd_T37 y256 x28_2).f1)] 37 (0, 0)) (pl_ BK261) hb)
              have n8_ := Aside0.mk (below_step (by repeat (first | (with_reducible first | exact HB.out | apply below_alloc | apply pw_below_drewN | apply below_drew1 | refine below_set ?_ GE247.out | refine below_set ?_ GE248.out | refine below_set ?_ GE249.out | refine below_set ?_ GE255.out | refine below_set ?_ GE261.out) | exact HB.out)) hb)
              clear HO_5
              clear HO_17
              clear BK247
              clear BK248
              clear BK249
              clear BK255
              clear HR259
              clear BK261
              clear HB
              have HO_5 := n0_
              have HO_17 := n1_
              have BK247 := n2_
              have BK248 := n3_
              have BK249 := n4_
              have BK255 := n5_
              have HR259 := n6_
              have BK261 := n7_
              have HB := n8_
              clear n0_ n1_ n2_ n3_ n4_ n5_ n6_ n7_ n8_
              (try clear hb)
              (try clear hb2)
              (try clear hk)
              (try clear hi)
              refine hK.out _ _ ⟨(blk_cell BK247.out 0).trans rfl, (blk_cell BK247.out 1).trans rfl, (blk_cell BK247.out 2).trans rfl, (blk_cell BK261.out 0).trans rfl, (blk_cell BK261.out 1).trans rfl, (blk_cell BK255.out 0).trans rfl, (blk_cell BK255.out 1).trans rfl⟩ (fun hHeld => ?_)
              clear hK K
              refine norm_ (a' := ?_) ?_ ?_
              rotate_left
              ·show Act.put _ (some 37) _ = _
               simp only [Act.put, List.setIfInBounds_toArray, List.set_cons_zero, List.set_cons_succ, i64_w, i32_w]
               rfl
              refine pure_ (i := 6) (N := some 38) (v := ?_) (a' := ?_) #[true, true, true, true, true, true, true] rfl rfl (by kernel_rfl) (fun _ _ _ h => h) (Or.inl ⟨by rfl, ?_⟩) ?_ ?_
              rotate_left
              ·intro w'
               go_simp
               with_reducible rfl
              rotate_left
              ·simp only [Act.put, List.setIfInBounds_toArray, List.set_cons_zero, List.set_cons_succ, i64_w, i32_w]
               rfl
              refine done_ (by kernel_rfl) ?_
              try go_wp2
              have n0_ := Aside0.mk (Kd.R_drew HO_5.out)
              have n1_ := Aside0.mk (Kd.R_drew HO_17.out)
              have n2_ := Aside0.mk (blk_drew BK247.out)
              have n3_ := Aside0.mk (blk_drew BK248.out)
              have n4_ := Aside0.mk (blk_drew BK249.out)
              have n5_ := Aside0.mk (blk_drew BK255.out)
              have n6_ := Aside0.mk (blk_drew BK261.out)
              have n7_ := Aside0.mk (Kd.C_drew HR259.out)
              have n8_ := Aside0.mk (below_drew1 HB.out)
              clear HO_5
              clear HO_17
              clear BK247
              clear BK248
              clear BK249
              clear BK255
              clear BK261
              clear HR259
              clear HB
              have HO_5 := n0_
              have HO_17 := n1_
              have BK247 := n2_
              have BK248 := n3_
              have BK249 := n4_
              have BK255 := n5_
              have BK261 := n6_
              have HR259 := n7_
              have HB := n8_
              clear n0_ n1_ n2_ n3_ n4_ n5_ n6_ n7_ n8_
              refine start_ (n := 5) (S := fun w' => w'.cell? ⟨gb261, 0, none⟩ = some (.int .i8 ((rd_T37 y256 x28_2).f0)) ∧ w'.cell? ⟨gb261, 1, none⟩ = some (.bool ((rd_T37 y256 x28_2).f1)) ∧ w'.cell? ⟨gb255, 0, none⟩ = some (.int .i8 ((rd_T37 t251 x19_1).f0)) ∧ w'.cell? ⟨gb255, 1, none⟩ = some (.bool ((rd_T37 t251 x19_1).f1))) (ds := []) #[false, false, false, false, false] (by kernel_rfl) rfl rfl ⟨(blk_cell BK261.out 0).trans rfl, (blk_cell BK261.out 1).trans rfl, (blk_cell BK255.out 0).trans rfl, (blk_cell BK255.out 1).trans rfl⟩ (fun hHeld => ?_)
              generalize w42.drew = w43 at HO_5 HO_17 BK247 BK248 BK249 BK255 BK261 HR259 HB hHeld ⊢
              refine take_ (i := 0) (N := some 39) (v := ?_) (a' := ?_) #[true, false, false, false, false] rfl rfl (by kernel_rfl) (fun _ _ _ h => h) (Or.inl ⟨by rfl, ?_⟩) hHeld ?_ ?_
              rotate_left
              ·rintro w' ⟨s0, s1, s2, s3⟩
               go_simp
               with_reducible rfl
              rotate_left
              ·simp only [Act.put, List.setIfInBounds_toArray, List.set_cons_zero, List.set_cons_succ, i64_w, i32_w]
               rfl
              refine take_ (i := 1) (N := some 40) (v := ?_) (a' := ?_) #[true, true, false, false, false] rfl rfl (by kernel_rfl) (fun _ _ _ h => h) (Or.inl ⟨by rfl, ?_⟩) hHeld ?_ ?_
              rotate_left
              ·rintro w' ⟨s0, s1, s2, s3⟩
               go_simp
               with_reducible rfl
              rotate_left
              ·simp only [Act.put, List.setIfInBounds_toArray, List.set_cons_zero, List.set_cons_succ, i64_w, i32_w]
               rfl
              refine one_ (i := 2) (N := none) #[true, true, true, false, false] rfl rfl (by kernel_rfl) (by decide) (fun K hK => ?_)
              have hs44 : w43.cell? ⟨gb248, 0, none⟩ = some (.int .i8 x249000_2) := (blk_cell BK248.out 0).trans rfl
              have hfs44 := blk_frozen BK248.out 0
              have hns44_0 := NB247_248.out
              have hns44_2 := NB249_248.out
              have hns44_3 := NB255_248.out
              have hns44_4 := NB261_248.out
              have hms44_0 := NB248_247.out
              have hms44_2 := NB248_249.out
              have hms44_3 := NB248_255.out
              have hms44_4 := NB248_261.out
              have hs45 : w43.cell? ⟨gb248, 1, none⟩ = some (.bool x249001_2) := (blk_cell BK248.out 1).trans rfl
              have hfs45 := blk_frozen BK248.out 1
              have hns45_0 := NB247_248.out
              have hns45_2 := NB249_248.out
              have hns45_3 := NB255_248.out
              have hns45_4 := NB261_248.out
              have hms45_0 := NB248_247.out
              have hms45_2 := NB248_249.out
              have hms45_3 := NB248_255.out
              have hms45_4 := NB248_261.out
              refine skip_ (w1 := ?_) (by rfl) rfl ?_ ?_
              rotate_left
              ·go_simp
               rfl
              refine hK.out _ _ ⟨((cell_far (p := ⟨gb248, _, none⟩) NB261_248.out _).trans (((cell_far (p := ⟨gb248, _, none⟩) NB261_248.out _).trans (hHeld.1)))), ((cell_far (p := ⟨gb248, _, none⟩) NB261_248.out _).trans (((cell_far (p := ⟨gb248, _, none⟩) NB261_248.out _).trans (hHeld.2.1)))), ((cell_far (p := ⟨gb248, _, none⟩) NB255_248.out _).trans (((cell_far (p := ⟨gb248, _, none⟩) NB255_248.out _).trans (hHeld.2.2.1)))), ((cell_far (p := ⟨gb248, _, none⟩) NB255_248.out _).trans (((cell_far (p := ⟨gb248, _, none⟩) NB255_248.out _).trans (hHeld.2.2.2))))⟩ (fun hHeld => ?_)
              clear hK K
              refine one_ (i := 3) (N := none) #[true, true, true, true, false] rfl rfl (by kernel_rfl) (by decide) (fun K hK => ?_)
              have hs46 : w43.cell? ⟨gb249, 0, none⟩ = some (.int .i8 x250000_2) := (blk_cell BK249.out 0).trans rfl
              have hfs46 := blk_frozen BK249.out 0
              have hns46_0 := NB247_249.out
              have hns46_1 := NB248_249.out
              have hns46_3 := NB255_249.out
              have hns46_4 := NB261_249.out
              have hms46_0 := NB249_247.out
              have hms46_1 := NB249_248.out
              have hms46_3 := NB249_255.out
              have hms46_4 := NB249_261.out
              have hs47 : w43.cell? ⟨gb249, 1, none⟩ = some (.bool x250001_2) := (blk_cell BK249.out 1).trans rfl
              have hfs47 := blk_frozen BK249.out 1
              have hns47_0 := NB247_249.out
              have hns47_1 := NB248_249.out
              have hns47_3 := NB255_249.out
              have hns47_4 := NB261_249.out
              have hms47_0 := NB249_247.out
              have hms47_1 := NB249_248.out
              have hms47_3 := NB249_255.out
              have hms47_4 := NB249_261.out
              refine skip_ (w1 := ?_) (by rfl) rfl ?_ ?_
              rotate_left
              ·go_simp
               rfl
              refine hK.out _ _ ⟨((cell_far (p := ⟨gb249, _, none⟩) NB261_249.out _).trans (((cell_far (p := ⟨gb249, _, none⟩) NB261_249.out _).trans (hHeld.1)))), ((cell_far (p := ⟨gb249, _, none⟩) NB261_249.out _).trans (((cell_far (p := ⟨gb249, _, none⟩) NB261_249.out _).trans (hHeld.2.1)))), ((cell_far (p := ⟨gb249, _, none⟩) NB255_249.out _).trans (((cell_far (p := ⟨gb249, _, none⟩) NB255_249.out _).trans (hHeld.2.2.1)))), ((cell_far (p := ⟨gb249, _, none⟩) NB255_249.out _).trans (((cell_far (p := ⟨gb249, _, none⟩) NB255_249.out _).trans (hHeld.2.2.2))))⟩ (fun hHeld => ?_)
              clear hK K
              refine pure_ (i := 4) (N := some 4) (v := ?_) (a' := ?_) #[true, true, true, true, true] rfl rfl (by kernel_rfl) (fun _ _ _ h => h) (Or.inl ⟨by rfl, ?_⟩) ?_ ?_
              rotate_left
              ·intro w'
               go_simp
               with_reducible rfl
              rotate_left
              ·simp only [Act.put, List.setIfInBounds_toArray, List.set_cons_zero, List.set_cons_succ, i64_w, i32_w]
               rfl
              refine done_ (by kernel_rfl) ?_
              try go_wp2
              refine bodyPost_ret (results_list (rs := [.cell 2 37, .cell 3 37, .tmp 4]) rfl (by simp) (.cell gb248 37 #[.int .i8 ((rd_T37 y256 x28_2).f0), .bool ((rd_T37 y256 x28_2).f1)] (0, 0) _ rfl (by (with_reducible repeat (first | refine blk_drewN ?_ _ | refine blk_drew ?_ | refine blk_alloc ?_ _)); refine blk_far ?_ NB248_249.out _; (with_reducible repeat (first | refine blk_drewN ?_ _ | refine blk_drew ?_ | refine blk_alloc ?_ _)); refine blk_far ?_ NB248_249.out _; (with_reducible repeat (first | refine blk_drewN ?_ _ | refine blk_drew ?_ | refine blk_alloc ?_ _)); refine blk_put (cs := #[.int .i8 ((rd_T37 y256 x28_2).f0), .bool x249001_2]) ?_ 1 _ rfl; (with_reducible repeat (first | refine blk_drewN ?_ _ | refine blk_drew ?_ | refine blk_alloc ?_ _)); refine blk_put (cs := #[.int .i8 x249000_2, .bool x249001_2]) ?_ 0 _ rfl; (with_reducible repeat (first | refine blk_drewN ?_ _ | refine blk_drew ?_ | refine blk_alloc ?_ _)); exact BK248.out) Try.underlying37 rfl (by kernel_rfl) (.cell gb249 37 #[.int .i8 ((rd_T37 t251 x19_1).f0), .bool ((rd_T37 t251 x19_1).f1)] (0, 0) _ rfl (by (with_reducible repeat (first | refine blk_drewN ?_ _ | refine blk_drew ?_ | refine blk_alloc ?_ _)); refine blk_put (cs := #[.int .i8 ((rd_T37 t251 x19_1).f0), .bool x250001_2]) ?_ 1 _ rfl; (with_reducible repeat (first | refine blk_drewN ?_ _ | refine blk_drew ?_ | refine blk_alloc ?_ _)); refine blk_put (cs := #[.int .i8 x250000_2, .bool x250001_2]) ?_ 0 _ rfl; (with_reducible repeat (first | refine blk_drewN ?_ _ | refine blk_drew ?_ | refine blk_alloc ?_ _)); refine blk_far ?_ NB249_248.out _; (with_reducible repeat (first | refine blk_drewN ?_ _ | refine blk_drew ?_ | refine blk_alloc ?_ _)); refine blk_far ?_ NB249_248.out _; (with_reducible repeat (first | refine blk_drewN ?_ _ | refine blk_drew ?_ | refine blk_alloc ?_ _)); exact BK249.out) Try.underlying37 rfl (by kernel_rfl) (.tmp .nil)))) rfl ?_
              exact ⟨by first | rfl | (simp [errW_none, errW_some] <;> rfl) | (simp [*, errW_none, errW_some] <;> rfl), by repeat (first | (with_reducible first | exact HB.out | apply below_alloc | apply pw_below_drewN | apply below_drew1 | refine below_set ?_ GE247.out | refine below_set ?_ GE248.out | refine below_set ?_ GE249.out | refine below_set ?_ GE255.out | refine below_set ?_ GE261.out) | exact HB.out)⟩
             ·rw [if_neg c32] at H
              have c32b0 : (t262 == t266 && (t263 == t267 && (t264 == t268 && (t265 == t269)))) = false := by simpa using c32
              (try (have c32b1 : decide (t262 = t266 && (t263 == t267 && (t264 == t268 && (t265 == t269)))) = false := by simpa using c32))
              (try (have c32b2 : (t262 == t266 && (t263 == t267 && (t264 == t268 && (t265 == t269)))) = false := by simpa using c32))
              (try (have c32b3 : ¬ (t262 = t266 && (t263 == t267 && (t264 == t268 && (t265 == t269)))) := by simpa using c32))
              clear c32
              have H' := Aside0.mk H
              clear H
              have p260 : 0 ≤ (x28_2 : Int) := asm_
              have q260 : x28_2 < (y256.length : Int) := asm_
              obtain ⟨ad260, e260, hx260_0, hx260_1⟩ := at_T37 HR259.out x28_2 p260 q260
              obtain rfl : ad254 = ad260 := (by injection e260)
              (try replace hx260_0 := (HB.out.cell (World.block_lt_of_cell? w _ hx260_0)).trans hx260_0)
              (try replace hx260_1 := (HB.out.cell (World.block_lt_of_cell? w _ hx260_1)).trans hx260_1)
              replace p260 := eq_true p260
              replace q260 := eq_true q260
              try go_wp2_with (first | ((with_reducible refine gate_dst (N := 9) rfl ?_); refine box_event ?hg (N := 9) ?hd (cs := #[.int .i8 0, .bool false]) (t := 37) ?hr ?_; (case hd => rfl); (case hg => rfl); (case hr => first | (go_simp; done) | (go_simp; rfl)); intro gb261 hg w48 hbox hb; have n0_ := Aside0.mk (Kd.R_below (Kd.R_elderB (pr_ HO_5) gb261 (Nat.le_of_eq hg.symm)) hb); have n1_ := Aside0.mk (Kd.R_below (Kd.R_elderB (pr_ HO_17) gb261 (Nat.le_of_eq hg.symm)) hb); have n2_ := Aside0.mk (blk_below (g := gb247) (o := .cells #[.int .i8 a0_0, .int .i8 a0_1, .slice A0_2 l0_2.length c0_2] 35 (0, 0)) (pl_ BK247) hb); have n3_ := Aside0.mk (blk_below (g := gb248) (o := .cells #[.int .i8 x249000_2, .bool x249001_2] 37 (0, 0)) (pl_ BK248) hb); have n4_ := Aside0.mk (blk_below (g := gb249) (o := .cells #[.int .i8 x250000_2, .bool x250001_2] 37 (0, 0)) (pl_ BK249) hb); have n5_ := Aside0.mk (blk_below (g := gb255) (o := .cells #[.int .i8 ((rd_T37 t251 x19_1).f0), .bool ((rd_T37 t251 x19_1).f1)] 37 (0, 0)) (pl_ BK255) hb); have n6_ := Aside0.mk (Kd.C_below (by repeat (first | (with_reducible exact HR259.out) | (with_reducible refine Kd.C_alloc ?_ _) | (with_reducible refine Kd.C_drewN ?_ _) | (with_reducible refine Kd.C_drew ?_) | exact HR259.out)) hb); have n7_ := Aside0.mk (below_step (by repeat (first | (with_reducible first | exact HB.out | apply below_alloc | apply pw_below_drewN | apply below_drew1 | refine below_set ?_ GE247.out | refine below_set ?_ GE248.out | refine below_set ?_ GE249.out | refine below_set ?_ GE255.out) | exact HB.out)) hb); have n8_ := Aside0.mk (hbox); have n9_ := Aside0.mk ((by rw [hg]; exact (below_size (by repeat (first | (with_reducible first | exact HB.out | apply below_alloc | apply pw_below_drewN | apply below_drew1 | refine below_set ?_ GE247.out | refine below_set ?_ GE248.out | refine below_set ?_ GE249.out | refine below_set ?_ GE255.out) | exact HB.out))) : w.heap.size ≤ gb261)); have n10_ := Aside0.mk ((by rw [hg]; exact (below_size (by repeat (first | (with_reducible first | exact HB.out | apply below_alloc | apply pw_below_drewN | apply below_drew1 | refine below_set ?_ GE247.out | refine below_set ?_ GE248.out | refine below_set ?_ GE249.out | refine below_set ?_ GE255.out) | exact HB.out))) : w.heap.size ≤ gb261)); have n11_ := Aside0.mk ((by rw [hg]; exact Nat.ne_of_lt (blk_lt (g := gb247) (o := .cells #[.int .i8 a0_0, .int .i8 a0_1, .slice A0_2 l0_2.length c0_2] 35 (0, 0)) (pl_ BK247)) : gb247 ≠ gb261)); have n12_ := Aside0.mk ((by rw [hg]; exact Nat.ne_of_gt (blk_lt (g := gb247) (o := .cells #[.int .i8 a0_0, .int .i8 a0_1, .slice A0_2 l0_2.length c0_2] 35 (0, 0)) (pl_ BK247)) : gb261 ≠ gb247)); have n13_ := Aside0.mk ((by rw [hg]; exact Nat.ne_of_lt (blk_lt (g := gb248) (o := .cells #[.int .i8 x249000_2, .bool x249001_2] 37 (0, 0)) (pl_ BK248)) : gb248 ≠ gb261)); have n14_ := Aside0.mk ((by rw [hg]; exact Nat.ne_of_gt (blk_lt (g := gb248) (o := .cells #[.int .i8 x249000_2, .bool x249001_2] 37 (0, 0)) (pl_ BK248)) : gb261 ≠ gb248)); have n15_ := Aside0.mk ((by rw [hg]; exact Nat.ne_of_lt (blk_lt (g := gb249) (o := .cells #[.int .i8 x250000_2, .bool x250001_2] 37 (0, 0)) (pl_ BK249)) : gb249 ≠ gb261)); have n16_ := Aside0.mk ((by rw [hg]; exact Nat.ne_of_gt (blk_lt (g := gb249) (o := .cells #[.int .i8 x250000_2, .bool x250001_2] 37 (0, 0)) (pl_ BK249)) : gb261 ≠ gb249)); have n17_ := Aside0.mk ((by rw [hg]; exact Nat.ne_of_lt (blk_lt (g := gb255) (o := .cells #[.int .i8 ((rd_T37 t251 x19_1).f0), .bool ((rd_T37 t251 x19_1).f1)] 37 (0, 0)) (pl_ BK255)) : gb255 ≠ gb261)); have n18_ := Aside0.mk ((by rw [hg]; exact Nat.ne_of_gt (blk_lt (g := gb255) (o := .cells #[.int .i8 ((rd_T37 t251 x19_1).f0), .bool ((rd_T37 t251 x19_1).f1)] 37 (0, 0)) (pl_ BK255)) : gb261 ≠ gb255)); clear HO_5; clear HO_17; clear BK247; clear BK248; clear BK249; clear BK255; clear HR259; clear HB; have HO_5 := n0_; have HO_17 := n1_; have BK247 := n2_; have BK248 := n3_; have BK249 := n4_; have BK255 := n5_; have HR259 := n6_; have HB := n7_; have BK261 := n8_; have GW261 := n9_; have GE261 := n10_; have NB247_261 := n11_; have NB261_247 := n12_; have NB248_261 := n13_; have NB261_248 := n14_; have NB249_261 := n15_; have NB261_249 := n16_; have NB255_261 := n17_; have NB261_255 := n18_; clear n0_ n1_ n2_ n3_ n4_ n5_ n6_ n7_ n8_ n9_ n10_ n11_ n12_ n13_ n14_ n15_ n16_ n17_ n18_; clear hb hbox hg; have hnb49 := NB261_247.out; have hnc49 := NB247_261.out; have hnb50 := NB261_248.out; have hnc50 := NB248_261.out; have hnb51 := NB261_249.out; have hnc51 := NB249_261.out; have hnb52 := NB261_255.out; have hnc52 := NB255_261.out; have hcz53_0 : w48.cell? ⟨gb261, 0, none⟩ = some (.int .i8 0) := (blk_cell BK261.out 0).trans rfl; have hcz53_1 : w48.cell? ⟨gb261, 1, none⟩ = some (.bool false) := (blk_cell BK261.out 1).trans rfl; have hfz53_0 := blk_frozen BK261.out 0; have hfz53_1 := blk_frozen BK261.out 1))
              have n0_ : Aside0 (Kd.C k37 ((w48.setCell ⟨gb261, 0, none⟩ (.int .i8 ((rd_T37 y256 x28_2).f0))).setCell ⟨gb261, 1, none⟩ (.bool ((rd_T37 y256 x28_2).f1))) (some ad254) y256.length y256) := ⟨by have h_ := Kd.C_take (m := (x19_1 : Int).toNat) ((Kd.R_reads' ((show Kd.R k37 37 ((w48.setCell ⟨gb261, 0, none⟩ (.int .i8 ((rd_T37 y256 x28_2).f0))).setCell ⟨gb261, 1, none⟩ (.bool ((rd_T37 y256 x28_2).f1))) w.heap.size (fun k_ => k_ ≠ gb248 ∧ k_ ≠ gb249 ∧ k_ ≠ gb255 ∧ k_ ≠ gb261) (.slice (some ad254) t251.length co14) t251 from by (with_reducible repeat (first | apply Kd.R_alloc | apply Kd.R_drewN | apply Kd.R_drew)); exact Kd.R_mono (Kd.R_far (p := ⟨gb261, 1, none⟩) (Kd.R_far (p := ⟨gb261, 0, none⟩) (Kd.R_mono HO_5.out (fun k_ hk => (⟨hk, hk.2⟩ : _ ∧ k_ ≠ gb261))) (fun _ hk => hk.2) (.int .i8 ((rd_T37 y256 x28_2).f0))) (fun _ hk => hk.2) (.bool ((rd_T37 y256 x28_2).f1))) (fun _ hk => ⟨hk.1.1.1, ⟨hk.1.1.2.1, ⟨hk.1.1.2.2, hk.1.2⟩⟩⟩)))).2.2) KL26.out; rw [← Ny256.out] at h_; exact h_⟩
              have n1_ : Aside0 (Kd.R k37 37 ((w48.setCell ⟨gb261, 0, none⟩ (.int .i8 ((rd_T37 y256 x28_2).f0))).setCell ⟨gb261, 1, none⟩ (.bool ((rd_T37 y256 x28_2).f1))) w.heap.size (fun k_ => k_ ≠ gb248 ∧ k_ ≠ gb249 ∧ k_ ≠ gb255 ∧ k_ ≠ gb261) (.slice (some ad254) t251.length co14) t251) := ⟨by (with_reducible repeat (first | apply Kd.R_alloc | apply Kd.R_drewN | apply Kd.R_drew)); exact Kd.R_mono (Kd.R_far (p := ⟨gb261, 1, none⟩) (Kd.R_far (p := ⟨gb261, 0, none⟩) (Kd.R_mono HO_5.out (fun k_ hk => (⟨hk, hk.2⟩ : _ ∧ k_ ≠ gb261))) (fun _ hk => hk.2) (.int .i8 ((rd_T37 y256 x28_2).f0))) (fun _ hk => hk.2) (.bool ((rd_T37 y256 x28_2).f1))) (fun _ hk => ⟨hk.1.1.1, ⟨hk.1.1.2.1, ⟨hk.1.1.2.2, hk.1.2⟩⟩⟩)⟩
              have n2_ : Aside0 (Kd.R k37 37 ((w48.setCell ⟨gb261, 0, none⟩ (.int .i8 ((rd_T37 y256 x28_2).f0))).setCell ⟨gb261, 1, none⟩ (.bool ((rd_T37 y256 x28_2).f1))) w.heap.size (fun k_ => k_ ≠ gb248 ∧ k_ ≠ gb249 ∧ k_ ≠ gb255 ∧ k_ ≠ gb261) (.slice (some ad254) t251.length co14) t251) := ⟨by (with_reducible repeat (first | apply Kd.R_alloc | apply Kd.R_drewN | apply Kd.R_drew)); exact Kd.R_mono (Kd.R_far (p := ⟨gb261, 1, none⟩) (Kd.R_far (p := ⟨gb261, 0, none⟩) (Kd.R_mono HO_17.out (fun k_ hk => (⟨hk, hk.2⟩ : _ ∧ k_ ≠ gb261))) (fun _ hk => hk.2) (.int .i8 ((rd_T37 y256 x28_2).f0))) (fun _ hk => hk.2) (.bool ((rd_T37 y256 x28_2).f1))) (fun _ hk => ⟨hk.1.1.1, ⟨hk.1.1.2.1, ⟨hk.1.1.2.2, hk.1.2⟩⟩⟩)⟩
              have n3_ : Aside0 (((w48.setCell ⟨gb261, 0, none⟩ (.int .i8 ((rd_T37 y256 x28_2).f0))).setCell ⟨gb261, 1, none⟩ (.bool ((rd_T37 y256 x28_2).f1))).heap[gb247]? = some (.cells #[.int .i8 a0_0, .int .i8 a0_1, .slice A0_2 l0_2.length c0_2] 35 (0, 0))) := ⟨by (with_reducible repeat (first | refine blk_drewN ?_ _ | refine blk_drew ?_ | refine blk_alloc ?_ _)); refine blk_far ?_ NB247_261.out _; (with_reducible repeat (first | refine blk_drewN ?_ _ | refine blk_drew ?_ | refine blk_alloc ?_ _)); refine blk_far ?_ NB247_261.out _; (with_reducible repeat (first | refine blk_drewN ?_ _ | refine blk_drew ?_ | refine blk_alloc ?_ _)); exact BK247.out⟩
              have n4_ : Aside0 (((w48.setCell ⟨gb261, 0, none⟩ (.int .i8 ((rd_T37 y256 x28_2).f0))).setCell ⟨gb261, 1, none⟩ (.bool ((rd_T37 y256 x28_2).f1))).heap[gb248]? = some (.cells #[.int .i8 x249000_2, .bool x249001_2] 37 (0, 0))) := ⟨by (with_reducible repeat (first | refine blk_drewN ?_ _ | refine blk_drew ?_ | refine blk_alloc ?_ _)); refine blk_far ?_ NB248_261.out _; (with_reducible repeat (first | refine blk_drewN ?_ _ | refine blk_drew ?_ | refine blk_alloc ?_ _)); refine blk_far ?_ NB248_261.out _; (with_reducible repeat (first | refine blk_drewN ?_ _ | refine blk_drew ?_ | refine blk_alloc ?_ _)); exact BK248.out⟩
              have n5_ : Aside0 (((w48.setCell ⟨gb261, 0, none⟩ (.int .i8 ((rd_T37 y256 x28_2).f0))).setCell ⟨gb261, 1, none⟩ (.bool ((rd_T37 y256 x28_2).f1))).heap[gb249]? = some (.cells #[.int .i8 x250000_2, .bool x250001_2] 37 (0, 0))) := ⟨by (with_reducible repeat (first | refine blk_drewN ?_ _ | refine blk_drew ?_ | refine blk_alloc ?_ _)); refine blk_far ?_ NB249_261.out _; (with_reducible repeat (first | refine blk_drewN ?_ _ | refine blk_drew ?_ | refine blk_alloc ?_ _)); refine blk_far ?_ NB249_261.out _; (with_reducible repeat (first | refine blk_drewN ?_ _ | refine blk_drew ?_ | refine blk_alloc ?_ _)); exact BK249.out⟩
              have n6_ : Aside0 (((w48.setCell ⟨gb261, 0, none⟩ (.int .i8 ((rd_T37 y256 x28_2).f0))).setCell ⟨gb261, 1, none⟩ (.bool ((rd_T37 y256 x28_2).f1))).heap[gb255]? = some (.cells #[.int .i8 ((rd_T37 t251 x19_1).f0), .bool ((rd_T37 t251 x19_1).f1)] 37 (0, 0))) := ⟨by (with_reducible repeat (first | refine blk_drewN ?_ _ | refine blk_drew ?_ | refine blk_alloc ?_ _)); refine blk_far ?_ NB255_261.out _; (with_reducible repeat (first | refine blk_drewN ?_ _ | refine blk_drew ?_ | refine blk_alloc ?_ _)); refine blk_far ?_ NB255_261.out _; (with_reducible repeat (first | refine blk_drewN ?_ _ | refine blk_drew ?_ | refine blk_alloc ?_ _)); exact BK255.out⟩
              have n7_ : Aside0 (((w48.setCell ⟨gb261, 0, none⟩ (.int .i8 ((rd_T37 y256 x28_2).f0))).setCell ⟨gb261, 1, none⟩ (.bool ((rd_T37 y256 x28_2).f1))).heap[gb261]? = some (.cells #[.int .i8 ((rd_T37 y256 x28_2).f0), .bool ((rd_T37 y256 x28_2).f1)] 37 (0, 0))) := ⟨by (with_reducible repeat (first | refine blk_drewN ?_ _ | refine blk_drew ?_ | refine blk_alloc ?_ _)); refine blk_put (cs := #[.int .i8 ((rd_T37 y256 x28_2).f0), .bool false]) ?_ 1 _ rfl; (with_reducible repeat (first | refine blk_drewN ?_ _ | refine blk_drew ?_ | refine blk_alloc ?_ _)); refine blk_put (cs := #[.int .i8 0, .bool false]) ?_ 0 _ rfl; (with_reducible repeat (first | refine blk_drewN ?_ _ | refine blk_drew ?_ | refine blk_alloc ?_ _)); exact BK261.out⟩
              have n8_ : Aside0 (Below w.heap.size w ((w48.setCell ⟨gb261, 0, none⟩ (.int .i8 ((rd_T37 y256 x28_2).f0))).setCell ⟨gb261, 1, none⟩ (.bool ((rd_T37 y256 x28_2).f1)))) := ⟨by repeat (first | (with_reducible first | exact HB.out | apply below_alloc | apply pw_below_drewN | apply below_drew1 | refine below_set ?_ GE247.out | refine below_set ?_ GE248.out | refine below_set ?_ GE249.out | refine below_set ?_ GE255.out | refine below_set ?_ GE261.out) | exact HB.out)⟩
              (try clear HR259)
              (try clear HO_5)
              (try clear HO_17)
              (try clear BK247)
              (try clear BK248)
              (try clear BK249)
              (try clear BK255)
              (try clear BK261)
              (try clear HB)
              generalize ((w48.setCell ⟨gb261, 0, none⟩ (.int .i8 ((rd_T37 y256 x28_2).f0))).setCell ⟨gb261, 1, none⟩ (.bool ((rd_T37 y256 x28_2).f1))) = w54 at n0_ n1_ n2_ n3_ n4_ n5_ n6_ n7_ n8_ ⊢
              have HR259 := n0_
              have HO_5 := n1_
              have HO_17 := n2_
              have BK247 := n3_
              have BK248 := n4_
              have BK249 := n5_
              have BK255 := n6_
              have BK261 := n7_
              have HB := n8_
              clear n0_ n1_ n2_ n3_ n4_ n5_ n6_ n7_ n8_
              have n0_ := Aside0.mk (Kd.R_drew HO_5.out)
              have n1_ := Aside0.mk (Kd.R_drew HO_17.out)
              have n2_ := Aside0.mk (blk_drew BK247.out)
              have n3_ := Aside0.mk (blk_drew BK248.out)
              have n4_ := Aside0.mk (blk_drew BK249.out)
              have n5_ := Aside0.mk (blk_drew BK255.out)
              have n6_ := Aside0.mk (blk_drew BK261.out)
              have n7_ := Aside0.mk (Kd.C_drew HR259.out)
              have n8_ := Aside0.mk (below_drew1 HB.out)
              clear HO_5
              clear HO_17
              clear BK247
              clear BK248
              clear BK249
              clear BK255
              clear BK261
              clear HR259
              clear HB
              have HO_5 := n0_
              have HO_17 := n1_
              have BK247 := n2_
              have BK248 := n3_
              have BK249 := n4_
              have BK255 := n5_
              have BK261 := n6_
              have HR259 := n7_
              have HB := n8_
              clear n0_ n1_ n2_ n3_ n4_ n5_ n6_ n7_ n8_
              refine start_ (n := 7) (S := fun w' => w'.cell? ⟨gb247, 0, none⟩ = some (.int .i8 a0_0) ∧ w'.cell? ⟨gb247, 1, none⟩ = some (.int .i8 a0_1) ∧ w'.cell? ⟨gb247, 2, none⟩ = some (.slice A0_2 l0_2.length c0_2) ∧ w'.cell? ⟨gb261, 0, none⟩ = some (.int .i8 ((rd_T37 y256 x28_2).f0)) ∧ w'.cell? ⟨gb261, 1, none⟩ = some (.bool ((rd_T37 y256 x28_2).f1)) ∧ w'.cell? ⟨gb255, 0, none⟩ = some (.int .i8 ((rd_T37 t251 x19_1).f0)) ∧ w'.cell? ⟨gb255, 1, none⟩ = some (.bool ((rd_T37 t251 x19_1).f1))) (ds := []) #[false, false, false, false, false, false, false] (by kernel_rfl) rfl rfl ⟨(blk_cell BK247.out 0).trans rfl, (blk_cell BK247.out 1).trans rfl, (blk_cell BK247.out 2).trans rfl, (blk_cell BK261.out 0).trans rfl, (blk_cell BK261.out 1).trans rfl, (blk_cell BK255.out 0).trans rfl, (blk_cell BK255.out 1).trans rfl⟩ (fun hHeld => ?_)
              generalize w54.drew = w55 at HO_5 HO_17 BK247 BK248 BK249 BK255 BK261 HR259 HB hHeld ⊢
              refine take_ (i := 0) (N := some 32) (v := ?_) (a' := ?_) #[true, false, false, false, false, false, false] rfl rfl (by kernel_rfl) (fun _ _ _ h => h) (Or.inl ⟨by rfl, ?_⟩) hHeld ?_ ?_
              rotate_left
              ·rintro w' ⟨s0, s1, s2, s3, s4, s5, s6⟩
               go_simp
               with_reducible rfl
              rotate_left
              ·simp only [Act.put, List.setIfInBounds_toArray, List.set_cons_zero, List.set_cons_succ, i64_w, i32_w]
               rfl
              refine take_ (i := 1) (N := some 33) (v := ?_) (a' := ?_) #[true, true, false, false, false, false, false] rfl rfl (by kernel_rfl) (fun _ _ _ h => h) (Or.inl ⟨by rfl, ?_⟩) hHeld ?_ ?_
              rotate_left
              ·rintro w' ⟨s0, s1, s2, s3, s4, s5, s6⟩
               go_simp
               with_reducible rfl
              rotate_left
              ·simp only [Act.put, List.setIfInBounds_toArray, List.set_cons_zero, List.set_cons_succ, i64_w, i32_w]
               rfl
              refine take_ (i := 3) (N := some 35) (v := ?_) (a' := ?_) #[true, true, false, true, false, false, false] rfl rfl (by kernel_rfl) (fun _ _ _ h => h) (Or.inl ⟨by rfl, ?_⟩) hHeld ?_ ?_
              rotate_left
              ·rintro w' ⟨s0, s1, s2, s3, s4, s5, s6⟩
               go_simp
               with_reducible rfl
              rotate_left
              ·simp only [Act.put, List.setIfInBounds_toArray, List.set_cons_zero, List.set_cons_succ, i64_w, i32_w]
               rfl
              refine take_ (i := 4) (N := some 36) (v := ?_) (a' := ?_) #[true, true, false, true, true, false, false] rfl rfl (by kernel_rfl) (fun _ _ _ h => h) (Or.inl ⟨by rfl, ?_⟩) hHeld ?_ ?_
              rotate_left
              ·rintro w' ⟨s0, s1, s2, s3, s4, s5, s6⟩
               go_simp
               with_reducible rfl
              rotate_left
              ·simp only [Act.put, List.setIfInBounds_toArray, List.set_cons_zero, List.set_cons_succ, i64_w, i32_w]
               rfl
              refine one_ (i := 2) (N := some 34) #[true, true, true, true, true, false, false] rfl rfl (by kernel_rfl) (by decide) (fun K hK => ?_)
              refine goes_ Try.func36 (by kernel_rfl) rfl #[.agg #[.int .i8 a0_0, .int .i8 a0_1, .slice A0_2 l0_2.length c0_2], .agg #[.int .i8 ((rd_T37 y256 x28_2).f0), .bool ((rd_T37 y256 x28_2).f1)]] (by rfl) rfl rfl (by (try simp only [List.map_toArray, List.map_cons, List.map_nil]); first | done | rfl | (simp only [List.length_drop, List.length_take]; rfl)) ?_
              with_reducible refine (impl_Fixed_seen.calls k2 a0_0 a0_1 _ _ l0_2 ((rd_T37 y256 x28_2).f0) ((rd_T37 y256 x28_2).f1) t262 t263 t264 t265 _ ?side1 ?side2 A30.out).mono ?_
              (case side1 => repeat (first | exact (Kd.C_below HR0_2.out HB.out) | (with_reducible refine Kd.C_alloc ?_ _) | (with_reducible refine Kd.C_drewN ?_ _) | (with_reducible refine Kd.C_drew ?_)))
              (case side2 => exact HC0_2.out)
              rintro e w56 ⟨rfl, hb⟩
              refine ⟨_, rfl, ?_⟩
              have n0_ := Aside0.mk (Kd.R_below (pr_ HO_5) hb)
              have n1_ := Aside0.mk (Kd.R_below (pr_ HO_17) hb)
              have n2_ := Aside0.mk (blk_below (g := gb247) (o := .cells #[.int .i8 a0_0, .int .i8 a0_1, .slice A0_2 l0_2.length c0_2] 35 (0, 0)) (pl_ BK247) hb)
              have n3_ := Aside0.mk (blk_below (g := gb248) (o := .cells #[.int .i8 x249000_2, .bool x249001_2] 37 (0, 0)) (pl_ BK248) hb)
              have n4_ := Aside0.mk (blk_below (g := gb249) (o := .cells #[.int .i8 x250000_2, .bool x250001_2] 37 (0, 0)) (pl_ BK249) hb)
              have n5_ := Aside0.mk (blk_below (g := gb255) (o := .cells #[.int .i8 ((rd_T37 t251 x19_1).f0), .bool ((rd_T37 t251 x19_1).f1)] 37 (0, 0)) (pl_ BK255) hb)
              have n6_ := Aside0.mk (Kd.C_below (by repeat (first | (with_reducible exact HR259.out) | (with_reducible refine Kd.C_alloc ?_ _) | (with_reducible refine Kd.C_drewN ?_ _) | (with_reducible refine Kd.C_drew ?_) | exact HR259.out)) hb)
              have n7_ := Aside0.mk (blk_below (g := gb261) (o := .cells #[.int .i8 ((rd_T37 y256 x28_2).f0), .bool ((rd_T37 y256 x28_2).f1)] 37 (0, 0)) (pl_ BK261) hb)
              have n8_ := Aside0.mk (below_step (by repeat (first | (with_reducible first | exact HB.out | apply below_alloc | apply pw_below_drewN | apply below_drew1 | refine below_set ?_ GE247.out | refine below_set ?_ GE248.out | refine below_set ?_ GE249.out | refine below_set ?_ GE255.out | refine below_set ?_ GE261.out) | exact HB.out)) hb)
              clear HO_5
              clear HO_17
              clear BK247
              clear BK248
              clear BK249
              clear BK255
              clear HR259
              clear BK261
              clear HB
              have HO_5 := n0_
              have HO_17 := n1_
              have BK247 := n2_
              have BK248 := n3_
              have BK249 := n4_
              have BK255 := n5_
              have HR259 := n6_
              have BK261 := n7_
              have HB := n8_
              clear n0_ n1_ n2_ n3_ n4_ n5_ n6_ n7_ n8_
              (try clear hb)
              (try clear hb2)
              (try clear hk)
              (try clear hi)
              refine hK.out _ _ ⟨(blk_cell BK247.out 0).trans rfl, (blk_cell BK247.out 1).trans rfl, (blk_cell BK247.out 2).trans rfl, (blk_cell BK261.out 0).trans rfl, (blk_cell BK261.out 1).trans rfl, (blk_cell BK255.out 0).trans rfl, (blk_cell BK255.out 1).trans rfl⟩ (fun hHeld => ?_)
              clear hK K
              refine norm_ (a' := ?_) ?_ ?_
              rotate_left
              ·show Act.put _ (some 34) _ = _
               simp only [Act.put, List.setIfInBounds_toArray, List.set_cons_zero, List.set_cons_succ, i64_w, i32_w]
               rfl
              refine one_ (i := 5) (N := some 37) #[true, true, true, true, true, true, false] rfl rfl (by kernel_rfl) (by decide) (fun K hK => ?_)
              refine goes_ Try.func36 (by kernel_rfl) rfl #[.agg #[.int .i8 a0_0, .int .i8 a0_1, .slice A0_2 l0_2.length c0_2], .agg #[.int .i8 ((rd_T37 t251 x19_1).f0), .bool ((rd_T37 t251 x19_1).f1)]] (by rfl) rfl rfl (by (try simp only [List.map_toArray, List.map_cons, List.map_nil]); first | done | rfl | (simp only [List.length_drop, List.length_take]; rfl)) ?_
              with_reducible refine (impl_Fixed_seen.calls k2 a0_0 a0_1 _ _ l0_2 ((rd_T37 t251 x19_1).f0) ((rd_T37 t251 x19_1).f1) t266 t267 t268 t269 _ ?side1 ?side2 A31.out).mono ?_
              (case side1 => repeat (first | exact (Kd.C_below HR0_2.out HB.out) | (with_reducible refine Kd.C_alloc ?_ _) | (with_reducible refine Kd.C_drewN ?_ _) | (with_reducible refine Kd.C_drew ?_)))
              (case side2 => exact HC0_2.out)
              rintro e w57 ⟨rfl, hb⟩
              refine ⟨_, rfl, ?_⟩
              have n0_ := Aside0.mk (Kd.R_below (pr_ HO_5) hb)
              have n1_ := Aside0.mk (Kd.R_below (pr_ HO_17) hb)
              have n2_ := Aside0.mk (blk_below (g := gb247) (o := .cells #[.int .i8 a0_0, .int .i8 a0_1, .slice A0_2 l0_2.length c0_2] 35 (0, 0)) (pl_ BK247) hb)
              have n3_ := Aside0.mk (blk_below (g := gb248) (o := .cells #[.int .i8 x249000_2, .bool x249001_2] 37 (0, 0)) (pl_ BK248) hb)
              have n4_ := Aside0.mk (blk_below (g := gb249) (o := .cells #[.int .i8 x250000_2, .bool x250001_2] 37 (0, 0)) (pl_ BK249) hb)
              have n5_ := Aside0.mk (blk_below (g := gb255) (o := .cells #[.int .i8 ((rd_T37 t251 x19_1).f0), .bool ((rd_T37 t251 x19_1).f1)] 37 (0, 0)) (pl_ BK255) hb)
              have n6_ := Aside0.mk (Kd.C_below (by repeat (first | (with_reducible exact HR259.out) | (with_reducible refine Kd.C_alloc ?_ _) | (with_reducible refine Kd.C_drewN ?_ _) | (with_reducible refine Kd.C_drew ?_) | exact HR259.out)) hb)
              have n7_ := Aside0.mk (blk_below (g := gb261) (o := .cells #[.int .i8 ((rd_T37 y256 x28_2).f0), .bool ((rd_T37 y256 x28_2).f1)] 37 (0, 0)) (pl_ BK261) hb)
              have n8_ := Aside0.mk (below_step (by repeat (first | (with_reducible first | exact HB.out | apply below_alloc | apply pw_below_drewN | apply below_drew1 | refine below_set ?_ GE247.out | refine below_set ?_ GE248.out | refine below_set ?_ GE249.out | refine below_set ?_ GE255.out | refine below_set ?_ GE261.out) | exact HB.out)) hb)
              clear HO_5
              clear HO_17
              clear BK247
              clear BK248
              clear BK249
              clear BK255
              clear HR259
              clear BK261
              clear HB
              have HO_5 := n0_
              have HO_17 := n1_
              have BK247 := n2_
              have BK248 := n3_
              have BK249 := n4_
              have BK255 := n5_
              have HR259 := n6_
              have BK261 := n7_
              have HB := n8_
              clear n0_ n1_ n2_ n3_ n4_ n5_ n6_ n7_ n8_
              (try clear hb)
              (try clear hb2)
              (try clear hk)
              (try clear hi)
              refine hK.out _ _ ⟨(blk_cell BK247.out 0).trans rfl, (blk_cell BK247.out 1).trans rfl, (blk_cell BK247.out 2).trans rfl, (blk_cell BK261.out 0).trans rfl, (blk_cell BK261.out 1).trans rfl, (blk_cell BK255.out 0).trans rfl, (blk_cell BK255.out 1).trans rfl⟩ (fun hHeld => ?_)
              clear hK K
              refine norm_ (a' := ?_) ?_ ?_
              rotate_left
              ·show Act.put _ (some 37) _ = _
               simp only [Act.put, List.setIfInBounds_toArray, List.set_cons_zero, List.set_cons_succ, i64_w, i32_w]
               rfl
              refine pure_ (i := 6) (N := some 38) (v := ?_) (a' := ?_) #[true, true, true, true, true, true, true] rfl rfl (by kernel_rfl) (fun _ _ _ h => h) (Or.inl ⟨by rfl, ?_⟩) ?_ ?_
              rotate_left
              ·intro w'
               go_simp
               with_reducible rfl
              rotate_left
              ·simp only [Act.put, List.setIfInBounds_toArray, List.set_cons_zero, List.set_cons_succ, i64_w, i32_w]
               rfl
              refine done_ (by kernel_rfl) ?_
              try go_wp2
              go_roundg k2
              case measure => have := HK1.out; have := HK2.out; omega
              case rel => exact ⟨(wrap64 (x28_2 + 1)), (x249000_2), (x249001_2), (x250000_2), (x250001_2), (by first | rfl | (simp; done) | (simp [*]; done)), H', ⟨by have := HK1.out; have := HK2.out; omega⟩, ⟨by (with_reducible repeat (first | apply Kd.R_alloc | apply Kd.R_drewN | apply Kd.R_drew)); exact Kd.R_mono HO_5.out (fun _ hk => ⟨hk.1, ⟨hk.2.1, hk.2.2.1⟩⟩)⟩, ⟨by (with_reducible repeat (first | apply Kd.R_alloc | apply Kd.R_drewN | apply Kd.R_drew)); exact Kd.R_mono HO_17.out (fun _ hk => ⟨hk.1, ⟨hk.2.1, hk.2.2.1⟩⟩)⟩, ⟨pl_ BK247⟩, ⟨pl_ BK248⟩, ⟨pl_ BK249⟩, ⟨pl_ BK255⟩, ⟨by repeat (first | (with_reducible exact HR259.out) | (with_reducible refine Kd.C_alloc ?_ _) | (with_reducible refine Kd.C_drewN ?_ _) | (with_reducible refine Kd.C_drew ?_) | exact HR259.out)⟩, ⟨by repeat (first | (with_reducible first | exact HB.out | apply below_alloc | apply pw_below_drewN | apply below_drew1 | refine below_set ?_ GE247.out | refine below_set ?_ GE248.out | refine below_set ?_ GE249.out | refine below_set ?_ GE255.out | refine below_set ?_ GE261.out) | exact HB.out)⟩⟩
            ·rw [if_neg c29] at H
             exact absurd H (by simp)
           ·rw [if_neg c28] at H
            exact absurd H (by simp)
          ·rw [if_neg c27] at H
           have c27b0 : decide (x28_2 < (y256.length : Int)) = false := decide_eq_false c27
           clear c27
           have H' := Aside0.mk H
           clear H
           go_wp2
           go_roundg k2
           case measure => have := HK1.out; have := HK2.out; omega
           case rel => exact ⟨(wrap64 (x19_1 + 1)), (x249000_2), (x249001_2), (x250000_2), (x250001_2), (by first | rfl | (simp; done) | (simp [*]; done)), H', ⟨by have := HK1.out; have := HK2.out; omega⟩, ⟨by (with_reducible repeat (first | apply Kd.R_alloc | apply Kd.R_drewN | apply Kd.R_drew)); exact Kd.R_mono HO_5.out (fun _ hk => ⟨hk.1, hk.2.1⟩)⟩, ⟨by (with_reducible repeat (first | apply Kd.R_alloc | apply Kd.R_drewN | apply Kd.R_drew)); exact Kd.R_mono HO_17.out (fun _ hk => ⟨hk.1, hk.2.1⟩)⟩, ⟨pl_ BK247⟩, ⟨pl_ BK248⟩, ⟨pl_ BK249⟩, ⟨by repeat (first | (with_reducible first | exact HB.out | apply below_alloc | apply pw_below_drewN | apply below_drew1 | refine below_set ?_ GE247.out | refine below_set ?_ GE248.out | refine below_set ?_ GE249.out | refine below_set ?_ GE255.out) | exact HB.out)⟩⟩
       ·rw [if_neg c19] at H
        exact absurd H (by simp)
      ·rw [if_neg c17] at H
       exact absurd H (by simp)
     ·rw [if_neg c16] at H
      exact absurd H (by simp)
    ·rw [if_neg c15] at H
     have c15b0 : decide (x19_1 < (t251.length : Int)) = false := decide_eq_false c15
     clear c15
     simp only [Option.some.injEq, Prod.mk.injEq] at H
     obtain ⟨rfl, rfl, rfl, rfl, rfl⟩ := H
     have hnb58 := NB248_247.out
     have hnc58 := NB247_248.out
     have hnb59 := NB248_249.out
     have hnc59 := NB249_248.out
     have hcz60_0 : wr.cell? ⟨gb248, 0, none⟩ = some (.int .i8 x249000_1) := (blk_cell BK248.out 0).trans rfl
     have hcz60_1 : wr.cell? ⟨gb248, 1, none⟩ = some (.bool x249001_1) := (blk_cell BK248.out 1).trans rfl
     have hfz60_0 := blk_frozen BK248.out 0
     have hfz60_1 := blk_frozen BK248.out 1
     have hnb61 := NB249_247.out
     have hnc61 := NB247_249.out
     have hcz62_0 : wr.cell? ⟨gb249, 0, none⟩ = some (.int .i8 x250000_1) := (blk_cell BK249.out 0).trans rfl
     have hcz62_1 : wr.cell? ⟨gb249, 1, none⟩ = some (.bool x250001_1) := (blk_cell BK249.out 1).trans rfl
     have hfz62_0 := blk_frozen BK249.out 0
     have hfz62_1 := blk_frozen BK249.out 1
     go_wp2
     refine bodyPost_ret (results_list (rs := [.cell 2 37, .cell 3 37, .tmp 4]) rfl (by simp) (.cell gb248 37 #[.int .i8 0, .bool false] (0, 0) _ rfl (by (with_reducible repeat (first | refine blk_drewN ?_ _ | refine blk_drew ?_ | refine blk_alloc ?_ _)); refine blk_far ?_ NB248_249.out _; (with_reducible repeat (first | refine blk_drewN ?_ _ | refine blk_drew ?_ | refine blk_alloc ?_ _)); refine blk_far ?_ NB248_249.out _; (with_reducible repeat (first | refine blk_drewN ?_ _ | refine blk_drew ?_ | refine blk_alloc ?_ _)); refine blk_put (cs := #[.int .i8 0, .bool x249001_1]) ?_ 1 _ rfl; (with_reducible repeat (first | refine blk_drewN ?_ _ | refine blk_drew ?_ | refine blk_alloc ?_ _)); refine blk_put (cs := #[.int .i8 x249000_1, .bool x249001_1]) ?_ 0 _ rfl; (with_reducible repeat (first | refine blk_drewN ?_ _ | refine blk_drew ?_ | refine blk_alloc ?_ _)); exact BK248.out) Try.underlying37 rfl (by kernel_rfl) (.cell gb249 37 #[.int .i8 0, .bool false] (0, 0) _ rfl (by (with_reducible repeat (first | refine blk_drewN ?_ _ | refine blk_drew ?_ | refine blk_alloc ?_ _)); refine blk_put (cs := #[.int .i8 0, .bool x250001_1]) ?_ 1 _ rfl; (with_reducible repeat (first | refine blk_drewN ?_ _ | refine blk_drew ?_ | refine blk_alloc ?_ _)); refine blk_put (cs := #[.int .i8 x250000_1, .bool x250001_1]) ?_ 0 _ rfl; (with_reducible repeat (first | refine blk_drewN ?_ _ | refine blk_drew ?_ | refine blk_alloc ?_ _)); refine blk_far ?_ NB249_248.out _; (with_reducible repeat (first | refine blk_drewN ?_ _ | refine blk_drew ?_ | refine blk_alloc ?_ _)); refine blk_far ?_ NB249_248.out _; (with_reducible repeat (first | refine blk_drewN ?_ _ | refine blk_drew ?_ | refine blk_alloc ?_ _)); exact BK249.out) Try.underlying37 rfl (by kernel_rfl) (.tmp .nil)))) rfl ?_
     exact ⟨by first | rfl | (simp [errW_none, errW_some] <;> rfl) | (simp [*, errW_none, errW_some] <;> rfl), by repeat (first | (with_reducible first | exact HB.out | apply below_alloc | apply pw_below_drewN | apply below_drew1 | refine below_set ?_ GE247.out | refine below_set ?_ GE248.out | refine below_set ?_ GE249.out) | exact HB.out)⟩
 ·replace c3 := Bool.eq_false_iff.mpr c3
  subst c3
  have H1 : (some (0, false, 0, false, 1)) = some (r1, r2, r3, r4, r5) := by rw [if_neg (show ¬ (false = true) by decide)] at H; exact H
  clear H
  have H := H1
  clear H1
  simp only [Option.some.injEq, Prod.mk.injEq] at H
  obtain ⟨rfl, rfl, rfl, rfl, rfl⟩ := H
  go_enter Try.func19, Try.ntmps19
  go_wp2_with (first | ((with_reducible refine gate_dst (N := 1) rfl ?_); refine box_event ?hg (N := 1) ?hd (cs := #[.int .i8 a0_0, .int .i8 a0_1, .slice A0_2 l0_2.length c0_2]) (t := 35) ?hr ?_; (case hd => rfl); (case hg => rfl); (case hr => first | (go_simp; done) | (go_simp; rfl)); intro gb247 hg w63 hbox hb; have n0_ := Aside0.mk (below_step (bl_ HB) hb); have n1_ := Aside0.mk (hbox); have n2_ := Aside0.mk ((by rw [hg]; exact (below_size (bl_ HB)) : w.heap.size ≤ gb247)); have n3_ := Aside0.mk ((by rw [hg]; exact (below_size (bl_ HB)) : w.heap.size ≤ gb247)); clear HB; have HB := n0_; have BK247 := n1_; have GW247 := n2_; have GE247 := n3_; clear n0_ n1_ n2_ n3_; clear hb hbox hg) | ((with_reducible refine gate_dst (N := 2) rfl ?_); refine box_event ?hg (N := 2) ?hd (cs := #[.int .i8 0, .bool false]) (t := 37) ?hr ?_; (case hd => rfl); (case hg => rfl); (case hr => first | (go_simp; done) | (go_simp; rfl)); intro gb248 hg w64 hbox hb; have n0_ := Aside0.mk (blk_below (g := gb247) (o := .cells #[.int .i8 a0_0, .int .i8 a0_1, .slice A0_2 l0_2.length c0_2] 35 (0, 0)) (pl_ BK247) hb); have n1_ := Aside0.mk (below_step (by repeat (first | (with_reducible first | exact HB.out | apply below_alloc | apply pw_below_drewN | apply below_drew1 | refine below_set ?_ GE247.out) | exact HB.out)) hb); have n2_ := Aside0.mk (hbox); have n3_ := Aside0.mk ((by rw [hg]; exact (below_size (by repeat (first | (with_reducible first | exact HB.out | apply below_alloc | apply pw_below_drewN | apply below_drew1 | refine below_set ?_ GE247.out) | exact HB.out))) : w.heap.size ≤ gb248)); have n4_ := Aside0.mk ((by rw [hg]; exact (below_size (by repeat (first | (with_reducible first | exact HB.out | apply below_alloc | apply pw_below_drewN | apply below_drew1 | refine below_set ?_ GE247.out) | exact HB.out))) : w.heap.size ≤ gb248)); have n5_ := Aside0.mk ((by rw [hg]; exact Nat.ne_of_lt (blk_lt (g := gb247) (o := .cells #[.int .i8 a0_0, .int .i8 a0_1, .slice A0_2 l0_2.length c0_2] 35 (0, 0)) (pl_ BK247)) : gb247 ≠ gb248)); have n6_ := Aside0.mk ((by rw [hg]; exact Nat.ne_of_gt (blk_lt (g := gb247) (o := .cells #[.int .i8 a0_0, .int .i8 a0_1, .slice A0_2 l0_2.length c0_2] 35 (0, 0)) (pl_ BK247)) : gb248 ≠ gb247)); clear BK247; clear HB; have BK247 := n0_; have HB := n1_; have BK248 := n2_; have GW248 := n3_; have GE248 := n4_; have NB247_248 := n5_; have NB248_247 := n6_; clear n0_ n1_ n2_ n3_ n4_ n5_ n6_; clear hb hbox hg) | ((with_reducible refine gate_dst (N := 3) rfl ?_); refine box_event ?hg (N := 3) ?hd (cs := #[.int .i8 0, .bool false]) (t := 37) ?hr ?_; (case hd => rfl); (case hg => rfl); (case hr => first | (go_simp; done) | (go_simp; rfl)); intro gb249 hg w65 hbox hb; have n0_ := Aside0.mk (blk_below (g := gb247) (o := .cells #[.int .i8 a0_0, .int .i8 a0_1, .slice A0_2 l0_2.length c0_2] 35 (0, 0)) (pl_ BK247) hb); have n1_ := Aside0.mk (blk_below (g := gb248) (o := .cells #[.int .i8 0, .bool false] 37 (0, 0)) (pl_ BK248) hb); have n2_ := Aside0.mk (below_step (by repeat (first | (with_reducible first | exact HB.out | apply below_alloc | apply pw_below_drewN | apply below_drew1 | refine below_set ?_ GE247.out | refine below_set ?_ GE248.out) | exact HB.out)) hb); have n3_ := Aside0.mk (hbox); have n4_ := Aside0.mk ((by rw [hg]; exact (below_size (by repeat (first | (with_reducible first | exact HB.out | apply below_alloc | apply pw_below_drewN | apply below_drew1 | refine below_set ?_ GE247.out | refine below_set ?_ GE248.out) | exact HB.out))) : w.heap.size ≤ gb249)); have n5_ := Aside0.mk ((by rw [hg]; exact (below_size (by repeat (first | (with_reducible first | exact HB.out | apply below_alloc | apply pw_below_drewN | apply below_drew1 | refine below_set ?_ GE247.out | refine below_set ?_ GE248.out) | exact HB.out))) : w.heap.size ≤ gb249)); have n6_ := Aside0.mk ((by rw [hg]; exact Nat.ne_of_lt (blk_lt (g := gb247) (o := .cells #[.int .i8 a0_0, .int .i8 a0_1, .slice A0_2 l0_2.length c0_2] 35 (0, 0)) (pl_ BK247)) : gb247 ≠ gb249)); have n7_ := Aside0.mk ((by rw [hg]; exact Nat.ne_of_gt (blk_lt (g := gb247) (o := .cells #[.int .i8 a0_0, .int .i8 a0_1, .slice A0_2 l0_2.length c0_2] 35 (0, 0)) (pl_ BK247)) : gb249 ≠ gb247)); have n8_ := Aside0.mk ((by rw [hg]; exact Nat.ne_of_lt (blk_lt (g := gb248) (o := .cells #[.int .i8 0, .bool false] 37 (0, 0)) (pl_ BK248)) : gb248 ≠ gb249)); have n9_ := Aside0.mk ((by rw [hg]; exact Nat.ne_of_gt (blk_lt (g := gb248) (o := .cells #[.int .i8 0, .bool false] 37 (0, 0)) (pl_ BK248)) : gb249 ≠ gb248)); clear BK247; clear BK248; clear HB; have BK247 := n0_; have BK248 := n1_; have HB := n2_; have BK249 := n3_; have GW249 := n4_; have GE249 := n5_; have NB247_249 := n6_; have NB249_247 := n7_; have NB248_249 := n8_; have NB249_248 := n9_; clear n0_ n1_ n2_ n3_ n4_ n5_ n6_ n7_ n8_ n9_; clear hb hbox hg; have hnb66 := NB247_248.out; have hnc66 := NB248_247.out; have hnb67 := NB247_249.out; have hnc67 := NB249_247.out; have hcz68_0 : w65.cell? ⟨gb247, 0, none⟩ = some (.int .i8 a0_0) := (blk_cell BK247.out 0).trans rfl; have hcz68_1 : w65.cell? ⟨gb247, 1, none⟩ = some (.int .i8 a0_1) := (blk_cell BK247.out 1).trans rfl; have hcz68_2 : w65.cell? ⟨gb247, 2, none⟩ = some (.slice A0_2 l0_2.length c0_2) := (blk_cell BK247.out 2).trans rfl; have hfz68_0 := blk_frozen BK247.out 0; have hfz68_1 := blk_frozen BK247.out 1; have hfz68_2 := blk_frozen BK247.out 2) | ((with_reducible refine gate_callee (f := 33) rfl ?_); refine goesL_ (some 11) rfl rfl Try.func33 (by kernel_rfl) rfl #[.agg #[.int .i8 a0_0, .int .i8 a0_1, .slice A0_2 l0_2.length c0_2]] rfl (by (try simp only [List.map_toArray, List.map_cons, List.map_nil]); first | done | rfl | (simp only [List.length_drop, List.length_take]; rfl)) ?_; (with_reducible refine (impl_ValidFixed.calls k a0_0 a0_1 _ _ l0_2 false _ ?side1 ?side2 A2.out).mono ?_); (case side1 => repeat (first | exact (Kd.C_below HR0_2.out HB.out) | (with_reducible refine Kd.C_alloc ?_ _) | (with_reducible refine Kd.C_drewN ?_ _) | (with_reducible refine Kd.C_drew ?_))); (case side2 => exact HC0_2.out); rintro e w69 ⟨rfl, hb⟩; refine ⟨_, rfl, ?_⟩; have n0_ := Aside0.mk (blk_below (g := gb247) (o := .cells #[.int .i8 a0_0, .int .i8 a0_1, .slice A0_2 l0_2.length c0_2] 35 (0, 0)) (pl_ BK247) hb); have n1_ := Aside0.mk (blk_below (g := gb248) (o := .cells #[.int .i8 0, .bool false] 37 (0, 0)) (pl_ BK248) hb); have n2_ := Aside0.mk (blk_below (g := gb249) (o := .cells #[.int .i8 0, .bool false] 37 (0, 0)) (pl_ BK249) hb); have n3_ := Aside0.mk (below_step (by repeat (first | (with_reducible first | exact HB.out | apply below_alloc | apply pw_below_drewN | apply below_drew1 | refine below_set ?_ GE247.out | refine below_set ?_ GE248.out | refine below_set ?_ GE249.out) | exact HB.out)) hb); clear BK247; clear BK248; clear BK249; clear HB; have BK247 := n0_; have BK248 := n1_; have BK249 := n2_; have HB := n3_; clear n0_ n1_ n2_ n3_; (try clear hb); (try clear hb2); (try clear hk); (try clear hi); have hnb70 := NB248_249.out; have hnc70 := NB249_248.out; have hcz71_0 : w69.cell? ⟨gb248, 0, none⟩ = some (.int .i8 0) := (blk_cell BK248.out 0).trans rfl; have hcz71_1 : w69.cell? ⟨gb248, 1, none⟩ = some (.bool false) := (blk_cell BK248.out 1).trans rfl; have hfz71_0 := blk_frozen BK248.out 0; have hfz71_1 := blk_frozen BK248.out 1; have hcz72_0 : w69.cell? ⟨gb249, 0, none⟩ = some (.int .i8 0) := (blk_cell BK249.out 0).trans rfl; have hcz72_1 : w69.cell? ⟨gb249, 1, none⟩ = some (.bool false) := (blk_cell BK249.out 1).trans rfl; have hfz72_0 := blk_frozen BK249.out 0; have hfz72_1 := blk_frozen BK249.out 1))
  refine bodyPost_ret (results_list (rs := [.cell 2 37, .cell 3 37, .tmp 4]) rfl (by simp) (.cell gb248 37 #[.int .i8 0, .bool false] (0, 0) _ rfl (by (with_reducible repeat (first | refine blk_drewN ?_ _ | refine blk_drew ?_ | refine blk_alloc ?_ _)); refine blk_far ?_ NB248_249.out _; (with_reducible repeat (first | refine blk_drewN ?_ _ | refine blk_drew ?_ | refine blk_alloc ?_ _)); refine blk_far ?_ NB248_249.out _; (with_reducible repeat (first | refine blk_drewN ?_ _ | refine blk_drew ?_ | refine blk_alloc ?_ _)); refine blk_put (cs := #[.int .i8 0, .bool false]) ?_ 1 _ rfl; (with_reducible repeat (first | refine blk_drewN ?_ _ | refine blk_drew ?_ | refine blk_alloc ?_ _)); refine blk_put (cs := #[.int .i8 0, .bool false]) ?_ 0 _ rfl; (with_reducible repeat (first | refine blk_drewN ?_ _ | refine blk_drew ?_ | refine blk_alloc ?_ _)); exact BK248.out) Try.underlying37 rfl (by kernel_rfl) (.cell gb249 37 #[.int .i8 0, .bool false] (0, 0) _ rfl (by (with_reducible repeat (first | refine blk_drewN ?_ _ | refine blk_drew ?_ | refine blk_alloc ?_ _)); refine blk_put (cs := #[.int .i8 0, .bool false]) ?_ 1 _ rfl; (with_reducible repeat (first | refine blk_drewN ?_ _ | refine blk_drew ?_ | refine blk_alloc ?_ _)); refine blk_put (cs := #[.int .i8 0, .bool false]) ?_ 0 _ rfl; (with_reducible repeat (first | refine blk_drewN ?_ _ | refine blk_drew ?_ | refine blk_alloc ?_ _)); refine blk_far ?_ NB249_248.out _; (with_reducible repeat (first | refine blk_drewN ?_ _ | refine blk_drew ?_ | refine blk_alloc ?_ _)); refine blk_far ?_ NB249_248.out _; (with_reducible repeat (first | refine blk_drewN ?_ _ | refine blk_drew ?_ | refine blk_alloc ?_ _)); exact BK249.out) Try.underlying37 rfl (by kernel_rfl) (.tmp .nil)))) rfl ?_
  exact ⟨by first | rfl | (simp [errW_none, errW_some] <;> rfl) | (simp [*, errW_none, errW_some] <;> rfl), by repeat (first | (with_reducible first | exact HB.out | apply below_alloc | apply pw_below_drewN | apply below_drew1 | refine below_set ?_ GE247.out | refine below_set ?_ GE248.out | refine below_set ?_ GE249.out) | exact HB.out)⟩

end Go.Proofs.Ytkllpdekkhhhnaa.M
