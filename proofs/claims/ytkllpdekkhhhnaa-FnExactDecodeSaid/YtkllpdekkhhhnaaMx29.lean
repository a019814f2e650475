-- By this seat's own program over the kit's printer (arrays, functions told by hand); nothing of it is trusted: the kernel checks it.
import Derived.Test.YtkllpdekkhhhnaaMx0
import Derived.Test.YtkllpdekkhhhnaaMx13
import Derived.Test.YtkllpdekkhhhnaaMx14
import Derived.Test.YtkllpdekkhhhnaaMx28
namespace Go.Proofs.Ytkllpdekkhhhnaa.M
open Go.RowKit Go.Proofs.YtkllpdekkhhhnaaW.PrintWords Go.Proofs.YtkllpdekkhhhnaaW.PrintLast Go.Proofs.YtkllpdekkhhhnaaW.PrintMore
attribute [local go_sem] max2_int min2_int max_two min_two max_three min_three max_four min_four   -- for this text's walks alone
set_option linter.unusedVariables false
set_option linter.unusedSimpArgs false

/-! ### impl_Decode: function 23 -/
def impl_Decode.j0 : Nat → Bool → Int → Int → List (S30) → Int → Int → Int → Int → Option (Int × Bool × Int)
 | 0, _, _, _, _, _, _, _, _ => none
 | k + 1, x18, x390000, x390001, x390002, x391000, x391001, x391002, x391003 => if x18 = true then (some (0, false, 1)) else ((impl_Fixed_decode.f k x390000 x390001 x390002 x391000 x391001 x391002 x391003).bind fun bt394 => (if bt394.2.2 = true then (some (bt394.1, bt394.2.1, 0)) else (some (0, false, 6))))
def impl_Decode.f (k : Nat) (a0_0 : Int) (a0_1 : Int) (l0_2 : List (S30)) (a1_0 : Int) (a1_1 : Int) (a1_2 : Int) (a1_3 : Int) : Option (Int × Bool × Int) := (impl_ValidFixed.f k a0_0 a0_1 l0_2).bind fun t392 => (if t392 = true then ((impl_ValidWord.f k (wrap64 (a0_0)) a1_0 a1_1 a1_2 a1_3).bind fun t393 => (impl_Decode.j0 k (!t393) a0_0 a0_1 l0_2 a1_0 a1_1 a1_2 a1_3)) else (impl_Decode.j0 k true a0_0 a0_1 l0_2 a1_0 a1_1 a1_2 a1_3))
theorem impl_Decode.mono_l : ∀ k, (∀ y0 y1 y2 y3 y4 y5 y6 y7, LeO (impl_Decode.j0 k y0 y1 y2 y3 y4 y5 y6 y7) (impl_Decode.j0 (k + 1) y0 y1 y2 y3 y4 y5 y6 y7))
 | 0 => fun _ _ _ _ _ _ _ _ r h => by simp [impl_Decode.j0] at h
 | k + 1 => by
  have ih0 := impl_Decode.mono_l k
  ·intro y0 y1 y2 y3 y4 y5 y6 y7
   unfold impl_Decode.j0
   repeat' first
   | (with_reducible exact ih0 _ _ _ _ _ _ _ _)
   | (with_reducible exact impl_Fixed_decode.mono _ _ _ _ _ _ _ _)
   | (with_reducible exact impl_ValidFixed.mono _ _ _ _)
   | (with_reducible exact impl_ValidWord.mono _ _ _ _ _ _)
   | (with_reducible exact LeO.refl _)
   | (with_reducible exact LeO.none _)
   | (with_reducible refine LeO.ite ?_ ?_)
   | (with_reducible refine LeO.bind ?_ (fun _ => ?_))
   | exact ih0 _ _ _ _ _ _ _ _
   | exact impl_Fixed_decode.mono _ _ _ _ _ _ _ _
   | exact impl_ValidFixed.mono _ _ _ _
   | exact impl_ValidWord.mono _ _ _ _ _ _
   | exact LeO.none _
   | refine LeO.ite ?_ ?_
   | refine LeO.bind ?_ (fun _ => ?_)
theorem impl_Decode.mono : ∀ a0 a1 a2 a3 a4 a5 a6 k, LeO (impl_Decode.f k a0 a1 a2 a3 a4 a5 a6) (impl_Decode.f (k + 1) a0 a1 a2 a3 a4 a5 a6) := by
 intro a0 a1 a2 a3 a4 a5 a6 k
 have ih0 := impl_Decode.mono_l k
 unfold impl_Decode.f
 repeat' first
   | (with_reducible exact ih0 _ _ _ _ _ _ _ _)
   | (with_reducible exact impl_Fixed_decode.mono _ _ _ _ _ _ _ _)
   | (with_reducible exact impl_ValidFixed.mono _ _ _ _)
   | (with_reducible exact impl_ValidWord.mono _ _ _ _ _ _)
   | (with_reducible exact LeO.refl _)
   | (with_reducible exact LeO.none _)
   | (with_reducible refine LeO.ite ?_ ?_)
   | (with_reducible refine LeO.bind ?_ (fun _ => ?_))
   | exact ih0 _ _ _ _ _ _ _ _
   | exact impl_Fixed_decode.mono _ _ _ _ _ _ _ _
   | exact impl_ValidFixed.mono _ _ _ _
   | exact impl_ValidWord.mono _ _ _ _ _ _
   | exact LeO.none _
   | refine LeO.ite ?_ ?_
   | refine LeO.bind ?_ (fun _ => ?_)
set_option maxHeartbeats 8000000 in
set_option maxRecDepth 100000 in
theorem impl_Decode.calls (k : Nat) (a0_0 : Int) (a0_1 : Int) (A0_2 : Option Addr) (c0_2 : Nat) (l0_2 : List (S30)) (a1_0 : Int) (a1_1 : Int) (a1_2 : Int) (a1_3 : Int) (r1 : Int) (r2 : Bool) (r3 : Int) (w : World) (hr0_2 : Kd.C k30 w A0_2 l0_2.length l0_2) (hc0_2 : l0_2.length ≤ c0_2) (h : impl_Decode.f k a0_0 a0_1 l0_2 a1_0 a1_1 a1_2 a1_3 = some (r1, r2, r3)) :
  Calls Try.prog 23 #[.agg #[.int .i8 a0_0, .int .i8 a0_1, .slice A0_2 l0_2.length c0_2], .agg #[.int .i8 a1_0, .int .i8 a1_1, .int .i8 a1_2, .int .i8 a1_3]] w fun e w' => e = .returned (.tuple #[.agg #[.int .i8 r1, .bool r2], .int .i64 r3]) ∧ Below w.heap.size w w' := by
 have hu35 := Try.underlying35
 have hu30 := Try.underlying30
 have hu37 := Try.underlying37
 have HR0_2 := Aside0.mk hr0_2
 have HC0_2 := Aside0.mk hc0_2
 clear hr0_2 hc0_2
 have HB := Aside0.mk (Below.refl w.heap.size w)
 have H : ((impl_ValidFixed.f k a0_0 a0_1 l0_2).bind fun t392 => (if t392 = true then ((impl_ValidWord.f k (wrap64 (a0_0)) a1_0 a1_1 a1_2 a1_3).bind fun t393 => (impl_Decode.j0 k (!t393) a0_0 a0_1 l0_2 a1_0 a1_1 a1_2 a1_3)) else (impl_Decode.j0 k true a0_0 a0_1 l0_2 a1_0 a1_1 a1_2 a1_3))) = some (r1, r2, r3) := h
 clear h
 have HC3 := Aside0.mk H
 clear H
 go_enter Try.func23, Try.ntmps23
 go_upto_region 1 with (first | ((with_reducible refine gate_dst (N := 2) rfl ?_); refine box_event ?hg (N := 2) ?hd (cs := #[.int .i8 a0_0, .int .i8 a0_1, .slice A0_2 l0_2.length c0_2]) (t := 35) ?hr ?_; (case hd => rfl); (case hg => rfl); (case hr => first | (go_simp; done) | (go_simp; rfl)); intro gb389 hg w4 hbox hb; have n0_ := Aside0.mk (below_step (bl_ HB) hb); have n1_ := Aside0.mk (hbox); have n2_ := Aside0.mk ((by rw [hg]; exact (below_size (bl_ HB)) : w.heap.size ≤ gb389)); have n3_ := Aside0.mk ((by rw [hg]; exact (below_size (bl_ HB)) : w.heap.size ≤ gb389)); clear HB; have HB := n0_; have BK389 := n1_; have GW389 := n2_; have GE389 := n3_; clear n0_ n1_ n2_ n3_; clear hb hbox hg) | ((with_reducible refine gate_dst (N := 3) rfl ?_); refine box_event ?hg (N := 3) ?hd (cs := #[.int .i8 a1_0, .int .i8 a1_1, .int .i8 a1_2, .int .i8 a1_3]) (t := 30) ?hr ?_; (case hd => rfl); (case hg => rfl); (case hr => first | (go_simp; done) | (go_simp; rfl)); intro gb390 hg w5 hbox hb; have n0_ := Aside0.mk (blk_below (g := gb389) (o := .cells #[.int .i8 a0_0, .int .i8 a0_1, .slice A0_2 l0_2.length c0_2] 35 (0, 0)) (pl_ BK389) hb); have n1_ := Aside0.mk (below_step (by repeat (first | (with_reducible first | exact HB.out | apply below_alloc | apply pw_below_drewN | apply below_drew1 | refine below_set ?_ GE389.out) | exact HB.out)) hb); have n2_ := Aside0.mk (hbox); have n3_ := Aside0.mk ((by rw [hg]; exact (below_size (by repeat (first | (with_reducible first | exact HB.out | apply below_alloc | apply pw_below_drewN | apply below_drew1 | refine below_set ?_ GE389.out) | exact HB.out))) : w.heap.size ≤ gb390)); have n4_ := Aside0.mk ((by rw [hg]; exact (below_size (by repeat (first | (with_reducible first | exact HB.out | apply below_alloc | apply pw_below_drewN | apply below_drew1 | refine below_set ?_ GE389.out) | exact HB.out))) : w.heap.size ≤ gb390)); have n5_ := Aside0.mk ((by rw [hg]; exact Nat.ne_of_lt (blk_lt (g := gb389) (o := .cells #[.int .i8 a0_0, .int .i8 a0_1, .slice A0_2 l0_2.length c0_2] 35 (0, 0)) (pl_ BK389)) : gb389 ≠ gb390)); have n6_ := Aside0.mk ((by rw [hg]; exact Nat.ne_of_gt (blk_lt (g := gb389) (o := .cells #[.int .i8 a0_0, .int .i8 a0_1, .slice A0_2 l0_2.length c0_2] 35 (0, 0)) (pl_ BK389)) : gb390 ≠ gb389)); clear BK389; clear HB; have BK389 := n0_; have HB := n1_; have BK390 := n2_; have GW390 := n3_; have GE390 := n4_; have NB389_390 := n5_; have NB390_389 := n6_; clear n0_ n1_ n2_ n3_ n4_ n5_ n6_; clear hb hbox hg) | ((with_reducible refine gate_dst (N := 4) rfl ?_); refine box_event ?hg (N := 4) ?hd (cs := #[.int .i8 0, .bool false]) (t := 37) ?hr ?_; (case hd => rfl); (case hg => rfl); (case hr => first | (go_simp; done) | (go_simp; rfl)); intro gb391 hg w6 hbox hb; have n0_ := Aside0.mk (blk_below (g := gb389) (o := .cells #[.int .i8 a0_0, .int .i8 a0_1, .slice A0_2 l0_2.length c0_2] 35 (0, 0)) (pl_ BK389) hb); have n1_ := Aside0.mk (blk_below (g := gb390) (o := .cells #[.int .i8 a1_0, .int .i8 a1_1, .int .i8 a1_2, .int .i8 a1_3] 30 (0, 0)) (pl_ BK390) hb); have n2_ := Aside0.mk (below_step (by repeat (first | (with_reducible first | exact HB.out | apply below_alloc | apply pw_below_drewN | apply below_drew1 | refine below_set ?_ GE389.out | refine below_set ?_ GE390.out) | exact HB.out)) hb); have n3_ := Aside0.mk (hbox); have n4_ := Aside0.mk ((by rw [hg]; exact (below_size (by repeat (first | (with_reducible first | exact HB.out | apply below_alloc | apply pw_below_drewN | apply below_drew1 | refine below_set ?_ GE389.out | refine below_set ?_ GE390.out) | exact HB.out))) : w.heap.size ≤ gb391)); have n5_ := Aside0.mk ((by rw [hg]; exact (below_size (by repeat (first | (with_reducible first | exact HB.out | apply below_alloc | apply pw_below_drewN | apply below_drew1 | refine below_set ?_ GE389.out | refine below_set ?_ GE390.out) | exact HB.out))) : w.heap.size ≤ gb391)); have n6_ := Aside0.mk ((by rw [hg]; exact Nat.ne_of_lt (blk_lt (g := gb389) (o := .cells #[.int .i8 a0_0, .int .i8 a0_1, .slice A0_2 l0_2.length c0_2] 35 (0, 0)) (pl_ BK389)) : gb389 ≠ gb391)); have n7_ := Aside0.mk ((by rw [hg]; exact Nat.ne_of_gt (blk_lt (g := gb389) (o := .cells #[.int .i8 a0_0, .int .i8 a0_1, .slice A0_2 l0_2.length c0_2] 35 (0, 0)) (pl_ BK389)) : gb391 ≠ gb389)); have n8_ := Aside0.mk ((by rw [hg]; exact Nat.ne_of_lt (blk_lt (g := gb390) (o := .cells #[.int .i8 a1_0, .int .i8 a1_1, .int .i8 a1_2, .int .i8 a1_3] 30 (0, 0)) (pl_ BK390)) : gb390 ≠ gb391)); have n9_ := Aside0.mk ((by rw [hg]; exact Nat.ne_of_gt (blk_lt (g := gb390) (o := .cells #[.int .i8 a1_0, .int .i8 a1_1, .int .i8 a1_2, .int .i8 a1_3] 30 (0, 0)) (pl_ BK390)) : gb391 ≠ gb390)); clear BK389; clear BK390; clear HB; have BK389 := n0_; have BK390 := n1_; have HB := n2_; have BK391 := n3_; have GW391 := n4_; have GE391 := n5_; have NB389_391 := n6_; have NB391_389 := n7_; have NB390_391 := n8_; have NB391_390 := n9_; clear n0_ n1_ n2_ n3_ n4_ n5_ n6_ n7_ n8_ n9_; clear hb hbox hg))
 (try simp only [Act.put, List.setIfInBounds_toArray, List.set_cons_zero, List.set_cons_succ])
 go_cut [18] (fun v18 wc => ∃ (kq : Nat) (x18_2 : Bool), v18 = .bool x18_2 ∧ Aside0 (impl_Decode.j0 kq x18_2 a0_0 a0_1 l0_2 a1_0 a1_1 a1_2 a1_3 = some (r1, r2, r3)) ∧ Aside0 (kq ≤ k) ∧ Aside0 (wc.heap[gb389]? = some (.cells #[.int .i8 a0_0, .int .i8 a0_1, (.slice A0_2 l0_2.length c0_2)] 35 (0, 0))) ∧ Aside0 (wc.heap[gb390]? = some (.cells #[.int .i8 a1_0, .int .i8 a1_1, .int .i8 a1_2, .int .i8 a1_3] 30 (0, 0))) ∧ Aside0 (wc.heap[gb391]? = some (.cells #[.int .i8 0, .bool false] 37 (0, 0))) ∧ Aside0 (Below w.heap.size w wc))
 case first =>
  have H := HC3.out
  clear HC3
  replace H := Option.bind_eq_some_iff.mp H
  obtain ⟨t392, A70, H⟩ := H
  replace H : (if t392 = true then ((impl_ValidWord.f k (wrap64 (a0_0)) a1_0 a1_1 a1_2 a1_3).bind fun t393 => (impl_Decode.j0 k (!t393) a0_0 a0_1 l0_2 a1_0 a1_1 a1_2 a1_3)) else (impl_Decode.j0 k true a0_0 a0_1 l0_2 a1_0 a1_1 a1_2 a1_3)) = some (r1, r2, r3) := H
  have A7 := Aside0.mk A70
  clear A70
  by_cases c8 : t392 = true
  ·subst c8
   have H1 : ((impl_ValidWord.f k (wrap64 (a0_0)) a1_0 a1_1 a1_2 a1_3).bind fun t393 => (impl_Decode.j0 k (!t393) a0_0 a0_1 l0_2 a1_0 a1_1 a1_2 a1_3)) = some (r1, r2, r3) := by rw [if_pos rfl] at H; exact H
   clear H
   have H := H1
   clear H1
   replace H := Option.bind_eq_some_iff.mp H
   obtain ⟨t393, A90, H⟩ := H
   replace H : (impl_Decode.j0 k (!t393) a0_0 a0_1 l0_2 a1_0 a1_1 a1_2 a1_3) = some (r1, r2, r3) := H
   have A9 := Aside0.mk A90
   clear A90
   have H' := Aside0.mk H
   clear H
   have hnb10 := NB389_390.out
   have hnc10 := NB390_389.out
   have hnb11 := NB389_391.out
   have hnc11 := NB391_389.out
   have hcz12_0 : w6.cell? ⟨gb389, 0, none⟩ = some (.int .i8 a0_0) := (blk_cell BK389.out 0).trans rfl
   have hcz12_1 : w6.cell? ⟨gb389, 1, none⟩ = some (.int .i8 a0_1) := (blk_cell BK389.out 1).trans rfl
   have hcz12_2 : w6.cell? ⟨gb389, 2, none⟩ = some (.slice A0_2 l0_2.length c0_2) := (blk_cell BK389.out 2).trans rfl
   have hfz12_0 := blk_frozen BK389.out 0
   have hfz12_1 := blk_frozen BK389.out 1
   have hfz12_2 := blk_frozen BK389.out 2
   go_wp2_with (first | ((with_reducible refine gate_callee (f := 33) rfl ?_); refine goesL_ (some 9) rfl rfl Try.func33 (by kernel_rfl) rfl #[.agg #[.int .i8 a0_0, .int .i8 a0_1, .slice A0_2 l0_2.length c0_2]] rfl (by (try simp only [List.map_toArray, List.map_cons, List.map_nil]); first | done | rfl | (simp only [List.length_drop, List.length_take]; rfl)) ?_; (with_reducible refine (impl_ValidFixed.calls k a0_0 a0_1 _ _ l0_2 true _ ?side1 ?side2 A7.out).mono ?_); (case side1 => repeat (first | exact (Kd.C_below HR0_2.out HB.out) | (with_reducible refine Kd.C_alloc ?_ _) | (with_reducible refine Kd.C_drewN ?_ _) | (with_reducible refine Kd.C_drew ?_))); (case side2 => exact HC0_2.out); rintro e w13 ⟨rfl, hb⟩; refine ⟨_, rfl, ?_⟩; have n0_ := Aside0.mk (blk_below (g := gb389) (o := .cells #[.int .i8 a0_0, .int .i8 a0_1, .slice A0_2 l0_2.length c0_2] 35 (0, 0)) (pl_ BK389) hb); have n1_ := Aside0.mk (blk_below (g := gb390) (o := .cells #[.int .i8 a1_0, .int .i8 a1_1, .int .i8 a1_2, .int .i8 a1_3] 30 (0, 0)) (pl_ BK390) hb); have n2_ := Aside0.mk (blk_below (g := gb391) (o := .cells #[.int .i8 0, .bool false] 37 (0, 0)) (pl_ BK391) hb); have n3_ := Aside0.mk (below_step (by repeat (first | (with_reducible first | exact HB.out | apply below_alloc | apply pw_below_drewN | apply below_drew1 | refine below_set ?_ GE389.out | refine below_set ?_ GE390.out | refine below_set ?_ GE391.out) | exact HB.out)) hb); clear BK389; clear BK390; clear BK391; clear HB; have BK389 := n0_; have BK390 := n1_; have BK391 := n2_; have HB := n3_; clear n0_ n1_ n2_ n3_; (try clear hb); (try clear hb2); (try clear hk); (try clear hi); have hcz14_0 : w13.cell? ⟨gb389, 0, none⟩ = some (.int .i8 a0_0) := (blk_cell BK389.out 0).trans rfl; have hcz14_1 : w13.cell? ⟨gb389, 1, none⟩ = some (.int .i8 a0_1) := (blk_cell BK389.out 1).trans rfl; have hcz14_2 : w13.cell? ⟨gb389, 2, none⟩ = some (.slice A0_2 l0_2.length c0_2) := (blk_cell BK389.out 2).trans rfl; have hfz14_0 := blk_frozen BK389.out 0; have hfz14_1 := blk_frozen BK389.out 1; have hfz14_2 := blk_frozen BK389.out 2; have hnb15 := NB390_391.out; have hnc15 := NB391_390.out; have hcz16_0 : w13.cell? ⟨gb390, 0, none⟩ = some (.int .i8 a1_0) := (blk_cell BK390.out 0).trans rfl; have hcz16_1 : w13.cell? ⟨gb390, 1, none⟩ = some (.int .i8 a1_1) := (blk_cell BK390.out 1).trans rfl; have hcz16_2 : w13.cell? ⟨gb390, 2, none⟩ = some (.int .i8 a1_2) := (blk_cell BK390.out 2).trans rfl; have hcz16_3 : w13.cell? ⟨gb390, 3, none⟩ = some (.int .i8 a1_3) := (blk_cell BK390.out 3).trans rfl; have hfz16_0 := blk_frozen BK390.out 0; have hfz16_1 := blk_frozen BK390.out 1; have hfz16_2 := blk_frozen BK390.out 2; have hfz16_3 := blk_frozen BK390.out 3) | (go_at_call 41; (with_reducible refine (impl_ValidWord.calls k (wrap64 (a0_0)) a1_0 a1_1 a1_2 a1_3 t393 _ A9.out).mono ?_); rintro e w17 ⟨rfl, hb⟩; have n0_ := Aside0.mk (blk_below (g := gb389) (o := .cells #[.int .i8 a0_0, .int .i8 a0_1, .slice A0_2 l0_2.length c0_2] 35 (0, 0)) (pl_ BK389) hb); have n1_ := Aside0.mk (blk_below (g := gb390) (o := .cells #[.int .i8 a1_0, .int .i8 a1_1, .int .i8 a1_2, .int .i8 a1_3] 30 (0, 0)) (pl_ BK390) hb); have n2_ := Aside0.mk (blk_below (g := gb391) (o := .cells #[.int .i8 0, .bool false] 37 (0, 0)) (pl_ BK391) hb); have n3_ := Aside0.mk (below_step (by repeat (first | (with_reducible first | exact HB.out | apply below_alloc | apply pw_below_drewN | apply below_drew1 | refine below_set ?_ GE389.out | refine below_set ?_ GE390.out | refine below_set ?_ GE391.out) | exact HB.out)) hb); clear BK389; clear BK390; clear BK391; clear HB; have BK389 := n0_; have BK390 := n1_; have BK391 := n2_; have HB := n3_; clear n0_ n1_ n2_ n3_; (try clear hb); (try clear hb2); (try clear hk); (try clear hi)))
   go_meet
   case rel => exact ⟨_, (!t393), (by first | rfl | (simp; done) | (simp [*]; done)), H', ⟨by first | omega | exact Nat.le_refl _⟩, ⟨pl_ BK389⟩, ⟨pl_ BK390⟩, ⟨pl_ BK391⟩, ⟨by repeat (first | (with_reducible first | exact HB.out | apply below_alloc | apply pw_below_drewN | apply below_drew1 | refine below_set ?_ GE389.out | refine below_set ?_ GE390.out | refine below_set ?_ GE391.out) | exact HB.out)⟩⟩
  ·replace c8 := Bool.eq_false_iff.mpr c8
   subst c8
   have H1 : (impl_Decode.j0 k true a0_0 a0_1 l0_2 a1_0 a1_1 a1_2 a1_3) = some (r1, r2, r3) := by rw [if_neg (show ¬ (false = true) by decide)] at H; exact H
   clear H
   have H := H1
   clear H1
   have H' := Aside0.mk H
   clear H
   have hnb18 := NB389_390.out
   have hnc18 := NB390_389.out
   have hnb19 := NB389_391.out
   have hnc19 := NB391_389.out
   have hcz20_0 : w6.cell? ⟨gb389, 0, none⟩ = some (.int .i8 a0_0) := (blk_cell BK389.out 0).trans rfl
   have hcz20_1 : w6.cell? ⟨gb389, 1, none⟩ = some (.int .i8 a0_1) := (blk_cell BK389.out 1).trans rfl
   have hcz20_2 : w6.cell? ⟨gb389, 2, none⟩ = some (.slice A0_2 l0_2.length c0_2) := (blk_cell BK389.out 2).trans rfl
   have hfz20_0 := blk_frozen BK389.out 0
   have hfz20_1 := blk_frozen BK389.out 1
   have hfz20_2 := blk_frozen BK389.out 2
   go_wp2_with (first | ((with_reducible refine gate_callee (f := 33) rfl ?_); refine goesL_ (some 9) rfl rfl Try.func33 (by kernel_rfl) rfl #[.agg #[.int .i8 a0_0, .int .i8 a0_1, .slice A0_2 l0_2.length c0_2]] rfl (by (try simp only [List.map_toArray, List.map_cons, List.map_nil]); first | done | rfl | (simp only [List.length_drop, List.length_take]; rfl)) ?_; (with_reducible refine (impl_ValidFixed.calls k a0_0 a0_1 _ _ l0_2 false _ ?side1 ?side2 A7.out).mono ?_); (case side1 => repeat (first | exact (Kd.C_below HR0_2.out HB.out) | (with_reducible refine Kd.C_alloc ?_ _) | (with_reducible refine Kd.C_drewN ?_ _) | (with_reducible refine Kd.C_drew ?_))); (case side2 => exact HC0_2.out); rintro e w21 ⟨rfl, hb⟩; refine ⟨_, rfl, ?_⟩; have n0_ := Aside0.mk (blk_below (g := gb389) (o := .cells #[.int .i8 a0_0, .int .i8 a0_1, .slice A0_2 l0_2.length c0_2] 35 (0, 0)) (pl_ BK389) hb); have n1_ := Aside0.mk (blk_below (g := gb390) (o := .cells #[.int .i8 a1_0, .int .i8 a1_1, .int .i8 a1_2, .int .i8 a1_3] 30 (0, 0)) (pl_ BK390) hb); have n2_ := Aside0.mk (blk_below (g := gb391) (o := .cells #[.int .i8 0, .bool false] 37 (0, 0)) (pl_ BK391) hb); have n3_ := Aside0.mk (below_step (by repeat (first | (with_reducible first | exact HB.out | apply below_alloc | apply pw_below_drewN | apply below_drew1 | refine below_set ?_ GE389.out | refine below_set ?_ GE390.out | refine below_set ?_ GE391.out) | exact HB.out)) hb); clear BK389; clear BK390; clear BK391; clear HB; have BK389 := n0_; have BK390 := n1_; have BK391 := n2_; have HB := n3_; clear n0_ n1_ n2_ n3_; (try clear hb); (try clear hb2); (try clear hk); (try clear hi)))
   go_meet
   case rel => exact ⟨_, (true), (by first | rfl | (simp; done) | (simp [*]; done)), H', ⟨by first | omega | exact Nat.le_refl _⟩, ⟨pl_ BK389⟩, ⟨pl_ BK390⟩, ⟨pl_ BK391⟩, ⟨by repeat (first | (with_reducible first | exact HB.out | apply below_alloc | apply pw_below_drewN | apply below_drew1 | refine below_set ?_ GE389.out | refine below_set ?_ GE390.out | refine below_set ?_ GE391.out) | exact HB.out)⟩⟩
 case rest =>
  clear HC3
  try clear c1
  try clear c2
  try clear p2
  try clear c3
  try clear p6
  try clear c8
  try clear c10
  try clear c11
  try clear c15
  try clear c18
  try clear c19
  try clear hcz12_0
  try clear hcz12_1
  try clear hcz12_2
  try clear hcz14_0
  try clear hcz14_1
  try clear hcz14_2
  try clear hcz16_0
  try clear hcz16_1
  try clear hcz16_2
  try clear hcz16_3
  try clear hcz20_0
  try clear hcz20_1
  try clear hcz20_2
  try clear hfz12_0
  try clear hfz12_1
  try clear hfz12_2
  try clear hfz14_0
  try clear hfz14_1
  try clear hfz14_2
  try clear hfz16_0
  try clear hfz16_1
  try clear hfz16_2
  try clear hfz16_3
  try clear hfz20_0
  try clear hfz20_1
  try clear hfz20_2
  obtain ⟨kq, x18_2, rfl, HA, HJ2, BK389, BK390, BK391, HB⟩ := hcut
  cases kq with
  | zero => exact absurd HA.out (by simp [impl_Decode.j0])
  | succ kj2 =>
   have H := HA.out
   clear HA
   simp only [impl_Decode.j0] at H
   by_cases c22 : x18_2 = true
   ·subst c22
    have H1 : (some (0, false, 1)) = some (r1, r2, r3) := by rw [if_pos rfl] at H; exact H
    clear H
    have H := H1
    clear H1
    simp only [Option.some.injEq, Prod.mk.injEq] at H
    obtain ⟨rfl, rfl, rfl⟩ := H
    have hnb23 := NB391_389.out
    have hnc23 := NB389_391.out
    have hnb24 := NB391_390.out
    have hnc24 := NB390_391.out
    have hcz25_0 : wc.cell? ⟨gb391, 0, none⟩ = some (.int .i8 0) := (blk_cell BK391.out 0).trans rfl
    have hcz25_1 : wc.cell? ⟨gb391, 1, none⟩ = some (.bool false) := (blk_cell BK391.out 1).trans rfl
    have hfz25_0 := blk_frozen BK391.out 0
    have hfz25_1 := blk_frozen BK391.out 1
    go_wp2
    refine bodyPost_ret (results_ct rfl _ _ gb391 37 #[.int .i8 0, .bool false] (0, 0) _ rfl (by (with_reducible repeat (first | refine blk_drewN ?_ _ | refine blk_drew ?_ | refine blk_alloc ?_ _)); refine blk_put (cs := #[.int .i8 0, .bool false]) ?_ 1 _ rfl; (with_reducible repeat (first | refine blk_drewN ?_ _ | refine blk_drew ?_ | refine blk_alloc ?_ _)); refine blk_put (cs := #[.int .i8 0, .bool false]) ?_ 0 _ rfl; (with_reducible repeat (first | refine blk_drewN ?_ _ | refine blk_drew ?_ | refine blk_alloc ?_ _)); exact BK391.out) Try.underlying37 rfl (by kernel_rfl)) rfl ?_
    exact ⟨by first | rfl | (simp [errW_none, errW_some] <;> rfl) | (simp [*, errW_none, errW_some] <;> rfl), by repeat (first | (with_reducible first | exact HB.out | apply below_alloc | apply pw_below_drewN | apply below_drew1 | refine below_set ?_ GE389.out | refine below_set ?_ GE390.out | refine below_set ?_ GE391.out) | exact HB.out)⟩
   ·replace c22 := Bool.eq_false_iff.mpr c22
    subst c22
    have H1 : ((impl_Fixed_decode.f kj2 a0_0 a0_1 l0_2 a1_0 a1_1 a1_2 a1_3).bind fun bt394 => (if bt394.2.2 = true then (some (bt394.1, bt394.2.1, 0)) else (some (0, false, 6)))) = some (r1, r2, r3) := by rw [if_neg (show ¬ (false = true) by decide)] at H; exact H
    clear H
    have H := H1
    clear H1
    replace H := Option.bind_eq_some_iff.mp H
    obtain ⟨⟨t394, t395, t396⟩, A260, H⟩ := H
    replace H : (if t396 = true then (some (t394, t395, 0)) else (some (0, false, 6))) = some (r1, r2, r3) := H
    have A26 := Aside0.mk A260
    clear A260
    by_cases c27 : t396 = true
    ·subst c27
     have H1 : (some (t394, t395, 0)) = some (r1, r2, r3) := by rw [if_pos rfl] at H; exact H
     clear H
     have H := H1
     clear H1
     simp only [Option.some.injEq, Prod.mk.injEq] at H
     obtain ⟨rfl, rfl, rfl⟩ := H
     have hnb28 := NB389_390.out
     have hnc28 := NB390_389.out
     have hnb29 := NB389_391.out
     have hnc29 := NB391_389.out
     have hcz30_0 : wc.cell? ⟨gb389, 0, none⟩ = some (.int .i8 a0_0) := (blk_cell BK389.out 0).trans rfl
     have hcz30_1 : wc.cell? ⟨gb389, 1, none⟩ = some (.int .i8 a0_1) := (blk_cell BK389.out 1).trans rfl
     have hcz30_2 : wc.cell? ⟨gb389, 2, none⟩ = some (.slice A0_2 l0_2.length c0_2) := (blk_cell BK389.out 2).trans rfl
     have hfz30_0 := blk_frozen BK389.out 0
     have hfz30_1 := blk_frozen BK389.out 1
     have hfz30_2 := blk_frozen BK389.out 2
     have hnb31 := NB390_391.out
     have hnc31 := NB391_390.out
     have hcz32_0 : wc.cell? ⟨gb390, 0, none⟩ = some (.int .i8 a1_0) := (blk_cell BK390.out 0).trans rfl
     have hcz32_1 : wc.cell? ⟨gb390, 1, none⟩ = some (.int .i8 a1_1) := (blk_cell BK390.out 1).trans rfl
     have hcz32_2 : wc.cell? ⟨gb390, 2, none⟩ = some (.int .i8 a1_2) := (blk_cell BK390.out 2).trans rfl
     have hcz32_3 : wc.cell? ⟨gb390, 3, none⟩ = some (.int .i8 a1_3) := (blk_cell BK390.out 3).trans rfl
     have hfz32_0 := blk_frozen BK390.out 0
     have hfz32_1 := blk_frozen BK390.out 1
     have hfz32_2 := blk_frozen BK390.out 2
     have hfz32_3 := blk_frozen BK390.out 3
     go_wp2_with (first | ((with_reducible refine gate_callee (f := 42) rfl ?_); refine goesL_ (some 23) rfl rfl Try.func42 (by kernel_rfl) rfl #[.agg #[.int .i8 a0_0, .int .i8 a0_1, .slice A0_2 l0_2.length c0_2], .agg #[.int .i8 a1_0, .int .i8 a1_1, .int .i8 a1_2, .int .i8 a1_3]] rfl (by (try simp only [List.map_toArray, List.map_cons, List.map_nil]); first | done | rfl | (simp only [List.length_drop, List.length_take]; rfl)) ?_; (with_reducible refine (impl_Fixed_decode.calls kj2 a0_0 a0_1 _ _ l0_2 a1_0 a1_1 a1_2 a1_3 t394 t395 true _ ?side1 ?side2 A26.out).mono ?_); (case side1 => repeat (first | exact (Kd.C_below HR0_2.out HB.out) | (with_reducible refine Kd.C_alloc ?_ _) | (with_reducible refine Kd.C_drewN ?_ _) | (with_reducible refine Kd.C_drew ?_))); (case side2 => exact HC0_2.out); rintro e w33 ⟨rfl, hb⟩; refine ⟨_, rfl, ?_⟩; have n0_ := Aside0.mk (blk_below (g := gb389) (o := .cells #[.int .i8 a0_0, .int .i8 a0_1, .slice A0_2 l0_2.length c0_2] 35 (0, 0)) (pl_ BK389) hb); have n1_ := Aside0.mk (blk_below (g := gb390) (o := .cells #[.int .i8 a1_0, .int .i8 a1_1, .int .i8 a1_2, .int .i8 a1_3] 30 (0, 0)) (pl_ BK390) hb); have n2_ := Aside0.mk (blk_below (g := gb391) (o := .cells #[.int .i8 0, .bool false] 37 (0, 0)) (pl_ BK391) hb); have n3_ := Aside0.mk (below_step (by repeat (first | (with_reducible first | exact HB.out | apply below_alloc | apply pw_below_drewN | apply below_drew1 | refine below_set ?_ GE389.out | refine below_set ?_ GE390.out | refine below_set ?_ GE391.out) | exact HB.out)) hb); clear BK389; clear BK390; clear BK391; clear HB; have BK389 := n0_; have BK390 := n1_; have BK391 := n2_; have HB := n3_; clear n0_ n1_ n2_ n3_; (try clear hb); (try clear hb2); (try clear hk); (try clear hi)) | ((with_reducible refine gate_dst (N := 6) rfl ?_); refine box_event ?hg (N := 6) ?hd (cs := #[.int .i8 0, .bool false]) (t := 37) ?hr ?_; (case hd => rfl); (case hg => rfl); (case hr => first | (go_simp; done) | (go_simp; rfl)); intro gb397 hg w34 hbox hb; have n0_ := Aside0.mk (blk_below (g := gb389) (o := .cells #[.int .i8 a0_0, .int .i8 a0_1, .slice A0_2 l0_2.length c0_2] 35 (0, 0)) (pl_ BK389) hb); have n1_ := Aside0.mk (blk_below (g := gb390) (o := .cells #[.int .i8 a1_0, .int .i8 a1_1, .int .i8 a1_2, .int .i8 a1_3] 30 (0, 0)) (pl_ BK390) hb); have n2_ := Aside0.mk (blk_below (g := gb391) (o := .cells #[.int .i8 0, .bool false] 37 (0, 0)) (pl_ BK391) hb); have n3_ := Aside0.mk (below_step (by repeat (first | (with_reducible first | exact HB.out | apply below_alloc | apply pw_below_drewN | apply below_drew1 | refine below_set ?_ GE389.out | refine below_set ?_ GE390.out | refine below_set ?_ GE391.out) | exact HB.out)) hb); have n4_ := Aside0.mk (hbox); have n5_ := Aside0.mk ((by rw [hg]; exact (below_size (by repeat (first | (with_reducible first | exact HB.out | apply below_alloc | apply pw_below_drewN | apply below_drew1 | refine below_set ?_ GE389.out | refine below_set ?_ GE390.out | refine below_set ?_ GE391.out) | exact HB.out))) : w.heap.size ≤ gb397)); have n6_ := Aside0.mk ((by rw [hg]; exact (below_size (by repeat (first | (with_reducible first | exact HB.out | apply below_alloc | apply pw_below_drewN | apply below_drew1 | refine below_set ?_ GE389.out | refine below_set ?_ GE390.out | refine below_set ?_ GE391.out) | exact HB.out))) : w.heap.size ≤ gb397)); have n7_ := Aside0.mk ((by rw [hg]; exact Nat.ne_of_lt (blk_lt (g := gb389) (o := .cells #[.int .i8 a0_0, .int .i8 a0_1, .slice A0_2 l0_2.length c0_2] 35 (0, 0)) (pl_ BK389)) : gb389 ≠ gb397)); have n8_ := Aside0.mk ((by rw [hg]; exact Nat.ne_of_gt (blk_lt (g := gb389) (o := .cells #[.int .i8 a0_0, .int .i8 a0_1, .slice A0_2 l0_2.length c0_2] 35 (0, 0)) (pl_ BK389)) : gb397 ≠ gb389)); have n9_ := Aside0.mk ((by rw [hg]; exact Nat.ne_of_lt (blk_lt (g := gb390) (o := .cells #[.int .i8 a1_0, .int .i8 a1_1, .int .i8 a1_2, .int .i8 a1_3] 30 (0, 0)) (pl_ BK390)) : gb390 ≠ gb397)); have n10_ := Aside0.mk ((by rw [hg]; exact Nat.ne_of_gt (blk_lt (g := gb390) (o := .cells #[.int .i8 a1_0, .int .i8 a1_1, .int .i8 a1_2, .int .i8 a1_3] 30 (0, 0)) (pl_ BK390)) : gb397 ≠ gb390)); have n11_ := Aside0.mk ((by rw [hg]; exact Nat.ne_of_lt (blk_lt (g := gb391) (o := .cells #[.int .i8 0, .bool false] 37 (0, 0)) (pl_ BK391)) : gb391 ≠ gb397)); have n12_ := Aside0.mk ((by rw [hg]; exact Nat.ne_of_gt (blk_lt (g := gb391) (o := .cells #[.int .i8 0, .bool false] 37 (0, 0)) (pl_ BK391)) : gb397 ≠ gb391)); clear BK389; clear BK390; clear BK391; clear HB; have BK389 := n0_; have BK390 := n1_; have BK391 := n2_; have HB := n3_; have BK397 := n4_; have GW397 := n5_; have GE397 := n6_; have NB389_397 := n7_; have NB397_389 := n8_; have NB390_397 := n9_; have NB397_390 := n10_; have NB391_397 := n11_; have NB397_391 := n12_; clear n0_ n1_ n2_ n3_ n4_ n5_ n6_ n7_ n8_ n9_ n10_ n11_ n12_; clear hb hbox hg; have hnb35 := NB397_389.out; have hnc35 := NB389_397.out; have hnb36 := NB397_390.out; have hnc36 := NB390_397.out; have hnb37 := NB397_391.out; have hnc37 := NB391_397.out; have hcz38_0 : w34.cell? ⟨gb397, 0, none⟩ = some (.int .i8 0) := (blk_cell BK397.out 0).trans rfl; have hcz38_1 : w34.cell? ⟨gb397, 1, none⟩ = some (.bool false) := (blk_cell BK397.out 1).trans rfl; have hfz38_0 := blk_frozen BK397.out 0; have hfz38_1 := blk_frozen BK397.out 1; have hcz39_0 : w34.cell? ⟨gb391, 0, none⟩ = some (.int .i8 0) := (blk_cell BK391.out 0).trans rfl; have hcz39_1 : w34.cell? ⟨gb391, 1, none⟩ = some (.bool false) := (blk_cell BK391.out 1).trans rfl; have hfz39_0 := blk_frozen BK391.out 0; have hfz39_1 := blk_frozen BK391.out 1))
     refine bodyPost_ret (results_ct rfl _ _ gb391 37 #[.int .i8 t394, .bool t395] (0, 0) _ rfl (by (with_reducible repeat (first | refine blk_drewN ?_ _ | refine blk_drew ?_ | refine blk_alloc ?_ _)); refine blk_put (cs := #[.int .i8 t394, .bool false]) ?_ 1 _ rfl; (with_reducible repeat (first | refine blk_drewN ?_ _ | refine blk_drew ?_ | refine blk_alloc ?_ _)); refine blk_put (cs := #[.int .i8 0, .bool false]) ?_ 0 _ rfl; (with_reducible repeat (first | refine blk_drewN ?_ _ | refine blk_drew ?_ | refine blk_alloc ?_ _)); refine blk_far ?_ NB391_397.out _; (with_reducible repeat (first | refine blk_drewN ?_ _ | refine blk_drew ?_ | refine blk_alloc ?_ _)); refine blk_far ?_ NB391_397.out _; (with_reducible repeat (first | refine blk_drewN ?_ _ | refine blk_drew ?_ | refine blk_alloc ?_ _)); exact BK391.out) Try.underlying37 rfl (by kernel_rfl)) rfl ?_
     exact ⟨by first | rfl | (simp [errW_none, errW_some] <;> rfl) | (simp [*, errW_none, errW_some] <;> rfl), by repeat (first | (with_reducible first | exact HB.out | apply below_alloc | apply pw_below_drewN | apply below_drew1 | refine below_set ?_ GE389.out | refine below_set ?_ GE390.out | refine below_set ?_ GE391.out | refine below_set ?_ GE397.out) | exact HB.out)⟩
    ·replace c27 := Bool.eq_false_iff.mpr c27
     subst c27
     have H1 : (some (0, false, 6)) = some (r1, r2, r3) := by rw [if_neg (show ¬ (false = true) by decide)] at H; exact H
     clear H
     have H := H1
     clear H1
     simp only [Option.some.injEq, Prod.mk.injEq] at H
     obtain ⟨rfl, rfl, rfl⟩ := H
     have hnb40 := NB389_390.out
     have hnc40 := NB390_389.out
     have hnb41 := NB389_391.out
     have hnc41 := NB391_389.out
     have hcz42_0 : wc.cell? ⟨gb389, 0, none⟩ = some (.int .i8 a0_0) := (blk_cell BK389.out 0).trans rfl
     have hcz42_1 : wc.cell? ⟨gb389, 1, none⟩ = some (.int .i8 a0_1) := (blk_cell BK389.out 1).trans rfl
     have hcz42_2 : wc.cell? ⟨gb389, 2, none⟩ = some (.slice A0_2 l0_2.length c0_2) := (blk_cell BK389.out 2).trans rfl
     have hfz42_0 := blk_frozen BK389.out 0
     have hfz42_1 := blk_frozen BK389.out 1
     have hfz42_2 := blk_frozen BK389.out 2
     have hnb43 := NB390_391.out
     have hnc43 := NB391_390.out
     have hcz44_0 : wc.cell? ⟨gb390, 0, none⟩ = some (.int .i8 a1_0) := (blk_cell BK390.out 0).trans rfl
     have hcz44_1 : wc.cell? ⟨gb390, 1, none⟩ = some (.int .i8 a1_1) := (blk_cell BK390.out 1).trans rfl
     have hcz44_2 : wc.cell? ⟨gb390, 2, none⟩ = some (.int .i8 a1_2) := (blk_cell BK390.out 2).trans rfl
     have hcz44_3 : wc.cell? ⟨gb390, 3, none⟩ = some (.int .i8 a1_3) := (blk_cell BK390.out 3).trans rfl
     have hfz44_0 := blk_frozen BK390.out 0
     have hfz44_1 := blk_frozen BK390.out 1
     have hfz44_2 := blk_frozen BK390.out 2
     have hfz44_3 := blk_frozen BK390.out 3
     go_wp2_with (first | ((with_reducible refine gate_callee (f := 42) rfl ?_); refine goesL_ (some 23) rfl rfl Try.func42 (by kernel_rfl) rfl #[.agg #[.int .i8 a0_0, .int .i8 a0_1, .slice A0_2 l0_2.length c0_2], .agg #[.int .i8 a1_0, .int .i8 a1_1, .int .i8 a1_2, .int .i8 a1_3]] rfl (by (try simp only [List.map_toArray, List.map_cons, List.map_nil]); first | done | rfl | (simp only [List.length_drop, List.length_take]; rfl)) ?_; (with_reducible refine (impl_Fixed_decode.calls kj2 a0_0 a0_1 _ _ l0_2 a1_0 a1_1 a1_2 a1_3 t394 t395 false _ ?side1 ?side2 A26.out).mono ?_); (case side1 => repeat (first | exact (Kd.C_below HR0_2.out HB.out) | (with_reducible refine Kd.C_alloc ?_ _) | (with_reducible refine Kd.C_drewN ?_ _) | (with_reducible refine Kd.C_drew ?_))); (case side2 => exact HC0_2.out); rintro e w45 ⟨rfl, hb⟩; refine ⟨_, rfl, ?_⟩; have n0_ := Aside0.mk (blk_below (g := gb389) (o := .cells #[.int .i8 a0_0, .int .i8 a0_1, .slice A0_2 l0_2.length c0_2] 35 (0, 0)) (pl_ BK389) hb); have n1_ := Aside0.mk (blk_below (g := gb390) (o := .cells #[.int .i8 a1_0, .int .i8 a1_1, .int .i8 a1_2, .int .i8 a1_3] 30 (0, 0)) (pl_ BK390) hb); have n2_ := Aside0.mk (blk_below (g := gb391) (o := .cells #[.int .i8 0, .bool false] 37 (0, 0)) (pl_ BK391) hb); have n3_ := Aside0.mk (below_step (by repeat (first | (with_reducible first | exact HB.out | apply below_alloc | apply pw_below_drewN | apply below_drew1 | refine below_set ?_ GE389.out | refine below_set ?_ GE390.out | refine below_set ?_ GE391.out) | exact HB.out)) hb); clear BK389; clear BK390; clear BK391; clear HB; have BK389 := n0_; have BK390 := n1_; have BK391 := n2_; have HB := n3_; clear n0_ n1_ n2_ n3_; (try clear hb); (try clear hb2); (try clear hk); (try clear hi)) | ((with_reducible refine gate_dst (N := 6) rfl ?_); refine box_event ?hg (N := 6) ?hd (cs := #[.int .i8 0, .bool false]) (t := 37) ?hr ?_; (case hd => rfl); (case hg => rfl); (case hr => first | (go_simp; done) | (go_simp; rfl)); intro gb397 hg w46 hbox hb; have n0_ := Aside0.mk (blk_below (g := gb389) (o := .cells #[.int .i8 a0_0, .int .i8 a0_1, .slice A0_2 l0_2.length c0_2] 35 (0, 0)) (pl_ BK389) hb); have n1_ := Aside0.mk (blk_below (g := gb390) (o := .cells #[.int .i8 a1_0, .int .i8 a1_1, .int .i8 a1_2, .int .i8 a1_3] 30 (0, 0)) (pl_ BK390) hb); have n2_ := Aside0.mk (blk_below (g := gb391) (o := .cells #[.int .i8 0, .bool false] 37 (0, 0)) (pl_ BK391) hb); have n3_ := Aside0.mk (below_step (by repeat (first | (with_reducible first | exact HB.out | apply below_alloc | apply pw_below_drewN | apply below_drew1 | refine below_set ?_ GE389.out | refine below_set ?_ GE390.out | refine below_set ?_ GE391.out) | exact HB.out)) hb); have n4_ := Aside0.mk (hbox); have n5_ := Aside0.mk ((by rw [hg]; exact (below_size (by repeat (first | (with_reducible first | exact HB.out | apply below_alloc | apply pw_below_drewN | apply below_drew1 | refine below_set ?_ GE389.out | refine below_set ?_ GE390.out | refine below_set ?_ GE391.out) | exact HB.out))) : w.heap.size ≤ gb397)); have n6_ := Aside0.mk ((by rw [hg]; exact (below_size (by repeat (first | (with_reducible first | exact HB.out | apply below_alloc | apply pw_below_drewN | apply below_drew1 | refine below_set ?_ GE389.out | refine below_set ?_ GE390.out | refine below_set ?_ GE391.out) | exact HB.out))) : w.heap.size ≤ gb397)); have n7_ := Aside0.mk ((by rw [hg]; exact Nat.ne_of_lt (blk_lt (g := gb389) (o := .cells #[.int .i8 a0_0, .int .i8 a0_1, .slice A0_2 l0_2.length c0_2] 35 (0, 0)) (pl_ BK389)) : gb389 ≠ gb397)); have n8_ := Aside0.mk ((by rw [hg]; exact Nat.ne_of_gt (blk_lt (g := gb389) (o := .cells #[.int .i8 a0_0, .int .i8 a0_1, .slice A0_2 l0_2.length c0_2] 35 (0, 0)) (pl_ BK389)) : gb397 ≠ gb389)); have n9_ := Aside0.mk ((by rw [hg]; exact Nat.ne_of_lt (blk_lt (g := gb390) (o := .cells #[.int .i8 a1_0, .int .i8 a1_1, .int .i8 a1_2, .int .i8 a1_3] 30 (0, 0)) (pl_ BK390)) : gb390 ≠ gb397)); have n10_ := Aside0.mk ((by rw [hg]; exact Nat.ne_of_gt (blk_lt (g := gb390) (o := .cells #[.int .i8 a1_0, .int .i8 a1_1, .int .i8 a1_2, .int .i8 a1_3] 30 (0, 0)) (pl_ BK390)) : gb397 ≠ gb390)); have n11_ := Aside0.mk ((by rw [hg]; exact Nat.ne_of_lt (blk_lt (g := gb391) (o := .cells #[.int .i8 0, .bool false] 37 (0, 0)) (pl_ BK391)) : gb391 ≠ gb397)); have n12_ := Aside0.mk ((by rw [hg]; exact Nat.ne_of_gt (blk_lt (g := gb391) (o := .cells #[.int .i8 0, .bool false] 37 (0, 0)) (pl_ BK391)) : gb397 ≠ gb391)); clear BK389; clear BK390; clear BK391; clear HB; have BK389 := n0_; have BK390 := n1_; have BK391 := n2_; have HB := n3_; have BK397 := n4_; have GW397 := n5_; have GE397 := n6_; have NB389_397 := n7_; have NB397_389 := n8_; have NB390_397 := n9_; have NB397_390 := n10_; have NB391_397 := n11_; have NB397_391 := n12_; clear n0_ n1_ n2_ n3_ n4_ n5_ n6_ n7_ n8_ n9_ n10_ n11_ n12_; clear hb hbox hg; have hnb47 := NB397_389.out; have hnc47 := NB389_397.out; have hnb48 := NB397_390.out; have hnc48 := NB390_397.out; have hnb49 := NB397_391.out; have hnc49 := NB391_397.out; have hcz50_0 : w46.cell? ⟨gb397, 0, none⟩ = some (.int .i8 0) := (blk_cell BK397.out 0).trans rfl; have hcz50_1 : w46.cell? ⟨gb397, 1, none⟩ = some (.bool false) := (blk_cell BK397.out 1).trans rfl; have hfz50_0 := blk_frozen BK397.out 0; have hfz50_1 := blk_frozen BK397.out 1; have hcz51_0 : w46.cell? ⟨gb391, 0, none⟩ = some (.int .i8 0) := (blk_cell BK391.out 0).trans rfl; have hcz51_1 : w46.cell? ⟨gb391, 1, none⟩ = some (.bool false) := (blk_cell BK391.out 1).trans rfl; have hfz51_0 := blk_frozen BK391.out 0; have hfz51_1 := blk_frozen BK391.out 1))
     refine bodyPost_ret (results_ct rfl _ _ gb391 37 #[.int .i8 0, .bool false] (0, 0) _ rfl (by (with_reducible repeat (first | refine blk_drewN ?_ _ | refine blk_drew ?_ | refine blk_alloc ?_ _)); refine blk_put (cs := #[.int .i8 0, .bool false]) ?_ 1 _ rfl; (with_reducible repeat (first | refine blk_drewN ?_ _ | refine blk_drew ?_ | refine blk_alloc ?_ _)); refine blk_put (cs := #[.int .i8 0, .bool false]) ?_ 0 _ rfl; (with_reducible repeat (first | refine blk_drewN ?_ _ | refine blk_drew ?_ | refine blk_alloc ?_ _)); refine blk_far ?_ NB391_397.out _; (with_reducible repeat (first | refine blk_drewN ?_ _ | refine blk_drew ?_ | refine blk_alloc ?_ _)); refine blk_far ?_ NB391_397.out _; (with_reducible repeat (first | refine blk_drewN ?_ _ | refine blk_drew ?_ | refine blk_alloc ?_ _)); exact BK391.out) Try.underlying37 rfl (by kernel_rfl)) rfl ?_
     exact ⟨by first | rfl | (simp [errW_none, errW_some] <;> rfl) | (simp [*, errW_none, errW_some] <;> rfl), by repeat (first | (with_reducible first | exact HB.out | apply below_alloc | apply pw_below_drewN | apply below_drew1 | refine below_set ?_ GE389.out | refine below_set ?_ GE390.out | refine below_set ?_ GE391.out | refine below_set ?_ GE397.out) | exact HB.out)⟩

end Go.Proofs.Ytkllpdekkhhhnaa.M
