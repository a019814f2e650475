-- By this seat's own program over the kit's printer (arrays, functions told by hand); nothing of it is trusted: the kernel checks it.
import Derived.Test.YtkllpdekkhhhnaaMx0
import Derived.Test.YtkllpdekkhhhnaaMx1
import Derived.Test.YtkllpdekkhhhnaaMx17
namespace Go.Proofs.Ytkllpdekkhhhnaa.M
open Go.RowKit Go.Proofs.YtkllpdekkhhhnaaW.PrintWords Go.Proofs.YtkllpdekkhhhnaaW.PrintLast Go.Proofs.YtkllpdekkhhhnaaW.PrintMore
attribute [local go_sem] max2_int min2_int max_two min_two max_three min_three max_four min_four   -- for this text's walks alone
set_option linter.unusedVariables false
set_option linter.unusedSimpArgs false

attribute [local go_sem high] eqA30
/-! ### impl_Fixed_decode_1_62: function 62 -/
def impl_Fixed_decode_1_62.f (k : Nat) (a0_0 : Int) (a0_1 : Bool) (a1_0 : Int) (a1_1 : Int) (l1_2 : List (S30)) (a2_0 : Int) (a2_1 : Int) (a2_2 : Int) (a2_3 : Int) : Option (Bool) := (impl_Fixed_seen.f k a1_0 a1_1 l1_2 a0_0 a0_1).bind fun bt373 => (some (bt373.1 == a2_0 && (bt373.2.1 == a2_1 && (bt373.2.2.1 == a2_2 && (bt373.2.2.2 == a2_3)))))
theorem impl_Fixed_decode_1_62.mono : ∀ a0 a1 a2 a3 a4 a5 a6 a7 a8 k, LeO (impl_Fixed_decode_1_62.f k a0 a1 a2 a3 a4 a5 a6 a7 a8) (impl_Fixed_decode_1_62.f (k + 1) a0 a1 a2 a3 a4 a5 a6 a7 a8) := by
 intro a0 a1 a2 a3 a4 a5 a6 a7 a8 k
 unfold impl_Fixed_decode_1_62.f
 repeat' first
   | (with_reducible exact impl_Fixed_seen.mono _ _ _ _ _ _)
   | (with_reducible exact LeO.refl _)
   | (with_reducible exact LeO.none _)
   | (with_reducible refine LeO.ite ?_ ?_)
   | (with_reducible refine LeO.bind ?_ (fun _ => ?_))
   | exact impl_Fixed_seen.mono _ _ _ _ _ _
   | exact LeO.none _
   | refine LeO.ite ?_ ?_
   | refine LeO.bind ?_ (fun _ => ?_)
set_option maxHeartbeats 8000000 in
set_option maxRecDepth 100000 in
theorem impl_Fixed_decode_1_62.calls (k : Nat) (a0_0 : Int) (a0_1 : Bool) (gp1 : Nat) (a1_0 : Int) (a1_1 : Int) (A1_2 : Option Addr) (c1_2 : Nat) (l1_2 : List (S30)) (gp2 : Nat) (a2_0 : Int) (a2_1 : Int) (a2_2 : Int) (a2_3 : Int) (r : Bool) (w : World) (hb1 : w.heap[gp1]? = some (.cells #[.int .i8 a1_0, .int .i8 a1_1, .slice A1_2 l1_2.length c1_2] 35 (0, 0))) (hr1_2 : Kd.C k30 w A1_2 l1_2.length l1_2) (hc1_2 : l1_2.length ≤ c1_2) (hb2 : w.heap[gp2]? = some (.cells #[.int .i8 a2_0, .int .i8 a2_1, .int .i8 a2_2, .int .i8 a2_3] 30 (0, 0))) (h : impl_Fixed_decode_1_62.f k a0_0 a0_1 a1_0 a1_1 l1_2 a2_0 a2_1 a2_2 a2_3 = some r) :
  Calls Try.prog 62 #[.agg #[.int .i8 a0_0, .bool a0_1], .pointer (some ⟨gp1, 0, none⟩), .pointer (some ⟨gp2, 0, none⟩)] w fun e w' => e = .returned (.bool r) ∧ Below w.heap.size w w' := by
 have hu37 := Try.underlying37
 have hu35 := Try.underlying35
 have hu30 := Try.underlying30
 have HR1_2 := Aside0.mk hr1_2
 have HC1_2 := Aside0.mk hc1_2
 clear hr1_2 hc1_2
 have BK370 := Aside0.mk hb1
 clear hb1
 have BK371 := Aside0.mk hb2
 clear hb2
 have HB := Aside0.mk (Below.refl w.heap.size w)
 have H : ((impl_Fixed_seen.f k a1_0 a1_1 l1_2 a0_0 a0_1).bind fun bt373 => (some (bt373.1 == a2_0 && (bt373.2.1 == a2_1 && (bt373.2.2.1 == a2_2 && (bt373.2.2.2 == a2_3)))))) = some r := h
 clear h
 replace H := Option.bind_eq_some_iff.mp H
 obtain ⟨⟨t373, t374, t375, t376⟩, A40, H⟩ := H
 replace H : (some (t373 == a2_0 && (t374 == a2_1 && (t375 == a2_2 && (t376 == a2_3))))) = some r := H
 have A4 := Aside0.mk A40
 clear A40
 obtain rfl := Option.some.inj H
 go_enter Try.func62, Try.ntmps62
 try go_wp2_with (first | ((with_reducible refine gate_dst (N := 3) rfl ?_); refine box_event ?hg (N := 3) ?hd (cs := #[.int .i8 a0_0, .bool a0_1]) (t := 37) ?hr ?_; (case hd => rfl); (case hg => rfl); (case hr => first | (go_simp; done) | (go_simp; rfl)); intro gb372 hg w5 hbox hb; have n0_ := Aside0.mk (blk_below (g := gp1) (o := .cells #[.int .i8 a1_0, .int .i8 a1_1, .slice A1_2 l1_2.length c1_2] 35 (0, 0)) (pl_ BK370) hb); have n1_ := Aside0.mk (blk_below (g := gp2) (o := .cells #[.int .i8 a2_0, .int .i8 a2_1, .int .i8 a2_2, .int .i8 a2_3] 30 (0, 0)) (pl_ BK371) hb); have n2_ := Aside0.mk (below_step (by repeat (first | (with_reducible first | exact HB.out | apply below_alloc | apply pw_below_drewN | apply below_drew1 | refine below_set ?_ GE370.out | refine below_set ?_ GE371.out) | exact HB.out)) hb); have n3_ := Aside0.mk (hbox); have n4_ := Aside0.mk ((by rw [hg]; exact (below_size (by repeat (first | (with_reducible first | exact HB.out | apply below_alloc | apply pw_below_drewN | apply below_drew1 | refine below_set ?_ GE370.out | refine below_set ?_ GE371.out) | exact HB.out))) : w.heap.size ≤ gb372)); have n5_ := Aside0.mk ((by rw [hg]; exact (below_size (by repeat (first | (with_reducible first | exact HB.out | apply below_alloc | apply pw_below_drewN | apply below_drew1 | refine below_set ?_ GE370.out | refine below_set ?_ GE371.out) | exact HB.out))) : w.heap.size ≤ gb372)); have n6_ := Aside0.mk ((by rw [hg]; exact Nat.ne_of_lt (blk_lt (g := gp1) (o := .cells #[.int .i8 a1_0, .int .i8 a1_1, .slice A1_2 l1_2.length c1_2] 35 (0, 0)) (pl_ BK370)) : gp1 ≠ gb372)); have n7_ := Aside0.mk ((by rw [hg]; exact Nat.ne_of_gt (blk_lt (g := gp1) (o := .cells #[.int .i8 a1_0, .int .i8 a1_1, .slice A1_2 l1_2.length c1_2] 35 (0, 0)) (pl_ BK370)) : gb372 ≠ gp1)); have n8_ := Aside0.mk ((by rw [hg]; exact Nat.ne_of_lt (blk_lt (g := gp2) (o := .cells #[.int .i8 a2_0, .int .i8 a2_1, .int .i8 a2_2, .int .i8 a2_3] 30 (0, 0)) (pl_ BK371)) : gp2 ≠ gb372)); have n9_ := Aside0.mk ((by rw [hg]; exact Nat.ne_of_gt (blk_lt (g := gp2) (o := .cells #[.int .i8 a2_0, .int .i8 a2_1, .int .i8 a2_2, .int .i8 a2_3] 30 (0, 0)) (pl_ BK371)) : gb372 ≠ gp2)); clear BK370; clear BK371; clear HB; have BK370 := n0_; have BK371 := n1_; have HB := n2_; have BK372 := n3_; have GW372 := n4_; have GE372 := n5_; have NB370_372 := n6_; have NB372_370 := n7_; have NB371_372 := n8_; have NB372_371 := n9_; clear n0_ n1_ n2_ n3_ n4_ n5_ n6_ n7_ n8_ n9_; clear hb hbox hg))
 have n0_ := Aside0.mk (blk_drew BK370.out)
 have n1_ := Aside0.mk (blk_drew BK371.out)
 have n2_ := Aside0.mk (blk_drew BK372.out)
 have n3_ := Aside0.mk (below_drew1 HB.out)
 clear BK370
 clear BK371
 clear BK372
 clear HB
 have BK370 := n0_
 have BK371 := n1_
 have BK372 := n2_
 have HB := n3_
 clear n0_ n1_ n2_ n3_
 refine start_ (n := 6) (S := fun w' => w'.cell? ⟨gp1, 0, none⟩ = some (.int .i8 a1_0) ∧ w'.cell? ⟨gp1, 1, none⟩ = some (.int .i8 a1_1) ∧ w'.cell? ⟨gp1, 2, none⟩ = some (.slice A1_2 l1_2.length c1_2) ∧ w'.cell? ⟨gb372, 0, none⟩ = some (.int .i8 a0_0) ∧ w'.cell? ⟨gb372, 1, none⟩ = some (.bool a0_1) ∧ w'.cell? ⟨gp2, 0, none⟩ = some (.int .i8 a2_0) ∧ w'.cell? ⟨gp2, 1, none⟩ = some (.int .i8 a2_1) ∧ w'.cell? ⟨gp2, 2, none⟩ = some (.int .i8 a2_2) ∧ w'.cell? ⟨gp2, 3, none⟩ = some (.int .i8 a2_3)) (ds := []) #[false, false, false, false, false, false] (by kernel_rfl) rfl rfl ⟨(blk_cell BK370.out 0).trans rfl, (blk_cell BK370.out 1).trans rfl, (blk_cell BK370.out 2).trans rfl, (blk_cell BK372.out 0).trans rfl, (blk_cell BK372.out 1).trans rfl, (blk_cell BK371.out 0).trans rfl, (blk_cell BK371.out 1).trans rfl, (blk_cell BK371.out 2).trans rfl, (blk_cell BK371.out 3).trans rfl⟩ (fun hHeld => ?_)
 generalize w5.drew = w6 at BK370 BK371 BK372 HB hHeld ⊢
 refine take_ (i := 0) (N := some 5) (v := ?_) (a' := ?_) #[true, false, false, false, false, false] rfl rfl (by kernel_rfl) (fun _ _ _ h => h) (Or.inl ⟨by rfl, ?_⟩) hHeld ?_ ?_
 rotate_left
 ·rintro w' ⟨s0, s1, s2, s3, s4, s5, s6, s7, s8⟩
  go_simp
  with_reducible rfl
 rotate_left
 ·simp only [Act.put, List.setIfInBounds_toArray, List.set_cons_zero, List.set_cons_succ, i64_w, i32_w]
  rfl
 refine take_ (i := 1) (N := some 6) (v := ?_) (a' := ?_) #[true, true, false, false, false, false] rfl rfl (by kernel_rfl) (fun _ _ _ h => h) (Or.inl ⟨by rfl, ?_⟩) hHeld ?_ ?_
 rotate_left
 ·rintro w' ⟨s0, s1, s2, s3, s4, s5, s6, s7, s8⟩
  go_simp
  with_reducible rfl
 rotate_left
 ·simp only [Act.put, List.setIfInBounds_toArray, List.set_cons_zero, List.set_cons_succ, i64_w, i32_w]
  rfl
 refine take_ (i := 3) (N := some 8) (v := ?_) (a' := ?_) #[true, true, false, true, false, false] rfl rfl (by kernel_rfl) (fun _ _ _ h => h) (Or.inl ⟨by rfl, ?_⟩) hHeld ?_ ?_
 rotate_left
 ·rintro w' ⟨s0, s1, s2, s3, s4, s5, s6, s7, s8⟩
  go_simp
  with_reducible rfl
 rotate_left
 ·simp only [Act.put, List.setIfInBounds_toArray, List.set_cons_zero, List.set_cons_succ, i64_w, i32_w]
  rfl
 refine one_ (i := 2) (N := some 7) #[true, true, true, true, false, false] rfl rfl (by kernel_rfl) (by decide) (fun K hK => ?_)
 refine goes_ Try.func36 (by kernel_rfl) rfl #[.agg #[.int .i8 a1_0, .int .i8 a1_1, .slice A1_2 l1_2.length c1_2], .agg #[.int .i8 a0_0, .bool a0_1]] (by rfl) rfl rfl (by (try simp only [List.map_toArray, List.map_cons, List.map_nil]); first | done | rfl | (simp only [List.length_drop, List.length_take]; rfl)) ?_
 with_reducible refine (impl_Fixed_seen.calls k a1_0 a1_1 _ _ l1_2 a0_0 a0_1 t373 t374 t375 t376 _ ?side1 ?side2 A4.out).mono ?_
 (case side1 => repeat (first | exact (Kd.C_below HR1_2.out HB.out) | (with_reducible refine Kd.C_alloc ?_ _) | (with_reducible refine Kd.C_drewN ?_ _) | (with_reducible refine Kd.C_drew ?_)))
 (case side2 => exact HC1_2.out)
 rintro e w7 ⟨rfl, hb⟩
 refine ⟨_, rfl, ?_⟩
 have n0_ := Aside0.mk (blk_below (g := gp1) (o := .cells #[.int .i8 a1_0, .int .i8 a1_1, .slice A1_2 l1_2.length c1_2] 35 (0, 0)) (pl_ BK370) hb)
 have n1_ := Aside0.mk (blk_below (g := gp2) (o := .cells #[.int .i8 a2_0, .int .i8 a2_1, .int .i8 a2_2, .int .i8 a2_3] 30 (0, 0)) (pl_ BK371) hb)
 have n2_ := Aside0.mk (blk_below (g := gb372) (o := .cells #[.int .i8 a0_0, .bool a0_1] 37 (0, 0)) (pl_ BK372) hb)
 have n3_ := Aside0.mk (below_step (by repeat (first | (with_reducible first | exact HB.out | apply below_alloc | apply pw_below_drewN | apply below_drew1 | refine below_set ?_ GE370.out | refine below_set ?_ GE371.out | refine below_set ?_ GE372.out) | exact HB.out)) hb)
 clear BK370
 clear BK371
 clear BK372
 clear HB
 have BK370 := n0_
 have BK371 := n1_
 have BK372 := n2_
 have HB := n3_
 clear n0_ n1_ n2_ n3_
 (try clear hb)
 (try clear hb2)
 (try clear hk)
 (try clear hi)
 refine hK.out _ _ ⟨(blk_cell BK370.out 0).trans rfl, (blk_cell BK370.out 1).trans rfl, (blk_cell BK370.out 2).trans rfl, (blk_cell BK372.out 0).trans rfl, (blk_cell BK372.out 1).trans rfl, (blk_cell BK371.out 0).trans rfl, (blk_cell BK371.out 1).trans rfl, (blk_cell BK371.out 2).trans rfl, (blk_cell BK371.out 3).trans rfl⟩ (fun hHeld => ?_)
 clear hK K
 refine norm_ (a' := ?_) ?_ ?_
 rotate_left
 ·show Act.put _ (some 7) _ = _
  simp only [Act.put, List.setIfInBounds_toArray, List.set_cons_zero, List.set_cons_succ, i64_w, i32_w]
  rfl
 refine pure_ (i := 4) (N := some 9) (v := ?_) (a' := ?_) #[true, true, true, true, true, false] rfl rfl (by kernel_rfl) (fun _ _ _ h => h) (Or.inl ⟨by rfl, ?_⟩) ?_ ?_
 rotate_left
 ·intro w'
  go_simp
  with_reducible rfl
 rotate_left
 ·simp only [Act.put, List.setIfInBounds_toArray, List.set_cons_zero, List.set_cons_succ, i64_w, i32_w]
  rfl
 refine pure_ (i := 5) (N := some 4) (v := ?_) (a' := ?_) #[true, true, true, true, true, true] rfl rfl (by kernel_rfl) (fun _ _ _ h => h) (Or.inl ⟨by rfl, ?_⟩) ?_ ?_
 rotate_left
 ·intro w'
  go_simp
  with_reducible rfl
 rotate_left
 ·simp only [Act.put, List.setIfInBounds_toArray, List.set_cons_zero, List.set_cons_succ, i64_w, i32_w]
  rfl
 refine done_ (by kernel_rfl) ?_
 try go_wp2
 go_ret
 exact ⟨by first | rfl | (simp [errW_none, errW_some] <;> rfl) | (simp [*, errW_none, errW_some] <;> rfl), by repeat (first | (with_reducible first | exact HB.out | apply below_alloc | apply pw_below_drewN | apply below_drew1 | refine below_set ?_ GE370.out | refine below_set ?_ GE371.out | refine below_set ?_ GE372.out) | exact HB.out)⟩

/-! ### impl_Case_61_at_62: function 61 -/
def impl_Case_61_at_62.l0 : Nat → List (S37) → Int → Int → Int → Int → List (S30) → Int → Int → Int → Int → Option (Int)
 | 0, _, _, _, _, _, _, _, _, _, _ => none
 | k + 1, x0, x7, x8, x378000, x378001, x378002, x379000, x379001, x379002, x379003 => if x8 < x7 then (if 0 ≤ x8 then (if x8 < (x0.length : Int) then ((impl_Fixed_decode_1_62.f k ((rd_T37 x0 x8).f0) ((rd_T37 x0 x8).f1) x378000 x378001 x378002 x379000 x379001 x379002 x379003).bind fun t380 => (if t380 = true then (some x8) else (impl_Case_61_at_62.l0 k x0 x7 (wrap64 (x8 + 1)) x378000 x378001 x378002 x379000 x379001 x379002 x379003))) else (none)) else (none)) else (some (-1))
def impl_Case_61_at_62.f (k : Nat) (l0 : List (S37)) (a1_0 : Int) (a1_1 : Int) (l1_2 : List (S30)) (a1_3 : Int) (a1_4 : Int) (a1_5 : Int) (a1_6 : Int) : Option (Int) := impl_Case_61_at_62.l0 k l0 (l0.length : Int) 0 a1_0 a1_1 l1_2 a1_3 a1_4 a1_5 a1_6
theorem impl_Case_61_at_62.mono_l : ∀ k, (∀ y0 y1 y2 y3 y4 y5 y6 y7 y8 y9, LeO (impl_Case_61_at_62.l0 k y0 y1 y2 y3 y4 y5 y6 y7 y8 y9) (impl_Case_61_at_62.l0 (k + 1) y0 y1 y2 y3 y4 y5 y6 y7 y8 y9))
 | 0 => fun _ _ _ _ _ _ _ _ _ _ r h => by simp [impl_Case_61_at_62.l0] at h
 | k + 1 => by
  have ih0 := impl_Case_61_at_62.mono_l k
  ·intro y0 y1 y2 y3 y4 y5 y6 y7 y8 y9
   unfold impl_Case_61_at_62.l0
   repeat' first
   | (with_reducible exact ih0 _ _ _ _ _ _ _ _ _ _)
   | (with_reducible exact impl_Fixed_decode_1_62.mono _ _ _ _ _ _ _ _ _ _)
   | (with_reducible exact LeO.refl _)
   | (with_reducible exact LeO.none _)
   | (with_reducible refine LeO.ite ?_ ?_)
   | (with_reducible refine LeO.bind ?_ (fun _ => ?_))
   | exact ih0 _ _ _ _ _ _ _ _ _ _
   | exact impl_Fixed_decode_1_62.mono _ _ _ _ _ _ _ _ _ _
   | exact LeO.none _
   | refine LeO.ite ?_ ?_
   | refine LeO.bind ?_ (fun _ => ?_)
theorem impl_Case_61_at_62.mono : ∀ a0 a1 a2 a3 a4 a5 a6 a7 k, LeO (impl_Case_61_at_62.f k a0 a1 a2 a3 a4 a5 a6 a7) (impl_Case_61_at_62.f (k + 1) a0 a1 a2 a3 a4 a5 a6 a7) := by
 intro a0 a1 a2 a3 a4 a5 a6 a7 k
 have ih0 := impl_Case_61_at_62.mono_l k
 unfold impl_Case_61_at_62.f
 repeat' first
   | (with_reducible exact ih0 _ _ _ _ _ _ _ _ _ _)
   | (with_reducible exact impl_Fixed_decode_1_62.mono _ _ _ _ _ _ _ _ _ _)
   | (with_reducible exact LeO.refl _)
   | (with_reducible exact LeO.none _)
   | (with_reducible refine LeO.ite ?_ ?_)
   | (with_reducible refine LeO.bind ?_ (fun _ => ?_))
   | exact ih0 _ _ _ _ _ _ _ _ _ _
   | exact impl_Fixed_decode_1_62.mono _ _ _ _ _ _ _ _ _ _
   | exact LeO.none _
   | refine LeO.ite ?_ ?_
   | refine LeO.bind ?_ (fun _ => ?_)
set_option maxHeartbeats 8000000 in
set_option maxRecDepth 100000 in
theorem impl_Case_61_at_62.calls (k : Nat) (A0 : Option Addr) (c0 : Nat) (l0 : List (S37)) (gp1_0 : Nat) (gp1_1 : Nat) (a1_0 : Int) (a1_1 : Int) (A1_2 : Option Addr) (c1_2 : Nat) (l1_2 : List (S30)) (a1_3 : Int) (a1_4 : Int) (a1_5 : Int) (a1_6 : Int) (r : Int) (w : World) (hr0 : Kd.C k37 w A0 l0.length l0) (hc0 : l0.length ≤ c0) (hb1_0 : w.heap[gp1_0]? = some (.cells #[.int .i8 a1_0, .int .i8 a1_1, .slice A1_2 l1_2.length c1_2] 35 (0, 0))) (hb1_1 : w.heap[gp1_1]? = some (.cells #[.int .i8 a1_3, .int .i8 a1_4, .int .i8 a1_5, .int .i8 a1_6] 30 (0, 0))) (hr1_2 : Kd.C k30 w A1_2 l1_2.length l1_2) (hc1_2 : l1_2.length ≤ c1_2) (h : impl_Case_61_at_62.f k l0 a1_0 a1_1 l1_2 a1_3 a1_4 a1_5 a1_6 = some r) :
  Calls Try.prog 61 #[.slice A0 l0.length c0, .func (.func 62) #[] #[.pointer (some ⟨gp1_0, 0, none⟩), .pointer (some ⟨gp1_1, 0, none⟩)]] w fun e w' => e = .returned (.int .i64 r) ∧ Below w.heap.size w w' := by
 have hu37 := Try.underlying37
 have HR0 := Aside0.mk hr0
 have HC0 := Aside0.mk hc0
 clear hr0 hc0
 have HR1_2 := Aside0.mk hr1_2
 have HC1_2 := Aside0.mk hc1_2
 clear hr1_2 hc1_2
 have BK377 := Aside0.mk hb1_0
 clear hb1_0
 have BK378 := Aside0.mk hb1_1
 clear hb1_1
 have HB := Aside0.mk (Below.refl w.heap.size w)
 have H : (impl_Case_61_at_62.l0 k l0 (l0.length : Int) 0 a1_0 a1_1 l1_2 a1_3 a1_4 a1_5 a1_6) = some r := h
 clear h
 have H' := Aside0.mk H
 clear H
 go_enter Try.func61, Try.ntmps61
 go_wp2
 go_loopg [8] k (fun kq v8 w' => ∃ (x8_1 : Int), v8 = .int .i64 x8_1 ∧ Aside0 (impl_Case_61_at_62.l0 kq l0 (l0.length : Int) x8_1 a1_0 a1_1 l1_2 a1_3 a1_4 a1_5 a1_6 = some r) ∧ Aside0 (kq ≤ k) ∧ Aside0 (w'.heap[gp1_0]? = some (.cells #[.int .i8 a1_0, .int .i8 a1_1, (.slice A1_2 l1_2.length c1_2)] 35 (0, 0))) ∧ Aside0 (w'.heap[gp1_1]? = some (.cells #[.int .i8 a1_3, .int .i8 a1_4, .int .i8 a1_5, .int .i8 a1_6] 30 (0, 0))) ∧ Aside0 (Below w.heap.size w w'))
 case atStart => exact ⟨(0), (by first | rfl | (simp; done) | (simp [*]; done)), H', ⟨Nat.le_refl _⟩, ⟨pl_ BK377⟩, ⟨pl_ BK378⟩, ⟨by repeat (first | (with_reducible first | exact HB.out | apply below_alloc | apply pw_below_drewN | apply below_drew1 | refine below_set ?_ GE377.out | refine below_set ?_ GE378.out) | exact HB.out)⟩⟩
 case round =>
  clear H'
  try clear c1
  try clear p1
  try clear p2
  obtain ⟨x8_1, rfl, HA, HK1, BK377, BK378, HB⟩ := hrel
  cases gk with
  | zero => exact absurd HA.out (by simp [impl_Case_61_at_62.l0])
  | succ k1 =>
   have H := HA.out
   clear HA
   simp only [impl_Case_61_at_62.l0] at H
   by_cases c3 : x8_1 < (l0.length : Int)
   ·rw [if_pos c3] at H
    have c3b0 : decide (x8_1 < (l0.length : Int)) = true := decide_eq_true c3
    clear c3
    by_cases c4 : 0 ≤ x8_1
    ·rw [if_pos c4] at H
     have c4b0 : decide (0 ≤ x8_1) = true := decide_eq_true c4
     clear c4
     by_cases c5 : x8_1 < (l0.length : Int)
     ·rw [if_pos c5] at H
      have c5b0 : decide (x8_1 < (l0.length : Int)) = true := decide_eq_true c5
      clear c5
      replace H := Option.bind_eq_some_iff.mp H
      obtain ⟨t380, A60, H⟩ := H
      replace H : (if t380 = true then (some x8_1) else (impl_Case_61_at_62.l0 k1 l0 (l0.length : Int) (wrap64 (x8_1 + 1)) a1_0 a1_1 l1_2 a1_3 a1_4 a1_5 a1_6)) = some r := H
      have A6 := Aside0.mk A60
      clear A60
      by_cases c7 : t380 = true
      ·subst c7
       have H1 : (some x8_1) = some r := by rw [if_pos rfl] at H; exact H
       clear H
       have H := H1
       clear H1
       obtain rfl := Option.some.inj H
       have p379 : 0 ≤ (x8_1 : Int) := asm_
       have q379 : x8_1 < (l0.length : Int) := asm_
       obtain ⟨ad379, e379, hx379_0, hx379_1⟩ := at_T37 HR0.out x8_1 p379 q379
       cases e379
       (try replace hx379_0 := (HB.out.cell (World.block_lt_of_cell? w _ hx379_0)).trans hx379_0)
       (try replace hx379_1 := (HB.out.cell (World.block_lt_of_cell? w _ hx379_1)).trans hx379_1)
       replace p379 := eq_true p379
       replace q379 := eq_true q379
       go_wp2_with (first | (go_at_call 62; (with_reducible refine (impl_Fixed_decode_1_62.calls k1 ((rd_T37 l0 x8_1).f0) ((rd_T37 l0 x8_1).f1) gp1_0 a1_0 a1_1 A1_2 c1_2 l1_2 gp1_1 a1_3 a1_4 a1_5 a1_6 true _ ?side1 ?side2 ?side3 ?side4 A6.out).mono ?_); (case side1 => exact (pl_ BK377)); (case side2 => repeat (first | exact (Kd.C_below HR1_2.out HB.out) | (with_reducible refine Kd.C_alloc ?_ _) | (with_reducible refine Kd.C_drewN ?_ _) | (with_reducible refine Kd.C_drew ?_))); (case side3 => exact HC1_2.out); (case side4 => exact (pl_ BK378)); rintro e w8 ⟨rfl, hb⟩; have n0_ := Aside0.mk (blk_below (g := gp1_0) (o := .cells #[.int .i8 a1_0, .int .i8 a1_1, .slice A1_2 l1_2.length c1_2] 35 (0, 0)) (pl_ BK377) hb); have n1_ := Aside0.mk (blk_below (g := gp1_1) (o := .cells #[.int .i8 a1_3, .int .i8 a1_4, .int .i8 a1_5, .int .i8 a1_6] 30 (0, 0)) (pl_ BK378) hb); have n2_ := Aside0.mk (below_step (by repeat (first | (with_reducible first | exact HB.out | apply below_alloc | apply pw_below_drewN | apply below_drew1 | refine below_set ?_ GE377.out | refine below_set ?_ GE378.out) | exact HB.out)) hb); clear BK377; clear BK378; clear HB; have BK377 := n0_; have BK378 := n1_; have HB := n2_; clear n0_ n1_ n2_; (try clear hb); (try clear hb2); (try clear hk); (try clear hi)))
       go_ret
       exact ⟨by first | rfl | (simp [errW_none, errW_some] <;> rfl) | (simp [*, errW_none, errW_some] <;> rfl), by repeat (first | (with_reducible first | exact HB.out | apply below_alloc | apply pw_below_drewN | apply below_drew1 | refine below_set ?_ GE377.out | refine below_set ?_ GE378.out) | exact HB.out)⟩
      ·replace c7 := Bool.eq_false_iff.mpr c7
       subst c7
       have H1 : (impl_Case_61_at_62.l0 k1 l0 (l0.length : Int) (wrap64 (x8_1 + 1)) a1_0 a1_1 l1_2 a1_3 a1_4 a1_5 a1_6) = some r := by rw [if_neg (show ¬ (false = true) by decide)] at H; exact H
       clear H
       have H := H1
       clear H1
       have H' := Aside0.mk H
       clear H
       have p379 : 0 ≤ (x8_1 : Int) := asm_
       have q379 : x8_1 < (l0.length : Int) := asm_
       obtain ⟨ad379, e379, hx379_0, hx379_1⟩ := at_T37 HR0.out x8_1 p379 q379
       cases e379
       (try replace hx379_0 := (HB.out.cell (World.block_lt_of_cell? w _ hx379_0)).trans hx379_0)
       (try replace hx379_1 := (HB.out.cell (World.block_lt_of_cell? w _ hx379_1)).trans hx379_1)
       replace p379 := eq_true p379
       replace q379 := eq_true q379
       go_wp2_with (first | (go_at_call 62; (with_reducible refine (impl_Fixed_decode_1_62.calls k1 ((rd_T37 l0 x8_1).f0) ((rd_T37 l0 x8_1).f1) gp1_0 a1_0 a1_1 A1_2 c1_2 l1_2 gp1_1 a1_3 a1_4 a1_5 a1_6 false _ ?side1 ?side2 ?side3 ?side4 A6.out).mono ?_); (case side1 => exact (pl_ BK377)); (case side2 => repeat (first | exact (Kd.C_below HR1_2.out HB.out) | (with_reducible refine Kd.C_alloc ?_ _) | (with_reducible refine Kd.C_drewN ?_ _) | (with_reducible refine Kd.C_drew ?_))); (case side3 => exact HC1_2.out); (case side4 => exact (pl_ BK378)); rintro e w9 ⟨rfl, hb⟩; have n0_ := Aside0.mk (blk_below (g := gp1_0) (o := .cells #[.int .i8 a1_0, .int .i8 a1_1, .slice A1_2 l1_2.length c1_2] 35 (0, 0)) (pl_ BK377) hb); have n1_ := Aside0.mk (blk_below (g := gp1_1) (o := .cells #[.int .i8 a1_3, .int .i8 a1_4, .int .i8 a1_5, .int .i8 a1_6] 30 (0, 0)) (pl_ BK378) hb); have n2_ := Aside0.mk (below_step (by repeat (first | (with_reducible first | exact HB.out | apply below_alloc | apply pw_below_drewN | apply below_drew1 | refine below_set ?_ GE377.out | refine below_set ?_ GE378.out) | exact HB.out)) hb); clear BK377; clear BK378; clear HB; have BK377 := n0_; have BK378 := n1_; have HB := n2_; clear n0_ n1_ n2_; (try clear hb); (try clear hb2); (try clear hk); (try clear hi)))
       go_roundg k1
       case measure => have := HK1.out; omega
       case rel => exact ⟨(wrap64 (x8_1 + 1)), (by first | rfl | (simp; done) | (simp [*]; done)), H', ⟨by have := HK1.out; omega⟩, ⟨pl_ BK377⟩, ⟨pl_ BK378⟩, ⟨by repeat (first | (with_reducible first | exact HB.out | apply below_alloc | apply pw_below_drewN | apply below_drew1 | refine below_set ?_ GE377.out | refine below_set ?_ GE378.out) | exact HB.out)⟩⟩
     ·rw [if_neg c5] at H
      exact absurd H (by simp)
    ·rw [if_neg c4] at H
     exact absurd H (by simp)
   ·rw [if_neg c3] at H
    have c3b0 : decide (x8_1 < (l0.length : Int)) = false := decide_eq_false c3
    clear c3
    obtain rfl := Option.some.inj H
    go_wp2
    go_ret
    exact ⟨by first | rfl | (simp [errW_none, errW_some] <;> rfl) | (simp [*, errW_none, errW_some] <;> rfl), by repeat (first | (with_reducible first | exact HB.out | apply below_alloc | apply pw_below_drewN | apply below_drew1 | refine below_set ?_ GE377.out | refine below_set ?_ GE378.out) | exact HB.out)⟩

end Go.Proofs.Ytkllpdekkhhhnaa.M
