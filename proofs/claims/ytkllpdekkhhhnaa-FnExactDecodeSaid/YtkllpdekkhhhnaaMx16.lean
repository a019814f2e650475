-- By this seat's own program over the kit's printer (arrays, functions told by hand); nothing of it is trusted: the kernel checks it.
import Derived.Test.YtkllpdekkhhhnaaMx0
import Derived.Test.YtkllpdekkhhhnaaMx12
import Derived.Test.YtkllpdekkhhhnaaMx15
namespace Go.Proofs.Ytkllpdekkhhhnaa.M
open Go.RowKit Go.Proofs.YtkllpdekkhhhnaaW.PrintWords Go.Proofs.YtkllpdekkhhhnaaW.PrintLast Go.Proofs.YtkllpdekkhhhnaaW.PrintMore
attribute [local go_sem] max2_int min2_int max_two min_two max_three min_three max_four min_four   -- for this text's walks alone
set_option linter.unusedVariables false
set_option linter.unusedSimpArgs false

/-! ### impl_Fixed_cases: function 35 -/
def impl_Fixed_cases.f (k : Nat) (a0_0 : Int) (a0_1 : Int) (l0_2 : List (S30)) : Option ((List (S37))) := (impl_Word_55.f l0_2).bind fun t232 => ((impl_casesOf.f k t232 a0_1 true).bind fun t233 => (some t233))
theorem impl_Fixed_cases.mono : ∀ a0 a1 a2 k, LeO (impl_Fixed_cases.f k a0 a1 a2) (impl_Fixed_cases.f (k + 1) a0 a1 a2) := by
 intro a0 a1 a2 k
 unfold impl_Fixed_cases.f
 repeat' first
   | (with_reducible exact impl_casesOf.mono _ _ _ _)
   | (with_reducible exact LeO.refl _)
   | (with_reducible exact LeO.none _)
   | (with_reducible refine LeO.ite ?_ ?_)
   | (with_reducible refine LeO.bind ?_ (fun _ => ?_))
   | exact impl_casesOf.mono _ _ _ _
   | exact LeO.none _
   | refine LeO.ite ?_ ?_
   | refine LeO.bind ?_ (fun _ => ?_)
set_option maxHeartbeats 8000000 in
set_option maxRecDepth 100000 in
theorem impl_Fixed_cases.calls (k : Nat) (a0_0 : Int) (a0_1 : Int) (A0_2 : Option Addr) (c0_2 : Nat) (l0_2 : List (S30)) (r : List (S37)) (w : World) (hr0_2 : Kd.C k30 w A0_2 l0_2.length l0_2) (hc0_2 : l0_2.length ≤ c0_2) (h : impl_Fixed_cases.f k a0_0 a0_1 l0_2 = some r) :
  Calls Try.prog 35 #[.agg #[.int .i8 a0_0, .int .i8 a0_1, .slice A0_2 l0_2.length c0_2]] w fun e w' => ∃ v0_ : Value, e = .returned (v0_) ∧ Kd.R k37 37 w' w.heap.size (fun _ => True) v0_ r ∧ Below w.heap.size w w' := by
 have hu35 := Try.underlying35
 have HR0_2 := Aside0.mk hr0_2
 have HC0_2 := Aside0.mk hc0_2
 clear hr0_2 hc0_2
 have HB := Aside0.mk (Below.refl w.heap.size w)
 have H : ((impl_Word_55.f l0_2).bind fun t232 => ((impl_casesOf.f k t232 a0_1 true).bind fun t233 => (some t233))) = some r := h
 clear h
 replace H := Option.bind_eq_some_iff.mp H
 obtain ⟨t232, A20, H⟩ := H
 replace H : ((impl_casesOf.f k t232 a0_1 true).bind fun t233 => (some t233)) = some r := H
 have A2 := Aside0.mk A20
 clear A20
 replace H := Option.bind_eq_some_iff.mp H
 obtain ⟨t233, A30, H⟩ := H
 replace H : (some t233) = some r := H
 have A3 := Aside0.mk A30
 clear A30
 obtain rfl := Option.some.inj H
 go_enter Try.func35, Try.ntmps35
 try go_wp2_with (first | ((with_reducible refine gate_dst (N := 1) rfl ?_); refine box_event ?hg (N := 1) ?hd (cs := #[.int .i8 a0_0, .int .i8 a0_1, .slice A0_2 l0_2.length c0_2]) (t := 35) ?hr ?_; (case hd => rfl); (case hg => rfl); (case hr => first | (go_simp; done) | (go_simp; rfl)); intro gb231 hg w4 hbox hb; have n0_ := Aside0.mk (below_step (bl_ HB) hb); have n1_ := Aside0.mk (hbox); have n2_ := Aside0.mk ((by rw [hg]; exact (below_size (bl_ HB)) : w.heap.size ≤ gb231)); have n3_ := Aside0.mk ((by rw [hg]; exact (below_size (bl_ HB)) : w.heap.size ≤ gb231)); clear HB; have HB := n0_; have BK231 := n1_; have GW231 := n2_; have GE231 := n3_; clear n0_ n1_ n2_ n3_; clear hb hbox hg))
 have n0_ := Aside0.mk (blk_drew BK231.out)
 have n1_ := Aside0.mk (below_drew1 HB.out)
 clear BK231
 clear HB
 have BK231 := n0_
 have HB := n1_
 clear n0_ n1_
 refine start_ (n := 7) (S := fun w' => w'.cell? ⟨gb231, 0, none⟩ = some (.int .i8 a0_0) ∧ w'.cell? ⟨gb231, 1, none⟩ = some (.int .i8 a0_1) ∧ w'.cell? ⟨gb231, 2, none⟩ = some (.slice A0_2 l0_2.length c0_2)) (ds := []) #[false, false, false, false, false, false, false] (by kernel_rfl) rfl rfl ⟨(blk_cell BK231.out 0).trans rfl, (blk_cell BK231.out 1).trans rfl, (blk_cell BK231.out 2).trans rfl⟩ (fun hHeld => ?_)
 generalize w4.drew = w5 at BK231 HB hHeld ⊢
 refine pure_ (i := 0) (N := some 3) (v := ?_) (a' := ?_) #[true, false, false, false, false, false, false] rfl rfl (by kernel_rfl) (fun _ _ _ h => h) (Or.inl ⟨by rfl, ?_⟩) ?_ ?_
 rotate_left
 ·intro w'
  go_simp
  with_reducible rfl
 rotate_left
 ·simp only [Act.put, List.setIfInBounds_toArray, List.set_cons_zero, List.set_cons_succ, i64_w, i32_w]
  rfl
 refine pure_ (i := 3) (N := some 6) (v := ?_) (a' := ?_) #[true, false, false, true, false, false, false] rfl rfl (by kernel_rfl) (fun _ _ _ h => h) (Or.inl ⟨by rfl, ?_⟩) ?_ ?_
 rotate_left
 ·intro w'
  go_simp
  with_reducible rfl
 rotate_left
 ·simp only [Act.put, List.setIfInBounds_toArray, List.set_cons_zero, List.set_cons_succ, i64_w, i32_w]
  rfl
 refine take_ (i := 1) (N := some 4) (v := ?_) (a' := ?_) #[true, true, false, true, false, false, false] rfl rfl (by kernel_rfl) (fun _ _ _ h => h) (Or.inl ⟨by rfl, ?_⟩) hHeld ?_ ?_
 rotate_left
 ·rintro w' ⟨s0, s1, s2⟩
  go_simp
  with_reducible rfl
 rotate_left
 ·simp only [Act.put, List.setIfInBounds_toArray, List.set_cons_zero, List.set_cons_succ, i64_w, i32_w]
  rfl
 refine take_ (i := 4) (N := some 7) (v := ?_) (a' := ?_) #[true, true, false, true, true, false, false] rfl rfl (by kernel_rfl) (fun _ _ _ h => h) (Or.inl ⟨by rfl, ?_⟩) hHeld ?_ ?_
 rotate_left
 ·rintro w' ⟨s0, s1, s2⟩
  go_simp
  with_reducible rfl
 rotate_left
 ·simp only [Act.put, List.setIfInBounds_toArray, List.set_cons_zero, List.set_cons_succ, i64_w, i32_w]
  rfl
 refine one_ (i := 2) (N := some 5) #[true, true, true, true, true, false, false] rfl rfl (by kernel_rfl) (by decide) (fun K hK => ?_)
 refine goes_ Try.func55 (by kernel_rfl) rfl #[.slice A0_2 l0_2.length c0_2] (by rfl) rfl rfl (by (try simp only [List.map_toArray, List.map_cons, List.map_nil]); first | done | rfl | (simp only [List.length_drop, List.length_take]; rfl)) ?_
 with_reducible refine (impl_Word_55.calls _ _ l0_2 t232 _ ?side1 ?side2 A2.out).mono ?_
 (case side1 => repeat (first | exact (Kd.C_below HR0_2.out HB.out) | (with_reducible refine Kd.C_alloc ?_ _) | (with_reducible refine Kd.C_drewN ?_ _) | (with_reducible refine Kd.C_drew ?_)))
 (case side2 => exact HC0_2.out)
 rintro e w' ⟨rfl, ⟨nd, rfl⟩⟩
 refine ⟨_, rfl, ?_⟩
 refine hK.out _ _ ⟨(blk_cell BK231.out 0).trans rfl, (blk_cell BK231.out 1).trans rfl, (blk_cell BK231.out 2).trans rfl⟩ (fun hHeld => ?_)
 clear hK K
 refine norm_ (a' := ?_) ?_ ?_
 rotate_left
 ·show Act.put _ (some 5) _ = _
  simp only [Act.put, List.setIfInBounds_toArray, List.set_cons_zero, List.set_cons_succ, i64_w, i32_w]
  rfl
 refine one_ (i := 5) (N := some 8) #[true, true, true, true, true, true, false] rfl rfl (by kernel_rfl) (by decide) (fun K hK => ?_)
 refine goes_ Try.func59 (by kernel_rfl) rfl #[.int .i64 t232, .int .i8 a0_1, .bool true] (by rfl) rfl rfl (by (try simp only [List.map_toArray, List.map_cons, List.map_nil]); first | done | rfl | (simp only [List.length_drop, List.length_take]; rfl)) ?_
 with_reducible refine (impl_casesOf.calls k t232 a0_1 true t233 _ A3.out).mono ?_
 rintro e w6 ⟨v234, rfl, ho0, hb⟩
 refine ⟨_, rfl, ?_⟩
 have n0_ := Aside0.mk (Kd.R_lower ho0 (below_size (by repeat (first | (with_reducible first | exact HB.out | apply below_alloc | apply pw_below_drewN | apply below_drew1 | refine below_set ?_ GE231.out) | exact HB.out))))
 have n1_ := Aside0.mk (blk_below (g := gb231) (o := .cells #[.int .i8 a0_0, .int .i8 a0_1, .slice A0_2 l0_2.length c0_2] 35 (0, 0)) (pl_ BK231) hb)
 have n2_ := Aside0.mk (below_step (by repeat (first | (with_reducible first | exact HB.out | apply below_alloc | apply pw_below_drewN | apply below_drew1 | refine below_set ?_ GE231.out) | exact HB.out)) hb)
 clear BK231
 clear HB
 have HO235 := n0_
 have BK231 := n1_
 have HB := n2_
 clear n0_ n1_ n2_
 (try clear hb)
 (try clear hb2)
 (try clear hk)
 (try clear hi)
 (try clear ho0)
 refine hK.out _ _ ⟨(blk_cell BK231.out 0).trans rfl, (blk_cell BK231.out 1).trans rfl, (blk_cell BK231.out 2).trans rfl⟩ (fun hHeld => ?_)
 clear hK K
 refine norm_ (a' := ?_) ?_ ?_
 rotate_left
 ·show Act.put _ (some 8) _ = _
  simp only [Act.put, List.setIfInBounds_toArray, List.set_cons_zero, List.set_cons_succ, i64_w, i32_w]
  rfl
 refine pure_ (i := 6) (N := some 2) (v := ?_) (a' := ?_) #[true, true, true, true, true, true, true] rfl rfl (by kernel_rfl) (fun _ _ _ h => h) (Or.inl ⟨by rfl, ?_⟩) ?_ ?_
 rotate_left
 ·intro w'
  go_simp
  with_reducible rfl
 rotate_left
 ·simp only [Act.put, List.setIfInBounds_toArray, List.set_cons_zero, List.set_cons_succ, i64_w, i32_w]
  rfl
 refine done_ (by kernel_rfl) ?_
 try go_wp2
 go_ret
 exact ⟨_, by first | rfl | (simp [errW_none, errW_some] <;> rfl) | (simp [*, errW_none, errW_some] <;> rfl), pr_ HO235, by repeat (first | (with_reducible first | exact HB.out | apply below_alloc | apply pw_below_drewN | apply below_drew1 | refine below_set ?_ GE231.out) | exact HB.out)⟩

/-! ### impl_OppositeWord: function 60 -/
def impl_OppositeWord.l0 : Nat → Int → Int → Int → Int → Int → Option (Int × Int × Int × Int)
 | 0, _, _, _, _, _ => none
 | k + 1, x4, x237000, x237001, x237002, x237003 => if x4 < 4 then (if 0 ≤ x4 then (impl_OppositeWord.l0 k (wrap64 (x4 + 1)) (aup x4 0 (IntKind.i8.wrap (-(rd [x237000, x237001, x237002, x237003] x4))) x237000) (aup x4 1 (IntKind.i8.wrap (-(rd [x237000, x237001, x237002, x237003] x4))) x237001) (aup x4 2 (IntKind.i8.wrap (-(rd [x237000, x237001, x237002, x237003] x4))) x237002) (aup x4 3 (IntKind.i8.wrap (-(rd [x237000, x237001, x237002, x237003] x4))) x237003)) else (none)) else (some (x237000, x237001, x237002, x237003))
def impl_OppositeWord.f (k : Nat) (a0_0 : Int) (a0_1 : Int) (a0_2 : Int) (a0_3 : Int) : Option (Int × Int × Int × Int) := impl_OppositeWord.l0 k 0 a0_0 a0_1 a0_2 a0_3
theorem impl_OppositeWord.mono_l : ∀ k, (∀ y0 y1 y2 y3 y4, LeO (impl_OppositeWord.l0 k y0 y1 y2 y3 y4) (impl_OppositeWord.l0 (k + 1) y0 y1 y2 y3 y4))
 | 0 => fun _ _ _ _ _ r h => by simp [impl_OppositeWord.l0] at h
 | k + 1 => by
  have ih0 := impl_OppositeWord.mono_l k
  ·intro y0 y1 y2 y3 y4
   unfold impl_OppositeWord.l0
   repeat' first
   | (with_reducible exact ih0 _ _ _ _ _)
   | (with_reducible exact LeO.refl _)
   | (with_reducible exact LeO.none _)
   | (with_reducible refine LeO.ite ?_ ?_)
   | (with_reducible refine LeO.bind ?_ (fun _ => ?_))
   | exact ih0 _ _ _ _ _
   | exact LeO.none _
   | refine LeO.ite ?_ ?_
   | refine LeO.bind ?_ (fun _ => ?_)
theorem impl_OppositeWord.mono : ∀ a0 a1 a2 a3 k, LeO (impl_OppositeWord.f k a0 a1 a2 a3) (impl_OppositeWord.f (k + 1) a0 a1 a2 a3) := by
 intro a0 a1 a2 a3 k
 have ih0 := impl_OppositeWord.mono_l k
 unfold impl_OppositeWord.f
 repeat' first
   | (with_reducible exact ih0 _ _ _ _ _)
   | (with_reducible exact LeO.refl _)
   | (with_reducible exact LeO.none _)
   | (with_reducible refine LeO.ite ?_ ?_)
   | (with_reducible refine LeO.bind ?_ (fun _ => ?_))
   | exact ih0 _ _ _ _ _
   | exact LeO.none _
   | refine LeO.ite ?_ ?_
   | refine LeO.bind ?_ (fun _ => ?_)
set_option maxHeartbeats 8000000 in
set_option maxRecDepth 100000 in
theorem impl_OppositeWord.calls (k : Nat) (a0_0 : Int) (a0_1 : Int) (a0_2 : Int) (a0_3 : Int) (r1 : Int) (r2 : Int) (r3 : Int) (r4 : Int) (w : World) (h : impl_OppositeWord.f k a0_0 a0_1 a0_2 a0_3 = some (r1, r2, r3, r4)) :
  Calls Try.prog 60 #[.agg #[.int .i8 a0_0, .int .i8 a0_1, .int .i8 a0_2, .int .i8 a0_3]] w fun e w' => e = .returned (.agg #[.int .i8 r1, .int .i8 r2, .int .i8 r3, .int .i8 r4]) ∧ Below w.heap.size w w' := by
 have hu30 := Try.underlying30
 have HB := Aside0.mk (Below.refl w.heap.size w)
 have H : (impl_OppositeWord.l0 k 0 a0_0 a0_1 a0_2 a0_3) = some (r1, r2, r3, r4) := h
 clear h
 have H' := Aside0.mk H
 clear H
 go_enter Try.func60, Try.ntmps60
 go_wp2_with (first | ((with_reducible refine gate_dst (N := 1) rfl ?_); refine box_event ?hg (N := 1) ?hd (cs := #[.int .i8 a0_0, .int .i8 a0_1, .int .i8 a0_2, .int .i8 a0_3]) (t := 30) ?hr ?_; (case hd => rfl); (case hg => rfl); (case hr => first | (go_simp; done) | (go_simp; rfl)); intro gb236 hg w2 hbox hb; have n0_ := Aside0.mk (below_step (bl_ HB) hb); have n1_ := Aside0.mk (hbox); have n2_ := Aside0.mk ((by rw [hg]; exact (below_size (bl_ HB)) : w.heap.size ≤ gb236)); have n3_ := Aside0.mk ((by rw [hg]; exact (below_size (bl_ HB)) : w.heap.size ≤ gb236)); clear HB; have HB := n0_; have BK236 := n1_; have GW236 := n2_; have GE236 := n3_; clear n0_ n1_ n2_ n3_; clear hb hbox hg) | ((with_reducible refine gate_dst (N := 2) rfl ?_); refine box_event ?hg (N := 2) ?hd (cs := #[.int .i8 0, .int .i8 0, .int .i8 0, .int .i8 0]) (t := 30) ?hr ?_; (case hd => rfl); (case hg => rfl); (case hr => first | (go_simp; done) | (go_simp; rfl)); intro gb237 hg w3 hbox hb; have n0_ := Aside0.mk (blk_below (g := gb236) (o := .cells #[.int .i8 a0_0, .int .i8 a0_1, .int .i8 a0_2, .int .i8 a0_3] 30 (0, 0)) (pl_ BK236) hb); have n1_ := Aside0.mk (below_step (by repeat (first | (with_reducible first | exact HB.out | apply below_alloc | apply pw_below_drewN | apply below_drew1 | refine below_set ?_ GE236.out) | exact HB.out)) hb); have n2_ := Aside0.mk (hbox); have n3_ := Aside0.mk ((by rw [hg]; exact (below_size (by repeat (first | (with_reducible first | exact HB.out | apply below_alloc | apply pw_below_drewN | apply below_drew1 | refine below_set ?_ GE236.out) | exact HB.out))) : w.heap.size ≤ gb237)); have n4_ := Aside0.mk ((by rw [hg]; exact (below_size (by repeat (first | (with_reducible first | exact HB.out | apply below_alloc | apply pw_below_drewN | apply below_drew1 | refine below_set ?_ GE236.out) | exact HB.out))) : w.heap.size ≤ gb237)); have n5_ := Aside0.mk ((by rw [hg]; exact Nat.ne_of_lt (blk_lt (g := gb236) (o := .cells #[.int .i8 a0_0, .int .i8 a0_1, .int .i8 a0_2, .int .i8 a0_3] 30 (0, 0)) (pl_ BK236)) : gb236 ≠ gb237)); have n6_ := Aside0.mk ((by rw [hg]; exact Nat.ne_of_gt (blk_lt (g := gb236) (o := .cells #[.int .i8 a0_0, .int .i8 a0_1, .int .i8 a0_2, .int .i8 a0_3] 30 (0, 0)) (pl_ BK236)) : gb237 ≠ gb236)); clear BK236; clear HB; have BK236 := n0_; have HB := n1_; have BK237 := n2_; have GW237 := n3_; have GE237 := n4_; have NB236_237 := n5_; have NB237_236 := n6_; clear n0_ n1_ n2_ n3_ n4_ n5_ n6_; clear hb hbox hg))
 go_loopg [4] k (fun kq v4 w' => ∃ (x4_1 : Int) (x237000_1 : Int) (x237001_1 : Int) (x237002_1 : Int) (x237003_1 : Int), v4 = .int .i64 x4_1 ∧ Aside0 (impl_OppositeWord.l0 kq x4_1 x237000_1 x237001_1 x237002_1 x237003_1 = some (r1, r2, r3, r4)) ∧ Aside0 (kq ≤ k) ∧ Aside0 (w'.heap[gb236]? = some (.cells #[.int .i8 x237000_1, .int .i8 x237001_1, .int .i8 x237002_1, .int .i8 x237003_1] 30 (0, 0))) ∧ Aside0 (w'.heap[gb237]? = some (.cells #[.int .i8 0, .int .i8 0, .int .i8 0, .int .i8 0] 30 (0, 0))) ∧ Aside0 (Below w.heap.size w w'))
 case atStart => exact ⟨(0), (a0_0), (a0_1), (a0_2), (a0_3), (by first | rfl | (simp; done) | (simp [*]; done)), H', ⟨Nat.le_refl _⟩, ⟨pl_ BK236⟩, ⟨pl_ BK237⟩, ⟨by repeat (first | (with_reducible first | exact HB.out | apply below_alloc | apply pw_below_drewN | apply below_drew1 | refine below_set ?_ GE236.out | refine below_set ?_ GE237.out) | exact HB.out)⟩⟩
 case round =>
  clear H'
  try clear p2
  obtain ⟨x4_1, x237000_1, x237001_1, x237002_1, x237003_1, rfl, HA, HK1, BK236, BK237, HB⟩ := hrel
  cases gk with
  | zero => exact absurd HA.out (by simp [impl_OppositeWord.l0])
  | succ k1 =>
   have H := HA.out
   clear HA
   simp only [impl_OppositeWord.l0] at H
   by_cases c4 : x4_1 < 4
   ·rw [if_pos c4] at H
    have c4b0 : decide (x4_1 < 4) = true := decide_eq_true c4
    clear c4
    by_cases c5 : 0 ≤ x4_1
    ·rw [if_pos c5] at H
     have c5b0 : decide (0 ≤ x4_1) = true := decide_eq_true c5
     clear c5
     have H' := Aside0.mk H
     clear H
     have hnb9 := NB236_237.out
     have hnc9 := NB237_236.out
     have hcz10_0 : wr.cell? ⟨gb236, 0, none⟩ = some (.int .i8 x237000_1) := (blk_cell BK236.out 0).trans rfl
     have hcz10_1 : wr.cell? ⟨gb236, 1, none⟩ = some (.int .i8 x237001_1) := (blk_cell BK236.out 1).trans rfl
     have hcz10_2 : wr.cell? ⟨gb236, 2, none⟩ = some (.int .i8 x237002_1) := (blk_cell BK236.out 2).trans rfl
     have hcz10_3 : wr.cell? ⟨gb236, 3, none⟩ = some (.int .i8 x237003_1) := (blk_cell BK236.out 3).trans rfl
     have hfz10_0 := blk_frozen BK236.out 0
     have hfz10_1 := blk_frozen BK236.out 1
     have hfz10_2 := blk_frozen BK236.out 2
     have hfz10_3 := blk_frozen BK236.out 3
     have p6 : 0 ≤ (x4_1 : Int) := asm_
     have q6 : (x4_1 : Int) < 4 := asm_
     have hx6 : wr.cell? ⟨gb236, (x4_1 : Int).toNat, none⟩ = some (.int .i8 (rd [x237000_1, x237001_1, x237002_1, x237003_1] x4_1)) := ard_cell (k := .i8) (l := [x237000_1, x237001_1, x237002_1, x237003_1]) BK236.out p6 q6
     have hf6 := blk_frozen BK236.out (x4_1 : Int).toNat
     have P6 := Aside0.mk p6
     have Q6 := Aside0.mk q6
     replace p6 := eq_true p6
     replace q6 := eq_true q6
     have p7 : 0 ≤ (x4_1 : Int) := asm_
     have q7 : (x4_1 : Int) < 4 := asm_
     have hx7 : wr.cell? ⟨gb236, (x4_1 : Int).toNat, none⟩ = some (.int .i8 (rd [x237000_1, x237001_1, x237002_1, x237003_1] x4_1)) := ard_cell (k := .i8) (l := [x237000_1, x237001_1, x237002_1, x237003_1]) BK236.out p7 q7
     have hf7 := blk_frozen BK236.out (x4_1 : Int).toNat
     have P7 := Aside0.mk p7
     have Q7 := Aside0.mk q7
     replace p7 := eq_true p7
     replace q7 := eq_true q7
     go_wp2_with (first | ((with_reducible refine gate_store (t := 22) (p := 12) rfl ?_); refine store_event (t := 22) (p := 12) (v := ?vo_w12) (w1 := (wr.setCell ⟨gb236, (x4_1 : Int).toNat, none⟩ (.int .i8 (IntKind.i8.wrap (-(rd [x237000_1, x237001_1, x237002_1, x237003_1] x4_1)))))) ?hg ?ho ?hn ?hr ?_; (case ho => rfl); (case hg => rfl); (case hn => rfl); (case hr => first | (go_simp; done) | (go_simp; rfl)); intro w12 hw; have n0_ : Aside0 (w12.heap[gb236]? = some (.cells #[.int .i8 (aup x4_1 0 (IntKind.i8.wrap (-(rd [x237000_1, x237001_1, x237002_1, x237003_1] x4_1))) x237000_1), .int .i8 (aup x4_1 1 (IntKind.i8.wrap (-(rd [x237000_1, x237001_1, x237002_1, x237003_1] x4_1))) x237001_1), .int .i8 (aup x4_1 2 (IntKind.i8.wrap (-(rd [x237000_1, x237001_1, x237002_1, x237003_1] x4_1))) x237002_1), .int .i8 (aup x4_1 3 (IntKind.i8.wrap (-(rd [x237000_1, x237001_1, x237002_1, x237003_1] x4_1))) x237003_1)] 30 (0, 0))) := ⟨(by rw [hw]; exact (by (with_reducible repeat (first | refine blk_drewN ?_ _ | refine blk_drew ?_ | refine blk_alloc ?_ _)); refine blk_put (cs := #[.int .i8 x237000_1, .int .i8 x237001_1, .int .i8 x237002_1, .int .i8 x237003_1]) ?_ (x4_1 : Int).toNat _ (ups_set (k := .i8) (l := [x237000_1, x237001_1, x237002_1, x237003_1]) P7.out); (with_reducible repeat (first | refine blk_drewN ?_ _ | refine blk_drew ?_ | refine blk_alloc ?_ _)); exact BK236.out))⟩; have n1_ : Aside0 (w12.heap[gb237]? = some (.cells #[.int .i8 0, .int .i8 0, .int .i8 0, .int .i8 0] 30 (0, 0))) := ⟨(by rw [hw]; exact (by (with_reducible repeat (first | refine blk_drewN ?_ _ | refine blk_drew ?_ | refine blk_alloc ?_ _)); refine blk_far ?_ NB237_236.out _; (with_reducible repeat (first | refine blk_drewN ?_ _ | refine blk_drew ?_ | refine blk_alloc ?_ _)); exact BK237.out))⟩; have n2_ : Aside0 (Below w.heap.size w w12) := ⟨(by rw [hw]; exact (by repeat (first | (with_reducible first | exact HB.out | apply below_alloc | apply pw_below_drewN | apply below_drew1 | refine below_set ?_ GE236.out | refine below_set ?_ GE237.out) | exact HB.out)))⟩; clear hw; clear BK236; clear BK237; clear HB; have BK236 := n0_; have BK237 := n1_; have HB := n2_; clear n0_ n1_ n2_))
     go_roundg k1
     case measure => have := HK1.out; omega
     case rel => exact ⟨(wrap64 (x4_1 + 1)), (aup x4_1 0 (IntKind.i8.wrap (-(rd [x237000_1, x237001_1, x237002_1, x237003_1] x4_1))) x237000_1), (aup x4_1 1 (IntKind.i8.wrap (-(rd [x237000_1, x237001_1, x237002_1, x237003_1] x4_1))) x237001_1), (aup x4_1 2 (IntKind.i8.wrap (-(rd [x237000_1, x237001_1, x237002_1, x237003_1] x4_1))) x237002_1), (aup x4_1 3 (IntKind.i8.wrap (-(rd [x237000_1, x237001_1, x237002_1, x237003_1] x4_1))) x237003_1), (by first | rfl | (simp; done) | (simp [*]; done)), H', ⟨by have := HK1.out; omega⟩, ⟨pl_ BK236⟩, ⟨pl_ BK237⟩, ⟨by repeat (first | (with_reducible first | exact HB.out | apply below_alloc | apply pw_below_drewN | apply below_drew1 | refine below_set ?_ GE236.out | refine below_set ?_ GE237.out) | exact HB.out)⟩⟩
    ·rw [if_neg c5] at H
     exact absurd H (by simp)
   ·rw [if_neg c4] at H
    have c4b0 : decide (x4_1 < 4) = false := decide_eq_false c4
    clear c4
    simp only [Option.some.injEq, Prod.mk.injEq] at H
    obtain ⟨rfl, rfl, rfl, rfl⟩ := H
    have hnb13 := NB236_237.out
    have hnc13 := NB237_236.out
    have hcz14_0 : wr.cell? ⟨gb236, 0, none⟩ = some (.int .i8 x237000_1) := (blk_cell BK236.out 0).trans rfl
    have hcz14_1 : wr.cell? ⟨gb236, 1, none⟩ = some (.int .i8 x237001_1) := (blk_cell BK236.out 1).trans rfl
    have hcz14_2 : wr.cell? ⟨gb236, 2, none⟩ = some (.int .i8 x237002_1) := (blk_cell BK236.out 2).trans rfl
    have hcz14_3 : wr.cell? ⟨gb236, 3, none⟩ = some (.int .i8 x237003_1) := (blk_cell BK236.out 3).trans rfl
    have hfz14_0 := blk_frozen BK236.out 0
    have hfz14_1 := blk_frozen BK236.out 1
    have hfz14_2 := blk_frozen BK236.out 2
    have hfz14_3 := blk_frozen BK236.out 3
    have hcz15_0 : wr.cell? ⟨gb237, 0, none⟩ = some (.int .i8 0) := (blk_cell BK237.out 0).trans rfl
    have hcz15_1 : wr.cell? ⟨gb237, 1, none⟩ = some (.int .i8 0) := (blk_cell BK237.out 1).trans rfl
    have hcz15_2 : wr.cell? ⟨gb237, 2, none⟩ = some (.int .i8 0) := (blk_cell BK237.out 2).trans rfl
    have hcz15_3 : wr.cell? ⟨gb237, 3, none⟩ = some (.int .i8 0) := (blk_cell BK237.out 3).trans rfl
    have hfz15_0 := blk_frozen BK237.out 0
    have hfz15_1 := blk_frozen BK237.out 1
    have hfz15_2 := blk_frozen BK237.out 2
    have hfz15_3 := blk_frozen BK237.out 3
    go_wp2
    refine bodyPost_ret (results_cell_row rfl _ _ gb237 30 #[.int .i8 x237000_1, .int .i8 x237001_1, .int .i8 x237002_1, .int .i8 x237003_1] (0, 0) _ rfl (by (with_reducible repeat (first | refine blk_drewN ?_ _ | refine blk_drew ?_ | refine blk_alloc ?_ _)); refine blk_put (cs := #[.int .i8 x237000_1, .int .i8 x237001_1, .int .i8 x237002_1, .int .i8 0]) ?_ 3 _ rfl; (with_reducible repeat (first | refine blk_drewN ?_ _ | refine blk_drew ?_ | refine blk_alloc ?_ _)); refine blk_put (cs := #[.int .i8 x237000_1, .int .i8 x237001_1, .int .i8 0, .int .i8 0]) ?_ 2 _ rfl; (with_reducible repeat (first | refine blk_drewN ?_ _ | refine blk_drew ?_ | refine blk_alloc ?_ _)); refine blk_put (cs := #[.int .i8 x237000_1, .int .i8 0, .int .i8 0, .int .i8 0]) ?_ 1 _ rfl; (with_reducible repeat (first | refine blk_drewN ?_ _ | refine blk_drew ?_ | refine blk_alloc ?_ _)); refine blk_put (cs := #[.int .i8 0, .int .i8 0, .int .i8 0, .int .i8 0]) ?_ 0 _ rfl; (with_reducible repeat (first | refine blk_drewN ?_ _ | refine blk_drew ?_ | refine blk_alloc ?_ _)); exact BK237.out) Try.underlying30 rfl (by kernel_rfl)) rfl ?_
    exact ⟨by first | rfl | (simp [errW_none, errW_some] <;> rfl) | (simp [*, errW_none, errW_some] <;> rfl), by repeat (first | (with_reducible first | exact HB.out | apply below_alloc | apply pw_below_drewN | apply below_drew1 | refine below_set ?_ GE236.out | refine below_set ?_ GE237.out) | exact HB.out)⟩

end Go.Proofs.Ytkllpdekkhhhnaa.M
