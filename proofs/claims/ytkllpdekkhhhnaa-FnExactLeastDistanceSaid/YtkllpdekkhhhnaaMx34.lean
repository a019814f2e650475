-- By this seat's own program over the kit's printer (arrays, functions told by hand); nothing of it is trusted: the kernel checks it.
import Derived.Test.YtkllpdekkhhhnaaMx0
import Derived.Test.YtkllpdekkhhhnaaMx14
import Derived.Test.YtkllpdekkhhhnaaMx16
import Derived.Test.YtkllpdekkhhhnaaMx17
import Derived.Test.YtkllpdekkhhhnaaMx33
namespace Go.Proofs.Ytkllpdekkhhhnaa.M
open Go.RowKit Go.Proofs.YtkllpdekkhhhnaaW.PrintWords Go.Proofs.YtkllpdekkhhhnaaW.PrintLast Go.Proofs.YtkllpdekkhhhnaaW.PrintMore
attribute [local go_sem] max2_int min2_int max_two min_two max_three min_three max_four min_four   -- for this text's walks alone
set_option linter.unusedVariables false
set_option linter.unusedSimpArgs false

/-! ### impl_LeastDistance: function 25 -/
mutual
def impl_LeastDistance.l0 : Nat → List (S37) → Int → List (S37) → Int → Int → Int → Int → List (S30) → Option (Int × Int)
 | 0, _, _, _, _, _, _, _, _ => none
 | k + 1, x4, x5, x15, x16, x17, x457000, x457001, x457002 => if x17 < x16 then (if 0 ≤ x17 then (if x17 < (x15.length : Int) then (if x17 ≤ (x4.length : Int) then ((some (x4.take (x17 : Int).toNat : List (S37))).bind fun y463 => (impl_LeastDistance.l1 k x4 x5 x15 x16 x17 y463 (y463.length : Int) 0 x457000 x457001 x457002 ((rd_T37 x15 x17).f0) ((rd_T37 x15 x17).f1))) else (none)) else (none)) else (none)) else (some (x5, 0))
def impl_LeastDistance.l1 : Nat → List (S37) → Int → List (S37) → Int → Int → List (S37) → Int → Int → Int → Int → List (S30) → Int → Bool → Option (Int × Int)
 | 0, _, _, _, _, _, _, _, _, _, _, _, _, _ => none
 | k + 1, x4, x5, x15, x16, x17, x24, x25, x26, x457000, x457001, x457002, x463000, x463001 => if x26 < x25 then (if 0 ≤ x26 then (if x26 < (x24.length : Int) then ((impl_Fixed_seen.f k x457000 x457001 x457002 ((rd_T37 x24 x26).f0) ((rd_T37 x24 x26).f1)).bind fun bt469 => ((impl_Fixed_seen.f k x457000 x457001 x457002 x463000 x463001).bind fun bt473 => ((impl_distance.f k bt469.1 bt469.2.1 bt469.2.2.1 bt469.2.2.2 bt473.1 bt473.2.1 bt473.2.2.1 bt473.2.2.2).bind fun t477 => (impl_LeastDistance.l1 k x4 (mn x5 t477) x15 x16 x17 x24 x25 (wrap64 (x26 + 1)) x457000 x457001 x457002 x463000 x463001)))) else (none)) else (none)) else (impl_LeastDistance.l0 k x4 x5 x15 x16 (wrap64 (x17 + 1)) x457000 x457001 x457002)
end
def impl_LeastDistance.f (k : Nat) (a0_0 : Int) (a0_1 : Int) (l0_2 : List (S30)) : Option (Int × Int) := (impl_ValidFixed.f k a0_0 a0_1 l0_2).bind fun t457 => (if t457 = true then ((impl_Fixed_cases.f k a0_0 a0_1 l0_2).bind fun t458 => (impl_LeastDistance.l0 k t458 4 t458 (t458.length : Int) 0 a0_0 a0_1 l0_2)) else (some (0, 1)))
theorem impl_LeastDistance.mono_l : ∀ k, (∀ y0 y1 y2 y3 y4 y5 y6 y7, LeO (impl_LeastDistance.l0 k y0 y1 y2 y3 y4 y5 y6 y7) (impl_LeastDistance.l0 (k + 1) y0 y1 y2 y3 y4 y5 y6 y7)) ∧ (∀ y0 y1 y2 y3 y4 y5 y6 y7 y8 y9 y10 y11 y12, LeO (impl_LeastDistance.l1 k y0 y1 y2 y3 y4 y5 y6 y7 y8 y9 y10 y11 y12) (impl_LeastDistance.l1 (k + 1) y0 y1 y2 y3 y4 y5 y6 y7 y8 y9 y10 y11 y12))
 | 0 => ⟨fun _ _ _ _ _ _ _ _ r h => by simp [impl_LeastDistance.l0] at h, fun _ _ _ _ _ _ _ _ _ _ _ _ _ r h => by simp [impl_LeastDistance.l1] at h⟩
 | k + 1 => by
  obtain ⟨ih0, ih1⟩ := impl_LeastDistance.mono_l k
  refine ⟨?_, ?_⟩
  ·intro y0 y1 y2 y3 y4 y5 y6 y7
   unfold impl_LeastDistance.l0
   repeat' first
   | (with_reducible exact ih0 _ _ _ _ _ _ _ _)
   | (with_reducible exact ih1 _ _ _ _ _ _ _ _ _ _ _ _ _)
   | (with_reducible exact impl_Fixed_cases.mono _ _ _ _)
   | (with_reducible exact impl_Fixed_seen.mono _ _ _ _ _ _)
   | (with_reducible exact impl_ValidFixed.mono _ _ _ _)
   | (with_reducible exact impl_distance.mono _ _ _ _ _ _ _ _ _)
   | (with_reducible exact LeO.refl _)
   | (with_reducible exact LeO.none _)
   | (with_reducible refine LeO.ite ?_ ?_)
   | (with_reducible refine LeO.bind ?_ (fun _ => ?_))
   | exact ih0 _ _ _ _ _ _ _ _
   | exact ih1 _ _ _ _ _ _ _ _ _ _ _ _ _
   | exact impl_Fixed_cases.mono _ _ _ _
   | exact impl_Fixed_seen.mono _ _ _ _ _ _
   | exact impl_ValidFixed.mono _ _ _ _
   | exact impl_distance.mono _ _ _ _ _ _ _ _ _
   | exact LeO.none _
   | refine LeO.ite ?_ ?_
   | refine LeO.bind ?_ (fun _ => ?_)
  ·intro y0 y1 y2 y3 y4 y5 y6 y7 y8 y9 y10 y11 y12
   unfold impl_LeastDistance.l1
   repeat' first
   | (with_reducible exact ih0 _ _ _ _ _ _ _ _)
   | (with_reducible exact ih1 _ _ _ _ _ _ _ _ _ _ _ _ _)
   | (with_reducible exact impl_Fixed_cases.mono _ _ _ _)
   | (with_reducible exact impl_Fixed_seen.mono _ _ _ _ _ _)
   | (with_reducible exact impl_ValidFixed.mono _ _ _ _)
   | (with_reducible exact impl_distance.mono _ _ _ _ _ _ _ _ _)
   | (with_reducible exact LeO.refl _)
   | (with_reducible exact LeO.none _)
   | (with_reducible refine LeO.ite ?_ ?_)
   | (with_reducible refine LeO.bind ?_ (fun _ => ?_))
   | exact ih0 _ _ _ _ _ _ _ _
   | exact ih1 _ _ _ _ _ _ _ _ _ _ _ _ _
   | exact impl_Fixed_cases.mono _ _ _ _
   | exact impl_Fixed_seen.mono _ _ _ _ _ _
   | exact impl_ValidFixed.mono _ _ _ _
   | exact impl_distance.mono _ _ _ _ _ _ _ _ _
   | exact LeO.none _
   | refine LeO.ite ?_ ?_
   | refine LeO.bind ?_ (fun _ => ?_)
theorem impl_LeastDistance.mono : ∀ a0 a1 a2 k, LeO (impl_LeastDistance.f k a0 a1 a2) (impl_LeastDistance.f (k + 1) a0 a1 a2) := by
 intro a0 a1 a2 k
 obtain ⟨ih0, ih1⟩ := impl_LeastDistance.mono_l k
 unfold impl_LeastDistance.f
 repeat' first
   | (with_reducible exact ih0 _ _ _ _ _ _ _ _)
   | (with_reducible exact ih1 _ _ _ _ _ _ _ _ _ _ _ _ _)
   | (with_reducible exact impl_Fixed_cases.mono _ _ _ _)
   | (with_reducible exact impl_Fixed_seen.mono _ _ _ _ _ _)
   | (with_reducible exact impl_ValidFixed.mono _ _ _ _)
   | (with_reducible exact impl_distance.mono _ _ _ _ _ _ _ _ _)
   | (with_reducible exact LeO.refl _)
   | (with_reducible exact LeO.none _)
   | (with_reducible refine LeO.ite ?_ ?_)
   | (with_reducible refine LeO.bind ?_ (fun _ => ?_))
   | exact ih0 _ _ _ _ _ _ _ _
   | exact ih1 _ _ _ _ _ _ _ _ _ _ _ _ _
   | exact impl_Fixed_cases.mono _ _ _ _
   | exact impl_Fixed_seen.mono _ _ _ _ _ _
   | exact impl_ValidFixed.mono _ _ _ _
   | exact impl_distance.mono _ _ _ _ _ _ _ _ _
   | exact LeO.none _
   | refine LeO.ite ?_ ?_
   | refine LeO.bind ?_ (fun _ => ?_)
def impl_LeastDistance.T10 : Bool × List (List Nat × List Nat) := (true, [([], []), ([], []), ([], []), ([1, 2], [1, 2]), ([], []), ([], []), ([4, 5, 3], [4, 5]), ([3, 6, 6], [3, 6]), ([0, 7], [0, 7]), ([8, 7, 0, 1, 2, 3, 4, 5, 6, 7, 8], [0, 8])])
def impl_LeastDistance.B10 : List Nat := [0, 0, 0, 6, 0, 0, 62, 126, 255, 511]
theorem impl_LeastDistance.tab10 : rtab .any (opsOf Try.f25 10) = impl_LeastDistance.T10 := by kernel_rfl
theorem impl_LeastDistance.bits10 : waitsOk impl_LeastDistance.T10.2 impl_LeastDistance.B10 = true := by kernel_rfl
set_option maxHeartbeats 8000000 in
set_option maxRecDepth 100000 in
theorem impl_LeastDistance.calls (k : Nat) (a0_0 : Int) (a0_1 : Int) (A0_2 : Option Addr) (c0_2 : Nat) (l0_2 : List (S30)) (r1 : Int) (r2 : Int) (w : World) (hr0_2 : Kd.C k30 w A0_2 l0_2.length l0_2) (hc0_2 : l0_2.length ≤ c0_2) (h : impl_LeastDistance.f k a0_0 a0_1 l0_2 = some (r1, r2)) :
  Calls Try.prog 25 #[.agg #[.int .i8 a0_0, .int .i8 a0_1, .slice A0_2 l0_2.length c0_2]] w fun e w' => e = .returned (.tuple #[.int .i64 r1, .int .i64 r2]) ∧ Below w.heap.size w w' := by
 have hu35 := Try.underlying35
 have hu37 := Try.underlying37
 have HR0_2 := Aside0.mk hr0_2
 have HC0_2 := Aside0.mk hc0_2
 clear hr0_2 hc0_2
 have HB := Aside0.mk (Below.refl w.heap.size w)
 have H : ((impl_ValidFixed.f k a0_0 a0_1 l0_2).bind fun t457 => (if t457 = true then ((impl_Fixed_cases.f k a0_0 a0_1 l0_2).bind fun t458 => (impl_LeastDistance.l0 k t458 4 t458 (t458.length : Int) 0 a0_0 a0_1 l0_2)) else (some (0, 1)))) = some (r1, r2) := h
 clear h
 replace H := Option.bind_eq_some_iff.mp H
 obtain ⟨t457, A20, H⟩ := H
 replace H : (if t457 = true then ((impl_Fixed_cases.f k a0_0 a0_1 l0_2).bind fun t458 => (impl_LeastDistance.l0 k t458 4 t458 (t458.length : Int) 0 a0_0 a0_1 l0_2)) else (some (0, 1))) = some (r1, r2) := H
 have A2 := Aside0.mk A20
 clear A20
 by_cases c3 : t457 = true
 ·subst c3
  have H1 : ((impl_Fixed_cases.f k a0_0 a0_1 l0_2).bind fun t458 => (impl_LeastDistance.l0 k t458 4 t458 (t458.length : Int) 0 a0_0 a0_1 l0_2)) = some (r1, r2) := by rw [if_pos rfl] at H; exact H
  clear H
  have H := H1
  clear H1
  replace H := Option.bind_eq_some_iff.mp H
  obtain ⟨t458, A40, H⟩ := H
  replace H : (impl_LeastDistance.l0 k t458 4 t458 (t458.length : Int) 0 a0_0 a0_1 l0_2) = some (r1, r2) := H
  have A4 := Aside0.mk A40
  clear A40
  have H' := Aside0.mk H
  clear H
  go_enter Try.func25, Try.ntmps25
  go_wp2_with (first | ((with_reducible refine gate_dst (N := 1) rfl ?_); refine box_event ?hg (N := 1) ?hd (cs := #[.int .i8 a0_0, .int .i8 a0_1, .slice A0_2 l0_2.length c0_2]) (t := 35) ?hr ?_; (case hd => rfl); (case hg => rfl); (case hr => first | (go_simp; done) | (go_simp; rfl)); intro gb456 hg w5 hbox hb; have n0_ := Aside0.mk (below_step (bl_ HB) hb); have n1_ := Aside0.mk (hbox); have n2_ := Aside0.mk ((by rw [hg]; exact (below_size (bl_ HB)) : w.heap.size ≤ gb456)); have n3_ := Aside0.mk ((by rw [hg]; exact (below_size (bl_ HB)) : w.heap.size ≤ gb456)); clear HB; have HB := n0_; have BK456 := n1_; have GW456 := n2_; have GE456 := n3_; clear n0_ n1_ n2_ n3_; clear hb hbox hg; have hcz6_0 : w5.cell? ⟨gb456, 0, none⟩ = some (.int .i8 a0_0) := (blk_cell BK456.out 0).trans rfl; have hcz6_1 : w5.cell? ⟨gb456, 1, none⟩ = some (.int .i8 a0_1) := (blk_cell BK456.out 1).trans rfl; have hcz6_2 : w5.cell? ⟨gb456, 2, none⟩ = some (.slice A0_2 l0_2.length c0_2) := (blk_cell BK456.out 2).trans rfl; have hfz6_0 := blk_frozen BK456.out 0; have hfz6_1 := blk_frozen BK456.out 1; have hfz6_2 := blk_frozen BK456.out 2) | ((with_reducible refine gate_callee (f := 33) rfl ?_); refine goesL_ (some 11) rfl rfl Try.func33 (by kernel_rfl) rfl #[.agg #[.int .i8 a0_0, .int .i8 a0_1, .slice A0_2 l0_2.length c0_2]] rfl (by (try simp only [List.map_toArray, List.map_cons, List.map_nil]); first | done | rfl | (simp only [List.length_drop, List.length_take]; rfl)) ?_; (with_reducible refine (impl_ValidFixed.calls k a0_0 a0_1 _ _ l0_2 true _ ?side1 ?side2 A2.out).mono ?_); (case side1 => repeat (first | exact (Kd.C_below HR0_2.out HB.out) | (with_reducible refine Kd.C_alloc ?_ _) | (with_reducible refine Kd.C_drewN ?_ _) | (with_reducible refine Kd.C_drew ?_))); (case side2 => exact HC0_2.out); rintro e w7 ⟨rfl, hb⟩; refine ⟨_, rfl, ?_⟩; have n0_ := Aside0.mk (blk_below (g := gb456) (o := .cells #[.int .i8 a0_0, .int .i8 a0_1, .slice A0_2 l0_2.length c0_2] 35 (0, 0)) (pl_ BK456) hb); have n1_ := Aside0.mk (below_step (by repeat (first | (with_reducible first | exact HB.out | apply below_alloc | apply pw_below_drewN | apply below_drew1 | refine below_set ?_ GE456.out) | exact HB.out)) hb); clear BK456; clear HB; have BK456 := n0_; have HB := n1_; clear n0_ n1_; (try clear hb); (try clear hb2); (try clear hk); (try clear hi); have hcz8_0 : w7.cell? ⟨gb456, 0, none⟩ = some (.int .i8 a0_0) := (blk_cell BK456.out 0).trans rfl; have hcz8_1 : w7.cell? ⟨gb456, 1, none⟩ = some (.int .i8 a0_1) := (blk_cell BK456.out 1).trans rfl; have hcz8_2 : w7.cell? ⟨gb456, 2, none⟩ = some (.slice A0_2 l0_2.length c0_2) := (blk_cell BK456.out 2).trans rfl; have hfz8_0 := blk_frozen BK456.out 0; have hfz8_1 := blk_frozen BK456.out 1; have hfz8_2 := blk_frozen BK456.out 2) | ((with_reducible refine gate_callee (f := 35) rfl ?_); refine goesL_ (some 14) rfl rfl Try.func35 (by kernel_rfl) rfl #[.agg #[.int .i8 a0_0, .int .i8 a0_1, .slice A0_2 l0_2.length c0_2]] rfl (by (try simp only [List.map_toArray, List.map_cons, List.map_nil]); first | done | rfl | (simp only [List.length_drop, List.length_take]; rfl)) ?_; (with_reducible refine (impl_Fixed_cases.calls k a0_0 a0_1 _ _ l0_2 t458 _ ?side1 ?side2 A4.out).mono ?_); (case side1 => repeat (first | exact (Kd.C_below HR0_2.out HB.out) | (with_reducible refine Kd.C_alloc ?_ _) | (with_reducible refine Kd.C_drewN ?_ _) | (with_reducible refine Kd.C_drew ?_))); (case side2 => exact HC0_2.out); rintro e w9 ⟨v459, rfl, ho0, hb⟩; refine ⟨_, rfl, ?_⟩; have n0_ := Aside0.mk (Kd.R_lower ho0 (below_size (by repeat (first | (with_reducible first | exact HB.out | apply below_alloc | apply pw_below_drewN | apply below_drew1 | refine below_set ?_ GE456.out) | exact HB.out)))); have n1_ := Aside0.mk (blk_below (g := gb456) (o := .cells #[.int .i8 a0_0, .int .i8 a0_1, .slice A0_2 l0_2.length c0_2] 35 (0, 0)) (pl_ BK456) hb); have n2_ := Aside0.mk (below_step (by repeat (first | (with_reducible first | exact HB.out | apply below_alloc | apply pw_below_drewN | apply below_drew1 | refine below_set ?_ GE456.out) | exact HB.out)) hb); clear BK456; clear HB; have HO460 := n0_; have BK456 := n1_; have HB := n2_; clear n0_ n1_ n2_; (try clear hb); (try clear hb2); (try clear hk); (try clear hi); (try clear ho0); obtain ⟨Ao10, co10, eo10⟩ := Kd.R_slice HO460.out; subst eo10))
  go_loopg [5, 17] k (fun kq v5 v17 w' => ∃ (x5_1 : Int) (x17_1 : Int), v5 = .int .i64 x5_1 ∧ v17 = .int .i64 x17_1 ∧ Aside0 (impl_LeastDistance.l0 kq t458 x5_1 t458 (t458.length : Int) x17_1 a0_0 a0_1 l0_2 = some (r1, r2)) ∧ Aside0 (kq ≤ k) ∧ Aside0 (Kd.R k37 37 w' w.heap.size (fun _ => True) (.slice Ao10 t458.length co10) t458) ∧ Aside0 (Kd.R k37 37 w' w.heap.size (fun _ => True) (.slice Ao10 t458.length co10) t458) ∧ Aside0 (w'.heap[gb456]? = some (.cells #[.int .i8 a0_0, .int .i8 a0_1, (.slice A0_2 l0_2.length c0_2)] 35 (0, 0))) ∧ Aside0 (Below w.heap.size w w'))
  case atStart => exact ⟨(4), (0), (by first | rfl | (simp; done) | (simp [*]; done)), (by first | rfl | (simp; done) | (simp [*]; done)), H', ⟨Nat.le_refl _⟩, ⟨pr_ HO460⟩, ⟨pr_ HO460⟩, ⟨pl_ BK456⟩, ⟨by repeat (first | (with_reducible first | exact HB.out | apply below_alloc | apply pw_below_drewN | apply below_drew1 | refine below_set ?_ GE456.out) | exact HB.out)⟩⟩
  case round =>
   clear H'
   try clear c2
   try clear p2
   try clear c3
   try clear hcz6_0
   try clear hcz6_1
   try clear hcz6_2
   try clear hcz8_0
   try clear hcz8_1
   try clear hcz8_2
   try clear hfz6_0
   try clear hfz6_1
   try clear hfz6_2
   try clear hfz8_0
   try clear hfz8_1
   try clear hfz8_2
   obtain ⟨x5_1, x17_1, rfl, rfl, HA, HK1, HO_4, HO_15, BK456, HB⟩ := hrel
   cases gk with
   | zero => exact absurd HA.out (by simp [impl_LeastDistance.l0])
   | succ k1 =>
    have H := HA.out
    clear HA
    simp only [impl_LeastDistance.l0] at H
    by_cases c11 : x17_1 < (t458.length : Int)
    ·rw [if_pos c11] at H
     have c11b0 : decide (x17_1 < (t458.length : Int)) = true := decide_eq_true c11
     clear c11
     by_cases c12 : 0 ≤ x17_1
     ·rw [if_pos c12] at H
      have c12b0 : decide (0 ≤ x17_1) = true := decide_eq_true c12
      clear c12
      by_cases c13 : x17_1 < (t458.length : Int)
      ·rw [if_pos c13] at H
       have c13b0 : decide (x17_1 < (t458.length : Int)) = true := decide_eq_true c13
       clear c13
       have c14b0 := eq_true (asm_ : 0 ≤ x17_1)
       by_cases c15 : x17_1 ≤ (t458.length : Int)
       ·rw [if_pos c15] at H
        have c15b0 := eq_true c15
        have c15b1 : decide (x17_1 ≤ (t458.length : Int)) = true := decide_eq_true c15
        clear c15
        obtain ⟨y463, hy463⟩ : ∃ y_ : List (S37), y_ = (t458.take (x17_1 : Int).toNat) := ⟨_, rfl⟩
        replace H : (impl_LeastDistance.l1 k1 t458 x5_1 t458 (t458.length : Int) x17_1 y463 (y463.length : Int) 0 a0_0 a0_1 l0_2 ((rd_T37 t458 x17_1).f0) ((rd_T37 t458 x17_1).f1)) = some (r1, r2) := by first | (rw [hy463]; with_reducible exact H) | (have H2_ := (Option.bind_some _ _).symm.trans H; rw [hy463]; with_reducible exact H2_) | (have H2_ := (Option.bind_some _ _).symm.trans H; with_reducible exact H2_) | with_reducible exact H | (rw [hy463]; exact H) | exact H
        have Ny463 := Aside0.mk hy463
        clear hy463
        have H' := Aside0.mk H
        clear H
        have p461 : 0 ≤ (x17_1 : Int) := asm_
        have q461 : x17_1 < (t458.length : Int) := asm_
        obtain ⟨ad461, e461, hx461_0, hx461_1⟩ := at_T37 (Kd.R_reads' HO_15.out).2.2 x17_1 p461 q461
        cases e461
        replace p461 := eq_true p461
        replace q461 := eq_true q461
        go_wp2_with (first | ((with_reducible refine gate_dst (N := 7) rfl ?_); refine box_event ?hg (N := 7) ?hd (cs := #[.int .i8 0, .bool false]) (t := 37) ?hr ?_; (case hd => rfl); (case hg => rfl); (case hr => first | (go_simp; done) | (go_simp; rfl)); intro gb462 hg w16 hbox hb; have n0_ := Aside0.mk (Kd.R_below (Kd.R_elderB (pr_ HO_4) gb462 (Nat.le_of_eq hg.symm)) hb); have n1_ := Aside0.mk (Kd.R_below (Kd.R_elderB (pr_ HO_15) gb462 (Nat.le_of_eq hg.symm)) hb); have n2_ := Aside0.mk (blk_below (g := gb456) (o := .cells #[.int .i8 a0_0, .int .i8 a0_1, .slice A0_2 l0_2.length c0_2] 35 (0, 0)) (pl_ BK456) hb); have n3_ := Aside0.mk (below_step (by repeat (first | (with_reducible first | exact HB.out | apply below_alloc | apply pw_below_drewN | apply below_drew1 | refine below_set ?_ GE456.out) | exact HB.out)) hb); have n4_ := Aside0.mk (hbox); have n5_ := Aside0.mk ((by rw [hg]; exact (below_size (by repeat (first | (with_reducible first | exact HB.out | apply below_alloc | apply pw_below_drewN | apply below_drew1 | refine below_set ?_ GE456.out) | exact HB.out))) : w.heap.size ≤ gb462)); have n6_ := Aside0.mk ((by rw [hg]; exact (below_size (by repeat (first | (with_reducible first | exact HB.out | apply below_alloc | apply pw_below_drewN | apply below_drew1 | refine below_set ?_ GE456.out) | exact HB.out))) : w.heap.size ≤ gb462)); have n7_ := Aside0.mk ((by rw [hg]; exact Nat.ne_of_lt (blk_lt (g := gb456) (o := .cells #[.int .i8 a0_0, .int .i8 a0_1, .slice A0_2 l0_2.length c0_2] 35 (0, 0)) (pl_ BK456)) : gb456 ≠ gb462)); have n8_ := Aside0.mk ((by rw [hg]; exact Nat.ne_of_gt (blk_lt (g := gb456) (o := .cells #[.int .i8 a0_0, .int .i8 a0_1, .slice A0_2 l0_2.length c0_2] 35 (0, 0)) (pl_ BK456)) : gb462 ≠ gb456)); clear HO_4; clear HO_15; clear BK456; clear HB; have HO_4 := n0_; have HO_15 := n1_; have BK456 := n2_; have HB := n3_; have BK462 := n4_; have GW462 := n5_; have GE462 := n6_; have NB456_462 := n7_; have NB462_456 := n8_; clear n0_ n1_ n2_ n3_ n4_ n5_ n6_ n7_ n8_; clear hb hbox hg; have hnb17 := NB462_456.out; have hnc17 := NB456_462.out; have hcz18_0 : w16.cell? ⟨gb462, 0, none⟩ = some (.int .i8 0) := (blk_cell BK462.out 0).trans rfl; have hcz18_1 : w16.cell? ⟨gb462, 1, none⟩ = some (.bool false) := (blk_cell BK462.out 1).trans rfl; have hfz18_0 := blk_frozen BK462.out 0; have hfz18_1 := blk_frozen BK462.out 1) | ((with_reducible refine gate_store (t := 37) (p := 7) rfl ?_); refine store_event (t := 37) (p := 7) (v := ?vo_w19) (w1 := ((w16.setCell ⟨gb462, 0, none⟩ (.int .i8 ((rd_T37 t458 x17_1).f0))).setCell ⟨gb462, 1, none⟩ (.bool ((rd_T37 t458 x17_1).f1)))) ?hg ?ho ?hn ?hr ?_; (case ho => rfl); (case hg => rfl); (case hn => rfl); (case hr => first | (go_simp; done) | (go_simp; rfl)); intro w19 hw; have n0_ : Aside0 (Kd.R k37 37 w19 w.heap.size (fun k_ => k_ ≠ gb462) (.slice (some ad461) t458.length co10) t458) := ⟨(by rw [hw]; exact (by (with_reducible repeat (first | apply Kd.R_alloc | apply Kd.R_drewN | apply Kd.R_drew)); exact Kd.R_mono (Kd.R_far (p := ⟨gb462, 1, none⟩) (Kd.R_far (p := ⟨gb462, 0, none⟩) (Kd.R_mono HO_4.out (fun k_ hk => (⟨hk, hk.2⟩ : _ ∧ k_ ≠ gb462))) (fun _ hk => hk.2) (.int .i8 ((rd_T37 t458 x17_1).f0))) (fun _ hk => hk.2) (.bool ((rd_T37 t458 x17_1).f1))) (fun _ hk => hk.1.2)))⟩; have n1_ : Aside0 (Kd.R k37 37 w19 w.heap.size (fun k_ => k_ ≠ gb462) (.slice (some ad461) t458.length co10) t458) := ⟨(by rw [hw]; exact (by (with_reducible repeat (first | apply Kd.R_alloc | apply Kd.R_drewN | apply Kd.R_drew)); exact Kd.R_mono (Kd.R_far (p := ⟨gb462, 1, none⟩) (Kd.R_far (p := ⟨gb462, 0, none⟩) (Kd.R_mono HO_15.out (fun k_ hk => (⟨hk, hk.2⟩ : _ ∧ k_ ≠ gb462))) (fun _ hk => hk.2) (.int .i8 ((rd_T37 t458 x17_1).f0))) (fun _ hk => hk.2) (.bool ((rd_T37 t458 x17_1).f1))) (fun _ hk => hk.1.2)))⟩; have n2_ : Aside0 (w19.heap[gb456]? = some (.cells #[.int .i8 a0_0, .int .i8 a0_1, .slice A0_2 l0_2.length c0_2] 35 (0, 0))) := ⟨(by rw [hw]; exact (by (with_reducible repeat (first | refine blk_drewN ?_ _ | refine blk_drew ?_ | refine blk_alloc ?_ _)); refine blk_far ?_ NB456_462.out _; (with_reducible repeat (first | refine blk_drewN ?_ _ | refine blk_drew ?_ | refine blk_alloc ?_ _)); refine blk_far ?_ NB456_462.out _; (with_reducible repeat (first | refine blk_drewN ?_ _ | refine blk_drew ?_ | refine blk_alloc ?_ _)); exact BK456.out))⟩; have n3_ : Aside0 (w19.heap[gb462]? = some (.cells #[.int .i8 ((rd_T37 t458 x17_1).f0), .bool ((rd_T37 t458 x17_1).f1)] 37 (0, 0))) := ⟨(by rw [hw]; exact (by (with_reducible repeat (first | refine blk_drewN ?_ _ | refine blk_drew ?_ | refine blk_alloc ?_ _)); refine blk_put (cs := #[.int .i8 ((rd_T37 t458 x17_1).f0), .bool false]) ?_ 1 _ rfl; (with_reducible repeat (first | refine blk_drewN ?_ _ | refine blk_drew ?_ | refine blk_alloc ?_ _)); refine blk_put (cs := #[.int .i8 0, .bool false]) ?_ 0 _ rfl; (with_reducible repeat (first | refine blk_drewN ?_ _ | refine blk_drew ?_ | refine blk_alloc ?_ _)); exact BK462.out))⟩; have n4_ : Aside0 (Below w.heap.size w w19) := ⟨(by rw [hw]; exact (by repeat (first | (with_reducible first | exact HB.out | apply below_alloc | apply pw_below_drewN | apply below_drew1 | refine below_set ?_ GE456.out | refine below_set ?_ GE462.out) | exact HB.out)))⟩; clear hw; clear HO_4; clear HO_15; clear BK456; clear BK462; clear HB; have HO_4 := n0_; have HO_15 := n1_; have BK456 := n2_; have BK462 := n3_; have HB := n4_; clear n0_ n1_ n2_ n3_ n4_; have q20 : (x17_1 : Int) ≤ ((t458.length : Int) : Int) := asm_; obtain ⟨i020, hi020, _, hsz20, _⟩ := info_parts info37; have hroom20 : t458.length ≤ co10 := (Kd.R_reads' HO_4.out).2.1; have hC20 : Kd.C k37 _ (some ad461) t458.length t458 := (Kd.R_reads' HO_4.out).2.2; have hcut20 := cut_to (P := Try.prog) 64 37 .i64 Try.underlying64 hi020 (some ad461) t458.length co10 x17_1 (asm_) q20 hroom20; have hr20 := Kd.C_take (m := (x17_1 : Int).toNat) hC20 (by omega); have hy20 : y463.length = (x17_1 : Int).toNat := (by rw [Ny463.out, List.length_take]; omega); rw [← Ny463.out] at hr20; rw [← hy20] at hcut20; have HR466 := Aside0.mk hr20; have HC466 := Aside0.mk (show y463.length ≤ co10 from by omega); clear hr20 hC20 hroom20 hi020 hsz20; have KY20 := Aside0.mk hy20; clear hy20; have KL20 := Aside0.mk (show (x17_1 : Int).toNat ≤ t458.length from by omega); replace q20 := eq_true q20))
        go_loopg [5, 26] k1 (fun kq v5 v26 w' => ∃ (x5_2 : Int) (x26_2 : Int), v5 = .int .i64 x5_2 ∧ v26 = .int .i64 x26_2 ∧ Aside0 (impl_LeastDistance.l1 kq t458 x5_2 t458 (t458.length : Int) x17_1 y463 (y463.length : Int) x26_2 a0_0 a0_1 l0_2 ((rd_T37 t458 x17_1).f0) ((rd_T37 t458 x17_1).f1) = some (r1, r2)) ∧ Aside0 (kq ≤ k1) ∧ Aside0 (Kd.R k37 37 w' w.heap.size (fun k_ => k_ ≠ gb462) (.slice (some ad461) t458.length co10) t458) ∧ Aside0 (Kd.R k37 37 w' w.heap.size (fun k_ => k_ ≠ gb462) (.slice (some ad461) t458.length co10) t458) ∧ Aside0 (w'.heap[gb456]? = some (.cells #[.int .i8 a0_0, .int .i8 a0_1, (.slice A0_2 l0_2.length c0_2)] 35 (0, 0))) ∧ Aside0 (w'.heap[gb462]? = some (.cells #[.int .i8 ((rd_T37 t458 x17_1).f0), .bool ((rd_T37 t458 x17_1).f1)] 37 (0, 0))) ∧ Aside0 (Kd.C k37 w' (some ad461) y463.length y463) ∧ Aside0 (Below w.heap.size w w'))
        case atStart => exact ⟨(x5_1), (0), (by first | rfl | (simp; done) | (simp [*]; done)), (by first | rfl | (simp; done) | (simp [*]; done)), H', ⟨Nat.le_refl _⟩, ⟨pr_ HO_4⟩, ⟨pr_ HO_15⟩, ⟨pl_ BK456⟩, ⟨pl_ BK462⟩, ⟨by repeat (first | (with_reducible exact HR466.out) | (with_reducible refine Kd.C_alloc ?_ _) | (with_reducible refine Kd.C_drewN ?_ _) | (with_reducible refine Kd.C_drew ?_) | exact HR466.out)⟩, ⟨by repeat (first | (with_reducible first | exact HB.out | apply below_alloc | apply pw_below_drewN | apply below_drew1 | refine below_set ?_ GE456.out | refine below_set ?_ GE462.out) | exact HB.out)⟩⟩
        case round =>
         clear H'
         try clear c1
         try clear c2
         try clear p2
         try clear q2
         try clear c3
         try clear p4
         try clear q4
         try clear hx4
         try clear c11
         try clear c11b0
         try clear c12
         try clear c12b0
         try clear c13
         try clear c13b0
         try clear c14
         try clear c14b0
         try clear c15
         try clear c15b0
         try clear c15b1
         try clear c17
         try clear q20
         try clear hcz18_0
         try clear hcz18_1
         try clear hcz6_0
         try clear hcz6_1
         try clear hcz6_2
         try clear hcz8_0
         try clear hcz8_1
         try clear hcz8_2
         try clear hfz18_0
         try clear hfz18_1
         try clear hfz6_0
         try clear hfz6_1
         try clear hfz6_2
         try clear hfz8_0
         try clear hfz8_1
         try clear hfz8_2
         try clear hx461_0
         try clear hx461_1
         try clear p2
         try clear p461
         try clear q20
         try clear q461
         obtain ⟨x5_2, x26_2, rfl, rfl, HA, HK2, HO_4, HO_15, BK456, BK462, HR466, HB⟩ := hrel
         cases gk with
         | zero => exact absurd HA.out (by simp [impl_LeastDistance.l1])
         | succ k2 =>
          have H := HA.out
          clear HA
          simp only [impl_LeastDistance.l1] at H
          by_cases c21 : x26_2 < (y463.length : Int)
          ·rw [if_pos c21] at H
           have c21b0 : decide (x26_2 < (y463.length : Int)) = true := decide_eq_true c21
           clear c21
           by_cases c22 : 0 ≤ x26_2
           ·rw [if_pos c22] at H
            have c22b0 : decide (0 ≤ x26_2) = true := decide_eq_true c22
            clear c22
            by_cases c23 : x26_2 < (y463.length : Int)
            ·rw [if_pos c23] at H
             have c23b0 : decide (x26_2 < (y463.length : Int)) = true := decide_eq_true c23
             clear c23
             replace H := Option.bind_eq_some_iff.mp H
             obtain ⟨⟨t469, t470, t471, t472⟩, A240, H⟩ := H
             replace H : ((impl_Fixed_seen.f k2 a0_0 a0_1 l0_2 ((rd_T37 t458 x17_1).f0) ((rd_T37 t458 x17_1).f1)).bind fun bt473 => ((impl_distance.f k2 t469 t470 t471 t472 bt473.1 bt473.2.1 bt473.2.2.1 bt473.2.2.2).bind fun t477 => (impl_LeastDistance.l1 k2 t458 (mn x5_2 t477) t458 (t458.length : Int) x17_1 y463 (y463.length : Int) (wrap64 (x26_2 + 1)) a0_0 a0_1 l0_2 ((rd_T37 t458 x17_1).f0) ((rd_T37 t458 x17_1).f1)))) = some (r1, r2) := H
             have A24 := Aside0.mk A240
             clear A240
             replace H := Option.bind_eq_some_iff.mp H
             obtain ⟨⟨t473, t474, t475, t476⟩, A250, H⟩ := H
             replace H : ((impl_distance.f k2 t469 t470 t471 t472 t473 t474 t475 t476).bind fun t477 => (impl_LeastDistance.l1 k2 t458 (mn x5_2 t477) t458 (t458.length : Int) x17_1 y463 (y463.length : Int) (wrap64 (x26_2 + 1)) a0_0 a0_1 l0_2 ((rd_T37 t458 x17_1).f0) ((rd_T37 t458 x17_1).f1))) = some (r1, r2) := H
             have A25 := Aside0.mk A250
             clear A250
             replace H := Option.bind_eq_some_iff.mp H
             obtain ⟨t477, A260, H⟩ := H
             replace H : (impl_LeastDistance.l1 k2 t458 (mn x5_2 t477) t458 (t458.length : Int) x17_1 y463 (y463.length : Int) (wrap64 (x26_2 + 1)) a0_0 a0_1 l0_2 ((rd_T37 t458 x17_1).f0) ((rd_T37 t458 x17_1).f1)) = some (r1, r2) := H
             have A26 := Aside0.mk A260
             clear A260
             obtain ⟨ji27, hji27⟩ : ∃ j_ : Int, (mn x5_2 t477) = j_ := ⟨_, rfl⟩
             replace H : (impl_LeastDistance.l1 k2 t458 ji27 t458 (t458.length : Int) x17_1 y463 (y463.length : Int) (wrap64 (x26_2 + 1)) a0_0 a0_1 l0_2 ((rd_T37 t458 x17_1).f0) ((rd_T37 t458 x17_1).f1)) = some (r1, r2) := by first | (rw [hji27] at H; exact H) | (simp only [hji27] at H ⊢; exact H)
             (try rw [hji27] at A24)
             (try rw [hji27] at A25)
             (try rw [hji27] at A26)
             have hji27_ : (if t477 < x5_2 then t477 else x5_2) = ji27 := hji27
             have H' := Aside0.mk H
             clear H
             have p467 : 0 ≤ (x26_2 : Int) := asm_
             have q467 : x26_2 < (y463.length : Int) := asm_
             obtain ⟨ad467, e467, hx467_0, hx467_1⟩ := at_T37 HR466.out x26_2 p467 q467
             obtain rfl : ad461 = ad467 := (by injection e467)
             (try replace hx467_0 := (HB.out.cell (World.block_lt_of_cell? w _ hx467_0)).trans hx467_0)
             (try replace hx467_1 := (HB.out.cell (World.block_lt_of_cell? w _ hx467_1)).trans hx467_1)
             replace p467 := eq_true p467
             replace q467 := eq_true q467
             try go_wp2_with (first | ((with_reducible refine gate_dst (N := 9) rfl ?_); refine box_event ?hg (N := 9) ?hd (cs := #[.int .i8 0, .bool false]) (t := 37) ?hr ?_; (case hd => rfl); (case hg => rfl); (case hr => first | (go_simp; done) | (go_simp; rfl)); intro gb468 hg w28 hbox hb; have n0_ := Aside0.mk (Kd.R_below (Kd.R_elderB (pr_ HO_4) gb468 (Nat.le_of_eq hg.symm)) hb); have n1_ := Aside0.mk (Kd.R_below (Kd.R_elderB (pr_ HO_15) gb468 (Nat.le_of_eq hg.symm)) hb); have n2_ := Aside0.mk (blk_below (g := gb456) (o := .cells #[.int .i8 a0_0, .int .i8 a0_1, .slice A0_2 l0_2.length c0_2] 35 (0, 0)) (pl_ BK456) hb); have n3_ := Aside0.mk (blk_below (g := gb462) (o := .cells #[.int .i8 ((rd_T37 t458 x17_1).f0), .bool ((rd_T37 t458 x17_1).f1)] 37 (0, 0)) (pl_ BK462) hb); have n4_ := Aside0.mk (Kd.C_below (by repeat (first | (with_reducible exact HR466.out) | (with_reducible refine Kd.C_alloc ?_ _) | (with_reducible refine Kd.C_drewN ?_ _) | (with_reducible refine Kd.C_drew ?_) | exact HR466.out)) hb); have n5_ := Aside0.mk (below_step (by repeat (first | (with_reducible first | exact HB.out | apply below_alloc | apply pw_below_drewN | apply below_drew1 | refine below_set ?_ GE456.out | refine below_set ?_ GE462.out) | exact HB.out)) hb); have n6_ := Aside0.mk (hbox); have n7_ := Aside0.mk ((by rw [hg]; exact (below_size (by repeat (first | (with_reducible first | exact HB.out | apply below_alloc | apply pw_below_drewN | apply below_drew1 | refine below_set ?_ GE456.out | refine below_set ?_ GE462.out) | exact HB.out))) : w.heap.size ≤ gb468)); have n8_ := Aside0.mk ((by rw [hg]; exact (below_size (by repeat (first | (with_reducible first | exact HB.out | apply below_alloc | apply pw_below_drewN | apply below_drew1 | refine below_set ?_ GE456.out | refine below_set ?_ GE462.out) | exact HB.out))) : w.heap.size ≤ gb468)); have n9_ := Aside0.mk ((by rw [hg]; exact Nat.ne_of_lt (blk_lt (g := gb456) (o := .cells #[.int .i8 a0_0, .int .i8 a0_1, .slice A0_2 l0_2.length c0_2] 35 (0, 0)) (pl_ BK456)) : gb456 ≠ gb468)); have n10_ := Aside0.mk ((by rw [hg]; exact Nat.ne_of_gt (blk_lt (g := gb456) (o := .cells #[.int .i8 a0_0, .int .i8 a0_1, .slice A0_2 l0_2.length c0_2] 35 (0, 0)) (pl_ BK456)) : gb468 ≠ gb456)); have n11_ := Aside0.mk ((by rw [hg]; exact Nat.ne_of_lt (blk_lt (g := gb462) (o := .cells #[.int .i8 ((rd_T37 t458 x17_1).f0), .bool ((rd_T37 t458 x17_1).f1)] 37 (0, 0)) (pl_ BK462)) : gb462 ≠ gb468)); have n12_ := Aside0.mk ((by rw [hg]; exact Nat.ne_of_gt (blk_lt (g := gb462) (o := .cells #[.int .i8 ((rd_T37 t458 x17_1).f0), .bool ((rd_T37 t458 x17_1).f1)] 37 (0, 0)) (pl_ BK462)) : gb468 ≠ gb462)); clear HO_4; clear HO_15; clear BK456; clear BK462; clear HR466; clear HB; have HO_4 := n0_; have HO_15 := n1_; have BK456 := n2_; have BK462 := n3_; have HR466 := n4_; have HB := n5_; have BK468 := n6_; have GW468 := n7_; have GE468 := n8_; have NB456_468 := n9_; have NB468_456 := n10_; have NB462_468 := n11_; have NB468_462 := n12_; clear n0_ n1_ n2_ n3_ n4_ n5_ n6_ n7_ n8_ n9_ n10_ n11_ n12_; clear hb hbox hg; have hnb29 := NB468_456.out; have hnc29 := NB456_468.out; have hnb30 := NB468_462.out; have hnc30 := NB462_468.out; have hcz31_0 : w28.cell? ⟨gb468, 0, none⟩ = some (.int .i8 0) := (blk_cell BK468.out 0).trans rfl; have hcz31_1 : w28.cell? ⟨gb468, 1, none⟩ = some (.bool false) := (blk_cell BK468.out 1).trans rfl; have hfz31_0 := blk_frozen BK468.out 0; have hfz31_1 := blk_frozen BK468.out 1))
             have n0_ : Aside0 (Kd.C k37 ((w28.setCell ⟨gb468, 0, none⟩ (.int .i8 ((rd_T37 y463 x26_2).f0))).setCell ⟨gb468, 1, none⟩ (.bool ((rd_T37 y463 x26_2).f1))) (some ad461) y463.length y463) := ⟨by have h_ := Kd.C_take (m := (x17_1 : Int).toNat) ((Kd.R_reads' ((show Kd.R k37 37 ((w28.setCell ⟨gb468, 0, none⟩ (.int .i8 ((rd_T37 y463 x26_2).f0))).setCell ⟨gb468, 1, none⟩ (.bool ((rd_T37 y463 x26_2).f1))) w.heap.size (fun k_ => k_ ≠ gb462 ∧ k_ ≠ gb468) (.slice (some ad461) t458.length co10) t458 from by (with_reducible repeat (first | apply Kd.R_alloc | apply Kd.R_drewN | apply Kd.R_drew)); exact Kd.R_mono (Kd.R_far (p := ⟨gb468, 1, none⟩) (Kd.R_far (p := ⟨gb468, 0, none⟩) (Kd.R_mono HO_4.out (fun k_ hk => (⟨hk, hk.2⟩ : _ ∧ k_ ≠ gb468))) (fun _ hk => hk.2) (.int .i8 ((rd_T37 y463 x26_2).f0))) (fun _ hk => hk.2) (.bool ((rd_T37 y463 x26_2).f1))) (fun _ hk => ⟨hk.1.1, hk.1.2⟩)))).2.2) KL20.out; rw [← Ny463.out] at h_; exact h_⟩
             have n1_ : Aside0 (Kd.R k37 37 ((w28.setCell ⟨gb468, 0, none⟩ (.int .i8 ((rd_T37 y463 x26_2).f0))).setCell ⟨gb468, 1, none⟩ (.bool ((rd_T37 y463 x26_2).f1))) w.heap.size (fun k_ => k_ ≠ gb462 ∧ k_ ≠ gb468) (.slice (some ad461) t458.length co10) t458) := ⟨by (with_reducible repeat (first | apply Kd.R_alloc | apply Kd.R_drewN | apply Kd.R_drew)); exact Kd.R_mono (Kd.R_far (p := ⟨gb468, 1, none⟩) (Kd.R_far (p := ⟨gb468, 0, none⟩) (Kd.R_mono HO_4.out (fun k_ hk => (⟨hk, hk.2⟩ : _ ∧ k_ ≠ gb468))) (fun _ hk => hk.2) (.int .i8 ((rd_T37 y463 x26_2).f0))) (fun _ hk => hk.2) (.bool ((rd_T37 y463 x26_2).f1))) (fun _ hk => ⟨hk.1.1, hk.1.2⟩)⟩
             have n2_ : Aside0 (Kd.R k37 37 ((w28.setCell ⟨gb468, 0, none⟩ (.int .i8 ((rd_T37 y463 x26_2).f0))).setCell ⟨gb468, 1, none⟩ (.bool ((rd_T37 y463 x26_2).f1))) w.heap.size (fun k_ => k_ ≠ gb462 ∧ k_ ≠ gb468) (.slice (some ad461) t458.length co10) t458) := ⟨by (with_reducible repeat (first | apply Kd.R_alloc | apply Kd.R_drewN | apply Kd.R_drew)); exact Kd.R_mono (Kd.R_far (p := ⟨gb468, 1, none⟩) (Kd.R_far (p := ⟨gb468, 0, none⟩) (Kd.R_mono HO_15.out (fun k_ hk => (⟨hk, hk.2⟩ : _ ∧ k_ ≠ gb468))) (fun _ hk => hk.2) (.int .i8 ((rd_T37 y463 x26_2).f0))) (fun _ hk => hk.2) (.bool ((rd_T37 y463 x26_2).f1))) (fun _ hk => ⟨hk.1.1, hk.1.2⟩)⟩
             have n3_ : Aside0 (((w28.setCell ⟨gb468, 0, none⟩ (.int .i8 ((rd_T37 y463 x26_2).f0))).setCell ⟨gb468, 1, none⟩ (.bool ((rd_T37 y463 x26_2).f1))).heap[gb456]? = some (.cells #[.int .i8 a0_0, .int .i8 a0_1, .slice A0_2 l0_2.length c0_2] 35 (0, 0))) := ⟨by (with_reducible repeat (first | refine blk_drewN ?_ _ | refine blk_drew ?_ | refine blk_alloc ?_ _)); refine blk_far ?_ NB456_468.out _; (with_reducible repeat (first | refine blk_drewN ?_ _ | refine blk_drew ?_ | refine blk_alloc ?_ _)); refine blk_far ?_ NB456_468.out _; (with_reducible repeat (first | refine blk_drewN ?_ _ | refine blk_drew ?_ | refine blk_alloc ?_ _)); exact BK456.out⟩
             have n4_ : Aside0 (((w28.setCell ⟨gb468, 0, none⟩ (.int .i8 ((rd_T37 y463 x26_2).f0))).setCell ⟨gb468, 1, none⟩ (.bool ((rd_T37 y463 x26_2).f1))).heap[gb462]? = some (.cells #[.int .i8 ((rd_T37 t458 x17_1).f0), .bool ((rd_T37 t458 x17_1).f1)] 37 (0, 0))) := ⟨by (with_reducible repeat (first | refine blk_drewN ?_ _ | refine blk_drew ?_ | refine blk_alloc ?_ _)); refine blk_far ?_ NB462_468.out _; (with_reducible repeat (first | refine blk_drewN ?_ _ | refine blk_drew ?_ | refine blk_alloc ?_ _)); refine blk_far ?_ NB462_468.out _; (with_reducible repeat (first | refine blk_drewN ?_ _ | refine blk_drew ?_ | refine blk_alloc ?_ _)); exact BK462.out⟩
             have n5_ : Aside0 (((w28.setCell ⟨gb468, 0, none⟩ (.int .i8 ((rd_T37 y463 x26_2).f0))).setCell ⟨gb468, 1, none⟩ (.bool ((rd_T37 y463 x26_2).f1))).heap[gb468]? = some (.cells #[.int .i8 ((rd_T37 y463 x26_2).f0), .bool ((rd_T37 y463 x26_2).f1)] 37 (0, 0))) := ⟨by (with_reducible repeat (first | refine blk_drewN ?_ _ | refine blk_drew ?_ | refine blk_alloc ?_ _)); refine blk_put (cs := #[.int .i8 ((rd_T37 y463 x26_2).f0), .bool false]) ?_ 1 _ rfl; (with_reducible repeat (first | refine blk_drewN ?_ _ | refine blk_drew ?_ | refine blk_alloc ?_ _)); refine blk_put (cs := #[.int .i8 0, .bool false]) ?_ 0 _ rfl; (with_reducible repeat (first | refine blk_drewN ?_ _ | refine blk_drew ?_ | refine blk_alloc ?_ _)); exact BK468.out⟩
             have n6_ : Aside0 (Below w.heap.size w ((w28.setCell ⟨gb468, 0, none⟩ (.int .i8 ((rd_T37 y463 x26_2).f0))).setCell ⟨gb468, 1, none⟩ (.bool ((rd_T37 y463 x26_2).f1)))) := ⟨by repeat (first | (with_reducible first | exact HB.out | apply below_alloc | apply pw_below_drewN | apply below_drew1 | refine below_set ?_ GE456.out | refine below_set ?_ GE462.out | refine below_set ?_ GE468.out) | exact HB.out)⟩
             (try clear HR466)
             (try clear HO_4)
             (try clear HO_15)
             (try clear BK456)
             (try clear BK462)
             (try clear BK468)
             (try clear HB)
             generalize ((w28.setCell ⟨gb468, 0, none⟩ (.int .i8 ((rd_T37 y463 x26_2).f0))).setCell ⟨gb468, 1, none⟩ (.bool ((rd_T37 y463 x26_2).f1))) = w32 at n0_ n1_ n2_ n3_ n4_ n5_ n6_ ⊢
             have HR466 := n0_
             have HO_4 := n1_
             have HO_15 := n2_
             have BK456 := n3_
             have BK462 := n4_
             have BK468 := n5_
             have HB := n6_
             clear n0_ n1_ n2_ n3_ n4_ n5_ n6_
             have n0_ := Aside0.mk (Kd.R_drew HO_4.out)
             have n1_ := Aside0.mk (Kd.R_drew HO_15.out)
             have n2_ := Aside0.mk (blk_drew BK456.out)
             have n3_ := Aside0.mk (blk_drew BK462.out)
             have n4_ := Aside0.mk (blk_drew BK468.out)
             have n5_ := Aside0.mk (Kd.C_drew HR466.out)
             have n6_ := Aside0.mk (below_drew1 HB.out)
             clear HO_4
             clear HO_15
             clear BK456
             clear BK462
             clear BK468
             clear HR466
             clear HB
             have HO_4 := n0_
             have HO_15 := n1_
             have BK456 := n2_
             have BK462 := n3_
             have BK468 := n4_
             have HR466 := n5_
             have HB := n6_
             clear n0_ n1_ n2_ n3_ n4_ n5_ n6_
             refine start_ (n := 10) (S := fun w' => w'.cell? ⟨gb456, 0, none⟩ = some (.int .i8 a0_0) ∧ w'.cell? ⟨gb456, 1, none⟩ = some (.int .i8 a0_1) ∧ w'.cell? ⟨gb456, 2, none⟩ = some (.slice A0_2 l0_2.length c0_2) ∧ w'.cell? ⟨gb468, 0, none⟩ = some (.int .i8 ((rd_T37 y463 x26_2).f0)) ∧ w'.cell? ⟨gb468, 1, none⟩ = some (.bool ((rd_T37 y463 x26_2).f1)) ∧ w'.cell? ⟨gb462, 0, none⟩ = some (.int .i8 ((rd_T37 t458 x17_1).f0)) ∧ w'.cell? ⟨gb462, 1, none⟩ = some (.bool ((rd_T37 t458 x17_1).f1))) (ds := []) #[false, false, false, false, false, false, false, false, false, false] (by kernel_rfl) rfl rfl ⟨(blk_cell BK456.out 0).trans rfl, (blk_cell BK456.out 1).trans rfl, (blk_cell BK456.out 2).trans rfl, (blk_cell BK468.out 0).trans rfl, (blk_cell BK468.out 1).trans rfl, (blk_cell BK462.out 0).trans rfl, (blk_cell BK462.out 1).trans rfl⟩ (fun hHeld => ?_); refine with_tabW impl_LeastDistance.tab10 impl_LeastDistance.bits10 (fun HT_ HW_ => ?_)
             generalize w32.drew = w33 at HO_4 HO_15 BK456 BK462 BK468 HR466 HB hHeld ⊢
             refine pure_ (i := 0) (N := some 30) (v := ?_) (a' := ?_) #[true, false, false, false, false, false, false, false, false, false] rfl rfl (any_of HT_.out (by kernel_rfl)) (fun _ _ _ h => h) (Or.inl ⟨by rfl, ?_⟩) ?_ ?_
             rotate_left
             ·intro w'
              go_simp
              with_reducible rfl
             rotate_left
             ·simp only [Act.put, List.setIfInBounds_toArray, List.set_cons_zero, List.set_cons_succ, i64_w, i32_w]
              rfl
             refine take_ (i := 1) (N := some 31) (v := ?_) (a' := ?_) #[true, true, false, false, false, false, false, false, false, false] rfl rfl (take_ofW HT_.out HW_.out (by kernel_rfl)) (fun _ _ _ h => h) (Or.inl ⟨by rfl, ?_⟩) hHeld ?_ ?_
             rotate_left
             ·rintro w' ⟨s0, s1, s2, s3, s4, s5, s6⟩
              go_simp
              with_reducible rfl
             rotate_left
             ·simp only [Act.put, List.setIfInBounds_toArray, List.set_cons_zero, List.set_cons_succ, i64_w, i32_w]
              rfl
             refine take_ (i := 2) (N := some 32) (v := ?_) (a' := ?_) #[true, true, true, false, false, false, false, false, false, false] rfl rfl (take_ofW HT_.out HW_.out (by kernel_rfl)) (fun _ _ _ h => h) (Or.inl ⟨by rfl, ?_⟩) hHeld ?_ ?_
             rotate_left
             ·rintro w' ⟨s0, s1, s2, s3, s4, s5, s6⟩
              go_simp
              with_reducible rfl
             rotate_left
             ·simp only [Act.put, List.setIfInBounds_toArray, List.set_cons_zero, List.set_cons_succ, i64_w, i32_w]
              rfl
             refine take_ (i := 4) (N := some 34) (v := ?_) (a' := ?_) #[true, true, true, false, true, false, false, false, false, false] rfl rfl (take_ofW HT_.out HW_.out (by kernel_rfl)) (fun _ _ _ h => h) (Or.inl ⟨by rfl, ?_⟩) hHeld ?_ ?_
             rotate_left
             ·rintro w' ⟨s0, s1, s2, s3, s4, s5, s6⟩
              go_simp
              with_reducible rfl
             rotate_left
             ·simp only [Act.put, List.setIfInBounds_toArray, List.set_cons_zero, List.set_cons_succ, i64_w, i32_w]
              rfl
             refine take_ (i := 5) (N := some 35) (v := ?_) (a' := ?_) #[true, true, true, false, true, true, false, false, false, false] rfl rfl (take_ofW HT_.out HW_.out (by kernel_rfl)) (fun _ _ _ h => h) (Or.inl ⟨by rfl, ?_⟩) hHeld ?_ ?_
             rotate_left
             ·rintro w' ⟨s0, s1, s2, s3, s4, s5, s6⟩
              go_simp
              with_reducible rfl
             rotate_left
             ·simp only [Act.put, List.setIfInBounds_toArray, List.set_cons_zero, List.set_cons_succ, i64_w, i32_w]
              rfl
             refine one_ (i := 3) (N := some 33) #[true, true, true, true, true, true, false, false, false, false] rfl rfl (one_of HT_.out (by kernel_rfl)) (by decide) (fun K hK => ?_)
             refine goes_ Try.func36 (by kernel_rfl) rfl #[.agg #[.int .i8 a0_0, .int .i8 a0_1, .slice A0_2 l0_2.length c0_2], .agg #[.int .i8 ((rd_T37 y463 x26_2).f0), .bool ((rd_T37 y463 x26_2).f1)]] (by rfl) rfl rfl (by (try simp only [List.map_toArray, List.map_cons, List.map_nil]); first | done | rfl | (simp only [List.length_drop, List.length_take]; rfl)) ?_
             with_reducible refine (impl_Fixed_seen.calls k2 a0_0 a0_1 _ _ l0_2 ((rd_T37 y463 x26_2).f0) ((rd_T37 y463 x26_2).f1) t469 t470 t471 t472 _ ?side1 ?side2 A24.out).mono ?_
             (case side1 => repeat (first | exact (Kd.C_below HR0_2.out HB.out) | (with_reducible refine Kd.C_alloc ?_ _) | (with_reducible refine Kd.C_drewN ?_ _) | (with_reducible refine Kd.C_drew ?_)))
             (case side2 => exact HC0_2.out)
             rintro e w34 ⟨rfl, hb⟩
             refine ⟨_, rfl, ?_⟩
             have n0_ := Aside0.mk (Kd.R_below (pr_ HO_4) hb)
             have n1_ := Aside0.mk (Kd.R_below (pr_ HO_15) hb)
             have n2_ := Aside0.mk (blk_below (g := gb456) (o := .cells #[.int .i8 a0_0, .int .i8 a0_1, .slice A0_2 l0_2.length c0_2] 35 (0, 0)) (pl_ BK456) hb)
             have n3_ := Aside0.mk (blk_below (g := gb462) (o := .cells #[.int .i8 ((rd_T37 t458 x17_1).f0), .bool ((rd_T37 t458 x17_1).f1)] 37 (0, 0)) (pl_ BK462) hb)
             have n4_ := Aside0.mk (Kd.C_below (by repeat (first | (with_reducible exact HR466.out) | (with_reducible refine Kd.C_alloc ?_ _) | (with_reducible refine Kd.C_drewN ?_ _) | (with_reducible refine Kd.C_drew ?_) | exact HR466.out)) hb)
             have n5_ := Aside0.mk (blk_below (g := gb468) (o := .cells #[.int .i8 ((rd_T37 y463 x26_2).f0), .bool ((rd_T37 y463 x26_2).f1)] 37 (0, 0)) (pl_ BK468) hb)
             have n6_ := Aside0.mk (below_step (by repeat (first | (with_reducible first | exact HB.out | apply below_alloc | apply pw_below_drewN | apply below_drew1 | refine below_set ?_ GE456.out | refine below_set ?_ GE462.out | refine below_set ?_ GE468.out) | exact HB.out)) hb)
             clear HO_4
             clear HO_15
             clear BK456
             clear BK462
             clear HR466
             clear BK468
             clear HB
             have HO_4 := n0_
             have HO_15 := n1_
             have BK456 := n2_
             have BK462 := n3_
             have HR466 := n4_
             have BK468 := n5_
             have HB := n6_
             clear n0_ n1_ n2_ n3_ n4_ n5_ n6_
             (try clear hb)
             (try clear hb2)
             (try clear hk)
             (try clear hi)
             refine hK.out _ _ ⟨(blk_cell BK456.out 0).trans rfl, (blk_cell BK456.out 1).trans rfl, (blk_cell BK456.out 2).trans rfl, (blk_cell BK468.out 0).trans rfl, (blk_cell BK468.out 1).trans rfl, (blk_cell BK462.out 0).trans rfl, (blk_cell BK462.out 1).trans rfl⟩ (fun hHeld => ?_)
             clear hK K
             refine norm_ (a' := ?_) ?_ ?_
             rotate_left
             ·show Act.put _ (some 33) _ = _
              simp only [Act.put, List.setIfInBounds_toArray, List.set_cons_zero, List.set_cons_succ, i64_w, i32_w]
              rfl
             refine one_ (i := 6) (N := some 36) #[true, true, true, true, true, true, true, false, false, false] rfl rfl (one_of HT_.out (by kernel_rfl)) (by decide) (fun K hK => ?_)
             refine goes_ Try.func36 (by kernel_rfl) rfl #[.agg #[.int .i8 a0_0, .int .i8 a0_1, .slice A0_2 l0_2.length c0_2], .agg #[.int .i8 ((rd_T37 t458 x17_1).f0), .bool ((rd_T37 t458 x17_1).f1)]] (by rfl) rfl rfl (by (try simp only [List.map_toArray, List.map_cons, List.map_nil]); first | done | rfl | (simp only [List.length_drop, List.length_take]; rfl)) ?_
             with_reducible refine (impl_Fixed_seen.calls k2 a0_0 a0_1 _ _ l0_2 ((rd_T37 t458 x17_1).f0) ((rd_T37 t458 x17_1).f1) t473 t474 t475 t476 _ ?side1 ?side2 A25.out).mono ?_
             (case side1 => repeat (first | exact (Kd.C_below HR0_2.out HB.out) | (with_reducible refine Kd.C_alloc ?_ _) | (with_reducible refine Kd.C_drewN ?_ _) | (with_reducible refine Kd.C_drew ?_)))
             (case side2 => exact HC0_2.out)
             rintro e w35 ⟨rfl, hb⟩
             refine ⟨_, rfl, ?_⟩
             have n0_ := Aside0.mk (Kd.R_below (pr_ HO_4) hb)
             have n1_ := Aside0.mk (Kd.R_below (pr_ HO_15) hb)
             have n2_ := Aside0.mk (blk_below (g := gb456) (o := .cells #[.int .i8 a0_0, .int .i8 a0_1, .slice A0_2 l0_2.length c0_2] 35 (0, 0)) (pl_ BK456) hb)
             have n3_ := Aside0.mk (blk_below (g := gb462) (o := .cells #[.int .i8 ((rd_T37 t458 x17_1).f0), .bool ((rd_T37 t458 x17_1).f1)] 37 (0, 0)) (pl_ BK462) hb)
             have n4_ := Aside0.mk (Kd.C_below (by repeat (first | (with_reducible exact HR466.out) | (with_reducible refine Kd.C_alloc ?_ _) | (with_reducible refine Kd.C_drewN ?_ _) | (with_reducible refine Kd.C_drew ?_) | exact HR466.out)) hb)
             have n5_ := Aside0.mk (blk_below (g := gb468) (o := .cells #[.int .i8 ((rd_T37 y463 x26_2).f0), .bool ((rd_T37 y463 x26_2).f1)] 37 (0, 0)) (pl_ BK468) hb)
             have n6_ := Aside0.mk (below_step (by repeat (first | (with_reducible first | exact HB.out | apply below_alloc | apply pw_below_drewN | apply below_drew1 | refine below_set ?_ GE456.out | refine below_set ?_ GE462.out | refine below_set ?_ GE468.out) | exact HB.out)) hb)
             clear HO_4
             clear HO_15
             clear BK456
             clear BK462
             clear HR466
             clear BK468
             clear HB
             have HO_4 := n0_
             have HO_15 := n1_
             have BK456 := n2_
             have BK462 := n3_
             have HR466 := n4_
             have BK468 := n5_
             have HB := n6_
             clear n0_ n1_ n2_ n3_ n4_ n5_ n6_
             (try clear hb)
             (try clear hb2)
             (try clear hk)
             (try clear hi)
             refine hK.out _ _ ⟨(blk_cell BK456.out 0).trans rfl, (blk_cell BK456.out 1).trans rfl, (blk_cell BK456.out 2).trans rfl, (blk_cell BK468.out 0).trans rfl, (blk_cell BK468.out 1).trans rfl, (blk_cell BK462.out 0).trans rfl, (blk_cell BK462.out 1).trans rfl⟩ (fun hHeld => ?_)
             clear hK K
             refine norm_ (a' := ?_) ?_ ?_
             rotate_left
             ·show Act.put _ (some 36) _ = _
              simp only [Act.put, List.setIfInBounds_toArray, List.set_cons_zero, List.set_cons_succ, i64_w, i32_w]
              rfl
             refine one_ (i := 7) (N := some 37) #[true, true, true, true, true, true, true, true, false, false] rfl rfl (one_of HT_.out (by kernel_rfl)) (by decide) (fun K hK => ?_)
             refine goes_ Try.func46 (by kernel_rfl) rfl #[.agg #[.int .i8 t469, .int .i8 t470, .int .i8 t471, .int .i8 t472], .agg #[.int .i8 t473, .int .i8 t474, .int .i8 t475, .int .i8 t476]] (by rfl) rfl rfl (by (try simp only [List.map_toArray, List.map_cons, List.map_nil]); first | done | rfl | (simp only [List.length_drop, List.length_take]; rfl)) ?_
             with_reducible refine (impl_distance.calls k2 t469 t470 t471 t472 t473 t474 t475 t476 t477 _ A26.out).mono ?_
             rintro e w36 ⟨rfl, hb⟩
             refine ⟨_, rfl, ?_⟩
             have n0_ := Aside0.mk (Kd.R_below (pr_ HO_4) hb)
             have n1_ := Aside0.mk (Kd.R_below (pr_ HO_15) hb)
             have n2_ := Aside0.mk (blk_below (g := gb456) (o := .cells #[.int .i8 a0_0, .int .i8 a0_1, .slice A0_2 l0_2.length c0_2] 35 (0, 0)) (pl_ BK456) hb)
             have n3_ := Aside0.mk (blk_below (g := gb462) (o := .cells #[.int .i8 ((rd_T37 t458 x17_1).f0), .bool ((rd_T37 t458 x17_1).f1)] 37 (0, 0)) (pl_ BK462) hb)
             have n4_ := Aside0.mk (Kd.C_below (by repeat (first | (with_reducible exact HR466.out) | (with_reducible refine Kd.C_alloc ?_ _) | (with_reducible refine Kd.C_drewN ?_ _) | (with_reducible refine Kd.C_drew ?_) | exact HR466.out)) hb)
             have n5_ := Aside0.mk (blk_below (g := gb468) (o := .cells #[.int .i8 ((rd_T37 y463 x26_2).f0), .bool ((rd_T37 y463 x26_2).f1)] 37 (0, 0)) (pl_ BK468) hb)
             have n6_ := Aside0.mk (below_step (by repeat (first | (with_reducible first | exact HB.out | apply below_alloc | apply pw_below_drewN | apply below_drew1 | refine below_set ?_ GE456.out | refine below_set ?_ GE462.out | refine below_set ?_ GE468.out) | exact HB.out)) hb)
             clear HO_4
             clear HO_15
             clear BK456
             clear BK462
             clear HR466
             clear BK468
             clear HB
             have HO_4 := n0_
             have HO_15 := n1_
             have BK456 := n2_
             have BK462 := n3_
             have HR466 := n4_
             have BK468 := n5_
             have HB := n6_
             clear n0_ n1_ n2_ n3_ n4_ n5_ n6_
             (try clear hb)
             (try clear hb2)
             (try clear hk)
             (try clear hi)
             refine hK.out _ _ ⟨(blk_cell BK456.out 0).trans rfl, (blk_cell BK456.out 1).trans rfl, (blk_cell BK456.out 2).trans rfl, (blk_cell BK468.out 0).trans rfl, (blk_cell BK468.out 1).trans rfl, (blk_cell BK462.out 0).trans rfl, (blk_cell BK462.out 1).trans rfl⟩ (fun hHeld => ?_)
             clear hK K
             refine norm_ (a' := ?_) ?_ ?_
             rotate_left
             ·show Act.put _ (some 37) _ = _
              simp only [Act.put, List.setIfInBounds_toArray, List.set_cons_zero, List.set_cons_succ, i64_w, i32_w]
              rfl
             refine pure_ (i := 8) (N := some 38) (v := ?_) (a' := ?_) #[true, true, true, true, true, true, true, true, true, false] rfl rfl (any_of HT_.out (by kernel_rfl)) (fun _ _ _ h => h) (Or.inl ⟨by rfl, ?_⟩) ?_ ?_
             rotate_left
             ·intro w'
              go_simp
              with_reducible rfl
             rotate_left
             ·simp only [Act.put, List.setIfInBounds_toArray, List.set_cons_zero, List.set_cons_succ, i64_w, i32_w]
              rfl
             refine pure_ (i := 9) (N := some 5) (v := ?_) (a' := ?_) #[true, true, true, true, true, true, true, true, true, true] rfl rfl (any_of HT_.out (by kernel_rfl)) (fun _ _ _ h => h) (Or.inl ⟨by rfl, ?_⟩) ?_ ?_
             rotate_left
             ·intro w'
              go_simp
              with_reducible rfl
             rotate_left
             ·simp only [Act.put, List.setIfInBounds_toArray, List.set_cons_zero, List.set_cons_succ, i64_w, i32_w]
              rfl
             refine done_ (done_of HT_.out (by kernel_rfl)) ?_
             try go_wp2
             go_roundg k2
             case measure => have := HK1.out; have := HK2.out; omega
             case rel => exact ⟨(ji27), (wrap64 (x26_2 + 1)), (by first | rfl | (simp; done) | (simp only [← hji27] <;> (first | rfl | simp)) | (simp [*]; done)), (by first | rfl | (simp; done) | (simp [*]; done)), H', ⟨by have := HK1.out; have := HK2.out; omega⟩, ⟨by (with_reducible repeat (first | apply Kd.R_alloc | apply Kd.R_drewN | apply Kd.R_drew)); exact Kd.R_mono HO_4.out (fun _ hk => hk.1)⟩, ⟨by (with_reducible repeat (first | apply Kd.R_alloc | apply Kd.R_drewN | apply Kd.R_drew)); exact Kd.R_mono HO_15.out (fun _ hk => hk.1)⟩, ⟨pl_ BK456⟩, ⟨pl_ BK462⟩, ⟨by repeat (first | (with_reducible exact HR466.out) | (with_reducible refine Kd.C_alloc ?_ _) | (with_reducible refine Kd.C_drewN ?_ _) | (with_reducible refine Kd.C_drew ?_) | exact HR466.out)⟩, ⟨by repeat (first | (with_reducible first | exact HB.out | apply below_alloc | apply pw_below_drewN | apply below_drew1 | refine below_set ?_ GE456.out | refine below_set ?_ GE462.out | refine below_set ?_ GE468.out) | exact HB.out)⟩⟩
            ·rw [if_neg c23] at H
             exact absurd H (by simp)
           ·rw [if_neg c22] at H
            exact absurd H (by simp)
          ·rw [if_neg c21] at H
           have c21b0 : decide (x26_2 < (y463.length : Int)) = false := decide_eq_false c21
           clear c21
           have H' := Aside0.mk H
           clear H
           go_wp2
           go_roundg k2
           case measure => have := HK1.out; have := HK2.out; omega
           case rel => exact ⟨(x5_2), (wrap64 (x17_1 + 1)), (by first | rfl | (simp; done) | (simp [*]; done)), (by first | rfl | (simp; done) | (simp [*]; done)), H', ⟨by have := HK1.out; have := HK2.out; omega⟩, ⟨by (with_reducible repeat (first | apply Kd.R_alloc | apply Kd.R_drewN | apply Kd.R_drew)); exact Kd.R_mono HO_4.out (fun _ hk => trivial)⟩, ⟨by (with_reducible repeat (first | apply Kd.R_alloc | apply Kd.R_drewN | apply Kd.R_drew)); exact Kd.R_mono HO_15.out (fun _ hk => trivial)⟩, ⟨pl_ BK456⟩, ⟨by repeat (first | (with_reducible first | exact HB.out | apply below_alloc | apply pw_below_drewN | apply below_drew1 | refine below_set ?_ GE456.out | refine below_set ?_ GE462.out) | exact HB.out)⟩⟩
       ·rw [if_neg c15] at H
        exact absurd H (by simp)
      ·rw [if_neg c13] at H
       exact absurd H (by simp)
     ·rw [if_neg c12] at H
      exact absurd H (by simp)
    ·rw [if_neg c11] at H
     have c11b0 : decide (x17_1 < (t458.length : Int)) = false := decide_eq_false c11
     clear c11
     simp only [Option.some.injEq, Prod.mk.injEq] at H
     obtain ⟨rfl, rfl⟩ := H
     go_wp2
     go_ret2
     exact ⟨by first | rfl | (simp [errW_none, errW_some] <;> rfl) | (simp [*, errW_none, errW_some] <;> rfl), by repeat (first | (with_reducible first | exact HB.out | apply below_alloc | apply pw_below_drewN | apply below_drew1 | refine below_set ?_ GE456.out) | exact HB.out)⟩
 ·replace c3 := Bool.eq_false_iff.mpr c3
  subst c3
  have H1 : (some (0, 1)) = some (r1, r2) := by rw [if_neg (show ¬ (false = true) by decide)] at H; exact H
  clear H
  have H := H1
  clear H1
  simp only [Option.some.injEq, Prod.mk.injEq] at H
  obtain ⟨rfl, rfl⟩ := H
  go_enter Try.func25, Try.ntmps25
  go_wp2_with (first | ((with_reducible refine gate_dst (N := 1) rfl ?_); refine box_event ?hg (N := 1) ?hd (cs := #[.int .i8 a0_0, .int .i8 a0_1, .slice A0_2 l0_2.length c0_2]) (t := 35) ?hr ?_; (case hd => rfl); (case hg => rfl); (case hr => first | (go_simp; done) | (go_simp; rfl)); intro gb456 hg w37 hbox hb; have n0_ := Aside0.mk (below_step (bl_ HB) hb); have n1_ := Aside0.mk (hbox); have n2_ := Aside0.mk ((by rw [hg]; exact (below_size (bl_ HB)) : w.heap.size ≤ gb456)); have n3_ := Aside0.mk ((by rw [hg]; exact (below_size (bl_ HB)) : w.heap.size ≤ gb456)); clear HB; have HB := n0_; have BK456 := n1_; have GW456 := n2_; have GE456 := n3_; clear n0_ n1_ n2_ n3_; clear hb hbox hg; have hcz38_0 : w37.cell? ⟨gb456, 0, none⟩ = some (.int .i8 a0_0) := (blk_cell BK456.out 0).trans rfl; have hcz38_1 : w37.cell? ⟨gb456, 1, none⟩ = some (.int .i8 a0_1) := (blk_cell BK456.out 1).trans rfl; have hcz38_2 : w37.cell? ⟨gb456, 2, none⟩ = some (.slice A0_2 l0_2.length c0_2) := (blk_cell BK456.out 2).trans rfl; have hfz38_0 := blk_frozen BK456.out 0; have hfz38_1 := blk_frozen BK456.out 1; have hfz38_2 := blk_frozen BK456.out 2) | ((with_reducible refine gate_callee (f := 33) rfl ?_); refine goesL_ (some 11) rfl rfl Try.func33 (by kernel_rfl) rfl #[.agg #[.int .i8 a0_0, .int .i8 a0_1, .slice A0_2 l0_2.length c0_2]] rfl (by (try simp only [List.map_toArray, List.map_cons, List.map_nil]); first | done | rfl | (simp only [List.length_drop, List.length_take]; rfl)) ?_; (with_reducible refine (impl_ValidFixed.calls k a0_0 a0_1 _ _ l0_2 false _ ?side1 ?side2 A2.out).mono ?_); (case side1 => repeat (first | exact (Kd.C_below HR0_2.out HB.out) | (with_reducible refine Kd.C_alloc ?_ _) | (with_reducible refine Kd.C_drewN ?_ _) | (with_reducible refine Kd.C_drew ?_))); (case side2 => exact HC0_2.out); rintro e w39 ⟨rfl, hb⟩; refine ⟨_, rfl, ?_⟩; have n0_ := Aside0.mk (blk_below (g := gb456) (o := .cells #[.int .i8 a0_0, .int .i8 a0_1, .slice A0_2 l0_2.length c0_2] 35 (0, 0)) (pl_ BK456) hb); have n1_ := Aside0.mk (below_step (by repeat (first | (with_reducible first | exact HB.out | apply below_alloc | apply pw_below_drewN | apply below_drew1 | refine below_set ?_ GE456.out) | exact HB.out)) hb); clear BK456; clear HB; have BK456 := n0_; have HB := n1_; clear n0_ n1_; (try clear hb); (try clear hb2); (try clear hk); (try clear hi)))
  go_ret2
  exact ⟨by first | rfl | (simp [errW_none, errW_some] <;> rfl) | (simp [*, errW_none, errW_some] <;> rfl), by repeat (first | (with_reducible first | exact HB.out | apply below_alloc | apply pw_below_drewN | apply below_drew1 | refine below_set ?_ GE456.out) | exact HB.out)⟩

end Go.Proofs.Ytkllpdekkhhhnaa.M
