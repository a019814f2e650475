-- By this seat's own program over the kit's printer (arrays, functions told by hand); nothing of it is trusted: the kernel checks it.
import Derived.Test.YtkllpdekkhhhnaaMx0
import Derived.Test.YtkllpdekkhhhnaaMx8
import Derived.Test.YtkllpdekkhhhnaaMx10
import Derived.Test.YtkllpdekkhhhnaaMx12
import Derived.Test.YtkllpdekkhhhnaaMx31
namespace Go.Proofs.Ytkllpdekkhhhnaa.M
open Go.RowKit Go.Proofs.YtkllpdekkhhhnaaW.PrintWords Go.Proofs.YtkllpdekkhhhnaaW.PrintLast Go.Proofs.YtkllpdekkhhhnaaW.PrintMore
attribute [local go_sem] max2_int min2_int max_two min_two max_three min_three max_four min_four   -- for this text's walks alone
set_option linter.unusedVariables false
set_option linter.unusedSimpArgs false

/-! ### spec_LeastDistance: function 24 -/
mutual
def spec_LeastDistance.l0 : Nat → List (S37) → Int → Int → Int → Int → List (S30) → Option (Int × Int)
 | 0, _, _, _, _, _, _ => none
 | k + 1, x4, x5, x6, x438000, x438001, x438002 => if x6 < (x4.length : Int) then (spec_LeastDistance.l1 k x4 x5 x6 0 x438000 x438001 x438002) else (some (x5, 0))
def spec_LeastDistance.l1 : Nat → List (S37) → Int → Int → Int → Int → Int → List (S30) → Option (Int × Int)
 | 0, _, _, _, _, _, _, _ => none
 | k + 1, x4, x5, x6, x7, x438000, x438001, x438002 => if x7 < x6 then (if 0 ≤ x7 then (if x7 < (x4.length : Int) then ((spec_l04Seen.f k x438000 x438001 x438002 ((rd_T37 x4 x7).f0) ((rd_T37 x4 x7).f1)).bind fun bt443 => (if 0 ≤ x6 then (if x6 < (x4.length : Int) then ((spec_l04Seen.f k x438000 x438001 x438002 ((rd_T37 x4 x6).f0) ((rd_T37 x4 x6).f1)).bind fun bt448 => ((spec_l04Distance.f k bt443.1 bt443.2.1 bt443.2.2.1 bt443.2.2.2 bt448.1 bt448.2.1 bt448.2.2.1 bt448.2.2.2).bind fun t452 => ((spec_l00Min.f x5 t452).bind fun t453 => (spec_LeastDistance.l1 k x4 t453 x6 (wrap64 (x7 + 1)) x438000 x438001 x438002)))) else (none)) else (none))) else (none)) else (none)) else (spec_LeastDistance.l0 k x4 x5 (wrap64 (x6 + 1)) x438000 x438001 x438002)
end
def spec_LeastDistance.f (k : Nat) (a0_0 : Int) (a0_1 : Int) (l0_2 : List (S30)) : Option (Int × Int) := (spec_l04Ok.f k a0_0 a0_1 l0_2).bind fun t438 => (if t438 = true then ((spec_l04Cases.f k a0_0 a0_1 l0_2).bind fun t439 => (spec_LeastDistance.l0 k t439 4 1 a0_0 a0_1 l0_2)) else (some (0, 1)))
theorem spec_LeastDistance.mono_l : ∀ k, (∀ y0 y1 y2 y3 y4 y5, LeO (spec_LeastDistance.l0 k y0 y1 y2 y3 y4 y5) (spec_LeastDistance.l0 (k + 1) y0 y1 y2 y3 y4 y5)) ∧ (∀ y0 y1 y2 y3 y4 y5 y6, LeO (spec_LeastDistance.l1 k y0 y1 y2 y3 y4 y5 y6) (spec_LeastDistance.l1 (k + 1) y0 y1 y2 y3 y4 y5 y6))
 | 0 => ⟨fun _ _ _ _ _ _ r h => by simp [spec_LeastDistance.l0] at h, fun _ _ _ _ _ _ _ r h => by simp [spec_LeastDistance.l1] at h⟩
 | k + 1 => by
  obtain ⟨ih0, ih1⟩ := spec_LeastDistance.mono_l k
  refine ⟨?_, ?_⟩
  ·intro y0 y1 y2 y3 y4 y5
   unfold spec_LeastDistance.l0
   repeat' first
   | (with_reducible exact ih0 _ _ _ _ _ _)
   | (with_reducible exact ih1 _ _ _ _ _ _ _)
   | (with_reducible exact spec_l04Cases.mono _ _ _ _)
   | (with_reducible exact spec_l04Distance.mono _ _ _ _ _ _ _ _ _)
   | (with_reducible exact spec_l04Ok.mono _ _ _ _)
   | (with_reducible exact spec_l04Seen.mono _ _ _ _ _ _)
   | (with_reducible exact LeO.refl _)
   | (with_reducible exact LeO.none _)
   | (with_reducible refine LeO.ite ?_ ?_)
   | (with_reducible refine LeO.bind ?_ (fun _ => ?_))
   | exact ih0 _ _ _ _ _ _
   | exact ih1 _ _ _ _ _ _ _
   | exact spec_l04Cases.mono _ _ _ _
   | exact spec_l04Distance.mono _ _ _ _ _ _ _ _ _
   | exact spec_l04Ok.mono _ _ _ _
   | exact spec_l04Seen.mono _ _ _ _ _ _
   | exact LeO.none _
   | refine LeO.ite ?_ ?_
   | refine LeO.bind ?_ (fun _ => ?_)
  ·intro y0 y1 y2 y3 y4 y5 y6
   unfold spec_LeastDistance.l1
   repeat' first
   | (with_reducible exact ih0 _ _ _ _ _ _)
   | (with_reducible exact ih1 _ _ _ _ _ _ _)
   | (with_reducible exact spec_l04Cases.mono _ _ _ _)
   | (with_reducible exact spec_l04Distance.mono _ _ _ _ _ _ _ _ _)
   | (with_reducible exact spec_l04Ok.mono _ _ _ _)
   | (with_reducible exact spec_l04Seen.mono _ _ _ _ _ _)
   | (with_reducible exact LeO.refl _)
   | (with_reducible exact LeO.none _)
   | (with_reducible refine LeO.ite ?_ ?_)
   | (with_reducible refine LeO.bind ?_ (fun _ => ?_))
   | exact ih0 _ _ _ _ _ _
   | exact ih1 _ _ _ _ _ _ _
   | exact spec_l04Cases.mono _ _ _ _
   | exact spec_l04Distance.mono _ _ _ _ _ _ _ _ _
   | exact spec_l04Ok.mono _ _ _ _
   | exact spec_l04Seen.mono _ _ _ _ _ _
   | exact LeO.none _
   | refine LeO.ite ?_ ?_
   | refine LeO.bind ?_ (fun _ => ?_)
theorem spec_LeastDistance.mono : ∀ a0 a1 a2 k, LeO (spec_LeastDistance.f k a0 a1 a2) (spec_LeastDistance.f (k + 1) a0 a1 a2) := by
 intro a0 a1 a2 k
 obtain ⟨ih0, ih1⟩ := spec_LeastDistance.mono_l k
 unfold spec_LeastDistance.f
 repeat' first
   | (with_reducible exact ih0 _ _ _ _ _ _)
   | (with_reducible exact ih1 _ _ _ _ _ _ _)
   | (with_reducible exact spec_l04Cases.mono _ _ _ _)
   | (with_reducible exact spec_l04Distance.mono _ _ _ _ _ _ _ _ _)
   | (with_reducible exact spec_l04Ok.mono _ _ _ _)
   | (with_reducible exact spec_l04Seen.mono _ _ _ _ _ _)
   | (with_reducible exact LeO.refl _)
   | (with_reducible exact LeO.none _)
   | (with_reducible refine LeO.ite ?_ ?_)
   | (with_reducible refine LeO.bind ?_ (fun _ => ?_))
   | exact ih0 _ _ _ _ _ _
   | exact ih1 _ _ _ _ _ _ _
   | exact spec_l04Cases.mono _ _ _ _
   | exact spec_l04Distance.mono _ _ _ _ _ _ _ _ _
   | exact spec_l04Ok.mono _ _ _ _
   | exact spec_l04Seen.mono _ _ _ _ _ _
   | exact LeO.none _
   | refine LeO.ite ?_ ?_
   | refine LeO.bind ?_ (fun _ => ?_)
def spec_LeastDistance.T11 : Bool × List (List Nat × List Nat) := (true, [([], []), ([], []), ([], []), ([1, 2], [1, 2]), ([3], [3]), ([4], [4]), ([], []), ([], []), ([6, 7], [6, 7]), ([8], [8]), ([9, 5], [9]), ([5, 10, 10], [5, 10]), ([0, 11, 11], [0, 11]), ([12, 12, 0, 1, 2, 3, 4, 5, 6, 7, 8, 9, 10, 11, 12], [0, 12])])
def spec_LeastDistance.B11 : List Nat := [0, 0, 0, 6, 14, 30, 0, 0, 192, 448, 1022, 2046, 4095, 8191]
theorem spec_LeastDistance.tab11 : rtab .any (opsOf Try.f24 11) = spec_LeastDistance.T11 := by kernel_rfl
theorem spec_LeastDistance.bits11 : waitsOk spec_LeastDistance.T11.2 spec_LeastDistance.B11 = true := by kernel_rfl
set_option maxHeartbeats 8000000 in
set_option maxRecDepth 100000 in
theorem spec_LeastDistance.calls (k : Nat) (a0_0 : Int) (a0_1 : Int) (A0_2 : Option Addr) (c0_2 : Nat) (l0_2 : List (S30)) (r1 : Int) (r2 : Int) (w : World) (hr0_2 : Kd.C k30 w A0_2 l0_2.length l0_2) (hc0_2 : l0_2.length ≤ c0_2) (h : spec_LeastDistance.f k a0_0 a0_1 l0_2 = some (r1, r2)) :
  Calls Try.prog 24 #[.agg #[.int .i8 a0_0, .int .i8 a0_1, .slice A0_2 l0_2.length c0_2]] w fun e w' => e = .returned (.tuple #[.int .i64 r1, .int .i64 r2]) ∧ Below w.heap.size w w' := by
 have hu35 := Try.underlying35
 have hu37 := Try.underlying37
 have HR0_2 := Aside0.mk hr0_2
 have HC0_2 := Aside0.mk hc0_2
 clear hr0_2 hc0_2
 have HB := Aside0.mk (Below.refl w.heap.size w)
 have H : ((spec_l04Ok.f k a0_0 a0_1 l0_2).bind fun t438 => (if t438 = true then ((spec_l04Cases.f k a0_0 a0_1 l0_2).bind fun t439 => (spec_LeastDistance.l0 k t439 4 1 a0_0 a0_1 l0_2)) else (some (0, 1)))) = some (r1, r2) := h
 clear h
 replace H := Option.bind_eq_some_iff.mp H
 obtain ⟨t438, A20, H⟩ := H
 replace H : (if t438 = true then ((spec_l04Cases.f k a0_0 a0_1 l0_2).bind fun t439 => (spec_LeastDistance.l0 k t439 4 1 a0_0 a0_1 l0_2)) else (some (0, 1))) = some (r1, r2) := H
 have A2 := Aside0.mk A20
 clear A20
 by_cases c3 : t438 = true
 ·subst c3
  have H1 : ((spec_l04Cases.f k a0_0 a0_1 l0_2).bind fun t439 => (spec_LeastDistance.l0 k t439 4 1 a0_0 a0_1 l0_2)) = some (r1, r2) := by rw [if_pos rfl] at H; exact H
  clear H
  have H := H1
  clear H1
  replace H := Option.bind_eq_some_iff.mp H
  obtain ⟨t439, A40, H⟩ := H
  replace H : (spec_LeastDistance.l0 k t439 4 1 a0_0 a0_1 l0_2) = some (r1, r2) := H
  have A4 := Aside0.mk A40
  clear A40
  have H' := Aside0.mk H
  clear H
  go_enter Try.func24, Try.ntmps24
  go_wp2_with (first | ((with_reducible refine gate_dst (N := 1) rfl ?_); refine box_event ?hg (N := 1) ?hd (cs := #[.int .i8 a0_0, .int .i8 a0_1, .slice A0_2 l0_2.length c0_2]) (t := 35) ?hr ?_; (case hd => rfl); (case hg => rfl); (case hr => first | (go_simp; done) | (go_simp; rfl)); intro gb437 hg w5 hbox hb; have n0_ := Aside0.mk (below_step (bl_ HB) hb); have n1_ := Aside0.mk (hbox); have n2_ := Aside0.mk ((by rw [hg]; exact (below_size (bl_ HB)) : w.heap.size ≤ gb437)); have n3_ := Aside0.mk ((by rw [hg]; exact (below_size (bl_ HB)) : w.heap.size ≤ gb437)); clear HB; have HB := n0_; have BK437 := n1_; have GW437 := n2_; have GE437 := n3_; clear n0_ n1_ n2_ n3_; clear hb hbox hg) | ((with_reducible refine gate_callee (f := 29) rfl ?_); refine goesL_ (some 8) rfl rfl Try.func29 (by kernel_rfl) rfl #[.pointer (some ⟨gb437, 0, none⟩)] rfl (by (try simp only [List.map_toArray, List.map_cons, List.map_nil]); first | done | rfl | (simp only [List.length_drop, List.length_take]; rfl)) ?_; (with_reducible refine (spec_l04Ok.calls k gb437 a0_0 a0_1 A0_2 c0_2 l0_2 true _ ?side1 ?side2 ?side3 A2.out).mono ?_); (case side1 => exact (pl_ BK437)); (case side2 => repeat (first | exact (Kd.C_below HR0_2.out HB.out) | (with_reducible refine Kd.C_alloc ?_ _) | (with_reducible refine Kd.C_drewN ?_ _) | (with_reducible refine Kd.C_drew ?_))); (case side3 => exact HC0_2.out); rintro e w6 ⟨rfl, hb⟩; refine ⟨_, rfl, ?_⟩; have n0_ := Aside0.mk (blk_below (g := gb437) (o := .cells #[.int .i8 a0_0, .int .i8 a0_1, .slice A0_2 l0_2.length c0_2] 35 (0, 0)) (pl_ BK437) hb); have n1_ := Aside0.mk (below_step (by repeat (first | (with_reducible first | exact HB.out | apply below_alloc | apply pw_below_drewN | apply below_drew1 | refine below_set ?_ GE437.out) | exact HB.out)) hb); clear BK437; clear HB; have BK437 := n0_; have HB := n1_; clear n0_ n1_; (try clear hb); (try clear hb2); (try clear hk); (try clear hi)) | ((with_reducible refine gate_callee (f := 43) rfl ?_); refine goesL_ (some 10) rfl rfl Try.func43 (by kernel_rfl) rfl #[.pointer (some ⟨gb437, 0, none⟩)] rfl (by (try simp only [List.map_toArray, List.map_cons, List.map_nil]); first | done | rfl | (simp only [List.length_drop, List.length_take]; rfl)) ?_; (with_reducible refine (spec_l04Cases.calls k gb437 a0_0 a0_1 A0_2 c0_2 l0_2 t439 _ ?side1 ?side2 ?side3 A4.out).mono ?_); (case side1 => exact (pl_ BK437)); (case side2 => repeat (first | exact (Kd.C_below HR0_2.out HB.out) | (with_reducible refine Kd.C_alloc ?_ _) | (with_reducible refine Kd.C_drewN ?_ _) | (with_reducible refine Kd.C_drew ?_))); (case side3 => exact HC0_2.out); rintro e w7 ⟨v440, rfl, ho0, hb⟩; refine ⟨_, rfl, ?_⟩; have n0_ := Aside0.mk (Kd.R_lower ho0 (below_size (by repeat (first | (with_reducible first | exact HB.out | apply below_alloc | apply pw_below_drewN | apply below_drew1 | refine below_set ?_ GE437.out) | exact HB.out)))); have n1_ := Aside0.mk (blk_below (g := gb437) (o := .cells #[.int .i8 a0_0, .int .i8 a0_1, .slice A0_2 l0_2.length c0_2] 35 (0, 0)) (pl_ BK437) hb); have n2_ := Aside0.mk (below_step (by repeat (first | (with_reducible first | exact HB.out | apply below_alloc | apply pw_below_drewN | apply below_drew1 | refine below_set ?_ GE437.out) | exact HB.out)) hb); clear BK437; clear HB; have HO441 := n0_; have BK437 := n1_; have HB := n2_; clear n0_ n1_ n2_; (try clear hb); (try clear hb2); (try clear hk); (try clear hi); (try clear ho0)))
  go_loopg [5, 6] k (fun kq v5 v6 w' => ∃ (x5_1 : Int) (x6_1 : Int) (x438000_1 : Int) (x438001_1 : Int), v5 = .int .i64 x5_1 ∧ v6 = .int .i64 x6_1 ∧ Aside0 (spec_LeastDistance.l0 kq t439 x5_1 x6_1 x438000_1 x438001_1 l0_2 = some (r1, r2)) ∧ Aside0 (kq ≤ k) ∧ Aside0 (Kd.R k37 37 w' w.heap.size (fun _ => True) v440 t439) ∧ Aside0 (w'.heap[gb437]? = some (.cells #[.int .i8 x438000_1, .int .i8 x438001_1, (.slice A0_2 l0_2.length c0_2)] 35 (0, 0))) ∧ Aside0 (Below w.heap.size w w'))
  case atStart => exact ⟨(4), (1), (a0_0), (a0_1), (by first | rfl | (simp; done) | (simp [*]; done)), (by first | rfl | (simp; done) | (simp [*]; done)), H', ⟨Nat.le_refl _⟩, ⟨pr_ HO441⟩, ⟨pl_ BK437⟩, ⟨by repeat (first | (with_reducible first | exact HB.out | apply below_alloc | apply pw_below_drewN | apply below_drew1 | refine below_set ?_ GE437.out) | exact HB.out)⟩⟩
  case round =>
   clear H'
   try clear c2
   try clear p2
   try clear c3
   try clear c4
   obtain ⟨x5_1, x6_1, x438000_1, x438001_1, rfl, rfl, HA, HK1, HO_4, BK437, HB⟩ := hrel
   cases gk with
   | zero => exact absurd HA.out (by simp [spec_LeastDistance.l0])
   | succ k1 =>
    have H := HA.out
    clear HA
    simp only [spec_LeastDistance.l0] at H
    by_cases c8 : x6_1 < (t439.length : Int)
    ·rw [if_pos c8] at H
     have c8b0 : decide (x6_1 < (t439.length : Int)) = true := decide_eq_true c8
     clear c8
     have H' := Aside0.mk H
     clear H
     obtain ⟨Ao9, co9, eo9⟩ := Kd.R_slice HO_4.out
     subst eo9
     go_wp2
     go_loopg [5, 7] k1 (fun kq v5 v7 w' => ∃ (x5_2 : Int) (x7_2 : Int) (x438000_2 : Int) (x438001_2 : Int), v5 = .int .i64 x5_2 ∧ v7 = .int .i64 x7_2 ∧ Aside0 (spec_LeastDistance.l1 kq t439 x5_2 x6_1 x7_2 x438000_2 x438001_2 l0_2 = some (r1, r2)) ∧ Aside0 (kq ≤ k1) ∧ Aside0 (Kd.R k37 37 w' w.heap.size (fun _ => True) (.slice Ao9 t439.length co9) t439) ∧ Aside0 (w'.heap[gb437]? = some (.cells #[.int .i8 x438000_2, .int .i8 x438001_2, (.slice A0_2 l0_2.length c0_2)] 35 (0, 0))) ∧ Aside0 (Below w.heap.size w w'))
     case atStart => exact ⟨(x5_1), (0), (x438000_1), (x438001_1), (by first | rfl | (simp; done) | (simp [*]; done)), (by first | rfl | (simp; done) | (simp [*]; done)), H', ⟨Nat.le_refl _⟩, ⟨pr_ HO_4⟩, ⟨pl_ BK437⟩, ⟨by repeat (first | (with_reducible first | exact HB.out | apply below_alloc | apply pw_below_drewN | apply below_drew1 | refine below_set ?_ GE437.out) | exact HB.out)⟩⟩
     case round =>
      clear H'
      try clear c2
      try clear p2
      try clear c3
      try clear c4
      try clear c8
      try clear c8b0
      try clear p2
      obtain ⟨x5_2, x7_2, x438000_2, x438001_2, rfl, rfl, HA, HK2, HO_4, BK437, HB⟩ := hrel
      cases gk with
      | zero => exact absurd HA.out (by simp [spec_LeastDistance.l1])
      | succ k2 =>
       have H := HA.out
       clear HA
       simp only [spec_LeastDistance.l1] at H
       by_cases c10 : x7_2 < x6_1
       ·rw [if_pos c10] at H
        have c10b0 : decide (x7_2 < x6_1) = true := decide_eq_true c10
        clear c10
        by_cases c11 : 0 ≤ x7_2
        ·rw [if_pos c11] at H
         have c11b0 : decide (0 ≤ x7_2) = true := decide_eq_true c11
         clear c11
         by_cases c12 : x7_2 < (t439.length : Int)
         ·rw [if_pos c12] at H
          have c12b0 : decide (x7_2 < (t439.length : Int)) = true := decide_eq_true c12
          clear c12
          replace H := Option.bind_eq_some_iff.mp H
          obtain ⟨⟨t443, t444, t445, t446⟩, A130, H⟩ := H
          replace H : (if 0 ≤ x6_1 then (if x6_1 < (t439.length : Int) then ((spec_l04Seen.f k2 x438000_2 x438001_2 l0_2 ((rd_T37 t439 x6_1).f0) ((rd_T37 t439 x6_1).f1)).bind fun bt448 => ((spec_l04Distance.f k2 t443 t444 t445 t446 bt448.1 bt448.2.1 bt448.2.2.1 bt448.2.2.2).bind fun t452 => ((spec_l00Min.f x5_2 t452).bind fun t453 => (spec_LeastDistance.l1 k2 t439 t453 x6_1 (wrap64 (x7_2 + 1)) x438000_2 x438001_2 l0_2)))) else (none)) else (none)) = some (r1, r2) := H
          have A13 := Aside0.mk A130
          clear A130
          by_cases c14 : 0 ≤ x6_1
          ·rw [if_pos c14] at H
           have c14b0 : decide (0 ≤ x6_1) = true := decide_eq_true c14
           clear c14
           by_cases c15 : x6_1 < (t439.length : Int)
           ·rw [if_pos c15] at H
            have c15b0 : decide (x6_1 < (t439.length : Int)) = true := decide_eq_true c15
            clear c15
            replace H := Option.bind_eq_some_iff.mp H
            obtain ⟨⟨t448, t449, t450, t451⟩, A160, H⟩ := H
            replace H : ((spec_l04Distance.f k2 t443 t444 t445 t446 t448 t449 t450 t451).bind fun t452 => ((spec_l00Min.f x5_2 t452).bind fun t453 => (spec_LeastDistance.l1 k2 t439 t453 x6_1 (wrap64 (x7_2 + 1)) x438000_2 x438001_2 l0_2))) = some (r1, r2) := H
            have A16 := Aside0.mk A160
            clear A160
            replace H := Option.bind_eq_some_iff.mp H
            obtain ⟨t452, A170, H⟩ := H
            replace H : ((spec_l00Min.f x5_2 t452).bind fun t453 => (spec_LeastDistance.l1 k2 t439 t453 x6_1 (wrap64 (x7_2 + 1)) x438000_2 x438001_2 l0_2)) = some (r1, r2) := H
            have A17 := Aside0.mk A170
            clear A170
            replace H := Option.bind_eq_some_iff.mp H
            obtain ⟨t453, A180, H⟩ := H
            replace H : (spec_LeastDistance.l1 k2 t439 t453 x6_1 (wrap64 (x7_2 + 1)) x438000_2 x438001_2 l0_2) = some (r1, r2) := H
            have A18 := Aside0.mk A180
            clear A180
            have H' := Aside0.mk H
            clear H
            try go_wp2
            have n0_ := Aside0.mk (Kd.R_drew HO_4.out)
            have n1_ := Aside0.mk (blk_drew BK437.out)
            have n2_ := Aside0.mk (below_drew1 HB.out)
            clear HO_4
            clear BK437
            clear HB
            have HO_4 := n0_
            have BK437 := n1_
            have HB := n2_
            clear n0_ n1_ n2_
            have p442 : 0 ≤ (x7_2 : Int) := asm_
            have q442 : x7_2 < (t439.length : Int) := asm_
            obtain ⟨ad442, e442, hx442_0, hx442_1⟩ := at_T37 (Kd.R_reads' HO_4.out).2.2 x7_2 p442 q442
            cases e442
            replace p442 := eq_true p442
            replace q442 := eq_true q442
            have p447 : 0 ≤ (x6_1 : Int) := asm_
            have q447 : x6_1 < (t439.length : Int) := asm_
            obtain ⟨ad447, e447, hx447_0, hx447_1⟩ := at_T37 (Kd.R_reads' HO_4.out).2.2 x6_1 p447 q447
            obtain rfl : ad442 = ad447 := (by injection e447)
            replace p447 := eq_true p447
            replace q447 := eq_true q447
            refine start_ (n := 14) (S := fun w' => w'.cell? (ad442.add ((x7_2).toNat * 2)) = some (.int .i8 ((rd_T37 t439 x7_2).f0)) ∧ w'.cell? ⟨(ad442.add ((x7_2).toNat * 2)).block, (ad442.add ((x7_2).toNat * 2)).off + 1, none⟩ = some (.bool ((rd_T37 t439 x7_2).f1)) ∧ w'.cell? (ad442.add ((x6_1).toNat * 2)) = some (.int .i8 ((rd_T37 t439 x6_1).f0)) ∧ w'.cell? ⟨(ad442.add ((x6_1).toNat * 2)).block, (ad442.add ((x6_1).toNat * 2)).off + 1, none⟩ = some (.bool ((rd_T37 t439 x6_1).f1))) (ds := []) #[false, false, false, false, false, false, false, false, false, false, false, false, false, false] (by kernel_rfl) rfl rfl ⟨hx442_0, hx442_1, hx447_0, hx447_1⟩ (fun hHeld => ?_); refine with_tabW spec_LeastDistance.tab11 spec_LeastDistance.bits11 (fun HT_ HW_ => ?_)
            generalize wr.drew = w19 at HO_4 BK437 HB hx442_0 hx442_1 hx447_0 hx447_1 hHeld ⊢
            refine pure_ (i := 0) (N := some 22) (v := ?_) (a' := ?_) #[true, false, false, false, false, false, false, false, false, false, false, false, false, false] rfl rfl (any_of HT_.out (by kernel_rfl)) (fun _ _ _ h => h) (Or.inl ⟨by rfl, ?_⟩) ?_ ?_
            rotate_left
            ·intro w'
             go_simp
             with_reducible rfl
            rotate_left
            ·simp only [Act.put, List.setIfInBounds_toArray, List.set_cons_zero, List.set_cons_succ, i64_w, i32_w]
             rfl
            refine pure_ (i := 1) (N := some 23) (v := ?_) (a' := ?_) #[true, true, false, false, false, false, false, false, false, false, false, false, false, false] rfl rfl (any_of HT_.out (by kernel_rfl)) (fun _ _ _ h => h) (Or.inl ⟨by rfl, ?_⟩) ?_ ?_
            rotate_left
            ·intro w'
             go_simp
             with_reducible rfl
            rotate_left
            ·simp only [Act.put, List.setIfInBounds_toArray, List.set_cons_zero, List.set_cons_succ, i64_w, i32_w]
             rfl
            refine pure_ (i := 2) (N := some 24) (v := ?_) (a' := ?_) #[true, true, true, false, false, false, false, false, false, false, false, false, false, false] rfl rfl (any_of HT_.out (by kernel_rfl)) (fun _ _ _ h => h) (Or.inl ⟨by rfl, ?_⟩) ?_ ?_
            rotate_left
            ·intro w'
             go_simp
             with_reducible rfl
            rotate_left
            ·simp only [Act.put, List.setIfInBounds_toArray, List.set_cons_zero, List.set_cons_succ, i64_w, i32_w]
             rfl
            refine pure_ (i := 3) (N := some 25) (v := ?_) (a' := ?_) #[true, true, true, true, false, false, false, false, false, false, false, false, false, false] rfl rfl (any_of HT_.out (by kernel_rfl)) (fun _ _ _ h => h) (Or.inl ⟨by rfl, ?_⟩) ?_ ?_
            rotate_left
            ·intro w'
             go_simp
             with_reducible rfl
            rotate_left
            ·simp only [Act.put, List.setIfInBounds_toArray, List.set_cons_zero, List.set_cons_succ, i64_w, i32_w]
             rfl
            refine pure_ (i := 6) (N := some 28) (v := ?_) (a' := ?_) #[true, true, true, true, false, false, true, false, false, false, false, false, false, false] rfl rfl (any_of HT_.out (by kernel_rfl)) (fun _ _ _ h => h) (Or.inl ⟨by rfl, ?_⟩) ?_ ?_
            rotate_left
            ·intro w'
             go_simp
             with_reducible rfl
            rotate_left
            ·simp only [Act.put, List.setIfInBounds_toArray, List.set_cons_zero, List.set_cons_succ, i64_w, i32_w]
             rfl
            refine pure_ (i := 7) (N := some 29) (v := ?_) (a' := ?_) #[true, true, true, true, false, false, true, true, false, false, false, false, false, false] rfl rfl (any_of HT_.out (by kernel_rfl)) (fun _ _ _ h => h) (Or.inl ⟨by rfl, ?_⟩) ?_ ?_
            rotate_left
            ·intro w'
             go_simp
             with_reducible rfl
            rotate_left
            ·simp only [Act.put, List.setIfInBounds_toArray, List.set_cons_zero, List.set_cons_succ, i64_w, i32_w]
             rfl
            refine pure_ (i := 8) (N := some 30) (v := ?_) (a' := ?_) #[true, true, true, true, false, false, true, true, true, false, false, false, false, false] rfl rfl (any_of HT_.out (by kernel_rfl)) (fun _ _ _ h => h) (Or.inl ⟨by rfl, ?_⟩) ?_ ?_
            rotate_left
            ·intro w'
             go_simp
             with_reducible rfl
            rotate_left
            ·simp only [Act.put, List.setIfInBounds_toArray, List.set_cons_zero, List.set_cons_succ, i64_w, i32_w]
             rfl
            refine take_ (i := 4) (N := some 26) (v := ?_) (a' := ?_) #[true, true, true, true, true, false, true, true, true, false, false, false, false, false] rfl rfl (take_ofW HT_.out HW_.out (by kernel_rfl)) (fun _ _ _ h => h) (Or.inl ⟨by rfl, ?_⟩) hHeld ?_ ?_
            rotate_left
            ·rintro w' ⟨s0, s1, s2, s3⟩
             go_simp
             with_reducible rfl
            rotate_left
            ·simp only [Act.put, List.setIfInBounds_toArray, List.set_cons_zero, List.set_cons_succ, i64_w, i32_w]
             rfl
            refine take_ (i := 9) (N := some 31) (v := ?_) (a' := ?_) #[true, true, true, true, true, false, true, true, true, true, false, false, false, false] rfl rfl (take_ofW HT_.out HW_.out (by kernel_rfl)) (fun _ _ _ h => h) (Or.inl ⟨by rfl, ?_⟩) hHeld ?_ ?_
            rotate_left
            ·rintro w' ⟨s0, s1, s2, s3⟩
             go_simp
             with_reducible rfl
            rotate_left
            ·simp only [Act.put, List.setIfInBounds_toArray, List.set_cons_zero, List.set_cons_succ, i64_w, i32_w]
             rfl
            refine one_ (i := 5) (N := some 27) #[true, true, true, true, true, true, true, true, true, true, false, false, false, false] rfl rfl (one_of HT_.out (by kernel_rfl)) (by decide) (fun K hK => ?_)
            refine goes_ Try.func31 (by kernel_rfl) rfl #[.pointer (some ⟨gb437, 0, none⟩), .agg #[.int .i8 ((rd_T37 t439 x7_2).f0), .bool ((rd_T37 t439 x7_2).f1)]] (by rfl) rfl rfl (by (try simp only [List.map_toArray, List.map_cons, List.map_nil]); first | done | rfl | (simp only [List.length_drop, List.length_take]; rfl)) ?_
            with_reducible refine (spec_l04Seen.calls k2 gb437 x438000_2 x438001_2 A0_2 c0_2 l0_2 ((rd_T37 t439 x7_2).f0) ((rd_T37 t439 x7_2).f1) t443 t444 t445 t446 _ ?side1 ?side2 ?side3 A13.out).mono ?_
            (case side1 => exact (pl_ BK437))
            (case side2 => repeat (first | exact (Kd.C_below HR0_2.out HB.out) | (with_reducible refine Kd.C_alloc ?_ _) | (with_reducible refine Kd.C_drewN ?_ _) | (with_reducible refine Kd.C_drew ?_)))
            (case side3 => exact HC0_2.out)
            rintro e w20 ⟨rfl, hb⟩
            have HS0_ := (hb.cell (World.block_lt_of_cell? _ _ (hHeld.1))).trans (hHeld.1)
            have HS1_ := (hb.cell (World.block_lt_of_cell? _ _ (hHeld.2.1))).trans (hHeld.2.1)
            have HS2_ := (hb.cell (World.block_lt_of_cell? _ _ (hHeld.2.2.1))).trans (hHeld.2.2.1)
            have HS3_ := (hb.cell (World.block_lt_of_cell? _ _ (hHeld.2.2.2))).trans (hHeld.2.2.2)
            refine ⟨_, rfl, ?_⟩
            have n0_ := Aside0.mk (Kd.R_below (pr_ HO_4) hb)
            have n1_ := Aside0.mk (blk_below (g := gb437) (o := .cells #[.int .i8 x438000_2, .int .i8 x438001_2, .slice A0_2 l0_2.length c0_2] 35 (0, 0)) (pl_ BK437) hb)
            have n2_ := Aside0.mk (below_step (by repeat (first | (with_reducible first | exact HB.out | apply below_alloc | apply pw_below_drewN | apply below_drew1 | refine below_set ?_ GE437.out) | exact HB.out)) hb)
            clear HO_4
            clear BK437
            clear HB
            have HO_4 := n0_
            have BK437 := n1_
            have HB := n2_
            clear n0_ n1_ n2_
            (try clear hb)
            (try clear hb2)
            (try clear hk)
            (try clear hi)
            refine hK.out _ _ ⟨HS0_, HS1_, HS2_, HS3_⟩ (fun hHeld => ?_)
            clear hK K
            refine norm_ (a' := ?_) ?_ ?_
            rotate_left
            ·show Act.put _ (some 27) _ = _
             simp only [Act.put, List.setIfInBounds_toArray, List.set_cons_zero, List.set_cons_succ, i64_w, i32_w]
             rfl
            refine one_ (i := 10) (N := some 32) #[true, true, true, true, true, true, true, true, true, true, true, false, false, false] rfl rfl (one_of HT_.out (by kernel_rfl)) (by decide) (fun K hK => ?_)
            refine goes_ Try.func31 (by kernel_rfl) rfl #[.pointer (some ⟨gb437, 0, none⟩), .agg #[.int .i8 ((rd_T37 t439 x6_1).f0), .bool ((rd_T37 t439 x6_1).f1)]] (by rfl) rfl rfl (by (try simp only [List.map_toArray, List.map_cons, List.map_nil]); first | done | rfl | (simp only [List.length_drop, List.length_take]; rfl)) ?_
            with_reducible refine (spec_l04Seen.calls k2 gb437 x438000_2 x438001_2 A0_2 c0_2 l0_2 ((rd_T37 t439 x6_1).f0) ((rd_T37 t439 x6_1).f1) t448 t449 t450 t451 _ ?side1 ?side2 ?side3 A16.out).mono ?_
            (case side1 => exact (pl_ BK437))
            (case side2 => repeat (first | exact (Kd.C_below HR0_2.out HB.out) | (with_reducible refine Kd.C_alloc ?_ _) | (with_reducible refine Kd.C_drewN ?_ _) | (with_reducible refine Kd.C_drew ?_)))
            (case side3 => exact HC0_2.out)
            rintro e w21 ⟨rfl, hb⟩
            have HS0_ := (hb.cell (World.block_lt_of_cell? _ _ (hHeld.1))).trans (hHeld.1)
            have HS1_ := (hb.cell (World.block_lt_of_cell? _ _ (hHeld.2.1))).trans (hHeld.2.1)
            have HS2_ := (hb.cell (World.block_lt_of_cell? _ _ (hHeld.2.2.1))).trans (hHeld.2.2.1)
            have HS3_ := (hb.cell (World.block_lt_of_cell? _ _ (hHeld.2.2.2))).trans (hHeld.2.2.2)
            refine ⟨_, rfl, ?_⟩
            have n0_ := Aside0.mk (Kd.R_below (pr_ HO_4) hb)
            have n1_ := Aside0.mk (blk_below (g := gb437) (o := .cells #[.int .i8 x438000_2, .int .i8 x438001_2, .slice A0_2 l0_2.length c0_2] 35 (0, 0)) (pl_ BK437) hb)
            have n2_ := Aside0.mk (below_step (by repeat (first | (with_reducible first | exact HB.out | apply below_alloc | apply pw_below_drewN | apply below_drew1 | refine below_set ?_ GE437.out) | exact HB.out)) hb)
            clear HO_4
            clear BK437
            clear HB
            have HO_4 := n0_
            have BK437 := n1_
            have HB := n2_
            clear n0_ n1_ n2_
            (try clear hb)
            (try clear hb2)
            (try clear hk)
            (try clear hi)
            refine hK.out _ _ ⟨HS0_, HS1_, HS2_, HS3_⟩ (fun hHeld => ?_)
            clear hK K
            refine norm_ (a' := ?_) ?_ ?_
            rotate_left
            ·show Act.put _ (some 32) _ = _
             simp only [Act.put, List.setIfInBounds_toArray, List.set_cons_zero, List.set_cons_succ, i64_w, i32_w]
             rfl
            refine one_ (i := 11) (N := some 33) #[true, true, true, true, true, true, true, true, true, true, true, true, false, false] rfl rfl (one_of HT_.out (by kernel_rfl)) (by decide) (fun K hK => ?_)
            refine goes_ Try.func45 (by kernel_rfl) rfl #[.agg #[.int .i8 t443, .int .i8 t444, .int .i8 t445, .int .i8 t446], .agg #[.int .i8 t448, .int .i8 t449, .int .i8 t450, .int .i8 t451]] (by rfl) rfl rfl (by (try simp only [List.map_toArray, List.map_cons, List.map_nil]); first | done | rfl | (simp only [List.length_drop, List.length_take]; rfl)) ?_
            with_reducible refine (spec_l04Distance.calls k2 t443 t444 t445 t446 t448 t449 t450 t451 t452 _ A17.out).mono ?_
            rintro e w22 ⟨rfl, hb⟩
            have HS0_ := (hb.cell (World.block_lt_of_cell? _ _ (hHeld.1))).trans (hHeld.1)
            have HS1_ := (hb.cell (World.block_lt_of_cell? _ _ (hHeld.2.1))).trans (hHeld.2.1)
            have HS2_ := (hb.cell (World.block_lt_of_cell? _ _ (hHeld.2.2.1))).trans (hHeld.2.2.1)
            have HS3_ := (hb.cell (World.block_lt_of_cell? _ _ (hHeld.2.2.2))).trans (hHeld.2.2.2)
            refine ⟨_, rfl, ?_⟩
            have n0_ := Aside0.mk (Kd.R_below (pr_ HO_4) hb)
            have n1_ := Aside0.mk (blk_below (g := gb437) (o := .cells #[.int .i8 x438000_2, .int .i8 x438001_2, .slice A0_2 l0_2.length c0_2] 35 (0, 0)) (pl_ BK437) hb)
            have n2_ := Aside0.mk (below_step (by repeat (first | (with_reducible first | exact HB.out | apply below_alloc | apply pw_below_drewN | apply below_drew1 | refine below_set ?_ GE437.out) | exact HB.out)) hb)
            clear HO_4
            clear BK437
            clear HB
            have HO_4 := n0_
            have BK437 := n1_
            have HB := n2_
            clear n0_ n1_ n2_
            (try clear hb)
            (try clear hb2)
            (try clear hk)
            (try clear hi)
            refine hK.out _ _ ⟨HS0_, HS1_, HS2_, HS3_⟩ (fun hHeld => ?_)
            clear hK K
            refine norm_ (a' := ?_) ?_ ?_
            rotate_left
            ·show Act.put _ (some 33) _ = _
             simp only [Act.put, List.setIfInBounds_toArray, List.set_cons_zero, List.set_cons_succ, i64_w, i32_w]
             rfl
            refine one_ (i := 12) (N := some 34) #[true, true, true, true, true, true, true, true, true, true, true, true, true, false] rfl rfl (one_of HT_.out (by kernel_rfl)) (by decide) (fun K hK => ?_)
            refine goes_ Try.func44 (by kernel_rfl) rfl #[.int .i64 x5_2, .int .i64 t452] (by rfl) rfl rfl (by (try simp only [List.map_toArray, List.map_cons, List.map_nil]); first | done | rfl | (simp only [List.length_drop, List.length_take]; rfl)) ?_
            with_reducible refine (spec_l00Min.calls x5_2 t452 t453 _ A18.out).mono ?_
            rintro e w' ⟨rfl, ⟨nd, rfl⟩⟩
            refine ⟨_, rfl, ?_⟩
            refine hK.out _ _ ⟨hHeld.1, hHeld.2.1, hHeld.2.2.1, hHeld.2.2.2⟩ (fun hHeld => ?_)
            clear hK K
            refine norm_ (a' := ?_) ?_ ?_
            rotate_left
            ·show Act.put _ (some 34) _ = _
             simp only [Act.put, List.setIfInBounds_toArray, List.set_cons_zero, List.set_cons_succ, i64_w, i32_w]
             rfl
            refine pure_ (i := 13) (N := some 5) (v := ?_) (a' := ?_) #[true, true, true, true, true, true, true, true, true, true, true, true, true, true] rfl rfl (any_of HT_.out (by kernel_rfl)) (fun _ _ _ h => h) (Or.inl ⟨by rfl, ?_⟩) ?_ ?_
            rotate_left
            ·intro w'
             go_simp
             with_reducible rfl
            rotate_left
            ·simp only [Act.put, List.setIfInBounds_toArray, List.set_cons_zero, List.set_cons_succ, i64_w, i32_w]
             rfl
            refine done_ (done_of HT_.out (by kernel_rfl)) ?_
            try go_wp2
            go_roundg k2
            case measure => have := HK1.out; have := HK2.out; omega
            case rel => exact ⟨(t453), (wrap64 (x7_2 + 1)), (x438000_2), (x438001_2), (by first | rfl | (simp; done) | (simp [*]; done)), (by first | rfl | (simp; done) | (simp [*]; done)), H', ⟨by have := HK1.out; have := HK2.out; omega⟩, ⟨pr_ HO_4⟩, ⟨pl_ BK437⟩, ⟨by repeat (first | (with_reducible first | exact HB.out | apply below_alloc | apply pw_below_drewN | apply below_drew1 | refine below_set ?_ GE437.out) | exact HB.out)⟩⟩
           ·rw [if_neg c15] at H
            exact absurd H (by simp)
          ·rw [if_neg c14] at H
           exact absurd H (by simp)
         ·rw [if_neg c12] at H
          exact absurd H (by simp)
        ·rw [if_neg c11] at H
         exact absurd H (by simp)
       ·rw [if_neg c10] at H
        have c10b0 : decide (x7_2 < x6_1) = false := decide_eq_false c10
        clear c10
        have H' := Aside0.mk H
        clear H
        go_wp2
        go_roundg k2
        case measure => have := HK1.out; have := HK2.out; omega
        case rel => exact ⟨(x5_2), (wrap64 (x6_1 + 1)), (x438000_2), (x438001_2), (by first | rfl | (simp; done) | (simp [*]; done)), (by first | rfl | (simp; done) | (simp [*]; done)), H', ⟨by have := HK1.out; have := HK2.out; omega⟩, ⟨pr_ HO_4⟩, ⟨pl_ BK437⟩, ⟨by repeat (first | (with_reducible first | exact HB.out | apply below_alloc | apply pw_below_drewN | apply below_drew1 | refine below_set ?_ GE437.out) | exact HB.out)⟩⟩
    ·rw [if_neg c8] at H
     have c8b0 : decide (x6_1 < (t439.length : Int)) = false := decide_eq_false c8
     clear c8
     simp only [Option.some.injEq, Prod.mk.injEq] at H
     obtain ⟨rfl, rfl⟩ := H
     obtain ⟨Ao23, co23, eo23⟩ := Kd.R_slice HO_4.out
     subst eo23
     go_wp2
     go_ret2
     exact ⟨by first | rfl | (simp [errW_none, errW_some] <;> rfl) | (simp [*, errW_none, errW_some] <;> rfl), by repeat (first | (with_reducible first | exact HB.out | apply below_alloc | apply pw_below_drewN | apply below_drew1 | refine below_set ?_ GE437.out) | exact HB.out)⟩
 ·replace c3 := Bool.eq_false_iff.mpr c3
  subst c3
  have H1 : (some (0, 1)) = some (r1, r2) := by rw [if_neg (show ¬ (false = true) by decide)] at H; exact H
  clear H
  have H := H1
  clear H1
  simp only [Option.some.injEq, Prod.mk.injEq] at H
  obtain ⟨rfl, rfl⟩ := H
  go_enter Try.func24, Try.ntmps24
  go_wp2_with (first | ((with_reducible refine gate_dst (N := 1) rfl ?_); refine box_event ?hg (N := 1) ?hd (cs := #[.int .i8 a0_0, .int .i8 a0_1, .slice A0_2 l0_2.length c0_2]) (t := 35) ?hr ?_; (case hd => rfl); (case hg => rfl); (case hr => first | (go_simp; done) | (go_simp; rfl)); intro gb437 hg w24 hbox hb; have n0_ := Aside0.mk (below_step (bl_ HB) hb); have n1_ := Aside0.mk (hbox); have n2_ := Aside0.mk ((by rw [hg]; exact (below_size (bl_ HB)) : w.heap.size ≤ gb437)); have n3_ := Aside0.mk ((by rw [hg]; exact (below_size (bl_ HB)) : w.heap.size ≤ gb437)); clear HB; have HB := n0_; have BK437 := n1_; have GW437 := n2_; have GE437 := n3_; clear n0_ n1_ n2_ n3_; clear hb hbox hg) | ((with_reducible refine gate_callee (f := 29) rfl ?_); refine goesL_ (some 8) rfl rfl Try.func29 (by kernel_rfl) rfl #[.pointer (some ⟨gb437, 0, none⟩)] rfl (by (try simp only [List.map_toArray, List.map_cons, List.map_nil]); first | done | rfl | (simp only [List.length_drop, List.length_take]; rfl)) ?_; (with_reducible refine (spec_l04Ok.calls k gb437 a0_0 a0_1 A0_2 c0_2 l0_2 false _ ?side1 ?side2 ?side3 A2.out).mono ?_); (case side1 => exact (pl_ BK437)); (case side2 => repeat (first | exact (Kd.C_below HR0_2.out HB.out) | (with_reducible refine Kd.C_alloc ?_ _) | (with_reducible refine Kd.C_drewN ?_ _) | (with_reducible refine Kd.C_drew ?_))); (case side3 => exact HC0_2.out); rintro e w25 ⟨rfl, hb⟩; refine ⟨_, rfl, ?_⟩; have n0_ := Aside0.mk (blk_below (g := gb437) (o := .cells #[.int .i8 a0_0, .int .i8 a0_1, .slice A0_2 l0_2.length c0_2] 35 (0, 0)) (pl_ BK437) hb); have n1_ := Aside0.mk (below_step (by repeat (first | (with_reducible first | exact HB.out | apply below_alloc | apply pw_below_drewN | apply below_drew1 | refine below_set ?_ GE437.out) | exact HB.out)) hb); clear BK437; clear HB; have BK437 := n0_; have HB := n1_; clear n0_ n1_; (try clear hb); (try clear hb2); (try clear hk); (try clear hi)))
  go_ret2
  exact ⟨by first | rfl | (simp [errW_none, errW_some] <;> rfl) | (simp [*, errW_none, errW_some] <;> rfl), by repeat (first | (with_reducible first | exact HB.out | apply below_alloc | apply pw_below_drewN | apply below_drew1 | refine below_set ?_ GE437.out) | exact HB.out)⟩

end Go.Proofs.Ytkllpdekkhhhnaa.M
