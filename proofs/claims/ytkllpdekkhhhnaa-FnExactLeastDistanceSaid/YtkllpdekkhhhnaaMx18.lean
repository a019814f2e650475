-- By this seat's own program over the kit's printer (arrays, functions told by hand); nothing of it is trusted: the kernel checks it.
import Derived.Test.YtkllpdekkhhhnaaMx0
import Derived.Test.YtkllpdekkhhhnaaMx1
import Derived.Test.YtkllpdekkhhhnaaMx10
import Derived.Test.YtkllpdekkhhhnaaMx12
namespace Go.Proofs.Ytkllpdekkhhhnaa.M
open Go.RowKit Go.Proofs.YtkllpdekkhhhnaaW.PrintWords Go.Proofs.YtkllpdekkhhhnaaW.PrintLast Go.Proofs.YtkllpdekkhhhnaaW.PrintMore
attribute [local go_sem] max2_int min2_int max_two min_two max_three min_three max_four min_four   -- for this text's walks alone
set_option linter.unusedVariables false
set_option linter.unusedSimpArgs false

attribute [local go_sem high] eqA30
/-! ### spec_l04Confused: function 38 -/
mutual
def spec_l04Confused.l0 : Nat → List (S37) → Int → Int → Int → List (S30) → Option (Int × Bool × Int × Bool × Bool)
 | 0, _, _, _, _, _ => none
 | k + 1, x5, x6, x171000, x171001, x171002 => if x6 < (x5.length : Int) then (spec_l04Confused.l1 k x5 x6 0 x171000 x171001 x171002) else (some (0, false, 0, false, false))
def spec_l04Confused.l1 : Nat → List (S37) → Int → Int → Int → Int → List (S30) → Option (Int × Bool × Int × Bool × Bool)
 | 0, _, _, _, _, _, _ => none
 | k + 1, x5, x6, x7, x171000, x171001, x171002 => if x7 < x6 then (if 0 ≤ x7 then (if x7 < (x5.length : Int) then ((spec_l04Seen.f k x171000 x171001 x171002 ((rd_T37 x5 x7).f0) ((rd_T37 x5 x7).f1)).bind fun bt177 => (if 0 ≤ x6 then (if x6 < (x5.length : Int) then ((spec_l04Seen.f k x171000 x171001 x171002 ((rd_T37 x5 x6).f0) ((rd_T37 x5 x6).f1)).bind fun bt182 => (if (bt177.1 == bt182.1 && (bt177.2.1 == bt182.2.1 && (bt177.2.2.1 == bt182.2.2.1 && (bt177.2.2.2 == bt182.2.2.2)))) = true then (some ((rd_T37 x5 x7).f0, (rd_T37 x5 x7).f1, (rd_T37 x5 x6).f0, (rd_T37 x5 x6).f1, true)) else (spec_l04Confused.l1 k x5 x6 (wrap64 (x7 + 1)) x171000 x171001 x171002))) else (none)) else (none))) else (none)) else (none)) else (spec_l04Confused.l0 k x5 (wrap64 (x6 + 1)) x171000 x171001 x171002)
end
def spec_l04Confused.f (k : Nat) (a0_0 : Int) (a0_1 : Int) (l0_2 : List (S30)) : Option (Int × Bool × Int × Bool × Bool) := (spec_l04Cases.f k a0_0 a0_1 l0_2).bind fun t173 => (spec_l04Confused.l0 k t173 1 a0_0 a0_1 l0_2)
theorem spec_l04Confused.mono_l : ∀ k, (∀ y0 y1 y2 y3 y4, LeO (spec_l04Confused.l0 k y0 y1 y2 y3 y4) (spec_l04Confused.l0 (k + 1) y0 y1 y2 y3 y4)) ∧ (∀ y0 y1 y2 y3 y4 y5, LeO (spec_l04Confused.l1 k y0 y1 y2 y3 y4 y5) (spec_l04Confused.l1 (k + 1) y0 y1 y2 y3 y4 y5))
 | 0 => ⟨fun _ _ _ _ _ r h => by simp [spec_l04Confused.l0] at h, fun _ _ _ _ _ _ r h => by simp [spec_l04Confused.l1] at h⟩
 | k + 1 => by
  obtain ⟨ih0, ih1⟩ := spec_l04Confused.mono_l k
  refine ⟨?_, ?_⟩
  ·intro y0 y1 y2 y3 y4
   unfold spec_l04Confused.l0
   repeat' first
   | (with_reducible exact ih0 _ _ _ _ _)
   | (with_reducible exact ih1 _ _ _ _ _ _)
   | (with_reducible exact spec_l04Cases.mono _ _ _ _)
   | (with_reducible exact spec_l04Seen.mono _ _ _ _ _ _)
   | (with_reducible exact LeO.refl _)
   | (with_reducible exact LeO.none _)
   | (with_reducible refine LeO.ite ?_ ?_)
   | (with_reducible refine LeO.bind ?_ (fun _ => ?_))
   | exact ih0 _ _ _ _ _
   | exact ih1 _ _ _ _ _ _
   | exact spec_l04Cases.mono _ _ _ _
   | exact spec_l04Seen.mono _ _ _ _ _ _
   | exact LeO.none _
   | refine LeO.ite ?_ ?_
   | refine LeO.bind ?_ (fun _ => ?_)
  ·intro y0 y1 y2 y3 y4 y5
   unfold spec_l04Confused.l1
   repeat' first
   | (with_reducible exact ih0 _ _ _ _ _)
   | (with_reducible exact ih1 _ _ _ _ _ _)
   | (with_reducible exact spec_l04Cases.mono _ _ _ _)
   | (with_reducible exact spec_l04Seen.mono _ _ _ _ _ _)
   | (with_reducible exact LeO.refl _)
   | (with_reducible exact LeO.none _)
   | (with_reducible refine LeO.ite ?_ ?_)
   | (with_reducible refine LeO.bind ?_ (fun _ => ?_))
   | exact ih0 _ _ _ _ _
   | exact ih1 _ _ _ _ _ _
   | exact spec_l04Cases.mono _ _ _ _
   | exact spec_l04Seen.mono _ _ _ _ _ _
   | exact LeO.none _
   | refine LeO.ite ?_ ?_
   | refine LeO.bind ?_ (fun _ => ?_)
theorem spec_l04Confused.mono : ∀ a0 a1 a2 k, LeO (spec_l04Confused.f k a0 a1 a2) (spec_l04Confused.f (k + 1) a0 a1 a2) := by
 intro a0 a1 a2 k
 obtain ⟨ih0, ih1⟩ := spec_l04Confused.mono_l k
 unfold spec_l04Confused.f
 repeat' first
   | (with_reducible exact ih0 _ _ _ _ _)
   | (with_reducible exact ih1 _ _ _ _ _ _)
   | (with_reducible exact spec_l04Cases.mono _ _ _ _)
   | (with_reducible exact spec_l04Seen.mono _ _ _ _ _ _)
   | (with_reducible exact LeO.refl _)
   | (with_reducible exact LeO.none _)
   | (with_reducible refine LeO.ite ?_ ?_)
   | (with_reducible refine LeO.bind ?_ (fun _ => ?_))
   | exact ih0 _ _ _ _ _
   | exact ih1 _ _ _ _ _ _
   | exact spec_l04Cases.mono _ _ _ _
   | exact spec_l04Seen.mono _ _ _ _ _ _
   | exact LeO.none _
   | refine LeO.ite ?_ ?_
   | refine LeO.bind ?_ (fun _ => ?_)
def spec_l04Confused.T8 : Bool × List (List Nat × List Nat) := (true, [([], []), ([], []), ([], []), ([1, 2], [1, 2]), ([3], [3]), ([0, 4], [0, 4]), ([], []), ([], []), ([], []), ([7, 8], [7, 8]), ([9], [9]), ([6, 10, 5], [6, 10]), ([5, 11], [5, 11])])
def spec_l04Confused.B8 : List Nat := [0, 0, 0, 6, 14, 31, 0, 0, 0, 384, 896, 2047, 4095]
theorem spec_l04Confused.tab8 : rtab .any (opsOf Try.f38 8) = spec_l04Confused.T8 := by kernel_rfl
theorem spec_l04Confused.bits8 : waitsOk spec_l04Confused.T8.2 spec_l04Confused.B8 = true := by kernel_rfl
def spec_l04Confused.T9 : Bool × List (List Nat × List Nat) := (true, [([], []), ([], []), ([0, 1], [0, 1]), ([2], [2]), ([], []), ([], []), ([4, 5], [4, 5]), ([6], [6]), ([3, 0, 1, 2, 3], [3]), ([7, 8, 0, 1, 2, 3, 4, 5, 6, 7, 8], [7]), ([9, 0, 1, 2, 3, 4, 5, 6, 7, 8, 9], [])])
def spec_l04Confused.B9 : List Nat := [0, 0, 3, 7, 0, 0, 48, 112, 15, 511, 1023]
theorem spec_l04Confused.tab9 : rtab .any (opsOf Try.f38 9) = spec_l04Confused.T9 := by kernel_rfl
theorem spec_l04Confused.bits9 : waitsOk spec_l04Confused.T9.2 spec_l04Confused.B9 = true := by kernel_rfl
set_option maxHeartbeats 8000000 in
set_option maxRecDepth 100000 in
theorem spec_l04Confused.calls (k : Nat) (gp0 : Nat) (a0_0 : Int) (a0_1 : Int) (A0_2 : Option Addr) (c0_2 : Nat) (l0_2 : List (S30)) (r1 : Int) (r2 : Bool) (r3 : Int) (r4 : Bool) (r5 : Bool) (w : World) (hb0 : w.heap[gp0]? = some (.cells #[.int .i8 a0_0, .int .i8 a0_1, .slice A0_2 l0_2.length c0_2] 35 (0, 0))) (hr0_2 : Kd.C k30 w A0_2 l0_2.length l0_2) (hc0_2 : l0_2.length ≤ c0_2) (h : spec_l04Confused.f k a0_0 a0_1 l0_2 = some (r1, r2, r3, r4, r5)) :
  Calls Try.prog 38 #[.pointer (some ⟨gp0, 0, none⟩)] w fun e w' => e = .returned (.tuple #[.agg #[.int .i8 r1, .bool r2], .agg #[.int .i8 r3, .bool r4], .bool r5]) ∧ Below w.heap.size w w' := by
 have hu37 := Try.underlying37
 have HR0_2 := Aside0.mk hr0_2
 have HC0_2 := Aside0.mk hc0_2
 clear hr0_2 hc0_2
 have BK170 := Aside0.mk hb0
 clear hb0
 have HB := Aside0.mk (Below.refl w.heap.size w)
 have H : ((spec_l04Cases.f k a0_0 a0_1 l0_2).bind fun t173 => (spec_l04Confused.l0 k t173 1 a0_0 a0_1 l0_2)) = some (r1, r2, r3, r4, r5) := h
 clear h
 replace H := Option.bind_eq_some_iff.mp H
 obtain ⟨t173, A20, H⟩ := H
 replace H : (spec_l04Confused.l0 k t173 1 a0_0 a0_1 l0_2) = some (r1, r2, r3, r4, r5) := H
 have A2 := Aside0.mk A20
 clear A20
 have H' := Aside0.mk H
 clear H
 go_enter Try.func38, Try.ntmps38
 go_wp2_with (first | ((with_reducible refine gate_dst (N := 2) rfl ?_); refine box_event ?hg (N := 2) ?hd (cs := #[.int .i8 0, .bool false]) (t := 37) ?hr ?_; (case hd => rfl); (case hg => rfl); (case hr => first | (go_simp; done) | (go_simp; rfl)); intro gb171 hg w3 hbox hb; have n0_ := Aside0.mk (blk_below (g := gp0) (o := .cells #[.int .i8 a0_0, .int .i8 a0_1, .slice A0_2 l0_2.length c0_2] 35 (0, 0)) (pl_ BK170) hb); have n1_ := Aside0.mk (below_step (by repeat (first | (with_reducible first | exact HB.out | apply below_alloc | apply pw_below_drewN | apply below_drew1 | refine below_set ?_ GE170.out) | exact HB.out)) hb); have n2_ := Aside0.mk (hbox); have n3_ := Aside0.mk ((by rw [hg]; exact (below_size (by repeat (first | (with_reducible first | exact HB.out | apply below_alloc | apply pw_below_drewN | apply below_drew1 | refine below_set ?_ GE170.out) | exact HB.out))) : w.heap.size ≤ gb171)); have n4_ := Aside0.mk ((by rw [hg]; exact (below_size (by repeat (first | (with_reducible first | exact HB.out | apply below_alloc | apply pw_below_drewN | apply below_drew1 | refine below_set ?_ GE170.out) | exact HB.out))) : w.heap.size ≤ gb171)); have n5_ := Aside0.mk ((by rw [hg]; exact Nat.ne_of_lt (blk_lt (g := gp0) (o := .cells #[.int .i8 a0_0, .int .i8 a0_1, .slice A0_2 l0_2.length c0_2] 35 (0, 0)) (pl_ BK170)) : gp0 ≠ gb171)); have n6_ := Aside0.mk ((by rw [hg]; exact Nat.ne_of_gt (blk_lt (g := gp0) (o := .cells #[.int .i8 a0_0, .int .i8 a0_1, .slice A0_2 l0_2.length c0_2] 35 (0, 0)) (pl_ BK170)) : gb171 ≠ gp0)); clear BK170; clear HB; have BK170 := n0_; have HB := n1_; have BK171 := n2_; have GW171 := n3_; have GE171 := n4_; have NB170_171 := n5_; have NB171_170 := n6_; clear n0_ n1_ n2_ n3_ n4_ n5_ n6_; clear hb hbox hg) | ((with_reducible refine gate_dst (N := 3) rfl ?_); refine box_event ?hg (N := 3) ?hd (cs := #[.int .i8 0, .bool false]) (t := 37) ?hr ?_; (case hd => rfl); (case hg => rfl); (case hr => first | (go_simp; done) | (go_simp; rfl)); intro gb172 hg w4 hbox hb; have n0_ := Aside0.mk (blk_below (g := gp0) (o := .cells #[.int .i8 a0_0, .int .i8 a0_1, .slice A0_2 l0_2.length c0_2] 35 (0, 0)) (pl_ BK170) hb); have n1_ := Aside0.mk (blk_below (g := gb171) (o := .cells #[.int .i8 0, .bool false] 37 (0, 0)) (pl_ BK171) hb); have n2_ := Aside0.mk (below_step (by repeat (first | (with_reducible first | exact HB.out | apply below_alloc | apply pw_below_drewN | apply below_drew1 | refine below_set ?_ GE170.out | refine below_set ?_ GE171.out) | exact HB.out)) hb); have n3_ := Aside0.mk (hbox); have n4_ := Aside0.mk ((by rw [hg]; exact (below_size (by repeat (first | (with_reducible first | exact HB.out | apply below_alloc | apply pw_below_drewN | apply below_drew1 | refine below_set ?_ GE170.out | refine below_set ?_ GE171.out) | exact HB.out))) : w.heap.size ≤ gb172)); have n5_ := Aside0.mk ((by rw [hg]; exact (below_size (by repeat (first | (with_reducible first | exact HB.out | apply below_alloc | apply pw_below_drewN | apply below_drew1 | refine below_set ?_ GE170.out | refine below_set ?_ GE171.out) | exact HB.out))) : w.heap.size ≤ gb172)); have n6_ := Aside0.mk ((by rw [hg]; exact Nat.ne_of_lt (blk_lt (g := gp0) (o := .cells #[.int .i8 a0_0, .int .i8 a0_1, .slice A0_2 l0_2.length c0_2] 35 (0, 0)) (pl_ BK170)) : gp0 ≠ gb172)); have n7_ := Aside0.mk ((by rw [hg]; exact Nat.ne_of_gt (blk_lt (g := gp0) (o := .cells #[.int .i8 a0_0, .int .i8 a0_1, .slice A0_2 l0_2.length c0_2] 35 (0, 0)) (pl_ BK170)) : gb172 ≠ gp0)); have n8_ := Aside0.mk ((by rw [hg]; exact Nat.ne_of_lt (blk_lt (g := gb171) (o := .cells #[.int .i8 0, .bool false] 37 (0, 0)) (pl_ BK171)) : gb171 ≠ gb172)); have n9_ := Aside0.mk ((by rw [hg]; exact Nat.ne_of_gt (blk_lt (g := gb171) (o := .cells #[.int .i8 0, .bool false] 37 (0, 0)) (pl_ BK171)) : gb172 ≠ gb171)); clear BK170; clear BK171; clear HB; have BK170 := n0_; have BK171 := n1_; have HB := n2_; have BK172 := n3_; have GW172 := n4_; have GE172 := n5_; have NB170_172 := n6_; have NB172_170 := n7_; have NB171_172 := n8_; have NB172_171 := n9_; clear n0_ n1_ n2_ n3_ n4_ n5_ n6_ n7_ n8_ n9_; clear hb hbox hg) | ((with_reducible refine gate_callee (f := 43) rfl ?_); refine goesL_ (some 9) rfl rfl Try.func43 (by kernel_rfl) rfl #[.pointer (some ⟨gp0, 0, none⟩)] rfl (by (try simp only [List.map_toArray, List.map_cons, List.map_nil]); first | done | rfl | (simp only [List.length_drop, List.length_take]; rfl)) ?_; (with_reducible refine (spec_l04Cases.calls k gp0 a0_0 a0_1 A0_2 c0_2 l0_2 t173 _ ?side1 ?side2 ?side3 A2.out).mono ?_); (case side1 => exact (pl_ BK170)); (case side2 => repeat (first | exact (Kd.C_below HR0_2.out HB.out) | (with_reducible refine Kd.C_alloc ?_ _) | (with_reducible refine Kd.C_drewN ?_ _) | (with_reducible refine Kd.C_drew ?_))); (case side3 => exact HC0_2.out); rintro e w5 ⟨v174, rfl, ho0, hb⟩; refine ⟨_, rfl, ?_⟩; have n0_ := Aside0.mk (Kd.R_lower (Kd.R_newB (Kd.R_newB ho0 (g := gb171) (o := .cells #[.int .i8 0, .bool false] 37 (0, 0)) (pl_ BK171)) (g := gb172) (o := .cells #[.int .i8 0, .bool false] 37 (0, 0)) (pl_ BK172)) (below_size (by repeat (first | (with_reducible first | exact HB.out | apply below_alloc | apply pw_below_drewN | apply below_drew1 | refine below_set ?_ GE170.out | refine below_set ?_ GE171.out | refine below_set ?_ GE172.out) | exact HB.out)))); have n1_ := Aside0.mk (blk_below (g := gp0) (o := .cells #[.int .i8 a0_0, .int .i8 a0_1, .slice A0_2 l0_2.length c0_2] 35 (0, 0)) (pl_ BK170) hb); have n2_ := Aside0.mk (blk_below (g := gb171) (o := .cells #[.int .i8 0, .bool false] 37 (0, 0)) (pl_ BK171) hb); have n3_ := Aside0.mk (blk_below (g := gb172) (o := .cells #[.int .i8 0, .bool false] 37 (0, 0)) (pl_ BK172) hb); have n4_ := Aside0.mk (below_step (by repeat (first | (with_reducible first | exact HB.out | apply below_alloc | apply pw_below_drewN | apply below_drew1 | refine below_set ?_ GE170.out | refine below_set ?_ GE171.out | refine below_set ?_ GE172.out) | exact HB.out)) hb); clear BK170; clear BK171; clear BK172; clear HB; have HO175 := n0_; have BK170 := n1_; have BK171 := n2_; have BK172 := n3_; have HB := n4_; clear n0_ n1_ n2_ n3_ n4_; (try clear hb); (try clear hb2); (try clear hk); (try clear hi); (try clear ho0)))
 go_loopg [6] k (fun kq v6 w' => ∃ (x6_1 : Int) (x171000_1 : Int) (x171001_1 : Int) (x172000_1 : Int) (x172001_1 : Bool) (x173000_1 : Int) (x173001_1 : Bool), v6 = .int .i64 x6_1 ∧ Aside0 (spec_l04Confused.l0 kq t173 x6_1 x171000_1 x171001_1 l0_2 = some (r1, r2, r3, r4, r5)) ∧ Aside0 (kq ≤ k) ∧ Aside0 (Kd.R k37 37 w' w.heap.size (fun k_ => k_ ≠ gb171 ∧ k_ ≠ gb172) v174 t173) ∧ Aside0 (w'.heap[gp0]? = some (.cells #[.int .i8 x171000_1, .int .i8 x171001_1, (.slice A0_2 l0_2.length c0_2)] 35 (0, 0))) ∧ Aside0 (w'.heap[gb171]? = some (.cells #[.int .i8 x172000_1, .bool x172001_1] 37 (0, 0))) ∧ Aside0 (w'.heap[gb172]? = some (.cells #[.int .i8 x173000_1, .bool x173001_1] 37 (0, 0))) ∧ Aside0 (Below w.heap.size w w'))
 case atStart => exact ⟨(1), (a0_0), (a0_1), (0), (false), (0), (false), (by first | rfl | (simp; done) | (simp [*]; done)), H', ⟨Nat.le_refl _⟩, ⟨by (with_reducible repeat (first | apply Kd.R_alloc | apply Kd.R_drewN | apply Kd.R_drew)); exact Kd.R_mono HO175.out (fun _ hk => ⟨hk.1.2, hk.2⟩)⟩, ⟨pl_ BK170⟩, ⟨pl_ BK171⟩, ⟨pl_ BK172⟩, ⟨by repeat (first | (with_reducible first | exact HB.out | apply below_alloc | apply pw_below_drewN | apply below_drew1 | refine below_set ?_ GE170.out | refine below_set ?_ GE171.out | refine below_set ?_ GE172.out) | exact HB.out)⟩⟩
 case round =>
  clear H'
  try clear p2
  try clear c3
  try clear c4
  obtain ⟨x6_1, x171000_1, x171001_1, x172000_1, x172001_1, x173000_1, x173001_1, rfl, HA, HK1, HO_5, BK170, BK171, BK172, HB⟩ := hrel
  cases gk with
  | zero => exact absurd HA.out (by simp [spec_l04Confused.l0])
  | succ k1 =>
   have H := HA.out
   clear HA
   simp only [spec_l04Confused.l0] at H
   by_cases c6 : x6_1 < (t173.length : Int)
   ·rw [if_pos c6] at H
    have c6b0 : decide (x6_1 < (t173.length : Int)) = true := decide_eq_true c6
    clear c6
    have H' := Aside0.mk H
    clear H
    obtain ⟨Ao7, co7, eo7⟩ := Kd.R_slice HO_5.out
    subst eo7
    go_wp2
    go_loopg [7] k1 (fun kq v7 w' => ∃ (x7_2 : Int) (x171000_2 : Int) (x171001_2 : Int) (x172000_2 : Int) (x172001_2 : Bool) (x173000_2 : Int) (x173001_2 : Bool), v7 = .int .i64 x7_2 ∧ Aside0 (spec_l04Confused.l1 kq t173 x6_1 x7_2 x171000_2 x171001_2 l0_2 = some (r1, r2, r3, r4, r5)) ∧ Aside0 (kq ≤ k1) ∧ Aside0 (Kd.R k37 37 w' w.heap.size (fun k_ => k_ ≠ gb171 ∧ k_ ≠ gb172) (.slice Ao7 t173.length co7) t173) ∧ Aside0 (w'.heap[gp0]? = some (.cells #[.int .i8 x171000_2, .int .i8 x171001_2, (.slice A0_2 l0_2.length c0_2)] 35 (0, 0))) ∧ Aside0 (w'.heap[gb171]? = some (.cells #[.int .i8 x172000_2, .bool x172001_2] 37 (0, 0))) ∧ Aside0 (w'.heap[gb172]? = some (.cells #[.int .i8 x173000_2, .bool x173001_2] 37 (0, 0))) ∧ Aside0 (Below w.heap.size w w'))
    case atStart => exact ⟨(0), (x171000_1), (x171001_1), (x172000_1), (x172001_1), (x173000_1), (x173001_1), (by first | rfl | (simp; done) | (simp [*]; done)), H', ⟨Nat.le_refl _⟩, ⟨pr_ HO_5⟩, ⟨pl_ BK170⟩, ⟨pl_ BK171⟩, ⟨pl_ BK172⟩, ⟨by repeat (first | (with_reducible first | exact HB.out | apply below_alloc | apply pw_below_drewN | apply below_drew1 | refine below_set ?_ GE170.out | refine below_set ?_ GE171.out | refine below_set ?_ GE172.out) | exact HB.out)⟩⟩
    case round =>
     clear H'
     try clear p2
     try clear c3
     try clear c4
     try clear c6
     try clear c6b0
     try clear p2
     obtain ⟨x7_2, x171000_2, x171001_2, x172000_2, x172001_2, x173000_2, x173001_2, rfl, HA, HK2, HO_5, BK170, BK171, BK172, HB⟩ := hrel
     cases gk with
     | zero => exact absurd HA.out (by simp [spec_l04Confused.l1])
     | succ k2 =>
      have H := HA.out
      clear HA
      simp only [spec_l04Confused.l1] at H
      by_cases c8 : x7_2 < x6_1
      ·rw [if_pos c8] at H
       have c8b0 : decide (x7_2 < x6_1) = true := decide_eq_true c8
       clear c8
       by_cases c9 : 0 ≤ x7_2
       ·rw [if_pos c9] at H
        have c9b0 : decide (0 ≤ x7_2) = true := decide_eq_true c9
        clear c9
        by_cases c10 : x7_2 < (t173.length : Int)
        ·rw [if_pos c10] at H
         have c10b0 : decide (x7_2 < (t173.length : Int)) = true := decide_eq_true c10
         clear c10
         replace H := Option.bind_eq_some_iff.mp H
         obtain ⟨⟨t177, t178, t179, t180⟩, A110, H⟩ := H
         replace H : (if 0 ≤ x6_1 then (if x6_1 < (t173.length : Int) then ((spec_l04Seen.f k2 x171000_2 x171001_2 l0_2 ((rd_T37 t173 x6_1).f0) ((rd_T37 t173 x6_1).f1)).bind fun bt182 => (if (t177 == bt182.1 && (t178 == bt182.2.1 && (t179 == bt182.2.2.1 && (t180 == bt182.2.2.2)))) = true then (some ((rd_T37 t173 x7_2).f0, (rd_T37 t173 x7_2).f1, (rd_T37 t173 x6_1).f0, (rd_T37 t173 x6_1).f1, true)) else (spec_l04Confused.l1 k2 t173 x6_1 (wrap64 (x7_2 + 1)) x171000_2 x171001_2 l0_2))) else (none)) else (none)) = some (r1, r2, r3, r4, r5) := H
         have A11 := Aside0.mk A110
         clear A110
         by_cases c12 : 0 ≤ x6_1
         ·rw [if_pos c12] at H
          have c12b0 : decide (0 ≤ x6_1) = true := decide_eq_true c12
          clear c12
          by_cases c13 : x6_1 < (t173.length : Int)
          ·rw [if_pos c13] at H
           have c13b0 : decide (x6_1 < (t173.length : Int)) = true := decide_eq_true c13
           clear c13
           replace H := Option.bind_eq_some_iff.mp H
           obtain ⟨⟨t182, t183, t184, t185⟩, A140, H⟩ := H
           replace H : (if (t177 == t182 && (t178 == t183 && (t179 == t184 && (t180 == t185)))) = true then (some ((rd_T37 t173 x7_2).f0, (rd_T37 t173 x7_2).f1, (rd_T37 t173 x6_1).f0, (rd_T37 t173 x6_1).f1, true)) else (spec_l04Confused.l1 k2 t173 x6_1 (wrap64 (x7_2 + 1)) x171000_2 x171001_2 l0_2)) = some (r1, r2, r3, r4, r5) := H
           have A14 := Aside0.mk A140
           clear A140
           by_cases c15 : (t177 == t182 && (t178 == t183 && (t179 == t184 && (t180 == t185)))) = true
           ·rw [if_pos c15] at H
            have c15b0 : (t177 == t182 && (t178 == t183 && (t179 == t184 && (t180 == t185)))) = true := c15
            (try (have c15b1 : decide (t177 = t182 && (t178 == t183 && (t179 == t184 && (t180 == t185)))) = true := by simpa using c15))
            (try (have c15b2 : (t177 == t182 && (t178 == t183 && (t179 == t184 && (t180 == t185)))) = true := by simpa using c15))
            clear c15
            simp only [Option.some.injEq, Prod.mk.injEq] at H
            obtain ⟨rfl, rfl, rfl, rfl, rfl⟩ := H
            try go_wp2
            have n0_ := Aside0.mk (Kd.R_drew HO_5.out)
            have n1_ := Aside0.mk (blk_drew BK170.out)
            have n2_ := Aside0.mk (blk_drew BK171.out)
            have n3_ := Aside0.mk (blk_drew BK172.out)
            have n4_ := Aside0.mk (below_drew1 HB.out)
            clear HO_5
            clear BK170
            clear BK171
            clear BK172
            clear HB
            have HO_5 := n0_
            have BK170 := n1_
            have BK171 := n2_
            have BK172 := n3_
            have HB := n4_
            clear n0_ n1_ n2_ n3_ n4_
            have p176 : 0 ≤ (x7_2 : Int) := asm_
            have q176 : x7_2 < (t173.length : Int) := asm_
            obtain ⟨ad176, e176, hx176_0, hx176_1⟩ := at_T37 (Kd.R_reads' HO_5.out).2.2 x7_2 p176 q176
            cases e176
            replace p176 := eq_true p176
            replace q176 := eq_true q176
            have p181 : 0 ≤ (x6_1 : Int) := asm_
            have q181 : x6_1 < (t173.length : Int) := asm_
            obtain ⟨ad181, e181, hx181_0, hx181_1⟩ := at_T37 (Kd.R_reads' HO_5.out).2.2 x6_1 p181 q181
            obtain rfl : ad176 = ad181 := (by injection e181)
            replace p181 := eq_true p181
            replace q181 := eq_true q181
            refine start_ (n := 13) (S := fun w' => w'.cell? (ad176.add ((x7_2).toNat * 2)) = some (.int .i8 ((rd_T37 t173 x7_2).f0)) ∧ w'.cell? ⟨(ad176.add ((x7_2).toNat * 2)).block, (ad176.add ((x7_2).toNat * 2)).off + 1, none⟩ = some (.bool ((rd_T37 t173 x7_2).f1)) ∧ w'.cell? (ad176.add ((x6_1).toNat * 2)) = some (.int .i8 ((rd_T37 t173 x6_1).f0)) ∧ w'.cell? ⟨(ad176.add ((x6_1).toNat * 2)).block, (ad176.add ((x6_1).toNat * 2)).off + 1, none⟩ = some (.bool ((rd_T37 t173 x6_1).f1))) (ds := []) #[false, false, false, false, false, false, false, false, false, false, false, false, false] (by kernel_rfl) rfl rfl ⟨hx176_0, hx176_1, hx181_0, hx181_1⟩ (fun hHeld => ?_); refine with_tabW spec_l04Confused.tab8 spec_l04Confused.bits8 (fun HT_ HW_ => ?_)
            generalize wr.drew = w16 at HO_5 BK170 BK171 BK172 HB hx176_0 hx176_1 hx181_0 hx181_1 hHeld ⊢
            refine pure_ (i := 0) (N := some 21) (v := ?_) (a' := ?_) #[true, false, false, false, false, false, false, false, false, false, false, false, false] rfl rfl (any_of HT_.out (by kernel_rfl)) (fun _ _ _ h => h) (Or.inl ⟨by rfl, ?_⟩) ?_ ?_
            rotate_left
            ·intro w'
             go_simp
             with_reducible rfl
            rotate_left
            ·simp only [Act.put, List.setIfInBounds_toArray, List.set_cons_zero, List.set_cons_succ, i64_w, i32_w]
             rfl
            refine pure_ (i := 1) (N := some 22) (v := ?_) (a' := ?_) #[true, true, false, false, false, false, false, false, false, false, false, false, false] rfl rfl (any_of HT_.out (by kernel_rfl)) (fun _ _ _ h => h) (Or.inl ⟨by rfl, ?_⟩) ?_ ?_
            rotate_left
            ·intro w'
             go_simp
             with_reducible rfl
            rotate_left
            ·simp only [Act.put, List.setIfInBounds_toArray, List.set_cons_zero, List.set_cons_succ, i64_w, i32_w]
             rfl
            refine pure_ (i := 2) (N := some 23) (v := ?_) (a' := ?_) #[true, true, true, false, false, false, false, false, false, false, false, false, false] rfl rfl (any_of HT_.out (by kernel_rfl)) (fun _ _ _ h => h) (Or.inl ⟨by rfl, ?_⟩) ?_ ?_
            rotate_left
            ·intro w'
             go_simp
             with_reducible rfl
            rotate_left
            ·simp only [Act.put, List.setIfInBounds_toArray, List.set_cons_zero, List.set_cons_succ, i64_w, i32_w]
             rfl
            refine pure_ (i := 3) (N := some 24) (v := ?_) (a' := ?_) #[true, true, true, true, false, false, false, false, false, false, false, false, false] rfl rfl (any_of HT_.out (by kernel_rfl)) (fun _ _ _ h => h) (Or.inl ⟨by rfl, ?_⟩) ?_ ?_
            rotate_left
            ·intro w'
             go_simp
             with_reducible rfl
            rotate_left
            ·simp only [Act.put, List.setIfInBounds_toArray, List.set_cons_zero, List.set_cons_succ, i64_w, i32_w]
             rfl
            refine pure_ (i := 6) (N := some 27) (v := ?_) (a' := ?_) #[true, true, true, true, false, false, true, false, false, false, false, false, false] rfl rfl (any_of HT_.out (by kernel_rfl)) (fun _ _ _ h => h) (Or.inl ⟨by rfl, ?_⟩) ?_ ?_
            rotate_left
            ·intro w'
             go_simp
             with_reducible rfl
            rotate_left
            ·simp only [Act.put, List.setIfInBounds_toArray, List.set_cons_zero, List.set_cons_succ, i64_w, i32_w]
             rfl
            refine pure_ (i := 7) (N := some 28) (v := ?_) (a' := ?_) #[true, true, true, true, false, false, true, true, false, false, false, false, false] rfl rfl (any_of HT_.out (by kernel_rfl)) (fun _ _ _ h => h) (Or.inl ⟨by rfl, ?_⟩) ?_ ?_
            rotate_left
            ·intro w'
             go_simp
             with_reducible rfl
            rotate_left
            ·simp only [Act.put, List.setIfInBounds_toArray, List.set_cons_zero, List.set_cons_succ, i64_w, i32_w]
             rfl
            refine pure_ (i := 8) (N := some 29) (v := ?_) (a' := ?_) #[true, true, true, true, false, false, true, true, true, false, false, false, false] rfl rfl (any_of HT_.out (by kernel_rfl)) (fun _ _ _ h => h) (Or.inl ⟨by rfl, ?_⟩) ?_ ?_
            rotate_left
            ·intro w'
             go_simp
             with_reducible rfl
            rotate_left
            ·simp only [Act.put, List.setIfInBounds_toArray, List.set_cons_zero, List.set_cons_succ, i64_w, i32_w]
             rfl
            refine pure_ (i := 9) (N := some 30) (v := ?_) (a' := ?_) #[true, true, true, true, false, false, true, true, true, true, false, false, false] rfl rfl (any_of HT_.out (by kernel_rfl)) (fun _ _ _ h => h) (Or.inl ⟨by rfl, ?_⟩) ?_ ?_
            rotate_left
            ·intro w'
             go_simp
             with_reducible rfl
            rotate_left
            ·simp only [Act.put, List.setIfInBounds_toArray, List.set_cons_zero, List.set_cons_succ, i64_w, i32_w]
             rfl
            refine take_ (i := 4) (N := some 25) (v := ?_) (a' := ?_) #[true, true, true, true, true, false, true, true, true, true, false, false, false] rfl rfl (take_ofW HT_.out HW_.out (by kernel_rfl)) (fun _ _ _ h => h) (Or.inl ⟨by rfl, ?_⟩) hHeld ?_ ?_
            rotate_left
            ·rintro w' ⟨s0, s1, s2, s3⟩
             go_simp
             with_reducible rfl
            rotate_left
            ·simp only [Act.put, List.setIfInBounds_toArray, List.set_cons_zero, List.set_cons_succ, i64_w, i32_w]
             rfl
            refine take_ (i := 10) (N := some 31) (v := ?_) (a' := ?_) #[true, true, true, true, true, false, true, true, true, true, true, false, false] rfl rfl (take_ofW HT_.out HW_.out (by kernel_rfl)) (fun _ _ _ h => h) (Or.inl ⟨by rfl, ?_⟩) hHeld ?_ ?_
            rotate_left
            ·rintro w' ⟨s0, s1, s2, s3⟩
             go_simp
             with_reducible rfl
            rotate_left
            ·simp only [Act.put, List.setIfInBounds_toArray, List.set_cons_zero, List.set_cons_succ, i64_w, i32_w]
             rfl
            refine one_ (i := 5) (N := some 26) #[true, true, true, true, true, true, true, true, true, true, true, false, false] rfl rfl (one_of HT_.out (by kernel_rfl)) (by decide) (fun K hK => ?_)
            refine goes_ Try.func31 (by kernel_rfl) rfl #[.pointer (some ⟨gp0, 0, none⟩), .agg #[.int .i8 ((rd_T37 t173 x7_2).f0), .bool ((rd_T37 t173 x7_2).f1)]] (by rfl) rfl rfl (by (try simp only [List.map_toArray, List.map_cons, List.map_nil]); first | done | rfl | (simp only [List.length_drop, List.length_take]; rfl)) ?_
            with_reducible refine (spec_l04Seen.calls k2 gp0 x171000_2 x171001_2 A0_2 c0_2 l0_2 ((rd_T37 t173 x7_2).f0) ((rd_T37 t173 x7_2).f1) t177 t178 t179 t180 _ ?side1 ?side2 ?side3 A11.out).mono ?_
            (case side1 => exact (pl_ BK170))
            (case side2 => repeat (first | exact (Kd.C_below HR0_2.out HB.out) | (with_reducible refine Kd.C_alloc ?_ _) | (with_reducible refine Kd.C_drewN ?_ _) | (with_reducible refine Kd.C_drew ?_)))
            (case side3 => exact HC0_2.out)
            rintro e w17 ⟨rfl, hb⟩
            have HS0_ := (hb.cell (World.block_lt_of_cell? _ _ (hHeld.1))).trans (hHeld.1)
            have HS1_ := (hb.cell (World.block_lt_of_cell? _ _ (hHeld.2.1))).trans (hHeld.2.1)
            have HS2_ := (hb.cell (World.block_lt_of_cell? _ _ (hHeld.2.2.1))).trans (hHeld.2.2.1)
            have HS3_ := (hb.cell (World.block_lt_of_cell? _ _ (hHeld.2.2.2))).trans (hHeld.2.2.2)
            refine ⟨_, rfl, ?_⟩
            have n0_ := Aside0.mk (Kd.R_below (pr_ HO_5) hb)
            have n1_ := Aside0.mk (blk_below (g := gp0) (o := .cells #[.int .i8 x171000_2, .int .i8 x171001_2, .slice A0_2 l0_2.length c0_2] 35 (0, 0)) (pl_ BK170) hb)
            have n2_ := Aside0.mk (blk_below (g := gb171) (o := .cells #[.int .i8 x172000_2, .bool x172001_2] 37 (0, 0)) (pl_ BK171) hb)
            have n3_ := Aside0.mk (blk_below (g := gb172) (o := .cells #[.int .i8 x173000_2, .bool x173001_2] 37 (0, 0)) (pl_ BK172) hb)
            have n4_ := Aside0.mk (below_step (by repeat (first | (with_reducible first | exact HB.out | apply below_alloc | apply pw_below_drewN | apply below_drew1 | refine below_set ?_ GE170.out | refine below_set ?_ GE171.out | refine below_set ?_ GE172.out) | exact HB.out)) hb)
            clear HO_5
            clear BK170
            clear BK171
            clear BK172
            clear HB
            have HO_5 := n0_
            have BK170 := n1_
            have BK171 := n2_
            have BK172 := n3_
            have HB := n4_
            clear n0_ n1_ n2_ n3_ n4_
            (try clear hb)
            (try clear hb2)
            (try clear hk)
            (try clear hi)
            refine hK.out _ _ ⟨HS0_, HS1_, HS2_, HS3_⟩ (fun hHeld => ?_)
            clear hK K
            refine norm_ (a' := ?_) ?_ ?_
            rotate_left
            ·show Act.put _ (some 26) _ = _
             simp only [Act.put, List.setIfInBounds_toArray, List.set_cons_zero, List.set_cons_succ, i64_w, i32_w]
             rfl
            refine one_ (i := 11) (N := some 32) #[true, true, true, true, true, true, true, true, true, true, true, true, false] rfl rfl (one_of HT_.out (by kernel_rfl)) (by decide) (fun K hK => ?_)
            refine goes_ Try.func31 (by kernel_rfl) rfl #[.pointer (some ⟨gp0, 0, none⟩), .agg #[.int .i8 ((rd_T37 t173 x6_1).f0), .bool ((rd_T37 t173 x6_1).f1)]] (by rfl) rfl rfl (by (try simp only [List.map_toArray, List.map_cons, List.map_nil]); first | done | rfl | (simp only [List.length_drop, List.length_take]; rfl)) ?_
            with_reducible refine (spec_l04Seen.calls k2 gp0 x171000_2 x171001_2 A0_2 c0_2 l0_2 ((rd_T37 t173 x6_1).f0) ((rd_T37 t173 x6_1).f1) t182 t183 t184 t185 _ ?side1 ?side2 ?side3 A14.out).mono ?_
            (case side1 => exact (pl_ BK170))
            (case side2 => repeat (first | exact (Kd.C_below HR0_2.out HB.out) | (with_reducible refine Kd.C_alloc ?_ _) | (with_reducible refine Kd.C_drewN ?_ _) | (with_reducible refine Kd.C_drew ?_)))
            (case side3 => exact HC0_2.out)
            rintro e w18 ⟨rfl, hb⟩
            have HS0_ := (hb.cell (World.block_lt_of_cell? _ _ (hHeld.1))).trans (hHeld.1)
            have HS1_ := (hb.cell (World.block_lt_of_cell? _ _ (hHeld.2.1))).trans (hHeld.2.1)
            have HS2_ := (hb.cell (World.block_lt_of_cell? _ _ (hHeld.2.2.1))).trans (hHeld.2.2.1)
            have HS3_ := (hb.cell (World.block_lt_of_cell? _ _ (hHeld.2.2.2))).trans (hHeld.2.2.2)
            refine ⟨_, rfl, ?_⟩
            have n0_ := Aside0.mk (Kd.R_below (pr_ HO_5) hb)
            have n1_ := Aside0.mk (blk_below (g := gp0) (o := .cells #[.int .i8 x171000_2, .int .i8 x171001_2, .slice A0_2 l0_2.length c0_2] 35 (0, 0)) (pl_ BK170) hb)
            have n2_ := Aside0.mk (blk_below (g := gb171) (o := .cells #[.int .i8 x172000_2, .bool x172001_2] 37 (0, 0)) (pl_ BK171) hb)
            have n3_ := Aside0.mk (blk_below (g := gb172) (o := .cells #[.int .i8 x173000_2, .bool x173001_2] 37 (0, 0)) (pl_ BK172) hb)
            have n4_ := Aside0.mk (below_step (by repeat (first | (with_reducible first | exact HB.out | apply below_alloc | apply pw_below_drewN | apply below_drew1 | refine below_set ?_ GE170.out | refine below_set ?_ GE171.out | refine below_set ?_ GE172.out) | exact HB.out)) hb)
            clear HO_5
            clear BK170
            clear BK171
            clear BK172
            clear HB
            have HO_5 := n0_
            have BK170 := n1_
            have BK171 := n2_
            have BK172 := n3_
            have HB := n4_
            clear n0_ n1_ n2_ n3_ n4_
            (try clear hb)
            (try clear hb2)
            (try clear hk)
            (try clear hi)
            refine hK.out _ _ ⟨HS0_, HS1_, HS2_, HS3_⟩ (fun hHeld => ?_)
            clear hK K
            refine norm_ (a' := ?_) ?_ ?_
            rotate_left
            ·show Act.put _ (some 32) _ = _
             simp only [Act.put, List.setIfInBounds_toArray, List.set_cons_zero, List.set_cons_succ, i64_w, i32_w]
             rfl
            refine pure_ (i := 12) (N := some 33) (v := ?_) (a' := ?_) #[true, true, true, true, true, true, true, true, true, true, true, true, true] rfl rfl (any_of HT_.out (by kernel_rfl)) (fun _ _ _ h => h) (Or.inl ⟨by rfl, ?_⟩) ?_ ?_
            rotate_left
            ·intro w'
             go_simp
             with_reducible rfl
            rotate_left
            ·simp only [Act.put, List.setIfInBounds_toArray, List.set_cons_zero, List.set_cons_succ, i64_w, i32_w]
             rfl
            refine done_ (done_of HT_.out (by kernel_rfl)) ?_
            try go_wp2
            have n0_ := Aside0.mk (Kd.R_drew HO_5.out)
            have n1_ := Aside0.mk (blk_drew BK170.out)
            have n2_ := Aside0.mk (blk_drew BK171.out)
            have n3_ := Aside0.mk (blk_drew BK172.out)
            have n4_ := Aside0.mk (below_drew1 HB.out)
            clear HO_5
            clear BK170
            clear BK171
            clear BK172
            clear HB
            have HO_5 := n0_
            have BK170 := n1_
            have BK171 := n2_
            have BK172 := n3_
            have HB := n4_
            clear n0_ n1_ n2_ n3_ n4_
            have p186 : 0 ≤ (x7_2 : Int) := asm_
            have q186 : x7_2 < (t173.length : Int) := asm_
            obtain ⟨ad186, e186, hx186_0, hx186_1⟩ := at_T37 (Kd.R_reads' HO_5.out).2.2 x7_2 p186 q186
            obtain rfl : ad176 = ad186 := (by injection e186)
            replace p186 := eq_true p186
            replace q186 := eq_true q186
            have p187 : 0 ≤ (x6_1 : Int) := asm_
            have q187 : x6_1 < (t173.length : Int) := asm_
            obtain ⟨ad187, e187, hx187_0, hx187_1⟩ := at_T37 (Kd.R_reads' HO_5.out).2.2 x6_1 p187 q187
            obtain rfl : ad176 = ad187 := (by injection e187)
            replace p187 := eq_true p187
            replace q187 := eq_true q187
            refine start_ (n := 11) (S := fun w' => w'.cell? (ad176.add ((x7_2).toNat * 2)) = some (.int .i8 ((rd_T37 t173 x7_2).f0)) ∧ w'.cell? ⟨(ad176.add ((x7_2).toNat * 2)).block, (ad176.add ((x7_2).toNat * 2)).off + 1, none⟩ = some (.bool ((rd_T37 t173 x7_2).f1)) ∧ w'.cell? (ad176.add ((x6_1).toNat * 2)) = some (.int .i8 ((rd_T37 t173 x6_1).f0)) ∧ w'.cell? ⟨(ad176.add ((x6_1).toNat * 2)).block, (ad176.add ((x6_1).toNat * 2)).off + 1, none⟩ = some (.bool ((rd_T37 t173 x6_1).f1))) (ds := []) #[false, false, false, false, false, false, false, false, false, false, false] (by kernel_rfl) rfl rfl ⟨hx186_0, hx186_1, hx187_0, hx187_1⟩ (fun hHeld => ?_); refine with_tabW spec_l04Confused.tab9 spec_l04Confused.bits9 (fun HT_ HW_ => ?_)
            generalize w18.drew = w19 at HO_5 BK170 BK171 BK172 HB hx186_0 hx186_1 hx187_0 hx187_1 hHeld ⊢
            refine pure_ (i := 0) (N := some 34) (v := ?_) (a' := ?_) #[true, false, false, false, false, false, false, false, false, false, false] rfl rfl (any_of HT_.out (by kernel_rfl)) (fun _ _ _ h => h) (Or.inl ⟨by rfl, ?_⟩) ?_ ?_
            rotate_left
            ·intro w'
             go_simp
             with_reducible rfl
            rotate_left
            ·simp only [Act.put, List.setIfInBounds_toArray, List.set_cons_zero, List.set_cons_succ, i64_w, i32_w]
             rfl
            refine pure_ (i := 1) (N := some 35) (v := ?_) (a' := ?_) #[true, true, false, false, false, false, false, false, false, false, false] rfl rfl (any_of HT_.out (by kernel_rfl)) (fun _ _ _ h => h) (Or.inl ⟨by rfl, ?_⟩) ?_ ?_
            rotate_left
            ·intro w'
             go_simp
             with_reducible rfl
            rotate_left
            ·simp only [Act.put, List.setIfInBounds_toArray, List.set_cons_zero, List.set_cons_succ, i64_w, i32_w]
             rfl
            refine pure_ (i := 2) (N := some 36) (v := ?_) (a' := ?_) #[true, true, true, false, false, false, false, false, false, false, false] rfl rfl (any_of HT_.out (by kernel_rfl)) (fun _ _ _ h => h) (Or.inl ⟨by rfl, ?_⟩) ?_ ?_
            rotate_left
            ·intro w'
             go_simp
             with_reducible rfl
            rotate_left
            ·simp only [Act.put, List.setIfInBounds_toArray, List.set_cons_zero, List.set_cons_succ, i64_w, i32_w]
             rfl
            refine pure_ (i := 4) (N := some 38) (v := ?_) (a' := ?_) #[true, true, true, false, true, false, false, false, false, false, false] rfl rfl (any_of HT_.out (by kernel_rfl)) (fun _ _ _ h => h) (Or.inl ⟨by rfl, ?_⟩) ?_ ?_
            rotate_left
            ·intro w'
             go_simp
             with_reducible rfl
            rotate_left
            ·simp only [Act.put, List.setIfInBounds_toArray, List.set_cons_zero, List.set_cons_succ, i64_w, i32_w]
             rfl
            refine pure_ (i := 5) (N := some 39) (v := ?_) (a' := ?_) #[true, true, true, false, true, true, false, false, false, false, false] rfl rfl (any_of HT_.out (by kernel_rfl)) (fun _ _ _ h => h) (Or.inl ⟨by rfl, ?_⟩) ?_ ?_
            rotate_left
            ·intro w'
             go_simp
             with_reducible rfl
            rotate_left
            ·simp only [Act.put, List.setIfInBounds_toArray, List.set_cons_zero, List.set_cons_succ, i64_w, i32_w]
             rfl
            refine pure_ (i := 6) (N := some 40) (v := ?_) (a' := ?_) #[true, true, true, false, true, true, true, false, false, false, false] rfl rfl (any_of HT_.out (by kernel_rfl)) (fun _ _ _ h => h) (Or.inl ⟨by rfl, ?_⟩) ?_ ?_
            rotate_left
            ·intro w'
             go_simp
             with_reducible rfl
            rotate_left
            ·simp only [Act.put, List.setIfInBounds_toArray, List.set_cons_zero, List.set_cons_succ, i64_w, i32_w]
             rfl
            refine take_ (i := 3) (N := some 37) (v := ?_) (a' := ?_) #[true, true, true, true, true, true, true, false, false, false, false] rfl rfl (take_ofW HT_.out HW_.out (by kernel_rfl)) (fun _ _ _ h => h) (Or.inl ⟨by rfl, ?_⟩) hHeld ?_ ?_
            rotate_left
            ·rintro w' ⟨s0, s1, s2, s3⟩
             go_simp
             with_reducible rfl
            rotate_left
            ·simp only [Act.put, List.setIfInBounds_toArray, List.set_cons_zero, List.set_cons_succ, i64_w, i32_w]
             rfl
            refine take_ (i := 7) (N := some 41) (v := ?_) (a' := ?_) #[true, true, true, true, true, true, true, true, false, false, false] rfl rfl (take_ofW HT_.out HW_.out (by kernel_rfl)) (fun _ _ _ h => h) (Or.inl ⟨by rfl, ?_⟩) hHeld ?_ ?_
            rotate_left
            ·rintro w' ⟨s0, s1, s2, s3⟩
             go_simp
             with_reducible rfl
            rotate_left
            ·simp only [Act.put, List.setIfInBounds_toArray, List.set_cons_zero, List.set_cons_succ, i64_w, i32_w]
             rfl
            refine one_ (i := 8) (N := none) #[true, true, true, true, true, true, true, true, true, false, false] rfl rfl (one_of HT_.out (by kernel_rfl)) (by decide) (fun K hK => ?_)
            have hs20 : w19.cell? ⟨gb171, 0, none⟩ = some (.int .i8 x172000_2) := (blk_cell BK171.out 0).trans rfl
            have hfs20 := blk_frozen BK171.out 0
            have hns20_0 := NB170_171.out
            have hns20_2 := NB172_171.out
            have hms20_0 := NB171_170.out
            have hms20_2 := NB171_172.out
            have hs21 : w19.cell? ⟨gb171, 1, none⟩ = some (.bool x172001_2) := (blk_cell BK171.out 1).trans rfl
            have hfs21 := blk_frozen BK171.out 1
            have hns21_0 := NB170_171.out
            have hns21_2 := NB172_171.out
            have hms21_0 := NB171_170.out
            have hms21_2 := NB171_172.out
            refine skip_ (w1 := ?_) (by rfl) rfl ?_ ?_
            rotate_left
            ·go_simp
             rfl
            refine hK.out _ _ ⟨((cell_far (p := ⟨gb171, _, none⟩) (by first | exact Kd.own_blk (Kd.R_away HO_5.out (fun _ hk => hk.1)) | (rw [add_block]; exact Kd.own_blk (Kd.R_away HO_5.out (fun _ hk => hk.1))) | (show (Addr.add _ _).block ≠ _; rw [add_block]; exact Kd.own_blk (Kd.R_away HO_5.out (fun _ hk => hk.1))) | (dsimp only; exact Kd.own_blk (Kd.R_away HO_5.out (fun _ hk => hk.1)))) _).trans (((cell_far (p := ⟨gb171, _, none⟩) (by first | exact Kd.own_blk (Kd.R_away HO_5.out (fun _ hk => hk.1)) | (rw [add_block]; exact Kd.own_blk (Kd.R_away HO_5.out (fun _ hk => hk.1))) | (show (Addr.add _ _).block ≠ _; rw [add_block]; exact Kd.own_blk (Kd.R_away HO_5.out (fun _ hk => hk.1))) | (dsimp only; exact Kd.own_blk (Kd.R_away HO_5.out (fun _ hk => hk.1)))) _).trans (hHeld.1)))), ((cell_far (p := ⟨gb171, _, none⟩) (by first | exact Kd.own_blk (Kd.R_away HO_5.out (fun _ hk => hk.1)) | (rw [add_block]; exact Kd.own_blk (Kd.R_away HO_5.out (fun _ hk => hk.1))) | (show (Addr.add _ _).block ≠ _; rw [add_block]; exact Kd.own_blk (Kd.R_away HO_5.out (fun _ hk => hk.1))) | (dsimp only; exact Kd.own_blk (Kd.R_away HO_5.out (fun _ hk => hk.1)))) _).trans (((cell_far (p := ⟨gb171, _, none⟩) (by first | exact Kd.own_blk (Kd.R_away HO_5.out (fun _ hk => hk.1)) | (rw [add_block]; exact Kd.own_blk (Kd.R_away HO_5.out (fun _ hk => hk.1))) | (show (Addr.add _ _).block ≠ _; rw [add_block]; exact Kd.own_blk (Kd.R_away HO_5.out (fun _ hk => hk.1))) | (dsimp only; exact Kd.own_blk (Kd.R_away HO_5.out (fun _ hk => hk.1)))) _).trans (hHeld.2.1)))), ((cell_far (p := ⟨gb171, _, none⟩) (by first | exact Kd.own_blk (Kd.R_away HO_5.out (fun _ hk => hk.1)) | (rw [add_block]; exact Kd.own_blk (Kd.R_away HO_5.out (fun _ hk => hk.1))) | (show (Addr.add _ _).block ≠ _; rw [add_block]; exact Kd.own_blk (Kd.R_away HO_5.out (fun _ hk => hk.1))) | (dsimp only; exact Kd.own_blk (Kd.R_away HO_5.out (fun _ hk => hk.1)))) _).trans (((cell_far (p := ⟨gb171, _, none⟩) (by first | exact Kd.own_blk (Kd.R_away HO_5.out (fun _ hk => hk.1)) | (rw [add_block]; exact Kd.own_blk (Kd.R_away HO_5.out (fun _ hk => hk.1))) | (show (Addr.add _ _).block ≠ _; rw [add_block]; exact Kd.own_blk (Kd.R_away HO_5.out (fun _ hk => hk.1))) | (dsimp only; exact Kd.own_blk (Kd.R_away HO_5.out (fun _ hk => hk.1)))) _).trans (hHeld.2.2.1)))), ((cell_far (p := ⟨gb171, _, none⟩) (by first | exact Kd.own_blk (Kd.R_away HO_5.out (fun _ hk => hk.1)) | (rw [add_block]; exact Kd.own_blk (Kd.R_away HO_5.out (fun _ hk => hk.1))) | (show (Addr.add _ _).block ≠ _; rw [add_block]; exact Kd.own_blk (Kd.R_away HO_5.out (fun _ hk => hk.1))) | (dsimp only; exact Kd.own_blk (Kd.R_away HO_5.out (fun _ hk => hk.1)))) _).trans (((cell_far (p := ⟨gb171, _, none⟩) (by first | exact Kd.own_blk (Kd.R_away HO_5.out (fun _ hk => hk.1)) | (rw [add_block]; exact Kd.own_blk (Kd.R_away HO_5.out (fun _ hk => hk.1))) | (show (Addr.add _ _).block ≠ _; rw [add_block]; exact Kd.own_blk (Kd.R_away HO_5.out (fun _ hk => hk.1))) | (dsimp only; exact Kd.own_blk (Kd.R_away HO_5.out (fun _ hk => hk.1)))) _).trans (hHeld.2.2.2))))⟩ (fun hHeld => ?_)
            clear hK K
            refine one_ (i := 9) (N := none) #[true, true, true, true, true, true, true, true, true, true, false] rfl rfl (one_of HT_.out (by kernel_rfl)) (by decide) (fun K hK => ?_)
            have hs22 : w19.cell? ⟨gb172, 0, none⟩ = some (.int .i8 x173000_2) := (blk_cell BK172.out 0).trans rfl
            have hfs22 := blk_frozen BK172.out 0
            have hns22_0 := NB170_172.out
            have hns22_1 := NB171_172.out
            have hms22_0 := NB172_170.out
            have hms22_1 := NB172_171.out
            have hs23 : w19.cell? ⟨gb172, 1, none⟩ = some (.bool x173001_2) := (blk_cell BK172.out 1).trans rfl
            have hfs23 := blk_frozen BK172.out 1
            have hns23_0 := NB170_172.out
            have hns23_1 := NB171_172.out
            have hms23_0 := NB172_170.out
            have hms23_1 := NB172_171.out
            refine skip_ (w1 := ?_) (by rfl) rfl ?_ ?_
            rotate_left
            ·go_simp
             rfl
            refine hK.out _ _ ⟨((cell_far (p := ⟨gb172, _, none⟩) (by first | exact Kd.own_blk (Kd.R_away HO_5.out (fun _ hk => hk.2)) | (rw [add_block]; exact Kd.own_blk (Kd.R_away HO_5.out (fun _ hk => hk.2))) | (show (Addr.add _ _).block ≠ _; rw [add_block]; exact Kd.own_blk (Kd.R_away HO_5.out (fun _ hk => hk.2))) | (dsimp only; exact Kd.own_blk (Kd.R_away HO_5.out (fun _ hk => hk.2)))) _).trans (((cell_far (p := ⟨gb172, _, none⟩) (by first | exact Kd.own_blk (Kd.R_away HO_5.out (fun _ hk => hk.2)) | (rw [add_block]; exact Kd.own_blk (Kd.R_away HO_5.out (fun _ hk => hk.2))) | (show (Addr.add _ _).block ≠ _; rw [add_block]; exact Kd.own_blk (Kd.R_away HO_5.out (fun _ hk => hk.2))) | (dsimp only; exact Kd.own_blk (Kd.R_away HO_5.out (fun _ hk => hk.2)))) _).trans (hHeld.1)))), ((cell_far (p := ⟨gb172, _, none⟩) (by first | exact Kd.own_blk (Kd.R_away HO_5.out (fun _ hk => hk.2)) | (rw [add_block]; exact Kd.own_blk (Kd.R_away HO_5.out (fun _ hk => hk.2))) | (show (Addr.add _ _).block ≠ _; rw [add_block]; exact Kd.own_blk (Kd.R_away HO_5.out (fun _ hk => hk.2))) | (dsimp only; exact Kd.own_blk (Kd.R_away HO_5.out (fun _ hk => hk.2)))) _).trans (((cell_far (p := ⟨gb172, _, none⟩) (by first | exact Kd.own_blk (Kd.R_away HO_5.out (fun _ hk => hk.2)) | (rw [add_block]; exact Kd.own_blk (Kd.R_away HO_5.out (fun _ hk => hk.2))) | (show (Addr.add _ _).block ≠ _; rw [add_block]; exact Kd.own_blk (Kd.R_away HO_5.out (fun _ hk => hk.2))) | (dsimp only; exact Kd.own_blk (Kd.R_away HO_5.out (fun _ hk => hk.2)))) _).trans (hHeld.2.1)))), ((cell_far (p := ⟨gb172, _, none⟩) (by first | exact Kd.own_blk (Kd.R_away HO_5.out (fun _ hk => hk.2)) | (rw [add_block]; exact Kd.own_blk (Kd.R_away HO_5.out (fun _ hk => hk.2))) | (show (Addr.add _ _).block ≠ _; rw [add_block]; exact Kd.own_blk (Kd.R_away HO_5.out (fun _ hk => hk.2))) | (dsimp only; exact Kd.own_blk (Kd.R_away HO_5.out (fun _ hk => hk.2)))) _).trans (((cell_far (p := ⟨gb172, _, none⟩) (by first | exact Kd.own_blk (Kd.R_away HO_5.out (fun _ hk => hk.2)) | (rw [add_block]; exact Kd.own_blk (Kd.R_away HO_5.out (fun _ hk => hk.2))) | (show (Addr.add _ _).block ≠ _; rw [add_block]; exact Kd.own_blk (Kd.R_away HO_5.out (fun _ hk => hk.2))) | (dsimp only; exact Kd.own_blk (Kd.R_away HO_5.out (fun _ hk => hk.2)))) _).trans (hHeld.2.2.1)))), ((cell_far (p := ⟨gb172, _, none⟩) (by first | exact Kd.own_blk (Kd.R_away HO_5.out (fun _ hk => hk.2)) | (rw [add_block]; exact Kd.own_blk (Kd.R_away HO_5.out (fun _ hk => hk.2))) | (show (Addr.add _ _).block ≠ _; rw [add_block]; exact Kd.own_blk (Kd.R_away HO_5.out (fun _ hk => hk.2))) | (dsimp only; exact Kd.own_blk (Kd.R_away HO_5.out (fun _ hk => hk.2)))) _).trans (((cell_far (p := ⟨gb172, _, none⟩) (by first | exact Kd.own_blk (Kd.R_away HO_5.out (fun _ hk => hk.2)) | (rw [add_block]; exact Kd.own_blk (Kd.R_away HO_5.out (fun _ hk => hk.2))) | (show (Addr.add _ _).block ≠ _; rw [add_block]; exact Kd.own_blk (Kd.R_away HO_5.out (fun _ hk => hk.2))) | (dsimp only; exact Kd.own_blk (Kd.R_away HO_5.out (fun _ hk => hk.2)))) _).trans (hHeld.2.2.2))))⟩ (fun hHeld => ?_)
            clear hK K
            refine pure_ (i := 10) (N := some 4) (v := ?_) (a' := ?_) #[true, true, true, true, true, true, true, true, true, true, true] rfl rfl (any_of HT_.out (by kernel_rfl)) (fun _ _ _ h => h) (Or.inl ⟨by rfl, ?_⟩) ?_ ?_
            rotate_left
            ·intro w'
             go_simp
             with_reducible rfl
            rotate_left
            ·simp only [Act.put, List.setIfInBounds_toArray, List.set_cons_zero, List.set_cons_succ, i64_w, i32_w]
             rfl
            refine done_ (done_of HT_.out (by kernel_rfl)) ?_
            try go_wp2
            refine bodyPost_ret (results_list (rs := [.cell 2 37, .cell 3 37, .tmp 4]) rfl (by simp) (.cell gb171 37 #[.int .i8 ((rd_T37 t173 x7_2).f0), .bool ((rd_T37 t173 x7_2).f1)] (0, 0) _ rfl (by (with_reducible repeat (first | refine blk_drewN ?_ _ | refine blk_drew ?_ | refine blk_alloc ?_ _)); refine blk_far ?_ NB171_172.out _; (with_reducible repeat (first | refine blk_drewN ?_ _ | refine blk_drew ?_ | refine blk_alloc ?_ _)); refine blk_far ?_ NB171_172.out _; (with_reducible repeat (first | refine blk_drewN ?_ _ | refine blk_drew ?_ | refine blk_alloc ?_ _)); refine blk_put (cs := #[.int .i8 ((rd_T37 t173 x7_2).f0), .bool x172001_2]) ?_ 1 _ rfl; (with_reducible repeat (first | refine blk_drewN ?_ _ | refine blk_drew ?_ | refine blk_alloc ?_ _)); refine blk_put (cs := #[.int .i8 x172000_2, .bool x172001_2]) ?_ 0 _ rfl; (with_reducible repeat (first | refine blk_drewN ?_ _ | refine blk_drew ?_ | refine blk_alloc ?_ _)); exact BK171.out) Try.underlying37 rfl (by kernel_rfl) (.cell gb172 37 #[.int .i8 ((rd_T37 t173 x6_1).f0), .bool ((rd_T37 t173 x6_1).f1)] (0, 0) _ rfl (by (with_reducible repeat (first | refine blk_drewN ?_ _ | refine blk_drew ?_ | refine blk_alloc ?_ _)); refine blk_put (cs := #[.int .i8 ((rd_T37 t173 x6_1).f0), .bool x173001_2]) ?_ 1 _ rfl; (with_reducible repeat (first | refine blk_drewN ?_ _ | refine blk_drew ?_ | refine blk_alloc ?_ _)); refine blk_put (cs := #[.int .i8 x173000_2, .bool x173001_2]) ?_ 0 _ rfl; (with_reducible repeat (first | refine blk_drewN ?_ _ | refine blk_drew ?_ | refine blk_alloc ?_ _)); refine blk_far ?_ NB172_171.out _; (with_reducible repeat (first | refine blk_drewN ?_ _ | refine blk_drew ?_ | refine blk_alloc ?_ _)); refine blk_far ?_ NB172_171.out _; (with_reducible repeat (first | refine blk_drewN ?_ _ | refine blk_drew ?_ | refine blk_alloc ?_ _)); exact BK172.out) Try.underlying37 rfl (by kernel_rfl) (.tmp .nil)))) rfl ?_
            exact ⟨by first | rfl | (simp [errW_none, errW_some] <;> rfl) | (simp [*, errW_none, errW_some] <;> rfl), by repeat (first | (with_reducible first | exact HB.out | apply below_alloc | apply pw_below_drewN | apply below_drew1 | refine below_set ?_ GE170.out | refine below_set ?_ GE171.out | refine below_set ?_ GE172.out) | exact HB.out)⟩
           ·rw [if_neg c15] at H
            have c15b0 : (t177 == t182 && (t178 == t183 && (t179 == t184 && (t180 == t185)))) = false := by simpa using c15
            (try (have c15b1 : decide (t177 = t182 && (t178 == t183 && (t179 == t184 && (t180 == t185)))) = false := by simpa using c15))
            (try (have c15b2 : (t177 == t182 && (t178 == t183 && (t179 == t184 && (t180 == t185)))) = false := by simpa using c15))
            (try (have c15b3 : ¬ (t177 = t182 && (t178 == t183 && (t179 == t184 && (t180 == t185)))) := by simpa using c15))
            clear c15
            have H' := Aside0.mk H
            clear H
            try go_wp2
            have n0_ := Aside0.mk (Kd.R_drew HO_5.out)
            have n1_ := Aside0.mk (blk_drew BK170.out)
            have n2_ := Aside0.mk (blk_drew BK171.out)
            have n3_ := Aside0.mk (blk_drew BK172.out)
            have n4_ := Aside0.mk (below_drew1 HB.out)
            clear HO_5
            clear BK170
            clear BK171
            clear BK172
            clear HB
            have HO_5 := n0_
            have BK170 := n1_
            have BK171 := n2_
            have BK172 := n3_
            have HB := n4_
            clear n0_ n1_ n2_ n3_ n4_
            have p176 : 0 ≤ (x7_2 : Int) := asm_
            have q176 : x7_2 < (t173.length : Int) := asm_
            obtain ⟨ad176, e176, hx176_0, hx176_1⟩ := at_T37 (Kd.R_reads' HO_5.out).2.2 x7_2 p176 q176
            cases e176
            replace p176 := eq_true p176
            replace q176 := eq_true q176
            have p181 : 0 ≤ (x6_1 : Int) := asm_
            have q181 : x6_1 < (t173.length : Int) := asm_
            obtain ⟨ad181, e181, hx181_0, hx181_1⟩ := at_T37 (Kd.R_reads' HO_5.out).2.2 x6_1 p181 q181
            obtain rfl : ad176 = ad181 := (by injection e181)
            replace p181 := eq_true p181
            replace q181 := eq_true q181
            refine start_ (n := 13) (S := fun w' => w'.cell? (ad176.add ((x7_2).toNat * 2)) = some (.int .i8 ((rd_T37 t173 x7_2).f0)) ∧ w'.cell? ⟨(ad176.add ((x7_2).toNat * 2)).block, (ad176.add ((x7_2).toNat * 2)).off + 1, none⟩ = some (.bool ((rd_T37 t173 x7_2).f1)) ∧ w'.cell? (ad176.add ((x6_1).toNat * 2)) = some (.int .i8 ((rd_T37 t173 x6_1).f0)) ∧ w'.cell? ⟨(ad176.add ((x6_1).toNat * 2)).block, (ad176.add ((x6_1).toNat * 2)).off + 1, none⟩ = some (.bool ((rd_T37 t173 x6_1).f1))) (ds := []) #[false, false, false, false, false, false, false, false, false, false, false, false, false] (by kernel_rfl) rfl rfl ⟨hx176_0, hx176_1, hx181_0, hx181_1⟩ (fun hHeld => ?_); refine with_tabW spec_l04Confused.tab8 spec_l04Confused.bits8 (fun HT_ HW_ => ?_)
            generalize wr.drew = w24 at HO_5 BK170 BK171 BK172 HB hx176_0 hx176_1 hx181_0 hx181_1 hHeld ⊢
            refine pure_ (i := 0) (N := some 21) (v := ?_) (a' := ?_) #[true, false, false, false, false, false, false, false, false, false, false, false, false] rfl rfl (any_of HT_.out (by kernel_rfl)) (fun _ _ _ h => h) (Or.inl ⟨by rfl, ?_⟩) ?_ ?_
            rotate_left
            ·intro w'
             go_simp
             with_reducible rfl
            rotate_left
            ·simp only [Act.put, List.setIfInBounds_toArray, List.set_cons_zero, List.set_cons_succ, i64_w, i32_w]
             rfl
            refine pure_ (i := 1) (N := some 22) (v := ?_) (a' := ?_) #[true, true, false, false, false, false, false, false, false, false, false, false, false] rfl rfl (any_of HT_.out (by kernel_rfl)) (fun _ _ _ h => h) (Or.inl ⟨by rfl, ?_⟩) ?_ ?_
            rotate_left
            ·intro w'
             go_simp
             with_reducible rfl
            rotate_left
            ·simp only [Act.put, List.setIfInBounds_toArray, List.set_cons_zero, List.set_cons_succ, i64_w, i32_w]
             rfl
            refine pure_ (i := 2) (N := some 23) (v := ?_) (a' := ?_) #[true, true, true, false, false, false, false, false, false, false, false, false, false] rfl rfl (any_of HT_.out (by kernel_rfl)) (fun _ _ _ h => h) (Or.inl ⟨by rfl, ?_⟩) ?_ ?_
            rotate_left
            ·intro w'
             go_simp
             with_reducible rfl
            rotate_left
            ·simp only [Act.put, List.setIfInBounds_toArray, List.set_cons_zero, List.set_cons_succ, i64_w, i32_w]
             rfl
            refine pure_ (i := 3) (N := some 24) (v := ?_) (a' := ?_) #[true, true, true, true, false, false, false, false, false, false, false, false, false] rfl rfl (any_of HT_.out (by kernel_rfl)) (fun _ _ _ h => h) (Or.inl ⟨by rfl, ?_⟩) ?_ ?_
            rotate_left
            ·intro w'
             go_simp
             with_reducible rfl
            rotate_left
            ·simp only [Act.put, List.setIfInBounds_toArray, List.set_cons_zero, List.set_cons_succ, i64_w, i32_w]
             rfl
            refine pure_ (i := 6) (N := some 27) (v := ?_) (a' := ?_) #[true, true, true, true, false, false, true, false, false, false, false, false, false] rfl rfl (any_of HT_.out (by kernel_rfl)) (fun _ _ _ h => h) (Or.inl ⟨by rfl, ?_⟩) ?_ ?_
            rotate_left
            ·intro w'
             go_simp
             with_reducible rfl
            rotate_left
            ·simp only [Act.put, List.setIfInBounds_toArray, List.set_cons_zero, List.set_cons_succ, i64_w, i32_w]
             rfl
            refine pure_ (i := 7) (N := some 28) (v := ?_) (a' := ?_) #[true, true, true, true, false, false, true, true, false, false, false, false, false] rfl rfl (any_of HT_.out (by kernel_rfl)) (fun _ _ _ h => h) (Or.inl ⟨by rfl, ?_⟩) ?_ ?_
            rotate_left
            ·intro w'
             go_simp
             with_reducible rfl
            rotate_left
            ·simp only [Act.put, List.setIfInBounds_toArray, List.set_cons_zero, List.set_cons_succ, i64_w, i32_w]
             rfl
            refine pure_ (i := 8) (N := some 29) (v := ?_) (a' := ?_) #[true, true, true, true, false, false, true, true, true, false, false, false, false] rfl rfl (any_of HT_.out (by kernel_rfl)) (fun _ _ _ h => h) (Or.inl ⟨by rfl, ?_⟩) ?_ ?_
            rotate_left
            ·intro w'
             go_simp
             with_reducible rfl
            rotate_left
            ·simp only [Act.put, List.setIfInBounds_toArray, List.set_cons_zero, List.set_cons_succ, i64_w, i32_w]
             rfl
            refine pure_ (i := 9) (N := some 30) (v := ?_) (a' := ?_) #[true, true, true, true, false, false, true, true, true, true, false, false, false] rfl rfl (any_of HT_.out (by kernel_rfl)) (fun _ _ _ h => h) (Or.inl ⟨by rfl, ?_⟩) ?_ ?_
            rotate_left
            ·intro w'
             go_simp
             with_reducible rfl
            rotate_left
            ·simp only [Act.put, List.setIfInBounds_toArray, List.set_cons_zero, List.set_cons_succ, i64_w, i32_w]
             rfl
            refine take_ (i := 4) (N := some 25) (v := ?_) (a' := ?_) #[true, true, true, true, true, false, true, true, true, true, false, false, false] rfl rfl (take_ofW HT_.out HW_.out (by kernel_rfl)) (fun _ _ _ h => h) (Or.inl ⟨by rfl, ?_⟩) hHeld ?_ ?_
            rotate_left
            ·rintro w' ⟨s0, s1, s2, s3⟩
             go_simp
             with_reducible rfl
            rotate_left
            ·simp only [Act.put, List.setIfInBounds_toArray, List.set_cons_zero, List.set_cons_succ, i64_w, i32_w]
             rfl
            refine take_ (i := 10) (N := some 31) (v := ?_) (a' := ?_) #[true, true, true, true, true, false, true, true, true, true, true, false, false] rfl rfl (take_ofW HT_.out HW_.out (by kernel_rfl)) (fun _ _ _ h => h) (Or.inl ⟨by rfl, ?_⟩) hHeld ?_ ?_
            rotate_left
            ·rintro w' ⟨s0, s1, s2, s3⟩
             go_simp
             with_reducible rfl
            rotate_left
            ·simp only [Act.put, List.setIfInBounds_toArray, List.set_cons_zero, List.set_cons_succ, i64_w, i32_w]
             rfl
            refine one_ (i := 5) (N := some 26) #[true, true, true, true, true, true, true, true, true, true, true, false, false] rfl rfl (one_of HT_.out (by kernel_rfl)) (by decide) (fun K hK => ?_)
            refine goes_ Try.func31 (by kernel_rfl) rfl #[.pointer (some ⟨gp0, 0, none⟩), .agg #[.int .i8 ((rd_T37 t173 x7_2).f0), .bool ((rd_T37 t173 x7_2).f1)]] (by rfl) rfl rfl (by (try simp only [List.map_toArray, List.map_cons, List.map_nil]); first | done | rfl | (simp only [List.length_drop, List.length_take]; rfl)) ?_
            with_reducible refine (spec_l04Seen.calls k2 gp0 x171000_2 x171001_2 A0_2 c0_2 l0_2 ((rd_T37 t173 x7_2).f0) ((rd_T37 t173 x7_2).f1) t177 t178 t179 t180 _ ?side1 ?side2 ?side3 A11.out).mono ?_
            (case side1 => exact (pl_ BK170))
            (case side2 => repeat (first | exact (Kd.C_below HR0_2.out HB.out) | (with_reducible refine Kd.C_alloc ?_ _) | (with_reducible refine Kd.C_drewN ?_ _) | (with_reducible refine Kd.C_drew ?_)))
            (case side3 => exact HC0_2.out)
            rintro e w25 ⟨rfl, hb⟩
            have HS0_ := (hb.cell (World.block_lt_of_cell? _ _ (hHeld.1))).trans (hHeld.1)
            have HS1_ := (hb.cell (World.block_lt_of_cell? _ _ (hHeld.2.1))).trans (hHeld.2.1)
            have HS2_ := (hb.cell (World.block_lt_of_cell? _ _ (hHeld.2.2.1))).trans (hHeld.2.2.1)
            have HS3_ := (hb.cell (World.block_lt_of_cell? _ _ (hHeld.2.2.2))).trans (hHeld.2.2.2)
            refine ⟨_, rfl, ?_⟩
            have n0_ := Aside0.mk (Kd.R_below (pr_ HO_5) hb)
            have n1_ := Aside0.mk (blk_below (g := gp0) (o := .cells #[.int .i8 x171000_2, .int .i8 x171001_2, .slice A0_2 l0_2.length c0_2] 35 (0, 0)) (pl_ BK170) hb)
            have n2_ := Aside0.mk (blk_below (g := gb171) (o := .cells #[.int .i8 x172000_2, .bool x172001_2] 37 (0, 0)) (pl_ BK171) hb)
            have n3_ := Aside0.mk (blk_below (g := gb172) (o := .cells #[.int .i8 x173000_2, .bool x173001_2] 37 (0, 0)) (pl_ BK172) hb)
            have n4_ := Aside0.mk (below_step (by repeat (first | (with_reducible first | exact HB.out | apply below_alloc | apply pw_below_drewN | apply below_drew1 | refine below_set ?_ GE170.out | refine below_set ?_ GE171.out | refine below_set ?_ GE172.out) | exact HB.out)) hb)
            clear HO_5
            clear BK170
            clear BK171
            clear BK172
            clear HB
            have HO_5 := n0_
            have BK170 := n1_
            have BK171 := n2_
            have BK172 := n3_
            have HB := n4_
            clear n0_ n1_ n2_ n3_ n4_
            (try clear hb)
            (try clear hb2)
            (try clear hk)
            (try clear hi)
            refine hK.out _ _ ⟨HS0_, HS1_, HS2_, HS3_⟩ (fun hHeld => ?_)
            clear hK K
            refine norm_ (a' := ?_) ?_ ?_
            rotate_left
            ·show Act.put _ (some 26) _ = _
             simp only [Act.put, List.setIfInBounds_toArray, List.set_cons_zero, List.set_cons_succ, i64_w, i32_w]
             rfl
            refine one_ (i := 11) (N := some 32) #[true, true, true, true, true, true, true, true, true, true, true, true, false] rfl rfl (one_of HT_.out (by kernel_rfl)) (by decide) (fun K hK => ?_)
            refine goes_ Try.func31 (by kernel_rfl) rfl #[.pointer (some ⟨gp0, 0, none⟩), .agg #[.int .i8 ((rd_T37 t173 x6_1).f0), .bool ((rd_T37 t173 x6_1).f1)]] (by rfl) rfl rfl (by (try simp only [List.map_toArray, List.map_cons, List.map_nil]); first | done | rfl | (simp only [List.length_drop, List.length_take]; rfl)) ?_
            with_reducible refine (spec_l04Seen.calls k2 gp0 x171000_2 x171001_2 A0_2 c0_2 l0_2 ((rd_T37 t173 x6_1).f0) ((rd_T37 t173 x6_1).f1) t182 t183 t184 t185 _ ?side1 ?side2 ?side3 A14.out).mono ?_
            (case side1 => exact (pl_ BK170))
            (case side2 => repeat (first | exact (Kd.C_below HR0_2.out HB.out) | (with_reducible refine Kd.C_alloc ?_ _) | (with_reducible refine Kd.C_drewN ?_ _) | (with_reducible refine Kd.C_drew ?_)))
            (case side3 => exact HC0_2.out)
            rintro e w26 ⟨rfl, hb⟩
            have HS0_ := (hb.cell (World.block_lt_of_cell? _ _ (hHeld.1))).trans (hHeld.1)
            have HS1_ := (hb.cell (World.block_lt_of_cell? _ _ (hHeld.2.1))).trans (hHeld.2.1)
            have HS2_ := (hb.cell (World.block_lt_of_cell? _ _ (hHeld.2.2.1))).trans (hHeld.2.2.1)
            have HS3_ := (hb.cell (World.block_lt_of_cell? _ _ (hHeld.2.2.2))).trans (hHeld.2.2.2)
            refine ⟨_, rfl, ?_⟩
            have n0_ := Aside0.mk (Kd.R_below (pr_ HO_5) hb)
            have n1_ := Aside0.mk (blk_below (g := gp0) (o := .cells #[.int .i8 x171000_2, .int .i8 x171001_2, .slice A0_2 l0_2.length c0_2] 35 (0, 0)) (pl_ BK170) hb)
            have n2_ := Aside0.mk (blk_below (g := gb171) (o := .cells #[.int .i8 x172000_2, .bool x172001_2] 37 (0, 0)) (pl_ BK171) hb)
            have n3_ := Aside0.mk (blk_below (g := gb172) (o := .cells #[.int .i8 x173000_2, .bool x173001_2] 37 (0, 0)) (pl_ BK172) hb)
            have n4_ := Aside0.mk (below_step (by repeat (first | (with_reducible first | exact HB.out | apply below_alloc | apply pw_below_drewN | apply below_drew1 | refine below_set ?_ GE170.out | refine below_set ?_ GE171.out | refine below_set ?_ GE172.out) | exact HB.out)) hb)
            clear HO_5
            clear BK170
            clear BK171
            clear BK172
            clear HB
            have HO_5 := n0_
            have BK170 := n1_
            have BK171 := n2_
            have BK172 := n3_
            have HB := n4_
            clear n0_ n1_ n2_ n3_ n4_
            (try clear hb)
            (try clear hb2)
            (try clear hk)
            (try clear hi)
            refine hK.out _ _ ⟨HS0_, HS1_, HS2_, HS3_⟩ (fun hHeld => ?_)
            clear hK K
            refine norm_ (a' := ?_) ?_ ?_
            rotate_left
            ·show Act.put _ (some 32) _ = _
             simp only [Act.put, List.setIfInBounds_toArray, List.set_cons_zero, List.set_cons_succ, i64_w, i32_w]
             rfl
            refine pure_ (i := 12) (N := some 33) (v := ?_) (a' := ?_) #[true, true, true, true, true, true, true, true, true, true, true, true, true] rfl rfl (any_of HT_.out (by kernel_rfl)) (fun _ _ _ h => h) (Or.inl ⟨by rfl, ?_⟩) ?_ ?_
            rotate_left
            ·intro w'
             go_simp
             with_reducible rfl
            rotate_left
            ·simp only [Act.put, List.setIfInBounds_toArray, List.set_cons_zero, List.set_cons_succ, i64_w, i32_w]
             rfl
            refine done_ (done_of HT_.out (by kernel_rfl)) ?_
            try go_wp2
            go_roundg k2
            case measure => have := HK1.out; have := HK2.out; omega
            case rel => exact ⟨(wrap64 (x7_2 + 1)), (x171000_2), (x171001_2), (x172000_2), (x172001_2), (x173000_2), (x173001_2), (by first | rfl | (simp; done) | (simp [*]; done)), H', ⟨by have := HK1.out; have := HK2.out; omega⟩, ⟨pr_ HO_5⟩, ⟨pl_ BK170⟩, ⟨pl_ BK171⟩, ⟨pl_ BK172⟩, ⟨by repeat (first | (with_reducible first | exact HB.out | apply below_alloc | apply pw_below_drewN | apply below_drew1 | refine below_set ?_ GE170.out | refine below_set ?_ GE171.out | refine below_set ?_ GE172.out) | exact HB.out)⟩⟩
          ·rw [if_neg c13] at H
           exact absurd H (by simp)
         ·rw [if_neg c12] at H
          exact absurd H (by simp)
        ·rw [if_neg c10] at H
         exact absurd H (by simp)
       ·rw [if_neg c9] at H
        exact absurd H (by simp)
      ·rw [if_neg c8] at H
       have c8b0 : decide (x7_2 < x6_1) = false := decide_eq_false c8
       clear c8
       have H' := Aside0.mk H
       clear H
       go_wp2
       go_roundg k2
       case measure => have := HK1.out; have := HK2.out; omega
       case rel => exact ⟨(wrap64 (x6_1 + 1)), (x171000_2), (x171001_2), (x172000_2), (x172001_2), (x173000_2), (x173001_2), (by first | rfl | (simp; done) | (simp [*]; done)), H', ⟨by have := HK1.out; have := HK2.out; omega⟩, ⟨pr_ HO_5⟩, ⟨pl_ BK170⟩, ⟨pl_ BK171⟩, ⟨pl_ BK172⟩, ⟨by repeat (first | (with_reducible first | exact HB.out | apply below_alloc | apply pw_below_drewN | apply below_drew1 | refine below_set ?_ GE170.out | refine below_set ?_ GE171.out | refine below_set ?_ GE172.out) | exact HB.out)⟩⟩
   ·rw [if_neg c6] at H
    have c6b0 : decide (x6_1 < (t173.length : Int)) = false := decide_eq_false c6
    clear c6
    simp only [Option.some.injEq, Prod.mk.injEq] at H
    obtain ⟨rfl, rfl, rfl, rfl, rfl⟩ := H
    obtain ⟨Ao27, co27, eo27⟩ := Kd.R_slice HO_5.out
    subst eo27
    have hnb28 := NB171_170.out
    have hnc28 := NB170_171.out
    have hnb29 := NB171_172.out
    have hnc29 := NB172_171.out
    have hcz30_0 : wr.cell? ⟨gb171, 0, none⟩ = some (.int .i8 x172000_1) := (blk_cell BK171.out 0).trans rfl
    have hcz30_1 : wr.cell? ⟨gb171, 1, none⟩ = some (.bool x172001_1) := (blk_cell BK171.out 1).trans rfl
    have hfz30_0 := blk_frozen BK171.out 0
    have hfz30_1 := blk_frozen BK171.out 1
    have hnb31 := NB172_170.out
    have hnc31 := NB170_172.out
    have hcz32_0 : wr.cell? ⟨gb172, 0, none⟩ = some (.int .i8 x173000_1) := (blk_cell BK172.out 0).trans rfl
    have hcz32_1 : wr.cell? ⟨gb172, 1, none⟩ = some (.bool x173001_1) := (blk_cell BK172.out 1).trans rfl
    have hfz32_0 := blk_frozen BK172.out 0
    have hfz32_1 := blk_frozen BK172.out 1
    go_wp2
    refine bodyPost_ret (results_list (rs := [.cell 2 37, .cell 3 37, .tmp 4]) rfl (by simp) (.cell gb171 37 #[.int .i8 0, .bool false] (0, 0) _ rfl (by (with_reducible repeat (first | refine blk_drewN ?_ _ | refine blk_drew ?_ | refine blk_alloc ?_ _)); refine blk_far ?_ NB171_172.out _; (with_reducible repeat (first | refine blk_drewN ?_ _ | refine blk_drew ?_ | refine blk_alloc ?_ _)); refine blk_far ?_ NB171_172.out _; (with_reducible repeat (first | refine blk_drewN ?_ _ | refine blk_drew ?_ | refine blk_alloc ?_ _)); refine blk_put (cs := #[.int .i8 0, .bool x172001_1]) ?_ 1 _ rfl; (with_reducible repeat (first | refine blk_drewN ?_ _ | refine blk_drew ?_ | refine blk_alloc ?_ _)); refine blk_put (cs := #[.int .i8 x172000_1, .bool x172001_1]) ?_ 0 _ rfl; (with_reducible repeat (first | refine blk_drewN ?_ _ | refine blk_drew ?_ | refine blk_alloc ?_ _)); exact BK171.out) Try.underlying37 rfl (by kernel_rfl) (.cell gb172 37 #[.int .i8 0, .bool false] (0, 0) _ rfl (by (with_reducible repeat (first | refine blk_drewN ?_ _ | refine blk_drew ?_ | refine blk_alloc ?_ _)); refine blk_put (cs := #[.int .i8 0, .bool x173001_1]) ?_ 1 _ rfl; (with_reducible repeat (first | refine blk_drewN ?_ _ | refine blk_drew ?_ | refine blk_alloc ?_ _)); refine blk_put (cs := #[.int .i8 x173000_1, .bool x173001_1]) ?_ 0 _ rfl; (with_reducible repeat (first | refine blk_drewN ?_ _ | refine blk_drew ?_ | refine blk_alloc ?_ _)); refine blk_far ?_ NB172_171.out _; (with_reducible repeat (first | refine blk_drewN ?_ _ | refine blk_drew ?_ | refine blk_alloc ?_ _)); refine blk_far ?_ NB172_171.out _; (with_reducible repeat (first | refine blk_drewN ?_ _ | refine blk_drew ?_ | refine blk_alloc ?_ _)); exact BK172.out) Try.underlying37 rfl (by kernel_rfl) (.tmp .nil)))) rfl ?_
    exact ⟨by first | rfl | (simp [errW_none, errW_some] <;> rfl) | (simp [*, errW_none, errW_some] <;> rfl), by repeat (first | (with_reducible first | exact HB.out | apply below_alloc | apply pw_below_drewN | apply below_drew1 | refine below_set ?_ GE170.out | refine below_set ?_ GE171.out | refine below_set ?_ GE172.out) | exact HB.out)⟩

end Go.Proofs.Ytkllpdekkhhhnaa.M
