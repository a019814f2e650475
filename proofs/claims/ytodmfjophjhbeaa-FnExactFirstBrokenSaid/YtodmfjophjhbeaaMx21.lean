-- By this seat's own program over the kit's printer (arrays, functions told by hand); nothing of it is trusted: the kernel checks it.
import Derived.Test.YtodmfjophjhbeaaMx0
import Derived.Test.YtodmfjophjhbeaaMx1
import Derived.Test.YtodmfjophjhbeaaMx8
import Derived.Test.YtodmfjophjhbeaaMx16
import Derived.Test.YtodmfjophjhbeaaMx17
import Derived.Test.YtodmfjophjhbeaaMx20
import Derived.Test.YtodmfjophjhbeaaHIndex
namespace Go.Proofs.Ytodmfjophjhbeaa.M
open Go.RowKit Go.Proofs.YtodmfjophjhbeaaW.PrintWords Go.Proofs.YtodmfjophjhbeaaW.PrintLast Go.Proofs.YtodmfjophjhbeaaW.PrintMore
attribute [local go_sem] max2_int min2_int max_two min_two max_three min_three max_four min_four   -- for this text's walks alone
set_option linter.unusedVariables false
set_option linter.unusedSimpArgs false

attribute [local go_sem high] eqA30
/-! ### impl_Puzzle_broken: function 64 -/
mutual
def impl_Puzzle_broken.l0 : Nat → List Int → Int → Int → List Int → Int → Int → Int → Int → Bool → Option (Int)
 | 0, _, _, _, _, _, _, _, _, _ => none
 | k + 1, x1, x14, x15, x413000, x413001, x413002, x413003, x413004, x413005 => if x15 < x14 then (if 0 ≤ x15 then (if x15 < (x1.length : Int) then ((impl_Puzzle_at.f k x413000 x413001 x413002 x413003 x413004 x413005 x15).bind fun bt415 => (if (rd x1 x15) < (-1) then (impl_Puzzle_broken.j1 k x1 x15 (rd x1 x15) x14 x15 true x413000 x413001 x413002 x413003 x413004 x413005 bt415.1 bt415.2.1 bt415.2.2.1 bt415.2.2.2) else (if (bt415.1 == x413001 && (bt415.2.1 == x413002 && (bt415.2.2.1 == x413003 && (bt415.2.2.2 == x413004)))) = true then (impl_Puzzle_broken.j1 k x1 x15 (rd x1 x15) x14 x15 ((rd x1 x15) != 0) x413000 x413001 x413002 x413003 x413004 x413005 bt415.1 bt415.2.1 bt415.2.2.1 bt415.2.2.2) else (impl_Puzzle_broken.j1 k x1 x15 (rd x1 x15) x14 x15 false x413000 x413001 x413002 x413003 x413004 x413005 bt415.1 bt415.2.1 bt415.2.2.1 bt415.2.2.2)))) else (none)) else (none)) else (some (-1))
def impl_Puzzle_broken.j1 : Nat → List Int → Int → Int → Int → Int → Bool → List Int → Int → Int → Int → Int → Bool → Int → Int → Int → Int → Option (Int)
 | 0, _, _, _, _, _, _, _, _, _, _, _, _, _, _, _, _ => none
 | k + 1, x1, x5, x6, x14, x15, x36, x413000, x413001, x413002, x413003, x413004, x413005, x420000, x420001, x420002, x420003 => if x36 = true then (some x5) else (if x6 = (-1) then (impl_Puzzle_broken.l0 k x1 x14 (wrap64 (x15 + 1)) x413000 x413001 x413002 x413003 x413004 x413005) else ((impl_Puzzle_moves.f k x413000 x413001 x413002 x413003 x413004 x413005 x420000 x420001 x420002 x420003).bind fun t420 => (impl_Puzzle_broken.l1 k x1 x5 x6 x14 x15 t420 (t420.length : Int) 0 x413000 x413001 x413002 x413003 x413004 x413005 x420000 x420001 x420002 x420003)))
def impl_Puzzle_broken.l1 : Nat → List Int → Int → Int → Int → Int → List (S60) → Int → Int → List Int → Int → Int → Int → Int → Bool → Int → Int → Int → Int → Option (Int)
 | 0, _, _, _, _, _, _, _, _, _, _, _, _, _, _, _, _, _, _ => none
 | k + 1, x1, x5, x6, x14, x15, x42, x43, x44, x413000, x413001, x413002, x413003, x413004, x413005, x420000, x420001, x420002, x420003 => if x44 < x43 then (if 0 ≤ x44 then (if x44 < (x42.length : Int) then ((impl_Puzzle_moved.f k x413000 x413001 x413002 x413003 x413004 x413005 x420000 x420001 x420002 x420003 ((rd_T60 x42 x44).f0) ((rd_T60 x42 x44).f1) ((rd_T60 x42 x44).f2)).bind fun bt425 => ((impl_Puzzle_index.f x413000 x413001 x413002 x413003 x413004 x413005 bt425.1 bt425.2.1 bt425.2.2.1 bt425.2.2.2.1).bind fun t431 => (if 0 ≤ t431 then (if t431 < (x1.length : Int) then (if (rd x1 t431) = (-1) then (some x5) else (if (wrap64 (rd x1 t431)) > (wrap64 ((wrap64 (x6)) + 1)) then (some x5) else (impl_Puzzle_broken.l1 k x1 x5 x6 x14 x15 x42 x43 (wrap64 (x44 + 1)) x413000 x413001 x413002 x413003 x413004 x413005 x420000 x420001 x420002 x420003))) else (none)) else (none)))) else (none)) else (none)) else (impl_Puzzle_broken.l0 k x1 x14 (wrap64 (x15 + 1)) x413000 x413001 x413002 x413003 x413004 x413005)
end
def impl_Puzzle_broken.f (k : Nat) (l0_0 : List Int) (a0_1 : Int) (a0_2 : Int) (a0_3 : Int) (a0_4 : Int) (a0_5 : Bool) (l1 : List Int) : Option (Int) := (impl_Puzzle_states.f k l0_0 a0_1 a0_2 a0_3 a0_4 a0_5).bind fun t413 => (impl_Puzzle_broken.l0 k l1 t413 0 l0_0 a0_1 a0_2 a0_3 a0_4 a0_5)
theorem impl_Puzzle_broken.mono_l : ∀ k, (∀ y0 y1 y2 y3 y4 y5 y6 y7 y8, LeO (impl_Puzzle_broken.l0 k y0 y1 y2 y3 y4 y5 y6 y7 y8) (impl_Puzzle_broken.l0 (k + 1) y0 y1 y2 y3 y4 y5 y6 y7 y8)) ∧ (∀ y0 y1 y2 y3 y4 y5 y6 y7 y8 y9 y10 y11 y12 y13 y14 y15, LeO (impl_Puzzle_broken.j1 k y0 y1 y2 y3 y4 y5 y6 y7 y8 y9 y10 y11 y12 y13 y14 y15) (impl_Puzzle_broken.j1 (k + 1) y0 y1 y2 y3 y4 y5 y6 y7 y8 y9 y10 y11 y12 y13 y14 y15)) ∧ (∀ y0 y1 y2 y3 y4 y5 y6 y7 y8 y9 y10 y11 y12 y13 y14 y15 y16 y17, LeO (impl_Puzzle_broken.l1 k y0 y1 y2 y3 y4 y5 y6 y7 y8 y9 y10 y11 y12 y13 y14 y15 y16 y17) (impl_Puzzle_broken.l1 (k + 1) y0 y1 y2 y3 y4 y5 y6 y7 y8 y9 y10 y11 y12 y13 y14 y15 y16 y17))
 | 0 => ⟨fun _ _ _ _ _ _ _ _ _ r h => by simp [impl_Puzzle_broken.l0] at h, fun _ _ _ _ _ _ _ _ _ _ _ _ _ _ _ _ r h => by simp [impl_Puzzle_broken.j1] at h, fun _ _ _ _ _ _ _ _ _ _ _ _ _ _ _ _ _ _ r h => by simp [impl_Puzzle_broken.l1] at h⟩
 | k + 1 => by
  obtain ⟨ih0, ih1, ih2⟩ := impl_Puzzle_broken.mono_l k
  refine ⟨?_, ?_, ?_⟩
  ·intro y0 y1 y2 y3 y4 y5 y6 y7 y8
   unfold impl_Puzzle_broken.l0
   repeat' first
   | (with_reducible exact ih0 _ _ _ _ _ _ _ _ _)
   | (with_reducible exact ih1 _ _ _ _ _ _ _ _ _ _ _ _ _ _ _ _)
   | (with_reducible exact ih2 _ _ _ _ _ _ _ _ _ _ _ _ _ _ _ _ _ _)
   | (with_reducible exact impl_Puzzle_at.mono _ _ _ _ _ _ _ _)
   | (with_reducible exact impl_Puzzle_moved.mono _ _ _ _ _ _ _ _ _ _ _ _ _ _)
   | (with_reducible exact impl_Puzzle_moves.mono _ _ _ _ _ _ _ _ _ _ _)
   | (with_reducible exact impl_Puzzle_states.mono _ _ _ _ _ _ _)
   | (with_reducible exact LeO.refl _)
   | (with_reducible exact LeO.none _)
   | (with_reducible refine LeO.ite ?_ ?_)
   | (with_reducible refine LeO.bind ?_ (fun _ => ?_))
   | exact ih0 _ _ _ _ _ _ _ _ _
   | exact ih1 _ _ _ _ _ _ _ _ _ _ _ _ _ _ _ _
   | exact ih2 _ _ _ _ _ _ _ _ _ _ _ _ _ _ _ _ _ _
   | exact impl_Puzzle_at.mono _ _ _ _ _ _ _ _
   | exact impl_Puzzle_moved.mono _ _ _ _ _ _ _ _ _ _ _ _ _ _
   | exact impl_Puzzle_moves.mono _ _ _ _ _ _ _ _ _ _ _
   | exact impl_Puzzle_states.mono _ _ _ _ _ _ _
   | exact LeO.none _
   | refine LeO.ite ?_ ?_
   | refine LeO.bind ?_ (fun _ => ?_)
  ·intro y0 y1 y2 y3 y4 y5 y6 y7 y8 y9 y10 y11 y12 y13 y14 y15
   unfold impl_Puzzle_broken.j1
   repeat' first
   | (with_reducible exact ih0 _ _ _ _ _ _ _ _ _)
   | (with_reducible exact ih1 _ _ _ _ _ _ _ _ _ _ _ _ _ _ _ _)
   | (with_reducible exact ih2 _ _ _ _ _ _ _ _ _ _ _ _ _ _ _ _ _ _)
   | (with_reducible exact impl_Puzzle_at.mono _ _ _ _ _ _ _ _)
   | (with_reducible exact impl_Puzzle_moved.mono _ _ _ _ _ _ _ _ _ _ _ _ _ _)
   | (with_reducible exact impl_Puzzle_moves.mono _ _ _ _ _ _ _ _ _ _ _)
   | (with_reducible exact impl_Puzzle_states.mono _ _ _ _ _ _ _)
   | (with_reducible exact LeO.refl _)
   | (with_reducible exact LeO.none _)
   | (with_reducible refine LeO.ite ?_ ?_)
   | (with_reducible refine LeO.bind ?_ (fun _ => ?_))
   | exact ih0 _ _ _ _ _ _ _ _ _
   | exact ih1 _ _ _ _ _ _ _ _ _ _ _ _ _ _ _ _
   | exact ih2 _ _ _ _ _ _ _ _ _ _ _ _ _ _ _ _ _ _
   | exact impl_Puzzle_at.mono _ _ _ _ _ _ _ _
   | exact impl_Puzzle_moved.mono _ _ _ _ _ _ _ _ _ _ _ _ _ _
   | exact impl_Puzzle_moves.mono _ _ _ _ _ _ _ _ _ _ _
   | exact impl_Puzzle_states.mono _ _ _ _ _ _ _
   | exact LeO.none _
   | refine LeO.ite ?_ ?_
   | refine LeO.bind ?_ (fun _ => ?_)
  ·intro y0 y1 y2 y3 y4 y5 y6 y7 y8 y9 y10 y11 y12 y13 y14 y15 y16 y17
   unfold impl_Puzzle_broken.l1
   repeat' first
   | (with_reducible exact ih0 _ _ _ _ _ _ _ _ _)
   | (with_reducible exact ih1 _ _ _ _ _ _ _ _ _ _ _ _ _ _ _ _)
   | (with_reducible exact ih2 _ _ _ _ _ _ _ _ _ _ _ _ _ _ _ _ _ _)
   | (with_reducible exact impl_Puzzle_at.mono _ _ _ _ _ _ _ _)
   | (with_reducible exact impl_Puzzle_moved.mono _ _ _ _ _ _ _ _ _ _ _ _ _ _)
   | (with_reducible exact impl_Puzzle_moves.mono _ _ _ _ _ _ _ _ _ _ _)
   | (with_reducible exact impl_Puzzle_states.mono _ _ _ _ _ _ _)
   | (with_reducible exact LeO.refl _)
   | (with_reducible exact LeO.none _)
   | (with_reducible refine LeO.ite ?_ ?_)
   | (with_reducible refine LeO.bind ?_ (fun _ => ?_))
   | exact ih0 _ _ _ _ _ _ _ _ _
   | exact ih1 _ _ _ _ _ _ _ _ _ _ _ _ _ _ _ _
   | exact ih2 _ _ _ _ _ _ _ _ _ _ _ _ _ _ _ _ _ _
   | exact impl_Puzzle_at.mono _ _ _ _ _ _ _ _
   | exact impl_Puzzle_moved.mono _ _ _ _ _ _ _ _ _ _ _ _ _ _
   | exact impl_Puzzle_moves.mono _ _ _ _ _ _ _ _ _ _ _
   | exact impl_Puzzle_states.mono _ _ _ _ _ _ _
   | exact LeO.none _
   | refine LeO.ite ?_ ?_
   | refine LeO.bind ?_ (fun _ => ?_)
theorem impl_Puzzle_broken.mono : ∀ a0 a1 a2 a3 a4 a5 a6 k, LeO (impl_Puzzle_broken.f k a0 a1 a2 a3 a4 a5 a6) (impl_Puzzle_broken.f (k + 1) a0 a1 a2 a3 a4 a5 a6) := by
 intro a0 a1 a2 a3 a4 a5 a6 k
 obtain ⟨ih0, ih1, ih2⟩ := impl_Puzzle_broken.mono_l k
 unfold impl_Puzzle_broken.f
 repeat' first
   | (with_reducible exact ih0 _ _ _ _ _ _ _ _ _)
   | (with_reducible exact ih1 _ _ _ _ _ _ _ _ _ _ _ _ _ _ _ _)
   | (with_reducible exact ih2 _ _ _ _ _ _ _ _ _ _ _ _ _ _ _ _ _ _)
   | (with_reducible exact impl_Puzzle_at.mono _ _ _ _ _ _ _ _)
   | (with_reducible exact impl_Puzzle_moved.mono _ _ _ _ _ _ _ _ _ _ _ _ _ _)
   | (with_reducible exact impl_Puzzle_moves.mono _ _ _ _ _ _ _ _ _ _ _)
   | (with_reducible exact impl_Puzzle_states.mono _ _ _ _ _ _ _)
   | (with_reducible exact LeO.refl _)
   | (with_reducible exact LeO.none _)
   | (with_reducible refine LeO.ite ?_ ?_)
   | (with_reducible refine LeO.bind ?_ (fun _ => ?_))
   | exact ih0 _ _ _ _ _ _ _ _ _
   | exact ih1 _ _ _ _ _ _ _ _ _ _ _ _ _ _ _ _
   | exact ih2 _ _ _ _ _ _ _ _ _ _ _ _ _ _ _ _ _ _
   | exact impl_Puzzle_at.mono _ _ _ _ _ _ _ _
   | exact impl_Puzzle_moved.mono _ _ _ _ _ _ _ _ _ _ _ _ _ _
   | exact impl_Puzzle_moves.mono _ _ _ _ _ _ _ _ _ _ _
   | exact impl_Puzzle_states.mono _ _ _ _ _ _ _
   | exact LeO.none _
   | refine LeO.ite ?_ ?_
   | refine LeO.bind ?_ (fun _ => ?_)
def impl_Puzzle_broken.T4 : Bool × List (List Nat × List Nat) := (true, [([], []), ([], []), ([0, 1], [0, 1]), ([2], [2]), ([], []), ([], []), ([4, 5], [4, 5]), ([], []), ([3, 6, 0, 1, 2, 3, 7], [3]), ([7, 6, 8, 0, 1, 2, 3, 4, 5, 6, 7, 8], [6, 7])])
def impl_Puzzle_broken.B4 : List Nat := [0, 0, 3, 7, 0, 0, 48, 0, 255, 511]
theorem impl_Puzzle_broken.tab4 : rtab .any (opsOf Try.f64 4) = impl_Puzzle_broken.T4 := by kernel_rfl
theorem impl_Puzzle_broken.bits4 : waitsOk impl_Puzzle_broken.T4.2 impl_Puzzle_broken.B4 = true := by kernel_rfl
set_option maxHeartbeats 8000000 in
set_option maxRecDepth 100000 in
theorem impl_Puzzle_broken.calls (k : Nat) (A0_0 : Option Addr) (c0_0 : Nat) (l0_0 : List Int) (a0_1 : Int) (a0_2 : Int) (a0_3 : Int) (a0_4 : Int) (a0_5 : Bool) (A1 : Option Addr) (c1 : Nat) (l1 : List Int) (r : Int) (w : World) (hr0_0 : Kd.C (Kd.int .i16) w A0_0 l0_0.length l0_0) (hc0_0 : l0_0.length ≤ c0_0) (hr1 : Kd.C (Kd.int .i16) w A1 l1.length l1) (hc1 : l1.length ≤ c1) (h : impl_Puzzle_broken.f k l0_0 a0_1 a0_2 a0_3 a0_4 a0_5 l1 = some r) :
  Calls Try.prog 64 #[.agg #[.slice A0_0 l0_0.length c0_0, .int .i16 a0_1, .int .i16 a0_2, .int .i16 a0_3, .int .i16 a0_4, .bool a0_5], .slice A1 l1.length c1] w fun e w' => e = .returned (.int .i64 r) ∧ Below w.heap.size w w' := by
 have hu32 := Try.underlying32
 have hu30 := Try.underlying30
 have hu60 := Try.underlying60
 have HR0_0 := Aside0.mk hr0_0
 have HC0_0 := Aside0.mk hc0_0
 clear hr0_0 hc0_0
 have HR1 := Aside0.mk hr1
 have HC1 := Aside0.mk hc1
 clear hr1 hc1
 have HB := A_ (Below.refl w.heap.size w)
 have H : ((impl_Puzzle_states.f k l0_0 a0_1 a0_2 a0_3 a0_4 a0_5).bind fun t413 => (impl_Puzzle_broken.l0 k l1 t413 0 l0_0 a0_1 a0_2 a0_3 a0_4 a0_5)) = some r := h
 clear h
 replace H := Option.bind_eq_some_iff.mp H
 obtain ⟨t413, A30, H⟩ := H
 replace H : (impl_Puzzle_broken.l0 k l1 t413 0 l0_0 a0_1 a0_2 a0_3 a0_4 a0_5) = some r := H
 have A3 := Aside0.mk A30
 clear A30
 have H' := Aside0.mk H
 clear H
 go_enter Try.func64, Try.ntmps64
 go_wp2_with (first | ((with_reducible refine gate_dst (N := 2) rfl ?_); refine box_event ?hg (N := 2) ?hd (cs := #[.slice A0_0 l0_0.length c0_0, .int .i16 a0_1, .int .i16 a0_2, .int .i16 a0_3, .int .i16 a0_4, .bool a0_5]) (t := 32) ?hr ?_; (case hd => rfl); (case hg => rfl); (case hr => first | (go_simp; done) | (go_simp; rfl)); intro gb412 hg w4 hbox hb; have n0_ := A_ (below_step (bl_ HB) hb); have n1_ := A_ (hbox); have n2_ := A_ ((by rw [hg]; exact (below_size (bl_ HB)) : w.heap.size ≤ gb412)); have n3_ := n2_; clear HB; have HB := n0_; have BK412 := n1_; have GW412 := n2_; have GE412 := n3_; clear n0_ n1_ n2_ n3_; clear hb hbox hg; have hcz5_0 : w4.cell? ⟨gb412, 0, none⟩ = some (.slice A0_0 l0_0.length c0_0) := (blk_cell BK412.out 0).trans rfl; have hcz5_1 : w4.cell? ⟨gb412, 1, none⟩ = some (.int .i16 a0_1) := (blk_cell BK412.out 1).trans rfl; have hcz5_2 : w4.cell? ⟨gb412, 2, none⟩ = some (.int .i16 a0_2) := (blk_cell BK412.out 2).trans rfl; have hcz5_3 : w4.cell? ⟨gb412, 3, none⟩ = some (.int .i16 a0_3) := (blk_cell BK412.out 3).trans rfl; have hcz5_4 : w4.cell? ⟨gb412, 4, none⟩ = some (.int .i16 a0_4) := (blk_cell BK412.out 4).trans rfl; have hcz5_5 : w4.cell? ⟨gb412, 5, none⟩ = some (.bool a0_5) := (blk_cell BK412.out 5).trans rfl; have hfz5_0 := blk_frozen BK412.out 0; have hfz5_1 := blk_frozen BK412.out 1; have hfz5_2 := blk_frozen BK412.out 2; have hfz5_3 := blk_frozen BK412.out 3; have hfz5_4 := blk_frozen BK412.out 4; have hfz5_5 := blk_frozen BK412.out 5) | ((with_reducible refine gate_callee (f := 65) rfl ?_); refine goesL_ (some 14) rfl rfl Try.func65 (by kernel_rfl) rfl #[.agg #[.slice A0_0 l0_0.length c0_0, .int .i16 a0_1, .int .i16 a0_2, .int .i16 a0_3, .int .i16 a0_4, .bool a0_5]] rfl arg_ ?_; (with_reducible refine (impl_Puzzle_states.calls k _ _ l0_0 a0_1 a0_2 a0_3 a0_4 a0_5 t413 _ ?side1 ?side2 A3.out).mono ?_); (case side1 => repeat (first | exact (Kd.C_below HR0_0.out HB.out) | (with_reducible refine Kd.C_alloc ?_ _) | (with_reducible refine Kd.C_drewN ?_ _) | (with_reducible refine Kd.C_drew ?_))); (case side2 => exact HC0_0.out); rintro e w6 ⟨rfl, hb⟩; refine ⟨_, rfl, ?_⟩; have n0_ := A_ (blk_below (pl_ BK412) hb); have n1_ := A_ (below_step (bl_ HB) hb); clear BK412; clear HB; have BK412 := n0_; have HB := n1_; clear n0_ n1_; (try clear hb); (try clear hb2); (try clear hk); (try clear hi)))
 go_loopg [15] k (fun kq v15 w' => ∃ (x15_1 : Int), v15 = .int .i64 x15_1 ∧ Aside0 (impl_Puzzle_broken.l0 kq l1 t413 x15_1 l0_0 a0_1 a0_2 a0_3 a0_4 a0_5 = some r) ∧ Aside0 (kq ≤ k) ∧ Aside0 (w'.heap[gb412]? = some (.cells #[(.slice A0_0 l0_0.length c0_0), .int .i16 a0_1, .int .i16 a0_2, .int .i16 a0_3, .int .i16 a0_4, .bool a0_5] 32 (0, 0))) ∧ Aside0 (Below w.heap.size w w'))
 case atStart => exact ⟨(0), rs_, H', ⟨Nat.le_refl _⟩, ⟨pl_ BK412⟩, ⟨bl_ HB⟩⟩
 case round =>
  clear H'
  try clear c1
  try clear p2
  try clear c6
  try clear hcz5_0
  try clear hcz5_1
  try clear hcz5_2
  try clear hcz5_3
  try clear hcz5_4
  try clear hcz5_5
  try clear hfz5_0
  try clear hfz5_1
  try clear hfz5_2
  try clear hfz5_3
  try clear hfz5_4
  try clear hfz5_5
  obtain ⟨x15_1, rfl, HA, HK1, BK412, HB⟩ := hrel
  cases gk with
  | zero => exact absurd HA.out (by simp [impl_Puzzle_broken.l0])
  | succ k1 =>
   have H := HA.out
   clear HA
   simp only [impl_Puzzle_broken.l0] at H
   by_cases c7 : x15_1 < t413
   ·rw [if_pos c7] at H
    have c7b0 : decide (x15_1 < t413) = true := decide_eq_true c7
    clear c7
    by_cases c8 : 0 ≤ x15_1
    ·rw [if_pos c8] at H
     have c8b0 : decide (0 ≤ x15_1) = true := decide_eq_true c8
     clear c8
     by_cases c9 : x15_1 < (l1.length : Int)
     ·rw [if_pos c9] at H
      have c9b0 : decide (x15_1 < (l1.length : Int)) = true := decide_eq_true c9
      clear c9
      replace H := Option.bind_eq_some_iff.mp H
      obtain ⟨⟨t415, t416, t417, t418⟩, A100, H⟩ := H
      replace H : (if (rd l1 x15_1) < (-1) then (impl_Puzzle_broken.j1 k1 l1 x15_1 (rd l1 x15_1) t413 x15_1 true l0_0 a0_1 a0_2 a0_3 a0_4 a0_5 t415 t416 t417 t418) else (if (t415 == a0_1 && (t416 == a0_2 && (t417 == a0_3 && (t418 == a0_4)))) = true then (impl_Puzzle_broken.j1 k1 l1 x15_1 (rd l1 x15_1) t413 x15_1 ((rd l1 x15_1) != 0) l0_0 a0_1 a0_2 a0_3 a0_4 a0_5 t415 t416 t417 t418) else (impl_Puzzle_broken.j1 k1 l1 x15_1 (rd l1 x15_1) t413 x15_1 false l0_0 a0_1 a0_2 a0_3 a0_4 a0_5 t415 t416 t417 t418))) = some r := H
      have A10 := Aside0.mk A100
      clear A100
      have HC11 := Aside0.mk H
      clear H
      try go_wp2
      have n0_ := A_ (blk_drew BK412.out)
      have n1_ := A_ (below_drew1 HB.out)
      clear BK412
      clear HB
      have BK412 := n0_
      have HB := n1_
      clear n0_ n1_
      have p414 : 0 ≤ (x15_1 : Int) := asm_
      have q414 : x15_1 < (l1.length : Int) := asm_
      obtain ⟨ad414, e414, hx414_0⟩ := Kd.at_int HR1.out x15_1 p414 q414
      have hw414_0 := hx414_0
      cases e414
      (try replace hx414_0 := (HB.out.cell (World.block_lt_of_cell? w _ hx414_0)).trans hx414_0)
      replace p414 := eq_true p414
      replace q414 := eq_true q414
      refine start_ (n := 10) (S := fun w' => w'.cell? ⟨gb412, 0, none⟩ = some (.slice A0_0 l0_0.length c0_0) ∧ w'.cell? ⟨gb412, 1, none⟩ = some (.int .i16 a0_1) ∧ w'.cell? ⟨gb412, 2, none⟩ = some (.int .i16 a0_2) ∧ w'.cell? ⟨gb412, 3, none⟩ = some (.int .i16 a0_3) ∧ w'.cell? ⟨gb412, 4, none⟩ = some (.int .i16 a0_4) ∧ w'.cell? ⟨gb412, 5, none⟩ = some (.bool a0_5) ∧ w'.cell? (ad414.add (x15_1).toNat) = some (.int .i16 (rd l1 x15_1))) (ds := []) #[false, false, false, false, false, false, false, false, false, false] (by kernel_rfl) rfl rfl ⟨(blk_cell BK412.out 0).trans rfl, (blk_cell BK412.out 1).trans rfl, (blk_cell BK412.out 2).trans rfl, (blk_cell BK412.out 3).trans rfl, (blk_cell BK412.out 4).trans rfl, (blk_cell BK412.out 5).trans rfl, (by first | exact (HB.out.cell (World.block_lt_of_cell? w _ hw414_0)).trans hw414_0 | exact hw414_0)⟩ (fun hHeld => ?_); refine with_tabW impl_Puzzle_broken.tab4 impl_Puzzle_broken.bits4 (fun HT_ HW_ => ?_)
      generalize wr.drew = w12 at BK412 HB hx414_0 hHeld ⊢
      refine pure_ (i := 0) (N := some 18) (v := ?_) (a' := ?_) #[true, false, false, false, false, false, false, false, false, false] rfl rfl (any_of HT_.out (by kernel_rfl)) (fun _ _ _ h => h) (Or.inl ⟨by rfl, ?_⟩) ?_ ?_
      rotate_left
      ·intro w'
       go_simp
       with_reducible rfl
      rotate_left
      ·simp only [Act.put, List.setIfInBounds_toArray, List.set_cons_zero, List.set_cons_succ, i64_w, i32_w]
       rfl
      refine pure_ (i := 1) (N := some 19) (v := ?_) (a' := ?_) #[true, true, false, false, false, false, false, false, false, false] rfl rfl (any_of HT_.out (by kernel_rfl)) (fun _ _ _ h => h) (Or.inl ⟨by rfl, ?_⟩) ?_ ?_
      rotate_left
      ·intro w'
       go_simp
       with_reducible rfl
      rotate_left
      ·simp only [Act.put, List.setIfInBounds_toArray, List.set_cons_zero, List.set_cons_succ, i64_w, i32_w]
       rfl
      refine pure_ (i := 2) (N := some 20) (v := ?_) (a' := ?_) #[true, true, true, false, false, false, false, false, false, false] rfl rfl (any_of HT_.out (by kernel_rfl)) (fun _ _ _ h => h) (Or.inl ⟨by rfl, ?_⟩) ?_ ?_
      rotate_left
      ·intro w'
       go_simp
       with_reducible rfl
      rotate_left
      ·simp only [Act.put, List.setIfInBounds_toArray, List.set_cons_zero, List.set_cons_succ, i64_w, i32_w]
       rfl
      refine pure_ (i := 5) (N := some 23) (v := ?_) (a' := ?_) #[true, true, true, false, false, true, false, false, false, false] rfl rfl (any_of HT_.out (by kernel_rfl)) (fun _ _ _ h => h) (Or.inl ⟨by rfl, ?_⟩) ?_ ?_
      rotate_left
      ·intro w'
       go_simp
       with_reducible rfl
      rotate_left
      ·simp only [Act.put, List.setIfInBounds_toArray, List.set_cons_zero, List.set_cons_succ, i64_w, i32_w]
       rfl
      refine take_ (i := 3) (N := some 21) (v := ?_) (a' := ?_) #[true, true, true, true, false, true, false, false, false, false] rfl rfl (take_ofW HT_.out HW_.out (by kernel_rfl)) (fun _ _ _ h => h) (Or.inl ⟨by rfl, ?_⟩) hHeld ?_ ?_
      rotate_left
      ·rintro w' ⟨s0, s1, s2, s3, s4, s5, s6⟩
       go_simp
       with_reducible rfl
      rotate_left
      ·simp only [Act.put, List.setIfInBounds_toArray, List.set_cons_zero, List.set_cons_succ, i64_w, i32_w]
       rfl
      refine take_ (i := 4) (N := some 22) (v := ?_) (a' := ?_) #[true, true, true, true, true, true, false, false, false, false] rfl rfl (take_ofW HT_.out HW_.out (by kernel_rfl)) (fun _ _ _ h => h) (Or.inl ⟨by rfl, ?_⟩) hHeld ?_ ?_
      rotate_left
      ·rintro w' ⟨s0, s1, s2, s3, s4, s5, s6⟩
       go_simp
       with_reducible rfl
      rotate_left
      ·simp only [Act.put, List.setIfInBounds_toArray, List.set_cons_zero, List.set_cons_succ, i64_w, i32_w]
       rfl
      refine join_ (σ := Nat) 2 #[true, true, true, true, true, true, true, true, false, false] (fun s_ => [(24, .agg #[.int .i16 t415, .int .i16 t416, .int .i16 t417, .int .i16 t418]), (7, .pointer (some ⟨s_, 0, none⟩))]) (fun s_ w' => (w'.cell? ⟨gb412, 0, none⟩ = some (.slice A0_0 l0_0.length c0_0) ∧ w'.cell? ⟨gb412, 1, none⟩ = some (.int .i16 a0_1) ∧ w'.cell? ⟨gb412, 2, none⟩ = some (.int .i16 a0_2) ∧ w'.cell? ⟨gb412, 3, none⟩ = some (.int .i16 a0_3) ∧ w'.cell? ⟨gb412, 4, none⟩ = some (.int .i16 a0_4) ∧ w'.cell? ⟨gb412, 5, none⟩ = some (.bool a0_5) ∧ w'.cell? (ad414.add (x15_1).toNat) = some (.int .i16 (rd l1 x15_1))) ∧ (w'.heap[gb412]? = some (.cells #[.slice A0_0 l0_0.length c0_0, .int .i16 a0_1, .int .i16 a0_2, .int .i16 a0_3, .int .i16 a0_4, .bool a0_5] 32 (0, 0))) ∧ (w'.heap[s_]? = some (.cells #[.int .i16 0, .int .i16 0, .int .i16 0, .int .i16 0] 30 (0, 0))) ∧ (w.heap.size ≤ s_) ∧ (w.heap.size ≤ s_) ∧ (gb412 ≠ s_) ∧ (s_ ≠ gb412) ∧ (Below w.heap.size w w')) ?_ ?_
      rotate_left
      ·intro hCont
       refine two_ (i := 6) (j := 7) (Ni := some 24) (Nj := some 7) #[true, true, true, true, true, true, true, false, false, false] #[true, true, true, true, true, true, false, true, false, false] rfl rfl rfl rfl (two_of HT_.out (by kernel_rfl)) (by decide) (by decide) (fun K hK => ?_) (fun K hK => ?_)
       ·skip
        refine goes_ Try.func67 (by kernel_rfl) rfl #[.agg #[.slice A0_0 l0_0.length c0_0, .int .i16 a0_1, .int .i16 a0_2, .int .i16 a0_3, .int .i16 a0_4, .bool a0_5], .int .i64 x15_1] (by rfl) rfl rfl arg_ ?_
        with_reducible refine (impl_Puzzle_at.calls k1 _ _ l0_0 a0_1 a0_2 a0_3 a0_4 a0_5 x15_1 t415 t416 t417 t418 _ ?side1 ?side2 A10.out).mono ?_
        (case side1 => repeat (first | exact (Kd.C_below HR0_0.out HB.out) | (with_reducible refine Kd.C_alloc ?_ _) | (with_reducible refine Kd.C_drewN ?_ _) | (with_reducible refine Kd.C_drew ?_)))
        (case side2 => exact HC0_0.out)
        rintro e w13 ⟨rfl, hb⟩
        refine ⟨_, rfl, ?_⟩
        have n0_ := A_ (blk_below (pl_ BK412) hb)
        have n1_ := A_ (below_step (bl_ HB) hb)
        clear BK412
        clear HB
        have BK412 := n0_
        have HB := n1_
        clear n0_ n1_
        (try clear hb)
        (try clear hb2)
        (try clear hk)
        (try clear hi)
        refine hK.out _ _ ⟨(blk_cell BK412.out 0).trans rfl, (blk_cell BK412.out 1).trans rfl, (blk_cell BK412.out 2).trans rfl, (blk_cell BK412.out 3).trans rfl, (blk_cell BK412.out 4).trans rfl, (blk_cell BK412.out 5).trans rfl, (by first | exact (HB.out.cell (World.block_lt_of_cell? w _ hw414_0)).trans hw414_0 | exact hw414_0)⟩ (fun hHeld => ?_)
        clear hK K
        refine norm_ (a' := ?_) ?_ ?_
        rotate_left
        ·show Act.put _ (some 24) _ = _
         simp only [Act.put, List.setIfInBounds_toArray, List.set_cons_zero, List.set_cons_succ, i64_w, i32_w]
         rfl
        refine one_ (i := 7) (N := some 7) #[true, true, true, true, true, true, true, true, false, false] rfl rfl (one_of HT_.out (by kernel_rfl)) (by decide) (fun K hK => ?_)
        refine box_step ?hg (N := 7) ?hd (cs := #[.int .i16 0, .int .i16 0, .int .i16 0, .int .i16 0]) (t := 30) ?hr ?_; (case hd => rfl); (case hg => rfl); (case hr => first | (go_simp; done) | (go_simp; rfl))
        intro gb419 hg w14 hbox hb
        have n0_ := A_ (blk_below (pl_ BK412) hb)
        have n1_ := A_ (below_step (bl_ HB) hb)
        have n2_ := A_ (hbox)
        have n3_ := A_ ((by rw [hg]; exact (below_size (bl_ HB)) : w.heap.size ≤ gb419))
        have n4_ := n3_
        have n5_ := A_ ((by rw [hg]; exact Nat.ne_of_lt (blk_lt (pl_ BK412)) : gb412 ≠ gb419))
        have n6_ := Aside0.mk n5_.out.symm
        clear BK412
        clear HB
        have BK412 := n0_
        have HB := n1_
        have BK419 := n2_
        have GW419 := n3_
        have GE419 := n4_
        have NB412_419 := n5_
        have NB419_412 := n6_
        clear n0_ n1_ n2_ n3_ n4_ n5_ n6_
        clear hb hbox hg
        refine hK.out _ _ ⟨(blk_cell BK412.out 0).trans rfl, (blk_cell BK412.out 1).trans rfl, (blk_cell BK412.out 2).trans rfl, (blk_cell BK412.out 3).trans rfl, (blk_cell BK412.out 4).trans rfl, (blk_cell BK412.out 5).trans rfl, (by first | exact (HB.out.cell (World.block_lt_of_cell? w _ hw414_0)).trans hw414_0 | exact hw414_0)⟩ (fun hHeld => ?_)
        clear hK K
        refine norm_ (a' := ?_) ?_ ?_
        rotate_left
        ·show Act.put _ (some 7) _ = _
         simp only [Act.put, List.setIfInBounds_toArray, List.set_cons_zero, List.set_cons_succ, i64_w, i32_w]
         rfl
        exact norm_ pa_ (hCont (gb419) _ ⟨hHeld, (pl_ BK412), (pl_ BK419), GW419.out, GE419.out, NB412_419.out, NB419_412.out, (bl_ HB)⟩)
       ·skip
        refine box_step ?hg (N := 7) ?hd (cs := #[.int .i16 0, .int .i16 0, .int .i16 0, .int .i16 0]) (t := 30) ?hr ?_; (case hd => rfl); (case hg => rfl); (case hr => first | (go_simp; done) | (go_simp; rfl))
        intro gb419 hg w13 hbox hb
        have n0_ := A_ (blk_below (pl_ BK412) hb)
        have n1_ := A_ (below_step (bl_ HB) hb)
        have n2_ := A_ (hbox)
        have n3_ := A_ ((by rw [hg]; exact (below_size (bl_ HB)) : w.heap.size ≤ gb419))
        have n4_ := n3_
        have n5_ := A_ ((by rw [hg]; exact Nat.ne_of_lt (blk_lt (pl_ BK412)) : gb412 ≠ gb419))
        have n6_ := Aside0.mk n5_.out.symm
        clear BK412
        clear HB
        have BK412 := n0_
        have HB := n1_
        have BK419 := n2_
        have GW419 := n3_
        have GE419 := n4_
        have NB412_419 := n5_
        have NB419_412 := n6_
        clear n0_ n1_ n2_ n3_ n4_ n5_ n6_
        clear hb hbox hg
        refine hK.out _ _ ⟨(blk_cell BK412.out 0).trans rfl, (blk_cell BK412.out 1).trans rfl, (blk_cell BK412.out 2).trans rfl, (blk_cell BK412.out 3).trans rfl, (blk_cell BK412.out 4).trans rfl, (blk_cell BK412.out 5).trans rfl, (by first | exact (HB.out.cell (World.block_lt_of_cell? w _ hw414_0)).trans hw414_0 | exact hw414_0)⟩ (fun hHeld => ?_)
        clear hK K
        refine norm_ (a' := ?_) ?_ ?_
        rotate_left
        ·show Act.put _ (some 7) _ = _
         simp only [Act.put, List.setIfInBounds_toArray, List.set_cons_zero, List.set_cons_succ, i64_w, i32_w]
         rfl
        refine one_ (i := 6) (N := some 24) #[true, true, true, true, true, true, true, true, false, false] rfl rfl (one_of HT_.out (by kernel_rfl)) (by decide) (fun K hK => ?_)
        refine goes_ Try.func67 (by kernel_rfl) rfl #[.agg #[.slice A0_0 l0_0.length c0_0, .int .i16 a0_1, .int .i16 a0_2, .int .i16 a0_3, .int .i16 a0_4, .bool a0_5], .int .i64 x15_1] (by rfl) rfl rfl arg_ ?_
        with_reducible refine (impl_Puzzle_at.calls k1 _ _ l0_0 a0_1 a0_2 a0_3 a0_4 a0_5 x15_1 t415 t416 t417 t418 _ ?side1 ?side2 A10.out).mono ?_
        (case side1 => repeat (first | exact (Kd.C_below HR0_0.out HB.out) | (with_reducible refine Kd.C_alloc ?_ _) | (with_reducible refine Kd.C_drewN ?_ _) | (with_reducible refine Kd.C_drew ?_)))
        (case side2 => exact HC0_0.out)
        rintro e w14 ⟨rfl, hb⟩
        refine ⟨_, rfl, ?_⟩
        have n0_ := A_ (blk_below (pl_ BK412) hb)
        have n1_ := A_ (blk_below (pl_ BK419) hb)
        have n2_ := A_ (below_step (bl_ HB) hb)
        clear BK412
        clear BK419
        clear HB
        have BK412 := n0_
        have BK419 := n1_
        have HB := n2_
        clear n0_ n1_ n2_
        (try clear hb)
        (try clear hb2)
        (try clear hk)
        (try clear hi)
        refine hK.out _ _ ⟨(blk_cell BK412.out 0).trans rfl, (blk_cell BK412.out 1).trans rfl, (blk_cell BK412.out 2).trans rfl, (blk_cell BK412.out 3).trans rfl, (blk_cell BK412.out 4).trans rfl, (blk_cell BK412.out 5).trans rfl, (by first | exact (HB.out.cell (World.block_lt_of_cell? w _ hw414_0)).trans hw414_0 | exact hw414_0)⟩ (fun hHeld => ?_)
        clear hK K
        refine norm_ (a' := ?_) ?_ ?_
        rotate_left
        ·show Act.put _ (some 24) _ = _
         simp only [Act.put, List.setIfInBounds_toArray, List.set_cons_zero, List.set_cons_succ, i64_w, i32_w]
         rfl
        exact norm_ pa_ (hCont (gb419) _ ⟨hHeld, (pl_ BK412), (pl_ BK419), GW419.out, GE419.out, NB412_419.out, NB419_412.out, (bl_ HB)⟩)
      rintro gb419 w15 ⟨hS_, h0_, h1_, h2_, h3_, h4_, h5_, h6_⟩
      have n0_ : Aside0 (w15.heap[gb412]? = some (.cells #[.slice A0_0 l0_0.length c0_0, .int .i16 a0_1, .int .i16 a0_2, .int .i16 a0_3, .int .i16 a0_4, .bool a0_5] 32 (0, 0))) := ⟨h0_⟩
      have n1_ : Aside0 (w15.heap[gb419]? = some (.cells #[.int .i16 0, .int .i16 0, .int .i16 0, .int .i16 0] 30 (0, 0))) := ⟨h1_⟩
      have n2_ : Aside0 (w.heap.size ≤ gb419) := ⟨h2_⟩
      have n3_ : Aside0 (w.heap.size ≤ gb419) := ⟨h3_⟩
      have n4_ : Aside0 (gb412 ≠ gb419) := ⟨h4_⟩
      have n5_ : Aside0 (gb419 ≠ gb412) := ⟨h5_⟩
      have n6_ : Aside0 (Below w.heap.size w w15) := ⟨h6_⟩
      clear BK412
      clear HB
      clear h0_ h1_ h2_ h3_ h4_ h5_ h6_
      have BK412 := n0_
      have BK419 := n1_
      have GW419 := n2_
      have GE419 := n3_
      have NB412_419 := n4_
      have NB419_412 := n5_
      have HB := n6_
      clear n0_ n1_ n2_ n3_ n4_ n5_ n6_
      have hHeld : w15.cell? ⟨gb412, 0, none⟩ = some (.slice A0_0 l0_0.length c0_0) ∧ w15.cell? ⟨gb412, 1, none⟩ = some (.int .i16 a0_1) ∧ w15.cell? ⟨gb412, 2, none⟩ = some (.int .i16 a0_2) ∧ w15.cell? ⟨gb412, 3, none⟩ = some (.int .i16 a0_3) ∧ w15.cell? ⟨gb412, 4, none⟩ = some (.int .i16 a0_4) ∧ w15.cell? ⟨gb412, 5, none⟩ = some (.bool a0_5) ∧ w15.cell? (ad414.add (x15_1).toNat) = some (.int .i16 (rd l1 x15_1)) := hS_
      refine norm_ (a' := ?_) ?_ ?_
      rotate_left
      ·simp only [putAll, Act.put, List.setIfInBounds_toArray, List.set_cons_zero, List.set_cons_succ]
       rfl
      refine pure_ (i := 8) (N := some 6) (v := ?_) (a' := ?_) #[true, true, true, true, true, true, true, true, true, false] rfl rfl (any_of HT_.out (by kernel_rfl)) (fun _ _ _ h => h) (Or.inl ⟨by rfl, ?_⟩) ?_ ?_
      rotate_left
      ·intro w'
       go_simp
       with_reducible rfl
      rotate_left
      ·simp only [Act.put, List.setIfInBounds_toArray, List.set_cons_zero, List.set_cons_succ, i64_w, i32_w]
       rfl
      refine one_ (i := 9) (N := none) #[true, true, true, true, true, true, true, true, true, true] rfl rfl (one_of HT_.out (by kernel_rfl)) (by decide) (fun K hK => ?_)
      have hs16 : w15.cell? ⟨gb419, 0, none⟩ = some (.int .i16 0) := (blk_cell BK419.out 0).trans rfl
      have hfs16 := blk_frozen BK419.out 0
      have hns16_0 := NB412_419.out
      have hms16_0 := NB419_412.out
      have hs17 : w15.cell? ⟨gb419, 1, none⟩ = some (.int .i16 0) := (blk_cell BK419.out 1).trans rfl
      have hfs17 := blk_frozen BK419.out 1
      have hns17_0 := NB412_419.out
      have hms17_0 := NB419_412.out
      have hs18 : w15.cell? ⟨gb419, 2, none⟩ = some (.int .i16 0) := (blk_cell BK419.out 2).trans rfl
      have hfs18 := blk_frozen BK419.out 2
      have hns18_0 := NB412_419.out
      have hms18_0 := NB419_412.out
      have hs19 : w15.cell? ⟨gb419, 3, none⟩ = some (.int .i16 0) := (blk_cell BK419.out 3).trans rfl
      have hfs19 := blk_frozen BK419.out 3
      have hns19_0 := NB412_419.out
      have hms19_0 := NB419_412.out
      refine skip_ (w1 := ?_) (by rfl) rfl ?_ ?_
      rotate_left
      ·go_simp
       rfl
      refine hK.out _ _ ⟨((cell_far (p := ⟨gb419, _, none⟩) NB412_419.out _).trans ((cf3_ NB412_419 (hHeld.1)))), ((cell_far (p := ⟨gb419, _, none⟩) NB412_419.out _).trans ((cf3_ NB412_419 (hHeld.2.1)))), ((cell_far (p := ⟨gb419, _, none⟩) NB412_419.out _).trans ((cf3_ NB412_419 (hHeld.2.2.1)))), ((cell_far (p := ⟨gb419, _, none⟩) NB412_419.out _).trans ((cf3_ NB412_419 (hHeld.2.2.2.1)))), ((cell_far (p := ⟨gb419, _, none⟩) NB412_419.out _).trans ((cf3_ NB412_419 (hHeld.2.2.2.2.1)))), ((cell_far (p := ⟨gb419, _, none⟩) NB412_419.out _).trans ((cf3_ NB412_419 (hHeld.2.2.2.2.2.1)))), ((cell_far (p := ⟨gb419, _, none⟩) (by first | exact Nat.ne_of_lt (Nat.lt_of_lt_of_le (by have := World.block_lt_of_cell? _ _ hw414_0; first | rwa [add_block] at this | exact this) GW419.out) | (rw [add_block]; exact Nat.ne_of_lt (Nat.lt_of_lt_of_le (by have := World.block_lt_of_cell? _ _ hw414_0; first | rwa [add_block] at this | exact this) GW419.out)) | (show (Addr.add _ _).block ≠ _; rw [add_block]; exact Nat.ne_of_lt (Nat.lt_of_lt_of_le (by have := World.block_lt_of_cell? _ _ hw414_0; first | rwa [add_block] at this | exact this) GW419.out)) | (dsimp only; exact Nat.ne_of_lt (Nat.lt_of_lt_of_le (by have := World.block_lt_of_cell? _ _ hw414_0; first | rwa [add_block] at this | exact this) GW419.out))) _).trans (((cell_far (p := ⟨gb419, _, none⟩) (by first | exact Nat.ne_of_lt (Nat.lt_of_lt_of_le (by have := World.block_lt_of_cell? _ _ hw414_0; first | rwa [add_block] at this | exact this) GW419.out) | (rw [add_block]; exact Nat.ne_of_lt (Nat.lt_of_lt_of_le (by have := World.block_lt_of_cell? _ _ hw414_0; first | rwa [add_block] at this | exact this) GW419.out)) | (show (Addr.add _ _).block ≠ _; rw [add_block]; exact Nat.ne_of_lt (Nat.lt_of_lt_of_le (by have := World.block_lt_of_cell? _ _ hw414_0; first | rwa [add_block] at this | exact this) GW419.out)) | (dsimp only; exact Nat.ne_of_lt (Nat.lt_of_lt_of_le (by have := World.block_lt_of_cell? _ _ hw414_0; first | rwa [add_block] at this | exact this) GW419.out))) _).trans (((cell_far (p := ⟨gb419, _, none⟩) (by first | exact Nat.ne_of_lt (Nat.lt_of_lt_of_le (by have := World.block_lt_of_cell? _ _ hw414_0; first | rwa [add_block] at this | exact this) GW419.out) | (rw [add_block]; exact Nat.ne_of_lt (Nat.lt_of_lt_of_le (by have := World.block_lt_of_cell? _ _ hw414_0; first | rwa [add_block] at this | exact this) GW419.out)) | (show (Addr.add _ _).block ≠ _; rw [add_block]; exact Nat.ne_of_lt (Nat.lt_of_lt_of_le (by have := World.block_lt_of_cell? _ _ hw414_0; first | rwa [add_block] at this | exact this) GW419.out)) | (dsimp only; exact Nat.ne_of_lt (Nat.lt_of_lt_of_le (by have := World.block_lt_of_cell? _ _ hw414_0; first | rwa [add_block] at this | exact this) GW419.out))) _).trans (((cell_far (p := ⟨gb419, _, none⟩) (by first | exact Nat.ne_of_lt (Nat.lt_of_lt_of_le (by have := World.block_lt_of_cell? _ _ hw414_0; first | rwa [add_block] at this | exact this) GW419.out) | (rw [add_block]; exact Nat.ne_of_lt (Nat.lt_of_lt_of_le (by have := World.block_lt_of_cell? _ _ hw414_0; first | rwa [add_block] at this | exact this) GW419.out)) | (show (Addr.add _ _).block ≠ _; rw [add_block]; exact Nat.ne_of_lt (Nat.lt_of_lt_of_le (by have := World.block_lt_of_cell? _ _ hw414_0; first | rwa [add_block] at this | exact this) GW419.out)) | (dsimp only; exact Nat.ne_of_lt (Nat.lt_of_lt_of_le (by have := World.block_lt_of_cell? _ _ hw414_0; first | rwa [add_block] at this | exact this) GW419.out))) _).trans (hHeld.2.2.2.2.2.2))))))))⟩ (fun hHeld => ?_)
      clear hK K
      refine done_ (done_of HT_.out (by kernel_rfl)) ?_
      go_upto_region 5 with (fail)
      go_cut [36] (fun v36 wc => ∃ (kq : Nat) (x36_10 : Bool), v36 = .bool x36_10 ∧ Aside0 (impl_Puzzle_broken.j1 kq l1 x15_1 (rd l1 x15_1) t413 x15_1 x36_10 l0_0 a0_1 a0_2 a0_3 a0_4 a0_5 t415 t416 t417 t418 = some r) ∧ Aside0 (kq ≤ k1) ∧ Aside0 (wc.heap[gb412]? = some (.cells #[(.slice A0_0 l0_0.length c0_0), .int .i16 a0_1, .int .i16 a0_2, .int .i16 a0_3, .int .i16 a0_4, .bool a0_5] 32 (0, 0))) ∧ Aside0 (wc.heap[gb419]? = some (.cells #[.int .i16 t415, .int .i16 t416, .int .i16 t417, .int .i16 t418] 30 (0, 0))) ∧ Aside0 (Below w.heap.size w wc))
      case first =>
       have H := HC11.out
       clear HC11
       by_cases c20 : (rd l1 x15_1) < (-1)
       ·rw [if_pos c20] at H
        have c20b0 : decide ((rd l1 x15_1) < (-1)) = true := decide_eq_true c20
        clear c20
        (first | rw [c20b0] | (simp only [i64_w, i32_w]; rw [c20b0]) | skip)
        have H' := Aside0.mk H
        clear H
        go_wp2
        go_meet
        case rel => exact ⟨_, (true), rs_, H', ⟨by have := HK1.out; first | omega | exact Nat.le_refl _⟩, ⟨pf_ BK412 NB412_419⟩, ⟨by (with_reducible repeat (first | refine blk_drewN ?_ _ | refine blk_drew ?_ | refine blk_alloc ?_ _)); refine blk_put (cs := #[.int .i16 t415, .int .i16 t416, .int .i16 t417, .int .i16 0]) ?_ 3 _ rfl; (with_reducible repeat (first | refine blk_drewN ?_ _ | refine blk_drew ?_ | refine blk_alloc ?_ _)); refine blk_put (cs := #[.int .i16 t415, .int .i16 t416, .int .i16 0, .int .i16 0]) ?_ 2 _ rfl; (with_reducible repeat (first | refine blk_drewN ?_ _ | refine blk_drew ?_ | refine blk_alloc ?_ _)); refine blk_put (cs := #[.int .i16 t415, .int .i16 0, .int .i16 0, .int .i16 0]) ?_ 1 _ rfl; (with_reducible repeat (first | refine blk_drewN ?_ _ | refine blk_drew ?_ | refine blk_alloc ?_ _)); refine blk_put (cs := #[.int .i16 0, .int .i16 0, .int .i16 0, .int .i16 0]) ?_ 0 _ rfl; (with_reducible repeat (first | refine blk_drewN ?_ _ | refine blk_drew ?_ | refine blk_alloc ?_ _)); exact BK419.out⟩, ⟨bs_ HB GE419⟩⟩
       ·rw [if_neg c20] at H
        have c20b0 : decide ((rd l1 x15_1) < (-1)) = false := decide_eq_false c20
        clear c20
        (first | rw [c20b0] | (simp only [i64_w, i32_w]; rw [c20b0]) | skip)
        by_cases c21 : (t415 == a0_1 && (t416 == a0_2 && (t417 == a0_3 && (t418 == a0_4)))) = true
        ·rw [if_pos c21] at H
         have c21b0 : (t415 == a0_1 && (t416 == a0_2 && (t417 == a0_3 && (t418 == a0_4)))) = true := c21
         (try (have c21b1 : decide (t415 = a0_1 && (t416 == a0_2 && (t417 == a0_3 && (t418 == a0_4)))) = true := by simpa using c21))
         (try (have c21b2 : (t415 == a0_1 && (t416 == a0_2 && (t417 == a0_3 && (t418 == a0_4)))) = true := by simpa using c21))
         clear c21
         have H' := Aside0.mk H
         clear H
         have hnb22 := NB419_412.out
         have hnc22 := NB412_419.out
         have hcz23_0 : w15.cell? ⟨gb419, 0, none⟩ = some (.int .i16 0) := (blk_cell BK419.out 0).trans rfl
         have hcz23_1 : w15.cell? ⟨gb419, 1, none⟩ = some (.int .i16 0) := (blk_cell BK419.out 1).trans rfl
         have hcz23_2 : w15.cell? ⟨gb419, 2, none⟩ = some (.int .i16 0) := (blk_cell BK419.out 2).trans rfl
         have hcz23_3 : w15.cell? ⟨gb419, 3, none⟩ = some (.int .i16 0) := (blk_cell BK419.out 3).trans rfl
         have hfz23_0 := blk_frozen BK419.out 0
         have hfz23_1 := blk_frozen BK419.out 1
         have hfz23_2 := blk_frozen BK419.out 2
         have hfz23_3 := blk_frozen BK419.out 3
         have hcz24_0 : w15.cell? ⟨gb412, 0, none⟩ = some (.slice A0_0 l0_0.length c0_0) := (blk_cell BK412.out 0).trans rfl
         have hcz24_1 : w15.cell? ⟨gb412, 1, none⟩ = some (.int .i16 a0_1) := (blk_cell BK412.out 1).trans rfl
         have hcz24_2 : w15.cell? ⟨gb412, 2, none⟩ = some (.int .i16 a0_2) := (blk_cell BK412.out 2).trans rfl
         have hcz24_3 : w15.cell? ⟨gb412, 3, none⟩ = some (.int .i16 a0_3) := (blk_cell BK412.out 3).trans rfl
         have hcz24_4 : w15.cell? ⟨gb412, 4, none⟩ = some (.int .i16 a0_4) := (blk_cell BK412.out 4).trans rfl
         have hcz24_5 : w15.cell? ⟨gb412, 5, none⟩ = some (.bool a0_5) := (blk_cell BK412.out 5).trans rfl
         have hfz24_0 := blk_frozen BK412.out 0
         have hfz24_1 := blk_frozen BK412.out 1
         have hfz24_2 := blk_frozen BK412.out 2
         have hfz24_3 := blk_frozen BK412.out 3
         have hfz24_4 := blk_frozen BK412.out 4
         have hfz24_5 := blk_frozen BK412.out 5
         go_wp2
         go_meet
         case rel => exact ⟨_, (((rd l1 x15_1) != 0)), rs_, H', ⟨by have := HK1.out; first | omega | exact Nat.le_refl _⟩, ⟨pf_ BK412 NB412_419⟩, ⟨by (with_reducible repeat (first | refine blk_drewN ?_ _ | refine blk_drew ?_ | refine blk_alloc ?_ _)); refine blk_put (cs := #[.int .i16 t415, .int .i16 t416, .int .i16 t417, .int .i16 0]) ?_ 3 _ rfl; (with_reducible repeat (first | refine blk_drewN ?_ _ | refine blk_drew ?_ | refine blk_alloc ?_ _)); refine blk_put (cs := #[.int .i16 t415, .int .i16 t416, .int .i16 0, .int .i16 0]) ?_ 2 _ rfl; (with_reducible repeat (first | refine blk_drewN ?_ _ | refine blk_drew ?_ | refine blk_alloc ?_ _)); refine blk_put (cs := #[.int .i16 t415, .int .i16 0, .int .i16 0, .int .i16 0]) ?_ 1 _ rfl; (with_reducible repeat (first | refine blk_drewN ?_ _ | refine blk_drew ?_ | refine blk_alloc ?_ _)); refine blk_put (cs := #[.int .i16 0, .int .i16 0, .int .i16 0, .int .i16 0]) ?_ 0 _ rfl; (with_reducible repeat (first | refine blk_drewN ?_ _ | refine blk_drew ?_ | refine blk_alloc ?_ _)); exact BK419.out⟩, ⟨bs_ HB GE419⟩⟩
        ·rw [if_neg c21] at H
         have c21b0 : (t415 == a0_1 && (t416 == a0_2 && (t417 == a0_3 && (t418 == a0_4)))) = false := by simpa using c21
         (try (have c21b1 : decide (t415 = a0_1 && (t416 == a0_2 && (t417 == a0_3 && (t418 == a0_4)))) = false := by simpa using c21))
         (try (have c21b2 : (t415 == a0_1 && (t416 == a0_2 && (t417 == a0_3 && (t418 == a0_4)))) = false := by simpa using c21))
         (try (have c21b3 : ¬ (t415 = a0_1 && (t416 == a0_2 && (t417 == a0_3 && (t418 == a0_4)))) := by simpa using c21))
         clear c21
         have H' := Aside0.mk H
         clear H
         have hnb25 := NB419_412.out
         have hnc25 := NB412_419.out
         have hcz26_0 : w15.cell? ⟨gb419, 0, none⟩ = some (.int .i16 0) := (blk_cell BK419.out 0).trans rfl
         have hcz26_1 : w15.cell? ⟨gb419, 1, none⟩ = some (.int .i16 0) := (blk_cell BK419.out 1).trans rfl
         have hcz26_2 : w15.cell? ⟨gb419, 2, none⟩ = some (.int .i16 0) := (blk_cell BK419.out 2).trans rfl
         have hcz26_3 : w15.cell? ⟨gb419, 3, none⟩ = some (.int .i16 0) := (blk_cell BK419.out 3).trans rfl
         have hfz26_0 := blk_frozen BK419.out 0
         have hfz26_1 := blk_frozen BK419.out 1
         have hfz26_2 := blk_frozen BK419.out 2
         have hfz26_3 := blk_frozen BK419.out 3
         have hcz27_0 : w15.cell? ⟨gb412, 0, none⟩ = some (.slice A0_0 l0_0.length c0_0) := (blk_cell BK412.out 0).trans rfl
         have hcz27_1 : w15.cell? ⟨gb412, 1, none⟩ = some (.int .i16 a0_1) := (blk_cell BK412.out 1).trans rfl
         have hcz27_2 : w15.cell? ⟨gb412, 2, none⟩ = some (.int .i16 a0_2) := (blk_cell BK412.out 2).trans rfl
         have hcz27_3 : w15.cell? ⟨gb412, 3, none⟩ = some (.int .i16 a0_3) := (blk_cell BK412.out 3).trans rfl
         have hcz27_4 : w15.cell? ⟨gb412, 4, none⟩ = some (.int .i16 a0_4) := (blk_cell BK412.out 4).trans rfl
         have hcz27_5 : w15.cell? ⟨gb412, 5, none⟩ = some (.bool a0_5) := (blk_cell BK412.out 5).trans rfl
         have hfz27_0 := blk_frozen BK412.out 0
         have hfz27_1 := blk_frozen BK412.out 1
         have hfz27_2 := blk_frozen BK412.out 2
         have hfz27_3 := blk_frozen BK412.out 3
         have hfz27_4 := blk_frozen BK412.out 4
         have hfz27_5 := blk_frozen BK412.out 5
         go_wp2
         go_meet
         case rel => exact ⟨_, (false), rs_, H', ⟨by have := HK1.out; first | omega | exact Nat.le_refl _⟩, ⟨pf_ BK412 NB412_419⟩, ⟨by (with_reducible repeat (first | refine blk_drewN ?_ _ | refine blk_drew ?_ | refine blk_alloc ?_ _)); refine blk_put (cs := #[.int .i16 t415, .int .i16 t416, .int .i16 t417, .int .i16 0]) ?_ 3 _ rfl; (with_reducible repeat (first | refine blk_drewN ?_ _ | refine blk_drew ?_ | refine blk_alloc ?_ _)); refine blk_put (cs := #[.int .i16 t415, .int .i16 t416, .int .i16 0, .int .i16 0]) ?_ 2 _ rfl; (with_reducible repeat (first | refine blk_drewN ?_ _ | refine blk_drew ?_ | refine blk_alloc ?_ _)); refine blk_put (cs := #[.int .i16 t415, .int .i16 0, .int .i16 0, .int .i16 0]) ?_ 1 _ rfl; (with_reducible repeat (first | refine blk_drewN ?_ _ | refine blk_drew ?_ | refine blk_alloc ?_ _)); refine blk_put (cs := #[.int .i16 0, .int .i16 0, .int .i16 0, .int .i16 0]) ?_ 0 _ rfl; (with_reducible repeat (first | refine blk_drewN ?_ _ | refine blk_drew ?_ | refine blk_alloc ?_ _)); exact BK419.out⟩, ⟨bs_ HB GE419⟩⟩
      case rest =>
       clear HC11
       try clear c1
       try clear c2
       try clear p2
       try clear p4
       try clear q4
       try clear hx4
       try clear c6
       try clear c7
       try clear c7b0
       try clear c8
       try clear c8b0
       try clear c9
       try clear c9b0
       try clear c20
       try clear c20b0
       try clear c21
       try clear c21b0
       try clear c21b1
       try clear c21b2
       try clear c22
       try clear c25
       try clear hcz23_0
       try clear hcz23_1
       try clear hcz23_2
       try clear hcz23_3
       try clear hcz24_0
       try clear hcz24_1
       try clear hcz24_2
       try clear hcz24_3
       try clear hcz24_4
       try clear hcz24_5
       try clear hcz26_0
       try clear hcz26_1
       try clear hcz26_2
       try clear hcz26_3
       try clear hcz27_0
       try clear hcz27_1
       try clear hcz27_2
       try clear hcz27_3
       try clear hcz27_4
       try clear hcz27_5
       try clear hcz5_0
       try clear hcz5_1
       try clear hcz5_2
       try clear hcz5_3
       try clear hcz5_4
       try clear hcz5_5
       try clear hfz23_0
       try clear hfz23_1
       try clear hfz23_2
       try clear hfz23_3
       try clear hfz24_0
       try clear hfz24_1
       try clear hfz24_2
       try clear hfz24_3
       try clear hfz24_4
       try clear hfz24_5
       try clear hfz26_0
       try clear hfz26_1
       try clear hfz26_2
       try clear hfz26_3
       try clear hfz27_0
       try clear hfz27_1
       try clear hfz27_2
       try clear hfz27_3
       try clear hfz27_4
       try clear hfz27_5
       try clear hfz5_0
       try clear hfz5_1
       try clear hfz5_2
       try clear hfz5_3
       try clear hfz5_4
       try clear hfz5_5
       try clear hx414_0
       try clear p2
       try clear p414
       try clear q414
       obtain ⟨kq, x36_10, rfl, HA, HJ10, BK412, BK419, HB⟩ := hcut
       cases kq with
       | zero => exact absurd HA.out (by simp [impl_Puzzle_broken.j1])
       | succ kj10 =>
        have H := HA.out
        clear HA
        simp only [impl_Puzzle_broken.j1] at H
        by_cases c28 : x36_10 = true
        ·subst c28
         have H1 : (some x15_1) = some r := by rw [if_pos rfl] at H; exact H
         clear H
         have H := H1
         clear H1
         obtain rfl := Option.some.inj H
         go_wp2
         go_ret
         exact ⟨by first | rfl | (simp [errW_none, errW_some] <;> rfl) | (simp [*, errW_none, errW_some] <;> rfl), bl_ HB⟩
        ·replace c28 := Bool.eq_false_iff.mpr c28
         subst c28
         have H1 : (if (rd l1 x15_1) = (-1) then (impl_Puzzle_broken.l0 kj10 l1 t413 (wrap64 (x15_1 + 1)) l0_0 a0_1 a0_2 a0_3 a0_4 a0_5) else ((impl_Puzzle_moves.f kj10 l0_0 a0_1 a0_2 a0_3 a0_4 a0_5 t415 t416 t417 t418).bind fun t420 => (impl_Puzzle_broken.l1 kj10 l1 x15_1 (rd l1 x15_1) t413 x15_1 t420 (t420.length : Int) 0 l0_0 a0_1 a0_2 a0_3 a0_4 a0_5 t415 t416 t417 t418))) = some r := by rw [if_neg (show ¬ (false = true) by decide)] at H; exact H
         clear H
         have H := H1
         clear H1
         by_cases c29 : (rd l1 x15_1) = (-1)
         ·rw [if_pos c29] at H
          have c29b0 : ((rd l1 x15_1) == (-1)) = true := beq_iff_eq.mpr c29
          have c29b1 : ((rd l1 x15_1) != (-1)) = false := bne_eq_false_iff_eq.mpr c29
          clear c29
          have H' := Aside0.mk H
          clear H
          go_wp2
          go_roundg kj10
          case measure => have := HK1.out; have := HJ10.out; omega
          case rel => exact ⟨(wrap64 (x15_1 + 1)), rs_, H', ⟨by have := HK1.out; have := HJ10.out; omega⟩, ⟨pl_ BK412⟩, ⟨bl_ HB⟩⟩
         ·rw [if_neg c29] at H
          have c29b0 : ((rd l1 x15_1) == (-1)) = false := beq_eq_false_iff_ne.mpr c29
          have c29b1 : ((rd l1 x15_1) != (-1)) = true := bne_iff_ne.mpr c29
          replace H := Option.bind_eq_some_iff.mp H
          obtain ⟨t420, A300, H⟩ := H
          replace H : (impl_Puzzle_broken.l1 kj10 l1 x15_1 (rd l1 x15_1) t413 x15_1 t420 (t420.length : Int) 0 l0_0 a0_1 a0_2 a0_3 a0_4 a0_5 t415 t416 t417 t418) = some r := H
          have A30 := Aside0.mk A300
          clear A300
          have H' := Aside0.mk H
          clear H
          have hnb31 := NB412_419.out
          have hnc31 := NB419_412.out
          have hcz32_0 : wc.cell? ⟨gb412, 0, none⟩ = some (.slice A0_0 l0_0.length c0_0) := (blk_cell BK412.out 0).trans rfl
          have hcz32_1 : wc.cell? ⟨gb412, 1, none⟩ = some (.int .i16 a0_1) := (blk_cell BK412.out 1).trans rfl
          have hcz32_2 : wc.cell? ⟨gb412, 2, none⟩ = some (.int .i16 a0_2) := (blk_cell BK412.out 2).trans rfl
          have hcz32_3 : wc.cell? ⟨gb412, 3, none⟩ = some (.int .i16 a0_3) := (blk_cell BK412.out 3).trans rfl
          have hcz32_4 : wc.cell? ⟨gb412, 4, none⟩ = some (.int .i16 a0_4) := (blk_cell BK412.out 4).trans rfl
          have hcz32_5 : wc.cell? ⟨gb412, 5, none⟩ = some (.bool a0_5) := (blk_cell BK412.out 5).trans rfl
          have hfz32_0 := blk_frozen BK412.out 0
          have hfz32_1 := blk_frozen BK412.out 1
          have hfz32_2 := blk_frozen BK412.out 2
          have hfz32_3 := blk_frozen BK412.out 3
          have hfz32_4 := blk_frozen BK412.out 4
          have hfz32_5 := blk_frozen BK412.out 5
          have hcz33_0 : wc.cell? ⟨gb419, 0, none⟩ = some (.int .i16 t415) := (blk_cell BK419.out 0).trans rfl
          have hcz33_1 : wc.cell? ⟨gb419, 1, none⟩ = some (.int .i16 t416) := (blk_cell BK419.out 1).trans rfl
          have hcz33_2 : wc.cell? ⟨gb419, 2, none⟩ = some (.int .i16 t417) := (blk_cell BK419.out 2).trans rfl
          have hcz33_3 : wc.cell? ⟨gb419, 3, none⟩ = some (.int .i16 t418) := (blk_cell BK419.out 3).trans rfl
          have hfz33_0 := blk_frozen BK419.out 0
          have hfz33_1 := blk_frozen BK419.out 1
          have hfz33_2 := blk_frozen BK419.out 2
          have hfz33_3 := blk_frozen BK419.out 3
          go_wp2_with (first | ((with_reducible refine gate_callee (f := 89) rfl ?_); refine goesL_ (some 42) rfl rfl Try.func89 (by kernel_rfl) rfl #[.agg #[.slice A0_0 l0_0.length c0_0, .int .i16 a0_1, .int .i16 a0_2, .int .i16 a0_3, .int .i16 a0_4, .bool a0_5], .agg #[.int .i16 t415, .int .i16 t416, .int .i16 t417, .int .i16 t418]] rfl arg_ ?_; (with_reducible refine (impl_Puzzle_moves.calls kj10 _ _ l0_0 a0_1 a0_2 a0_3 a0_4 a0_5 t415 t416 t417 t418 t420 _ ?side1 ?side2 A30.out).mono ?_); (case side1 => repeat (first | exact (Kd.C_below HR0_0.out HB.out) | (with_reducible refine Kd.C_alloc ?_ _) | (with_reducible refine Kd.C_drewN ?_ _) | (with_reducible refine Kd.C_drew ?_))); (case side2 => exact HC0_0.out); rintro e w34 ⟨v421, rfl, ho0, hb⟩; refine ⟨_, rfl, ?_⟩; have n0_ := A_ (Kd.R_lower ho0 (below_size (bl_ HB))); have n1_ := A_ (blk_below (pl_ BK412) hb); have n2_ := A_ (blk_below (pl_ BK419) hb); have n3_ := A_ (below_step (bl_ HB) hb); clear BK412; clear BK419; clear HB; have HO422 := n0_; have BK412 := n1_; have BK419 := n2_; have HB := n3_; clear n0_ n1_ n2_ n3_; (try clear hb); (try clear hb2); (try clear hk); (try clear hi); (try clear ho0); obtain ⟨Ao35, co35, eo35⟩ := Kd.R_slice HO422.out; subst eo35))
          go_loopg [44] kj10 (fun kq v44 w' => ∃ (x44_3 : Int), v44 = .int .i64 x44_3 ∧ Aside0 (impl_Puzzle_broken.l1 kq l1 x15_1 (rd l1 x15_1) t413 x15_1 t420 (t420.length : Int) x44_3 l0_0 a0_1 a0_2 a0_3 a0_4 a0_5 t415 t416 t417 t418 = some r) ∧ Aside0 (kq ≤ kj10) ∧ Aside0 (Kd.R k60 60 w' w.heap.size (fun _ => True) (.slice Ao35 t420.length co35) t420) ∧ Aside0 (w'.heap[gb412]? = some (.cells #[(.slice A0_0 l0_0.length c0_0), .int .i16 a0_1, .int .i16 a0_2, .int .i16 a0_3, .int .i16 a0_4, .bool a0_5] 32 (0, 0))) ∧ Aside0 (w'.heap[gb419]? = some (.cells #[.int .i16 t415, .int .i16 t416, .int .i16 t417, .int .i16 t418] 30 (0, 0))) ∧ Aside0 (Below w.heap.size w w'))
          case atStart => exact ⟨(0), rs_, H', ⟨Nat.le_refl _⟩, ⟨pr_ HO422⟩, ⟨pl_ BK412⟩, ⟨pl_ BK419⟩, ⟨bl_ HB⟩⟩
          case round =>
           clear H'
           try clear c1
           try clear c2
           try clear p2
           try clear c3
           try clear p4
           try clear q4
           try clear hx4
           try clear c6
           try clear p6
           try clear c7
           try clear c7b0
           try clear c8
           try clear c8b0
           try clear c9
           try clear c9b0
           try clear c20
           try clear c20b0
           try clear c21
           try clear c21b0
           try clear c21b1
           try clear c21b2
           try clear c22
           try clear c25
           try clear c28
           try clear c29
           try clear c29b0
           try clear c29b1
           try clear c31
           try clear hcz23_0
           try clear hcz23_1
           try clear hcz23_2
           try clear hcz23_3
           try clear hcz24_0
           try clear hcz24_1
           try clear hcz24_2
           try clear hcz24_3
           try clear hcz24_4
           try clear hcz24_5
           try clear hcz26_0
           try clear hcz26_1
           try clear hcz26_2
           try clear hcz26_3
           try clear hcz27_0
           try clear hcz27_1
           try clear hcz27_2
           try clear hcz27_3
           try clear hcz27_4
           try clear hcz27_5
           try clear hcz32_0
           try clear hcz32_1
           try clear hcz32_2
           try clear hcz32_3
           try clear hcz32_4
           try clear hcz32_5
           try clear hcz33_0
           try clear hcz33_1
           try clear hcz33_2
           try clear hcz33_3
           try clear hcz5_0
           try clear hcz5_1
           try clear hcz5_2
           try clear hcz5_3
           try clear hcz5_4
           try clear hcz5_5
           try clear hfz23_0
           try clear hfz23_1
           try clear hfz23_2
           try clear hfz23_3
           try clear hfz24_0
           try clear hfz24_1
           try clear hfz24_2
           try clear hfz24_3
           try clear hfz24_4
           try clear hfz24_5
           try clear hfz26_0
           try clear hfz26_1
           try clear hfz26_2
           try clear hfz26_3
           try clear hfz27_0
           try clear hfz27_1
           try clear hfz27_2
           try clear hfz27_3
           try clear hfz27_4
           try clear hfz27_5
           try clear hfz32_0
           try clear hfz32_1
           try clear hfz32_2
           try clear hfz32_3
           try clear hfz32_4
           try clear hfz32_5
           try clear hfz33_0
           try clear hfz33_1
           try clear hfz33_2
           try clear hfz33_3
           try clear hfz5_0
           try clear hfz5_1
           try clear hfz5_2
           try clear hfz5_3
           try clear hfz5_4
           try clear hfz5_5
           try clear hx414_0
           try clear p2
           try clear p4
           try clear p414
           try clear q4
           try clear q414
           obtain ⟨x44_3, rfl, HA, HK3, HO_42, BK412, BK419, HB⟩ := hrel
           cases gk with
           | zero => exact absurd HA.out (by simp [impl_Puzzle_broken.l1])
           | succ k3 =>
            have H := HA.out
            clear HA
            simp only [impl_Puzzle_broken.l1] at H
            by_cases c36 : x44_3 < (t420.length : Int)
            ·rw [if_pos c36] at H
             have c36b0 : decide (x44_3 < (t420.length : Int)) = true := decide_eq_true c36
             clear c36
             by_cases c37 : 0 ≤ x44_3
             ·rw [if_pos c37] at H
              have c37b0 : decide (0 ≤ x44_3) = true := decide_eq_true c37
              clear c37
              by_cases c38 : x44_3 < (t420.length : Int)
              ·rw [if_pos c38] at H
               have c38b0 : decide (x44_3 < (t420.length : Int)) = true := decide_eq_true c38
               clear c38
               replace H := Option.bind_eq_some_iff.mp H
               obtain ⟨⟨t425, t426, t427, t428, t429⟩, A390, H⟩ := H
               replace H : ((impl_Puzzle_index.f l0_0 a0_1 a0_2 a0_3 a0_4 a0_5 t425 t426 t427 t428).bind fun t431 => (if 0 ≤ t431 then (if t431 < (l1.length : Int) then (if (rd l1 t431) = (-1) then (some x15_1) else (if (wrap64 (rd l1 t431)) > (wrap64 ((wrap64 ((rd l1 x15_1))) + 1)) then (some x15_1) else (impl_Puzzle_broken.l1 k3 l1 x15_1 (rd l1 x15_1) t413 x15_1 t420 (t420.length : Int) (wrap64 (x44_3 + 1)) l0_0 a0_1 a0_2 a0_3 a0_4 a0_5 t415 t416 t417 t418))) else (none)) else (none))) = some r := H
               have A39 := Aside0.mk A390
               clear A390
               replace H := Option.bind_eq_some_iff.mp H
               obtain ⟨t431, A400, H⟩ := H
               replace H : (if 0 ≤ t431 then (if t431 < (l1.length : Int) then (if (rd l1 t431) = (-1) then (some x15_1) else (if (wrap64 (rd l1 t431)) > (wrap64 ((wrap64 ((rd l1 x15_1))) + 1)) then (some x15_1) else (impl_Puzzle_broken.l1 k3 l1 x15_1 (rd l1 x15_1) t413 x15_1 t420 (t420.length : Int) (wrap64 (x44_3 + 1)) l0_0 a0_1 a0_2 a0_3 a0_4 a0_5 t415 t416 t417 t418))) else (none)) else (none)) = some r := H
               have A40 := Aside0.mk A400
               clear A400
               by_cases c41 : 0 ≤ t431
               ·rw [if_pos c41] at H
                have c41b0 : decide (0 ≤ t431) = true := decide_eq_true c41
                clear c41
                by_cases c42 : t431 < (l1.length : Int)
                ·rw [if_pos c42] at H
                 have c42b0 : decide (t431 < (l1.length : Int)) = true := decide_eq_true c42
                 clear c42
                 by_cases c43 : (rd l1 t431) = (-1)
                 ·rw [if_pos c43] at H
                  have c43b0 : ((rd l1 t431) == (-1)) = true := beq_iff_eq.mpr c43
                  have c43b1 : ((rd l1 t431) != (-1)) = false := bne_eq_false_iff_eq.mpr c43
                  clear c43
                  obtain rfl := Option.some.inj H
                  have p423 : 0 ≤ (x44_3 : Int) := asm_
                  have q423 : x44_3 < (t420.length : Int) := asm_
                  obtain ⟨ad423, e423, hx423_0, hx423_1, hx423_2⟩ := at_T60 (Kd.R_reads' HO_42.out).2.2 x44_3 p423 q423
                  cases e423
                  replace p423 := eq_true p423
                  replace q423 := eq_true q423
                  go_wp2_with (first | ((with_reducible refine gate_dst (N := 9) rfl ?_); refine box_event ?hg (N := 9) ?hd (cs := #[.int .i8 0, .int .i8 0, .int .i8 0]) (t := 60) ?hr ?_; (case hd => rfl); (case hg => rfl); (case hr => first | (go_simp; done) | (go_simp; rfl)); intro gb424 hg w44 hbox hb; have n0_ := A_ (Kd.R_below (Kd.R_elderB (pr_ HO_42) gb424 (Nat.le_of_eq hg.symm)) hb); have n1_ := A_ (blk_below (pl_ BK412) hb); have n2_ := A_ (blk_below (pl_ BK419) hb); have n3_ := A_ (below_step (bl_ HB) hb); have n4_ := A_ (hbox); have n5_ := A_ ((by rw [hg]; exact (below_size (bl_ HB)) : w.heap.size ≤ gb424)); have n6_ := n5_; have n7_ := A_ ((by rw [hg]; exact Nat.ne_of_lt (blk_lt (pl_ BK412)) : gb412 ≠ gb424)); have n8_ := Aside0.mk n7_.out.symm; have n9_ := A_ ((by rw [hg]; exact Nat.ne_of_lt (blk_lt (pl_ BK419)) : gb419 ≠ gb424)); have n10_ := Aside0.mk n9_.out.symm; clear HO_42; clear BK412; clear BK419; clear HB; have HO_42 := n0_; have BK412 := n1_; have BK419 := n2_; have HB := n3_; have BK424 := n4_; have GW424 := n5_; have GE424 := n6_; have NB412_424 := n7_; have NB424_412 := n8_; have NB419_424 := n9_; have NB424_419 := n10_; clear n0_ n1_ n2_ n3_ n4_ n5_ n6_ n7_ n8_ n9_ n10_; clear hb hbox hg; have hnb45 := NB424_412.out; have hnc45 := NB412_424.out; have hnb46 := NB424_419.out; have hnc46 := NB419_424.out; have hcz47_0 : w44.cell? ⟨gb424, 0, none⟩ = some (.int .i8 0) := (blk_cell BK424.out 0).trans rfl; have hcz47_1 : w44.cell? ⟨gb424, 1, none⟩ = some (.int .i8 0) := (blk_cell BK424.out 1).trans rfl; have hcz47_2 : w44.cell? ⟨gb424, 2, none⟩ = some (.int .i8 0) := (blk_cell BK424.out 2).trans rfl; have hfz47_0 := blk_frozen BK424.out 0; have hfz47_1 := blk_frozen BK424.out 1; have hfz47_2 := blk_frozen BK424.out 2; have hnb48 := NB412_419.out; have hnc48 := NB419_412.out; have hcz49_0 : w44.cell? ⟨gb412, 0, none⟩ = some (.slice A0_0 l0_0.length c0_0) := (blk_cell BK412.out 0).trans rfl; have hcz49_1 : w44.cell? ⟨gb412, 1, none⟩ = some (.int .i16 a0_1) := (blk_cell BK412.out 1).trans rfl; have hcz49_2 : w44.cell? ⟨gb412, 2, none⟩ = some (.int .i16 a0_2) := (blk_cell BK412.out 2).trans rfl; have hcz49_3 : w44.cell? ⟨gb412, 3, none⟩ = some (.int .i16 a0_3) := (blk_cell BK412.out 3).trans rfl; have hcz49_4 : w44.cell? ⟨gb412, 4, none⟩ = some (.int .i16 a0_4) := (blk_cell BK412.out 4).trans rfl; have hcz49_5 : w44.cell? ⟨gb412, 5, none⟩ = some (.bool a0_5) := (blk_cell BK412.out 5).trans rfl; have hfz49_0 := blk_frozen BK412.out 0; have hfz49_1 := blk_frozen BK412.out 1; have hfz49_2 := blk_frozen BK412.out 2; have hfz49_3 := blk_frozen BK412.out 3; have hfz49_4 := blk_frozen BK412.out 4; have hfz49_5 := blk_frozen BK412.out 5; have hcz50_0 : w44.cell? ⟨gb419, 0, none⟩ = some (.int .i16 t415) := (blk_cell BK419.out 0).trans rfl; have hcz50_1 : w44.cell? ⟨gb419, 1, none⟩ = some (.int .i16 t416) := (blk_cell BK419.out 1).trans rfl; have hcz50_2 : w44.cell? ⟨gb419, 2, none⟩ = some (.int .i16 t417) := (blk_cell BK419.out 2).trans rfl; have hcz50_3 : w44.cell? ⟨gb419, 3, none⟩ = some (.int .i16 t418) := (blk_cell BK419.out 3).trans rfl; have hfz50_0 := blk_frozen BK419.out 0; have hfz50_1 := blk_frozen BK419.out 1; have hfz50_2 := blk_frozen BK419.out 2; have hfz50_3 := blk_frozen BK419.out 3) | ((with_reducible refine gate_callee (f := 87) rfl ?_); refine goesL_ (some 52) rfl rfl Try.func87 (by kernel_rfl) rfl #[.agg #[.slice A0_0 l0_0.length c0_0, .int .i16 a0_1, .int .i16 a0_2, .int .i16 a0_3, .int .i16 a0_4, .bool a0_5], .agg #[.int .i16 t415, .int .i16 t416, .int .i16 t417, .int .i16 t418], .agg #[.int .i8 ((rd_T60 t420 x44_3).f0), .int .i8 ((rd_T60 t420 x44_3).f1), .int .i8 ((rd_T60 t420 x44_3).f2)]] rfl arg_ ?_; (with_reducible refine (impl_Puzzle_moved.calls k3 _ _ l0_0 a0_1 a0_2 a0_3 a0_4 a0_5 t415 t416 t417 t418 ((rd_T60 t420 x44_3).f0) ((rd_T60 t420 x44_3).f1) ((rd_T60 t420 x44_3).f2) t425 t426 t427 t428 t429 _ ?side1 ?side2 A39.out).mono ?_); (case side1 => exact Kd.C_below HR0_0.out (bs_ HB GE424)); (case side2 => exact HC0_0.out); rintro e w51 ⟨rfl, hb⟩; refine ⟨_, rfl, ?_⟩; have n0_ := A_ (Kd.R_below (by (with_reducible repeat (first | apply Kd.R_alloc | apply Kd.R_drewN | apply Kd.R_drew)); exact (Kd.R_mono (Kd.R_far (p := ⟨gb424, 2, none⟩) (Kd.R_far (p := ⟨gb424, 1, none⟩) (Kd.R_far (p := ⟨gb424, 0, none⟩) (Kd.R_mono HO_42.out (fun k_ hk => (⟨hk, hk.2⟩ : _ ∧ k_ ≠ gb424))) (fun _ hk => hk.2) (.int .i8 ((rd_T60 t420 x44_3).f0))) (fun _ hk => hk.2) (.int .i8 ((rd_T60 t420 x44_3).f1))) (fun _ hk => hk.2) (.int .i8 ((rd_T60 t420 x44_3).f2))) (fun _ h_ => h_.1))) hb); have n1_ := A_ (blk_below (g := gb412) (o := .cells #[.slice A0_0 l0_0.length c0_0, .int .i16 a0_1, .int .i16 a0_2, .int .i16 a0_3, .int .i16 a0_4, .bool a0_5] 32 (0, 0)) (pf_ BK412 NB412_424) hb); have n2_ := A_ (blk_below (g := gb419) (o := .cells #[.int .i16 t415, .int .i16 t416, .int .i16 t417, .int .i16 t418] 30 (0, 0)) (pf_ BK419 NB419_424) hb); have n3_ := A_ (blk_below (g := gb424) (o := .cells #[.int .i8 ((rd_T60 t420 x44_3).f0), .int .i8 ((rd_T60 t420 x44_3).f1), .int .i8 ((rd_T60 t420 x44_3).f2)] 60 (0, 0)) (by (with_reducible repeat (first | refine blk_drewN ?_ _ | refine blk_drew ?_ | refine blk_alloc ?_ _)); refine blk_put (cs := #[.int .i8 ((rd_T60 t420 x44_3).f0), .int .i8 ((rd_T60 t420 x44_3).f1), .int .i8 0]) ?_ 2 _ rfl; (with_reducible repeat (first | refine blk_drewN ?_ _ | refine blk_drew ?_ | refine blk_alloc ?_ _)); refine blk_put (cs := #[.int .i8 ((rd_T60 t420 x44_3).f0), .int .i8 0, .int .i8 0]) ?_ 1 _ rfl; (with_reducible repeat (first | refine blk_drewN ?_ _ | refine blk_drew ?_ | refine blk_alloc ?_ _)); refine blk_put (cs := #[.int .i8 0, .int .i8 0, .int .i8 0]) ?_ 0 _ rfl; (with_reducible repeat (first | refine blk_drewN ?_ _ | refine blk_drew ?_ | refine blk_alloc ?_ _)); exact BK424.out) hb); have n4_ := A_ (below_step (bs_ HB GE424) hb); clear HO_42; clear BK412; clear BK419; clear BK424; clear HB; have HO_42 := n0_; have BK412 := n1_; have BK419 := n2_; have BK424 := n3_; have HB := n4_; clear n0_ n1_ n2_ n3_ n4_; (try clear hb); (try clear hb2); (try clear hk); (try clear hi)) | ((with_reducible refine gate_dst (N := 10) rfl ?_); refine box_event ?hg (N := 10) ?hd (cs := #[.int .i16 0, .int .i16 0, .int .i16 0, .int .i16 0]) (t := 30) ?hr ?_; (case hd => rfl); (case hg => rfl); (case hr => first | (go_simp; done) | (go_simp; rfl)); intro gb430 hg w52 hbox hb; have n0_ := A_ (Kd.R_below (pr_ HO_42) hb); have n1_ := A_ (blk_below (pl_ BK412) hb); have n2_ := A_ (blk_below (pl_ BK419) hb); have n3_ := A_ (blk_below (pl_ BK424) hb); have n4_ := A_ (below_step (bl_ HB) hb); have n5_ := A_ (hbox); have n6_ := A_ ((by rw [hg]; exact (below_size (bl_ HB)) : w.heap.size ≤ gb430)); have n7_ := n6_; have n8_ := A_ ((by rw [hg]; exact Nat.ne_of_lt (blk_lt (pl_ BK412)) : gb412 ≠ gb430)); have n9_ := Aside0.mk n8_.out.symm; have n10_ := A_ ((by rw [hg]; exact Nat.ne_of_lt (blk_lt (pl_ BK419)) : gb419 ≠ gb430)); have n11_ := Aside0.mk n10_.out.symm; have n12_ := A_ ((by rw [hg]; exact Nat.ne_of_lt (blk_lt (pl_ BK424)) : gb424 ≠ gb430)); have n13_ := Aside0.mk n12_.out.symm; clear HO_42; clear BK412; clear BK419; clear BK424; clear HB; have HO_42 := n0_; have BK412 := n1_; have BK419 := n2_; have BK424 := n3_; have HB := n4_; have BK430 := n5_; have GW430 := n6_; have GE430 := n7_; have NB412_430 := n8_; have NB430_412 := n9_; have NB419_430 := n10_; have NB430_419 := n11_; have NB424_430 := n12_; have NB430_424 := n13_; clear n0_ n1_ n2_ n3_ n4_ n5_ n6_ n7_ n8_ n9_ n10_ n11_ n12_ n13_; clear hb hbox hg; have hnb53 := NB430_412.out; have hnc53 := NB412_430.out; have hnb54 := NB430_419.out; have hnc54 := NB419_430.out; have hnb55 := NB430_424.out; have hnc55 := NB424_430.out; have hcz56_0 : w52.cell? ⟨gb430, 0, none⟩ = some (.int .i16 0) := (blk_cell BK430.out 0).trans rfl; have hcz56_1 : w52.cell? ⟨gb430, 1, none⟩ = some (.int .i16 0) := (blk_cell BK430.out 1).trans rfl; have hcz56_2 : w52.cell? ⟨gb430, 2, none⟩ = some (.int .i16 0) := (blk_cell BK430.out 2).trans rfl; have hcz56_3 : w52.cell? ⟨gb430, 3, none⟩ = some (.int .i16 0) := (blk_cell BK430.out 3).trans rfl; have hfz56_0 := blk_frozen BK430.out 0; have hfz56_1 := blk_frozen BK430.out 1; have hfz56_2 := blk_frozen BK430.out 2; have hfz56_3 := blk_frozen BK430.out 3; have hcz57_0 : w52.cell? ⟨gb412, 0, none⟩ = some (.slice A0_0 l0_0.length c0_0) := (blk_cell BK412.out 0).trans rfl; have hcz57_1 : w52.cell? ⟨gb412, 1, none⟩ = some (.int .i16 a0_1) := (blk_cell BK412.out 1).trans rfl; have hcz57_2 : w52.cell? ⟨gb412, 2, none⟩ = some (.int .i16 a0_2) := (blk_cell BK412.out 2).trans rfl; have hcz57_3 : w52.cell? ⟨gb412, 3, none⟩ = some (.int .i16 a0_3) := (blk_cell BK412.out 3).trans rfl; have hcz57_4 : w52.cell? ⟨gb412, 4, none⟩ = some (.int .i16 a0_4) := (blk_cell BK412.out 4).trans rfl; have hcz57_5 : w52.cell? ⟨gb412, 5, none⟩ = some (.bool a0_5) := (blk_cell BK412.out 5).trans rfl; have hfz57_0 := blk_frozen BK412.out 0; have hfz57_1 := blk_frozen BK412.out 1; have hfz57_2 := blk_frozen BK412.out 2; have hfz57_3 := blk_frozen BK412.out 3; have hfz57_4 := blk_frozen BK412.out 4; have hfz57_5 := blk_frozen BK412.out 5) | ((with_reducible refine gate_callee (f := 79) rfl ?_); refine goesL_ (some 58) rfl rfl Try.func79 (by kernel_rfl) rfl #[.agg #[.slice A0_0 l0_0.length c0_0, .int .i16 a0_1, .int .i16 a0_2, .int .i16 a0_3, .int .i16 a0_4, .bool a0_5], .agg #[.int .i16 t425, .int .i16 t426, .int .i16 t427, .int .i16 t428]] rfl arg_ ?_; (with_reducible refine (impl_Puzzle_index.calls _ _ l0_0 a0_1 a0_2 a0_3 a0_4 a0_5 t425 t426 t427 t428 t431 _ ?side1 ?side2 A40.out).mono ?_); (case side1 => exact Kd.C_below HR0_0.out (bs_ HB GE430)); (case side2 => exact HC0_0.out); rintro e w58 ⟨rfl, hb⟩; refine ⟨_, rfl, ?_⟩; have n0_ := A_ (Kd.R_below (by (with_reducible repeat (first | apply Kd.R_alloc | apply Kd.R_drewN | apply Kd.R_drew)); exact (rf4_ HO_42 BK430 (by decide))) hb); have n1_ := A_ (blk_below (g := gb412) (o := .cells #[.slice A0_0 l0_0.length c0_0, .int .i16 a0_1, .int .i16 a0_2, .int .i16 a0_3, .int .i16 a0_4, .bool a0_5] 32 (0, 0)) (pf_ BK412 NB412_430) hb); have n2_ := A_ (blk_below (g := gb419) (o := .cells #[.int .i16 t415, .int .i16 t416, .int .i16 t417, .int .i16 t418] 30 (0, 0)) (pf_ BK419 NB419_430) hb); have n3_ := A_ (blk_below (g := gb424) (o := .cells #[.int .i8 ((rd_T60 t420 x44_3).f0), .int .i8 ((rd_T60 t420 x44_3).f1), .int .i8 ((rd_T60 t420 x44_3).f2)] 60 (0, 0)) (pf_ BK424 NB424_430) hb); have n4_ := A_ (blk_below (g := gb430) (o := .cells #[.int .i16 t425, .int .i16 t426, .int .i16 t427, .int .i16 t428] 30 (0, 0)) (by (with_reducible repeat (first | refine blk_drewN ?_ _ | refine blk_drew ?_ | refine blk_alloc ?_ _)); refine blk_put (cs := #[.int .i16 t425, .int .i16 t426, .int .i16 t427, .int .i16 0]) ?_ 3 _ rfl; (with_reducible repeat (first | refine blk_drewN ?_ _ | refine blk_drew ?_ | refine blk_alloc ?_ _)); refine blk_put (cs := #[.int .i16 t425, .int .i16 t426, .int .i16 0, .int .i16 0]) ?_ 2 _ rfl; (with_reducible repeat (first | refine blk_drewN ?_ _ | refine blk_drew ?_ | refine blk_alloc ?_ _)); refine blk_put (cs := #[.int .i16 t425, .int .i16 0, .int .i16 0, .int .i16 0]) ?_ 1 _ rfl; (with_reducible repeat (first | refine blk_drewN ?_ _ | refine blk_drew ?_ | refine blk_alloc ?_ _)); refine blk_put (cs := #[.int .i16 0, .int .i16 0, .int .i16 0, .int .i16 0]) ?_ 0 _ rfl; (with_reducible repeat (first | refine blk_drewN ?_ _ | refine blk_drew ?_ | refine blk_alloc ?_ _)); exact BK430.out) hb); have n5_ := A_ (below_step (bs_ HB GE430) hb); clear HO_42; clear BK412; clear BK419; clear BK424; clear BK430; clear HB; have HO_42 := n0_; have BK412 := n1_; have BK419 := n2_; have BK424 := n3_; have BK430 := n4_; have HB := n5_; clear n0_ n1_ n2_ n3_ n4_ n5_; (try clear hb); (try clear hb2); (try clear hk); (try clear hi); have p432 : 0 ≤ (t431 : Int) := asm_; have q432 : t431 < (l1.length : Int) := asm_; obtain ⟨ad432, e432, hx432_0⟩ := Kd.at_int HR1.out t431 p432 q432; obtain rfl : ad414 = ad432 := (by injection e432); (try replace hx432_0 := (HB.out.cell (World.block_lt_of_cell? w _ hx432_0)).trans hx432_0); replace p432 := eq_true p432; replace q432 := eq_true q432))
                  go_ret
                  exact ⟨by first | rfl | (simp [errW_none, errW_some] <;> rfl) | (simp [*, errW_none, errW_some] <;> rfl), bl_ HB⟩
                 ·rw [if_neg c43] at H
                  have c43b0 : ((rd l1 t431) == (-1)) = false := beq_eq_false_iff_ne.mpr c43
                  have c43b1 : ((rd l1 t431) != (-1)) = true := bne_iff_ne.mpr c43
                  by_cases c59 : (wrap64 (rd l1 t431)) > (wrap64 ((wrap64 ((rd l1 x15_1))) + 1))
                  ·rw [if_pos c59] at H
                   have c59b0 : decide ((wrap64 ((wrap64 ((rd l1 x15_1))) + 1)) < (wrap64 (rd l1 t431))) = true := decide_eq_true c59
                   clear c59
                   obtain rfl := Option.some.inj H
                   have p423 : 0 ≤ (x44_3 : Int) := asm_
                   have q423 : x44_3 < (t420.length : Int) := asm_
                   obtain ⟨ad423, e423, hx423_0, hx423_1, hx423_2⟩ := at_T60 (Kd.R_reads' HO_42.out).2.2 x44_3 p423 q423
                   cases e423
                   replace p423 := eq_true p423
                   replace q423 := eq_true q423
                   go_wp2_with (first | ((with_reducible refine gate_dst (N := 9) rfl ?_); refine box_event ?hg (N := 9) ?hd (cs := #[.int .i8 0, .int .i8 0, .int .i8 0]) (t := 60) ?hr ?_; (case hd => rfl); (case hg => rfl); (case hr => first | (go_simp; done) | (go_simp; rfl)); intro gb424 hg w60 hbox hb; have n0_ := A_ (Kd.R_below (Kd.R_elderB (pr_ HO_42) gb424 (Nat.le_of_eq hg.symm)) hb); have n1_ := A_ (blk_below (pl_ BK412) hb); have n2_ := A_ (blk_below (pl_ BK419) hb); have n3_ := A_ (below_step (bl_ HB) hb); have n4_ := A_ (hbox); have n5_ := A_ ((by rw [hg]; exact (below_size (bl_ HB)) : w.heap.size ≤ gb424)); have n6_ := n5_; have n7_ := A_ ((by rw [hg]; exact Nat.ne_of_lt (blk_lt (pl_ BK412)) : gb412 ≠ gb424)); have n8_ := Aside0.mk n7_.out.symm; have n9_ := A_ ((by rw [hg]; exact Nat.ne_of_lt (blk_lt (pl_ BK419)) : gb419 ≠ gb424)); have n10_ := Aside0.mk n9_.out.symm; clear HO_42; clear BK412; clear BK419; clear HB; have HO_42 := n0_; have BK412 := n1_; have BK419 := n2_; have HB := n3_; have BK424 := n4_; have GW424 := n5_; have GE424 := n6_; have NB412_424 := n7_; have NB424_412 := n8_; have NB419_424 := n9_; have NB424_419 := n10_; clear n0_ n1_ n2_ n3_ n4_ n5_ n6_ n7_ n8_ n9_ n10_; clear hb hbox hg; have hnb61 := NB424_412.out; have hnc61 := NB412_424.out; have hnb62 := NB424_419.out; have hnc62 := NB419_424.out; have hcz63_0 : w60.cell? ⟨gb424, 0, none⟩ = some (.int .i8 0) := (blk_cell BK424.out 0).trans rfl; have hcz63_1 : w60.cell? ⟨gb424, 1, none⟩ = some (.int .i8 0) := (blk_cell BK424.out 1).trans rfl; have hcz63_2 : w60.cell? ⟨gb424, 2, none⟩ = some (.int .i8 0) := (blk_cell BK424.out 2).trans rfl; have hfz63_0 := blk_frozen BK424.out 0; have hfz63_1 := blk_frozen BK424.out 1; have hfz63_2 := blk_frozen BK424.out 2; have hnb64 := NB412_419.out; have hnc64 := NB419_412.out; have hcz65_0 : w60.cell? ⟨gb412, 0, none⟩ = some (.slice A0_0 l0_0.length c0_0) := (blk_cell BK412.out 0).trans rfl; have hcz65_1 : w60.cell? ⟨gb412, 1, none⟩ = some (.int .i16 a0_1) := (blk_cell BK412.out 1).trans rfl; have hcz65_2 : w60.cell? ⟨gb412, 2, none⟩ = some (.int .i16 a0_2) := (blk_cell BK412.out 2).trans rfl; have hcz65_3 : w60.cell? ⟨gb412, 3, none⟩ = some (.int .i16 a0_3) := (blk_cell BK412.out 3).trans rfl; have hcz65_4 : w60.cell? ⟨gb412, 4, none⟩ = some (.int .i16 a0_4) := (blk_cell BK412.out 4).trans rfl; have hcz65_5 : w60.cell? ⟨gb412, 5, none⟩ = some (.bool a0_5) := (blk_cell BK412.out 5).trans rfl; have hfz65_0 := blk_frozen BK412.out 0; have hfz65_1 := blk_frozen BK412.out 1; have hfz65_2 := blk_frozen BK412.out 2; have hfz65_3 := blk_frozen BK412.out 3; have hfz65_4 := blk_frozen BK412.out 4; have hfz65_5 := blk_frozen BK412.out 5; have hcz66_0 : w60.cell? ⟨gb419, 0, none⟩ = some (.int .i16 t415) := (blk_cell BK419.out 0).trans rfl; have hcz66_1 : w60.cell? ⟨gb419, 1, none⟩ = some (.int .i16 t416) := (blk_cell BK419.out 1).trans rfl; have hcz66_2 : w60.cell? ⟨gb419, 2, none⟩ = some (.int .i16 t417) := (blk_cell BK419.out 2).trans rfl; have hcz66_3 : w60.cell? ⟨gb419, 3, none⟩ = some (.int .i16 t418) := (blk_cell BK419.out 3).trans rfl; have hfz66_0 := blk_frozen BK419.out 0; have hfz66_1 := blk_frozen BK419.out 1; have hfz66_2 := blk_frozen BK419.out 2; have hfz66_3 := blk_frozen BK419.out 3) | ((with_reducible refine gate_callee (f := 87) rfl ?_); refine goesL_ (some 52) rfl rfl Try.func87 (by kernel_rfl) rfl #[.agg #[.slice A0_0 l0_0.length c0_0, .int .i16 a0_1, .int .i16 a0_2, .int .i16 a0_3, .int .i16 a0_4, .bool a0_5], .agg #[.int .i16 t415, .int .i16 t416, .int .i16 t417, .int .i16 t418], .agg #[.int .i8 ((rd_T60 t420 x44_3).f0), .int .i8 ((rd_T60 t420 x44_3).f1), .int .i8 ((rd_T60 t420 x44_3).f2)]] rfl arg_ ?_; (with_reducible refine (impl_Puzzle_moved.calls k3 _ _ l0_0 a0_1 a0_2 a0_3 a0_4 a0_5 t415 t416 t417 t418 ((rd_T60 t420 x44_3).f0) ((rd_T60 t420 x44_3).f1) ((rd_T60 t420 x44_3).f2) t425 t426 t427 t428 t429 _ ?side1 ?side2 A39.out).mono ?_); (case side1 => exact Kd.C_below HR0_0.out (bs_ HB GE424)); (case side2 => exact HC0_0.out); rintro e w67 ⟨rfl, hb⟩; refine ⟨_, rfl, ?_⟩; have n0_ := A_ (Kd.R_below (by (with_reducible repeat (first | apply Kd.R_alloc | apply Kd.R_drewN | apply Kd.R_drew)); exact (Kd.R_mono (Kd.R_far (p := ⟨gb424, 2, none⟩) (Kd.R_far (p := ⟨gb424, 1, none⟩) (Kd.R_far (p := ⟨gb424, 0, none⟩) (Kd.R_mono HO_42.out (fun k_ hk => (⟨hk, hk.2⟩ : _ ∧ k_ ≠ gb424))) (fun _ hk => hk.2) (.int .i8 ((rd_T60 t420 x44_3).f0))) (fun _ hk => hk.2) (.int .i8 ((rd_T60 t420 x44_3).f1))) (fun _ hk => hk.2) (.int .i8 ((rd_T60 t420 x44_3).f2))) (fun _ h_ => h_.1))) hb); have n1_ := A_ (blk_below (g := gb412) (o := .cells #[.slice A0_0 l0_0.length c0_0, .int .i16 a0_1, .int .i16 a0_2, .int .i16 a0_3, .int .i16 a0_4, .bool a0_5] 32 (0, 0)) (pf_ BK412 NB412_424) hb); have n2_ := A_ (blk_below (g := gb419) (o := .cells #[.int .i16 t415, .int .i16 t416, .int .i16 t417, .int .i16 t418] 30 (0, 0)) (pf_ BK419 NB419_424) hb); have n3_ := A_ (blk_below (g := gb424) (o := .cells #[.int .i8 ((rd_T60 t420 x44_3).f0), .int .i8 ((rd_T60 t420 x44_3).f1), .int .i8 ((rd_T60 t420 x44_3).f2)] 60 (0, 0)) (by (with_reducible repeat (first | refine blk_drewN ?_ _ | refine blk_drew ?_ | refine blk_alloc ?_ _)); refine blk_put (cs := #[.int .i8 ((rd_T60 t420 x44_3).f0), .int .i8 ((rd_T60 t420 x44_3).f1), .int .i8 0]) ?_ 2 _ rfl; (with_reducible repeat (first | refine blk_drewN ?_ _ | refine blk_drew ?_ | refine blk_alloc ?_ _)); refine blk_put (cs := #[.int .i8 ((rd_T60 t420 x44_3).f0), .int .i8 0, .int .i8 0]) ?_ 1 _ rfl; (with_reducible repeat (first | refine blk_drewN ?_ _ | refine blk_drew ?_ | refine blk_alloc ?_ _)); refine blk_put (cs := #[.int .i8 0, .int .i8 0, .int .i8 0]) ?_ 0 _ rfl; (with_reducible repeat (first | refine blk_drewN ?_ _ | refine blk_drew ?_ | refine blk_alloc ?_ _)); exact BK424.out) hb); have n4_ := A_ (below_step (bs_ HB GE424) hb); clear HO_42; clear BK412; clear BK419; clear BK424; clear HB; have HO_42 := n0_; have BK412 := n1_; have BK419 := n2_; have BK424 := n3_; have HB := n4_; clear n0_ n1_ n2_ n3_ n4_; (try clear hb); (try clear hb2); (try clear hk); (try clear hi)) | ((with_reducible refine gate_dst (N := 10) rfl ?_); refine box_event ?hg (N := 10) ?hd (cs := #[.int .i16 0, .int .i16 0, .int .i16 0, .int .i16 0]) (t := 30) ?hr ?_; (case hd => rfl); (case hg => rfl); (case hr => first | (go_simp; done) | (go_simp; rfl)); intro gb430 hg w68 hbox hb; have n0_ := A_ (Kd.R_below (pr_ HO_42) hb); have n1_ := A_ (blk_below (pl_ BK412) hb); have n2_ := A_ (blk_below (pl_ BK419) hb); have n3_ := A_ (blk_below (pl_ BK424) hb); have n4_ := A_ (below_step (bl_ HB) hb); have n5_ := A_ (hbox); have n6_ := A_ ((by rw [hg]; exact (below_size (bl_ HB)) : w.heap.size ≤ gb430)); have n7_ := n6_; have n8_ := A_ ((by rw [hg]; exact Nat.ne_of_lt (blk_lt (pl_ BK412)) : gb412 ≠ gb430)); have n9_ := Aside0.mk n8_.out.symm; have n10_ := A_ ((by rw [hg]; exact Nat.ne_of_lt (blk_lt (pl_ BK419)) : gb419 ≠ gb430)); have n11_ := Aside0.mk n10_.out.symm; have n12_ := A_ ((by rw [hg]; exact Nat.ne_of_lt (blk_lt (pl_ BK424)) : gb424 ≠ gb430)); have n13_ := Aside0.mk n12_.out.symm; clear HO_42; clear BK412; clear BK419; clear BK424; clear HB; have HO_42 := n0_; have BK412 := n1_; have BK419 := n2_; have BK424 := n3_; have HB := n4_; have BK430 := n5_; have GW430 := n6_; have GE430 := n7_; have NB412_430 := n8_; have NB430_412 := n9_; have NB419_430 := n10_; have NB430_419 := n11_; have NB424_430 := n12_; have NB430_424 := n13_; clear n0_ n1_ n2_ n3_ n4_ n5_ n6_ n7_ n8_ n9_ n10_ n11_ n12_ n13_; clear hb hbox hg; have hnb69 := NB430_412.out; have hnc69 := NB412_430.out; have hnb70 := NB430_419.out; have hnc70 := NB419_430.out; have hnb71 := NB430_424.out; have hnc71 := NB424_430.out; have hcz72_0 : w68.cell? ⟨gb430, 0, none⟩ = some (.int .i16 0) := (blk_cell BK430.out 0).trans rfl; have hcz72_1 : w68.cell? ⟨gb430, 1, none⟩ = some (.int .i16 0) := (blk_cell BK430.out 1).trans rfl; have hcz72_2 : w68.cell? ⟨gb430, 2, none⟩ = some (.int .i16 0) := (blk_cell BK430.out 2).trans rfl; have hcz72_3 : w68.cell? ⟨gb430, 3, none⟩ = some (.int .i16 0) := (blk_cell BK430.out 3).trans rfl; have hfz72_0 := blk_frozen BK430.out 0; have hfz72_1 := blk_frozen BK430.out 1; have hfz72_2 := blk_frozen BK430.out 2; have hfz72_3 := blk_frozen BK430.out 3; have hcz73_0 : w68.cell? ⟨gb412, 0, none⟩ = some (.slice A0_0 l0_0.length c0_0) := (blk_cell BK412.out 0).trans rfl; have hcz73_1 : w68.cell? ⟨gb412, 1, none⟩ = some (.int .i16 a0_1) := (blk_cell BK412.out 1).trans rfl; have hcz73_2 : w68.cell? ⟨gb412, 2, none⟩ = some (.int .i16 a0_2) := (blk_cell BK412.out 2).trans rfl; have hcz73_3 : w68.cell? ⟨gb412, 3, none⟩ = some (.int .i16 a0_3) := (blk_cell BK412.out 3).trans rfl; have hcz73_4 : w68.cell? ⟨gb412, 4, none⟩ = some (.int .i16 a0_4) := (blk_cell BK412.out 4).trans rfl; have hcz73_5 : w68.cell? ⟨gb412, 5, none⟩ = some (.bool a0_5) := (blk_cell BK412.out 5).trans rfl; have hfz73_0 := blk_frozen BK412.out 0; have hfz73_1 := blk_frozen BK412.out 1; have hfz73_2 := blk_frozen BK412.out 2; have hfz73_3 := blk_frozen BK412.out 3; have hfz73_4 := blk_frozen BK412.out 4; have hfz73_5 := blk_frozen BK412.out 5) | ((with_reducible refine gate_callee (f := 79) rfl ?_); refine goesL_ (some 58) rfl rfl Try.func79 (by kernel_rfl) rfl #[.agg #[.slice A0_0 l0_0.length c0_0, .int .i16 a0_1, .int .i16 a0_2, .int .i16 a0_3, .int .i16 a0_4, .bool a0_5], .agg #[.int .i16 t425, .int .i16 t426, .int .i16 t427, .int .i16 t428]] rfl arg_ ?_; (with_reducible refine (impl_Puzzle_index.calls _ _ l0_0 a0_1 a0_2 a0_3 a0_4 a0_5 t425 t426 t427 t428 t431 _ ?side1 ?side2 A40.out).mono ?_); (case side1 => exact Kd.C_below HR0_0.out (bs_ HB GE430)); (case side2 => exact HC0_0.out); rintro e w74 ⟨rfl, hb⟩; refine ⟨_, rfl, ?_⟩; have n0_ := A_ (Kd.R_below (by (with_reducible repeat (first | apply Kd.R_alloc | apply Kd.R_drewN | apply Kd.R_drew)); exact (rf4_ HO_42 BK430 (by decide))) hb); have n1_ := A_ (blk_below (g := gb412) (o := .cells #[.slice A0_0 l0_0.length c0_0, .int .i16 a0_1, .int .i16 a0_2, .int .i16 a0_3, .int .i16 a0_4, .bool a0_5] 32 (0, 0)) (pf_ BK412 NB412_430) hb); have n2_ := A_ (blk_below (g := gb419) (o := .cells #[.int .i16 t415, .int .i16 t416, .int .i16 t417, .int .i16 t418] 30 (0, 0)) (pf_ BK419 NB419_430) hb); have n3_ := A_ (blk_below (g := gb424) (o := .cells #[.int .i8 ((rd_T60 t420 x44_3).f0), .int .i8 ((rd_T60 t420 x44_3).f1), .int .i8 ((rd_T60 t420 x44_3).f2)] 60 (0, 0)) (pf_ BK424 NB424_430) hb); have n4_ := A_ (blk_below (g := gb430) (o := .cells #[.int .i16 t425, .int .i16 t426, .int .i16 t427, .int .i16 t428] 30 (0, 0)) (by (with_reducible repeat (first | refine blk_drewN ?_ _ | refine blk_drew ?_ | refine blk_alloc ?_ _)); refine blk_put (cs := #[.int .i16 t425, .int .i16 t426, .int .i16 t427, .int .i16 0]) ?_ 3 _ rfl; (with_reducible repeat (first | refine blk_drewN ?_ _ | refine blk_drew ?_ | refine blk_alloc ?_ _)); refine blk_put (cs := #[.int .i16 t425, .int .i16 t426, .int .i16 0, .int .i16 0]) ?_ 2 _ rfl; (with_reducible repeat (first | refine blk_drewN ?_ _ | refine blk_drew ?_ | refine blk_alloc ?_ _)); refine blk_put (cs := #[.int .i16 t425, .int .i16 0, .int .i16 0, .int .i16 0]) ?_ 1 _ rfl; (with_reducible repeat (first | refine blk_drewN ?_ _ | refine blk_drew ?_ | refine blk_alloc ?_ _)); refine blk_put (cs := #[.int .i16 0, .int .i16 0, .int .i16 0, .int .i16 0]) ?_ 0 _ rfl; (with_reducible repeat (first | refine blk_drewN ?_ _ | refine blk_drew ?_ | refine blk_alloc ?_ _)); exact BK430.out) hb); have n5_ := A_ (below_step (bs_ HB GE430) hb); clear HO_42; clear BK412; clear BK419; clear BK424; clear BK430; clear HB; have HO_42 := n0_; have BK412 := n1_; have BK419 := n2_; have BK424 := n3_; have BK430 := n4_; have HB := n5_; clear n0_ n1_ n2_ n3_ n4_ n5_; (try clear hb); (try clear hb2); (try clear hk); (try clear hi); have p432 : 0 ≤ (t431 : Int) := asm_; have q432 : t431 < (l1.length : Int) := asm_; obtain ⟨ad432, e432, hx432_0⟩ := Kd.at_int HR1.out t431 p432 q432; obtain rfl : ad414 = ad432 := (by injection e432); (try replace hx432_0 := (HB.out.cell (World.block_lt_of_cell? w _ hx432_0)).trans hx432_0); replace p432 := eq_true p432; replace q432 := eq_true q432))
                   go_ret
                   exact ⟨by first | rfl | (simp [errW_none, errW_some] <;> rfl) | (simp [*, errW_none, errW_some] <;> rfl), bl_ HB⟩
                  ·rw [if_neg c59] at H
                   have c59b0 : decide ((wrap64 ((wrap64 ((rd l1 x15_1))) + 1)) < (wrap64 (rd l1 t431))) = false := decide_eq_false c59
                   clear c59
                   have H' := Aside0.mk H
                   clear H
                   have p423 : 0 ≤ (x44_3 : Int) := asm_
                   have q423 : x44_3 < (t420.length : Int) := asm_
                   obtain ⟨ad423, e423, hx423_0, hx423_1, hx423_2⟩ := at_T60 (Kd.R_reads' HO_42.out).2.2 x44_3 p423 q423
                   cases e423
                   replace p423 := eq_true p423
                   replace q423 := eq_true q423
                   go_wp2_with (first | ((with_reducible refine gate_dst (N := 9) rfl ?_); refine box_event ?hg (N := 9) ?hd (cs := #[.int .i8 0, .int .i8 0, .int .i8 0]) (t := 60) ?hr ?_; (case hd => rfl); (case hg => rfl); (case hr => first | (go_simp; done) | (go_simp; rfl)); intro gb424 hg w75 hbox hb; have n0_ := A_ (Kd.R_below (Kd.R_elderB (pr_ HO_42) gb424 (Nat.le_of_eq hg.symm)) hb); have n1_ := A_ (blk_below (pl_ BK412) hb); have n2_ := A_ (blk_below (pl_ BK419) hb); have n3_ := A_ (below_step (bl_ HB) hb); have n4_ := A_ (hbox); have n5_ := A_ ((by rw [hg]; exact (below_size (bl_ HB)) : w.heap.size ≤ gb424)); have n6_ := n5_; have n7_ := A_ ((by rw [hg]; exact Nat.ne_of_lt (blk_lt (pl_ BK412)) : gb412 ≠ gb424)); have n8_ := Aside0.mk n7_.out.symm; have n9_ := A_ ((by rw [hg]; exact Nat.ne_of_lt (blk_lt (pl_ BK419)) : gb419 ≠ gb424)); have n10_ := Aside0.mk n9_.out.symm; clear HO_42; clear BK412; clear BK419; clear HB; have HO_42 := n0_; have BK412 := n1_; have BK419 := n2_; have HB := n3_; have BK424 := n4_; have GW424 := n5_; have GE424 := n6_; have NB412_424 := n7_; have NB424_412 := n8_; have NB419_424 := n9_; have NB424_419 := n10_; clear n0_ n1_ n2_ n3_ n4_ n5_ n6_ n7_ n8_ n9_ n10_; clear hb hbox hg; have hnb76 := NB424_412.out; have hnc76 := NB412_424.out; have hnb77 := NB424_419.out; have hnc77 := NB419_424.out; have hcz78_0 : w75.cell? ⟨gb424, 0, none⟩ = some (.int .i8 0) := (blk_cell BK424.out 0).trans rfl; have hcz78_1 : w75.cell? ⟨gb424, 1, none⟩ = some (.int .i8 0) := (blk_cell BK424.out 1).trans rfl; have hcz78_2 : w75.cell? ⟨gb424, 2, none⟩ = some (.int .i8 0) := (blk_cell BK424.out 2).trans rfl; have hfz78_0 := blk_frozen BK424.out 0; have hfz78_1 := blk_frozen BK424.out 1; have hfz78_2 := blk_frozen BK424.out 2; have hnb79 := NB412_419.out; have hnc79 := NB419_412.out; have hcz80_0 : w75.cell? ⟨gb412, 0, none⟩ = some (.slice A0_0 l0_0.length c0_0) := (blk_cell BK412.out 0).trans rfl; have hcz80_1 : w75.cell? ⟨gb412, 1, none⟩ = some (.int .i16 a0_1) := (blk_cell BK412.out 1).trans rfl; have hcz80_2 : w75.cell? ⟨gb412, 2, none⟩ = some (.int .i16 a0_2) := (blk_cell BK412.out 2).trans rfl; have hcz80_3 : w75.cell? ⟨gb412, 3, none⟩ = some (.int .i16 a0_3) := (blk_cell BK412.out 3).trans rfl; have hcz80_4 : w75.cell? ⟨gb412, 4, none⟩ = some (.int .i16 a0_4) := (blk_cell BK412.out 4).trans rfl; have hcz80_5 : w75.cell? ⟨gb412, 5, none⟩ = some (.bool a0_5) := (blk_cell BK412.out 5).trans rfl; have hfz80_0 := blk_frozen BK412.out 0; have hfz80_1 := blk_frozen BK412.out 1; have hfz80_2 := blk_frozen BK412.out 2; have hfz80_3 := blk_frozen BK412.out 3; have hfz80_4 := blk_frozen BK412.out 4; have hfz80_5 := blk_frozen BK412.out 5; have hcz81_0 : w75.cell? ⟨gb419, 0, none⟩ = some (.int .i16 t415) := (blk_cell BK419.out 0).trans rfl; have hcz81_1 : w75.cell? ⟨gb419, 1, none⟩ = some (.int .i16 t416) := (blk_cell BK419.out 1).trans rfl; have hcz81_2 : w75.cell? ⟨gb419, 2, none⟩ = some (.int .i16 t417) := (blk_cell BK419.out 2).trans rfl; have hcz81_3 : w75.cell? ⟨gb419, 3, none⟩ = some (.int .i16 t418) := (blk_cell BK419.out 3).trans rfl; have hfz81_0 := blk_frozen BK419.out 0; have hfz81_1 := blk_frozen BK419.out 1; have hfz81_2 := blk_frozen BK419.out 2; have hfz81_3 := blk_frozen BK419.out 3) | ((with_reducible refine gate_callee (f := 87) rfl ?_); refine goesL_ (some 52) rfl rfl Try.func87 (by kernel_rfl) rfl #[.agg #[.slice A0_0 l0_0.length c0_0, .int .i16 a0_1, .int .i16 a0_2, .int .i16 a0_3, .int .i16 a0_4, .bool a0_5], .agg #[.int .i16 t415, .int .i16 t416, .int .i16 t417, .int .i16 t418], .agg #[.int .i8 ((rd_T60 t420 x44_3).f0), .int .i8 ((rd_T60 t420 x44_3).f1), .int .i8 ((rd_T60 t420 x44_3).f2)]] rfl arg_ ?_; (with_reducible refine (impl_Puzzle_moved.calls k3 _ _ l0_0 a0_1 a0_2 a0_3 a0_4 a0_5 t415 t416 t417 t418 ((rd_T60 t420 x44_3).f0) ((rd_T60 t420 x44_3).f1) ((rd_T60 t420 x44_3).f2) t425 t426 t427 t428 t429 _ ?side1 ?side2 A39.out).mono ?_); (case side1 => exact Kd.C_below HR0_0.out (bs_ HB GE424)); (case side2 => exact HC0_0.out); rintro e w82 ⟨rfl, hb⟩; refine ⟨_, rfl, ?_⟩; have n0_ := A_ (Kd.R_below (by (with_reducible repeat (first | apply Kd.R_alloc | apply Kd.R_drewN | apply Kd.R_drew)); exact (Kd.R_mono (Kd.R_far (p := ⟨gb424, 2, none⟩) (Kd.R_far (p := ⟨gb424, 1, none⟩) (Kd.R_far (p := ⟨gb424, 0, none⟩) (Kd.R_mono HO_42.out (fun k_ hk => (⟨hk, hk.2⟩ : _ ∧ k_ ≠ gb424))) (fun _ hk => hk.2) (.int .i8 ((rd_T60 t420 x44_3).f0))) (fun _ hk => hk.2) (.int .i8 ((rd_T60 t420 x44_3).f1))) (fun _ hk => hk.2) (.int .i8 ((rd_T60 t420 x44_3).f2))) (fun _ h_ => h_.1))) hb); have n1_ := A_ (blk_below (g := gb412) (o := .cells #[.slice A0_0 l0_0.length c0_0, .int .i16 a0_1, .int .i16 a0_2, .int .i16 a0_3, .int .i16 a0_4, .bool a0_5] 32 (0, 0)) (pf_ BK412 NB412_424) hb); have n2_ := A_ (blk_below (g := gb419) (o := .cells #[.int .i16 t415, .int .i16 t416, .int .i16 t417, .int .i16 t418] 30 (0, 0)) (pf_ BK419 NB419_424) hb); have n3_ := A_ (blk_below (g := gb424) (o := .cells #[.int .i8 ((rd_T60 t420 x44_3).f0), .int .i8 ((rd_T60 t420 x44_3).f1), .int .i8 ((rd_T60 t420 x44_3).f2)] 60 (0, 0)) (by (with_reducible repeat (first | refine blk_drewN ?_ _ | refine blk_drew ?_ | refine blk_alloc ?_ _)); refine blk_put (cs := #[.int .i8 ((rd_T60 t420 x44_3).f0), .int .i8 ((rd_T60 t420 x44_3).f1), .int .i8 0]) ?_ 2 _ rfl; (with_reducible repeat (first | refine blk_drewN ?_ _ | refine blk_drew ?_ | refine blk_alloc ?_ _)); refine blk_put (cs := #[.int .i8 ((rd_T60 t420 x44_3).f0), .int .i8 0, .int .i8 0]) ?_ 1 _ rfl; (with_reducible repeat (first | refine blk_drewN ?_ _ | refine blk_drew ?_ | refine blk_alloc ?_ _)); refine blk_put (cs := #[.int .i8 0, .int .i8 0, .int .i8 0]) ?_ 0 _ rfl; (with_reducible repeat (first | refine blk_drewN ?_ _ | refine blk_drew ?_ | refine blk_alloc ?_ _)); exact BK424.out) hb); have n4_ := A_ (below_step (bs_ HB GE424) hb); clear HO_42; clear BK412; clear BK419; clear BK424; clear HB; have HO_42 := n0_; have BK412 := n1_; have BK419 := n2_; have BK424 := n3_; have HB := n4_; clear n0_ n1_ n2_ n3_ n4_; (try clear hb); (try clear hb2); (try clear hk); (try clear hi)) | ((with_reducible refine gate_dst (N := 10) rfl ?_); refine box_event ?hg (N := 10) ?hd (cs := #[.int .i16 0, .int .i16 0, .int .i16 0, .int .i16 0]) (t := 30) ?hr ?_; (case hd => rfl); (case hg => rfl); (case hr => first | (go_simp; done) | (go_simp; rfl)); intro gb430 hg w83 hbox hb; have n0_ := A_ (Kd.R_below (pr_ HO_42) hb); have n1_ := A_ (blk_below (pl_ BK412) hb); have n2_ := A_ (blk_below (pl_ BK419) hb); have n3_ := A_ (blk_below (pl_ BK424) hb); have n4_ := A_ (below_step (bl_ HB) hb); have n5_ := A_ (hbox); have n6_ := A_ ((by rw [hg]; exact (below_size (bl_ HB)) : w.heap.size ≤ gb430)); have n7_ := n6_; have n8_ := A_ ((by rw [hg]; exact Nat.ne_of_lt (blk_lt (pl_ BK412)) : gb412 ≠ gb430)); have n9_ := Aside0.mk n8_.out.symm; have n10_ := A_ ((by rw [hg]; exact Nat.ne_of_lt (blk_lt (pl_ BK419)) : gb419 ≠ gb430)); have n11_ := Aside0.mk n10_.out.symm; have n12_ := A_ ((by rw [hg]; exact Nat.ne_of_lt (blk_lt (pl_ BK424)) : gb424 ≠ gb430)); have n13_ := Aside0.mk n12_.out.symm; clear HO_42; clear BK412; clear BK419; clear BK424; clear HB; have HO_42 := n0_; have BK412 := n1_; have BK419 := n2_; have BK424 := n3_; have HB := n4_; have BK430 := n5_; have GW430 := n6_; have GE430 := n7_; have NB412_430 := n8_; have NB430_412 := n9_; have NB419_430 := n10_; have NB430_419 := n11_; have NB424_430 := n12_; have NB430_424 := n13_; clear n0_ n1_ n2_ n3_ n4_ n5_ n6_ n7_ n8_ n9_ n10_ n11_ n12_ n13_; clear hb hbox hg; have hnb84 := NB430_412.out; have hnc84 := NB412_430.out; have hnb85 := NB430_419.out; have hnc85 := NB419_430.out; have hnb86 := NB430_424.out; have hnc86 := NB424_430.out; have hcz87_0 : w83.cell? ⟨gb430, 0, none⟩ = some (.int .i16 0) := (blk_cell BK430.out 0).trans rfl; have hcz87_1 : w83.cell? ⟨gb430, 1, none⟩ = some (.int .i16 0) := (blk_cell BK430.out 1).trans rfl; have hcz87_2 : w83.cell? ⟨gb430, 2, none⟩ = some (.int .i16 0) := (blk_cell BK430.out 2).trans rfl; have hcz87_3 : w83.cell? ⟨gb430, 3, none⟩ = some (.int .i16 0) := (blk_cell BK430.out 3).trans rfl; have hfz87_0 := blk_frozen BK430.out 0; have hfz87_1 := blk_frozen BK430.out 1; have hfz87_2 := blk_frozen BK430.out 2; have hfz87_3 := blk_frozen BK430.out 3; have hcz88_0 : w83.cell? ⟨gb412, 0, none⟩ = some (.slice A0_0 l0_0.length c0_0) := (blk_cell BK412.out 0).trans rfl; have hcz88_1 : w83.cell? ⟨gb412, 1, none⟩ = some (.int .i16 a0_1) := (blk_cell BK412.out 1).trans rfl; have hcz88_2 : w83.cell? ⟨gb412, 2, none⟩ = some (.int .i16 a0_2) := (blk_cell BK412.out 2).trans rfl; have hcz88_3 : w83.cell? ⟨gb412, 3, none⟩ = some (.int .i16 a0_3) := (blk_cell BK412.out 3).trans rfl; have hcz88_4 : w83.cell? ⟨gb412, 4, none⟩ = some (.int .i16 a0_4) := (blk_cell BK412.out 4).trans rfl; have hcz88_5 : w83.cell? ⟨gb412, 5, none⟩ = some (.bool a0_5) := (blk_cell BK412.out 5).trans rfl; have hfz88_0 := blk_frozen BK412.out 0; have hfz88_1 := blk_frozen BK412.out 1; have hfz88_2 := blk_frozen BK412.out 2; have hfz88_3 := blk_frozen BK412.out 3; have hfz88_4 := blk_frozen BK412.out 4; have hfz88_5 := blk_frozen BK412.out 5) | ((with_reducible refine gate_callee (f := 79) rfl ?_); refine goesL_ (some 58) rfl rfl Try.func79 (by kernel_rfl) rfl #[.agg #[.slice A0_0 l0_0.length c0_0, .int .i16 a0_1, .int .i16 a0_2, .int .i16 a0_3, .int .i16 a0_4, .bool a0_5], .agg #[.int .i16 t425, .int .i16 t426, .int .i16 t427, .int .i16 t428]] rfl arg_ ?_; (with_reducible refine (impl_Puzzle_index.calls _ _ l0_0 a0_1 a0_2 a0_3 a0_4 a0_5 t425 t426 t427 t428 t431 _ ?side1 ?side2 A40.out).mono ?_); (case side1 => exact Kd.C_below HR0_0.out (bs_ HB GE430)); (case side2 => exact HC0_0.out); rintro e w89 ⟨rfl, hb⟩; refine ⟨_, rfl, ?_⟩; have n0_ := A_ (Kd.R_below (by (with_reducible repeat (first | apply Kd.R_alloc | apply Kd.R_drewN | apply Kd.R_drew)); exact (rf4_ HO_42 BK430 (by decide))) hb); have n1_ := A_ (blk_below (g := gb412) (o := .cells #[.slice A0_0 l0_0.length c0_0, .int .i16 a0_1, .int .i16 a0_2, .int .i16 a0_3, .int .i16 a0_4, .bool a0_5] 32 (0, 0)) (pf_ BK412 NB412_430) hb); have n2_ := A_ (blk_below (g := gb419) (o := .cells #[.int .i16 t415, .int .i16 t416, .int .i16 t417, .int .i16 t418] 30 (0, 0)) (pf_ BK419 NB419_430) hb); have n3_ := A_ (blk_below (g := gb424) (o := .cells #[.int .i8 ((rd_T60 t420 x44_3).f0), .int .i8 ((rd_T60 t420 x44_3).f1), .int .i8 ((rd_T60 t420 x44_3).f2)] 60 (0, 0)) (pf_ BK424 NB424_430) hb); have n4_ := A_ (blk_below (g := gb430) (o := .cells #[.int .i16 t425, .int .i16 t426, .int .i16 t427, .int .i16 t428] 30 (0, 0)) (by (with_reducible repeat (first | refine blk_drewN ?_ _ | refine blk_drew ?_ | refine blk_alloc ?_ _)); refine blk_put (cs := #[.int .i16 t425, .int .i16 t426, .int .i16 t427, .int .i16 0]) ?_ 3 _ rfl; (with_reducible repeat (first | refine blk_drewN ?_ _ | refine blk_drew ?_ | refine blk_alloc ?_ _)); refine blk_put (cs := #[.int .i16 t425, .int .i16 t426, .int .i16 0, .int .i16 0]) ?_ 2 _ rfl; (with_reducible repeat (first | refine blk_drewN ?_ _ | refine blk_drew ?_ | refine blk_alloc ?_ _)); refine blk_put (cs := #[.int .i16 t425, .int .i16 0, .int .i16 0, .int .i16 0]) ?_ 1 _ rfl; (with_reducible repeat (first | refine blk_drewN ?_ _ | refine blk_drew ?_ | refine blk_alloc ?_ _)); refine blk_put (cs := #[.int .i16 0, .int .i16 0, .int .i16 0, .int .i16 0]) ?_ 0 _ rfl; (with_reducible repeat (first | refine blk_drewN ?_ _ | refine blk_drew ?_ | refine blk_alloc ?_ _)); exact BK430.out) hb); have n5_ := A_ (below_step (bs_ HB GE430) hb); clear HO_42; clear BK412; clear BK419; clear BK424; clear BK430; clear HB; have HO_42 := n0_; have BK412 := n1_; have BK419 := n2_; have BK424 := n3_; have BK430 := n4_; have HB := n5_; clear n0_ n1_ n2_ n3_ n4_ n5_; (try clear hb); (try clear hb2); (try clear hk); (try clear hi); have p432 : 0 ≤ (t431 : Int) := asm_; have q432 : t431 < (l1.length : Int) := asm_; obtain ⟨ad432, e432, hx432_0⟩ := Kd.at_int HR1.out t431 p432 q432; obtain rfl : ad414 = ad432 := (by injection e432); (try replace hx432_0 := (HB.out.cell (World.block_lt_of_cell? w _ hx432_0)).trans hx432_0); replace p432 := eq_true p432; replace q432 := eq_true q432))
                   go_roundg k3
                   case measure => have := HK1.out; have := HJ10.out; have := HK3.out; omega
                   case rel => exact ⟨(wrap64 (x44_3 + 1)), rs_, H', ⟨by have := HK1.out; have := HJ10.out; have := HK3.out; omega⟩, ⟨by (with_reducible repeat (first | apply Kd.R_alloc | apply Kd.R_drewN | apply Kd.R_drew)); exact Kd.R_mono HO_42.out (fun _ hk => trivial)⟩, ⟨pl_ BK412⟩, ⟨pl_ BK419⟩, ⟨bl_ HB⟩⟩
                ·rw [if_neg c42] at H
                 exact absurd H (by simp)
               ·rw [if_neg c41] at H
                exact absurd H (by simp)
              ·rw [if_neg c38] at H
               exact absurd H (by simp)
             ·rw [if_neg c37] at H
              exact absurd H (by simp)
            ·rw [if_neg c36] at H
             have c36b0 : decide (x44_3 < (t420.length : Int)) = false := decide_eq_false c36
             clear c36
             have H' := Aside0.mk H
             clear H
             go_wp2
             go_roundg k3
             case measure => have := HK1.out; have := HJ10.out; have := HK3.out; omega
             case rel => exact ⟨(wrap64 (x15_1 + 1)), rs_, H', ⟨by have := HK1.out; have := HJ10.out; have := HK3.out; omega⟩, ⟨pl_ BK412⟩, ⟨bl_ HB⟩⟩
     ·rw [if_neg c9] at H
      exact absurd H (by simp)
    ·rw [if_neg c8] at H
     exact absurd H (by simp)
   ·rw [if_neg c7] at H
    have c7b0 : decide (x15_1 < t413) = false := decide_eq_false c7
    clear c7
    obtain rfl := Option.some.inj H
    go_wp2
    go_ret
    exact ⟨by first | rfl | (simp [errW_none, errW_some] <;> rfl) | (simp [*, errW_none, errW_some] <;> rfl), bl_ HB⟩

end Go.Proofs.Ytodmfjophjhbeaa.M
