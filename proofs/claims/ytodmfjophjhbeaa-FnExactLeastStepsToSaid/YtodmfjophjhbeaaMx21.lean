-- By this seat's own program over the kit's printer (arrays, functions told by hand); nothing of it is trusted: the kernel checks it.
import Derived.Test.YtodmfjophjhbeaaMx0
import Derived.Test.YtodmfjophjhbeaaMx1
import Derived.Test.YtodmfjophjhbeaaMx14
import Derived.Test.YtodmfjophjhbeaaMx17
import Derived.Test.YtodmfjophjhbeaaMx18
import Derived.Test.YtodmfjophjhbeaaMx20
import Derived.Test.YtodmfjophjhbeaaHIndex
namespace Go.Proofs.Ytodmfjophjhbeaa.M
open Go.RowKit Go.Proofs.YtodmfjophjhbeaaW.PrintWords Go.Proofs.YtodmfjophjhbeaaW.PrintLast Go.Proofs.YtodmfjophjhbeaaW.PrintMore
attribute [local go_sem] max2_int min2_int max_two min_two max_three min_three max_four min_four   -- for this text's walks alone
set_option linter.unusedVariables false
set_option linter.unusedSimpArgs false

attribute [local go_sem high] eqA30
/-! ### impl_Puzzle_broken: function 64 -/
mutual
def impl_Puzzle_broken.l0 : Nat → List Int → Int → Int → List Int → Int → Int → Int → Int → Bool → Option (Int)
 | 0, _, _, _, _, _, _, _, _, _ => none
 | k + 1, x1, x14, x15, x253000, x253001, x253002, x253003, x253004, x253005 => if x15 < x14 then (if 0 ≤ x15 then (if x15 < (x1.length : Int) then ((impl_Puzzle_at.f k x253000 x253001 x253002 x253003 x253004 x253005 x15).bind fun bt255 => (if (rd x1 x15) < (-1) then (impl_Puzzle_broken.j1 k x1 x15 (rd x1 x15) x14 x15 true x253000 x253001 x253002 x253003 x253004 x253005 bt255.1 bt255.2.1 bt255.2.2.1 bt255.2.2.2) else (if (bt255.1 == x253001 && (bt255.2.1 == x253002 && (bt255.2.2.1 == x253003 && (bt255.2.2.2 == x253004)))) = true then (impl_Puzzle_broken.j1 k x1 x15 (rd x1 x15) x14 x15 ((rd x1 x15) != 0) x253000 x253001 x253002 x253003 x253004 x253005 bt255.1 bt255.2.1 bt255.2.2.1 bt255.2.2.2) else (impl_Puzzle_broken.j1 k x1 x15 (rd x1 x15) x14 x15 false x253000 x253001 x253002 x253003 x253004 x253005 bt255.1 bt255.2.1 bt255.2.2.1 bt255.2.2.2)))) else (none)) else (none)) else (some (-1))
def impl_Puzzle_broken.j1 : Nat → List Int → Int → Int → Int → Int → Bool → List Int → Int → Int → Int → Int → Bool → Int → Int → Int → Int → Option (Int)
 | 0, _, _, _, _, _, _, _, _, _, _, _, _, _, _, _, _ => none
 | k + 1, x1, x5, x6, x14, x15, x36, x253000, x253001, x253002, x253003, x253004, x253005, x260000, x260001, x260002, x260003 => if x36 = true then (some x5) else (if x6 = (-1) then (impl_Puzzle_broken.l0 k x1 x14 (wrap64 (x15 + 1)) x253000 x253001 x253002 x253003 x253004 x253005) else ((impl_Puzzle_moves.f k x253000 x253001 x253002 x253003 x253004 x253005 x260000 x260001 x260002 x260003).bind fun t260 => (impl_Puzzle_broken.l1 k x1 x5 x6 x14 x15 t260 (t260.length : Int) 0 x253000 x253001 x253002 x253003 x253004 x253005 x260000 x260001 x260002 x260003)))
def impl_Puzzle_broken.l1 : Nat → List Int → Int → Int → Int → Int → List (S60) → Int → Int → List Int → Int → Int → Int → Int → Bool → Int → Int → Int → Int → Option (Int)
 | 0, _, _, _, _, _, _, _, _, _, _, _, _, _, _, _, _, _, _ => none
 | k + 1, x1, x5, x6, x14, x15, x42, x43, x44, x253000, x253001, x253002, x253003, x253004, x253005, x260000, x260001, x260002, x260003 => if x44 < x43 then (if 0 ≤ x44 then (if x44 < (x42.length : Int) then ((impl_Puzzle_moved.f k x253000 x253001 x253002 x253003 x253004 x253005 x260000 x260001 x260002 x260003 ((rd_T60 x42 x44).f0) ((rd_T60 x42 x44).f1) ((rd_T60 x42 x44).f2)).bind fun bt265 => ((impl_Puzzle_index.f x253000 x253001 x253002 x253003 x253004 x253005 bt265.1 bt265.2.1 bt265.2.2.1 bt265.2.2.2.1).bind fun t271 => (if 0 ≤ t271 then (if t271 < (x1.length : Int) then (if (rd x1 t271) = (-1) then (some x5) else (if (wrap64 (rd x1 t271)) > (wrap64 ((wrap64 (x6)) + 1)) then (some x5) else (impl_Puzzle_broken.l1 k x1 x5 x6 x14 x15 x42 x43 (wrap64 (x44 + 1)) x253000 x253001 x253002 x253003 x253004 x253005 x260000 x260001 x260002 x260003))) else (none)) else (none)))) else (none)) else (none)) else (impl_Puzzle_broken.l0 k x1 x14 (wrap64 (x15 + 1)) x253000 x253001 x253002 x253003 x253004 x253005)
end
def impl_Puzzle_broken.f (k : Nat) (l0_0 : List Int) (a0_1 : Int) (a0_2 : Int) (a0_3 : Int) (a0_4 : Int) (a0_5 : Bool) (l1 : List Int) : Option (Int) := (impl_Puzzle_states.f k l0_0 a0_1 a0_2 a0_3 a0_4 a0_5).bind fun t253 => (impl_Puzzle_broken.l0 k l1 t253 0 l0_0 a0_1 a0_2 a0_3 a0_4 a0_5)
theorem impl_Puzzle_broken.mono_l : ∀ k, (∀ y0 y1 y2 y3 y4 y5 y6 y7 y8, LeO (impl_Puzzle_broken.l0 k y0 y1 y2 y3 y4 y5 y6 y7 y8) (impl_Puzzle_broken.l0 (k + 1) y0 y1 y2 y3 y4 y5 y6 y7 y8)) ∧ (∀ y0 y1 y2 y3 y4 y5 y6 y7 y8 y9 y10 y11 y12 y13 y14 y15, LeO (impl_Puzzle_broken.j1 k y0 y1 y2 y3 y4 y5 y6 y7 y8 y9 y10 y11 y12 y13 y14 y15) (impl_Puzzle_broken.j1 (k + 1) y0 y1 y2 y3 y4 y5 y6 y7 y8 y9 y10 y11 y12 y13 y14 y15)) ∧ (∀ y0 y1 y2 y3 y4 y5 y6 y7 y8 y9 y10 y11 y12 y13 y14 y15 y16 y17, LeO (impl_Puzzle_broken.l1 k y0 y1 y2 y3 y4 y5 y6 y7 y8 y9 y10 y11 y12 y13 y14 y15 y16 y17) (impl_Puzzle_broken.l1 (k + 1) y0 y1 y2 y3 y4 y5 y6 y7 y8 y9 y10 y11 y12 y13 y14 y15 y16 y17))
 | 0 => ⟨fun _ _ _ _ _ _ _ _ _ r h => by simp [impl_Puzzle_broken.l0] at h, fun _ _ _ _ _ _ _ _ _ _ _ _ _ _ _ _ r h => by simp [impl_Puzzle_broken.j1] at h, fun _ _ _ _ _ _ _ _ _ _ _ _ _ _ _ _ _ _ r h => by simp [impl_Puzzle_broken.l1] at h⟩
 | k + 1 => by
  obtain ⟨ih0, ih1, ih2⟩ := impl_Puzzle_broken.mono_l k
  refine ⟨?_, ?_, ?_⟩
  ·intro y0 y1 y2 y3 y4 y5 y6 y7 y8
   unfold impl_Puzzle_broken.l0
   repeat' first
   | (with_reducible exact ih0 _ _ _ _ _ _ _ _ _)
   | (with_reducible exact ih1 _ _ _ _ _ _ _ _ _ _ _ _ _ _ _ _)
   | (with_reducible exact ih2 _ _ _ _ _ _ _ _ _ _ _ _ _ _ _ _ _ _)
   | (with_reducible exact impl_Puzzle_at.mono _ _ _ _ _ _ _ _)
   | (with_reducible exact impl_Puzzle_moved.mono _ _ _ _ _ _ _ _ _ _ _ _ _ _)
   | (with_reducible exact impl_Puzzle_moves.mono _ _ _ _ _ _ _ _ _ _ _)
   | (with_reducible exact impl_Puzzle_states.mono _ _ _ _ _ _ _)
   | (with_reducible exact LeO.refl _)
   | (with_reducible exact LeO.none _)
   | (with_reducible refine LeO.ite ?_ ?_)
   | (with_reducible refine LeO.bind ?_ (fun _ => ?_))
   | exact ih0 _ _ _ _ _ _ _ _ _
   | exact ih1 _ _ _ _ _ _ _ _ _ _ _ _ _ _ _ _
   | exact ih2 _ _ _ _ _ _ _ _ _ _ _ _ _ _ _ _ _ _
   | exact impl_Puzzle_at.mono _ _ _ _ _ _ _ _
   | exact impl_Puzzle_moved.mono _ _ _ _ _ _ _ _ _ _ _ _ _ _
   | exact impl_Puzzle_moves.mono _ _ _ _ _ _ _ _ _ _ _
   | exact impl_Puzzle_states.mono _ _ _ _ _ _ _
   | exact LeO.none _
   | refine LeO.ite ?_ ?_
   | refine LeO.bind ?_ (fun _ => ?_)
  ·intro y0 y1 y2 y3 y4 y5 y6 y7 y8 y9 y10 y11 y12 y13 y14 y15
   unfold impl_Puzzle_broken.j1
   repeat' first
   | (with_reducible exact ih0 _ _ _ _ _ _ _ _ _)
   | (with_reducible exact ih1 _ _ _ _ _ _ _ _ _ _ _ _ _ _ _ _)
   | (with_reducible exact ih2 _ _ _ _ _ _ _ _ _ _ _ _ _ _ _ _ _ _)
   | (with_reducible exact impl_Puzzle_at.mono _ _ _ _ _ _ _ _)
   | (with_reducible exact impl_Puzzle_moved.mono _ _ _ _ _ _ _ _ _ _ _ _ _ _)
   | (with_reducible exact impl_Puzzle_moves.mono _ _ _ _ _ _ _ _ _ _ _)
   | (with_reducible exact impl_Puzzle_states.mono _ _ _ _ _ _ _)
   | (with_reducible exact LeO.refl _)
   | (with_reducible exact LeO.none _)
   | (with_reducible refine LeO.ite ?_ ?_)
   | (with_reducible refine LeO.bind ?_ (fun _ => ?_))
   | exact ih0 _ _ _ _ _ _ _ _ _
   | exact ih1 _ _ _ _ _ _ _ _ _ _ _ _ _ _ _ _
   | exact ih2 _ _ _ _ _ _ _ _ _ _ _ _ _ _ _ _ _ _
   | exact impl_Puzzle_at.mono _ _ _ _ _ _ _ _
   | exact impl_Puzzle_moved.mono _ _ _ _ _ _ _ _ _ _ _ _ _ _
   | exact impl_Puzzle_moves.mono _ _ _ _ _ _ _ _ _ _ _
   | exact impl_Puzzle_states.mono _ _ _ _ _ _ _
   | exact LeO.none _
   | refine LeO.ite ?_ ?_
   | refine LeO.bind ?_ (fun _ => ?_)
  ·intro y0 y1 y2 y3 y4 y5 y6 y7 y8 y9 y10 y11 y12 y13 y14 y15 y16 y17
   unfold impl_Puzzle_broken.l1
   repeat' first
   | (with_reducible exact ih0 _ _ _ _ _ _ _ _ _)
   | (with_reducible exact ih1 _ _ _ _ _ _ _ _ _ _ _ _ _ _ _ _)
   | (with_reducible exact ih2 _ _ _ _ _ _ _ _ _ _ _ _ _ _ _ _ _ _)
   | (with_reducible exact impl_Puzzle_at.mono _ _ _ _ _ _ _ _)
   | (with_reducible exact impl_Puzzle_moved.mono _ _ _ _ _ _ _ _ _ _ _ _ _ _)
   | (with_reducible exact impl_Puzzle_moves.mono _ _ _ _ _ _ _ _ _ _ _)
   | (with_reducible exact impl_Puzzle_states.mono _ _ _ _ _ _ _)
   | (with_reducible exact LeO.refl _)
   | (with_reducible exact LeO.none _)
   | (with_reducible refine LeO.ite ?_ ?_)
   | (with_reducible refine LeO.bind ?_ (fun _ => ?_))
   | exact ih0 _ _ _ _ _ _ _ _ _
   | exact ih1 _ _ _ _ _ _ _ _ _ _ _ _ _ _ _ _
   | exact ih2 _ _ _ _ _ _ _ _ _ _ _ _ _ _ _ _ _ _
   | exact impl_Puzzle_at.mono _ _ _ _ _ _ _ _
   | exact impl_Puzzle_moved.mono _ _ _ _ _ _ _ _ _ _ _ _ _ _
   | exact impl_Puzzle_moves.mono _ _ _ _ _ _ _ _ _ _ _
   | exact impl_Puzzle_states.mono _ _ _ _ _ _ _
   | exact LeO.none _
   | refine LeO.ite ?_ ?_
   | refine LeO.bind ?_ (fun _ => ?_)
theorem impl_Puzzle_broken.mono : ∀ a0 a1 a2 a3 a4 a5 a6 k, LeO (impl_Puzzle_broken.f k a0 a1 a2 a3 a4 a5 a6) (impl_Puzzle_broken.f (k + 1) a0 a1 a2 a3 a4 a5 a6) := by
 intro a0 a1 a2 a3 a4 a5 a6 k
 obtain ⟨ih0, ih1, ih2⟩ := impl_Puzzle_broken.mono_l k
 unfold impl_Puzzle_broken.f
 repeat' first
   | (with_reducible exact ih0 _ _ _ _ _ _ _ _ _)
   | (with_reducible exact ih1 _ _ _ _ _ _ _ _ _ _ _ _ _ _ _ _)
   | (with_reducible exact ih2 _ _ _ _ _ _ _ _ _ _ _ _ _ _ _ _ _ _)
   | (with_reducible exact impl_Puzzle_at.mono _ _ _ _ _ _ _ _)
   | (with_reducible exact impl_Puzzle_moved.mono _ _ _ _ _ _ _ _ _ _ _ _ _ _)
   | (with_reducible exact impl_Puzzle_moves.mono _ _ _ _ _ _ _ _ _ _ _)
   | (with_reducible exact impl_Puzzle_states.mono _ _ _ _ _ _ _)
   | (with_reducible exact LeO.refl _)
   | (with_reducible exact LeO.none _)
   | (with_reducible refine LeO.ite ?_ ?_)
   | (with_reducible refine LeO.bind ?_ (fun _ => ?_))
   | exact ih0 _ _ _ _ _ _ _ _ _
   | exact ih1 _ _ _ _ _ _ _ _ _ _ _ _ _ _ _ _
   | exact ih2 _ _ _ _ _ _ _ _ _ _ _ _ _ _ _ _ _ _
   | exact impl_Puzzle_at.mono _ _ _ _ _ _ _ _
   | exact impl_Puzzle_moved.mono _ _ _ _ _ _ _ _ _ _ _ _ _ _
   | exact impl_Puzzle_moves.mono _ _ _ _ _ _ _ _ _ _ _
   | exact impl_Puzzle_states.mono _ _ _ _ _ _ _
   | exact LeO.none _
   | refine LeO.ite ?_ ?_
   | refine LeO.bind ?_ (fun _ => ?_)
def impl_Puzzle_broken.T4 : Bool × List (List Nat × List Nat) := (true, [([], []), ([], []), ([0, 1], [0, 1]), ([2], [2]), ([], []), ([], []), ([4, 5], [4, 5]), ([], []), ([3, 6, 0, 1, 2, 3, 7], [3]), ([7, 6, 8, 0, 1, 2, 3, 4, 5, 6, 7, 8], [6, 7])])
def impl_Puzzle_broken.B4 : List Nat := [0, 0, 3, 7, 0, 0, 48, 0, 255, 511]
theorem impl_Puzzle_broken.tab4 : rtab .any (opsOf Try.f64 4) = impl_Puzzle_broken.T4 := by kernel_rfl
theorem impl_Puzzle_broken.bits4 : waitsOk impl_Puzzle_broken.T4.2 impl_Puzzle_broken.B4 = true := by kernel_rfl
set_option maxHeartbeats 8000000 in
set_option maxRecDepth 100000 in
theorem impl_Puzzle_broken.calls (k : Nat) (A0_0 : Option Addr) (c0_0 : Nat) (l0_0 : List Int) (a0_1 : Int) (a0_2 : Int) (a0_3 : Int) (a0_4 : Int) (a0_5 : Bool) (A1 : Option Addr) (c1 : Nat) (l1 : List Int) (r : Int) (w : World) (hr0_0 : Kd.C (Kd.int .i16) w A0_0 l0_0.length l0_0) (hc0_0 : l0_0.length ≤ c0_0) (hr1 : Kd.C (Kd.int .i16) w A1 l1.length l1) (hc1 : l1.length ≤ c1) (h : impl_Puzzle_broken.f k l0_0 a0_1 a0_2 a0_3 a0_4 a0_5 l1 = some r) :
  Calls Try.prog 64 #[.agg #[.slice A0_0 l0_0.length c0_0, .int .i16 a0_1, .int .i16 a0_2, .int .i16 a0_3, .int .i16 a0_4, .bool a0_5], .slice A1 l1.length c1] w fun e w' => e = .returned (.int .i64 r) ∧ Below w.heap.size w w' := by
 have hu32 := Try.underlying32
 have hu30 := Try.underlying30
 have hu60 := Try.underlying60
 have HR0_0 := Aside0.mk hr0_0
 have HC0_0 := Aside0.mk hc0_0
 clear hr0_0 hc0_0
 have HR1 := Aside0.mk hr1
 have HC1 := Aside0.mk hc1
 clear hr1 hc1
 have HB := A_ (Below.refl w.heap.size w)
 have H : ((impl_Puzzle_states.f k l0_0 a0_1 a0_2 a0_3 a0_4 a0_5).bind fun t253 => (impl_Puzzle_broken.l0 k l1 t253 0 l0_0 a0_1 a0_2 a0_3 a0_4 a0_5)) = some r := h
 clear h
 replace H := Option.bind_eq_some_iff.mp H
 obtain ⟨t253, A30, H⟩ := H
 replace H : (impl_Puzzle_broken.l0 k l1 t253 0 l0_0 a0_1 a0_2 a0_3 a0_4 a0_5) = some r := H
 have A3 := Aside0.mk A30
 clear A30
 have H' := Aside0.mk H
 clear H
 go_enter Try.func64, Try.ntmps64
 go_wp2_with (first | ((with_reducible refine gate_dst (N := 2) rfl ?_); refine box_event ?hg (N := 2) ?hd (cs := #[.slice A0_0 l0_0.length c0_0, .int .i16 a0_1, .int .i16 a0_2, .int .i16 a0_3, .int .i16 a0_4, .bool a0_5]) (t := 32) ?hr ?_; (case hd => rfl); (case hg => rfl); (case hr => first | (go_simp; done) | (go_simp; rfl)); intro gb252 hg w4 hbox hb; have n0_ := A_ (below_step (bl_ HB) hb); have n1_ := A_ (hbox); have n2_ := A_ ((by rw [hg]; exact (below_size (bl_ HB)) : w.heap.size ≤ gb252)); have n3_ := n2_; clear HB; have HB := n0_; have BK252 := n1_; have GW252 := n2_; have GE252 := n3_; clear n0_ n1_ n2_ n3_; clear hb hbox hg; obtain ⟨hcz5_0, hcz5_1, hcz5_2, hcz5_3, hcz5_4, hcz5_5, hfz5_0, hfz5_1, hfz5_2, hfz5_3, hfz5_4, hfz5_5⟩ := cl6_ BK252) | ((with_reducible refine gate_callee (f := 65) rfl ?_); refine goesL_ (some 14) rfl rfl Try.func65 (by kernel_rfl) rfl #[.agg #[.slice A0_0 l0_0.length c0_0, .int .i16 a0_1, .int .i16 a0_2, .int .i16 a0_3, .int .i16 a0_4, .bool a0_5]] rfl arg_ ?_; (with_reducible refine (impl_Puzzle_states.calls k _ _ l0_0 a0_1 a0_2 a0_3 a0_4 a0_5 t253 _ ?side1 ?side2 A3.out).mono ?_); (case side1 => exact Kd.C_below HR0_0.out (bl_ HB)); (case side2 => exact HC0_0.out); rintro e w6 ⟨rfl, hb⟩; refine ⟨_, rfl, ?_⟩; have n0_ := A_ (blk_below (pl_ BK252) hb); have n1_ := A_ (below_step (bl_ HB) hb); clear BK252; clear HB; have BK252 := n0_; have HB := n1_; clear n0_ n1_; (try clear hb); (try clear hb2); (try clear hk); (try clear hi)))
 go_loopg [15] k (fun kq v15 w' => ∃ (x15_1 : Int), v15 = .int .i64 x15_1 ∧ Aside0 (impl_Puzzle_broken.l0 kq l1 t253 x15_1 l0_0 a0_1 a0_2 a0_3 a0_4 a0_5 = some r) ∧ Aside0 (kq ≤ k) ∧ Aside0 (w'.heap[gb252]? = some (.cells #[(.slice A0_0 l0_0.length c0_0), .int .i16 a0_1, .int .i16 a0_2, .int .i16 a0_3, .int .i16 a0_4, .bool a0_5] 32 (0, 0))) ∧ Aside0 (Below w.heap.size w w'))
 case atStart => exact ⟨(0), rs_, H', ⟨Nat.le_refl _⟩, ⟨pl_ BK252⟩, ⟨bl_ HB⟩⟩
 case round =>
  clear H'
  try clear c1
  try clear p2
  try clear c6
  try clear hcz5_0
  try clear hcz5_1
  try clear hcz5_2
  try clear hcz5_3
  try clear hcz5_4
  try clear hcz5_5
  try clear hfz5_0
  try clear hfz5_1
  try clear hfz5_2
  try clear hfz5_3
  try clear hfz5_4
  try clear hfz5_5
  obtain ⟨x15_1, rfl, HA, HK1, BK252, HB⟩ := hrel
  cases gk with
  | zero => exact absurd HA.out (by simp [impl_Puzzle_broken.l0])
  | succ k1 =>
   have H := HA.out
   clear HA
   simp only [impl_Puzzle_broken.l0] at H
   by_cases c7 : x15_1 < t253
   ·rw [if_pos c7] at H
    have c7b0 : decide (x15_1 < t253) = true := decide_eq_true c7
    clear c7
    by_cases c8 : 0 ≤ x15_1
    ·rw [if_pos c8] at H
     have c8b0 : decide (0 ≤ x15_1) = true := decide_eq_true c8
     clear c8
     by_cases c9 : x15_1 < (l1.length : Int)
     ·rw [if_pos c9] at H
      have c9b0 : decide (x15_1 < (l1.length : Int)) = true := decide_eq_true c9
      clear c9
      replace H := Option.bind_eq_some_iff.mp H
      obtain ⟨⟨t255, t256, t257, t258⟩, A100, H⟩ := H
      replace H : (if (rd l1 x15_1) < (-1) then (impl_Puzzle_broken.j1 k1 l1 x15_1 (rd l1 x15_1) t253 x15_1 true l0_0 a0_1 a0_2 a0_3 a0_4 a0_5 t255 t256 t257 t258) else (if (t255 == a0_1 && (t256 == a0_2 && (t257 == a0_3 && (t258 == a0_4)))) = true then (impl_Puzzle_broken.j1 k1 l1 x15_1 (rd l1 x15_1) t253 x15_1 ((rd l1 x15_1) != 0) l0_0 a0_1 a0_2 a0_3 a0_4 a0_5 t255 t256 t257 t258) else (impl_Puzzle_broken.j1 k1 l1 x15_1 (rd l1 x15_1) t253 x15_1 false l0_0 a0_1 a0_2 a0_3 a0_4 a0_5 t255 t256 t257 t258))) = some r := H
      have A10 := Aside0.mk A100
      clear A100
      have HC11 := Aside0.mk H
      clear H
      try go_wp2
      have n0_ := A_ (blk_drew BK252.out)
      have n1_ := A_ (below_drew1 HB.out)
      clear BK252
      clear HB
      have BK252 := n0_
      have HB := n1_
      clear n0_ n1_
      have p254 : 0 ≤ (x15_1 : Int) := asm_
      have q254 : x15_1 < (l1.length : Int) := asm_
      obtain ⟨ad254, e254, hx254_0⟩ := Kd.at_int HR1.out x15_1 p254 q254
      have hw254_0 := hx254_0
      cases e254
      (try replace hx254_0 := (HB.out.cell (World.block_lt_of_cell? w _ hx254_0)).trans hx254_0)
      replace p254 := eq_true p254
      replace q254 := eq_true q254
      refine start_ (n := 10) (S := fun w' => w'.cell? ⟨gb252, 0, none⟩ = some (.slice A0_0 l0_0.length c0_0) ∧ w'.cell? ⟨gb252, 1, none⟩ = some (.int .i16 a0_1) ∧ w'.cell? ⟨gb252, 2, none⟩ = some (.int .i16 a0_2) ∧ w'.cell? ⟨gb252, 3, none⟩ = some (.int .i16 a0_3) ∧ w'.cell? ⟨gb252, 4, none⟩ = some (.int .i16 a0_4) ∧ w'.cell? ⟨gb252, 5, none⟩ = some (.bool a0_5) ∧ w'.cell? (ad254.add (x15_1).toNat) = some (.int .i16 (rd l1 x15_1))) (ds := []) #[false, false, false, false, false, false, false, false, false, false] (by kernel_rfl) rfl rfl ⟨(blk_cell BK252.out 0).trans rfl, (blk_cell BK252.out 1).trans rfl, (blk_cell BK252.out 2).trans rfl, (blk_cell BK252.out 3).trans rfl, (blk_cell BK252.out 4).trans rfl, (blk_cell BK252.out 5).trans rfl, (by first | exact (HB.out.cell (World.block_lt_of_cell? w _ hw254_0)).trans hw254_0 | exact hw254_0)⟩ (fun hHeld => ?_); refine with_tabW impl_Puzzle_broken.tab4 impl_Puzzle_broken.bits4 (fun HT_ HW_ => ?_)
      generalize wr.drew = w12 at BK252 HB hx254_0 hHeld ⊢
      refine pure_ (i := 0) (N := some 18) (v := ?_) (a' := ?_) #[true, false, false, false, false, false, false, false, false, false] rfl rfl (any_of HT_.out (by kernel_rfl)) (fun _ _ _ h => h) (Or.inl ⟨by rfl, ?_⟩) ?_ ?_
      rotate_left
      ·intro w'
       go_simp
       with_reducible rfl
      rotate_left
      ·simp only [Act.put, sp_]
       rfl
      refine pure_ (i := 1) (N := some 19) (v := ?_) (a' := ?_) #[true, true, false, false, false, false, false, false, false, false] rfl rfl (any_of HT_.out (by kernel_rfl)) (fun _ _ _ h => h) (Or.inl ⟨by rfl, ?_⟩) ?_ ?_
      rotate_left
      ·intro w'
       go_simp
       with_reducible rfl
      rotate_left
      ·simp only [Act.put, sp_]
       rfl
      refine pure_ (i := 2) (N := some 20) (v := ?_) (a' := ?_) #[true, true, true, false, false, false, false, false, false, false] rfl rfl (any_of HT_.out (by kernel_rfl)) (fun _ _ _ h => h) (Or.inl ⟨by rfl, ?_⟩) ?_ ?_
      rotate_left
      ·intro w'
       go_simp
       with_reducible rfl
      rotate_left
      ·simp only [Act.put, sp_]
       rfl
      refine pure_ (i := 5) (N := some 23) (v := ?_) (a' := ?_) #[true, true, true, false, false, true, false, false, false, false] rfl rfl (any_of HT_.out (by kernel_rfl)) (fun _ _ _ h => h) (Or.inl ⟨by rfl, ?_⟩) ?_ ?_
      rotate_left
      ·intro w'
       go_simp
       with_reducible rfl
      rotate_left
      ·simp only [Act.put, sp_]
       rfl
      refine take_ (i := 3) (N := some 21) (v := ?_) (a' := ?_) #[true, true, true, true, false, true, false, false, false, false] rfl rfl (take_ofW HT_.out HW_.out (by kernel_rfl)) (fun _ _ _ h => h) (Or.inl ⟨by rfl, ?_⟩) hHeld ?_ ?_
      rotate_left
      ·rintro w' ⟨s0, s1, s2, s3, s4, s5, s6⟩
       go_simp
       with_reducible rfl
      rotate_left
      ·simp only [Act.put, sp_]
       rfl
      refine take_ (i := 4) (N := some 22) (v := ?_) (a' := ?_) #[true, true, true, true, true, true, false, false, false, false] rfl rfl (take_ofW HT_.out HW_.out (by kernel_rfl)) (fun _ _ _ h => h) (Or.inl ⟨by rfl, ?_⟩) hHeld ?_ ?_
      rotate_left
      ·rintro w' ⟨s0, s1, s2, s3, s4, s5, s6⟩
       go_simp
       with_reducible rfl
      rotate_left
      ·simp only [Act.put, sp_]
       rfl
      refine join_ (σ := Nat) 2 #[true, true, true, true, true, true, true, true, false, false] (fun s_ => [(24, .agg #[.int .i16 t255, .int .i16 t256, .int .i16 t257, .int .i16 t258]), (7, .pointer (some ⟨s_, 0, none⟩))]) (fun s_ w' => (w'.cell? ⟨gb252, 0, none⟩ = some (.slice A0_0 l0_0.length c0_0) ∧ w'.cell? ⟨gb252, 1, none⟩ = some (.int .i16 a0_1) ∧ w'.cell? ⟨gb252, 2, none⟩ = some (.int .i16 a0_2) ∧ w'.cell? ⟨gb252, 3, none⟩ = some (.int .i16 a0_3) ∧ w'.cell? ⟨gb252, 4, none⟩ = some (.int .i16 a0_4) ∧ w'.cell? ⟨gb252, 5, none⟩ = some (.bool a0_5) ∧ w'.cell? (ad254.add (x15_1).toNat) = some (.int .i16 (rd l1 x15_1))) ∧ (w'.heap[gb252]? = some (.cells #[.slice A0_0 l0_0.length c0_0, .int .i16 a0_1, .int .i16 a0_2, .int .i16 a0_3, .int .i16 a0_4, .bool a0_5] 32 (0, 0))) ∧ (w'.heap[s_]? = some (.cells #[.int .i16 0, .int .i16 0, .int .i16 0, .int .i16 0] 30 (0, 0))) ∧ (w.heap.size ≤ s_) ∧ (w.heap.size ≤ s_) ∧ (gb252 ≠ s_) ∧ (s_ ≠ gb252) ∧ (Below w.heap.size w w')) ?_ ?_
      rotate_left
      ·intro hCont
       refine two_ (i := 6) (j := 7) (Ni := some 24) (Nj := some 7) #[true, true, true, true, true, true, true, false, false, false] #[true, true, true, true, true, true, false, true, false, false] rfl rfl rfl rfl (two_of HT_.out (by kernel_rfl)) (by decide) (by decide) (fun K hK => ?_) (fun K hK => ?_)
       ·skip
        refine goes_ Try.func67 (by kernel_rfl) rfl #[.agg #[.slice A0_0 l0_0.length c0_0, .int .i16 a0_1, .int .i16 a0_2, .int .i16 a0_3, .int .i16 a0_4, .bool a0_5], .int .i64 x15_1] (by rfl) rfl rfl arg_ ?_
        with_reducible refine (impl_Puzzle_at.calls k1 _ _ l0_0 a0_1 a0_2 a0_3 a0_4 a0_5 x15_1 t255 t256 t257 t258 _ ?side1 ?side2 A10.out).mono ?_
        (case side1 => exact Kd.C_below HR0_0.out (bl_ HB))
        (case side2 => exact HC0_0.out)
        rintro e w13 ⟨rfl, hb⟩
        refine ⟨_, rfl, ?_⟩
        have n0_ := A_ (blk_below (pl_ BK252) hb)
        have n1_ := A_ (below_step (bl_ HB) hb)
        clear BK252
        clear HB
        have BK252 := n0_
        have HB := n1_
        clear n0_ n1_
        (try clear hb)
        (try clear hb2)
        (try clear hk)
        (try clear hi)
        refine hK.out _ _ ⟨(blk_cell BK252.out 0).trans rfl, (blk_cell BK252.out 1).trans rfl, (blk_cell BK252.out 2).trans rfl, (blk_cell BK252.out 3).trans rfl, (blk_cell BK252.out 4).trans rfl, (blk_cell BK252.out 5).trans rfl, (by first | exact (HB.out.cell (World.block_lt_of_cell? w _ hw254_0)).trans hw254_0 | exact hw254_0)⟩ (fun hHeld => ?_)
        clear hK K
        refine norm_ (a' := ?_) ?_ ?_
        rotate_left
        ·show Act.put _ (some 24) _ = _
         simp only [Act.put, sp_]
         rfl
        refine one_ (i := 7) (N := some 7) #[true, true, true, true, true, true, true, true, false, false] rfl rfl (one_of HT_.out (by kernel_rfl)) (by decide) (fun K hK => ?_)
        refine box_step ?hg (N := 7) ?hd (cs := #[.int .i16 0, .int .i16 0, .int .i16 0, .int .i16 0]) (t := 30) ?hr ?_; (case hd => rfl); (case hg => rfl); (case hr => first | (go_simp; done) | (go_simp; rfl))
        intro gb259 hg w14 hbox hb
        have n0_ := A_ (blk_below (pl_ BK252) hb)
        have n1_ := A_ (below_step (bl_ HB) hb)
        have n2_ := A_ (hbox)
        have n3_ := A_ ((by rw [hg]; exact (below_size (bl_ HB)) : w.heap.size ≤ gb259))
        have n4_ := n3_
        have n5_ := A_ ((by rw [hg]; exact Nat.ne_of_lt (blk_lt (pl_ BK252)) : gb252 ≠ gb259))
        have n6_ := Aside0.mk n5_.out.symm
        clear BK252
        clear HB
        have BK252 := n0_
        have HB := n1_
        have BK259 := n2_
        have GW259 := n3_
        have GE259 := n4_
        have NB252_259 := n5_
        have NB259_252 := n6_
        clear n0_ n1_ n2_ n3_ n4_ n5_ n6_
        clear hb hbox hg
        refine hK.out _ _ ⟨(blk_cell BK252.out 0).trans rfl, (blk_cell BK252.out 1).trans rfl, (blk_cell BK252.out 2).trans rfl, (blk_cell BK252.out 3).trans rfl, (blk_cell BK252.out 4).trans rfl, (blk_cell BK252.out 5).trans rfl, (by first | exact (HB.out.cell (World.block_lt_of_cell? w _ hw254_0)).trans hw254_0 | exact hw254_0)⟩ (fun hHeld => ?_)
        clear hK K
        refine norm_ (a' := ?_) ?_ ?_
        rotate_left
        ·show Act.put _ (some 7) _ = _
         simp only [Act.put, sp_]
         rfl
        exact norm_ pa_ (hCont (gb259) _ ⟨hHeld, (pl_ BK252), (pl_ BK259), GW259.out, GE259.out, NB252_259.out, NB259_252.out, (bl_ HB)⟩)
       ·skip
        refine box_step ?hg (N := 7) ?hd (cs := #[.int .i16 0, .int .i16 0, .int .i16 0, .int .i16 0]) (t := 30) ?hr ?_; (case hd => rfl); (case hg => rfl); (case hr => first | (go_simp; done) | (go_simp; rfl))
        intro gb259 hg w13 hbox hb
        have n0_ := A_ (blk_below (pl_ BK252) hb)
        have n1_ := A_ (below_step (bl_ HB) hb)
        have n2_ := A_ (hbox)
        have n3_ := A_ ((by rw [hg]; exact (below_size (bl_ HB)) : w.heap.size ≤ gb259))
        have n4_ := n3_
        have n5_ := A_ ((by rw [hg]; exact Nat.ne_of_lt (blk_lt (pl_ BK252)) : gb252 ≠ gb259))
        have n6_ := Aside0.mk n5_.out.symm
        clear BK252
        clear HB
        have BK252 := n0_
        have HB := n1_
        have BK259 := n2_
        have GW259 := n3_
        have GE259 := n4_
        have NB252_259 := n5_
        have NB259_252 := n6_
        clear n0_ n1_ n2_ n3_ n4_ n5_ n6_
        clear hb hbox hg
        refine hK.out _ _ ⟨(blk_cell BK252.out 0).trans rfl, (blk_cell BK252.out 1).trans rfl, (blk_cell BK252.out 2).trans rfl, (blk_cell BK252.out 3).trans rfl, (blk_cell BK252.out 4).trans rfl, (blk_cell BK252.out 5).trans rfl, (by first | exact (HB.out.cell (World.block_lt_of_cell? w _ hw254_0)).trans hw254_0 | exact hw254_0)⟩ (fun hHeld => ?_)
        clear hK K
        refine norm_ (a' := ?_) ?_ ?_
        rotate_left
        ·show Act.put _ (some 7) _ = _
         simp only [Act.put, sp_]
         rfl
        refine one_ (i := 6) (N := some 24) #[true, true, true, true, true, true, true, true, false, false] rfl rfl (one_of HT_.out (by kernel_rfl)) (by decide) (fun K hK => ?_)
        refine goes_ Try.func67 (by kernel_rfl) rfl #[.agg #[.slice A0_0 l0_0.length c0_0, .int .i16 a0_1, .int .i16 a0_2, .int .i16 a0_3, .int .i16 a0_4, .bool a0_5], .int .i64 x15_1] (by rfl) rfl rfl arg_ ?_
        with_reducible refine (impl_Puzzle_at.calls k1 _ _ l0_0 a0_1 a0_2 a0_3 a0_4 a0_5 x15_1 t255 t256 t257 t258 _ ?side1 ?side2 A10.out).mono ?_
        (case side1 => exact Kd.C_below HR0_0.out (bl_ HB))
        (case side2 => exact HC0_0.out)
        rintro e w14 ⟨rfl, hb⟩
        refine ⟨_, rfl, ?_⟩
        have n0_ := A_ (blk_below (pl_ BK252) hb)
        have n1_ := A_ (blk_below (pl_ BK259) hb)
        have n2_ := A_ (below_step (bl_ HB) hb)
        clear BK252
        clear BK259
        clear HB
        have BK252 := n0_
        have BK259 := n1_
        have HB := n2_
        clear n0_ n1_ n2_
        (try clear hb)
        (try clear hb2)
        (try clear hk)
        (try clear hi)
        refine hK.out _ _ ⟨(blk_cell BK252.out 0).trans rfl, (blk_cell BK252.out 1).trans rfl, (blk_cell BK252.out 2).trans rfl, (blk_cell BK252.out 3).trans rfl, (blk_cell BK252.out 4).trans rfl, (blk_cell BK252.out 5).trans rfl, (by first | exact (HB.out.cell (World.block_lt_of_cell? w _ hw254_0)).trans hw254_0 | exact hw254_0)⟩ (fun hHeld => ?_)
        clear hK K
        refine norm_ (a' := ?_) ?_ ?_
        rotate_left
        ·show Act.put _ (some 24) _ = _
         simp only [Act.put, sp_]
         rfl
        exact norm_ pa_ (hCont (gb259) _ ⟨hHeld, (pl_ BK252), (pl_ BK259), GW259.out, GE259.out, NB252_259.out, NB259_252.out, (bl_ HB)⟩)
      rintro gb259 w15 ⟨hS_, h0_, h1_, h2_, h3_, h4_, h5_, h6_⟩
      have n0_ : Aside0 (w15.heap[gb252]? = some (.cells #[.slice A0_0 l0_0.length c0_0, .int .i16 a0_1, .int .i16 a0_2, .int .i16 a0_3, .int .i16 a0_4, .bool a0_5] 32 (0, 0))) := ⟨h0_⟩
      have n1_ : Aside0 (w15.heap[gb259]? = some (.cells #[.int .i16 0, .int .i16 0, .int .i16 0, .int .i16 0] 30 (0, 0))) := ⟨h1_⟩
      have n2_ : Aside0 (w.heap.size ≤ gb259) := ⟨h2_⟩
      have n3_ : Aside0 (w.heap.size ≤ gb259) := ⟨h3_⟩
      have n4_ : Aside0 (gb252 ≠ gb259) := ⟨h4_⟩
      have n5_ : Aside0 (gb259 ≠ gb252) := ⟨h5_⟩
      have n6_ : Aside0 (Below w.heap.size w w15) := ⟨h6_⟩
      clear BK252
      clear HB
      clear h0_ h1_ h2_ h3_ h4_ h5_ h6_
      have BK252 := n0_
      have BK259 := n1_
      have GW259 := n2_
      have GE259 := n3_
      have NB252_259 := n4_
      have NB259_252 := n5_
      have HB := n6_
      clear n0_ n1_ n2_ n3_ n4_ n5_ n6_
      have hHeld : w15.cell? ⟨gb252, 0, none⟩ = some (.slice A0_0 l0_0.length c0_0) ∧ w15.cell? ⟨gb252, 1, none⟩ = some (.int .i16 a0_1) ∧ w15.cell? ⟨gb252, 2, none⟩ = some (.int .i16 a0_2) ∧ w15.cell? ⟨gb252, 3, none⟩ = some (.int .i16 a0_3) ∧ w15.cell? ⟨gb252, 4, none⟩ = some (.int .i16 a0_4) ∧ w15.cell? ⟨gb252, 5, none⟩ = some (.bool a0_5) ∧ w15.cell? (ad254.add (x15_1).toNat) = some (.int .i16 (rd l1 x15_1)) := hS_
      refine norm_ (a' := ?_) ?_ ?_
      rotate_left
      ·simp only [putAll, Act.put, List.setIfInBounds_toArray, List.set_cons_zero, List.set_cons_succ]
       rfl
      refine pure_ (i := 8) (N := some 6) (v := ?_) (a' := ?_) #[true, true, true, true, true, true, true, true, true, false] rfl rfl (any_of HT_.out (by kernel_rfl)) (fun _ _ _ h => h) (Or.inl ⟨by rfl, ?_⟩) ?_ ?_
      rotate_left
      ·intro w'
       go_simp
       with_reducible rfl
      rotate_left
      ·simp only [Act.put, sp_]
       rfl
      refine one_ (i := 9) (N := none) #[true, true, true, true, true, true, true, true, true, true] rfl rfl (one_of HT_.out (by kernel_rfl)) (by decide) (fun K hK => ?_)
      have hs16 : w15.cell? ⟨gb259, 0, none⟩ = some (.int .i16 0) := (blk_cell BK259.out 0).trans rfl
      have hfs16 := blk_frozen BK259.out 0
      have hns16_0 := NB252_259.out
      have hms16_0 := NB259_252.out
      have hs17 : w15.cell? ⟨gb259, 1, none⟩ = some (.int .i16 0) := (blk_cell BK259.out 1).trans rfl
      have hfs17 := blk_frozen BK259.out 1
      have hns17_0 := NB252_259.out
      have hms17_0 := NB259_252.out
      have hs18 : w15.cell? ⟨gb259, 2, none⟩ = some (.int .i16 0) := (blk_cell BK259.out 2).trans rfl
      have hfs18 := blk_frozen BK259.out 2
      have hns18_0 := NB252_259.out
      have hms18_0 := NB259_252.out
      have hs19 : w15.cell? ⟨gb259, 3, none⟩ = some (.int .i16 0) := (blk_cell BK259.out 3).trans rfl
      have hfs19 := blk_frozen BK259.out 3
      have hns19_0 := NB252_259.out
      have hms19_0 := NB259_252.out
      refine skip_ (w1 := ?_) (by rfl) rfl ?_ ?_
      rotate_left
      ·go_simp
       rfl
      refine hK.out _ _ ⟨(cf4_ NB252_259 (hHeld.1)), (cf4_ NB252_259 (hHeld.2.1)), (cf4_ NB252_259 (hHeld.2.2.1)), (cf4_ NB252_259 (hHeld.2.2.2.1)), (cf4_ NB252_259 (hHeld.2.2.2.2.1)), (cf4_ NB252_259 (hHeld.2.2.2.2.2.1)), ((cell_far (p := ⟨gb259, _, none⟩) (by first | exact Nat.ne_of_lt (Nat.lt_of_lt_of_le (by have := World.block_lt_of_cell? _ _ hw254_0; first | rwa [add_block] at this | exact this) GW259.out) | (rw [add_block]; exact Nat.ne_of_lt (Nat.lt_of_lt_of_le (by have := World.block_lt_of_cell? _ _ hw254_0; first | rwa [add_block] at this | exact this) GW259.out)) | (show (Addr.add _ _).block ≠ _; rw [add_block]; exact Nat.ne_of_lt (Nat.lt_of_lt_of_le (by have := World.block_lt_of_cell? _ _ hw254_0; first | rwa [add_block] at this | exact this) GW259.out)) | (dsimp only; exact Nat.ne_of_lt (Nat.lt_of_lt_of_le (by have := World.block_lt_of_cell? _ _ hw254_0; first | rwa [add_block] at this | exact this) GW259.out))) _).trans (((cell_far (p := ⟨gb259, _, none⟩) (by first | exact Nat.ne_of_lt (Nat.lt_of_lt_of_le (by have := World.block_lt_of_cell? _ _ hw254_0; first | rwa [add_block] at this | exact this) GW259.out) | (rw [add_block]; exact Nat.ne_of_lt (Nat.lt_of_lt_of_le (by have := World.block_lt_of_cell? _ _ hw254_0; first | rwa [add_block] at this | exact this) GW259.out)) | (show (Addr.add _ _).block ≠ _; rw [add_block]; exact Nat.ne_of_lt (Nat.lt_of_lt_of_le (by have := World.block_lt_of_cell? _ _ hw254_0; first | rwa [add_block] at this | exact this) GW259.out)) | (dsimp only; exact Nat.ne_of_lt (Nat.lt_of_lt_of_le (by have := World.block_lt_of_cell? _ _ hw254_0; first | rwa [add_block] at this | exact this) GW259.out))) _).trans (((cell_far (p := ⟨gb259, _, none⟩) (by first | exact Nat.ne_of_lt (Nat.lt_of_lt_of_le (by have := World.block_lt_of_cell? _ _ hw254_0; first | rwa [add_block] at this | exact this) GW259.out) | (rw [add_block]; exact Nat.ne_of_lt (Nat.lt_of_lt_of_le (by have := World.block_lt_of_cell? _ _ hw254_0; first | rwa [add_block] at this | exact this) GW259.out)) | (show (Addr.add _ _).block ≠ _; rw [add_block]; exact Nat.ne_of_lt (Nat.lt_of_lt_of_le (by have := World.block_lt_of_cell? _ _ hw254_0; first | rwa [add_block] at this | exact this) GW259.out)) | (dsimp only; exact Nat.ne_of_lt (Nat.lt_of_lt_of_le (by have := World.block_lt_of_cell? _ _ hw254_0; first | rwa [add_block] at this | exact this) GW259.out))) _).trans (((cell_far (p := ⟨gb259, _, none⟩) (by first | exact Nat.ne_of_lt (Nat.lt_of_lt_of_le (by have := World.block_lt_of_cell? _ _ hw254_0; first | rwa [add_block] at this | exact this) GW259.out) | (rw [add_block]; exact Nat.ne_of_lt (Nat.lt_of_lt_of_le (by have := World.block_lt_of_cell? _ _ hw254_0; first | rwa [add_block] at this | exact this) GW259.out)) | (show (Addr.add _ _).block ≠ _; rw [add_block]; exact Nat.ne_of_lt (Nat.lt_of_lt_of_le (by have := World.block_lt_of_cell? _ _ hw254_0; first | rwa [add_block] at this | exact this) GW259.out)) | (dsimp only; exact Nat.ne_of_lt (Nat.lt_of_lt_of_le (by have := World.block_lt_of_cell? _ _ hw254_0; first | rwa [add_block] at this | exact this) GW259.out))) _).trans (hHeld.2.2.2.2.2.2))))))))⟩ (fun hHeld => ?_)
      clear hK K
      refine done_ (done_of HT_.out (by kernel_rfl)) ?_
      go_upto_region 5 with (fail)
      go_cut [36] (fun v36 wc => ∃ (kq : Nat) (x36_10 : Bool), v36 = .bool x36_10 ∧ Aside0 (impl_Puzzle_broken.j1 kq l1 x15_1 (rd l1 x15_1) t253 x15_1 x36_10 l0_0 a0_1 a0_2 a0_3 a0_4 a0_5 t255 t256 t257 t258 = some r) ∧ Aside0 (kq ≤ k1) ∧ Aside0 (wc.heap[gb252]? = some (.cells #[(.slice A0_0 l0_0.length c0_0), .int .i16 a0_1, .int .i16 a0_2, .int .i16 a0_3, .int .i16 a0_4, .bool a0_5] 32 (0, 0))) ∧ Aside0 (wc.heap[gb259]? = some (.cells #[.int .i16 t255, .int .i16 t256, .int .i16 t257, .int .i16 t258] 30 (0, 0))) ∧ Aside0 (Below w.heap.size w wc))
      case first =>
       have H := HC11.out
       clear HC11
       by_cases c20 : (rd l1 x15_1) < (-1)
       ·rw [if_pos c20] at H
        have c20b0 : decide ((rd l1 x15_1) < (-1)) = true := decide_eq_true c20
        clear c20
        (first | rw [c20b0] | (simp only [i64_w, i32_w]; rw [c20b0]) | skip)
        have H' := Aside0.mk H
        clear H
        go_wp2
        go_meet
        case rel => exact ⟨_, (true), rs_, H', ⟨by have := HK1.out; first | omega | exact Nat.le_refl _⟩, ⟨pf_ BK252 NB252_259⟩, ⟨by (with_reducible repeat (first | refine blk_drewN ?_ _ | refine blk_drew ?_ | refine blk_alloc ?_ _)); refine blk_put (cs := #[.int .i16 t255, .int .i16 t256, .int .i16 t257, .int .i16 0]) ?_ 3 _ rfl; (with_reducible repeat (first | refine blk_drewN ?_ _ | refine blk_drew ?_ | refine blk_alloc ?_ _)); refine blk_put (cs := #[.int .i16 t255, .int .i16 t256, .int .i16 0, .int .i16 0]) ?_ 2 _ rfl; (with_reducible repeat (first | refine blk_drewN ?_ _ | refine blk_drew ?_ | refine blk_alloc ?_ _)); refine blk_put (cs := #[.int .i16 t255, .int .i16 0, .int .i16 0, .int .i16 0]) ?_ 1 _ rfl; (with_reducible repeat (first | refine blk_drewN ?_ _ | refine blk_drew ?_ | refine blk_alloc ?_ _)); refine blk_put (cs := #[.int .i16 0, .int .i16 0, .int .i16 0, .int .i16 0]) ?_ 0 _ rfl; (with_reducible repeat (first | refine blk_drewN ?_ _ | refine blk_drew ?_ | refine blk_alloc ?_ _)); exact BK259.out⟩, ⟨bs_ HB GE259⟩⟩
       ·rw [if_neg c20] at H
        have c20b0 : decide ((rd l1 x15_1) < (-1)) = false := decide_eq_false c20
        clear c20
        (first | rw [c20b0] | (simp only [i64_w, i32_w]; rw [c20b0]) | skip)
        by_cases c21 : (t255 == a0_1 && (t256 == a0_2 && (t257 == a0_3 && (t258 == a0_4)))) = true
        ·rw [if_pos c21] at H
         have c21b0 : (t255 == a0_1 && (t256 == a0_2 && (t257 == a0_3 && (t258 == a0_4)))) = true := c21
         (try (have c21b1 : decide (t255 = a0_1 && (t256 == a0_2 && (t257 == a0_3 && (t258 == a0_4)))) = true := by simpa using c21))
         (try (have c21b2 : (t255 == a0_1 && (t256 == a0_2 && (t257 == a0_3 && (t258 == a0_4)))) = true := by simpa using c21))
         clear c21
         have H' := Aside0.mk H
         clear H
         have hnb22 := NB259_252.out
         have hnc22 := NB252_259.out
         obtain ⟨hcz23_0, hcz23_1, hcz23_2, hcz23_3, hfz23_0, hfz23_1, hfz23_2, hfz23_3⟩ := cl4_ BK259
         obtain ⟨hcz24_0, hcz24_1, hcz24_2, hcz24_3, hcz24_4, hcz24_5, hfz24_0, hfz24_1, hfz24_2, hfz24_3, hfz24_4, hfz24_5⟩ := cl6_ BK252
         go_wp2
         go_meet
         case rel => exact ⟨_, (((rd l1 x15_1) != 0)), rs_, H', ⟨by have := HK1.out; first | omega | exact Nat.le_refl _⟩, ⟨pf_ BK252 NB252_259⟩, ⟨by (with_reducible repeat (first | refine blk_drewN ?_ _ | refine blk_drew ?_ | refine blk_alloc ?_ _)); refine blk_put (cs := #[.int .i16 t255, .int .i16 t256, .int .i16 t257, .int .i16 0]) ?_ 3 _ rfl; (with_reducible repeat (first | refine blk_drewN ?_ _ | refine blk_drew ?_ | refine blk_alloc ?_ _)); refine blk_put (cs := #[.int .i16 t255, .int .i16 t256, .int .i16 0, .int .i16 0]) ?_ 2 _ rfl; (with_reducible repeat (first | refine blk_drewN ?_ _ | refine blk_drew ?_ | refine blk_alloc ?_ _)); refine blk_put (cs := #[.int .i16 t255, .int .i16 0, .int .i16 0, .int .i16 0]) ?_ 1 _ rfl; (with_reducible repeat (first | refine blk_drewN ?_ _ | refine blk_drew ?_ | refine blk_alloc ?_ _)); refine blk_put (cs := #[.int .i16 0, .int .i16 0, .int .i16 0, .int .i16 0]) ?_ 0 _ rfl; (with_reducible repeat (first | refine blk_drewN ?_ _ | refine blk_drew ?_ | refine blk_alloc ?_ _)); exact BK259.out⟩, ⟨bs_ HB GE259⟩⟩
        ·rw [if_neg c21] at H
         have c21b0 : (t255 == a0_1 && (t256 == a0_2 && (t257 == a0_3 && (t258 == a0_4)))) = false := by simpa using c21
         (try (have c21b1 : decide (t255 = a0_1 && (t256 == a0_2 && (t257 == a0_3 && (t258 == a0_4)))) = false := by simpa using c21))
         (try (have c21b2 : (t255 == a0_1 && (t256 == a0_2 && (t257 == a0_3 && (t258 == a0_4)))) = false := by simpa using c21))
         (try (have c21b3 : ¬ (t255 = a0_1 && (t256 == a0_2 && (t257 == a0_3 && (t258 == a0_4)))) := by simpa using c21))
         clear c21
         have H' := Aside0.mk H
         clear H
         have hnb25 := NB259_252.out
         have hnc25 := NB252_259.out
         obtain ⟨hcz26_0, hcz26_1, hcz26_2, hcz26_3, hfz26_0, hfz26_1, hfz26_2, hfz26_3⟩ := cl4_ BK259
         obtain ⟨hcz27_0, hcz27_1, hcz27_2, hcz27_3, hcz27_4, hcz27_5, hfz27_0, hfz27_1, hfz27_2, hfz27_3, hfz27_4, hfz27_5⟩ := cl6_ BK252
         go_wp2
         go_meet
         case rel => exact ⟨_, (false), rs_, H', ⟨by have := HK1.out; first | omega | exact Nat.le_refl _⟩, ⟨pf_ BK252 NB252_259⟩, ⟨by (with_reducible repeat (first | refine blk_drewN ?_ _ | refine blk_drew ?_ | refine blk_alloc ?_ _)); refine blk_put (cs := #[.int .i16 t255, .int .i16 t256, .int .i16 t257, .int .i16 0]) ?_ 3 _ rfl; (with_reducible repeat (first | refine blk_drewN ?_ _ | refine blk_drew ?_ | refine blk_alloc ?_ _)); refine blk_put (cs := #[.int .i16 t255, .int .i16 t256, .int .i16 0, .int .i16 0]) ?_ 2 _ rfl; (with_reducible repeat (first | refine blk_drewN ?_ _ | refine blk_drew ?_ | refine blk_alloc ?_ _)); refine blk_put (cs := #[.int .i16 t255, .int .i16 0, .int .i16 0, .int .i16 0]) ?_ 1 _ rfl; (with_reducible repeat (first | refine blk_drewN ?_ _ | refine blk_drew ?_ | refine blk_alloc ?_ _)); refine blk_put (cs := #[.int .i16 0, .int .i16 0, .int .i16 0, .int .i16 0]) ?_ 0 _ rfl; (with_reducible repeat (first | refine blk_drewN ?_ _ | refine blk_drew ?_ | refine blk_alloc ?_ _)); exact BK259.out⟩, ⟨bs_ HB GE259⟩⟩
      case rest =>
       clear HC11
       try clear c1
       try clear c2
       try clear p2
       try clear q2
       try clear hx2
       try clear c6
       try clear c7
       try clear c7b0
       try clear c8
       try clear c8b0
       try clear c9
       try clear c9b0
       try clear c20
       try clear c20b0
       try clear c21
       try clear c21b0
       try clear c21b1
       try clear c21b2
       try clear c22
       try clear c25
       try clear p25
       try clear q25
       try clear hx25
       try clear hcz23_0
       try clear hcz23_1
       try clear hcz23_2
       try clear hcz23_3
       try clear hcz24_0
       try clear hcz24_1
       try clear hcz24_2
       try clear hcz24_3
       try clear hcz24_4
       try clear hcz24_5
       try clear hcz26_0
       try clear hcz26_1
       try clear hcz26_2
       try clear hcz26_3
       try clear hcz27_0
       try clear hcz27_1
       try clear hcz27_2
       try clear hcz27_3
       try clear hcz27_4
       try clear hcz27_5
       try clear hcz5_0
       try clear hcz5_1
       try clear hcz5_2
       try clear hcz5_3
       try clear hcz5_4
       try clear hcz5_5
       try clear hfz23_0
       try clear hfz23_1
       try clear hfz23_2
       try clear hfz23_3
       try clear hfz24_0
       try clear hfz24_1
       try clear hfz24_2
       try clear hfz24_3
       try clear hfz24_4
       try clear hfz24_5
       try clear hfz26_0
       try clear hfz26_1
       try clear hfz26_2
       try clear hfz26_3
       try clear hfz27_0
       try clear hfz27_1
       try clear hfz27_2
       try clear hfz27_3
       try clear hfz27_4
       try clear hfz27_5
       try clear hfz5_0
       try clear hfz5_1
       try clear hfz5_2
       try clear hfz5_3
       try clear hfz5_4
       try clear hfz5_5
       try clear hx254_0
       try clear p2
       try clear p254
       try clear q254
       obtain ⟨kq, x36_10, rfl, HA, HJ10, BK252, BK259, HB⟩ := hcut
       cases kq with
       | zero => exact absurd HA.out (by simp [impl_Puzzle_broken.j1])
       | succ kj10 =>
        have H := HA.out
        clear HA
        simp only [impl_Puzzle_broken.j1] at H
        by_cases c28 : x36_10 = true
        ·subst c28
         have H1 : (some x15_1) = some r := by rw [if_pos rfl] at H; exact H
         clear H
         have H := H1
         clear H1
         obtain rfl := Option.some.inj H
         go_wp2
         go_ret
         exact ⟨by first | rfl | (simp [errW_none, errW_some] <;> rfl) | (simp [*, errW_none, errW_some] <;> rfl), bl_ HB⟩
        ·replace c28 := Bool.eq_false_iff.mpr c28
         subst c28
         have H1 : (if (rd l1 x15_1) = (-1) then (impl_Puzzle_broken.l0 kj10 l1 t253 (wrap64 (x15_1 + 1)) l0_0 a0_1 a0_2 a0_3 a0_4 a0_5) else ((impl_Puzzle_moves.f kj10 l0_0 a0_1 a0_2 a0_3 a0_4 a0_5 t255 t256 t257 t258).bind fun t260 => (impl_Puzzle_broken.l1 kj10 l1 x15_1 (rd l1 x15_1) t253 x15_1 t260 (t260.length : Int) 0 l0_0 a0_1 a0_2 a0_3 a0_4 a0_5 t255 t256 t257 t258))) = some r := by rw [if_neg (show ¬ (false = true) by decide)] at H; exact H
         clear H
         have H := H1
         clear H1
         by_cases c29 : (rd l1 x15_1) = (-1)
         ·rw [if_pos c29] at H
          have c29b0 : ((rd l1 x15_1) == (-1)) = true := beq_iff_eq.mpr c29
          have c29b1 : ((rd l1 x15_1) != (-1)) = false := bne_eq_false_iff_eq.mpr c29
          clear c29
          have H' := Aside0.mk H
          clear H
          go_wp2
          go_roundg kj10
          case measure => have := HK1.out; have := HJ10.out; omega
          case rel => exact ⟨(wrap64 (x15_1 + 1)), rs_, H', ⟨by have := HK1.out; have := HJ10.out; omega⟩, ⟨pl_ BK252⟩, ⟨bl_ HB⟩⟩
         ·rw [if_neg c29] at H
          have c29b0 : ((rd l1 x15_1) == (-1)) = false := beq_eq_false_iff_ne.mpr c29
          have c29b1 : ((rd l1 x15_1) != (-1)) = true := bne_iff_ne.mpr c29
          replace H := Option.bind_eq_some_iff.mp H
          obtain ⟨t260, A300, H⟩ := H
          replace H : (impl_Puzzle_broken.l1 kj10 l1 x15_1 (rd l1 x15_1) t253 x15_1 t260 (t260.length : Int) 0 l0_0 a0_1 a0_2 a0_3 a0_4 a0_5 t255 t256 t257 t258) = some r := H
          have A30 := Aside0.mk A300
          clear A300
          have H' := Aside0.mk H
          clear H
          have hnb31 := NB252_259.out
          have hnc31 := NB259_252.out
          obtain ⟨hcz32_0, hcz32_1, hcz32_2, hcz32_3, hcz32_4, hcz32_5, hfz32_0, hfz32_1, hfz32_2, hfz32_3, hfz32_4, hfz32_5⟩ := cl6_ BK252
          obtain ⟨hcz33_0, hcz33_1, hcz33_2, hcz33_3, hfz33_0, hfz33_1, hfz33_2, hfz33_3⟩ := cl4_ BK259
          go_wp2_with (first | ((with_reducible refine gate_callee (f := 89) rfl ?_); refine goesL_ (some 42) rfl rfl Try.func89 (by kernel_rfl) rfl #[.agg #[.slice A0_0 l0_0.length c0_0, .int .i16 a0_1, .int .i16 a0_2, .int .i16 a0_3, .int .i16 a0_4, .bool a0_5], .agg #[.int .i16 t255, .int .i16 t256, .int .i16 t257, .int .i16 t258]] rfl arg_ ?_; (with_reducible refine (impl_Puzzle_moves.calls kj10 _ _ l0_0 a0_1 a0_2 a0_3 a0_4 a0_5 t255 t256 t257 t258 t260 _ ?side1 ?side2 A30.out).mono ?_); (case side1 => exact Kd.C_below HR0_0.out (bl_ HB)); (case side2 => exact HC0_0.out); rintro e w34 ⟨v261, rfl, ho0, hb⟩; refine ⟨_, rfl, ?_⟩; have n0_ := A_ (Kd.R_lower ho0 (below_size (bl_ HB))); have n1_ := A_ (blk_below (pl_ BK252) hb); have n2_ := A_ (blk_below (pl_ BK259) hb); have n3_ := A_ (below_step (bl_ HB) hb); clear BK252; clear BK259; clear HB; have HO262 := n0_; have BK252 := n1_; have BK259 := n2_; have HB := n3_; clear n0_ n1_ n2_ n3_; (try clear hb); (try clear hb2); (try clear hk); (try clear hi); (try clear ho0); obtain ⟨Ao35, co35, eo35⟩ := Kd.R_slice HO262.out; subst eo35))
          go_loopg [44] kj10 (fun kq v44 w' => ∃ (x44_3 : Int), v44 = .int .i64 x44_3 ∧ Aside0 (impl_Puzzle_broken.l1 kq l1 x15_1 (rd l1 x15_1) t253 x15_1 t260 (t260.length : Int) x44_3 l0_0 a0_1 a0_2 a0_3 a0_4 a0_5 t255 t256 t257 t258 = some r) ∧ Aside0 (kq ≤ kj10) ∧ Aside0 (Kd.R k60 60 w' w.heap.size (fun _ => True) (.slice Ao35 t260.length co35) t260) ∧ Aside0 (w'.heap[gb252]? = some (.cells #[(.slice A0_0 l0_0.length c0_0), .int .i16 a0_1, .int .i16 a0_2, .int .i16 a0_3, .int .i16 a0_4, .bool a0_5] 32 (0, 0))) ∧ Aside0 (w'.heap[gb259]? = some (.cells #[.int .i16 t255, .int .i16 t256, .int .i16 t257, .int .i16 t258] 30 (0, 0))) ∧ Aside0 (Below w.heap.size w w'))
          case atStart => exact ⟨(0), rs_, H', ⟨Nat.le_refl _⟩, ⟨pr_ HO262⟩, ⟨pl_ BK252⟩, ⟨pl_ BK259⟩, ⟨bl_ HB⟩⟩
          case round =>
           clear H'
           try clear c1
           try clear c2
           try clear p2
           try clear q2
           try clear hx2
           try clear c3
           try clear c6
           try clear p6
           try clear c7
           try clear c7b0
           try clear c8
           try clear c8b0
           try clear c9
           try clear c9b0
           try clear c20
           try clear c20b0
           try clear c21
           try clear c21b0
           try clear c21b1
           try clear c21b2
           try clear c22
           try clear c25
           try clear p25
           try clear q25
           try clear hx25
           try clear c28
           try clear c29
           try clear c29b0
           try clear c29b1
           try clear c31
           try clear hcz23_0
           try clear hcz23_1
           try clear hcz23_2
           try clear hcz23_3
           try clear hcz24_0
           try clear hcz24_1
           try clear hcz24_2
           try clear hcz24_3
           try clear hcz24_4
           try clear hcz24_5
           try clear hcz26_0
           try clear hcz26_1
           try clear hcz26_2
           try clear hcz26_3
           try clear hcz27_0
           try clear hcz27_1
           try clear hcz27_2
           try clear hcz27_3
           try clear hcz27_4
           try clear hcz27_5
           try clear hcz32_0
           try clear hcz32_1
           try clear hcz32_2
           try clear hcz32_3
           try clear hcz32_4
           try clear hcz32_5
           try clear hcz33_0
           try clear hcz33_1
           try clear hcz33_2
           try clear hcz33_3
           try clear hcz5_0
           try clear hcz5_1
           try clear hcz5_2
           try clear hcz5_3
           try clear hcz5_4
           try clear hcz5_5
           try clear hfz23_0
           try clear hfz23_1
           try clear hfz23_2
           try clear hfz23_3
           try clear hfz24_0
           try clear hfz24_1
           try clear hfz24_2
           try clear hfz24_3
           try clear hfz24_4
           try clear hfz24_5
           try clear hfz26_0
           try clear hfz26_1
           try clear hfz26_2
           try clear hfz26_3
           try clear hfz27_0
           try clear hfz27_1
           try clear hfz27_2
           try clear hfz27_3
           try clear hfz27_4
           try clear hfz27_5
           try clear hfz32_0
           try clear hfz32_1
           try clear hfz32_2
           try clear hfz32_3
           try clear hfz32_4
           try clear hfz32_5
           try clear hfz33_0
           try clear hfz33_1
           try clear hfz33_2
           try clear hfz33_3
           try clear hfz5_0
           try clear hfz5_1
           try clear hfz5_2
           try clear hfz5_3
           try clear hfz5_4
           try clear hfz5_5
           try clear hx254_0
           try clear p2
           try clear p25
           try clear p254
           try clear q2
           try clear q25
           try clear q254
           obtain ⟨x44_3, rfl, HA, HK3, HO_42, BK252, BK259, HB⟩ := hrel
           cases gk with
           | zero => exact absurd HA.out (by simp [impl_Puzzle_broken.l1])
           | succ k3 =>
            have H := HA.out
            clear HA
            simp only [impl_Puzzle_broken.l1] at H
            by_cases c36 : x44_3 < (t260.length : Int)
            ·rw [if_pos c36] at H
             have c36b0 : decide (x44_3 < (t260.length : Int)) = true := decide_eq_true c36
             clear c36
             by_cases c37 : 0 ≤ x44_3
             ·rw [if_pos c37] at H
              have c37b0 : decide (0 ≤ x44_3) = true := decide_eq_true c37
              clear c37
              by_cases c38 : x44_3 < (t260.length : Int)
              ·rw [if_pos c38] at H
               have c38b0 : decide (x44_3 < (t260.length : Int)) = true := decide_eq_true c38
               clear c38
               replace H := Option.bind_eq_some_iff.mp H
               obtain ⟨⟨t265, t266, t267, t268, t269⟩, A390, H⟩ := H
               replace H : ((impl_Puzzle_index.f l0_0 a0_1 a0_2 a0_3 a0_4 a0_5 t265 t266 t267 t268).bind fun t271 => (if 0 ≤ t271 then (if t271 < (l1.length : Int) then (if (rd l1 t271) = (-1) then (some x15_1) else (if (wrap64 (rd l1 t271)) > (wrap64 ((wrap64 ((rd l1 x15_1))) + 1)) then (some x15_1) else (impl_Puzzle_broken.l1 k3 l1 x15_1 (rd l1 x15_1) t253 x15_1 t260 (t260.length : Int) (wrap64 (x44_3 + 1)) l0_0 a0_1 a0_2 a0_3 a0_4 a0_5 t255 t256 t257 t258))) else (none)) else (none))) = some r := H
               have A39 := Aside0.mk A390
               clear A390
               replace H := Option.bind_eq_some_iff.mp H
               obtain ⟨t271, A400, H⟩ := H
               replace H : (if 0 ≤ t271 then (if t271 < (l1.length : Int) then (if (rd l1 t271) = (-1) then (some x15_1) else (if (wrap64 (rd l1 t271)) > (wrap64 ((wrap64 ((rd l1 x15_1))) + 1)) then (some x15_1) else (impl_Puzzle_broken.l1 k3 l1 x15_1 (rd l1 x15_1) t253 x15_1 t260 (t260.length : Int) (wrap64 (x44_3 + 1)) l0_0 a0_1 a0_2 a0_3 a0_4 a0_5 t255 t256 t257 t258))) else (none)) else (none)) = some r := H
               have A40 := Aside0.mk A400
               clear A400
               by_cases c41 : 0 ≤ t271
               ·rw [if_pos c41] at H
                have c41b0 : decide (0 ≤ t271) = true := decide_eq_true c41
                clear c41
                by_cases c42 : t271 < (l1.length : Int)
                ·rw [if_pos c42] at H
                 have c42b0 : decide (t271 < (l1.length : Int)) = true := decide_eq_true c42
                 clear c42
                 by_cases c43 : (rd l1 t271) = (-1)
                 ·rw [if_pos c43] at H
                  have c43b0 : ((rd l1 t271) == (-1)) = true := beq_iff_eq.mpr c43
                  have c43b1 : ((rd l1 t271) != (-1)) = false := bne_eq_false_iff_eq.mpr c43
                  clear c43
                  obtain rfl := Option.some.inj H
                  have p263 : 0 ≤ (x44_3 : Int) := asm_
                  have q263 : x44_3 < (t260.length : Int) := asm_
                  obtain ⟨ad263, e263, hx263_0, hx263_1, hx263_2⟩ := at_T60 (Kd.R_reads' HO_42.out).2.2 x44_3 p263 q263
                  cases e263
                  replace p263 := eq_true p263
                  replace q263 := eq_true q263
                  go_wp2_with (first | ((with_reducible refine gate_dst (N := 9) rfl ?_); refine box_event ?hg (N := 9) ?hd (cs := #[.int .i8 0, .int .i8 0, .int .i8 0]) (t := 60) ?hr ?_; (case hd => rfl); (case hg => rfl); (case hr => first | (go_simp; done) | (go_simp; rfl)); intro gb264 hg w44 hbox hb; have n0_ := A_ (Kd.R_below (Kd.R_elderB (pr_ HO_42) gb264 (Nat.le_of_eq hg.symm)) hb); have n1_ := A_ (blk_below (pl_ BK252) hb); have n2_ := A_ (blk_below (pl_ BK259) hb); have n3_ := A_ (below_step (bl_ HB) hb); have n4_ := A_ (hbox); have n5_ := A_ ((by rw [hg]; exact (below_size (bl_ HB)) : w.heap.size ≤ gb264)); have n6_ := n5_; have n7_ := A_ ((by rw [hg]; exact Nat.ne_of_lt (blk_lt (pl_ BK252)) : gb252 ≠ gb264)); have n8_ := Aside0.mk n7_.out.symm; have n9_ := A_ ((by rw [hg]; exact Nat.ne_of_lt (blk_lt (pl_ BK259)) : gb259 ≠ gb264)); have n10_ := Aside0.mk n9_.out.symm; clear HO_42; clear BK252; clear BK259; clear HB; have HO_42 := n0_; have BK252 := n1_; have BK259 := n2_; have HB := n3_; have BK264 := n4_; have GW264 := n5_; have GE264 := n6_; have NB252_264 := n7_; have NB264_252 := n8_; have NB259_264 := n9_; have NB264_259 := n10_; clear n0_ n1_ n2_ n3_ n4_ n5_ n6_ n7_ n8_ n9_ n10_; clear hb hbox hg; have hnb45 := NB264_252.out; have hnc45 := NB252_264.out; have hnb46 := NB264_259.out; have hnc46 := NB259_264.out; obtain ⟨hcz47_0, hcz47_1, hcz47_2, hfz47_0, hfz47_1, hfz47_2⟩ := cl3_ BK264; have hnb48 := NB252_259.out; have hnc48 := NB259_252.out; obtain ⟨hcz49_0, hcz49_1, hcz49_2, hcz49_3, hcz49_4, hcz49_5, hfz49_0, hfz49_1, hfz49_2, hfz49_3, hfz49_4, hfz49_5⟩ := cl6_ BK252; obtain ⟨hcz50_0, hcz50_1, hcz50_2, hcz50_3, hfz50_0, hfz50_1, hfz50_2, hfz50_3⟩ := cl4_ BK259) | ((with_reducible refine gate_callee (f := 87) rfl ?_); refine goesL_ (some 52) rfl rfl Try.func87 (by kernel_rfl) rfl #[.agg #[.slice A0_0 l0_0.length c0_0, .int .i16 a0_1, .int .i16 a0_2, .int .i16 a0_3, .int .i16 a0_4, .bool a0_5], .agg #[.int .i16 t255, .int .i16 t256, .int .i16 t257, .int .i16 t258], .agg #[.int .i8 ((rd_T60 t260 x44_3).f0), .int .i8 ((rd_T60 t260 x44_3).f1), .int .i8 ((rd_T60 t260 x44_3).f2)]] rfl arg_ ?_; (with_reducible refine (impl_Puzzle_moved.calls k3 _ _ l0_0 a0_1 a0_2 a0_3 a0_4 a0_5 t255 t256 t257 t258 ((rd_T60 t260 x44_3).f0) ((rd_T60 t260 x44_3).f1) ((rd_T60 t260 x44_3).f2) t265 t266 t267 t268 t269 _ ?side1 ?side2 A39.out).mono ?_); (case side1 => exact Kd.C_below HR0_0.out (bs_ HB GE264)); (case side2 => exact HC0_0.out); rintro e w51 ⟨rfl, hb⟩; refine ⟨_, rfl, ?_⟩; have n0_ := A_ (Kd.R_below (by (with_reducible repeat (first | apply Kd.R_alloc | apply Kd.R_drewN | apply Kd.R_drew)); exact (Kd.R_mono (Kd.R_far (p := ⟨gb264, 2, none⟩) (Kd.R_far (p := ⟨gb264, 1, none⟩) (Kd.R_far (p := ⟨gb264, 0, none⟩) (Kd.R_mono HO_42.out (fun k_ hk => (⟨hk, hk.2⟩ : _ ∧ k_ ≠ gb264))) (fun _ hk => hk.2) (.int .i8 ((rd_T60 t260 x44_3).f0))) (fun _ hk => hk.2) (.int .i8 ((rd_T60 t260 x44_3).f1))) (fun _ hk => hk.2) (.int .i8 ((rd_T60 t260 x44_3).f2))) (fun _ h_ => h_.1))) hb); have n1_ := A_ (blk_below (g := gb252) (o := .cells #[.slice A0_0 l0_0.length c0_0, .int .i16 a0_1, .int .i16 a0_2, .int .i16 a0_3, .int .i16 a0_4, .bool a0_5] 32 (0, 0)) (pf_ BK252 NB252_264) hb); have n2_ := A_ (blk_below (g := gb259) (o := .cells #[.int .i16 t255, .int .i16 t256, .int .i16 t257, .int .i16 t258] 30 (0, 0)) (pf_ BK259 NB259_264) hb); have n3_ := A_ (blk_below (g := gb264) (o := .cells #[.int .i8 ((rd_T60 t260 x44_3).f0), .int .i8 ((rd_T60 t260 x44_3).f1), .int .i8 ((rd_T60 t260 x44_3).f2)] 60 (0, 0)) (by (with_reducible repeat (first | refine blk_drewN ?_ _ | refine blk_drew ?_ | refine blk_alloc ?_ _)); refine blk_put (cs := #[.int .i8 ((rd_T60 t260 x44_3).f0), .int .i8 ((rd_T60 t260 x44_3).f1), .int .i8 0]) ?_ 2 _ rfl; (with_reducible repeat (first | refine blk_drewN ?_ _ | refine blk_drew ?_ | refine blk_alloc ?_ _)); refine blk_put (cs := #[.int .i8 ((rd_T60 t260 x44_3).f0), .int .i8 0, .int .i8 0]) ?_ 1 _ rfl; (with_reducible repeat (first | refine blk_drewN ?_ _ | refine blk_drew ?_ | refine blk_alloc ?_ _)); refine blk_put (cs := #[.int .i8 0, .int .i8 0, .int .i8 0]) ?_ 0 _ rfl; (with_reducible repeat (first | refine blk_drewN ?_ _ | refine blk_drew ?_ | refine blk_alloc ?_ _)); exact BK264.out) hb); have n4_ := A_ (below_step (bs_ HB GE264) hb); clear HO_42; clear BK252; clear BK259; clear BK264; clear HB; have HO_42 := n0_; have BK252 := n1_; have BK259 := n2_; have BK264 := n3_; have HB := n4_; clear n0_ n1_ n2_ n3_ n4_; (try clear hb); (try clear hb2); (try clear hk); (try clear hi)) | ((with_reducible refine gate_dst (N := 10) rfl ?_); refine box_event ?hg (N := 10) ?hd (cs := #[.int .i16 0, .int .i16 0, .int .i16 0, .int .i16 0]) (t := 30) ?hr ?_; (case hd => rfl); (case hg => rfl); (case hr => first | (go_simp; done) | (go_simp; rfl)); intro gb270 hg w52 hbox hb; have n0_ := A_ (Kd.R_below (pr_ HO_42) hb); have n1_ := A_ (blk_below (pl_ BK252) hb); have n2_ := A_ (blk_below (pl_ BK259) hb); have n3_ := A_ (blk_below (pl_ BK264) hb); have n4_ := A_ (below_step (bl_ HB) hb); have n5_ := A_ (hbox); have n6_ := A_ ((by rw [hg]; exact (below_size (bl_ HB)) : w.heap.size ≤ gb270)); have n7_ := n6_; have n8_ := A_ ((by rw [hg]; exact Nat.ne_of_lt (blk_lt (pl_ BK252)) : gb252 ≠ gb270)); have n9_ := Aside0.mk n8_.out.symm; have n10_ := A_ ((by rw [hg]; exact Nat.ne_of_lt (blk_lt (pl_ BK259)) : gb259 ≠ gb270)); have n11_ := Aside0.mk n10_.out.symm; have n12_ := A_ ((by rw [hg]; exact Nat.ne_of_lt (blk_lt (pl_ BK264)) : gb264 ≠ gb270)); have n13_ := Aside0.mk n12_.out.symm; clear HO_42; clear BK252; clear BK259; clear BK264; clear HB; have HO_42 := n0_; have BK252 := n1_; have BK259 := n2_; have BK264 := n3_; have HB := n4_; have BK270 := n5_; have GW270 := n6_; have GE270 := n7_; have NB252_270 := n8_; have NB270_252 := n9_; have NB259_270 := n10_; have NB270_259 := n11_; have NB264_270 := n12_; have NB270_264 := n13_; clear n0_ n1_ n2_ n3_ n4_ n5_ n6_ n7_ n8_ n9_ n10_ n11_ n12_ n13_; clear hb hbox hg; have hnb53 := NB270_252.out; have hnc53 := NB252_270.out; have hnb54 := NB270_259.out; have hnc54 := NB259_270.out; have hnb55 := NB270_264.out; have hnc55 := NB264_270.out; obtain ⟨hcz56_0, hcz56_1, hcz56_2, hcz56_3, hfz56_0, hfz56_1, hfz56_2, hfz56_3⟩ := cl4_ BK270; obtain ⟨hcz57_0, hcz57_1, hcz57_2, hcz57_3, hcz57_4, hcz57_5, hfz57_0, hfz57_1, hfz57_2, hfz57_3, hfz57_4, hfz57_5⟩ := cl6_ BK252) | ((with_reducible refine gate_callee (f := 79) rfl ?_); refine goesL_ (some 58) rfl rfl Try.func79 (by kernel_rfl) rfl #[.agg #[.slice A0_0 l0_0.length c0_0, .int .i16 a0_1, .int .i16 a0_2, .int .i16 a0_3, .int .i16 a0_4, .bool a0_5], .agg #[.int .i16 t265, .int .i16 t266, .int .i16 t267, .int .i16 t268]] rfl arg_ ?_; (with_reducible refine (impl_Puzzle_index.calls _ _ l0_0 a0_1 a0_2 a0_3 a0_4 a0_5 t265 t266 t267 t268 t271 _ ?side1 ?side2 A40.out).mono ?_); (case side1 => exact Kd.C_below HR0_0.out (bs_ HB GE270)); (case side2 => exact HC0_0.out); rintro e w58 ⟨rfl, hb⟩; refine ⟨_, rfl, ?_⟩; have n0_ := A_ (Kd.R_below (by (with_reducible repeat (first | apply Kd.R_alloc | apply Kd.R_drewN | apply Kd.R_drew)); exact (rf4_ HO_42 BK270 (by decide))) hb); have n1_ := A_ (blk_below (g := gb252) (o := .cells #[.slice A0_0 l0_0.length c0_0, .int .i16 a0_1, .int .i16 a0_2, .int .i16 a0_3, .int .i16 a0_4, .bool a0_5] 32 (0, 0)) (pf_ BK252 NB252_270) hb); have n2_ := A_ (blk_below (g := gb259) (o := .cells #[.int .i16 t255, .int .i16 t256, .int .i16 t257, .int .i16 t258] 30 (0, 0)) (pf_ BK259 NB259_270) hb); have n3_ := A_ (blk_below (g := gb264) (o := .cells #[.int .i8 ((rd_T60 t260 x44_3).f0), .int .i8 ((rd_T60 t260 x44_3).f1), .int .i8 ((rd_T60 t260 x44_3).f2)] 60 (0, 0)) (pf_ BK264 NB264_270) hb); have n4_ := A_ (blk_below (g := gb270) (o := .cells #[.int .i16 t265, .int .i16 t266, .int .i16 t267, .int .i16 t268] 30 (0, 0)) (by (with_reducible repeat (first | refine blk_drewN ?_ _ | refine blk_drew ?_ | refine blk_alloc ?_ _)); refine blk_put (cs := #[.int .i16 t265, .int .i16 t266, .int .i16 t267, .int .i16 0]) ?_ 3 _ rfl; (with_reducible repeat (first | refine blk_drewN ?_ _ | refine blk_drew ?_ | refine blk_alloc ?_ _)); refine blk_put (cs := #[.int .i16 t265, .int .i16 t266, .int .i16 0, .int .i16 0]) ?_ 2 _ rfl; (with_reducible repeat (first | refine blk_drewN ?_ _ | refine blk_drew ?_ | refine blk_alloc ?_ _)); refine blk_put (cs := #[.int .i16 t265, .int .i16 0, .int .i16 0, .int .i16 0]) ?_ 1 _ rfl; (with_reducible repeat (first | refine blk_drewN ?_ _ | refine blk_drew ?_ | refine blk_alloc ?_ _)); refine blk_put (cs := #[.int .i16 0, .int .i16 0, .int .i16 0, .int .i16 0]) ?_ 0 _ rfl; (with_reducible repeat (first | refine blk_drewN ?_ _ | refine blk_drew ?_ | refine blk_alloc ?_ _)); exact BK270.out) hb); have n5_ := A_ (below_step (bs_ HB GE270) hb); clear HO_42; clear BK252; clear BK259; clear BK264; clear BK270; clear HB; have HO_42 := n0_; have BK252 := n1_; have BK259 := n2_; have BK264 := n3_; have BK270 := n4_; have HB := n5_; clear n0_ n1_ n2_ n3_ n4_ n5_; (try clear hb); (try clear hb2); (try clear hk); (try clear hi); have p272 : 0 ≤ (t271 : Int) := asm_; have q272 : t271 < (l1.length : Int) := asm_; obtain ⟨ad272, e272, hx272_0⟩ := Kd.at_int HR1.out t271 p272 q272; obtain rfl : ad254 = ad272 := (by injection e272); (try replace hx272_0 := (HB.out.cell (World.block_lt_of_cell? w _ hx272_0)).trans hx272_0); replace p272 := eq_true p272; replace q272 := eq_true q272))
                  go_ret
                  exact ⟨by first | rfl | (simp [errW_none, errW_some] <;> rfl) | (simp [*, errW_none, errW_some] <;> rfl), bl_ HB⟩
                 ·rw [if_neg c43] at H
                  have c43b0 : ((rd l1 t271) == (-1)) = false := beq_eq_false_iff_ne.mpr c43
                  have c43b1 : ((rd l1 t271) != (-1)) = true := bne_iff_ne.mpr c43
                  by_cases c59 : (wrap64 (rd l1 t271)) > (wrap64 ((wrap64 ((rd l1 x15_1))) + 1))
                  ·rw [if_pos c59] at H
                   have c59b0 : decide ((wrap64 ((wrap64 ((rd l1 x15_1))) + 1)) < (wrap64 (rd l1 t271))) = true := decide_eq_true c59
                   clear c59
                   obtain rfl := Option.some.inj H
                   have p263 : 0 ≤ (x44_3 : Int) := asm_
                   have q263 : x44_3 < (t260.length : Int) := asm_
                   obtain ⟨ad263, e263, hx263_0, hx263_1, hx263_2⟩ := at_T60 (Kd.R_reads' HO_42.out).2.2 x44_3 p263 q263
                   cases e263
                   replace p263 := eq_true p263
                   replace q263 := eq_true q263
                   go_wp2_with (first | ((with_reducible refine gate_dst (N := 9) rfl ?_); refine box_event ?hg (N := 9) ?hd (cs := #[.int .i8 0, .int .i8 0, .int .i8 0]) (t := 60) ?hr ?_; (case hd => rfl); (case hg => rfl); (case hr => first | (go_simp; done) | (go_simp; rfl)); intro gb264 hg w60 hbox hb; have n0_ := A_ (Kd.R_below (Kd.R_elderB (pr_ HO_42) gb264 (Nat.le_of_eq hg.symm)) hb); have n1_ := A_ (blk_below (pl_ BK252) hb); have n2_ := A_ (blk_below (pl_ BK259) hb); have n3_ := A_ (below_step (bl_ HB) hb); have n4_ := A_ (hbox); have n5_ := A_ ((by rw [hg]; exact (below_size (bl_ HB)) : w.heap.size ≤ gb264)); have n6_ := n5_; have n7_ := A_ ((by rw [hg]; exact Nat.ne_of_lt (blk_lt (pl_ BK252)) : gb252 ≠ gb264)); have n8_ := Aside0.mk n7_.out.symm; have n9_ := A_ ((by rw [hg]; exact Nat.ne_of_lt (blk_lt (pl_ BK259)) : gb259 ≠ gb264)); have n10_ := Aside0.mk n9_.out.symm; clear HO_42; clear BK252; clear BK259; clear HB; have HO_42 := n0_; have BK252 := n1_; have BK259 := n2_; have HB := n3_; have BK264 := n4_; have GW264 := n5_; have GE264 := n6_; have NB252_264 := n7_; have NB264_252 := n8_; have NB259_264 := n9_; have NB264_259 := n10_; clear n0_ n1_ n2_ n3_ n4_ n5_ n6_ n7_ n8_ n9_ n10_; clear hb hbox hg; have hnb61 := NB264_252.out; have hnc61 := NB252_264.out; have hnb62 := NB264_259.out; have hnc62 := NB259_264.out; obtain ⟨hcz63_0, hcz63_1, hcz63_2, hfz63_0, hfz63_1, hfz63_2⟩ := cl3_ BK264; have hnb64 := NB252_259.out; have hnc64 := NB259_252.out; obtain ⟨hcz65_0, hcz65_1, hcz65_2, hcz65_3, hcz65_4, hcz65_5, hfz65_0, hfz65_1, hfz65_2, hfz65_3, hfz65_4, hfz65_5⟩ := cl6_ BK252; obtain ⟨hcz66_0, hcz66_1, hcz66_2, hcz66_3, hfz66_0, hfz66_1, hfz66_2, hfz66_3⟩ := cl4_ BK259) | ((with_reducible refine gate_callee (f := 87) rfl ?_); refine goesL_ (some 52) rfl rfl Try.func87 (by kernel_rfl) rfl #[.agg #[.slice A0_0 l0_0.length c0_0, .int .i16 a0_1, .int .i16 a0_2, .int .i16 a0_3, .int .i16 a0_4, .bool a0_5], .agg #[.int .i16 t255, .int .i16 t256, .int .i16 t257, .int .i16 t258], .agg #[.int .i8 ((rd_T60 t260 x44_3).f0), .int .i8 ((rd_T60 t260 x44_3).f1), .int .i8 ((rd_T60 t260 x44_3).f2)]] rfl arg_ ?_; (with_reducible refine (impl_Puzzle_moved.calls k3 _ _ l0_0 a0_1 a0_2 a0_3 a0_4 a0_5 t255 t256 t257 t258 ((rd_T60 t260 x44_3).f0) ((rd_T60 t260 x44_3).f1) ((rd_T60 t260 x44_3).f2) t265 t266 t267 t268 t269 _ ?side1 ?side2 A39.out).mono ?_); (case side1 => exact Kd.C_below HR0_0.out (bs_ HB GE264)); (case side2 => exact HC0_0.out); rintro e w67 ⟨rfl, hb⟩; refine ⟨_, rfl, ?_⟩; have n0_ := A_ (Kd.R_below (by (with_reducible repeat (first | apply Kd.R_alloc | apply Kd.R_drewN | apply Kd.R_drew)); exact (Kd.R_mono (Kd.R_far (p := ⟨gb264, 2, none⟩) (Kd.R_far (p := ⟨gb264, 1, none⟩) (Kd.R_far (p := ⟨gb264, 0, none⟩) (Kd.R_mono HO_42.out (fun k_ hk => (⟨hk, hk.2⟩ : _ ∧ k_ ≠ gb264))) (fun _ hk => hk.2) (.int .i8 ((rd_T60 t260 x44_3).f0))) (fun _ hk => hk.2) (.int .i8 ((rd_T60 t260 x44_3).f1))) (fun _ hk => hk.2) (.int .i8 ((rd_T60 t260 x44_3).f2))) (fun _ h_ => h_.1))) hb); have n1_ := A_ (blk_below (g := gb252) (o := .cells #[.slice A0_0 l0_0.length c0_0, .int .i16 a0_1, .int .i16 a0_2, .int .i16 a0_3, .int .i16 a0_4, .bool a0_5] 32 (0, 0)) (pf_ BK252 NB252_264) hb); have n2_ := A_ (blk_below (g := gb259) (o := .cells #[.int .i16 t255, .int .i16 t256, .int .i16 t257, .int .i16 t258] 30 (0, 0)) (pf_ BK259 NB259_264) hb); have n3_ := A_ (blk_below (g := gb264) (o := .cells #[.int .i8 ((rd_T60 t260 x44_3).f0), .int .i8 ((rd_T60 t260 x44_3).f1), .int .i8 ((rd_T60 t260 x44_3).f2)] 60 (0, 0)) (by (with_reducible repeat (first | refine blk_drewN ?_ _ | refine blk_drew ?_ | refine blk_alloc ?_ _)); refine blk_put (cs := #[.int .i8 ((rd_T60 t260 x44_3).f0), .int .i8 ((rd_T60 t260 x44_3).f1), .int .i8 0]) ?_ 2 _ rfl; (with_reducible repeat (first | refine blk_drewN ?_ _ | refine blk_drew ?_ | refine blk_alloc ?_ _)); refine blk_put (cs := #[.int .i8 ((rd_T60 t260 x44_3).f0), .int .i8 0, .int .i8 0]) ?_ 1 _ rfl; (with_reducible repeat (first | refine blk_drewN ?_ _ | refine blk_drew ?_ | refine blk_alloc ?_ _)); refine blk_put (cs := #[.int .i8 0, .int .i8 0, .int .i8 0]) ?_ 0 _ rfl; (with_reducible repeat (first | refine blk_drewN ?_ _ | refine blk_drew ?_ | refine blk_alloc ?_ _)); exact BK264.out) hb); have n4_ := A_ (below_step (bs_ HB GE264) hb); clear HO_42; clear BK252; clear BK259; clear BK264; clear HB; have HO_42 := n0_; have BK252 := n1_; have BK259 := n2_; have BK264 := n3_; have HB := n4_; clear n0_ n1_ n2_ n3_ n4_; (try clear hb); (try clear hb2); (try clear hk); (try clear hi)) | ((with_reducible refine gate_dst (N := 10) rfl ?_); refine box_event ?hg (N := 10) ?hd (cs := #[.int .i16 0, .int .i16 0, .int .i16 0, .int .i16 0]) (t := 30) ?hr ?_; (case hd => rfl); (case hg => rfl); (case hr => first | (go_simp; done) | (go_simp; rfl)); intro gb270 hg w68 hbox hb; have n0_ := A_ (Kd.R_below (pr_ HO_42) hb); have n1_ := A_ (blk_below (pl_ BK252) hb); have n2_ := A_ (blk_below (pl_ BK259) hb); have n3_ := A_ (blk_below (pl_ BK264) hb); have n4_ := A_ (below_step (bl_ HB) hb); have n5_ := A_ (hbox); have n6_ := A_ ((by rw [hg]; exact (below_size (bl_ HB)) : w.heap.size ≤ gb270)); have n7_ := n6_; have n8_ := A_ ((by rw [hg]; exact Nat.ne_of_lt (blk_lt (pl_ BK252)) : gb252 ≠ gb270)); have n9_ := Aside0.mk n8_.out.symm; have n10_ := A_ ((by rw [hg]; exact Nat.ne_of_lt (blk_lt (pl_ BK259)) : gb259 ≠ gb270)); have n11_ := Aside0.mk n10_.out.symm; have n12_ := A_ ((by rw [hg]; exact Nat.ne_of_lt (blk_lt (pl_ BK264)) : gb264 ≠ gb270)); have n13_ := Aside0.mk n12_.out.symm; clear HO_42; clear BK252; clear BK259; clear BK264; clear HB; have HO_42 := n0_; have BK252 := n1_; have BK259 := n2_; have BK264 := n3_; have HB := n4_; have BK270 := n5_; have GW270 := n6_; have GE270 := n7_; have NB252_270 := n8_; have NB270_252 := n9_; have NB259_270 := n10_; have NB270_259 := n11_; have NB264_270 := n12_; have NB270_264 := n13_; clear n0_ n1_ n2_ n3_ n4_ n5_ n6_ n7_ n8_ n9_ n10_ n11_ n12_ n13_; clear hb hbox hg; have hnb69 := NB270_252.out; have hnc69 := NB252_270.out; have hnb70 := NB270_259.out; have hnc70 := NB259_270.out; have hnb71 := NB270_264.out; have hnc71 := NB264_270.out; obtain ⟨hcz72_0, hcz72_1, hcz72_2, hcz72_3, hfz72_0, hfz72_1, hfz72_2, hfz72_3⟩ := cl4_ BK270; obtain ⟨hcz73_0, hcz73_1, hcz73_2, hcz73_3, hcz73_4, hcz73_5, hfz73_0, hfz73_1, hfz73_2, hfz73_3, hfz73_4, hfz73_5⟩ := cl6_ BK252) | ((with_reducible refine gate_callee (f := 79) rfl ?_); refine goesL_ (some 58) rfl rfl Try.func79 (by kernel_rfl) rfl #[.agg #[.slice A0_0 l0_0.length c0_0, .int .i16 a0_1, .int .i16 a0_2, .int .i16 a0_3, .int .i16 a0_4, .bool a0_5], .agg #[.int .i16 t265, .int .i16 t266, .int .i16 t267, .int .i16 t268]] rfl arg_ ?_; (with_reducible refine (impl_Puzzle_index.calls _ _ l0_0 a0_1 a0_2 a0_3 a0_4 a0_5 t265 t266 t267 t268 t271 _ ?side1 ?side2 A40.out).mono ?_); (case side1 => exact Kd.C_below HR0_0.out (bs_ HB GE270)); (case side2 => exact HC0_0.out); rintro e w74 ⟨rfl, hb⟩; refine ⟨_, rfl, ?_⟩; have n0_ := A_ (Kd.R_below (by (with_reducible repeat (first | apply Kd.R_alloc | apply Kd.R_drewN | apply Kd.R_drew)); exact (rf4_ HO_42 BK270 (by decide))) hb); have n1_ := A_ (blk_below (g := gb252) (o := .cells #[.slice A0_0 l0_0.length c0_0, .int .i16 a0_1, .int .i16 a0_2, .int .i16 a0_3, .int .i16 a0_4, .bool a0_5] 32 (0, 0)) (pf_ BK252 NB252_270) hb); have n2_ := A_ (blk_below (g := gb259) (o := .cells #[.int .i16 t255, .int .i16 t256, .int .i16 t257, .int .i16 t258] 30 (0, 0)) (pf_ BK259 NB259_270) hb); have n3_ := A_ (blk_below (g := gb264) (o := .cells #[.int .i8 ((rd_T60 t260 x44_3).f0), .int .i8 ((rd_T60 t260 x44_3).f1), .int .i8 ((rd_T60 t260 x44_3).f2)] 60 (0, 0)) (pf_ BK264 NB264_270) hb); have n4_ := A_ (blk_below (g := gb270) (o := .cells #[.int .i16 t265, .int .i16 t266, .int .i16 t267, .int .i16 t268] 30 (0, 0)) (by (with_reducible repeat (first | refine blk_drewN ?_ _ | refine blk_drew ?_ | refine blk_alloc ?_ _)); refine blk_put (cs := #[.int .i16 t265, .int .i16 t266, .int .i16 t267, .int .i16 0]) ?_ 3 _ rfl; (with_reducible repeat (first | refine blk_drewN ?_ _ | refine blk_drew ?_ | refine blk_alloc ?_ _)); refine blk_put (cs := #[.int .i16 t265, .int .i16 t266, .int .i16 0, .int .i16 0]) ?_ 2 _ rfl; (with_reducible repeat (first | refine blk_drewN ?_ _ | refine blk_drew ?_ | refine blk_alloc ?_ _)); refine blk_put (cs := #[.int .i16 t265, .int .i16 0, .int .i16 0, .int .i16 0]) ?_ 1 _ rfl; (with_reducible repeat (first | refine blk_drewN ?_ _ | refine blk_drew ?_ | refine blk_alloc ?_ _)); refine blk_put (cs := #[.int .i16 0, .int .i16 0, .int .i16 0, .int .i16 0]) ?_ 0 _ rfl; (with_reducible repeat (first | refine blk_drewN ?_ _ | refine blk_drew ?_ | refine blk_alloc ?_ _)); exact BK270.out) hb); have n5_ := A_ (below_step (bs_ HB GE270) hb); clear HO_42; clear BK252; clear BK259; clear BK264; clear BK270; clear HB; have HO_42 := n0_; have BK252 := n1_; have BK259 := n2_; have BK264 := n3_; have BK270 := n4_; have HB := n5_; clear n0_ n1_ n2_ n3_ n4_ n5_; (try clear hb); (try clear hb2); (try clear hk); (try clear hi); have p272 : 0 ≤ (t271 : Int) := asm_; have q272 : t271 < (l1.length : Int) := asm_; obtain ⟨ad272, e272, hx272_0⟩ := Kd.at_int HR1.out t271 p272 q272; obtain rfl : ad254 = ad272 := (by injection e272); (try replace hx272_0 := (HB.out.cell (World.block_lt_of_cell? w _ hx272_0)).trans hx272_0); replace p272 := eq_true p272; replace q272 := eq_true q272))
                   go_ret
                   exact ⟨by first | rfl | (simp [errW_none, errW_some] <;> rfl) | (simp [*, errW_none, errW_some] <;> rfl), bl_ HB⟩
                  ·rw [if_neg c59] at H
                   have c59b0 : decide ((wrap64 ((wrap64 ((rd l1 x15_1))) + 1)) < (wrap64 (rd l1 t271))) = false := decide_eq_false c59
                   clear c59
                   have H' := Aside0.mk H
                   clear H
                   have p263 : 0 ≤ (x44_3 : Int) := asm_
                   have q263 : x44_3 < (t260.length : Int) := asm_
                   obtain ⟨ad263, e263, hx263_0, hx263_1, hx263_2⟩ := at_T60 (Kd.R_reads' HO_42.out).2.2 x44_3 p263 q263
                   cases e263
                   replace p263 := eq_true p263
                   replace q263 := eq_true q263
                   go_wp2_with (first | ((with_reducible refine gate_dst (N := 9) rfl ?_); refine box_event ?hg (N := 9) ?hd (cs := #[.int .i8 0, .int .i8 0, .int .i8 0]) (t := 60) ?hr ?_; (case hd => rfl); (case hg => rfl); (case hr => first | (go_simp; done) | (go_simp; rfl)); intro gb264 hg w75 hbox hb; have n0_ := A_ (Kd.R_below (Kd.R_elderB (pr_ HO_42) gb264 (Nat.le_of_eq hg.symm)) hb); have n1_ := A_ (blk_below (pl_ BK252) hb); have n2_ := A_ (blk_below (pl_ BK259) hb); have n3_ := A_ (below_step (bl_ HB) hb); have n4_ := A_ (hbox); have n5_ := A_ ((by rw [hg]; exact (below_size (bl_ HB)) : w.heap.size ≤ gb264)); have n6_ := n5_; have n7_ := A_ ((by rw [hg]; exact Nat.ne_of_lt (blk_lt (pl_ BK252)) : gb252 ≠ gb264)); have n8_ := Aside0.mk n7_.out.symm; have n9_ := A_ ((by rw [hg]; exact Nat.ne_of_lt (blk_lt (pl_ BK259)) : gb259 ≠ gb264)); have n10_ := Aside0.mk n9_.out.symm; clear HO_42; clear BK252; clear BK259; clear HB; have HO_42 := n0_; have BK252 := n1_; have BK259 := n2_; have HB := n3_; have BK264 := n4_; have GW264 := n5_; have GE264 := n6_; have NB252_264 := n7_; have NB264_252 := n8_; have NB259_264 := n9_; have NB264_259 := n10_; clear n0_ n1_ n2_ n3_ n4_ n5_ n6_ n7_ n8_ n9_ n10_; clear hb hbox hg; have hnb76 := NB264_252.out; have hnc76 := NB252_264.out; have hnb77 := NB264_259.out; have hnc77 := NB259_264.out; obtain ⟨hcz78_0, hcz78_1, hcz78_2, hfz78_0, hfz78_1, hfz78_2⟩ := cl3_ BK264; have hnb79 := NB252_259.out; have hnc79 := NB259_252.out; obtain ⟨hcz80_0, hcz80_1, hcz80_2, hcz80_3, hcz80_4, hcz80_5, hfz80_0, hfz80_1, hfz80_2, hfz80_3, hfz80_4, hfz80_5⟩ := cl6_ BK252; obtain ⟨hcz81_0, hcz81_1, hcz81_2, hcz81_3, hfz81_0, hfz81_1, hfz81_2, hfz81_3⟩ := cl4_ BK259) | ((with_reducible refine gate_callee (f := 87) rfl ?_); refine goesL_ (some 52) rfl rfl Try.func87 (by kernel_rfl) rfl #[.agg #[.slice A0_0 l0_0.length c0_0, .int .i16 a0_1, .int .i16 a0_2, .int .i16 a0_3, .int .i16 a0_4, .bool a0_5], .agg #[.int .i16 t255, .int .i16 t256, .int .i16 t257, .int .i16 t258], .agg #[.int .i8 ((rd_T60 t260 x44_3).f0), .int .i8 ((rd_T60 t260 x44_3).f1), .int .i8 ((rd_T60 t260 x44_3).f2)]] rfl arg_ ?_; (with_reducible refine (impl_Puzzle_moved.calls k3 _ _ l0_0 a0_1 a0_2 a0_3 a0_4 a0_5 t255 t256 t257 t258 ((rd_T60 t260 x44_3).f0) ((rd_T60 t260 x44_3).f1) ((rd_T60 t260 x44_3).f2) t265 t266 t267 t268 t269 _ ?side1 ?side2 A39.out).mono ?_); (case side1 => exact Kd.C_below HR0_0.out (bs_ HB GE264)); (case side2 => exact HC0_0.out); rintro e w82 ⟨rfl, hb⟩; refine ⟨_, rfl, ?_⟩; have n0_ := A_ (Kd.R_below (by (with_reducible repeat (first | apply Kd.R_alloc | apply Kd.R_drewN | apply Kd.R_drew)); exact (Kd.R_mono (Kd.R_far (p := ⟨gb264, 2, none⟩) (Kd.R_far (p := ⟨gb264, 1, none⟩) (Kd.R_far (p := ⟨gb264, 0, none⟩) (Kd.R_mono HO_42.out (fun k_ hk => (⟨hk, hk.2⟩ : _ ∧ k_ ≠ gb264))) (fun _ hk => hk.2) (.int .i8 ((rd_T60 t260 x44_3).f0))) (fun _ hk => hk.2) (.int .i8 ((rd_T60 t260 x44_3).f1))) (fun _ hk => hk.2) (.int .i8 ((rd_T60 t260 x44_3).f2))) (fun _ h_ => h_.1))) hb); have n1_ := A_ (blk_below (g := gb252) (o := .cells #[.slice A0_0 l0_0.length c0_0, .int .i16 a0_1, .int .i16 a0_2, .int .i16 a0_3, .int .i16 a0_4, .bool a0_5] 32 (0, 0)) (pf_ BK252 NB252_264) hb); have n2_ := A_ (blk_below (g := gb259) (o := .cells #[.int .i16 t255, .int .i16 t256, .int .i16 t257, .int .i16 t258] 30 (0, 0)) (pf_ BK259 NB259_264) hb); have n3_ := A_ (blk_below (g := gb264) (o := .cells #[.int .i8 ((rd_T60 t260 x44_3).f0), .int .i8 ((rd_T60 t260 x44_3).f1), .int .i8 ((rd_T60 t260 x44_3).f2)] 60 (0, 0)) (by (with_reducible repeat (first | refine blk_drewN ?_ _ | refine blk_drew ?_ | refine blk_alloc ?_ _)); refine blk_put (cs := #[.int .i8 ((rd_T60 t260 x44_3).f0), .int .i8 ((rd_T60 t260 x44_3).f1), .int .i8 0]) ?_ 2 _ rfl; (with_reducible repeat (first | refine blk_drewN ?_ _ | refine blk_drew ?_ | refine blk_alloc ?_ _)); refine blk_put (cs := #[.int .i8 ((rd_T60 t260 x44_3).f0), .int .i8 0, .int .i8 0]) ?_ 1 _ rfl; (with_reducible repeat (first | refine blk_drewN ?_ _ | refine blk_drew ?_ | refine blk_alloc ?_ _)); refine blk_put (cs := #[.int .i8 0, .int .i8 0, .int .i8 0]) ?_ 0 _ rfl; (with_reducible repeat (first | refine blk_drewN ?_ _ | refine blk_drew ?_ | refine blk_alloc ?_ _)); exact BK264.out) hb); have n4_ := A_ (below_step (bs_ HB GE264) hb); clear HO_42; clear BK252; clear BK259; clear BK264; clear HB; have HO_42 := n0_; have BK252 := n1_; have BK259 := n2_; have BK264 := n3_; have HB := n4_; clear n0_ n1_ n2_ n3_ n4_; (try clear hb); (try clear hb2); (try clear hk); (try clear hi)) | ((with_reducible refine gate_dst (N := 10) rfl ?_); refine box_event ?hg (N := 10) ?hd (cs := #[.int .i16 0, .int .i16 0, .int .i16 0, .int .i16 0]) (t := 30) ?hr ?_; (case hd => rfl); (case hg => rfl); (case hr => first | (go_simp; done) | (go_simp; rfl)); intro gb270 hg w83 hbox hb; have n0_ := A_ (Kd.R_below (pr_ HO_42) hb); have n1_ := A_ (blk_below (pl_ BK252) hb); have n2_ := A_ (blk_below (pl_ BK259) hb); have n3_ := A_ (blk_below (pl_ BK264) hb); have n4_ := A_ (below_step (bl_ HB) hb); have n5_ := A_ (hbox); have n6_ := A_ ((by rw [hg]; exact (below_size (bl_ HB)) : w.heap.size ≤ gb270)); have n7_ := n6_; have n8_ := A_ ((by rw [hg]; exact Nat.ne_of_lt (blk_lt (pl_ BK252)) : gb252 ≠ gb270)); have n9_ := Aside0.mk n8_.out.symm; have n10_ := A_ ((by rw [hg]; exact Nat.ne_of_lt (blk_lt (pl_ BK259)) : gb259 ≠ gb270)); have n11_ := Aside0.mk n10_.out.symm; have n12_ := A_ ((by rw [hg]; exact Nat.ne_of_lt (blk_lt (pl_ BK264)) : gb264 ≠ gb270)); have n13_ := Aside0.mk n12_.out.symm; clear HO_42; clear BK252; clear BK259; clear BK264; clear HB; have HO_42 := n0_; have BK252 := n1_; have BK259 := n2_; have BK264 := n3_; have HB := n4_; have BK270 := n5_; have GW270 := n6_; have GE270 := n7_; have NB252_270 := n8_; have NB270_252 := n9_; have NB259_270 := n10_; have NB270_259 := n11_; have NB264_270 := n12_; have NB270_264 := n13_; clear n0_ n1_ n2_ n3_ n4_ n5_ n6_ n7_ n8_ n9_ n10_ n11_ n12_ n13_; clear hb hbox hg; have hnb84 := NB270_252.out; have hnc84 := NB252_270.out; have hnb85 := NB270_259.out; have hnc85 := NB259_270.out; have hnb86 := NB270_264.out; have hnc86 := NB264_270.out; obtain ⟨hcz87_0, hcz87_1, hcz87_2, hcz87_3, hfz87_0, hfz87_1, hfz87_2, hfz87_3⟩ := cl4_ BK270; obtain ⟨hcz88_0, hcz88_1, hcz88_2, hcz88_3, hcz88_4, hcz88_5, hfz88_0, hfz88_1, hfz88_2, hfz88_3, hfz88_4, hfz88_5⟩ := cl6_ BK252) | ((with_reducible refine gate_callee (f := 79) rfl ?_); refine goesL_ (some 58) rfl rfl Try.func79 (by kernel_rfl) rfl #[.agg #[.slice A0_0 l0_0.length c0_0, .int .i16 a0_1, .int .i16 a0_2, .int .i16 a0_3, .int .i16 a0_4, .bool a0_5], .agg #[.int .i16 t265, .int .i16 t266, .int .i16 t267, .int .i16 t268]] rfl arg_ ?_; (with_reducible refine (impl_Puzzle_index.calls _ _ l0_0 a0_1 a0_2 a0_3 a0_4 a0_5 t265 t266 t267 t268 t271 _ ?side1 ?side2 A40.out).mono ?_); (case side1 => exact Kd.C_below HR0_0.out (bs_ HB GE270)); (case side2 => exact HC0_0.out); rintro e w89 ⟨rfl, hb⟩; refine ⟨_, rfl, ?_⟩; have n0_ := A_ (Kd.R_below (by (with_reducible repeat (first | apply Kd.R_alloc | apply Kd.R_drewN | apply Kd.R_drew)); exact (rf4_ HO_42 BK270 (by decide))) hb); have n1_ := A_ (blk_below (g := gb252) (o := .cells #[.slice A0_0 l0_0.length c0_0, .int .i16 a0_1, .int .i16 a0_2, .int .i16 a0_3, .int .i16 a0_4, .bool a0_5] 32 (0, 0)) (pf_ BK252 NB252_270) hb); have n2_ := A_ (blk_below (g := gb259) (o := .cells #[.int .i16 t255, .int .i16 t256, .int .i16 t257, .int .i16 t258] 30 (0, 0)) (pf_ BK259 NB259_270) hb); have n3_ := A_ (blk_below (g := gb264) (o := .cells #[.int .i8 ((rd_T60 t260 x44_3).f0), .int .i8 ((rd_T60 t260 x44_3).f1), .int .i8 ((rd_T60 t260 x44_3).f2)] 60 (0, 0)) (pf_ BK264 NB264_270) hb); have n4_ := A_ (blk_below (g := gb270) (o := .cells #[.int .i16 t265, .int .i16 t266, .int .i16 t267, .int .i16 t268] 30 (0, 0)) (by (with_reducible repeat (first | refine blk_drewN ?_ _ | refine blk_drew ?_ | refine blk_alloc ?_ _)); refine blk_put (cs := #[.int .i16 t265, .int .i16 t266, .int .i16 t267, .int .i16 0]) ?_ 3 _ rfl; (with_reducible repeat (first | refine blk_drewN ?_ _ | refine blk_drew ?_ | refine blk_alloc ?_ _)); refine blk_put (cs := #[.int .i16 t265, .int .i16 t266, .int .i16 0, .int .i16 0]) ?_ 2 _ rfl; (with_reducible repeat (first | refine blk_drewN ?_ _ | refine blk_drew ?_ | refine blk_alloc ?_ _)); refine blk_put (cs := #[.int .i16 t265, .int .i16 0, .int .i16 0, .int .i16 0]) ?_ 1 _ rfl; (with_reducible repeat (first | refine blk_drewN ?_ _ | refine blk_drew ?_ | refine blk_alloc ?_ _)); refine blk_put (cs := #[.int .i16 0, .int .i16 0, .int .i16 0, .int .i16 0]) ?_ 0 _ rfl; (with_reducible repeat (first | refine blk_drewN ?_ _ | refine blk_drew ?_ | refine blk_alloc ?_ _)); exact BK270.out) hb); have n5_ := A_ (below_step (bs_ HB GE270) hb); clear HO_42; clear BK252; clear BK259; clear BK264; clear BK270; clear HB; have HO_42 := n0_; have BK252 := n1_; have BK259 := n2_; have BK264 := n3_; have BK270 := n4_; have HB := n5_; clear n0_ n1_ n2_ n3_ n4_ n5_; (try clear hb); (try clear hb2); (try clear hk); (try clear hi); have p272 : 0 ≤ (t271 : Int) := asm_; have q272 : t271 < (l1.length : Int) := asm_; obtain ⟨ad272, e272, hx272_0⟩ := Kd.at_int HR1.out t271 p272 q272; obtain rfl : ad254 = ad272 := (by injection e272); (try replace hx272_0 := (HB.out.cell (World.block_lt_of_cell? w _ hx272_0)).trans hx272_0); replace p272 := eq_true p272; replace q272 := eq_true q272))
                   go_roundg k3
                   case measure => have := HK1.out; have := HJ10.out; have := HK3.out; omega
                   case rel => exact ⟨(wrap64 (x44_3 + 1)), rs_, H', ⟨by have := HK1.out; have := HJ10.out; have := HK3.out; omega⟩, ⟨by (with_reducible repeat (first | apply Kd.R_alloc | apply Kd.R_drewN | apply Kd.R_drew)); exact Kd.R_mono HO_42.out (fun _ hk => trivial)⟩, ⟨pl_ BK252⟩, ⟨pl_ BK259⟩, ⟨bl_ HB⟩⟩
                ·rw [if_neg c42] at H
                 exact absurd H (by simp)
               ·rw [if_neg c41] at H
                exact absurd H (by simp)
              ·rw [if_neg c38] at H
               exact absurd H (by simp)
             ·rw [if_neg c37] at H
              exact absurd H (by simp)
            ·rw [if_neg c36] at H
             have c36b0 : decide (x44_3 < (t260.length : Int)) = false := decide_eq_false c36
             clear c36
             have H' := Aside0.mk H
             clear H
             go_wp2
             go_roundg k3
             case measure => have := HK1.out; have := HJ10.out; have := HK3.out; omega
             case rel => exact ⟨(wrap64 (x15_1 + 1)), rs_, H', ⟨by have := HK1.out; have := HJ10.out; have := HK3.out; omega⟩, ⟨pl_ BK252⟩, ⟨bl_ HB⟩⟩
     ·rw [if_neg c9] at H
      exact absurd H (by simp)
    ·rw [if_neg c8] at H
     exact absurd H (by simp)
   ·rw [if_neg c7] at H
    have c7b0 : decide (x15_1 < t253) = false := decide_eq_false c7
    clear c7
    obtain rfl := Option.some.inj H
    go_wp2
    go_ret
    exact ⟨by first | rfl | (simp [errW_none, errW_some] <;> rfl) | (simp [*, errW_none, errW_some] <;> rfl), bl_ HB⟩

end Go.Proofs.Ytodmfjophjhbeaa.M
