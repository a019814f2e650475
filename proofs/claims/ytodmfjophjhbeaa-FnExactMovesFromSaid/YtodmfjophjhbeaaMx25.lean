-- By this seat's own program over the kit's printer (arrays, functions told by hand); nothing of it is trusted: the kernel checks it.
import Derived.Test.YtodmfjophjhbeaaMx0
import Derived.Test.YtodmfjophjhbeaaMx16
import Derived.Test.YtodmfjophjhbeaaMx17
namespace Go.Proofs.Ytodmfjophjhbeaa.M
open Go.RowKit Go.Proofs.YtodmfjophjhbeaaW.PrintWords Go.Proofs.YtodmfjophjhbeaaW.PrintLast Go.Proofs.YtodmfjophjhbeaaW.PrintMore
attribute [local go_sem] max2_int min2_int max_two min_two max_three min_three max_four min_four   -- for this text's walks alone
set_option linter.unusedVariables false
set_option linter.unusedSimpArgs false

/-! ### impl_Puzzle_moves: function 89 -/
mutual
def impl_Puzzle_moves.l0 : Nat → List (S60) → Int → List Int → Int → Int → Int → Int → Bool → Int → Int → Int → Int → Option ((List (S60)))
 | 0, _, _, _, _, _, _, _, _, _, _, _, _ => none
 | k + 1, x5, x6, x327000, x327001, x327002, x327003, x327004, x327005, x328000, x328001, x328002, x328003 => if x6 ≤ 2 then (impl_Puzzle_moves.l1 k x5 x6 (x327000.length : Int) 0 x327000 x327001 x327002 x327003 x327004 x327005 x328000 x328001 x328002 x328003) else (some x5)
def impl_Puzzle_moves.l1 : Nat → List (S60) → Int → Int → Int → List Int → Int → Int → Int → Int → Bool → Int → Int → Int → Int → Option ((List (S60)))
 | 0, _, _, _, _, _, _, _, _, _, _, _, _, _, _ => none
 | k + 1, x5, x6, x19, x20, x327000, x327001, x327002, x327003, x327004, x327005, x328000, x328001, x328002, x328003 => if x20 < x19 then (impl_Puzzle_moves.l2 k x5 x6 x20 x19 x20 (x327000.length : Int) 0 x327000 x327001 x327002 x327003 x327004 x327005 x328000 x328001 x328002 x328003) else (impl_Puzzle_moves.l0 k x5 (IntKind.i8.wrap (x6 + 1)) x327000 x327001 x327002 x327003 x327004 x327005 x328000 x328001 x328002 x328003)
def impl_Puzzle_moves.l2 : Nat → List (S60) → Int → Int → Int → Int → Int → Int → List Int → Int → Int → Int → Int → Bool → Int → Int → Int → Int → Option ((List (S60)))
 | 0, _, _, _, _, _, _, _, _, _, _, _, _, _, _, _, _, _ => none
 | k + 1, x5, x6, x7, x19, x20, x25, x26, x327000, x327001, x327002, x327003, x327004, x327005, x328000, x328001, x328002, x328003 => if x26 < x25 then ((impl_Puzzle_moved.f k x327000 x327001 x327002 x327003 x327004 x327005 x328000 x328001 x328002 x328003 x6 (IntKind.i8.wrap (x7)) (IntKind.i8.wrap (x26))).bind fun bt332 => (if bt332.2.2.2.2 = true then ((impl_Puzzle_isMove.f x327000 x327001 x327002 x327003 x327004 x327005 x6 (IntKind.i8.wrap (x7)) (IntKind.i8.wrap (x26))).bind fun t338 => (if t338 = true then (if x5.length < 46912496118442 then (impl_Puzzle_moves.l2 k (x5 ++ [(⟨x6, IntKind.i8.wrap (x7), IntKind.i8.wrap (x26)⟩ : S60)]) x6 x7 x19 x20 x25 (wrap64 (x26 + 1)) x327000 x327001 x327002 x327003 x327004 x327005 x328000 x328001 x328002 x328003) else (none)) else (impl_Puzzle_moves.l2 k x5 x6 x7 x19 x20 x25 (wrap64 (x26 + 1)) x327000 x327001 x327002 x327003 x327004 x327005 x328000 x328001 x328002 x328003))) else (impl_Puzzle_moves.l2 k x5 x6 x7 x19 x20 x25 (wrap64 (x26 + 1)) x327000 x327001 x327002 x327003 x327004 x327005 x328000 x328001 x328002 x328003))) else (impl_Puzzle_moves.l1 k x5 x6 x19 (wrap64 (x20 + 1)) x327000 x327001 x327002 x327003 x327004 x327005 x328000 x328001 x328002 x328003)
end
def impl_Puzzle_moves.f (k : Nat) (l0_0 : List Int) (a0_1 : Int) (a0_2 : Int) (a0_3 : Int) (a0_4 : Int) (a0_5 : Bool) (a1_0 : Int) (a1_1 : Int) (a1_2 : Int) (a1_3 : Int) : Option ((List (S60))) := impl_Puzzle_moves.l0 k (([] : List (S60))) 0 l0_0 a0_1 a0_2 a0_3 a0_4 a0_5 a1_0 a1_1 a1_2 a1_3
theorem impl_Puzzle_moves.mono_l : ∀ k, (∀ y0 y1 y2 y3 y4 y5 y6 y7 y8 y9 y10 y11, LeO (impl_Puzzle_moves.l0 k y0 y1 y2 y3 y4 y5 y6 y7 y8 y9 y10 y11) (impl_Puzzle_moves.l0 (k + 1) y0 y1 y2 y3 y4 y5 y6 y7 y8 y9 y10 y11)) ∧ (∀ y0 y1 y2 y3 y4 y5 y6 y7 y8 y9 y10 y11 y12 y13, LeO (impl_Puzzle_moves.l1 k y0 y1 y2 y3 y4 y5 y6 y7 y8 y9 y10 y11 y12 y13) (impl_Puzzle_moves.l1 (k + 1) y0 y1 y2 y3 y4 y5 y6 y7 y8 y9 y10 y11 y12 y13)) ∧ (∀ y0 y1 y2 y3 y4 y5 y6 y7 y8 y9 y10 y11 y12 y13 y14 y15 y16, LeO (impl_Puzzle_moves.l2 k y0 y1 y2 y3 y4 y5 y6 y7 y8 y9 y10 y11 y12 y13 y14 y15 y16) (impl_Puzzle_moves.l2 (k + 1) y0 y1 y2 y3 y4 y5 y6 y7 y8 y9 y10 y11 y12 y13 y14 y15 y16))
 | 0 => ⟨fun _ _ _ _ _ _ _ _ _ _ _ _ r h => by simp [impl_Puzzle_moves.l0] at h, fun _ _ _ _ _ _ _ _ _ _ _ _ _ _ r h => by simp [impl_Puzzle_moves.l1] at h, fun _ _ _ _ _ _ _ _ _ _ _ _ _ _ _ _ _ r h => by simp [impl_Puzzle_moves.l2] at h⟩
 | k + 1 => by
  obtain ⟨ih0, ih1, ih2⟩ := impl_Puzzle_moves.mono_l k
  refine ⟨?_, ?_, ?_⟩
  ·intro y0 y1 y2 y3 y4 y5 y6 y7 y8 y9 y10 y11
   unfold impl_Puzzle_moves.l0
   repeat' first
   | (with_reducible exact ih0 _ _ _ _ _ _ _ _ _ _ _ _)
   | (with_reducible exact ih1 _ _ _ _ _ _ _ _ _ _ _ _ _ _)
   | (with_reducible exact ih2 _ _ _ _ _ _ _ _ _ _ _ _ _ _ _ _ _)
   | (with_reducible exact impl_Puzzle_moved.mono _ _ _ _ _ _ _ _ _ _ _ _ _ _)
   | (with_reducible exact LeO.refl _)
   | (with_reducible exact LeO.none _)
   | (with_reducible refine LeO.ite ?_ ?_)
   | (with_reducible refine LeO.bind ?_ (fun _ => ?_))
   | exact ih0 _ _ _ _ _ _ _ _ _ _ _ _
   | exact ih1 _ _ _ _ _ _ _ _ _ _ _ _ _ _
   | exact ih2 _ _ _ _ _ _ _ _ _ _ _ _ _ _ _ _ _
   | exact impl_Puzzle_moved.mono _ _ _ _ _ _ _ _ _ _ _ _ _ _
   | exact LeO.none _
   | refine LeO.ite ?_ ?_
   | refine LeO.bind ?_ (fun _ => ?_)
  ·intro y0 y1 y2 y3 y4 y5 y6 y7 y8 y9 y10 y11 y12 y13
   unfold impl_Puzzle_moves.l1
   repeat' first
   | (with_reducible exact ih0 _ _ _ _ _ _ _ _ _ _ _ _)
   | (with_reducible exact ih1 _ _ _ _ _ _ _ _ _ _ _ _ _ _)
   | (with_reducible exact ih2 _ _ _ _ _ _ _ _ _ _ _ _ _ _ _ _ _)
   | (with_reducible exact impl_Puzzle_moved.mono _ _ _ _ _ _ _ _ _ _ _ _ _ _)
   | (with_reducible exact LeO.refl _)
   | (with_reducible exact LeO.none _)
   | (with_reducible refine LeO.ite ?_ ?_)
   | (with_reducible refine LeO.bind ?_ (fun _ => ?_))
   | exact ih0 _ _ _ _ _ _ _ _ _ _ _ _
   | exact ih1 _ _ _ _ _ _ _ _ _ _ _ _ _ _
   | exact ih2 _ _ _ _ _ _ _ _ _ _ _ _ _ _ _ _ _
   | exact impl_Puzzle_moved.mono _ _ _ _ _ _ _ _ _ _ _ _ _ _
   | exact LeO.none _
   | refine LeO.ite ?_ ?_
   | refine LeO.bind ?_ (fun _ => ?_)
  ·intro y0 y1 y2 y3 y4 y5 y6 y7 y8 y9 y10 y11 y12 y13 y14 y15 y16
   unfold impl_Puzzle_moves.l2
   repeat' first
   | (with_reducible exact ih0 _ _ _ _ _ _ _ _ _ _ _ _)
   | (with_reducible exact ih1 _ _ _ _ _ _ _ _ _ _ _ _ _ _)
   | (with_reducible exact ih2 _ _ _ _ _ _ _ _ _ _ _ _ _ _ _ _ _)
   | (with_reducible exact impl_Puzzle_moved.mono _ _ _ _ _ _ _ _ _ _ _ _ _ _)
   | (with_reducible exact LeO.refl _)
   | (with_reducible exact LeO.none _)
   | (with_reducible refine LeO.ite ?_ ?_)
   | (with_reducible refine LeO.bind ?_ (fun _ => ?_))
   | exact ih0 _ _ _ _ _ _ _ _ _ _ _ _
   | exact ih1 _ _ _ _ _ _ _ _ _ _ _ _ _ _
   | exact ih2 _ _ _ _ _ _ _ _ _ _ _ _ _ _ _ _ _
   | exact impl_Puzzle_moved.mono _ _ _ _ _ _ _ _ _ _ _ _ _ _
   | exact LeO.none _
   | refine LeO.ite ?_ ?_
   | refine LeO.bind ?_ (fun _ => ?_)
theorem impl_Puzzle_moves.mono : ∀ a0 a1 a2 a3 a4 a5 a6 a7 a8 a9 k, LeO (impl_Puzzle_moves.f k a0 a1 a2 a3 a4 a5 a6 a7 a8 a9) (impl_Puzzle_moves.f (k + 1) a0 a1 a2 a3 a4 a5 a6 a7 a8 a9) := by
 intro a0 a1 a2 a3 a4 a5 a6 a7 a8 a9 k
 obtain ⟨ih0, ih1, ih2⟩ := impl_Puzzle_moves.mono_l k
 unfold impl_Puzzle_moves.f
 repeat' first
   | (with_reducible exact ih0 _ _ _ _ _ _ _ _ _ _ _ _)
   | (with_reducible exact ih1 _ _ _ _ _ _ _ _ _ _ _ _ _ _)
   | (with_reducible exact ih2 _ _ _ _ _ _ _ _ _ _ _ _ _ _ _ _ _)
   | (with_reducible exact impl_Puzzle_moved.mono _ _ _ _ _ _ _ _ _ _ _ _ _ _)
   | (with_reducible exact LeO.refl _)
   | (with_reducible exact LeO.none _)
   | (with_reducible refine LeO.ite ?_ ?_)
   | (with_reducible refine LeO.bind ?_ (fun _ => ?_))
   | exact ih0 _ _ _ _ _ _ _ _ _ _ _ _
   | exact ih1 _ _ _ _ _ _ _ _ _ _ _ _ _ _
   | exact ih2 _ _ _ _ _ _ _ _ _ _ _ _ _ _ _ _ _
   | exact impl_Puzzle_moved.mono _ _ _ _ _ _ _ _ _ _ _ _ _ _
   | exact LeO.none _
   | refine LeO.ite ?_ ?_
   | refine LeO.bind ?_ (fun _ => ?_)
set_option maxHeartbeats 8000000 in
set_option maxRecDepth 100000 in
theorem impl_Puzzle_moves.calls (k : Nat) (A0_0 : Option Addr) (c0_0 : Nat) (l0_0 : List Int) (a0_1 : Int) (a0_2 : Int) (a0_3 : Int) (a0_4 : Int) (a0_5 : Bool) (a1_0 : Int) (a1_1 : Int) (a1_2 : Int) (a1_3 : Int) (r : List (S60)) (w : World) (hr0_0 : Kd.C (Kd.int .i16) w A0_0 l0_0.length l0_0) (hc0_0 : l0_0.length ≤ c0_0) (h : impl_Puzzle_moves.f k l0_0 a0_1 a0_2 a0_3 a0_4 a0_5 a1_0 a1_1 a1_2 a1_3 = some r) :
  Calls Try.prog 89 #[.agg #[.slice A0_0 l0_0.length c0_0, .int .i16 a0_1, .int .i16 a0_2, .int .i16 a0_3, .int .i16 a0_4, .bool a0_5], .agg #[.int .i16 a1_0, .int .i16 a1_1, .int .i16 a1_2, .int .i16 a1_3]] w fun e w' => ∃ v0_ : Value, e = .returned (v0_) ∧ Kd.R k60 60 w' w.heap.size (fun _ => True) v0_ r ∧ Below w.heap.size w w' := by
 have hu32 := Try.underlying32
 have hu30 := Try.underlying30
 have hu60 := Try.underlying60
 have HR0_0 := Aside0.mk hr0_0
 have HC0_0 := Aside0.mk hc0_0
 clear hr0_0 hc0_0
 have HB := A_ (Below.refl w.heap.size w)
 have H : (impl_Puzzle_moves.l0 k (([] : List (S60))) 0 l0_0 a0_1 a0_2 a0_3 a0_4 a0_5 a1_0 a1_1 a1_2 a1_3) = some r := h
 clear h
 obtain ⟨y328, hy328⟩ : ∃ y_ : List (S60), y_ = (([] : List (S60))) := ⟨_, rfl⟩
 replace H : (impl_Puzzle_moves.l0 k y328 0 l0_0 a0_1 a0_2 a0_3 a0_4 a0_5 a1_0 a1_1 a1_2 a1_3) = some r := by first | (rw [hy328]; with_reducible exact H) | (have H2_ := (Option.bind_some _ _).symm.trans H; rw [hy328]; with_reducible exact H2_) | (have H2_ := (Option.bind_some _ _).symm.trans H; with_reducible exact H2_) | with_reducible exact H | (rw [hy328]; exact H) | exact H
 have Ny328 := Aside0.mk hy328
 clear hy328
 have H' := Aside0.mk H
 clear H
 go_enter Try.func89, Try.ntmps89
 go_wp2_with (first | ((with_reducible refine gate_dst (N := 2) rfl ?_); refine box_event ?hg (N := 2) ?hd (cs := #[.slice A0_0 l0_0.length c0_0, .int .i16 a0_1, .int .i16 a0_2, .int .i16 a0_3, .int .i16 a0_4, .bool a0_5]) (t := 32) ?hr ?_; (case hd => rfl); (case hg => rfl); (case hr => first | (go_simp; done) | (go_simp; rfl)); intro gb326 hg w3 hbox hb; have n0_ := A_ (below_step (bl_ HB) hb); have n1_ := A_ (hbox); have n2_ := A_ ((by rw [hg]; exact (below_size (bl_ HB)) : w.heap.size ≤ gb326)); have n3_ := n2_; clear HB; have HB := n0_; have BK326 := n1_; have GW326 := n2_; have GE326 := n3_; clear n0_ n1_ n2_ n3_; clear hb hbox hg) | ((with_reducible refine gate_dst (N := 3) rfl ?_); refine box_event ?hg (N := 3) ?hd (cs := #[.int .i16 a1_0, .int .i16 a1_1, .int .i16 a1_2, .int .i16 a1_3]) (t := 30) ?hr ?_; (case hd => rfl); (case hg => rfl); (case hr => first | (go_simp; done) | (go_simp; rfl)); intro gb327 hg w4 hbox hb; have n0_ := A_ (blk_below (pl_ BK326) hb); have n1_ := A_ (below_step (bl_ HB) hb); have n2_ := A_ (hbox); have n3_ := A_ ((by rw [hg]; exact (below_size (bl_ HB)) : w.heap.size ≤ gb327)); have n4_ := n3_; have n5_ := A_ ((by rw [hg]; exact Nat.ne_of_lt (blk_lt (pl_ BK326)) : gb326 ≠ gb327)); have n6_ := Aside0.mk n5_.out.symm; clear BK326; clear HB; have BK326 := n0_; have HB := n1_; have BK327 := n2_; have GW327 := n3_; have GE327 := n4_; have NB326_327 := n5_; have NB327_326 := n6_; clear n0_ n1_ n2_ n3_ n4_ n5_ n6_; clear hb hbox hg) | ((with_reducible refine gate_dst (N := 12) rfl ?_); refine Kd.R_lit k60 _ 60 ?hg (N := 12) ?hd (xs := ([] : List (S60))) (inner := []) (ok := fun _ => True) (okp := fun _ => True) ?hr ?hp (fun _ hk => hk) trivial (Below.refl _ _) (Nat.le_refl _) (by simp) ?_; (case hd => rfl); (case hg => rfl); (case hr => first | (go_simp; done) | (go_simp; rfl)); (case hp => exact (Reps.none _ _)); intro v329 w5 ho6 hb hg_ hnew_; clear hg_ hnew_; (first | rw [← Ny328.out] at ho6 | (simp only [Int.reduceToNat] at ho6; rw [← Ny328.out] at ho6)); have n0_ := A_ (Kd.R_lower ho6 (below_size (bl_ HB))); have n1_ := A_ (blk_below (pl_ BK326) hb); have n2_ := A_ (blk_below (pl_ BK327) hb); have n3_ := A_ (below_step (bl_ HB) hb); clear BK326; clear BK327; clear HB; have HO330 := n0_; have BK326 := n1_; have BK327 := n2_; have HB := n3_; clear n0_ n1_ n2_ n3_; clear hb ho6))
 go_loopg [5, 6] k (fun kq v5 v6 w' => ∃ (x5_1 : List (S60)) (x6_1 : Int), v6 = .int .i8 x6_1 ∧ Aside0 (impl_Puzzle_moves.l0 kq x5_1 x6_1 l0_0 a0_1 a0_2 a0_3 a0_4 a0_5 a1_0 a1_1 a1_2 a1_3 = some r) ∧ Aside0 (kq ≤ k) ∧ Aside0 (Kd.R k60 60 w' w.heap.size (fun _ => True) v5 x5_1) ∧ Aside0 (w'.heap[gb326]? = some (.cells #[(.slice A0_0 l0_0.length c0_0), .int .i16 a0_1, .int .i16 a0_2, .int .i16 a0_3, .int .i16 a0_4, .bool a0_5] 32 (0, 0))) ∧ Aside0 (w'.heap[gb327]? = some (.cells #[.int .i16 a1_0, .int .i16 a1_1, .int .i16 a1_2, .int .i16 a1_3] 30 (0, 0))) ∧ Aside0 (Below w.heap.size w w'))
 case atStart => exact ⟨(y328), (0), rs_, H', ⟨Nat.le_refl _⟩, ⟨pr_ HO330⟩, ⟨pl_ BK326⟩, ⟨pl_ BK327⟩, ⟨bl_ HB⟩⟩
 case round =>
  clear H'
  try clear p2
  obtain ⟨x5_1, x6_1, rfl, HA, HK1, HO_5, BK326, BK327, HB⟩ := hrel
  cases gk with
  | zero => exact absurd HA.out (by simp [impl_Puzzle_moves.l0])
  | succ k1 =>
   have H := HA.out
   clear HA
   simp only [impl_Puzzle_moves.l0] at H
   by_cases c7 : x6_1 ≤ 2
   ·rw [if_pos c7] at H
    have c7b0 : decide (x6_1 ≤ 2) = true := decide_eq_true c7
    clear c7
    have H' := Aside0.mk H
    clear H
    have hnb8 := NB326_327.out
    have hnc8 := NB327_326.out
    have hcz9_0 : wr.cell? ⟨gb326, 0, none⟩ = some (.slice A0_0 l0_0.length c0_0) := (blk_cell BK326.out 0).trans rfl
    have hcz9_1 : wr.cell? ⟨gb326, 1, none⟩ = some (.int .i16 a0_1) := (blk_cell BK326.out 1).trans rfl
    have hcz9_2 : wr.cell? ⟨gb326, 2, none⟩ = some (.int .i16 a0_2) := (blk_cell BK326.out 2).trans rfl
    have hcz9_3 : wr.cell? ⟨gb326, 3, none⟩ = some (.int .i16 a0_3) := (blk_cell BK326.out 3).trans rfl
    have hcz9_4 : wr.cell? ⟨gb326, 4, none⟩ = some (.int .i16 a0_4) := (blk_cell BK326.out 4).trans rfl
    have hcz9_5 : wr.cell? ⟨gb326, 5, none⟩ = some (.bool a0_5) := (blk_cell BK326.out 5).trans rfl
    have hfz9_0 := blk_frozen BK326.out 0
    have hfz9_1 := blk_frozen BK326.out 1
    have hfz9_2 := blk_frozen BK326.out 2
    have hfz9_3 := blk_frozen BK326.out 3
    have hfz9_4 := blk_frozen BK326.out 4
    have hfz9_5 := blk_frozen BK326.out 5
    go_wp2
    go_loopg [5, 20] k1 (fun kq v5 v20 w' => ∃ (x5_2 : List (S60)) (x20_2 : Int), v20 = .int .i64 x20_2 ∧ Aside0 (impl_Puzzle_moves.l1 kq x5_2 x6_1 (l0_0.length : Int) x20_2 l0_0 a0_1 a0_2 a0_3 a0_4 a0_5 a1_0 a1_1 a1_2 a1_3 = some r) ∧ Aside0 (kq ≤ k1) ∧ Aside0 (Kd.R k60 60 w' w.heap.size (fun _ => True) v5 x5_2) ∧ Aside0 (w'.heap[gb326]? = some (.cells #[(.slice A0_0 l0_0.length c0_0), .int .i16 a0_1, .int .i16 a0_2, .int .i16 a0_3, .int .i16 a0_4, .bool a0_5] 32 (0, 0))) ∧ Aside0 (w'.heap[gb327]? = some (.cells #[.int .i16 a1_0, .int .i16 a1_1, .int .i16 a1_2, .int .i16 a1_3] 30 (0, 0))) ∧ Aside0 (Below w.heap.size w w'))
    case atStart => exact ⟨(x5_1), (0), rs_, H', ⟨Nat.le_refl _⟩, ⟨pr_ HO_5⟩, ⟨pl_ BK326⟩, ⟨pl_ BK327⟩, ⟨bl_ HB⟩⟩
    case round =>
     clear H'
     try clear p2
     try clear c7
     try clear c7b0
     try clear c8
     try clear hcz9_0
     try clear hcz9_1
     try clear hcz9_2
     try clear hcz9_3
     try clear hcz9_4
     try clear hcz9_5
     try clear hfz9_0
     try clear hfz9_1
     try clear hfz9_2
     try clear hfz9_3
     try clear hfz9_4
     try clear hfz9_5
     try clear p2
     obtain ⟨x5_2, x20_2, rfl, HA, HK2, HO_5, BK326, BK327, HB⟩ := hrel
     cases gk with
     | zero => exact absurd HA.out (by simp [impl_Puzzle_moves.l1])
     | succ k2 =>
      have H := HA.out
      clear HA
      simp only [impl_Puzzle_moves.l1] at H
      by_cases c10 : x20_2 < (l0_0.length : Int)
      ·rw [if_pos c10] at H
       have c10b0 : decide (x20_2 < (l0_0.length : Int)) = true := decide_eq_true c10
       clear c10
       have H' := Aside0.mk H
       clear H
       have hnb11 := NB326_327.out
       have hnc11 := NB327_326.out
       have hcz12_0 : wr.cell? ⟨gb326, 0, none⟩ = some (.slice A0_0 l0_0.length c0_0) := (blk_cell BK326.out 0).trans rfl
       have hcz12_1 : wr.cell? ⟨gb326, 1, none⟩ = some (.int .i16 a0_1) := (blk_cell BK326.out 1).trans rfl
       have hcz12_2 : wr.cell? ⟨gb326, 2, none⟩ = some (.int .i16 a0_2) := (blk_cell BK326.out 2).trans rfl
       have hcz12_3 : wr.cell? ⟨gb326, 3, none⟩ = some (.int .i16 a0_3) := (blk_cell BK326.out 3).trans rfl
       have hcz12_4 : wr.cell? ⟨gb326, 4, none⟩ = some (.int .i16 a0_4) := (blk_cell BK326.out 4).trans rfl
       have hcz12_5 : wr.cell? ⟨gb326, 5, none⟩ = some (.bool a0_5) := (blk_cell BK326.out 5).trans rfl
       have hfz12_0 := blk_frozen BK326.out 0
       have hfz12_1 := blk_frozen BK326.out 1
       have hfz12_2 := blk_frozen BK326.out 2
       have hfz12_3 := blk_frozen BK326.out 3
       have hfz12_4 := blk_frozen BK326.out 4
       have hfz12_5 := blk_frozen BK326.out 5
       go_wp2
       go_loopg [5, 26] k2 (fun kq v5 v26 w' => ∃ (x5_3 : List (S60)) (x26_3 : Int), v26 = .int .i64 x26_3 ∧ Aside0 (impl_Puzzle_moves.l2 kq x5_3 x6_1 x20_2 (l0_0.length : Int) x20_2 (l0_0.length : Int) x26_3 l0_0 a0_1 a0_2 a0_3 a0_4 a0_5 a1_0 a1_1 a1_2 a1_3 = some r) ∧ Aside0 (kq ≤ k2) ∧ Aside0 (Kd.R k60 60 w' w.heap.size (fun _ => True) v5 x5_3) ∧ Aside0 (w'.heap[gb326]? = some (.cells #[(.slice A0_0 l0_0.length c0_0), .int .i16 a0_1, .int .i16 a0_2, .int .i16 a0_3, .int .i16 a0_4, .bool a0_5] 32 (0, 0))) ∧ Aside0 (w'.heap[gb327]? = some (.cells #[.int .i16 a1_0, .int .i16 a1_1, .int .i16 a1_2, .int .i16 a1_3] 30 (0, 0))) ∧ Aside0 (Below w.heap.size w w'))
       case atStart => exact ⟨(x5_2), (0), rs_, H', ⟨Nat.le_refl _⟩, ⟨pr_ HO_5⟩, ⟨pl_ BK326⟩, ⟨pl_ BK327⟩, ⟨bl_ HB⟩⟩
       case round =>
        clear H'
        try clear c1
        try clear p2
        try clear c7
        try clear c7b0
        try clear c8
        try clear c10
        try clear c10b0
        try clear c11
        try clear hcz12_0
        try clear hcz12_1
        try clear hcz12_2
        try clear hcz12_3
        try clear hcz12_4
        try clear hcz12_5
        try clear hcz9_0
        try clear hcz9_1
        try clear hcz9_2
        try clear hcz9_3
        try clear hcz9_4
        try clear hcz9_5
        try clear hfz12_0
        try clear hfz12_1
        try clear hfz12_2
        try clear hfz12_3
        try clear hfz12_4
        try clear hfz12_5
        try clear hfz9_0
        try clear hfz9_1
        try clear hfz9_2
        try clear hfz9_3
        try clear hfz9_4
        try clear hfz9_5
        try clear p2
        obtain ⟨x5_3, x26_3, rfl, HA, HK3, HO_5, BK326, BK327, HB⟩ := hrel
        cases gk with
        | zero => exact absurd HA.out (by simp [impl_Puzzle_moves.l2])
        | succ k3 =>
         have H := HA.out
         clear HA
         simp only [impl_Puzzle_moves.l2] at H
         by_cases c13 : x26_3 < (l0_0.length : Int)
         ·rw [if_pos c13] at H
          have c13b0 : decide (x26_3 < (l0_0.length : Int)) = true := decide_eq_true c13
          clear c13
          replace H := Option.bind_eq_some_iff.mp H
          obtain ⟨⟨t332, t333, t334, t335, t336⟩, A140, H⟩ := H
          replace H : (if t336 = true then ((impl_Puzzle_isMove.f l0_0 a0_1 a0_2 a0_3 a0_4 a0_5 x6_1 (IntKind.i8.wrap (x20_2)) (IntKind.i8.wrap (x26_3))).bind fun t338 => (if t338 = true then (if x5_3.length < 46912496118442 then (impl_Puzzle_moves.l2 k3 (x5_3 ++ [(⟨x6_1, IntKind.i8.wrap (x20_2), IntKind.i8.wrap (x26_3)⟩ : S60)]) x6_1 x20_2 (l0_0.length : Int) x20_2 (l0_0.length : Int) (wrap64 (x26_3 + 1)) l0_0 a0_1 a0_2 a0_3 a0_4 a0_5 a1_0 a1_1 a1_2 a1_3) else (none)) else (impl_Puzzle_moves.l2 k3 x5_3 x6_1 x20_2 (l0_0.length : Int) x20_2 (l0_0.length : Int) (wrap64 (x26_3 + 1)) l0_0 a0_1 a0_2 a0_3 a0_4 a0_5 a1_0 a1_1 a1_2 a1_3))) else (impl_Puzzle_moves.l2 k3 x5_3 x6_1 x20_2 (l0_0.length : Int) x20_2 (l0_0.length : Int) (wrap64 (x26_3 + 1)) l0_0 a0_1 a0_2 a0_3 a0_4 a0_5 a1_0 a1_1 a1_2 a1_3)) = some r := H
          have A14 := Aside0.mk A140
          clear A140
          by_cases c15 : t336 = true
          ·subst c15
           have H1 : ((impl_Puzzle_isMove.f l0_0 a0_1 a0_2 a0_3 a0_4 a0_5 x6_1 (IntKind.i8.wrap (x20_2)) (IntKind.i8.wrap (x26_3))).bind fun t338 => (if t338 = true then (if x5_3.length < 46912496118442 then (impl_Puzzle_moves.l2 k3 (x5_3 ++ [(⟨x6_1, IntKind.i8.wrap (x20_2), IntKind.i8.wrap (x26_3)⟩ : S60)]) x6_1 x20_2 (l0_0.length : Int) x20_2 (l0_0.length : Int) (wrap64 (x26_3 + 1)) l0_0 a0_1 a0_2 a0_3 a0_4 a0_5 a1_0 a1_1 a1_2 a1_3) else (none)) else (impl_Puzzle_moves.l2 k3 x5_3 x6_1 x20_2 (l0_0.length : Int) x20_2 (l0_0.length : Int) (wrap64 (x26_3 + 1)) l0_0 a0_1 a0_2 a0_3 a0_4 a0_5 a1_0 a1_1 a1_2 a1_3))) = some r := by rw [if_pos rfl] at H; exact H
           clear H
           have H := H1
           clear H1
           replace H := Option.bind_eq_some_iff.mp H
           obtain ⟨t338, A160, H⟩ := H
           replace H : (if t338 = true then (if x5_3.length < 46912496118442 then (impl_Puzzle_moves.l2 k3 (x5_3 ++ [(⟨x6_1, IntKind.i8.wrap (x20_2), IntKind.i8.wrap (x26_3)⟩ : S60)]) x6_1 x20_2 (l0_0.length : Int) x20_2 (l0_0.length : Int) (wrap64 (x26_3 + 1)) l0_0 a0_1 a0_2 a0_3 a0_4 a0_5 a1_0 a1_1 a1_2 a1_3) else (none)) else (impl_Puzzle_moves.l2 k3 x5_3 x6_1 x20_2 (l0_0.length : Int) x20_2 (l0_0.length : Int) (wrap64 (x26_3 + 1)) l0_0 a0_1 a0_2 a0_3 a0_4 a0_5 a1_0 a1_1 a1_2 a1_3)) = some r := H
           have A16 := Aside0.mk A160
           clear A160
           by_cases c17 : t338 = true
           ·subst c17
            have H1 : (if x5_3.length < 46912496118442 then (impl_Puzzle_moves.l2 k3 (x5_3 ++ [(⟨x6_1, IntKind.i8.wrap (x20_2), IntKind.i8.wrap (x26_3)⟩ : S60)]) x6_1 x20_2 (l0_0.length : Int) x20_2 (l0_0.length : Int) (wrap64 (x26_3 + 1)) l0_0 a0_1 a0_2 a0_3 a0_4 a0_5 a1_0 a1_1 a1_2 a1_3) else (none)) = some r := by rw [if_pos rfl] at H; exact H
            clear H
            have H := H1
            clear H1
            by_cases c18 : x5_3.length < 46912496118442
            ·rw [if_pos c18] at H
             have LMc18 := Aside0.mk c18
             clear c18
             obtain ⟨y339, hy339⟩ : ∃ y_ : List (S60), y_ = (x5_3 ++ [(⟨x6_1, IntKind.i8.wrap (x20_2), IntKind.i8.wrap (x26_3)⟩ : S60)]) := ⟨_, rfl⟩
             replace H : (impl_Puzzle_moves.l2 k3 y339 x6_1 x20_2 (l0_0.length : Int) x20_2 (l0_0.length : Int) (wrap64 (x26_3 + 1)) l0_0 a0_1 a0_2 a0_3 a0_4 a0_5 a1_0 a1_1 a1_2 a1_3) = some r := by first | (rw [hy339]; with_reducible exact H) | (have H2_ := (Option.bind_some _ _).symm.trans H; rw [hy339]; with_reducible exact H2_) | (have H2_ := (Option.bind_some _ _).symm.trans H; with_reducible exact H2_) | with_reducible exact H | (rw [hy339]; exact H) | exact H
             have Ny339 := Aside0.mk hy339
             clear hy339
             have H' := Aside0.mk H
             clear H
             go_wp2_with (first | ((with_reducible refine gate_dst (N := 9) rfl ?_); refine box_event ?hg (N := 9) ?hd (cs := #[.int .i8 0, .int .i8 0, .int .i8 0]) (t := 60) ?hr ?_; (case hd => rfl); (case hg => rfl); (case hr => first | (go_simp; done) | (go_simp; rfl)); intro gb331 hg w19 hbox hb; have n0_ := A_ (Kd.R_below (Kd.R_elderB (pr_ HO_5) gb331 (Nat.le_of_eq hg.symm)) hb); have n1_ := A_ (blk_below (pl_ BK326) hb); have n2_ := A_ (blk_below (pl_ BK327) hb); have n3_ := A_ (below_step (bl_ HB) hb); have n4_ := A_ (hbox); have n5_ := A_ ((by rw [hg]; exact (below_size (bl_ HB)) : w.heap.size ≤ gb331)); have n6_ := n5_; have n7_ := A_ ((by rw [hg]; exact Nat.ne_of_lt (blk_lt (pl_ BK326)) : gb326 ≠ gb331)); have n8_ := Aside0.mk n7_.out.symm; have n9_ := A_ ((by rw [hg]; exact Nat.ne_of_lt (blk_lt (pl_ BK327)) : gb327 ≠ gb331)); have n10_ := Aside0.mk n9_.out.symm; clear HO_5; clear BK326; clear BK327; clear HB; have HO_5 := n0_; have BK326 := n1_; have BK327 := n2_; have HB := n3_; have BK331 := n4_; have GW331 := n5_; have GE331 := n6_; have NB326_331 := n7_; have NB331_326 := n8_; have NB327_331 := n9_; have NB331_327 := n10_; clear n0_ n1_ n2_ n3_ n4_ n5_ n6_ n7_ n8_ n9_ n10_; clear hb hbox hg; have hnb20 := NB331_326.out; have hnc20 := NB326_331.out; have hnb21 := NB331_327.out; have hnc21 := NB327_331.out; have hcz22_0 : w19.cell? ⟨gb331, 0, none⟩ = some (.int .i8 0) := (blk_cell BK331.out 0).trans rfl; have hcz22_1 : w19.cell? ⟨gb331, 1, none⟩ = some (.int .i8 0) := (blk_cell BK331.out 1).trans rfl; have hcz22_2 : w19.cell? ⟨gb331, 2, none⟩ = some (.int .i8 0) := (blk_cell BK331.out 2).trans rfl; have hfz22_0 := blk_frozen BK331.out 0; have hfz22_1 := blk_frozen BK331.out 1; have hfz22_2 := blk_frozen BK331.out 2; have hnb23 := NB326_327.out; have hnc23 := NB327_326.out; have hcz24_0 : w19.cell? ⟨gb326, 0, none⟩ = some (.slice A0_0 l0_0.length c0_0) := (blk_cell BK326.out 0).trans rfl; have hcz24_1 : w19.cell? ⟨gb326, 1, none⟩ = some (.int .i16 a0_1) := (blk_cell BK326.out 1).trans rfl; have hcz24_2 : w19.cell? ⟨gb326, 2, none⟩ = some (.int .i16 a0_2) := (blk_cell BK326.out 2).trans rfl; have hcz24_3 : w19.cell? ⟨gb326, 3, none⟩ = some (.int .i16 a0_3) := (blk_cell BK326.out 3).trans rfl; have hcz24_4 : w19.cell? ⟨gb326, 4, none⟩ = some (.int .i16 a0_4) := (blk_cell BK326.out 4).trans rfl; have hcz24_5 : w19.cell? ⟨gb326, 5, none⟩ = some (.bool a0_5) := (blk_cell BK326.out 5).trans rfl; have hfz24_0 := blk_frozen BK326.out 0; have hfz24_1 := blk_frozen BK326.out 1; have hfz24_2 := blk_frozen BK326.out 2; have hfz24_3 := blk_frozen BK326.out 3; have hfz24_4 := blk_frozen BK326.out 4; have hfz24_5 := blk_frozen BK326.out 5; have hcz25_0 : w19.cell? ⟨gb327, 0, none⟩ = some (.int .i16 a1_0) := (blk_cell BK327.out 0).trans rfl; have hcz25_1 : w19.cell? ⟨gb327, 1, none⟩ = some (.int .i16 a1_1) := (blk_cell BK327.out 1).trans rfl; have hcz25_2 : w19.cell? ⟨gb327, 2, none⟩ = some (.int .i16 a1_2) := (blk_cell BK327.out 2).trans rfl; have hcz25_3 : w19.cell? ⟨gb327, 3, none⟩ = some (.int .i16 a1_3) := (blk_cell BK327.out 3).trans rfl; have hfz25_0 := blk_frozen BK327.out 0; have hfz25_1 := blk_frozen BK327.out 1; have hfz25_2 := blk_frozen BK327.out 2; have hfz25_3 := blk_frozen BK327.out 3) | ((with_reducible refine gate_callee (f := 87) rfl ?_); refine goesL_ (some 39) rfl rfl Try.func87 (by kernel_rfl) rfl #[.agg #[.slice A0_0 l0_0.length c0_0, .int .i16 a0_1, .int .i16 a0_2, .int .i16 a0_3, .int .i16 a0_4, .bool a0_5], .agg #[.int .i16 a1_0, .int .i16 a1_1, .int .i16 a1_2, .int .i16 a1_3], .agg #[.int .i8 x6_1, .int .i8 (IntKind.i8.wrap (x20_2)), .int .i8 (IntKind.i8.wrap (x26_3))]] rfl arg_ ?_; (with_reducible refine (impl_Puzzle_moved.calls k3 _ _ l0_0 a0_1 a0_2 a0_3 a0_4 a0_5 a1_0 a1_1 a1_2 a1_3 x6_1 (IntKind.i8.wrap (x20_2)) (IntKind.i8.wrap (x26_3)) t332 t333 t334 t335 true _ ?side1 ?side2 A14.out).mono ?_); (case side1 => exact Kd.C_below HR0_0.out (bs_ HB GE331)); (case side2 => exact HC0_0.out); rintro e w26 ⟨rfl, hb⟩; refine ⟨_, rfl, ?_⟩; have n0_ := A_ (Kd.R_below (by (with_reducible repeat (first | apply Kd.R_alloc | apply Kd.R_drewN | apply Kd.R_drew)); exact (Kd.R_mono (Kd.R_far (p := ⟨gb331, 2, none⟩) (Kd.R_far (p := ⟨gb331, 1, none⟩) (Kd.R_far (p := ⟨gb331, 0, none⟩) (Kd.R_mono HO_5.out (fun k_ hk => (⟨hk, hk.2⟩ : _ ∧ k_ ≠ gb331))) (fun _ hk => hk.2) (.int .i8 x6_1)) (fun _ hk => hk.2) (.int .i8 (IntKind.i8.wrap (x20_2)))) (fun _ hk => hk.2) (.int .i8 (IntKind.i8.wrap (x26_3)))) (fun _ h_ => h_.1))) hb); have n1_ := A_ (blk_below (g := gb326) (o := .cells #[.slice A0_0 l0_0.length c0_0, .int .i16 a0_1, .int .i16 a0_2, .int .i16 a0_3, .int .i16 a0_4, .bool a0_5] 32 (0, 0)) (pf_ BK326 NB326_331) hb); have n2_ := A_ (blk_below (g := gb327) (o := .cells #[.int .i16 a1_0, .int .i16 a1_1, .int .i16 a1_2, .int .i16 a1_3] 30 (0, 0)) (pf_ BK327 NB327_331) hb); have n3_ := A_ (blk_below (g := gb331) (o := .cells #[.int .i8 x6_1, .int .i8 (IntKind.i8.wrap (x20_2)), .int .i8 (IntKind.i8.wrap (x26_3))] 60 (0, 0)) (by (with_reducible repeat (first | refine blk_drewN ?_ _ | refine blk_drew ?_ | refine blk_alloc ?_ _)); refine blk_put (cs := #[.int .i8 x6_1, .int .i8 (IntKind.i8.wrap (x20_2)), .int .i8 0]) ?_ 2 _ rfl; (with_reducible repeat (first | refine blk_drewN ?_ _ | refine blk_drew ?_ | refine blk_alloc ?_ _)); refine blk_put (cs := #[.int .i8 x6_1, .int .i8 0, .int .i8 0]) ?_ 1 _ rfl; (with_reducible repeat (first | refine blk_drewN ?_ _ | refine blk_drew ?_ | refine blk_alloc ?_ _)); refine blk_put (cs := #[.int .i8 0, .int .i8 0, .int .i8 0]) ?_ 0 _ rfl; (with_reducible repeat (first | refine blk_drewN ?_ _ | refine blk_drew ?_ | refine blk_alloc ?_ _)); exact BK331.out) hb); have n4_ := A_ (below_step (bs_ HB GE331) hb); clear HO_5; clear BK326; clear BK327; clear BK331; clear HB; have HO_5 := n0_; have BK326 := n1_; have BK327 := n2_; have BK331 := n3_; have HB := n4_; clear n0_ n1_ n2_ n3_ n4_; (try clear hb); (try clear hb2); (try clear hk); (try clear hi)) | ((with_reducible refine gate_dst (N := 10) rfl ?_); refine box_event ?hg (N := 10) ?hd (cs := #[.int .i16 0, .int .i16 0, .int .i16 0, .int .i16 0]) (t := 30) ?hr ?_; (case hd => rfl); (case hg => rfl); (case hr => first | (go_simp; done) | (go_simp; rfl)); intro gb337 hg w27 hbox hb; have n0_ := A_ (Kd.R_below (pr_ HO_5) hb); have n1_ := A_ (blk_below (pl_ BK326) hb); have n2_ := A_ (blk_below (pl_ BK327) hb); have n3_ := A_ (blk_below (pl_ BK331) hb); have n4_ := A_ (below_step (bl_ HB) hb); have n5_ := A_ (hbox); have n6_ := A_ ((by rw [hg]; exact (below_size (bl_ HB)) : w.heap.size ≤ gb337)); have n7_ := n6_; have n8_ := A_ ((by rw [hg]; exact Nat.ne_of_lt (blk_lt (pl_ BK326)) : gb326 ≠ gb337)); have n9_ := Aside0.mk n8_.out.symm; have n10_ := A_ ((by rw [hg]; exact Nat.ne_of_lt (blk_lt (pl_ BK327)) : gb327 ≠ gb337)); have n11_ := Aside0.mk n10_.out.symm; have n12_ := A_ ((by rw [hg]; exact Nat.ne_of_lt (blk_lt (pl_ BK331)) : gb331 ≠ gb337)); have n13_ := Aside0.mk n12_.out.symm; clear HO_5; clear BK326; clear BK327; clear BK331; clear HB; have HO_5 := n0_; have BK326 := n1_; have BK327 := n2_; have BK331 := n3_; have HB := n4_; have BK337 := n5_; have GW337 := n6_; have GE337 := n7_; have NB326_337 := n8_; have NB337_326 := n9_; have NB327_337 := n10_; have NB337_327 := n11_; have NB331_337 := n12_; have NB337_331 := n13_; clear n0_ n1_ n2_ n3_ n4_ n5_ n6_ n7_ n8_ n9_ n10_ n11_ n12_ n13_; clear hb hbox hg; have hnb28 := NB337_326.out; have hnc28 := NB326_337.out; have hnb29 := NB337_327.out; have hnc29 := NB327_337.out; have hnb30 := NB337_331.out; have hnc30 := NB331_337.out; have hcz31_0 : w27.cell? ⟨gb337, 0, none⟩ = some (.int .i16 0) := (blk_cell BK337.out 0).trans rfl; have hcz31_1 : w27.cell? ⟨gb337, 1, none⟩ = some (.int .i16 0) := (blk_cell BK337.out 1).trans rfl; have hcz31_2 : w27.cell? ⟨gb337, 2, none⟩ = some (.int .i16 0) := (blk_cell BK337.out 2).trans rfl; have hcz31_3 : w27.cell? ⟨gb337, 3, none⟩ = some (.int .i16 0) := (blk_cell BK337.out 3).trans rfl; have hfz31_0 := blk_frozen BK337.out 0; have hfz31_1 := blk_frozen BK337.out 1; have hfz31_2 := blk_frozen BK337.out 2; have hfz31_3 := blk_frozen BK337.out 3; have hcz32_0 : w27.cell? ⟨gb326, 0, none⟩ = some (.slice A0_0 l0_0.length c0_0) := (blk_cell BK326.out 0).trans rfl; have hcz32_1 : w27.cell? ⟨gb326, 1, none⟩ = some (.int .i16 a0_1) := (blk_cell BK326.out 1).trans rfl; have hcz32_2 : w27.cell? ⟨gb326, 2, none⟩ = some (.int .i16 a0_2) := (blk_cell BK326.out 2).trans rfl; have hcz32_3 : w27.cell? ⟨gb326, 3, none⟩ = some (.int .i16 a0_3) := (blk_cell BK326.out 3).trans rfl; have hcz32_4 : w27.cell? ⟨gb326, 4, none⟩ = some (.int .i16 a0_4) := (blk_cell BK326.out 4).trans rfl; have hcz32_5 : w27.cell? ⟨gb326, 5, none⟩ = some (.bool a0_5) := (blk_cell BK326.out 5).trans rfl; have hfz32_0 := blk_frozen BK326.out 0; have hfz32_1 := blk_frozen BK326.out 1; have hfz32_2 := blk_frozen BK326.out 2; have hfz32_3 := blk_frozen BK326.out 3; have hfz32_4 := blk_frozen BK326.out 4; have hfz32_5 := blk_frozen BK326.out 5; have hcz33_0 : w27.cell? ⟨gb331, 0, none⟩ = some (.int .i8 x6_1) := (blk_cell BK331.out 0).trans rfl; have hcz33_1 : w27.cell? ⟨gb331, 1, none⟩ = some (.int .i8 (IntKind.i8.wrap (x20_2))) := (blk_cell BK331.out 1).trans rfl; have hcz33_2 : w27.cell? ⟨gb331, 2, none⟩ = some (.int .i8 (IntKind.i8.wrap (x26_3))) := (blk_cell BK331.out 2).trans rfl; have hfz33_0 := blk_frozen BK331.out 0; have hfz33_1 := blk_frozen BK331.out 1; have hfz33_2 := blk_frozen BK331.out 2) | (go_at_call 86; (with_reducible refine (impl_Puzzle_isMove.calls _ _ l0_0 a0_1 a0_2 a0_3 a0_4 a0_5 x6_1 (IntKind.i8.wrap (x20_2)) (IntKind.i8.wrap (x26_3)) true _ ?side1 ?side2 A16.out).mono ?_); (case side1 => exact Kd.C_below HR0_0.out (bs_ HB GE337)); (case side2 => exact HC0_0.out); rintro e w34 ⟨rfl, hb⟩; have n0_ := A_ (Kd.R_below (by (with_reducible repeat (first | apply Kd.R_alloc | apply Kd.R_drewN | apply Kd.R_drew)); exact (rf4_ HO_5 BK337 (by decide))) hb); have n1_ := A_ (blk_below (g := gb326) (o := .cells #[.slice A0_0 l0_0.length c0_0, .int .i16 a0_1, .int .i16 a0_2, .int .i16 a0_3, .int .i16 a0_4, .bool a0_5] 32 (0, 0)) (pf_ BK326 NB326_337) hb); have n2_ := A_ (blk_below (g := gb327) (o := .cells #[.int .i16 a1_0, .int .i16 a1_1, .int .i16 a1_2, .int .i16 a1_3] 30 (0, 0)) (pf_ BK327 NB327_337) hb); have n3_ := A_ (blk_below (g := gb331) (o := .cells #[.int .i8 x6_1, .int .i8 (IntKind.i8.wrap (x20_2)), .int .i8 (IntKind.i8.wrap (x26_3))] 60 (0, 0)) (pf_ BK331 NB331_337) hb); have n4_ := A_ (blk_below (g := gb337) (o := .cells #[.int .i16 t332, .int .i16 t333, .int .i16 t334, .int .i16 t335] 30 (0, 0)) (by (with_reducible repeat (first | refine blk_drewN ?_ _ | refine blk_drew ?_ | refine blk_alloc ?_ _)); refine blk_put (cs := #[.int .i16 t332, .int .i16 t333, .int .i16 t334, .int .i16 0]) ?_ 3 _ rfl; (with_reducible repeat (first | refine blk_drewN ?_ _ | refine blk_drew ?_ | refine blk_alloc ?_ _)); refine blk_put (cs := #[.int .i16 t332, .int .i16 t333, .int .i16 0, .int .i16 0]) ?_ 2 _ rfl; (with_reducible repeat (first | refine blk_drewN ?_ _ | refine blk_drew ?_ | refine blk_alloc ?_ _)); refine blk_put (cs := #[.int .i16 t332, .int .i16 0, .int .i16 0, .int .i16 0]) ?_ 1 _ rfl; (with_reducible repeat (first | refine blk_drewN ?_ _ | refine blk_drew ?_ | refine blk_alloc ?_ _)); refine blk_put (cs := #[.int .i16 0, .int .i16 0, .int .i16 0, .int .i16 0]) ?_ 0 _ rfl; (with_reducible repeat (first | refine blk_drewN ?_ _ | refine blk_drew ?_ | refine blk_alloc ?_ _)); exact BK337.out) hb); have n5_ := A_ (below_step (bs_ HB GE337) hb); clear HO_5; clear BK326; clear BK327; clear BK331; clear BK337; clear HB; have HO_5 := n0_; have BK326 := n1_; have BK327 := n2_; have BK331 := n3_; have BK337 := n4_; have HB := n5_; clear n0_ n1_ n2_ n3_ n4_ n5_; (try clear hb); (try clear hb2); (try clear hk); (try clear hi); have hcz35_0 : w34.cell? ⟨gb331, 0, none⟩ = some (.int .i8 x6_1) := (blk_cell BK331.out 0).trans rfl; have hcz35_1 : w34.cell? ⟨gb331, 1, none⟩ = some (.int .i8 (IntKind.i8.wrap (x20_2))) := (blk_cell BK331.out 1).trans rfl; have hcz35_2 : w34.cell? ⟨gb331, 2, none⟩ = some (.int .i8 (IntKind.i8.wrap (x26_3))) := (blk_cell BK331.out 2).trans rfl; have hfz35_0 := blk_frozen BK331.out 0; have hfz35_1 := blk_frozen BK331.out 1; have hfz35_2 := blk_frozen BK331.out 2) | ((with_reducible refine gate_builtin (b := .append) (xs := #[.tmp 48, .tmp 50]) rfl ?_); at_builtin; refine Kd.R_append k60 (w0 := w) w.heap.size rfl (.tmp 48) (.tmp 50) 52 60 (.agg #[(.int .i8 0), (.int .i8 0), (.int .i8 0)]) 3 rfl Try.underlying52 info60 rfl (by decide) (by omega) u5 x5_3 (⟨x6_1, IntKind.i8.wrap (x20_2), IntKind.i8.wrap (x26_3)⟩ : S60) [.int .i8 x6_1, .int .i8 (IntKind.i8.wrap (x20_2)), .int .i8 (IntKind.i8.wrap (x26_3))] (fun k_ => k_ ≠ gb331) (fun _ => False) rfl rfl ?aP (fun _ hk => hk.elim) ?aF ?aO ?aB ?aS ?aL ?_; (case aP => exact k60_mkM _ _ _ (⟨x6_1, IntKind.i8.wrap (x20_2), IntKind.i8.wrap (x26_3)⟩ : S60)); (case aB => exact (bl_ HB)); (case aF => exact (fun k_ hk => Kd.freshB (pl_ BK331) k_ hk)); (case aO => exact (by (with_reducible repeat (first | apply Kd.R_alloc | apply Kd.R_drewN | apply Kd.R_drew)); exact Kd.R_mono HO_5.out (fun _ hk => hk.2))); (case aS => exact (below_size (bl_ HB))); (case aL => have := LMc18.out; omega); intro v340 w36 ho hb hg hat; rw [← Ny339.out] at ho; have n0_ := A_ (blk_grown (pl_ BK326) hg (Kd.R_ne HO_5.out BK326.out (by decide))); have n1_ := A_ (blk_grown (pl_ BK327) hg (Kd.R_ne HO_5.out BK327.out (by decide))); have n2_ := A_ (blk_grown (pl_ BK331) hg (Kd.R_away HO_5.out (fun _ hk => hk.2))); have n3_ := A_ (blk_grown (pl_ BK337) hg (Kd.R_ne HO_5.out BK337.out (by decide))); have n4_ := A_ (hb); have n5_ := A_ (ho); clear BK326; clear BK327; clear BK331; clear BK337; clear HB; clear HO_5; have BK326 := n0_; have BK327 := n1_; have BK331 := n2_; have BK337 := n3_; have HB := n4_; have HO341 := n5_; clear n0_ n1_ n2_ n3_ n4_ n5_; clear ho hb hg hat))
             go_roundg k3
             case measure => have := HK1.out; have := HK2.out; have := HK3.out; omega
             case rel => exact ⟨(y339), (wrap64 (x26_3 + 1)), rs_, H', ⟨by have := HK1.out; have := HK2.out; have := HK3.out; omega⟩, ⟨by (with_reducible repeat (first | apply Kd.R_alloc | apply Kd.R_drewN | apply Kd.R_drew)); exact Kd.R_mono HO341.out (fun _ hk => trivial)⟩, ⟨pl_ BK326⟩, ⟨pl_ BK327⟩, ⟨bl_ HB⟩⟩
            ·rw [if_neg c18] at H
             exact absurd H (by simp)
           ·replace c17 := Bool.eq_false_iff.mpr c17
            subst c17
            have H1 : (impl_Puzzle_moves.l2 k3 x5_3 x6_1 x20_2 (l0_0.length : Int) x20_2 (l0_0.length : Int) (wrap64 (x26_3 + 1)) l0_0 a0_1 a0_2 a0_3 a0_4 a0_5 a1_0 a1_1 a1_2 a1_3) = some r := by rw [if_neg (show ¬ (false = true) by decide)] at H; exact H
            clear H
            have H := H1
            clear H1
            have H' := Aside0.mk H
            clear H
            go_wp2_with (first | ((with_reducible refine gate_dst (N := 9) rfl ?_); refine box_event ?hg (N := 9) ?hd (cs := #[.int .i8 0, .int .i8 0, .int .i8 0]) (t := 60) ?hr ?_; (case hd => rfl); (case hg => rfl); (case hr => first | (go_simp; done) | (go_simp; rfl)); intro gb331 hg w37 hbox hb; have n0_ := A_ (Kd.R_below (Kd.R_elderB (pr_ HO_5) gb331 (Nat.le_of_eq hg.symm)) hb); have n1_ := A_ (blk_below (pl_ BK326) hb); have n2_ := A_ (blk_below (pl_ BK327) hb); have n3_ := A_ (below_step (bl_ HB) hb); have n4_ := A_ (hbox); have n5_ := A_ ((by rw [hg]; exact (below_size (bl_ HB)) : w.heap.size ≤ gb331)); have n6_ := n5_; have n7_ := A_ ((by rw [hg]; exact Nat.ne_of_lt (blk_lt (pl_ BK326)) : gb326 ≠ gb331)); have n8_ := Aside0.mk n7_.out.symm; have n9_ := A_ ((by rw [hg]; exact Nat.ne_of_lt (blk_lt (pl_ BK327)) : gb327 ≠ gb331)); have n10_ := Aside0.mk n9_.out.symm; clear HO_5; clear BK326; clear BK327; clear HB; have HO_5 := n0_; have BK326 := n1_; have BK327 := n2_; have HB := n3_; have BK331 := n4_; have GW331 := n5_; have GE331 := n6_; have NB326_331 := n7_; have NB331_326 := n8_; have NB327_331 := n9_; have NB331_327 := n10_; clear n0_ n1_ n2_ n3_ n4_ n5_ n6_ n7_ n8_ n9_ n10_; clear hb hbox hg; have hnb38 := NB331_326.out; have hnc38 := NB326_331.out; have hnb39 := NB331_327.out; have hnc39 := NB327_331.out; have hcz40_0 : w37.cell? ⟨gb331, 0, none⟩ = some (.int .i8 0) := (blk_cell BK331.out 0).trans rfl; have hcz40_1 : w37.cell? ⟨gb331, 1, none⟩ = some (.int .i8 0) := (blk_cell BK331.out 1).trans rfl; have hcz40_2 : w37.cell? ⟨gb331, 2, none⟩ = some (.int .i8 0) := (blk_cell BK331.out 2).trans rfl; have hfz40_0 := blk_frozen BK331.out 0; have hfz40_1 := blk_frozen BK331.out 1; have hfz40_2 := blk_frozen BK331.out 2; have hnb41 := NB326_327.out; have hnc41 := NB327_326.out; have hcz42_0 : w37.cell? ⟨gb326, 0, none⟩ = some (.slice A0_0 l0_0.length c0_0) := (blk_cell BK326.out 0).trans rfl; have hcz42_1 : w37.cell? ⟨gb326, 1, none⟩ = some (.int .i16 a0_1) := (blk_cell BK326.out 1).trans rfl; have hcz42_2 : w37.cell? ⟨gb326, 2, none⟩ = some (.int .i16 a0_2) := (blk_cell BK326.out 2).trans rfl; have hcz42_3 : w37.cell? ⟨gb326, 3, none⟩ = some (.int .i16 a0_3) := (blk_cell BK326.out 3).trans rfl; have hcz42_4 : w37.cell? ⟨gb326, 4, none⟩ = some (.int .i16 a0_4) := (blk_cell BK326.out 4).trans rfl; have hcz42_5 : w37.cell? ⟨gb326, 5, none⟩ = some (.bool a0_5) := (blk_cell BK326.out 5).trans rfl; have hfz42_0 := blk_frozen BK326.out 0; have hfz42_1 := blk_frozen BK326.out 1; have hfz42_2 := blk_frozen BK326.out 2; have hfz42_3 := blk_frozen BK326.out 3; have hfz42_4 := blk_frozen BK326.out 4; have hfz42_5 := blk_frozen BK326.out 5; have hcz43_0 : w37.cell? ⟨gb327, 0, none⟩ = some (.int .i16 a1_0) := (blk_cell BK327.out 0).trans rfl; have hcz43_1 : w37.cell? ⟨gb327, 1, none⟩ = some (.int .i16 a1_1) := (blk_cell BK327.out 1).trans rfl; have hcz43_2 : w37.cell? ⟨gb327, 2, none⟩ = some (.int .i16 a1_2) := (blk_cell BK327.out 2).trans rfl; have hcz43_3 : w37.cell? ⟨gb327, 3, none⟩ = some (.int .i16 a1_3) := (blk_cell BK327.out 3).trans rfl; have hfz43_0 := blk_frozen BK327.out 0; have hfz43_1 := blk_frozen BK327.out 1; have hfz43_2 := blk_frozen BK327.out 2; have hfz43_3 := blk_frozen BK327.out 3) | ((with_reducible refine gate_callee (f := 87) rfl ?_); refine goesL_ (some 39) rfl rfl Try.func87 (by kernel_rfl) rfl #[.agg #[.slice A0_0 l0_0.length c0_0, .int .i16 a0_1, .int .i16 a0_2, .int .i16 a0_3, .int .i16 a0_4, .bool a0_5], .agg #[.int .i16 a1_0, .int .i16 a1_1, .int .i16 a1_2, .int .i16 a1_3], .agg #[.int .i8 x6_1, .int .i8 (IntKind.i8.wrap (x20_2)), .int .i8 (IntKind.i8.wrap (x26_3))]] rfl arg_ ?_; (with_reducible refine (impl_Puzzle_moved.calls k3 _ _ l0_0 a0_1 a0_2 a0_3 a0_4 a0_5 a1_0 a1_1 a1_2 a1_3 x6_1 (IntKind.i8.wrap (x20_2)) (IntKind.i8.wrap (x26_3)) t332 t333 t334 t335 true _ ?side1 ?side2 A14.out).mono ?_); (case side1 => exact Kd.C_below HR0_0.out (bs_ HB GE331)); (case side2 => exact HC0_0.out); rintro e w44 ⟨rfl, hb⟩; refine ⟨_, rfl, ?_⟩; have n0_ := A_ (Kd.R_below (by (with_reducible repeat (first | apply Kd.R_alloc | apply Kd.R_drewN | apply Kd.R_drew)); exact (Kd.R_mono (Kd.R_far (p := ⟨gb331, 2, none⟩) (Kd.R_far (p := ⟨gb331, 1, none⟩) (Kd.R_far (p := ⟨gb331, 0, none⟩) (Kd.R_mono HO_5.out (fun k_ hk => (⟨hk, hk.2⟩ : _ ∧ k_ ≠ gb331))) (fun _ hk => hk.2) (.int .i8 x6_1)) (fun _ hk => hk.2) (.int .i8 (IntKind.i8.wrap (x20_2)))) (fun _ hk => hk.2) (.int .i8 (IntKind.i8.wrap (x26_3)))) (fun _ h_ => h_.1))) hb); have n1_ := A_ (blk_below (g := gb326) (o := .cells #[.slice A0_0 l0_0.length c0_0, .int .i16 a0_1, .int .i16 a0_2, .int .i16 a0_3, .int .i16 a0_4, .bool a0_5] 32 (0, 0)) (pf_ BK326 NB326_331) hb); have n2_ := A_ (blk_below (g := gb327) (o := .cells #[.int .i16 a1_0, .int .i16 a1_1, .int .i16 a1_2, .int .i16 a1_3] 30 (0, 0)) (pf_ BK327 NB327_331) hb); have n3_ := A_ (blk_below (g := gb331) (o := .cells #[.int .i8 x6_1, .int .i8 (IntKind.i8.wrap (x20_2)), .int .i8 (IntKind.i8.wrap (x26_3))] 60 (0, 0)) (by (with_reducible repeat (first | refine blk_drewN ?_ _ | refine blk_drew ?_ | refine blk_alloc ?_ _)); refine blk_put (cs := #[.int .i8 x6_1, .int .i8 (IntKind.i8.wrap (x20_2)), .int .i8 0]) ?_ 2 _ rfl; (with_reducible repeat (first | refine blk_drewN ?_ _ | refine blk_drew ?_ | refine blk_alloc ?_ _)); refine blk_put (cs := #[.int .i8 x6_1, .int .i8 0, .int .i8 0]) ?_ 1 _ rfl; (with_reducible repeat (first | refine blk_drewN ?_ _ | refine blk_drew ?_ | refine blk_alloc ?_ _)); refine blk_put (cs := #[.int .i8 0, .int .i8 0, .int .i8 0]) ?_ 0 _ rfl; (with_reducible repeat (first | refine blk_drewN ?_ _ | refine blk_drew ?_ | refine blk_alloc ?_ _)); exact BK331.out) hb); have n4_ := A_ (below_step (bs_ HB GE331) hb); clear HO_5; clear BK326; clear BK327; clear BK331; clear HB; have HO_5 := n0_; have BK326 := n1_; have BK327 := n2_; have BK331 := n3_; have HB := n4_; clear n0_ n1_ n2_ n3_ n4_; (try clear hb); (try clear hb2); (try clear hk); (try clear hi)) | ((with_reducible refine gate_dst (N := 10) rfl ?_); refine box_event ?hg (N := 10) ?hd (cs := #[.int .i16 0, .int .i16 0, .int .i16 0, .int .i16 0]) (t := 30) ?hr ?_; (case hd => rfl); (case hg => rfl); (case hr => first | (go_simp; done) | (go_simp; rfl)); intro gb337 hg w45 hbox hb; have n0_ := A_ (Kd.R_below (pr_ HO_5) hb); have n1_ := A_ (blk_below (pl_ BK326) hb); have n2_ := A_ (blk_below (pl_ BK327) hb); have n3_ := A_ (blk_below (pl_ BK331) hb); have n4_ := A_ (below_step (bl_ HB) hb); have n5_ := A_ (hbox); have n6_ := A_ ((by rw [hg]; exact (below_size (bl_ HB)) : w.heap.size ≤ gb337)); have n7_ := n6_; have n8_ := A_ ((by rw [hg]; exact Nat.ne_of_lt (blk_lt (pl_ BK326)) : gb326 ≠ gb337)); have n9_ := Aside0.mk n8_.out.symm; have n10_ := A_ ((by rw [hg]; exact Nat.ne_of_lt (blk_lt (pl_ BK327)) : gb327 ≠ gb337)); have n11_ := Aside0.mk n10_.out.symm; have n12_ := A_ ((by rw [hg]; exact Nat.ne_of_lt (blk_lt (pl_ BK331)) : gb331 ≠ gb337)); have n13_ := Aside0.mk n12_.out.symm; clear HO_5; clear BK326; clear BK327; clear BK331; clear HB; have HO_5 := n0_; have BK326 := n1_; have BK327 := n2_; have BK331 := n3_; have HB := n4_; have BK337 := n5_; have GW337 := n6_; have GE337 := n7_; have NB326_337 := n8_; have NB337_326 := n9_; have NB327_337 := n10_; have NB337_327 := n11_; have NB331_337 := n12_; have NB337_331 := n13_; clear n0_ n1_ n2_ n3_ n4_ n5_ n6_ n7_ n8_ n9_ n10_ n11_ n12_ n13_; clear hb hbox hg; have hnb46 := NB337_326.out; have hnc46 := NB326_337.out; have hnb47 := NB337_327.out; have hnc47 := NB327_337.out; have hnb48 := NB337_331.out; have hnc48 := NB331_337.out; have hcz49_0 : w45.cell? ⟨gb337, 0, none⟩ = some (.int .i16 0) := (blk_cell BK337.out 0).trans rfl; have hcz49_1 : w45.cell? ⟨gb337, 1, none⟩ = some (.int .i16 0) := (blk_cell BK337.out 1).trans rfl; have hcz49_2 : w45.cell? ⟨gb337, 2, none⟩ = some (.int .i16 0) := (blk_cell BK337.out 2).trans rfl; have hcz49_3 : w45.cell? ⟨gb337, 3, none⟩ = some (.int .i16 0) := (blk_cell BK337.out 3).trans rfl; have hfz49_0 := blk_frozen BK337.out 0; have hfz49_1 := blk_frozen BK337.out 1; have hfz49_2 := blk_frozen BK337.out 2; have hfz49_3 := blk_frozen BK337.out 3; have hcz50_0 : w45.cell? ⟨gb326, 0, none⟩ = some (.slice A0_0 l0_0.length c0_0) := (blk_cell BK326.out 0).trans rfl; have hcz50_1 : w45.cell? ⟨gb326, 1, none⟩ = some (.int .i16 a0_1) := (blk_cell BK326.out 1).trans rfl; have hcz50_2 : w45.cell? ⟨gb326, 2, none⟩ = some (.int .i16 a0_2) := (blk_cell BK326.out 2).trans rfl; have hcz50_3 : w45.cell? ⟨gb326, 3, none⟩ = some (.int .i16 a0_3) := (blk_cell BK326.out 3).trans rfl; have hcz50_4 : w45.cell? ⟨gb326, 4, none⟩ = some (.int .i16 a0_4) := (blk_cell BK326.out 4).trans rfl; have hcz50_5 : w45.cell? ⟨gb326, 5, none⟩ = some (.bool a0_5) := (blk_cell BK326.out 5).trans rfl; have hfz50_0 := blk_frozen BK326.out 0; have hfz50_1 := blk_frozen BK326.out 1; have hfz50_2 := blk_frozen BK326.out 2; have hfz50_3 := blk_frozen BK326.out 3; have hfz50_4 := blk_frozen BK326.out 4; have hfz50_5 := blk_frozen BK326.out 5; have hcz51_0 : w45.cell? ⟨gb331, 0, none⟩ = some (.int .i8 x6_1) := (blk_cell BK331.out 0).trans rfl; have hcz51_1 : w45.cell? ⟨gb331, 1, none⟩ = some (.int .i8 (IntKind.i8.wrap (x20_2))) := (blk_cell BK331.out 1).trans rfl; have hcz51_2 : w45.cell? ⟨gb331, 2, none⟩ = some (.int .i8 (IntKind.i8.wrap (x26_3))) := (blk_cell BK331.out 2).trans rfl; have hfz51_0 := blk_frozen BK331.out 0; have hfz51_1 := blk_frozen BK331.out 1; have hfz51_2 := blk_frozen BK331.out 2) | (go_at_call 86; (with_reducible refine (impl_Puzzle_isMove.calls _ _ l0_0 a0_1 a0_2 a0_3 a0_4 a0_5 x6_1 (IntKind.i8.wrap (x20_2)) (IntKind.i8.wrap (x26_3)) false _ ?side1 ?side2 A16.out).mono ?_); (case side1 => exact Kd.C_below HR0_0.out (bs_ HB GE337)); (case side2 => exact HC0_0.out); rintro e w52 ⟨rfl, hb⟩; have n0_ := A_ (Kd.R_below (by (with_reducible repeat (first | apply Kd.R_alloc | apply Kd.R_drewN | apply Kd.R_drew)); exact (rf4_ HO_5 BK337 (by decide))) hb); have n1_ := A_ (blk_below (g := gb326) (o := .cells #[.slice A0_0 l0_0.length c0_0, .int .i16 a0_1, .int .i16 a0_2, .int .i16 a0_3, .int .i16 a0_4, .bool a0_5] 32 (0, 0)) (pf_ BK326 NB326_337) hb); have n2_ := A_ (blk_below (g := gb327) (o := .cells #[.int .i16 a1_0, .int .i16 a1_1, .int .i16 a1_2, .int .i16 a1_3] 30 (0, 0)) (pf_ BK327 NB327_337) hb); have n3_ := A_ (blk_below (g := gb331) (o := .cells #[.int .i8 x6_1, .int .i8 (IntKind.i8.wrap (x20_2)), .int .i8 (IntKind.i8.wrap (x26_3))] 60 (0, 0)) (pf_ BK331 NB331_337) hb); have n4_ := A_ (blk_below (g := gb337) (o := .cells #[.int .i16 t332, .int .i16 t333, .int .i16 t334, .int .i16 t335] 30 (0, 0)) (by (with_reducible repeat (first | refine blk_drewN ?_ _ | refine blk_drew ?_ | refine blk_alloc ?_ _)); refine blk_put (cs := #[.int .i16 t332, .int .i16 t333, .int .i16 t334, .int .i16 0]) ?_ 3 _ rfl; (with_reducible repeat (first | refine blk_drewN ?_ _ | refine blk_drew ?_ | refine blk_alloc ?_ _)); refine blk_put (cs := #[.int .i16 t332, .int .i16 t333, .int .i16 0, .int .i16 0]) ?_ 2 _ rfl; (with_reducible repeat (first | refine blk_drewN ?_ _ | refine blk_drew ?_ | refine blk_alloc ?_ _)); refine blk_put (cs := #[.int .i16 t332, .int .i16 0, .int .i16 0, .int .i16 0]) ?_ 1 _ rfl; (with_reducible repeat (first | refine blk_drewN ?_ _ | refine blk_drew ?_ | refine blk_alloc ?_ _)); refine blk_put (cs := #[.int .i16 0, .int .i16 0, .int .i16 0, .int .i16 0]) ?_ 0 _ rfl; (with_reducible repeat (first | refine blk_drewN ?_ _ | refine blk_drew ?_ | refine blk_alloc ?_ _)); exact BK337.out) hb); have n5_ := A_ (below_step (bs_ HB GE337) hb); clear HO_5; clear BK326; clear BK327; clear BK331; clear BK337; clear HB; have HO_5 := n0_; have BK326 := n1_; have BK327 := n2_; have BK331 := n3_; have BK337 := n4_; have HB := n5_; clear n0_ n1_ n2_ n3_ n4_ n5_; (try clear hb); (try clear hb2); (try clear hk); (try clear hi)))
            go_roundg k3
            case measure => have := HK1.out; have := HK2.out; have := HK3.out; omega
            case rel => exact ⟨(x5_3), (wrap64 (x26_3 + 1)), rs_, H', ⟨by have := HK1.out; have := HK2.out; have := HK3.out; omega⟩, ⟨by (with_reducible repeat (first | apply Kd.R_alloc | apply Kd.R_drewN | apply Kd.R_drew)); exact Kd.R_mono HO_5.out (fun _ hk => trivial)⟩, ⟨pl_ BK326⟩, ⟨pl_ BK327⟩, ⟨bl_ HB⟩⟩
          ·replace c15 := Bool.eq_false_iff.mpr c15
           subst c15
           have H1 : (impl_Puzzle_moves.l2 k3 x5_3 x6_1 x20_2 (l0_0.length : Int) x20_2 (l0_0.length : Int) (wrap64 (x26_3 + 1)) l0_0 a0_1 a0_2 a0_3 a0_4 a0_5 a1_0 a1_1 a1_2 a1_3) = some r := by rw [if_neg (show ¬ (false = true) by decide)] at H; exact H
           clear H
           have H := H1
           clear H1
           have H' := Aside0.mk H
           clear H
           go_wp2_with (first | ((with_reducible refine gate_dst (N := 9) rfl ?_); refine box_event ?hg (N := 9) ?hd (cs := #[.int .i8 0, .int .i8 0, .int .i8 0]) (t := 60) ?hr ?_; (case hd => rfl); (case hg => rfl); (case hr => first | (go_simp; done) | (go_simp; rfl)); intro gb331 hg w53 hbox hb; have n0_ := A_ (Kd.R_below (Kd.R_elderB (pr_ HO_5) gb331 (Nat.le_of_eq hg.symm)) hb); have n1_ := A_ (blk_below (pl_ BK326) hb); have n2_ := A_ (blk_below (pl_ BK327) hb); have n3_ := A_ (below_step (bl_ HB) hb); have n4_ := A_ (hbox); have n5_ := A_ ((by rw [hg]; exact (below_size (bl_ HB)) : w.heap.size ≤ gb331)); have n6_ := n5_; have n7_ := A_ ((by rw [hg]; exact Nat.ne_of_lt (blk_lt (pl_ BK326)) : gb326 ≠ gb331)); have n8_ := Aside0.mk n7_.out.symm; have n9_ := A_ ((by rw [hg]; exact Nat.ne_of_lt (blk_lt (pl_ BK327)) : gb327 ≠ gb331)); have n10_ := Aside0.mk n9_.out.symm; clear HO_5; clear BK326; clear BK327; clear HB; have HO_5 := n0_; have BK326 := n1_; have BK327 := n2_; have HB := n3_; have BK331 := n4_; have GW331 := n5_; have GE331 := n6_; have NB326_331 := n7_; have NB331_326 := n8_; have NB327_331 := n9_; have NB331_327 := n10_; clear n0_ n1_ n2_ n3_ n4_ n5_ n6_ n7_ n8_ n9_ n10_; clear hb hbox hg; have hnb54 := NB331_326.out; have hnc54 := NB326_331.out; have hnb55 := NB331_327.out; have hnc55 := NB327_331.out; have hcz56_0 : w53.cell? ⟨gb331, 0, none⟩ = some (.int .i8 0) := (blk_cell BK331.out 0).trans rfl; have hcz56_1 : w53.cell? ⟨gb331, 1, none⟩ = some (.int .i8 0) := (blk_cell BK331.out 1).trans rfl; have hcz56_2 : w53.cell? ⟨gb331, 2, none⟩ = some (.int .i8 0) := (blk_cell BK331.out 2).trans rfl; have hfz56_0 := blk_frozen BK331.out 0; have hfz56_1 := blk_frozen BK331.out 1; have hfz56_2 := blk_frozen BK331.out 2; have hnb57 := NB326_327.out; have hnc57 := NB327_326.out; have hcz58_0 : w53.cell? ⟨gb326, 0, none⟩ = some (.slice A0_0 l0_0.length c0_0) := (blk_cell BK326.out 0).trans rfl; have hcz58_1 : w53.cell? ⟨gb326, 1, none⟩ = some (.int .i16 a0_1) := (blk_cell BK326.out 1).trans rfl; have hcz58_2 : w53.cell? ⟨gb326, 2, none⟩ = some (.int .i16 a0_2) := (blk_cell BK326.out 2).trans rfl; have hcz58_3 : w53.cell? ⟨gb326, 3, none⟩ = some (.int .i16 a0_3) := (blk_cell BK326.out 3).trans rfl; have hcz58_4 : w53.cell? ⟨gb326, 4, none⟩ = some (.int .i16 a0_4) := (blk_cell BK326.out 4).trans rfl; have hcz58_5 : w53.cell? ⟨gb326, 5, none⟩ = some (.bool a0_5) := (blk_cell BK326.out 5).trans rfl; have hfz58_0 := blk_frozen BK326.out 0; have hfz58_1 := blk_frozen BK326.out 1; have hfz58_2 := blk_frozen BK326.out 2; have hfz58_3 := blk_frozen BK326.out 3; have hfz58_4 := blk_frozen BK326.out 4; have hfz58_5 := blk_frozen BK326.out 5; have hcz59_0 : w53.cell? ⟨gb327, 0, none⟩ = some (.int .i16 a1_0) := (blk_cell BK327.out 0).trans rfl; have hcz59_1 : w53.cell? ⟨gb327, 1, none⟩ = some (.int .i16 a1_1) := (blk_cell BK327.out 1).trans rfl; have hcz59_2 : w53.cell? ⟨gb327, 2, none⟩ = some (.int .i16 a1_2) := (blk_cell BK327.out 2).trans rfl; have hcz59_3 : w53.cell? ⟨gb327, 3, none⟩ = some (.int .i16 a1_3) := (blk_cell BK327.out 3).trans rfl; have hfz59_0 := blk_frozen BK327.out 0; have hfz59_1 := blk_frozen BK327.out 1; have hfz59_2 := blk_frozen BK327.out 2; have hfz59_3 := blk_frozen BK327.out 3) | ((with_reducible refine gate_callee (f := 87) rfl ?_); refine goesL_ (some 39) rfl rfl Try.func87 (by kernel_rfl) rfl #[.agg #[.slice A0_0 l0_0.length c0_0, .int .i16 a0_1, .int .i16 a0_2, .int .i16 a0_3, .int .i16 a0_4, .bool a0_5], .agg #[.int .i16 a1_0, .int .i16 a1_1, .int .i16 a1_2, .int .i16 a1_3], .agg #[.int .i8 x6_1, .int .i8 (IntKind.i8.wrap (x20_2)), .int .i8 (IntKind.i8.wrap (x26_3))]] rfl arg_ ?_; (with_reducible refine (impl_Puzzle_moved.calls k3 _ _ l0_0 a0_1 a0_2 a0_3 a0_4 a0_5 a1_0 a1_1 a1_2 a1_3 x6_1 (IntKind.i8.wrap (x20_2)) (IntKind.i8.wrap (x26_3)) t332 t333 t334 t335 false _ ?side1 ?side2 A14.out).mono ?_); (case side1 => exact Kd.C_below HR0_0.out (bs_ HB GE331)); (case side2 => exact HC0_0.out); rintro e w60 ⟨rfl, hb⟩; refine ⟨_, rfl, ?_⟩; have n0_ := A_ (Kd.R_below (by (with_reducible repeat (first | apply Kd.R_alloc | apply Kd.R_drewN | apply Kd.R_drew)); exact (Kd.R_mono (Kd.R_far (p := ⟨gb331, 2, none⟩) (Kd.R_far (p := ⟨gb331, 1, none⟩) (Kd.R_far (p := ⟨gb331, 0, none⟩) (Kd.R_mono HO_5.out (fun k_ hk => (⟨hk, hk.2⟩ : _ ∧ k_ ≠ gb331))) (fun _ hk => hk.2) (.int .i8 x6_1)) (fun _ hk => hk.2) (.int .i8 (IntKind.i8.wrap (x20_2)))) (fun _ hk => hk.2) (.int .i8 (IntKind.i8.wrap (x26_3)))) (fun _ h_ => h_.1))) hb); have n1_ := A_ (blk_below (g := gb326) (o := .cells #[.slice A0_0 l0_0.length c0_0, .int .i16 a0_1, .int .i16 a0_2, .int .i16 a0_3, .int .i16 a0_4, .bool a0_5] 32 (0, 0)) (pf_ BK326 NB326_331) hb); have n2_ := A_ (blk_below (g := gb327) (o := .cells #[.int .i16 a1_0, .int .i16 a1_1, .int .i16 a1_2, .int .i16 a1_3] 30 (0, 0)) (pf_ BK327 NB327_331) hb); have n3_ := A_ (blk_below (g := gb331) (o := .cells #[.int .i8 x6_1, .int .i8 (IntKind.i8.wrap (x20_2)), .int .i8 (IntKind.i8.wrap (x26_3))] 60 (0, 0)) (by (with_reducible repeat (first | refine blk_drewN ?_ _ | refine blk_drew ?_ | refine blk_alloc ?_ _)); refine blk_put (cs := #[.int .i8 x6_1, .int .i8 (IntKind.i8.wrap (x20_2)), .int .i8 0]) ?_ 2 _ rfl; (with_reducible repeat (first | refine blk_drewN ?_ _ | refine blk_drew ?_ | refine blk_alloc ?_ _)); refine blk_put (cs := #[.int .i8 x6_1, .int .i8 0, .int .i8 0]) ?_ 1 _ rfl; (with_reducible repeat (first | refine blk_drewN ?_ _ | refine blk_drew ?_ | refine blk_alloc ?_ _)); refine blk_put (cs := #[.int .i8 0, .int .i8 0, .int .i8 0]) ?_ 0 _ rfl; (with_reducible repeat (first | refine blk_drewN ?_ _ | refine blk_drew ?_ | refine blk_alloc ?_ _)); exact BK331.out) hb); have n4_ := A_ (below_step (bs_ HB GE331) hb); clear HO_5; clear BK326; clear BK327; clear BK331; clear HB; have HO_5 := n0_; have BK326 := n1_; have BK327 := n2_; have BK331 := n3_; have HB := n4_; clear n0_ n1_ n2_ n3_ n4_; (try clear hb); (try clear hb2); (try clear hk); (try clear hi)) | ((with_reducible refine gate_dst (N := 10) rfl ?_); refine box_event ?hg (N := 10) ?hd (cs := #[.int .i16 0, .int .i16 0, .int .i16 0, .int .i16 0]) (t := 30) ?hr ?_; (case hd => rfl); (case hg => rfl); (case hr => first | (go_simp; done) | (go_simp; rfl)); intro gb337 hg w61 hbox hb; have n0_ := A_ (Kd.R_below (pr_ HO_5) hb); have n1_ := A_ (blk_below (pl_ BK326) hb); have n2_ := A_ (blk_below (pl_ BK327) hb); have n3_ := A_ (blk_below (pl_ BK331) hb); have n4_ := A_ (below_step (bl_ HB) hb); have n5_ := A_ (hbox); have n6_ := A_ ((by rw [hg]; exact (below_size (bl_ HB)) : w.heap.size ≤ gb337)); have n7_ := n6_; have n8_ := A_ ((by rw [hg]; exact Nat.ne_of_lt (blk_lt (pl_ BK326)) : gb326 ≠ gb337)); have n9_ := Aside0.mk n8_.out.symm; have n10_ := A_ ((by rw [hg]; exact Nat.ne_of_lt (blk_lt (pl_ BK327)) : gb327 ≠ gb337)); have n11_ := Aside0.mk n10_.out.symm; have n12_ := A_ ((by rw [hg]; exact Nat.ne_of_lt (blk_lt (pl_ BK331)) : gb331 ≠ gb337)); have n13_ := Aside0.mk n12_.out.symm; clear HO_5; clear BK326; clear BK327; clear BK331; clear HB; have HO_5 := n0_; have BK326 := n1_; have BK327 := n2_; have BK331 := n3_; have HB := n4_; have BK337 := n5_; have GW337 := n6_; have GE337 := n7_; have NB326_337 := n8_; have NB337_326 := n9_; have NB327_337 := n10_; have NB337_327 := n11_; have NB331_337 := n12_; have NB337_331 := n13_; clear n0_ n1_ n2_ n3_ n4_ n5_ n6_ n7_ n8_ n9_ n10_ n11_ n12_ n13_; clear hb hbox hg; have hnb62 := NB337_326.out; have hnc62 := NB326_337.out; have hnb63 := NB337_327.out; have hnc63 := NB327_337.out; have hnb64 := NB337_331.out; have hnc64 := NB331_337.out; have hcz65_0 : w61.cell? ⟨gb337, 0, none⟩ = some (.int .i16 0) := (blk_cell BK337.out 0).trans rfl; have hcz65_1 : w61.cell? ⟨gb337, 1, none⟩ = some (.int .i16 0) := (blk_cell BK337.out 1).trans rfl; have hcz65_2 : w61.cell? ⟨gb337, 2, none⟩ = some (.int .i16 0) := (blk_cell BK337.out 2).trans rfl; have hcz65_3 : w61.cell? ⟨gb337, 3, none⟩ = some (.int .i16 0) := (blk_cell BK337.out 3).trans rfl; have hfz65_0 := blk_frozen BK337.out 0; have hfz65_1 := blk_frozen BK337.out 1; have hfz65_2 := blk_frozen BK337.out 2; have hfz65_3 := blk_frozen BK337.out 3))
           go_roundg k3
           case measure => have := HK1.out; have := HK2.out; have := HK3.out; omega
           case rel => exact ⟨(x5_3), (wrap64 (x26_3 + 1)), rs_, H', ⟨by have := HK1.out; have := HK2.out; have := HK3.out; omega⟩, ⟨by (with_reducible repeat (first | apply Kd.R_alloc | apply Kd.R_drewN | apply Kd.R_drew)); exact Kd.R_mono (Kd.R_far (p := ⟨gb337, 3, none⟩) (Kd.R_far (p := ⟨gb337, 2, none⟩) (Kd.R_far (p := ⟨gb337, 1, none⟩) (Kd.R_far (p := ⟨gb337, 0, none⟩) (Kd.R_types HO_5.out BK337.out (by decide)) (fun _ hk => hk.2) (.int .i16 t332)) (fun _ hk => hk.2) (.int .i16 t333)) (fun _ hk => hk.2) (.int .i16 t334)) (fun _ hk => hk.2) (.int .i16 t335)) (fun _ hk => trivial)⟩, ⟨pf_ BK326 NB326_337⟩, ⟨pf_ BK327 NB327_337⟩, ⟨bs_ HB GE337⟩⟩
         ·rw [if_neg c13] at H
          have c13b0 : decide (x26_3 < (l0_0.length : Int)) = false := decide_eq_false c13
          clear c13
          have H' := Aside0.mk H
          clear H
          go_wp2
          go_roundg k3
          case measure => have := HK1.out; have := HK2.out; have := HK3.out; omega
          case rel => exact ⟨(x5_3), (wrap64 (x20_2 + 1)), rs_, H', ⟨by have := HK1.out; have := HK2.out; have := HK3.out; omega⟩, ⟨pr_ HO_5⟩, ⟨pl_ BK326⟩, ⟨pl_ BK327⟩, ⟨bl_ HB⟩⟩
      ·rw [if_neg c10] at H
       have c10b0 : decide (x20_2 < (l0_0.length : Int)) = false := decide_eq_false c10
       clear c10
       have H' := Aside0.mk H
       clear H
       go_wp2
       go_roundg k2
       case measure => have := HK1.out; have := HK2.out; omega
       case rel => exact ⟨(x5_2), (IntKind.i8.wrap (x6_1 + 1)), rs_, H', ⟨by have := HK1.out; have := HK2.out; omega⟩, ⟨pr_ HO_5⟩, ⟨pl_ BK326⟩, ⟨pl_ BK327⟩, ⟨bl_ HB⟩⟩
   ·rw [if_neg c7] at H
    have c7b0 : decide (x6_1 ≤ 2) = false := decide_eq_false c7
    clear c7
    obtain rfl := Option.some.inj H
    go_wp2
    go_ret
    exact ⟨_, by first | rfl | (simp [errW_none, errW_some] <;> rfl) | (simp [*, errW_none, errW_some] <;> rfl), pr_ HO_5, bl_ HB⟩

end Go.Proofs.Ytodmfjophjhbeaa.M
