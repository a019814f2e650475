-- By this seat's own program over the kit's printer (arrays, functions told by hand); nothing of it is trusted: the kernel checks it.
import Derived.Test.YtodmfjophjhbeaaMx0
import Derived.Test.YtodmfjophjhbeaaMx15
import Derived.Test.YtodmfjophjhbeaaMx16
namespace Go.Proofs.Ytodmfjophjhbeaa.M
open Go.RowKit Go.Proofs.YtodmfjophjhbeaaW.PrintWords Go.Proofs.YtodmfjophjhbeaaW.PrintLast Go.Proofs.YtodmfjophjhbeaaW.PrintMore
attribute [local go_sem] max2_int min2_int max_two min_two max_three min_three max_four min_four   -- for this text's walks alone
set_option linter.unusedVariables false
set_option linter.unusedSimpArgs false

/-! ### impl_Puzzle_moves: function 89 -/
mutual
def impl_Puzzle_moves.l0 : Nat → List (S60) → Int → List Int → Int → Int → Int → Int → Bool → Int → Int → Int → Int → Option ((List (S60)))
 | 0, _, _, _, _, _, _, _, _, _, _, _, _ => none
 | k + 1, x5, x6, x219000, x219001, x219002, x219003, x219004, x219005, x220000, x220001, x220002, x220003 => if x6 ≤ 2 then (impl_Puzzle_moves.l1 k x5 x6 (x219000.length : Int) 0 x219000 x219001 x219002 x219003 x219004 x219005 x220000 x220001 x220002 x220003) else (some x5)
def impl_Puzzle_moves.l1 : Nat → List (S60) → Int → Int → Int → List Int → Int → Int → Int → Int → Bool → Int → Int → Int → Int → Option ((List (S60)))
 | 0, _, _, _, _, _, _, _, _, _, _, _, _, _, _ => none
 | k + 1, x5, x6, x19, x20, x219000, x219001, x219002, x219003, x219004, x219005, x220000, x220001, x220002, x220003 => if x20 < x19 then (impl_Puzzle_moves.l2 k x5 x6 x20 x19 x20 (x219000.length : Int) 0 x219000 x219001 x219002 x219003 x219004 x219005 x220000 x220001 x220002 x220003) else (impl_Puzzle_moves.l0 k x5 (IntKind.i8.wrap (x6 + 1)) x219000 x219001 x219002 x219003 x219004 x219005 x220000 x220001 x220002 x220003)
def impl_Puzzle_moves.l2 : Nat → List (S60) → Int → Int → Int → Int → Int → Int → List Int → Int → Int → Int → Int → Bool → Int → Int → Int → Int → Option ((List (S60)))
 | 0, _, _, _, _, _, _, _, _, _, _, _, _, _, _, _, _, _ => none
 | k + 1, x5, x6, x7, x19, x20, x25, x26, x219000, x219001, x219002, x219003, x219004, x219005, x220000, x220001, x220002, x220003 => if x26 < x25 then ((impl_Puzzle_moved.f k x219000 x219001 x219002 x219003 x219004 x219005 x220000 x220001 x220002 x220003 x6 (IntKind.i8.wrap (x7)) (IntKind.i8.wrap (x26))).bind fun bt224 => (if bt224.2.2.2.2 = true then ((impl_Puzzle_isMove.f x219000 x219001 x219002 x219003 x219004 x219005 x6 (IntKind.i8.wrap (x7)) (IntKind.i8.wrap (x26))).bind fun t230 => (if t230 = true then (if x5.length < 46912496118442 then (impl_Puzzle_moves.l2 k (x5 ++ [(⟨x6, IntKind.i8.wrap (x7), IntKind.i8.wrap (x26)⟩ : S60)]) x6 x7 x19 x20 x25 (wrap64 (x26 + 1)) x219000 x219001 x219002 x219003 x219004 x219005 x220000 x220001 x220002 x220003) else (none)) else (impl_Puzzle_moves.l2 k x5 x6 x7 x19 x20 x25 (wrap64 (x26 + 1)) x219000 x219001 x219002 x219003 x219004 x219005 x220000 x220001 x220002 x220003))) else (impl_Puzzle_moves.l2 k x5 x6 x7 x19 x20 x25 (wrap64 (x26 + 1)) x219000 x219001 x219002 x219003 x219004 x219005 x220000 x220001 x220002 x220003))) else (impl_Puzzle_moves.l1 k x5 x6 x19 (wrap64 (x20 + 1)) x219000 x219001 x219002 x219003 x219004 x219005 x220000 x220001 x220002 x220003)
end
def impl_Puzzle_moves.f (k : Nat) (l0_0 : List Int) (a0_1 : Int) (a0_2 : Int) (a0_3 : Int) (a0_4 : Int) (a0_5 : Bool) (a1_0 : Int) (a1_1 : Int) (a1_2 : Int) (a1_3 : Int) : Option ((List (S60))) := impl_Puzzle_moves.l0 k (([] : List (S60))) 0 l0_0 a0_1 a0_2 a0_3 a0_4 a0_5 a1_0 a1_1 a1_2 a1_3
theorem impl_Puzzle_moves.mono_l : ∀ k, (∀ y0 y1 y2 y3 y4 y5 y6 y7 y8 y9 y10 y11, LeO (impl_Puzzle_moves.l0 k y0 y1 y2 y3 y4 y5 y6 y7 y8 y9 y10 y11) (impl_Puzzle_moves.l0 (k + 1) y0 y1 y2 y3 y4 y5 y6 y7 y8 y9 y10 y11)) ∧ (∀ y0 y1 y2 y3 y4 y5 y6 y7 y8 y9 y10 y11 y12 y13, LeO (impl_Puzzle_moves.l1 k y0 y1 y2 y3 y4 y5 y6 y7 y8 y9 y10 y11 y12 y13) (impl_Puzzle_moves.l1 (k + 1) y0 y1 y2 y3 y4 y5 y6 y7 y8 y9 y10 y11 y12 y13)) ∧ (∀ y0 y1 y2 y3 y4 y5 y6 y7 y8 y9 y10 y11 y12 y13 y14 y15 y16, LeO (impl_Puzzle_moves.l2 k y0 y1 y2 y3 y4 y5 y6 y7 y8 y9 y10 y11 y12 y13 y14 y15 y16) (impl_Puzzle_moves.l2 (k + 1) y0 y1 y2 y3 y4 y5 y6 y7 y8 y9 y10 y11 y12 y13 y14 y15 y16))
 | 0 => ⟨fun _ _ _ _ _ _ _ _ _ _ _ _ r h => by simp [impl_Puzzle_moves.l0] at h, fun _ _ _ _ _ _ _ _ _ _ _ _ _ _ r h => by simp [impl_Puzzle_moves.l1] at h, fun _ _ _ _ _ _ _ _ _ _ _ _ _ _ _ _ _ r h => by simp [impl_Puzzle_moves.l2] at h⟩
 | k + 1 => by
  obtain ⟨ih0, ih1, ih2⟩ := impl_Puzzle_moves.mono_l k
  refine ⟨?_, ?_, ?_⟩
  ·intro y0 y1 y2 y3 y4 y5 y6 y7 y8 y9 y10 y11
   unfold impl_Puzzle_moves.l0
   repeat' first
   | (with_reducible exact ih0 _ _ _ _ _ _ _ _ _ _ _ _)
   | (with_reducible exact ih1 _ _ _ _ _ _ _ _ _ _ _ _ _ _)
   | (with_reducible exact ih2 _ _ _ _ _ _ _ _ _ _ _ _ _ _ _ _ _)
   | (with_reducible exact impl_Puzzle_moved.mono _ _ _ _ _ _ _ _ _ _ _ _ _ _)
   | (with_reducible exact LeO.refl _)
   | (with_reducible exact LeO.none _)
   | (with_reducible refine LeO.ite ?_ ?_)
   | (with_reducible refine LeO.bind ?_ (fun _ => ?_))
   | exact ih0 _ _ _ _ _ _ _ _ _ _ _ _
   | exact ih1 _ _ _ _ _ _ _ _ _ _ _ _ _ _
   | exact ih2 _ _ _ _ _ _ _ _ _ _ _ _ _ _ _ _ _
   | exact impl_Puzzle_moved.mono _ _ _ _ _ _ _ _ _ _ _ _ _ _
   | exact LeO.none _
   | refine LeO.ite ?_ ?_
   | refine LeO.bind ?_ (fun _ => ?_)
  ·intro y0 y1 y2 y3 y4 y5 y6 y7 y8 y9 y10 y11 y12 y13
   unfold impl_Puzzle_moves.l1
   repeat' first
   | (with_reducible exact ih0 _ _ _ _ _ _ _ _ _ _ _ _)
   | (with_reducible exact ih1 _ _ _ _ _ _ _ _ _ _ _ _ _ _)
   | (with_reducible exact ih2 _ _ _ _ _ _ _ _ _ _ _ _ _ _ _ _ _)
   | (with_reducible exact impl_Puzzle_moved.mono _ _ _ _ _ _ _ _ _ _ _ _ _ _)
   | (with_reducible exact LeO.refl _)
   | (with_reducible exact LeO.none _)
   | (with_reducible refine LeO.ite ?_ ?_)
   | (with_reducible refine LeO.bind ?_ (fun _ => ?_))
   | exact ih0 _ _ _ _ _ _ _ _ _ _ _ _
   | exact ih1 _ _ _ _ _ _ _ _ _ _ _ _ _ _
   | exact ih2 _ _ _ _ _ _ _ _ _ _ _ _ _ _ _ _ _
   | exact impl_Puzzle_moved.mono _ _ _ _ _ _ _ _ _ _ _ _ _ _
   | exact LeO.none _
   | refine LeO.ite ?_ ?_
   | refine LeO.bind ?_ (fun _ => ?_)
  ·intro y0 y1 y2 y3 y4 y5 y6 y7 y8 y9 y10 y11 y12 y13 y14 y15 y16
   unfold impl_Puzzle_moves.l2
   repeat' first
   | (with_reducible exact ih0 _ _ _ _ _ _ _ _ _ _ _ _)
   | (with_reducible exact ih1 _ _ _ _ _ _ _ _ _ _ _ _ _ _)
   | (with_reducible exact ih2 _ _ _ _ _ _ _ _ _ _ _ _ _ _ _ _ _)
   | (with_reducible exact impl_Puzzle_moved.mono _ _ _ _ _ _ _ _ _ _ _ _ _ _)
   | (with_reducible exact LeO.refl _)
   | (with_reducible exact LeO.none _)
   | (with_reducible refine LeO.ite ?_ ?_)
   | (with_reducible refine LeO.bind ?_ (fun _ => ?_))
   | exact ih0 _ _ _ _ _ _ _ _ _ _ _ _
   | exact ih1 _ _ _ _ _ _ _ _ _ _ _ _ _ _
   | exact ih2 _ _ _ _ _ _ _ _ _ _ _ _ _ _ _ _ _
   | exact impl_Puzzle_moved.mono _ _ _ _ _ _ _ _ _ _ _ _ _ _
   | exact LeO.none _
   | refine LeO.ite ?_ ?_
   | refine LeO.bind ?_ (fun _ => ?_)
theorem impl_Puzzle_moves.mono : ∀ a0 a1 a2 a3 a4 a5 a6 a7 a8 a9 k, LeO (impl_Puzzle_moves.f k a0 a1 a2 a3 a4 a5 a6 a7 a8 a9) (impl_Puzzle_moves.f (k + 1) a0 a1 a2 a3 a4 a5 a6 a7 a8 a9) := by
 intro a0 a1 a2 a3 a4 a5 a6 a7 a8 a9 k
 obtain ⟨ih0, ih1, ih2⟩ := impl_Puzzle_moves.mono_l k
 unfold impl_Puzzle_moves.f
 repeat' first
   | (with_reducible exact ih0 _ _ _ _ _ _ _ _ _ _ _ _)
   | (with_reducible exact ih1 _ _ _ _ _ _ _ _ _ _ _ _ _ _)
   | (with_reducible exact ih2 _ _ _ _ _ _ _ _ _ _ _ _ _ _ _ _ _)
   | (with_reducible exact impl_Puzzle_moved.mono _ _ _ _ _ _ _ _ _ _ _ _ _ _)
   | (with_reducible exact LeO.refl _)
   | (with_reducible exact LeO.none _)
   | (with_reducible refine LeO.ite ?_ ?_)
   | (with_reducible refine LeO.bind ?_ (fun _ => ?_))
   | exact ih0 _ _ _ _ _ _ _ _ _ _ _ _
   | exact ih1 _ _ _ _ _ _ _ _ _ _ _ _ _ _
   | exact ih2 _ _ _ _ _ _ _ _ _ _ _ _ _ _ _ _ _
   | exact impl_Puzzle_moved.mono _ _ _ _ _ _ _ _ _ _ _ _ _ _
   | exact LeO.none _
   | refine LeO.ite ?_ ?_
   | refine LeO.bind ?_ (fun _ => ?_)
set_option maxHeartbeats 8000000 in
set_option maxRecDepth 100000 in
theorem impl_Puzzle_moves.calls (k : Nat) (A0_0 : Option Addr) (c0_0 : Nat) (l0_0 : List Int) (a0_1 : Int) (a0_2 : Int) (a0_3 : Int) (a0_4 : Int) (a0_5 : Bool) (a1_0 : Int) (a1_1 : Int) (a1_2 : Int) (a1_3 : Int) (r : List (S60)) (w : World) (hr0_0 : Kd.C (Kd.int .i16) w A0_0 l0_0.length l0_0) (hc0_0 : l0_0.length ≤ c0_0) (h : impl_Puzzle_moves.f k l0_0 a0_1 a0_2 a0_3 a0_4 a0_5 a1_0 a1_1 a1_2 a1_3 = some r) :
  Calls Try.prog 89 #[.agg #[.slice A0_0 l0_0.length c0_0, .int .i16 a0_1, .int .i16 a0_2, .int .i16 a0_3, .int .i16 a0_4, .bool a0_5], .agg #[.int .i16 a1_0, .int .i16 a1_1, .int .i16 a1_2, .int .i16 a1_3]] w fun e w' => ∃ v0_ : Value, e = .returned (v0_) ∧ Kd.R k60 60 w' w.heap.size (fun _ => True) v0_ r ∧ Below w.heap.size w w' := by
 have hu32 := Try.underlying32
 have hu30 := Try.underlying30
 have hu60 := Try.underlying60
 have HR0_0 := Aside0.mk hr0_0
 have HC0_0 := Aside0.mk hc0_0
 clear hr0_0 hc0_0
 have HB := A_ (Below.refl w.heap.size w)
 have H : (impl_Puzzle_moves.l0 k (([] : List (S60))) 0 l0_0 a0_1 a0_2 a0_3 a0_4 a0_5 a1_0 a1_1 a1_2 a1_3) = some r := h
 clear h
 obtain ⟨y220, hy220⟩ : ∃ y_ : List (S60), y_ = (([] : List (S60))) := ⟨_, rfl⟩
 replace H : (impl_Puzzle_moves.l0 k y220 0 l0_0 a0_1 a0_2 a0_3 a0_4 a0_5 a1_0 a1_1 a1_2 a1_3) = some r := by first | (rw [hy220]; with_reducible exact H) | (have H2_ := (Option.bind_some _ _).symm.trans H; rw [hy220]; with_reducible exact H2_) | (have H2_ := (Option.bind_some _ _).symm.trans H; with_reducible exact H2_) | with_reducible exact H | (rw [hy220]; exact H) | exact H
 have Ny220 := Aside0.mk hy220
 clear hy220
 have H' := Aside0.mk H
 clear H
 go_enter Try.func89, Try.ntmps89
 go_wp2_with (first | ((with_reducible refine gate_dst (N := 2) rfl ?_); refine box_event ?hg (N := 2) ?hd (cs := #[.slice A0_0 l0_0.length c0_0, .int .i16 a0_1, .int .i16 a0_2, .int .i16 a0_3, .int .i16 a0_4, .bool a0_5]) (t := 32) ?hr ?_; (case hd => rfl); (case hg => rfl); (case hr => first | (go_simp; done) | (go_simp; rfl)); intro gb218 hg w3 hbox hb; have n0_ := A_ (below_step (bl_ HB) hb); have n1_ := A_ (hbox); have n2_ := A_ ((by rw [hg]; exact (below_size (bl_ HB)) : w.heap.size ≤ gb218)); have n3_ := n2_; clear HB; have HB := n0_; have BK218 := n1_; have GW218 := n2_; have GE218 := n3_; clear n0_ n1_ n2_ n3_; clear hb hbox hg) | ((with_reducible refine gate_dst (N := 3) rfl ?_); refine box_event ?hg (N := 3) ?hd (cs := #[.int .i16 a1_0, .int .i16 a1_1, .int .i16 a1_2, .int .i16 a1_3]) (t := 30) ?hr ?_; (case hd => rfl); (case hg => rfl); (case hr => first | (go_simp; done) | (go_simp; rfl)); intro gb219 hg w4 hbox hb; have n0_ := A_ (blk_below (pl_ BK218) hb); have n1_ := A_ (below_step (bl_ HB) hb); have n2_ := A_ (hbox); have n3_ := A_ ((by rw [hg]; exact (below_size (bl_ HB)) : w.heap.size ≤ gb219)); have n4_ := n3_; have n5_ := A_ ((by rw [hg]; exact Nat.ne_of_lt (blk_lt (pl_ BK218)) : gb218 ≠ gb219)); have n6_ := Aside0.mk n5_.out.symm; clear BK218; clear HB; have BK218 := n0_; have HB := n1_; have BK219 := n2_; have GW219 := n3_; have GE219 := n4_; have NB218_219 := n5_; have NB219_218 := n6_; clear n0_ n1_ n2_ n3_ n4_ n5_ n6_; clear hb hbox hg) | ((with_reducible refine gate_dst (N := 12) rfl ?_); refine Kd.R_lit k60 _ 60 ?hg (N := 12) ?hd (xs := ([] : List (S60))) (inner := []) (ok := fun _ => True) (okp := fun _ => True) ?hr ?hp (fun _ hk => hk) trivial (Below.refl _ _) (Nat.le_refl _) (by simp) ?_; (case hd => rfl); (case hg => rfl); (case hr => first | (go_simp; done) | (go_simp; rfl)); (case hp => exact (Reps.none _ _)); intro v221 w5 ho6 hb hg_ hnew_; clear hg_ hnew_; (first | rw [← Ny220.out] at ho6 | (simp only [Int.reduceToNat] at ho6; rw [← Ny220.out] at ho6)); have n0_ := A_ (Kd.R_lower ho6 (below_size (bl_ HB))); have n1_ := A_ (blk_below (pl_ BK218) hb); have n2_ := A_ (blk_below (pl_ BK219) hb); have n3_ := A_ (below_step (bl_ HB) hb); clear BK218; clear BK219; clear HB; have HO222 := n0_; have BK218 := n1_; have BK219 := n2_; have HB := n3_; clear n0_ n1_ n2_ n3_; clear hb ho6))
 go_loopg [5, 6] k (fun kq v5 v6 w' => ∃ (x5_1 : List (S60)) (x6_1 : Int), v6 = .int .i8 x6_1 ∧ Aside0 (impl_Puzzle_moves.l0 kq x5_1 x6_1 l0_0 a0_1 a0_2 a0_3 a0_4 a0_5 a1_0 a1_1 a1_2 a1_3 = some r) ∧ Aside0 (kq ≤ k) ∧ Aside0 (Kd.R k60 60 w' w.heap.size (fun _ => True) v5 x5_1) ∧ Aside0 (w'.heap[gb218]? = some (.cells #[(.slice A0_0 l0_0.length c0_0), .int .i16 a0_1, .int .i16 a0_2, .int .i16 a0_3, .int .i16 a0_4, .bool a0_5] 32 (0, 0))) ∧ Aside0 (w'.heap[gb219]? = some (.cells #[.int .i16 a1_0, .int .i16 a1_1, .int .i16 a1_2, .int .i16 a1_3] 30 (0, 0))) ∧ Aside0 (Below w.heap.size w w'))
 case atStart => exact ⟨(y220), (0), rs_, H', ⟨Nat.le_refl _⟩, ⟨pr_ HO222⟩, ⟨pl_ BK218⟩, ⟨pl_ BK219⟩, ⟨bl_ HB⟩⟩
 case round =>
  clear H'
  try clear p2
  obtain ⟨x5_1, x6_1, rfl, HA, HK1, HO_5, BK218, BK219, HB⟩ := hrel
  cases gk with
  | zero => exact absurd HA.out (by simp [impl_Puzzle_moves.l0])
  | succ k1 =>
   have H := HA.out
   clear HA
   simp only [impl_Puzzle_moves.l0] at H
   by_cases c7 : x6_1 ≤ 2
   ·rw [if_pos c7] at H
    have c7b0 : decide (x6_1 ≤ 2) = true := decide_eq_true c7
    clear c7
    have H' := Aside0.mk H
    clear H
    have hnb8 := NB218_219.out
    have hnc8 := NB219_218.out
    have hcz9_0 : wr.cell? ⟨gb218, 0, none⟩ = some (.slice A0_0 l0_0.length c0_0) := (blk_cell BK218.out 0).trans rfl
    have hcz9_1 : wr.cell? ⟨gb218, 1, none⟩ = some (.int .i16 a0_1) := (blk_cell BK218.out 1).trans rfl
    have hcz9_2 : wr.cell? ⟨gb218, 2, none⟩ = some (.int .i16 a0_2) := (blk_cell BK218.out 2).trans rfl
    have hcz9_3 : wr.cell? ⟨gb218, 3, none⟩ = some (.int .i16 a0_3) := (blk_cell BK218.out 3).trans rfl
    have hcz9_4 : wr.cell? ⟨gb218, 4, none⟩ = some (.int .i16 a0_4) := (blk_cell BK218.out 4).trans rfl
    have hcz9_5 : wr.cell? ⟨gb218, 5, none⟩ = some (.bool a0_5) := (blk_cell BK218.out 5).trans rfl
    have hfz9_0 := blk_frozen BK218.out 0
    have hfz9_1 := blk_frozen BK218.out 1
    have hfz9_2 := blk_frozen BK218.out 2
    have hfz9_3 := blk_frozen BK218.out 3
    have hfz9_4 := blk_frozen BK218.out 4
    have hfz9_5 := blk_frozen BK218.out 5
    go_wp2
    go_loopg [5, 20] k1 (fun kq v5 v20 w' => ∃ (x5_2 : List (S60)) (x20_2 : Int), v20 = .int .i64 x20_2 ∧ Aside0 (impl_Puzzle_moves.l1 kq x5_2 x6_1 (l0_0.length : Int) x20_2 l0_0 a0_1 a0_2 a0_3 a0_4 a0_5 a1_0 a1_1 a1_2 a1_3 = some r) ∧ Aside0 (kq ≤ k1) ∧ Aside0 (Kd.R k60 60 w' w.heap.size (fun _ => True) v5 x5_2) ∧ Aside0 (w'.heap[gb218]? = some (.cells #[(.slice A0_0 l0_0.length c0_0), .int .i16 a0_1, .int .i16 a0_2, .int .i16 a0_3, .int .i16 a0_4, .bool a0_5] 32 (0, 0))) ∧ Aside0 (w'.heap[gb219]? = some (.cells #[.int .i16 a1_0, .int .i16 a1_1, .int .i16 a1_2, .int .i16 a1_3] 30 (0, 0))) ∧ Aside0 (Below w.heap.size w w'))
    case atStart => exact ⟨(x5_1), (0), rs_, H', ⟨Nat.le_refl _⟩, ⟨pr_ HO_5⟩, ⟨pl_ BK218⟩, ⟨pl_ BK219⟩, ⟨bl_ HB⟩⟩
    case round =>
     clear H'
     try clear p2
     try clear c7
     try clear c7b0
     try clear c8
     try clear hcz9_0
     try clear hcz9_1
     try clear hcz9_2
     try clear hcz9_3
     try clear hcz9_4
     try clear hcz9_5
     try clear hfz9_0
     try clear hfz9_1
     try clear hfz9_2
     try clear hfz9_3
     try clear hfz9_4
     try clear hfz9_5
     try clear p2
     obtain ⟨x5_2, x20_2, rfl, HA, HK2, HO_5, BK218, BK219, HB⟩ := hrel
     cases gk with
     | zero => exact absurd HA.out (by simp [impl_Puzzle_moves.l1])
     | succ k2 =>
      have H := HA.out
      clear HA
      simp only [impl_Puzzle_moves.l1] at H
      by_cases c10 : x20_2 < (l0_0.length : Int)
      ·rw [if_pos c10] at H
       have c10b0 : decide (x20_2 < (l0_0.length : Int)) = true := decide_eq_true c10
       clear c10
       have H' := Aside0.mk H
       clear H
       have hnb11 := NB218_219.out
       have hnc11 := NB219_218.out
       have hcz12_0 : wr.cell? ⟨gb218, 0, none⟩ = some (.slice A0_0 l0_0.length c0_0) := (blk_cell BK218.out 0).trans rfl
       have hcz12_1 : wr.cell? ⟨gb218, 1, none⟩ = some (.int .i16 a0_1) := (blk_cell BK218.out 1).trans rfl
       have hcz12_2 : wr.cell? ⟨gb218, 2, none⟩ = some (.int .i16 a0_2) := (blk_cell BK218.out 2).trans rfl
       have hcz12_3 : wr.cell? ⟨gb218, 3, none⟩ = some (.int .i16 a0_3) := (blk_cell BK218.out 3).trans rfl
       have hcz12_4 : wr.cell? ⟨gb218, 4, none⟩ = some (.int .i16 a0_4) := (blk_cell BK218.out 4).trans rfl
       have hcz12_5 : wr.cell? ⟨gb218, 5, none⟩ = some (.bool a0_5) := (blk_cell BK218.out 5).trans rfl
       have hfz12_0 := blk_frozen BK218.out 0
       have hfz12_1 := blk_frozen BK218.out 1
       have hfz12_2 := blk_frozen BK218.out 2
       have hfz12_3 := blk_frozen BK218.out 3
       have hfz12_4 := blk_frozen BK218.out 4
       have hfz12_5 := blk_frozen BK218.out 5
       go_wp2
       go_loopg [5, 26] k2 (fun kq v5 v26 w' => ∃ (x5_3 : List (S60)) (x26_3 : Int), v26 = .int .i64 x26_3 ∧ Aside0 (impl_Puzzle_moves.l2 kq x5_3 x6_1 x20_2 (l0_0.length : Int) x20_2 (l0_0.length : Int) x26_3 l0_0 a0_1 a0_2 a0_3 a0_4 a0_5 a1_0 a1_1 a1_2 a1_3 = some r) ∧ Aside0 (kq ≤ k2) ∧ Aside0 (Kd.R k60 60 w' w.heap.size (fun _ => True) v5 x5_3) ∧ Aside0 (w'.heap[gb218]? = some (.cells #[(.slice A0_0 l0_0.length c0_0), .int .i16 a0_1, .int .i16 a0_2, .int .i16 a0_3, .int .i16 a0_4, .bool a0_5] 32 (0, 0))) ∧ Aside0 (w'.heap[gb219]? = some (.cells #[.int .i16 a1_0, .int .i16 a1_1, .int .i16 a1_2, .int .i16 a1_3] 30 (0, 0))) ∧ Aside0 (Below w.heap.size w w'))
       case atStart => exact ⟨(x5_2), (0), rs_, H', ⟨Nat.le_refl _⟩, ⟨pr_ HO_5⟩, ⟨pl_ BK218⟩, ⟨pl_ BK219⟩, ⟨bl_ HB⟩⟩
       case round =>
        clear H'
        try clear c1
        try clear p2
        try clear c7
        try clear c7b0
        try clear c8
        try clear c10
        try clear c10b0
        try clear c11
        try clear hcz12_0
        try clear hcz12_1
        try clear hcz12_2
        try clear hcz12_3
        try clear hcz12_4
        try clear hcz12_5
        try clear hcz9_0
        try clear hcz9_1
        try clear hcz9_2
        try clear hcz9_3
        try clear hcz9_4
        try clear hcz9_5
        try clear hfz12_0
        try clear hfz12_1
        try clear hfz12_2
        try clear hfz12_3
        try clear hfz12_4
        try clear hfz12_5
        try clear hfz9_0
        try clear hfz9_1
        try clear hfz9_2
        try clear hfz9_3
        try clear hfz9_4
        try clear hfz9_5
        try clear p2
        obtain ⟨x5_3, x26_3, rfl, HA, HK3, HO_5, BK218, BK219, HB⟩ := hrel
        cases gk with
        | zero => exact absurd HA.out (by simp [impl_Puzzle_moves.l2])
        | succ k3 =>
         have H := HA.out
         clear HA
         simp only [impl_Puzzle_moves.l2] at H
         by_cases c13 : x26_3 < (l0_0.length : Int)
         ·rw [if_pos c13] at H
          have c13b0 : decide (x26_3 < (l0_0.length : Int)) = true := decide_eq_true c13
          clear c13
          replace H := Option.bind_eq_some_iff.mp H
          obtain ⟨⟨t224, t225, t226, t227, t228⟩, A140, H⟩ := H
          replace H : (if t228 = true then ((impl_Puzzle_isMove.f l0_0 a0_1 a0_2 a0_3 a0_4 a0_5 x6_1 (IntKind.i8.wrap (x20_2)) (IntKind.i8.wrap (x26_3))).bind fun t230 => (if t230 = true then (if x5_3.length < 46912496118442 then (impl_Puzzle_moves.l2 k3 (x5_3 ++ [(⟨x6_1, IntKind.i8.wrap (x20_2), IntKind.i8.wrap (x26_3)⟩ : S60)]) x6_1 x20_2 (l0_0.length : Int) x20_2 (l0_0.length : Int) (wrap64 (x26_3 + 1)) l0_0 a0_1 a0_2 a0_3 a0_4 a0_5 a1_0 a1_1 a1_2 a1_3) else (none)) else (impl_Puzzle_moves.l2 k3 x5_3 x6_1 x20_2 (l0_0.length : Int) x20_2 (l0_0.length : Int) (wrap64 (x26_3 + 1)) l0_0 a0_1 a0_2 a0_3 a0_4 a0_5 a1_0 a1_1 a1_2 a1_3))) else (impl_Puzzle_moves.l2 k3 x5_3 x6_1 x20_2 (l0_0.length : Int) x20_2 (l0_0.length : Int) (wrap64 (x26_3 + 1)) l0_0 a0_1 a0_2 a0_3 a0_4 a0_5 a1_0 a1_1 a1_2 a1_3)) = some r := H
          have A14 := Aside0.mk A140
          clear A140
          by_cases c15 : t228 = true
          ·subst c15
           have H1 : ((impl_Puzzle_isMove.f l0_0 a0_1 a0_2 a0_3 a0_4 a0_5 x6_1 (IntKind.i8.wrap (x20_2)) (IntKind.i8.wrap (x26_3))).bind fun t230 => (if t230 = true then (if x5_3.length < 46912496118442 then (impl_Puzzle_moves.l2 k3 (x5_3 ++ [(⟨x6_1, IntKind.i8.wrap (x20_2), IntKind.i8.wrap (x26_3)⟩ : S60)]) x6_1 x20_2 (l0_0.length : Int) x20_2 (l0_0.length : Int) (wrap64 (x26_3 + 1)) l0_0 a0_1 a0_2 a0_3 a0_4 a0_5 a1_0 a1_1 a1_2 a1_3) else (none)) else (impl_Puzzle_moves.l2 k3 x5_3 x6_1 x20_2 (l0_0.length : Int) x20_2 (l0_0.length : Int) (wrap64 (x26_3 + 1)) l0_0 a0_1 a0_2 a0_3 a0_4 a0_5 a1_0 a1_1 a1_2 a1_3))) = some r := by rw [if_pos rfl] at H; exact H
           clear H
           have H := H1
           clear H1
           replace H := Option.bind_eq_some_iff.mp H
           obtain ⟨t230, A160, H⟩ := H
           replace H : (if t230 = true then (if x5_3.length < 46912496118442 then (impl_Puzzle_moves.l2 k3 (x5_3 ++ [(⟨x6_1, IntKind.i8.wrap (x20_2), IntKind.i8.wrap (x26_3)⟩ : S60)]) x6_1 x20_2 (l0_0.length : Int) x20_2 (l0_0.length : Int) (wrap64 (x26_3 + 1)) l0_0 a0_1 a0_2 a0_3 a0_4 a0_5 a1_0 a1_1 a1_2 a1_3) else (none)) else (impl_Puzzle_moves.l2 k3 x5_3 x6_1 x20_2 (l0_0.length : Int) x20_2 (l0_0.length : Int) (wrap64 (x26_3 + 1)) l0_0 a0_1 a0_2 a0_3 a0_4 a0_5 a1_0 a1_1 a1_2 a1_3)) = some r := H
           have A16 := Aside0.mk A160
           clear A160
           by_cases c17 : t230 = true
           ·subst c17
            have H1 : (if x5_3.length < 46912496118442 then (impl_Puzzle_moves.l2 k3 (x5_3 ++ [(⟨x6_1, IntKind.i8.wrap (x20_2), IntKind.i8.wrap (x26_3)⟩ : S60)]) x6_1 x20_2 (l0_0.length : Int) x20_2 (l0_0.length : Int) (wrap64 (x26_3 + 1)) l0_0 a0_1 a0_2 a0_3 a0_4 a0_5 a1_0 a1_1 a1_2 a1_3) else (none)) = some r := by rw [if_pos rfl] at H; exact H
            clear H
            have H := H1
            clear H1
            by_cases c18 : x5_3.length < 46912496118442
            ·rw [if_pos c18] at H
             have LMc18 := Aside0.mk c18
             clear c18
             obtain ⟨y231, hy231⟩ : ∃ y_ : List (S60), y_ = (x5_3 ++ [(⟨x6_1, IntKind.i8.wrap (x20_2), IntKind.i8.wrap (x26_3)⟩ : S60)]) := ⟨_, rfl⟩
             replace H : (impl_Puzzle_moves.l2 k3 y231 x6_1 x20_2 (l0_0.length : Int) x20_2 (l0_0.length : Int) (wrap64 (x26_3 + 1)) l0_0 a0_1 a0_2 a0_3 a0_4 a0_5 a1_0 a1_1 a1_2 a1_3) = some r := by first | (rw [hy231]; with_reducible exact H) | (have H2_ := (Option.bind_some _ _).symm.trans H; rw [hy231]; with_reducible exact H2_) | (have H2_ := (Option.bind_some _ _).symm.trans H; with_reducible exact H2_) | with_reducible exact H | (rw [hy231]; exact H) | exact H
             have Ny231 := Aside0.mk hy231
             clear hy231
             have H' := Aside0.mk H
             clear H
             go_wp2_with (first | ((with_reducible refine gate_dst (N := 9) rfl ?_); refine box_event ?hg (N := 9) ?hd (cs := #[.int .i8 0, .int .i8 0, .int .i8 0]) (t := 60) ?hr ?_; (case hd => rfl); (case hg => rfl); (case hr => first | (go_simp; done) | (go_simp; rfl)); intro gb223 hg w19 hbox hb; have n0_ := A_ (Kd.R_below (Kd.R_elderB (pr_ HO_5) gb223 (Nat.le_of_eq hg.symm)) hb); have n1_ := A_ (blk_below (pl_ BK218) hb); have n2_ := A_ (blk_below (pl_ BK219) hb); have n3_ := A_ (below_step (bl_ HB) hb); have n4_ := A_ (hbox); have n5_ := A_ ((by rw [hg]; exact (below_size (bl_ HB)) : w.heap.size ≤ gb223)); have n6_ := n5_; have n7_ := A_ ((by rw [hg]; exact Nat.ne_of_lt (blk_lt (pl_ BK218)) : gb218 ≠ gb223)); have n8_ := Aside0.mk n7_.out.symm; have n9_ := A_ ((by rw [hg]; exact Nat.ne_of_lt (blk_lt (pl_ BK219)) : gb219 ≠ gb223)); have n10_ := Aside0.mk n9_.out.symm; clear HO_5; clear BK218; clear BK219; clear HB; have HO_5 := n0_; have BK218 := n1_; have BK219 := n2_; have HB := n3_; have BK223 := n4_; have GW223 := n5_; have GE223 := n6_; have NB218_223 := n7_; have NB223_218 := n8_; have NB219_223 := n9_; have NB223_219 := n10_; clear n0_ n1_ n2_ n3_ n4_ n5_ n6_ n7_ n8_ n9_ n10_; clear hb hbox hg; have hnb20 := NB223_218.out; have hnc20 := NB218_223.out; have hnb21 := NB223_219.out; have hnc21 := NB219_223.out; have hcz22_0 : w19.cell? ⟨gb223, 0, none⟩ = some (.int .i8 0) := (blk_cell BK223.out 0).trans rfl; have hcz22_1 : w19.cell? ⟨gb223, 1, none⟩ = some (.int .i8 0) := (blk_cell BK223.out 1).trans rfl; have hcz22_2 : w19.cell? ⟨gb223, 2, none⟩ = some (.int .i8 0) := (blk_cell BK223.out 2).trans rfl; have hfz22_0 := blk_frozen BK223.out 0; have hfz22_1 := blk_frozen BK223.out 1; have hfz22_2 := blk_frozen BK223.out 2; have hnb23 := NB218_219.out; have hnc23 := NB219_218.out; have hcz24_0 : w19.cell? ⟨gb218, 0, none⟩ = some (.slice A0_0 l0_0.length c0_0) := (blk_cell BK218.out 0).trans rfl; have hcz24_1 : w19.cell? ⟨gb218, 1, none⟩ = some (.int .i16 a0_1) := (blk_cell BK218.out 1).trans rfl; have hcz24_2 : w19.cell? ⟨gb218, 2, none⟩ = some (.int .i16 a0_2) := (blk_cell BK218.out 2).trans rfl; have hcz24_3 : w19.cell? ⟨gb218, 3, none⟩ = some (.int .i16 a0_3) := (blk_cell BK218.out 3).trans rfl; have hcz24_4 : w19.cell? ⟨gb218, 4, none⟩ = some (.int .i16 a0_4) := (blk_cell BK218.out 4).trans rfl; have hcz24_5 : w19.cell? ⟨gb218, 5, none⟩ = some (.bool a0_5) := (blk_cell BK218.out 5).trans rfl; have hfz24_0 := blk_frozen BK218.out 0; have hfz24_1 := blk_frozen BK218.out 1; have hfz24_2 := blk_frozen BK218.out 2; have hfz24_3 := blk_frozen BK218.out 3; have hfz24_4 := blk_frozen BK218.out 4; have hfz24_5 := blk_frozen BK218.out 5; have hcz25_0 : w19.cell? ⟨gb219, 0, none⟩ = some (.int .i16 a1_0) := (blk_cell BK219.out 0).trans rfl; have hcz25_1 : w19.cell? ⟨gb219, 1, none⟩ = some (.int .i16 a1_1) := (blk_cell BK219.out 1).trans rfl; have hcz25_2 : w19.cell? ⟨gb219, 2, none⟩ = some (.int .i16 a1_2) := (blk_cell BK219.out 2).trans rfl; have hcz25_3 : w19.cell? ⟨gb219, 3, none⟩ = some (.int .i16 a1_3) := (blk_cell BK219.out 3).trans rfl; have hfz25_0 := blk_frozen BK219.out 0; have hfz25_1 := blk_frozen BK219.out 1; have hfz25_2 := blk_frozen BK219.out 2; have hfz25_3 := blk_frozen BK219.out 3) | ((with_reducible refine gate_callee (f := 87) rfl ?_); refine goesL_ (some 39) rfl rfl Try.func87 (by kernel_rfl) rfl #[.agg #[.slice A0_0 l0_0.length c0_0, .int .i16 a0_1, .int .i16 a0_2, .int .i16 a0_3, .int .i16 a0_4, .bool a0_5], .agg #[.int .i16 a1_0, .int .i16 a1_1, .int .i16 a1_2, .int .i16 a1_3], .agg #[.int .i8 x6_1, .int .i8 (IntKind.i8.wrap (x20_2)), .int .i8 (IntKind.i8.wrap (x26_3))]] rfl arg_ ?_; (with_reducible refine (impl_Puzzle_moved.calls k3 _ _ l0_0 a0_1 a0_2 a0_3 a0_4 a0_5 a1_0 a1_1 a1_2 a1_3 x6_1 (IntKind.i8.wrap (x20_2)) (IntKind.i8.wrap (x26_3)) t224 t225 t226 t227 true _ ?side1 ?side2 A14.out).mono ?_); (case side1 => exact Kd.C_below HR0_0.out (bs_ HB GE223)); (case side2 => exact HC0_0.out); rintro e w26 ⟨rfl, hb⟩; refine ⟨_, rfl, ?_⟩; have n0_ := A_ (Kd.R_below (by (with_reducible repeat (first | apply Kd.R_alloc | apply Kd.R_drewN | apply Kd.R_drew)); exact (Kd.R_mono (Kd.R_far (p := ⟨gb223, 2, none⟩) (Kd.R_far (p := ⟨gb223, 1, none⟩) (Kd.R_far (p := ⟨gb223, 0, none⟩) (Kd.R_mono HO_5.out (fun k_ hk => (⟨hk, hk.2⟩ : _ ∧ k_ ≠ gb223))) (fun _ hk => hk.2) (.int .i8 x6_1)) (fun _ hk => hk.2) (.int .i8 (IntKind.i8.wrap (x20_2)))) (fun _ hk => hk.2) (.int .i8 (IntKind.i8.wrap (x26_3)))) (fun _ h_ => h_.1))) hb); have n1_ := A_ (blk_below (g := gb218) (o := .cells #[.slice A0_0 l0_0.length c0_0, .int .i16 a0_1, .int .i16 a0_2, .int .i16 a0_3, .int .i16 a0_4, .bool a0_5] 32 (0, 0)) (pf_ BK218 NB218_223) hb); have n2_ := A_ (blk_below (g := gb219) (o := .cells #[.int .i16 a1_0, .int .i16 a1_1, .int .i16 a1_2, .int .i16 a1_3] 30 (0, 0)) (pf_ BK219 NB219_223) hb); have n3_ := A_ (blk_below (g := gb223) (o := .cells #[.int .i8 x6_1, .int .i8 (IntKind.i8.wrap (x20_2)), .int .i8 (IntKind.i8.wrap (x26_3))] 60 (0, 0)) (by (with_reducible repeat (first | refine blk_drewN ?_ _ | refine blk_drew ?_ | refine blk_alloc ?_ _)); refine blk_put (cs := #[.int .i8 x6_1, .int .i8 (IntKind.i8.wrap (x20_2)), .int .i8 0]) ?_ 2 _ rfl; (with_reducible repeat (first | refine blk_drewN ?_ _ | refine blk_drew ?_ | refine blk_alloc ?_ _)); refine blk_put (cs := #[.int .i8 x6_1, .int .i8 0, .int .i8 0]) ?_ 1 _ rfl; (with_reducible repeat (first | refine blk_drewN ?_ _ | refine blk_drew ?_ | refine blk_alloc ?_ _)); refine blk_put (cs := #[.int .i8 0, .int .i8 0, .int .i8 0]) ?_ 0 _ rfl; (with_reducible repeat (first | refine blk_drewN ?_ _ | refine blk_drew ?_ | refine blk_alloc ?_ _)); exact BK223.out) hb); have n4_ := A_ (below_step (bs_ HB GE223) hb); clear HO_5; clear BK218; clear BK219; clear BK223; clear HB; have HO_5 := n0_; have BK218 := n1_; have BK219 := n2_; have BK223 := n3_; have HB := n4_; clear n0_ n1_ n2_ n3_ n4_; (try clear hb); (try clear hb2); (try clear hk); (try clear hi)) | ((with_reducible refine gate_dst (N := 10) rfl ?_); refine box_event ?hg (N := 10) ?hd (cs := #[.int .i16 0, .int .i16 0, .int .i16 0, .int .i16 0]) (t := 30) ?hr ?_; (case hd => rfl); (case hg => rfl); (case hr => first | (go_simp; done) | (go_simp; rfl)); intro gb229 hg w27 hbox hb; have n0_ := A_ (Kd.R_below (pr_ HO_5) hb); have n1_ := A_ (blk_below (pl_ BK218) hb); have n2_ := A_ (blk_below (pl_ BK219) hb); have n3_ := A_ (blk_below (pl_ BK223) hb); have n4_ := A_ (below_step (bl_ HB) hb); have n5_ := A_ (hbox); have n6_ := A_ ((by rw [hg]; exact (below_size (bl_ HB)) : w.heap.size ≤ gb229)); have n7_ := n6_; have n8_ := A_ ((by rw [hg]; exact Nat.ne_of_lt (blk_lt (pl_ BK218)) : gb218 ≠ gb229)); have n9_ := Aside0.mk n8_.out.symm; have n10_ := A_ ((by rw [hg]; exact Nat.ne_of_lt (blk_lt (pl_ BK219)) : gb219 ≠ gb229)); have n11_ := Aside0.mk n10_.out.symm; have n12_ := A_ ((by rw [hg]; exact Nat.ne_of_lt (blk_lt (pl_ BK223)) : gb223 ≠ gb229)); have n13_ := Aside0.mk n12_.out.symm; clear HO_5; clear BK218; clear BK219; clear BK223; clear HB; have HO_5 := n0_; have BK218 := n1_; have BK219 := n2_; have BK223 := n3_; have HB := n4_; have BK229 := n5_; have GW229 := n6_; have GE229 := n7_; have NB218_229 := n8_; have NB229_218 := n9_; have NB219_229 := n10_; have NB229_219 := n11_; have NB223_229 := n12_; have NB229_223 := n13_; clear n0_ n1_ n2_ n3_ n4_ n5_ n6_ n7_ n8_ n9_ n10_ n11_ n12_ n13_; clear hb hbox hg; have hnb28 := NB229_218.out; have hnc28 := NB218_229.out; have hnb29 := NB229_219.out; have hnc29 := NB219_229.out; have hnb30 := NB229_223.out; have hnc30 := NB223_229.out; have hcz31_0 : w27.cell? ⟨gb229, 0, none⟩ = some (.int .i16 0) := (blk_cell BK229.out 0).trans rfl; have hcz31_1 : w27.cell? ⟨gb229, 1, none⟩ = some (.int .i16 0) := (blk_cell BK229.out 1).trans rfl; have hcz31_2 : w27.cell? ⟨gb229, 2, none⟩ = some (.int .i16 0) := (blk_cell BK229.out 2).trans rfl; have hcz31_3 : w27.cell? ⟨gb229, 3, none⟩ = some (.int .i16 0) := (blk_cell BK229.out 3).trans rfl; have hfz31_0 := blk_frozen BK229.out 0; have hfz31_1 := blk_frozen BK229.out 1; have hfz31_2 := blk_frozen BK229.out 2; have hfz31_3 := blk_frozen BK229.out 3; have hcz32_0 : w27.cell? ⟨gb218, 0, none⟩ = some (.slice A0_0 l0_0.length c0_0) := (blk_cell BK218.out 0).trans rfl; have hcz32_1 : w27.cell? ⟨gb218, 1, none⟩ = some (.int .i16 a0_1) := (blk_cell BK218.out 1).trans rfl; have hcz32_2 : w27.cell? ⟨gb218, 2, none⟩ = some (.int .i16 a0_2) := (blk_cell BK218.out 2).trans rfl; have hcz32_3 : w27.cell? ⟨gb218, 3, none⟩ = some (.int .i16 a0_3) := (blk_cell BK218.out 3).trans rfl; have hcz32_4 : w27.cell? ⟨gb218, 4, none⟩ = some (.int .i16 a0_4) := (blk_cell BK218.out 4).trans rfl; have hcz32_5 : w27.cell? ⟨gb218, 5, none⟩ = some (.bool a0_5) := (blk_cell BK218.out 5).trans rfl; have hfz32_0 := blk_frozen BK218.out 0; have hfz32_1 := blk_frozen BK218.out 1; have hfz32_2 := blk_frozen BK218.out 2; have hfz32_3 := blk_frozen BK218.out 3; have hfz32_4 := blk_frozen BK218.out 4; have hfz32_5 := blk_frozen BK218.out 5; have hcz33_0 : w27.cell? ⟨gb223, 0, none⟩ = some (.int .i8 x6_1) := (blk_cell BK223.out 0).trans rfl; have hcz33_1 : w27.cell? ⟨gb223, 1, none⟩ = some (.int .i8 (IntKind.i8.wrap (x20_2))) := (blk_cell BK223.out 1).trans rfl; have hcz33_2 : w27.cell? ⟨gb223, 2, none⟩ = some (.int .i8 (IntKind.i8.wrap (x26_3))) := (blk_cell BK223.out 2).trans rfl; have hfz33_0 := blk_frozen BK223.out 0; have hfz33_1 := blk_frozen BK223.out 1; have hfz33_2 := blk_frozen BK223.out 2) | (go_at_call 86; (with_reducible refine (impl_Puzzle_isMove.calls _ _ l0_0 a0_1 a0_2 a0_3 a0_4 a0_5 x6_1 (IntKind.i8.wrap (x20_2)) (IntKind.i8.wrap (x26_3)) true _ ?side1 ?side2 A16.out).mono ?_); (case side1 => exact Kd.C_below HR0_0.out (bs_ HB GE229)); (case side2 => exact HC0_0.out); rintro e w34 ⟨rfl, hb⟩; have n0_ := A_ (Kd.R_below (by (with_reducible repeat (first | apply Kd.R_alloc | apply Kd.R_drewN | apply Kd.R_drew)); exact (rf4_ HO_5 BK229 (by decide))) hb); have n1_ := A_ (blk_below (g := gb218) (o := .cells #[.slice A0_0 l0_0.length c0_0, .int .i16 a0_1, .int .i16 a0_2, .int .i16 a0_3, .int .i16 a0_4, .bool a0_5] 32 (0, 0)) (pf_ BK218 NB218_229) hb); have n2_ := A_ (blk_below (g := gb219) (o := .cells #[.int .i16 a1_0, .int .i16 a1_1, .int .i16 a1_2, .int .i16 a1_3] 30 (0, 0)) (pf_ BK219 NB219_229) hb); have n3_ := A_ (blk_below (g := gb223) (o := .cells #[.int .i8 x6_1, .int .i8 (IntKind.i8.wrap (x20_2)), .int .i8 (IntKind.i8.wrap (x26_3))] 60 (0, 0)) (pf_ BK223 NB223_229) hb); have n4_ := A_ (blk_below (g := gb229) (o := .cells #[.int .i16 t224, .int .i16 t225, .int .i16 t226, .int .i16 t227] 30 (0, 0)) (by (with_reducible repeat (first | refine blk_drewN ?_ _ | refine blk_drew ?_ | refine blk_alloc ?_ _)); refine blk_put (cs := #[.int .i16 t224, .int .i16 t225, .int .i16 t226, .int .i16 0]) ?_ 3 _ rfl; (with_reducible repeat (first | refine blk_drewN ?_ _ | refine blk_drew ?_ | refine blk_alloc ?_ _)); refine blk_put (cs := #[.int .i16 t224, .int .i16 t225, .int .i16 0, .int .i16 0]) ?_ 2 _ rfl; (with_reducible repeat (first | refine blk_drewN ?_ _ | refine blk_drew ?_ | refine blk_alloc ?_ _)); refine blk_put (cs := #[.int .i16 t224, .int .i16 0, .int .i16 0, .int .i16 0]) ?_ 1 _ rfl; (with_reducible repeat (first | refine blk_drewN ?_ _ | refine blk_drew ?_ | refine blk_alloc ?_ _)); refine blk_put (cs := #[.int .i16 0, .int .i16 0, .int .i16 0, .int .i16 0]) ?_ 0 _ rfl; (with_reducible repeat (first | refine blk_drewN ?_ _ | refine blk_drew ?_ | refine blk_alloc ?_ _)); exact BK229.out) hb); have n5_ := A_ (below_step (bs_ HB GE229) hb); clear HO_5; clear BK218; clear BK219; clear BK223; clear BK229; clear HB; have HO_5 := n0_; have BK218 := n1_; have BK219 := n2_; have BK223 := n3_; have BK229 := n4_; have HB := n5_; clear n0_ n1_ n2_ n3_ n4_ n5_; (try clear hb); (try clear hb2); (try clear hk); (try clear hi); have hcz35_0 : w34.cell? ⟨gb223, 0, none⟩ = some (.int .i8 x6_1) := (blk_cell BK223.out 0).trans rfl; have hcz35_1 : w34.cell? ⟨gb223, 1, none⟩ = some (.int .i8 (IntKind.i8.wrap (x20_2))) := (blk_cell BK223.out 1).trans rfl; have hcz35_2 : w34.cell? ⟨gb223, 2, none⟩ = some (.int .i8 (IntKind.i8.wrap (x26_3))) := (blk_cell BK223.out 2).trans rfl; have hfz35_0 := blk_frozen BK223.out 0; have hfz35_1 := blk_frozen BK223.out 1; have hfz35_2 := blk_frozen BK223.out 2) | ((with_reducible refine gate_builtin (b := .append) (xs := #[.tmp 48, .tmp 50]) rfl ?_); at_builtin; refine Kd.R_append k60 (w0 := w) w.heap.size rfl (.tmp 48) (.tmp 50) 52 60 (.agg #[(.int .i8 0), (.int .i8 0), (.int .i8 0)]) 3 rfl Try.underlying52 info60 rfl (by decide) (by omega) u5 x5_3 (⟨x6_1, IntKind.i8.wrap (x20_2), IntKind.i8.wrap (x26_3)⟩ : S60) [.int .i8 x6_1, .int .i8 (IntKind.i8.wrap (x20_2)), .int .i8 (IntKind.i8.wrap (x26_3))] (fun k_ => k_ ≠ gb223) (fun _ => False) rfl rfl ?aP (fun _ hk => hk.elim) ?aF ?aO ?aB ?aS ?aL ?_; (case aP => exact k60_mkM _ _ _ (⟨x6_1, IntKind.i8.wrap (x20_2), IntKind.i8.wrap (x26_3)⟩ : S60)); (case aB => exact (bl_ HB)); (case aF => exact (fun k_ hk => Kd.freshB (pl_ BK223) k_ hk)); (case aO => exact (by (with_reducible repeat (first | apply Kd.R_alloc | apply Kd.R_drewN | apply Kd.R_drew)); exact Kd.R_mono HO_5.out (fun _ hk => hk.2))); (case aS => exact (below_size (bl_ HB))); (case aL => have := LMc18.out; omega); intro v232 w36 ho hb hg hat; rw [← Ny231.out] at ho; have n0_ := A_ (blk_grown (pl_ BK218) hg (Kd.R_ne HO_5.out BK218.out (by decide))); have n1_ := A_ (blk_grown (pl_ BK219) hg (Kd.R_ne HO_5.out BK219.out (by decide))); have n2_ := A_ (blk_grown (pl_ BK223) hg (Kd.R_away HO_5.out (fun _ hk => hk.2))); have n3_ := A_ (blk_grown (pl_ BK229) hg (Kd.R_ne HO_5.out BK229.out (by decide))); have n4_ := A_ (hb); have n5_ := A_ (ho); clear BK218; clear BK219; clear BK223; clear BK229; clear HB; clear HO_5; have BK218 := n0_; have BK219 := n1_; have BK223 := n2_; have BK229 := n3_; have HB := n4_; have HO233 := n5_; clear n0_ n1_ n2_ n3_ n4_ n5_; clear ho hb hg hat))
             go_roundg k3
             case measure => have := HK1.out; have := HK2.out; have := HK3.out; omega
             case rel => exact ⟨(y231), (wrap64 (x26_3 + 1)), rs_, H', ⟨by have := HK1.out; have := HK2.out; have := HK3.out; omega⟩, ⟨by (with_reducible repeat (first | apply Kd.R_alloc | apply Kd.R_drewN | apply Kd.R_drew)); exact Kd.R_mono HO233.out (fun _ hk => trivial)⟩, ⟨pl_ BK218⟩, ⟨pl_ BK219⟩, ⟨bl_ HB⟩⟩
            ·rw [if_neg c18] at H
             exact absurd H (by simp)
           ·replace c17 := Bool.eq_false_iff.mpr c17
            subst c17
            have H1 : (impl_Puzzle_moves.l2 k3 x5_3 x6_1 x20_2 (l0_0.length : Int) x20_2 (l0_0.length : Int) (wrap64 (x26_3 + 1)) l0_0 a0_1 a0_2 a0_3 a0_4 a0_5 a1_0 a1_1 a1_2 a1_3) = some r := by rw [if_neg (show ¬ (false = true) by decide)] at H; exact H
            clear H
            have H := H1
            clear H1
            have H' := Aside0.mk H
            clear H
            go_wp2_with (first | ((with_reducible refine gate_dst (N := 9) rfl ?_); refine box_event ?hg (N := 9) ?hd (cs := #[.int .i8 0, .int .i8 0, .int .i8 0]) (t := 60) ?hr ?_; (case hd => rfl); (case hg => rfl); (case hr => first | (go_simp; done) | (go_simp; rfl)); intro gb223 hg w37 hbox hb; have n0_ := A_ (Kd.R_below (Kd.R_elderB (pr_ HO_5) gb223 (Nat.le_of_eq hg.symm)) hb); have n1_ := A_ (blk_below (pl_ BK218) hb); have n2_ := A_ (blk_below (pl_ BK219) hb); have n3_ := A_ (below_step (bl_ HB) hb); have n4_ := A_ (hbox); have n5_ := A_ ((by rw [hg]; exact (below_size (bl_ HB)) : w.heap.size ≤ gb223)); have n6_ := n5_; have n7_ := A_ ((by rw [hg]; exact Nat.ne_of_lt (blk_lt (pl_ BK218)) : gb218 ≠ gb223)); have n8_ := Aside0.mk n7_.out.symm; have n9_ := A_ ((by rw [hg]; exact Nat.ne_of_lt (blk_lt (pl_ BK219)) : gb219 ≠ gb223)); have n10_ := Aside0.mk n9_.out.symm; clear HO_5; clear BK218; clear BK219; clear HB; have HO_5 := n0_; have BK218 := n1_; have BK219 := n2_; have HB := n3_; have BK223 := n4_; have GW223 := n5_; have GE223 := n6_; have NB218_223 := n7_; have NB223_218 := n8_; have NB219_223 := n9_; have NB223_219 := n10_; clear n0_ n1_ n2_ n3_ n4_ n5_ n6_ n7_ n8_ n9_ n10_; clear hb hbox hg; have hnb38 := NB223_218.out; have hnc38 := NB218_223.out; have hnb39 := NB223_219.out; have hnc39 := NB219_223.out; have hcz40_0 : w37.cell? ⟨gb223, 0, none⟩ = some (.int .i8 0) := (blk_cell BK223.out 0).trans rfl; have hcz40_1 : w37.cell? ⟨gb223, 1, none⟩ = some (.int .i8 0) := (blk_cell BK223.out 1).trans rfl; have hcz40_2 : w37.cell? ⟨gb223, 2, none⟩ = some (.int .i8 0) := (blk_cell BK223.out 2).trans rfl; have hfz40_0 := blk_frozen BK223.out 0; have hfz40_1 := blk_frozen BK223.out 1; have hfz40_2 := blk_frozen BK223.out 2; have hnb41 := NB218_219.out; have hnc41 := NB219_218.out; have hcz42_0 : w37.cell? ⟨gb218, 0, none⟩ = some (.slice A0_0 l0_0.length c0_0) := (blk_cell BK218.out 0).trans rfl; have hcz42_1 : w37.cell? ⟨gb218, 1, none⟩ = some (.int .i16 a0_1) := (blk_cell BK218.out 1).trans rfl; have hcz42_2 : w37.cell? ⟨gb218, 2, none⟩ = some (.int .i16 a0_2) := (blk_cell BK218.out 2).trans rfl; have hcz42_3 : w37.cell? ⟨gb218, 3, none⟩ = some (.int .i16 a0_3) := (blk_cell BK218.out 3).trans rfl; have hcz42_4 : w37.cell? ⟨gb218, 4, none⟩ = some (.int .i16 a0_4) := (blk_cell BK218.out 4).trans rfl; have hcz42_5 : w37.cell? ⟨gb218, 5, none⟩ = some (.bool a0_5) := (blk_cell BK218.out 5).trans rfl; have hfz42_0 := blk_frozen BK218.out 0; have hfz42_1 := blk_frozen BK218.out 1; have hfz42_2 := blk_frozen BK218.out 2; have hfz42_3 := blk_frozen BK218.out 3; have hfz42_4 := blk_frozen BK218.out 4; have hfz42_5 := blk_frozen BK218.out 5; have hcz43_0 : w37.cell? ⟨gb219, 0, none⟩ = some (.int .i16 a1_0) := (blk_cell BK219.out 0).trans rfl; have hcz43_1 : w37.cell? ⟨gb219, 1, none⟩ = some (.int .i16 a1_1) := (blk_cell BK219.out 1).trans rfl; have hcz43_2 : w37.cell? ⟨gb219, 2, none⟩ = some (.int .i16 a1_2) := (blk_cell BK219.out 2).trans rfl; have hcz43_3 : w37.cell? ⟨gb219, 3, none⟩ = some (.int .i16 a1_3) := (blk_cell BK219.out 3).trans rfl; have hfz43_0 := blk_frozen BK219.out 0; have hfz43_1 := blk_frozen BK219.out 1; have hfz43_2 := blk_frozen BK219.out 2; have hfz43_3 := blk_frozen BK219.out 3) | ((with_reducible refine gate_callee (f := 87) rfl ?_); refine goesL_ (some 39) rfl rfl Try.func87 (by kernel_rfl) rfl #[.agg #[.slice A0_0 l0_0.length c0_0, .int .i16 a0_1, .int .i16 a0_2, .int .i16 a0_3, .int .i16 a0_4, .bool a0_5], .agg #[.int .i16 a1_0, .int .i16 a1_1, .int .i16 a1_2, .int .i16 a1_3], .agg #[.int .i8 x6_1, .int .i8 (IntKind.i8.wrap (x20_2)), .int .i8 (IntKind.i8.wrap (x26_3))]] rfl arg_ ?_; (with_reducible refine (impl_Puzzle_moved.calls k3 _ _ l0_0 a0_1 a0_2 a0_3 a0_4 a0_5 a1_0 a1_1 a1_2 a1_3 x6_1 (IntKind.i8.wrap (x20_2)) (IntKind.i8.wrap (x26_3)) t224 t225 t226 t227 true _ ?side1 ?side2 A14.out).mono ?_); (case side1 => exact Kd.C_below HR0_0.out (bs_ HB GE223)); (case side2 => exact HC0_0.out); rintro e w44 ⟨rfl, hb⟩; refine ⟨_, rfl, ?_⟩; have n0_ := A_ (Kd.R_below (by (with_reducible repeat (first | apply Kd.R_alloc | apply Kd.R_drewN | apply Kd.R_drew)); exact (Kd.R_mono (Kd.R_far (p := ⟨gb223, 2, none⟩) (Kd.R_far (p := ⟨gb223, 1, none⟩) (Kd.R_far (p := ⟨gb223, 0, none⟩) (Kd.R_mono HO_5.out (fun k_ hk => (⟨hk, hk.2⟩ : _ ∧ k_ ≠ gb223))) (fun _ hk => hk.2) (.int .i8 x6_1)) (fun _ hk => hk.2) (.int .i8 (IntKind.i8.wrap (x20_2)))) (fun _ hk => hk.2) (.int .i8 (IntKind.i8.wrap (x26_3)))) (fun _ h_ => h_.1))) hb); have n1_ := A_ (blk_below (g := gb218) (o := .cells #[.slice A0_0 l0_0.length c0_0, .int .i16 a0_1, .int .i16 a0_2, .int .i16 a0_3, .int .i16 a0_4, .bool a0_5] 32 (0, 0)) (pf_ BK218 NB218_223) hb); have n2_ := A_ (blk_below (g := gb219) (o := .cells #[.int .i16 a1_0, .int .i16 a1_1, .int .i16 a1_2, .int .i16 a1_3] 30 (0, 0)) (pf_ BK219 NB219_223) hb); have n3_ := A_ (blk_below (g := gb223) (o := .cells #[.int .i8 x6_1, .int .i8 (IntKind.i8.wrap (x20_2)), .int .i8 (IntKind.i8.wrap (x26_3))] 60 (0, 0)) (by (with_reducible repeat (first | refine blk_drewN ?_ _ | refine blk_drew ?_ | refine blk_alloc ?_ _)); refine blk_put (cs := #[.int .i8 x6_1, .int .i8 (IntKind.i8.wrap (x20_2)), .int .i8 0]) ?_ 2 _ rfl; (with_reducible repeat (first | refine blk_drewN ?_ _ | refine blk_drew ?_ | refine blk_alloc ?_ _)); refine blk_put (cs := #[.int .i8 x6_1, .int .i8 0, .int .i8 0]) ?_ 1 _ rfl; (with_reducible repeat (first | refine blk_drewN ?_ _ | refine blk_drew ?_ | refine blk_alloc ?_ _)); refine blk_put (cs := #[.int .i8 0, .int .i8 0, .int .i8 0]) ?_ 0 _ rfl; (with_reducible repeat (first | refine blk_drewN ?_ _ | refine blk_drew ?_ | refine blk_alloc ?_ _)); exact BK223.out) hb); have n4_ := A_ (below_step (bs_ HB GE223) hb); clear HO_5; clear BK218; clear BK219; clear BK223; clear HB; have HO_5 := n0_; have BK218 := n1_; have BK219 := n2_; have BK223 := n3_; have HB := n4_; clear n0_ n1_ n2_ n3_ n4_; (try clear hb); (try clear hb2); (try clear hk); (try clear hi)) | ((with_reducible refine gate_dst (N := 10) rfl ?_); refine box_event ?hg (N := 10) ?hd (cs := #[.int .i16 0, .int .i16 0, .int .i16 0, .int .i16 0]) (t := 30) ?hr ?_; (case hd => rfl); (case hg => rfl); (case hr => first | (go_simp; done) | (go_simp; rfl)); intro gb229 hg w45 hbox hb; have n0_ := A_ (Kd.R_below (pr_ HO_5) hb); have n1_ := A_ (blk_below (pl_ BK218) hb); have n2_ := A_ (blk_below (pl_ BK219) hb); have n3_ := A_ (blk_below (pl_ BK223) hb); have n4_ := A_ (below_step (bl_ HB) hb); have n5_ := A_ (hbox); have n6_ := A_ ((by rw [hg]; exact (below_size (bl_ HB)) : w.heap.size ≤ gb229)); have n7_ := n6_; have n8_ := A_ ((by rw [hg]; exact Nat.ne_of_lt (blk_lt (pl_ BK218)) : gb218 ≠ gb229)); have n9_ := Aside0.mk n8_.out.symm; have n10_ := A_ ((by rw [hg]; exact Nat.ne_of_lt (blk_lt (pl_ BK219)) : gb219 ≠ gb229)); have n11_ := Aside0.mk n10_.out.symm; have n12_ := A_ ((by rw [hg]; exact Nat.ne_of_lt (blk_lt (pl_ BK223)) : gb223 ≠ gb229)); have n13_ := Aside0.mk n12_.out.symm; clear HO_5; clear BK218; clear BK219; clear BK223; clear HB; have HO_5 := n0_; have BK218 := n1_; have BK219 := n2_; have BK223 := n3_; have HB := n4_; have BK229 := n5_; have GW229 := n6_; have GE229 := n7_; have NB218_229 := n8_; have NB229_218 := n9_; have NB219_229 := n10_; have NB229_219 := n11_; have NB223_229 := n12_; have NB229_223 := n13_; clear n0_ n1_ n2_ n3_ n4_ n5_ n6_ n7_ n8_ n9_ n10_ n11_ n12_ n13_; clear hb hbox hg; have hnb46 := NB229_218.out; have hnc46 := NB218_229.out; have hnb47 := NB229_219.out; have hnc47 := NB219_229.out; have hnb48 := NB229_223.out; have hnc48 := NB223_229.out; have hcz49_0 : w45.cell? ⟨gb229, 0, none⟩ = some (.int .i16 0) := (blk_cell BK229.out 0).trans rfl; have hcz49_1 : w45.cell? ⟨gb229, 1, none⟩ = some (.int .i16 0) := (blk_cell BK229.out 1).trans rfl; have hcz49_2 : w45.cell? ⟨gb229, 2, none⟩ = some (.int .i16 0) := (blk_cell BK229.out 2).trans rfl; have hcz49_3 : w45.cell? ⟨gb229, 3, none⟩ = some (.int .i16 0) := (blk_cell BK229.out 3).trans rfl; have hfz49_0 := blk_frozen BK229.out 0; have hfz49_1 := blk_frozen BK229.out 1; have hfz49_2 := blk_frozen BK229.out 2; have hfz49_3 := blk_frozen BK229.out 3; have hcz50_0 : w45.cell? ⟨gb218, 0, none⟩ = some (.slice A0_0 l0_0.length c0_0) := (blk_cell BK218.out 0).trans rfl; have hcz50_1 : w45.cell? ⟨gb218, 1, none⟩ = some (.int .i16 a0_1) := (blk_cell BK218.out 1).trans rfl; have hcz50_2 : w45.cell? ⟨gb218, 2, none⟩ = some (.int .i16 a0_2) := (blk_cell BK218.out 2).trans rfl; have hcz50_3 : w45.cell? ⟨gb218, 3, none⟩ = some (.int .i16 a0_3) := (blk_cell BK218.out 3).trans rfl; have hcz50_4 : w45.cell? ⟨gb218, 4, none⟩ = some (.int .i16 a0_4) := (blk_cell BK218.out 4).trans rfl; have hcz50_5 : w45.cell? ⟨gb218, 5, none⟩ = some (.bool a0_5) := (blk_cell BK218.out 5).trans rfl; have hfz50_0 := blk_frozen BK218.out 0; have hfz50_1 := blk_frozen BK218.out 1; have hfz50_2 := blk_frozen BK218.out 2; have hfz50_3 := blk_frozen BK218.out 3; have hfz50_4 := blk_frozen BK218.out 4; have hfz50_5 := blk_frozen BK218.out 5; have hcz51_0 : w45.cell? ⟨gb223, 0, none⟩ = some (.int .i8 x6_1) := (blk_cell BK223.out 0).trans rfl; have hcz51_1 : w45.cell? ⟨gb223, 1, none⟩ = some (.int .i8 (IntKind.i8.wrap (x20_2))) := (blk_cell BK223.out 1).trans rfl; have hcz51_2 : w45.cell? ⟨gb223, 2, none⟩ = some (.int .i8 (IntKind.i8.wrap (x26_3))) := (blk_cell BK223.out 2).trans rfl; have hfz51_0 := blk_frozen BK223.out 0; have hfz51_1 := blk_frozen BK223.out 1; have hfz51_2 := blk_frozen BK223.out 2) | (go_at_call 86; (with_reducible refine (impl_Puzzle_isMove.calls _ _ l0_0 a0_1 a0_2 a0_3 a0_4 a0_5 x6_1 (IntKind.i8.wrap (x20_2)) (IntKind.i8.wrap (x26_3)) false _ ?side1 ?side2 A16.out).mono ?_); (case side1 => exact Kd.C_below HR0_0.out (bs_ HB GE229)); (case side2 => exact HC0_0.out); rintro e w52 ⟨rfl, hb⟩; have n0_ := A_ (Kd.R_below (by (with_reducible repeat (first | apply Kd.R_alloc | apply Kd.R_drewN | apply Kd.R_drew)); exact (rf4_ HO_5 BK229 (by decide))) hb); have n1_ := A_ (blk_below (g := gb218) (o := .cells #[.slice A0_0 l0_0.length c0_0, .int .i16 a0_1, .int .i16 a0_2, .int .i16 a0_3, .int .i16 a0_4, .bool a0_5] 32 (0, 0)) (pf_ BK218 NB218_229) hb); have n2_ := A_ (blk_below (g := gb219) (o := .cells #[.int .i16 a1_0, .int .i16 a1_1, .int .i16 a1_2, .int .i16 a1_3] 30 (0, 0)) (pf_ BK219 NB219_229) hb); have n3_ := A_ (blk_below (g := gb223) (o := .cells #[.int .i8 x6_1, .int .i8 (IntKind.i8.wrap (x20_2)), .int .i8 (IntKind.i8.wrap (x26_3))] 60 (0, 0)) (pf_ BK223 NB223_229) hb); have n4_ := A_ (blk_below (g := gb229) (o := .cells #[.int .i16 t224, .int .i16 t225, .int .i16 t226, .int .i16 t227] 30 (0, 0)) (by (with_reducible repeat (first | refine blk_drewN ?_ _ | refine blk_drew ?_ | refine blk_alloc ?_ _)); refine blk_put (cs := #[.int .i16 t224, .int .i16 t225, .int .i16 t226, .int .i16 0]) ?_ 3 _ rfl; (with_reducible repeat (first | refine blk_drewN ?_ _ | refine blk_drew ?_ | refine blk_alloc ?_ _)); refine blk_put (cs := #[.int .i16 t224, .int .i16 t225, .int .i16 0, .int .i16 0]) ?_ 2 _ rfl; (with_reducible repeat (first | refine blk_drewN ?_ _ | refine blk_drew ?_ | refine blk_alloc ?_ _)); refine blk_put (cs := #[.int .i16 t224, .int .i16 0, .int .i16 0, .int .i16 0]) ?_ 1 _ rfl; (with_reducible repeat (first | refine blk_drewN ?_ _ | refine blk_drew ?_ | refine blk_alloc ?_ _)); refine blk_put (cs := #[.int .i16 0, .int .i16 0, .int .i16 0, .int .i16 0]) ?_ 0 _ rfl; (with_reducible repeat (first | refine blk_drewN ?_ _ | refine blk_drew ?_ | refine blk_alloc ?_ _)); exact BK229.out) hb); have n5_ := A_ (below_step (bs_ HB GE229) hb); clear HO_5; clear BK218; clear BK219; clear BK223; clear BK229; clear HB; have HO_5 := n0_; have BK218 := n1_; have BK219 := n2_; have BK223 := n3_; have BK229 := n4_; have HB := n5_; clear n0_ n1_ n2_ n3_ n4_ n5_; (try clear hb); (try clear hb2); (try clear hk); (try clear hi)))
            go_roundg k3
            case measure => have := HK1.out; have := HK2.out; have := HK3.out; omega
            case rel => exact ⟨(x5_3), (wrap64 (x26_3 + 1)), rs_, H', ⟨by have := HK1.out; have := HK2.out; have := HK3.out; omega⟩, ⟨by (with_reducible repeat (first | apply Kd.R_alloc | apply Kd.R_drewN | apply Kd.R_drew)); exact Kd.R_mono HO_5.out (fun _ hk => trivial)⟩, ⟨pl_ BK218⟩, ⟨pl_ BK219⟩, ⟨bl_ HB⟩⟩
          ·replace c15 := Bool.eq_false_iff.mpr c15
           subst c15
           have H1 : (impl_Puzzle_moves.l2 k3 x5_3 x6_1 x20_2 (l0_0.length : Int) x20_2 (l0_0.length : Int) (wrap64 (x26_3 + 1)) l0_0 a0_1 a0_2 a0_3 a0_4 a0_5 a1_0 a1_1 a1_2 a1_3) = some r := by rw [if_neg (show ¬ (false = true) by decide)] at H; exact H
           clear H
           have H := H1
           clear H1
           have H' := Aside0.mk H
           clear H
           go_wp2_with (first | ((with_reducible refine gate_dst (N := 9) rfl ?_); refine box_event ?hg (N := 9) ?hd (cs := #[.int .i8 0, .int .i8 0, .int .i8 0]) (t := 60) ?hr ?_; (case hd => rfl); (case hg => rfl); (case hr => first | (go_simp; done) | (go_simp; rfl)); intro gb223 hg w53 hbox hb; have n0_ := A_ (Kd.R_below (Kd.R_elderB (pr_ HO_5) gb223 (Nat.le_of_eq hg.symm)) hb); have n1_ := A_ (blk_below (pl_ BK218) hb); have n2_ := A_ (blk_below (pl_ BK219) hb); have n3_ := A_ (below_step (bl_ HB) hb); have n4_ := A_ (hbox); have n5_ := A_ ((by rw [hg]; exact (below_size (bl_ HB)) : w.heap.size ≤ gb223)); have n6_ := n5_; have n7_ := A_ ((by rw [hg]; exact Nat.ne_of_lt (blk_lt (pl_ BK218)) : gb218 ≠ gb223)); have n8_ := Aside0.mk n7_.out.symm; have n9_ := A_ ((by rw [hg]; exact Nat.ne_of_lt (blk_lt (pl_ BK219)) : gb219 ≠ gb223)); have n10_ := Aside0.mk n9_.out.symm; clear HO_5; clear BK218; clear BK219; clear HB; have HO_5 := n0_; have BK218 := n1_; have BK219 := n2_; have HB := n3_; have BK223 := n4_; have GW223 := n5_; have GE223 := n6_; have NB218_223 := n7_; have NB223_218 := n8_; have NB219_223 := n9_; have NB223_219 := n10_; clear n0_ n1_ n2_ n3_ n4_ n5_ n6_ n7_ n8_ n9_ n10_; clear hb hbox hg; have hnb54 := NB223_218.out; have hnc54 := NB218_223.out; have hnb55 := NB223_219.out; have hnc55 := NB219_223.out; have hcz56_0 : w53.cell? ⟨gb223, 0, none⟩ = some (.int .i8 0) := (blk_cell BK223.out 0).trans rfl; have hcz56_1 : w53.cell? ⟨gb223, 1, none⟩ = some (.int .i8 0) := (blk_cell BK223.out 1).trans rfl; have hcz56_2 : w53.cell? ⟨gb223, 2, none⟩ = some (.int .i8 0) := (blk_cell BK223.out 2).trans rfl; have hfz56_0 := blk_frozen BK223.out 0; have hfz56_1 := blk_frozen BK223.out 1; have hfz56_2 := blk_frozen BK223.out 2; have hnb57 := NB218_219.out; have hnc57 := NB219_218.out; have hcz58_0 : w53.cell? ⟨gb218, 0, none⟩ = some (.slice A0_0 l0_0.length c0_0) := (blk_cell BK218.out 0).trans rfl; have hcz58_1 : w53.cell? ⟨gb218, 1, none⟩ = some (.int .i16 a0_1) := (blk_cell BK218.out 1).trans rfl; have hcz58_2 : w53.cell? ⟨gb218, 2, none⟩ = some (.int .i16 a0_2) := (blk_cell BK218.out 2).trans rfl; have hcz58_3 : w53.cell? ⟨gb218, 3, none⟩ = some (.int .i16 a0_3) := (blk_cell BK218.out 3).trans rfl; have hcz58_4 : w53.cell? ⟨gb218, 4, none⟩ = some (.int .i16 a0_4) := (blk_cell BK218.out 4).trans rfl; have hcz58_5 : w53.cell? ⟨gb218, 5, none⟩ = some (.bool a0_5) := (blk_cell BK218.out 5).trans rfl; have hfz58_0 := blk_frozen BK218.out 0; have hfz58_1 := blk_frozen BK218.out 1; have hfz58_2 := blk_frozen BK218.out 2; have hfz58_3 := blk_frozen BK218.out 3; have hfz58_4 := blk_frozen BK218.out 4; have hfz58_5 := blk_frozen BK218.out 5; have hcz59_0 : w53.cell? ⟨gb219, 0, none⟩ = some (.int .i16 a1_0) := (blk_cell BK219.out 0).trans rfl; have hcz59_1 : w53.cell? ⟨gb219, 1, none⟩ = some (.int .i16 a1_1) := (blk_cell BK219.out 1).trans rfl; have hcz59_2 : w53.cell? ⟨gb219, 2, none⟩ = some (.int .i16 a1_2) := (blk_cell BK219.out 2).trans rfl; have hcz59_3 : w53.cell? ⟨gb219, 3, none⟩ = some (.int .i16 a1_3) := (blk_cell BK219.out 3).trans rfl; have hfz59_0 := blk_frozen BK219.out 0; have hfz59_1 := blk_frozen BK219.out 1; have hfz59_2 := blk_frozen BK219.out 2; have hfz59_3 := blk_frozen BK219.out 3) | ((with_reducible refine gate_callee (f := 87) rfl ?_); refine goesL_ (some 39) rfl rfl Try.func87 (by kernel_rfl) rfl #[.agg #[.slice A0_0 l0_0.length c0_0, .int .i16 a0_1, .int .i16 a0_2, .int .i16 a0_3, .int .i16 a0_4, .bool a0_5], .agg #[.int .i16 a1_0, .int .i16 a1_1, .int .i16 a1_2, .int .i16 a1_3], .agg #[.int .i8 x6_1, .int .i8 (IntKind.i8.wrap (x20_2)), .int .i8 (IntKind.i8.wrap (x26_3))]] rfl arg_ ?_; (with_reducible refine (impl_Puzzle_moved.calls k3 _ _ l0_0 a0_1 a0_2 a0_3 a0_4 a0_5 a1_0 a1_1 a1_2 a1_3 x6_1 (IntKind.i8.wrap (x20_2)) (IntKind.i8.wrap (x26_3)) t224 t225 t226 t227 false _ ?side1 ?side2 A14.out).mono ?_); (case side1 => exact Kd.C_below HR0_0.out (bs_ HB GE223)); (case side2 => exact HC0_0.out); rintro e w60 ⟨rfl, hb⟩; refine ⟨_, rfl, ?_⟩; have n0_ := A_ (Kd.R_below (by (with_reducible repeat (first | apply Kd.R_alloc | apply Kd.R_drewN | apply Kd.R_drew)); exact (Kd.R_mono (Kd.R_far (p := ⟨gb223, 2, none⟩) (Kd.R_far (p := ⟨gb223, 1, none⟩) (Kd.R_far (p := ⟨gb223, 0, none⟩) (Kd.R_mono HO_5.out (fun k_ hk => (⟨hk, hk.2⟩ : _ ∧ k_ ≠ gb223))) (fun _ hk => hk.2) (.int .i8 x6_1)) (fun _ hk => hk.2) (.int .i8 (IntKind.i8.wrap (x20_2)))) (fun _ hk => hk.2) (.int .i8 (IntKind.i8.wrap (x26_3)))) (fun _ h_ => h_.1))) hb); have n1_ := A_ (blk_below (g := gb218) (o := .cells #[.slice A0_0 l0_0.length c0_0, .int .i16 a0_1, .int .i16 a0_2, .int .i16 a0_3, .int .i16 a0_4, .bool a0_5] 32 (0, 0)) (pf_ BK218 NB218_223) hb); have n2_ := A_ (blk_below (g := gb219) (o := .cells #[.int .i16 a1_0, .int .i16 a1_1, .int .i16 a1_2, .int .i16 a1_3] 30 (0, 0)) (pf_ BK219 NB219_223) hb); have n3_ := A_ (blk_below (g := gb223) (o := .cells #[.int .i8 x6_1, .int .i8 (IntKind.i8.wrap (x20_2)), .int .i8 (IntKind.i8.wrap (x26_3))] 60 (0, 0)) (by (with_reducible repeat (first | refine blk_drewN ?_ _ | refine blk_drew ?_ | refine blk_alloc ?_ _)); refine blk_put (cs := #[.int .i8 x6_1, .int .i8 (IntKind.i8.wrap (x20_2)), .int .i8 0]) ?_ 2 _ rfl; (with_reducible repeat (first | refine blk_drewN ?_ _ | refine blk_drew ?_ | refine blk_alloc ?_ _)); refine blk_put (cs := #[.int .i8 x6_1, .int .i8 0, .int .i8 0]) ?_ 1 _ rfl; (with_reducible repeat (first | refine blk_drewN ?_ _ | refine blk_drew ?_ | refine blk_alloc ?_ _)); refine blk_put (cs := #[.int .i8 0, .int .i8 0, .int .i8 0]) ?_ 0 _ rfl; (with_reducible repeat (first | refine blk_drewN ?_ _ | refine blk_drew ?_ | refine blk_alloc ?_ _)); exact BK223.out) hb); have n4_ := A_ (below_step (bs_ HB GE223) hb); clear HO_5; clear BK218; clear BK219; clear BK223; clear HB; have HO_5 := n0_; have BK218 := n1_; have BK219 := n2_; have BK223 := n3_; have HB := n4_; clear n0_ n1_ n2_ n3_ n4_; (try clear hb); (try clear hb2); (try clear hk); (try clear hi)) | ((with_reducible refine gate_dst (N := 10) rfl ?_); refine box_event ?hg (N := 10) ?hd (cs := #[.int .i16 0, .int .i16 0, .int .i16 0, .int .i16 0]) (t := 30) ?hr ?_; (case hd => rfl); (case hg => rfl); (case hr => first | (go_simp; done) | (go_simp; rfl)); intro gb229 hg w61 hbox hb; have n0_ := A_ (Kd.R_below (pr_ HO_5) hb); have n1_ := A_ (blk_below (pl_ BK218) hb); have n2_ := A_ (blk_below (pl_ BK219) hb); have n3_ := A_ (blk_below (pl_ BK223) hb); have n4_ := A_ (below_step (bl_ HB) hb); have n5_ := A_ (hbox); have n6_ := A_ ((by rw [hg]; exact (below_size (bl_ HB)) : w.heap.size ≤ gb229)); have n7_ := n6_; have n8_ := A_ ((by rw [hg]; exact Nat.ne_of_lt (blk_lt (pl_ BK218)) : gb218 ≠ gb229)); have n9_ := Aside0.mk n8_.out.symm; have n10_ := A_ ((by rw [hg]; exact Nat.ne_of_lt (blk_lt (pl_ BK219)) : gb219 ≠ gb229)); have n11_ := Aside0.mk n10_.out.symm; have n12_ := A_ ((by rw [hg]; exact Nat.ne_of_lt (blk_lt (pl_ BK223)) : gb223 ≠ gb229)); have n13_ := Aside0.mk n12_.out.symm; clear HO_5; clear BK218; clear BK219; clear BK223; clear HB; have HO_5 := n0_; have BK218 := n1_; have BK219 := n2_; have BK223 := n3_; have HB := n4_; have BK229 := n5_; have GW229 := n6_; have GE229 := n7_; have NB218_229 := n8_; have NB229_218 := n9_; have NB219_229 := n10_; have NB229_219 := n11_; have NB223_229 := n12_; have NB229_223 := n13_; clear n0_ n1_ n2_ n3_ n4_ n5_ n6_ n7_ n8_ n9_ n10_ n11_ n12_ n13_; clear hb hbox hg; have hnb62 := NB229_218.out; have hnc62 := NB218_229.out; have hnb63 := NB229_219.out; have hnc63 := NB219_229.out; have hnb64 := NB229_223.out; have hnc64 := NB223_229.out; have hcz65_0 : w61.cell? ⟨gb229, 0, none⟩ = some (.int .i16 0) := (blk_cell BK229.out 0).trans rfl; have hcz65_1 : w61.cell? ⟨gb229, 1, none⟩ = some (.int .i16 0) := (blk_cell BK229.out 1).trans rfl; have hcz65_2 : w61.cell? ⟨gb229, 2, none⟩ = some (.int .i16 0) := (blk_cell BK229.out 2).trans rfl; have hcz65_3 : w61.cell? ⟨gb229, 3, none⟩ = some (.int .i16 0) := (blk_cell BK229.out 3).trans rfl; have hfz65_0 := blk_frozen BK229.out 0; have hfz65_1 := blk_frozen BK229.out 1; have hfz65_2 := blk_frozen BK229.out 2; have hfz65_3 := blk_frozen BK229.out 3))
           go_roundg k3
           case measure => have := HK1.out; have := HK2.out; have := HK3.out; omega
           case rel => exact ⟨(x5_3), (wrap64 (x26_3 + 1)), rs_, H', ⟨by have := HK1.out; have := HK2.out; have := HK3.out; omega⟩, ⟨by (with_reducible repeat (first | apply Kd.R_alloc | apply Kd.R_drewN | apply Kd.R_drew)); exact Kd.R_mono (Kd.R_far (p := ⟨gb229, 3, none⟩) (Kd.R_far (p := ⟨gb229, 2, none⟩) (Kd.R_far (p := ⟨gb229, 1, none⟩) (Kd.R_far (p := ⟨gb229, 0, none⟩) (Kd.R_types HO_5.out BK229.out (by decide)) (fun _ hk => hk.2) (.int .i16 t224)) (fun _ hk => hk.2) (.int .i16 t225)) (fun _ hk => hk.2) (.int .i16 t226)) (fun _ hk => hk.2) (.int .i16 t227)) (fun _ hk => trivial)⟩, ⟨pf_ BK218 NB218_229⟩, ⟨pf_ BK219 NB219_229⟩, ⟨bs_ HB GE229⟩⟩
         ·rw [if_neg c13] at H
          have c13b0 : decide (x26_3 < (l0_0.length : Int)) = false := decide_eq_false c13
          clear c13
          have H' := Aside0.mk H
          clear H
          go_wp2
          go_roundg k3
          case measure => have := HK1.out; have := HK2.out; have := HK3.out; omega
          case rel => exact ⟨(x5_3), (wrap64 (x20_2 + 1)), rs_, H', ⟨by have := HK1.out; have := HK2.out; have := HK3.out; omega⟩, ⟨pr_ HO_5⟩, ⟨pl_ BK218⟩, ⟨pl_ BK219⟩, ⟨bl_ HB⟩⟩
      ·rw [if_neg c10] at H
       have c10b0 : decide (x20_2 < (l0_0.length : Int)) = false := decide_eq_false c10
       clear c10
       have H' := Aside0.mk H
       clear H
       go_wp2
       go_roundg k2
       case measure => have := HK1.out; have := HK2.out; omega
       case rel => exact ⟨(x5_2), (IntKind.i8.wrap (x6_1 + 1)), rs_, H', ⟨by have := HK1.out; have := HK2.out; omega⟩, ⟨pr_ HO_5⟩, ⟨pl_ BK218⟩, ⟨pl_ BK219⟩, ⟨bl_ HB⟩⟩
   ·rw [if_neg c7] at H
    have c7b0 : decide (x6_1 ≤ 2) = false := decide_eq_false c7
    clear c7
    obtain rfl := Option.some.inj H
    go_wp2
    go_ret
    exact ⟨_, by first | rfl | (simp [errW_none, errW_some] <;> rfl) | (simp [*, errW_none, errW_some] <;> rfl), pr_ HO_5, bl_ HB⟩

end Go.Proofs.Ytodmfjophjhbeaa.M
