-- By this seat's own program over the kit's printer (arrays, functions told by hand); nothing of it is trusted: the kernel checks it.
import Derived.Test.YtodmfjophjhbeaaMx0
import Derived.Test.YtodmfjophjhbeaaMx18
import Derived.Test.YtodmfjophjhbeaaMx19
namespace Go.Proofs.Ytodmfjophjhbeaa.M
open Go.RowKit Go.Proofs.YtodmfjophjhbeaaW.PrintWords Go.Proofs.YtodmfjophjhbeaaW.PrintLast Go.Proofs.YtodmfjophjhbeaaW.PrintMore
attribute [local go_sem] max2_int min2_int max_two min_two max_three min_three max_four min_four   -- for this text's walks alone
set_option linter.unusedVariables false
set_option linter.unusedSimpArgs false

/-! ### impl_Puzzle_moves: function 89 -/
mutual
def impl_Puzzle_moves.l0 : Nat → List (S60) → Int → List Int → Int → Int → Int → Int → Bool → Int → Int → Int → Int → Option ((List (S60)))
 | 0, _, _, _, _, _, _, _, _, _, _, _, _ => none
 | k + 1, x5, x6, x237000, x237001, x237002, x237003, x237004, x237005, x238000, x238001, x238002, x238003 => if x6 ≤ 2 then (impl_Puzzle_moves.l1 k x5 x6 (x237000.length : Int) 0 x237000 x237001 x237002 x237003 x237004 x237005 x238000 x238001 x238002 x238003) else (some x5)
def impl_Puzzle_moves.l1 : Nat → List (S60) → Int → Int → Int → List Int → Int → Int → Int → Int → Bool → Int → Int → Int → Int → Option ((List (S60)))
 | 0, _, _, _, _, _, _, _, _, _, _, _, _, _, _ => none
 | k + 1, x5, x6, x19, x20, x237000, x237001, x237002, x237003, x237004, x237005, x238000, x238001, x238002, x238003 => if x20 < x19 then (impl_Puzzle_moves.l2 k x5 x6 x20 x19 x20 (x237000.length : Int) 0 x237000 x237001 x237002 x237003 x237004 x237005 x238000 x238001 x238002 x238003) else (impl_Puzzle_moves.l0 k x5 (IntKind.i8.wrap (x6 + 1)) x237000 x237001 x237002 x237003 x237004 x237005 x238000 x238001 x238002 x238003)
def impl_Puzzle_moves.l2 : Nat → List (S60) → Int → Int → Int → Int → Int → Int → List Int → Int → Int → Int → Int → Bool → Int → Int → Int → Int → Option ((List (S60)))
 | 0, _, _, _, _, _, _, _, _, _, _, _, _, _, _, _, _, _ => none
 | k + 1, x5, x6, x7, x19, x20, x25, x26, x237000, x237001, x237002, x237003, x237004, x237005, x238000, x238001, x238002, x238003 => if x26 < x25 then ((impl_Puzzle_moved.f k x237000 x237001 x237002 x237003 x237004 x237005 x238000 x238001 x238002 x238003 x6 (IntKind.i8.wrap (x7)) (IntKind.i8.wrap (x26))).bind fun bt242 => (if bt242.2.2.2.2 = true then ((impl_Puzzle_isMove.f x237000 x237001 x237002 x237003 x237004 x237005 x6 (IntKind.i8.wrap (x7)) (IntKind.i8.wrap (x26))).bind fun t248 => (if t248 = true then (if x5.length < 46912496118442 then (impl_Puzzle_moves.l2 k (x5 ++ [(⟨x6, IntKind.i8.wrap (x7), IntKind.i8.wrap (x26)⟩ : S60)]) x6 x7 x19 x20 x25 (wrap64 (x26 + 1)) x237000 x237001 x237002 x237003 x237004 x237005 x238000 x238001 x238002 x238003) else (none)) else (impl_Puzzle_moves.l2 k x5 x6 x7 x19 x20 x25 (wrap64 (x26 + 1)) x237000 x237001 x237002 x237003 x237004 x237005 x238000 x238001 x238002 x238003))) else (impl_Puzzle_moves.l2 k x5 x6 x7 x19 x20 x25 (wrap64 (x26 + 1)) x237000 x237001 x237002 x237003 x237004 x237005 x238000 x238001 x238002 x238003))) else (impl_Puzzle_moves.l1 k x5 x6 x19 (wrap64 (x20 + 1)) x237000 x237001 x237002 x237003 x237004 x237005 x238000 x238001 x238002 x238003)
end
def impl_Puzzle_moves.f (k : Nat) (l0_0 : List Int) (a0_1 : Int) (a0_2 : Int) (a0_3 : Int) (a0_4 : Int) (a0_5 : Bool) (a1_0 : Int) (a1_1 : Int) (a1_2 : Int) (a1_3 : Int) : Option ((List (S60))) := impl_Puzzle_moves.l0 k (([] : List (S60))) 0 l0_0 a0_1 a0_2 a0_3 a0_4 a0_5 a1_0 a1_1 a1_2 a1_3
theorem impl_Puzzle_moves.mono_l : ∀ k, (∀ y0 y1 y2 y3 y4 y5 y6 y7 y8 y9 y10 y11, LeO (impl_Puzzle_moves.l0 k y0 y1 y2 y3 y4 y5 y6 y7 y8 y9 y10 y11) (impl_Puzzle_moves.l0 (k + 1) y0 y1 y2 y3 y4 y5 y6 y7 y8 y9 y10 y11)) ∧ (∀ y0 y1 y2 y3 y4 y5 y6 y7 y8 y9 y10 y11 y12 y13, LeO (impl_Puzzle_moves.l1 k y0 y1 y2 y3 y4 y5 y6 y7 y8 y9 y10 y11 y12 y13) (impl_Puzzle_moves.l1 (k + 1) y0 y1 y2 y3 y4 y5 y6 y7 y8 y9 y10 y11 y12 y13)) ∧ (∀ y0 y1 y2 y3 y4 y5 y6 y7 y8 y9 y10 y11 y12 y13 y14 y15 y16, LeO (impl_Puzzle_moves.l2 k y0 y1 y2 y3 y4 y5 y6 y7 y8 y9 y10 y11 y12 y13 y14 y15 y16) (impl_Puzzle_moves.l2 (k + 1) y0 y1 y2 y3 y4 y5 y6 y7 y8 y9 y10 y11 y12 y13 y14 y15 y16))
 | 0 => ⟨fun _ _ _ _ _ _ _ _ _ _ _ _ r h => by simp [impl_Puzzle_moves.l0] at h, fun _ _ _ _ _ _ _ _ _ _ _ _ _ _ r h => by simp [impl_Puzzle_moves.l1] at h, fun _ _ _ _ _ _ _ _ _ _ _ _ _ _ _ _ _ r h => by simp [impl_Puzzle_moves.l2] at h⟩
 | k + 1 => by
  obtain ⟨ih0, ih1, ih2⟩ := impl_Puzzle_moves.mono_l k
  refine ⟨?_, ?_, ?_⟩
  ·intro y0 y1 y2 y3 y4 y5 y6 y7 y8 y9 y10 y11
   unfold impl_Puzzle_moves.l0
   repeat' first
   | (with_reducible exact ih0 _ _ _ _ _ _ _ _ _ _ _ _)
   | (with_reducible exact ih1 _ _ _ _ _ _ _ _ _ _ _ _ _ _)
   | (with_reducible exact ih2 _ _ _ _ _ _ _ _ _ _ _ _ _ _ _ _ _)
   | (with_reducible exact impl_Puzzle_moved.mono _ _ _ _ _ _ _ _ _ _ _ _ _ _)
   | (with_reducible exact LeO.refl _)
   | (with_reducible exact LeO.none _)
   | (with_reducible refine LeO.ite ?_ ?_)
   | (with_reducible refine LeO.bind ?_ (fun _ => ?_))
   | exact ih0 _ _ _ _ _ _ _ _ _ _ _ _
   | exact ih1 _ _ _ _ _ _ _ _ _ _ _ _ _ _
   | exact ih2 _ _ _ _ _ _ _ _ _ _ _ _ _ _ _ _ _
   | exact impl_Puzzle_moved.mono _ _ _ _ _ _ _ _ _ _ _ _ _ _
   | exact LeO.none _
   | refine LeO.ite ?_ ?_
   | refine LeO.bind ?_ (fun _ => ?_)
  ·intro y0 y1 y2 y3 y4 y5 y6 y7 y8 y9 y10 y11 y12 y13
   unfold impl_Puzzle_moves.l1
   repeat' first
   | (with_reducible exact ih0 _ _ _ _ _ _ _ _ _ _ _ _)
   | (with_reducible exact ih1 _ _ _ _ _ _ _ _ _ _ _ _ _ _)
   | (with_reducible exact ih2 _ _ _ _ _ _ _ _ _ _ _ _ _ _ _ _ _)
   | (with_reducible exact impl_Puzzle_moved.mono _ _ _ _ _ _ _ _ _ _ _ _ _ _)
   | (with_reducible exact LeO.refl _)
   | (with_reducible exact LeO.none _)
   | (with_reducible refine LeO.ite ?_ ?_)
   | (with_reducible refine LeO.bind ?_ (fun _ => ?_))
   | exact ih0 _ _ _ _ _ _ _ _ _ _ _ _
   | exact ih1 _ _ _ _ _ _ _ _ _ _ _ _ _ _
   | exact ih2 _ _ _ _ _ _ _ _ _ _ _ _ _ _ _ _ _
   | exact impl_Puzzle_moved.mono _ _ _ _ _ _ _ _ _ _ _ _ _ _
   | exact LeO.none _
   | refine LeO.ite ?_ ?_
   | refine LeO.bind ?_ (fun _ => ?_)
  ·intro y0 y1 y2 y3 y4 y5 y6 y7 y8 y9 y10 y11 y12 y13 y14 y15 y16
   unfold impl_Puzzle_moves.l2
   repeat' first
   | (with_reducible exact ih0 _ _ _ _ _ _ _ _ _ _ _ _)
   | (with_reducible exact ih1 _ _ _ _ _ _ _ _ _ _ _ _ _ _)
   | (with_reducible exact ih2 _ _ _ _ _ _ _ _ _ _ _ _ _ _ _ _ _)
   | (with_reducible exact impl_Puzzle_moved.mono _ _ _ _ _ _ _ _ _ _ _ _ _ _)
   | (with_reducible exact LeO.refl _)
   | (with_reducible exact LeO.none _)
   | (with_reducible refine LeO.ite ?_ ?_)
   | (with_reducible refine LeO.bind ?_ (fun _ => ?_))
   | exact ih0 _ _ _ _ _ _ _ _ _ _ _ _
   | exact ih1 _ _ _ _ _ _ _ _ _ _ _ _ _ _
   | exact ih2 _ _ _ _ _ _ _ _ _ _ _ _ _ _ _ _ _
   | exact impl_Puzzle_moved.mono _ _ _ _ _ _ _ _ _ _ _ _ _ _
   | exact LeO.none _
   | refine LeO.ite ?_ ?_
   | refine LeO.bind ?_ (fun _ => ?_)
theorem impl_Puzzle_moves.mono : ∀ a0 a1 a2 a3 a4 a5 a6 a7 a8 a9 k, LeO (impl_Puzzle_moves.f k a0 a1 a2 a3 a4 a5 a6 a7 a8 a9) (impl_Puzzle_moves.f (k + 1) a0 a1 a2 a3 a4 a5 a6 a7 a8 a9) := by
 intro a0 a1 a2 a3 a4 a5 a6 a7 a8 a9 k
 obtain ⟨ih0, ih1, ih2⟩ := impl_Puzzle_moves.mono_l k
 unfold impl_Puzzle_moves.f
 repeat' first
   | (with_reducible exact ih0 _ _ _ _ _ _ _ _ _ _ _ _)
   | (with_reducible exact ih1 _ _ _ _ _ _ _ _ _ _ _ _ _ _)
   | (with_reducible exact ih2 _ _ _ _ _ _ _ _ _ _ _ _ _ _ _ _ _)
   | (with_reducible exact impl_Puzzle_moved.mono _ _ _ _ _ _ _ _ _ _ _ _ _ _)
   | (with_reducible exact LeO.refl _)
   | (with_reducible exact LeO.none _)
   | (with_reducible refine LeO.ite ?_ ?_)
   | (with_reducible refine LeO.bind ?_ (fun _ => ?_))
   | exact ih0 _ _ _ _ _ _ _ _ _ _ _ _
   | exact ih1 _ _ _ _ _ _ _ _ _ _ _ _ _ _
   | exact ih2 _ _ _ _ _ _ _ _ _ _ _ _ _ _ _ _ _
   | exact impl_Puzzle_moved.mono _ _ _ _ _ _ _ _ _ _ _ _ _ _
   | exact LeO.none _
   | refine LeO.ite ?_ ?_
   | refine LeO.bind ?_ (fun _ => ?_)
set_option maxHeartbeats 8000000 in
set_option maxRecDepth 100000 in
theorem impl_Puzzle_moves.calls (k : Nat) (A0_0 : Option Addr) (c0_0 : Nat) (l0_0 : List Int) (a0_1 : Int) (a0_2 : Int) (a0_3 : Int) (a0_4 : Int) (a0_5 : Bool) (a1_0 : Int) (a1_1 : Int) (a1_2 : Int) (a1_3 : Int) (r : List (S60)) (w : World) (hr0_0 : Kd.C (Kd.int .i16) w A0_0 l0_0.length l0_0) (hc0_0 : l0_0.length ≤ c0_0) (h : impl_Puzzle_moves.f k l0_0 a0_1 a0_2 a0_3 a0_4 a0_5 a1_0 a1_1 a1_2 a1_3 = some r) :
  Calls Try.prog 89 #[.agg #[.slice A0_0 l0_0.length c0_0, .int .i16 a0_1, .int .i16 a0_2, .int .i16 a0_3, .int .i16 a0_4, .bool a0_5], .agg #[.int .i16 a1_0, .int .i16 a1_1, .int .i16 a1_2, .int .i16 a1_3]] w fun e w' => ∃ v0_ : Value, e = .returned (v0_) ∧ Kd.R k60 60 w' w.heap.size (fun _ => True) v0_ r ∧ Below w.heap.size w w' := by
 have hu32 := Try.underlying32
 have hu30 := Try.underlying30
 have hu60 := Try.underlying60
 have HR0_0 := Aside0.mk hr0_0
 have HC0_0 := Aside0.mk hc0_0
 clear hr0_0 hc0_0
 have HB := A_ (Below.refl w.heap.size w)
 have H : (impl_Puzzle_moves.l0 k (([] : List (S60))) 0 l0_0 a0_1 a0_2 a0_3 a0_4 a0_5 a1_0 a1_1 a1_2 a1_3) = some r := h
 clear h
 obtain ⟨y238, hy238⟩ : ∃ y_ : List (S60), y_ = (([] : List (S60))) := ⟨_, rfl⟩
 replace H : (impl_Puzzle_moves.l0 k y238 0 l0_0 a0_1 a0_2 a0_3 a0_4 a0_5 a1_0 a1_1 a1_2 a1_3) = some r := by first | (rw [hy238]; with_reducible exact H) | (have H2_ := (Option.bind_some _ _).symm.trans H; rw [hy238]; with_reducible exact H2_) | (have H2_ := (Option.bind_some _ _).symm.trans H; with_reducible exact H2_) | with_reducible exact H | (rw [hy238]; exact H) | exact H
 have Ny238 := Aside0.mk hy238
 clear hy238
 have H' := Aside0.mk H
 clear H
 go_enter Try.func89, Try.ntmps89
 go_wp2_with (first | ((with_reducible refine gate_dst (N := 2) rfl ?_); refine box_event ?hg (N := 2) ?hd (cs := #[.slice A0_0 l0_0.length c0_0, .int .i16 a0_1, .int .i16 a0_2, .int .i16 a0_3, .int .i16 a0_4, .bool a0_5]) (t := 32) ?hr ?_; (case hd => rfl); (case hg => rfl); (case hr => first | (go_simp; done) | (go_simp; rfl)); intro gb236 hg w3 hbox hb; have n0_ := A_ (below_step (bl_ HB) hb); have n1_ := A_ (hbox); have n2_ := A_ ((by rw [hg]; exact (below_size (bl_ HB)) : w.heap.size ≤ gb236)); have n3_ := n2_; clear HB; have HB := n0_; have BK236 := n1_; have GW236 := n2_; have GE236 := n3_; clear n0_ n1_ n2_ n3_; clear hb hbox hg) | ((with_reducible refine gate_dst (N := 3) rfl ?_); refine box_event ?hg (N := 3) ?hd (cs := #[.int .i16 a1_0, .int .i16 a1_1, .int .i16 a1_2, .int .i16 a1_3]) (t := 30) ?hr ?_; (case hd => rfl); (case hg => rfl); (case hr => first | (go_simp; done) | (go_simp; rfl)); intro gb237 hg w4 hbox hb; have n0_ := A_ (blk_below (pl_ BK236) hb); have n1_ := A_ (below_step (bl_ HB) hb); have n2_ := A_ (hbox); have n3_ := A_ ((by rw [hg]; exact (below_size (bl_ HB)) : w.heap.size ≤ gb237)); have n4_ := n3_; have n5_ := A_ ((by rw [hg]; exact Nat.ne_of_lt (blk_lt (pl_ BK236)) : gb236 ≠ gb237)); have n6_ := Aside0.mk n5_.out.symm; clear BK236; clear HB; have BK236 := n0_; have HB := n1_; have BK237 := n2_; have GW237 := n3_; have GE237 := n4_; have NB236_237 := n5_; have NB237_236 := n6_; clear n0_ n1_ n2_ n3_ n4_ n5_ n6_; clear hb hbox hg) | ((with_reducible refine gate_dst (N := 12) rfl ?_); refine Kd.R_lit k60 _ 60 ?hg (N := 12) ?hd (xs := ([] : List (S60))) (inner := []) (ok := fun _ => True) (okp := fun _ => True) ?hr ?hp (fun _ hk => hk) trivial (Below.refl _ _) (Nat.le_refl _) (by simp) ?_; (case hd => rfl); (case hg => rfl); (case hr => first | (go_simp; done) | (go_simp; rfl)); (case hp => exact (Reps.none _ _)); intro v239 w5 ho6 hb hg_ hnew_; clear hg_ hnew_; (first | rw [← Ny238.out] at ho6 | (simp only [Int.reduceToNat] at ho6; rw [← Ny238.out] at ho6)); have n0_ := A_ (Kd.R_lower ho6 (below_size (bl_ HB))); have n1_ := A_ (blk_below (pl_ BK236) hb); have n2_ := A_ (blk_below (pl_ BK237) hb); have n3_ := A_ (below_step (bl_ HB) hb); clear BK236; clear BK237; clear HB; have HO240 := n0_; have BK236 := n1_; have BK237 := n2_; have HB := n3_; clear n0_ n1_ n2_ n3_; clear hb ho6))
 go_loopg [5, 6] k (fun kq v5 v6 w' => ∃ (x5_1 : List (S60)) (x6_1 : Int), v6 = .int .i8 x6_1 ∧ Aside0 (impl_Puzzle_moves.l0 kq x5_1 x6_1 l0_0 a0_1 a0_2 a0_3 a0_4 a0_5 a1_0 a1_1 a1_2 a1_3 = some r) ∧ Aside0 (kq ≤ k) ∧ Aside0 (Kd.R k60 60 w' w.heap.size (fun _ => True) v5 x5_1) ∧ Aside0 (w'.heap[gb236]? = some (.cells #[(.slice A0_0 l0_0.length c0_0), .int .i16 a0_1, .int .i16 a0_2, .int .i16 a0_3, .int .i16 a0_4, .bool a0_5] 32 (0, 0))) ∧ Aside0 (w'.heap[gb237]? = some (.cells #[.int .i16 a1_0, .int .i16 a1_1, .int .i16 a1_2, .int .i16 a1_3] 30 (0, 0))) ∧ Aside0 (Below w.heap.size w w'))
 case atStart => exact ⟨(y238), (0), rs_, H', ⟨Nat.le_refl _⟩, ⟨pr_ HO240⟩, ⟨pl_ BK236⟩, ⟨pl_ BK237⟩, ⟨bl_ HB⟩⟩
 case round =>
  clear H'
  try clear p2
  obtain ⟨x5_1, x6_1, rfl, HA, HK1, HO_5, BK236, BK237, HB⟩ := hrel
  cases gk with
  | zero => exact absurd HA.out (by simp [impl_Puzzle_moves.l0])
  | succ k1 =>
   have H := HA.out
   clear HA
   simp only [impl_Puzzle_moves.l0] at H
   by_cases c7 : x6_1 ≤ 2
   ·rw [if_pos c7] at H
    have c7b0 : decide (x6_1 ≤ 2) = true := decide_eq_true c7
    clear c7
    have H' := Aside0.mk H
    clear H
    have hnb8 := NB236_237.out
    have hnc8 := NB237_236.out
    obtain ⟨hcz9_0, hcz9_1, hcz9_2, hcz9_3, hcz9_4, hcz9_5, hfz9_0, hfz9_1, hfz9_2, hfz9_3, hfz9_4, hfz9_5⟩ := cl6_ BK236
    go_wp2
    go_loopg [5, 20] k1 (fun kq v5 v20 w' => ∃ (x5_2 : List (S60)) (x20_2 : Int), v20 = .int .i64 x20_2 ∧ Aside0 (impl_Puzzle_moves.l1 kq x5_2 x6_1 (l0_0.length : Int) x20_2 l0_0 a0_1 a0_2 a0_3 a0_4 a0_5 a1_0 a1_1 a1_2 a1_3 = some r) ∧ Aside0 (kq ≤ k1) ∧ Aside0 (Kd.R k60 60 w' w.heap.size (fun _ => True) v5 x5_2) ∧ Aside0 (w'.heap[gb236]? = some (.cells #[(.slice A0_0 l0_0.length c0_0), .int .i16 a0_1, .int .i16 a0_2, .int .i16 a0_3, .int .i16 a0_4, .bool a0_5] 32 (0, 0))) ∧ Aside0 (w'.heap[gb237]? = some (.cells #[.int .i16 a1_0, .int .i16 a1_1, .int .i16 a1_2, .int .i16 a1_3] 30 (0, 0))) ∧ Aside0 (Below w.heap.size w w'))
    case atStart => exact ⟨(x5_1), (0), rs_, H', ⟨Nat.le_refl _⟩, ⟨pr_ HO_5⟩, ⟨pl_ BK236⟩, ⟨pl_ BK237⟩, ⟨bl_ HB⟩⟩
    case round =>
     clear H'
     try clear p2
     try clear c7
     try clear c7b0
     try clear c8
     try clear hcz9_0
     try clear hcz9_1
     try clear hcz9_2
     try clear hcz9_3
     try clear hcz9_4
     try clear hcz9_5
     try clear hfz9_0
     try clear hfz9_1
     try clear hfz9_2
     try clear hfz9_3
     try clear hfz9_4
     try clear hfz9_5
     try clear p2
     obtain ⟨x5_2, x20_2, rfl, HA, HK2, HO_5, BK236, BK237, HB⟩ := hrel
     cases gk with
     | zero => exact absurd HA.out (by simp [impl_Puzzle_moves.l1])
     | succ k2 =>
      have H := HA.out
      clear HA
      simp only [impl_Puzzle_moves.l1] at H
      by_cases c10 : x20_2 < (l0_0.length : Int)
      ·rw [if_pos c10] at H
       have c10b0 : decide (x20_2 < (l0_0.length : Int)) = true := decide_eq_true c10
       clear c10
       have H' := Aside0.mk H
       clear H
       have hnb11 := NB236_237.out
       have hnc11 := NB237_236.out
       obtain ⟨hcz12_0, hcz12_1, hcz12_2, hcz12_3, hcz12_4, hcz12_5, hfz12_0, hfz12_1, hfz12_2, hfz12_3, hfz12_4, hfz12_5⟩ := cl6_ BK236
       go_wp2
       go_loopg [5, 26] k2 (fun kq v5 v26 w' => ∃ (x5_3 : List (S60)) (x26_3 : Int), v26 = .int .i64 x26_3 ∧ Aside0 (impl_Puzzle_moves.l2 kq x5_3 x6_1 x20_2 (l0_0.length : Int) x20_2 (l0_0.length : Int) x26_3 l0_0 a0_1 a0_2 a0_3 a0_4 a0_5 a1_0 a1_1 a1_2 a1_3 = some r) ∧ Aside0 (kq ≤ k2) ∧ Aside0 (Kd.R k60 60 w' w.heap.size (fun _ => True) v5 x5_3) ∧ Aside0 (w'.heap[gb236]? = some (.cells #[(.slice A0_0 l0_0.length c0_0), .int .i16 a0_1, .int .i16 a0_2, .int .i16 a0_3, .int .i16 a0_4, .bool a0_5] 32 (0, 0))) ∧ Aside0 (w'.heap[gb237]? = some (.cells #[.int .i16 a1_0, .int .i16 a1_1, .int .i16 a1_2, .int .i16 a1_3] 30 (0, 0))) ∧ Aside0 (Below w.heap.size w w'))
       case atStart => exact ⟨(x5_2), (0), rs_, H', ⟨Nat.le_refl _⟩, ⟨pr_ HO_5⟩, ⟨pl_ BK236⟩, ⟨pl_ BK237⟩, ⟨bl_ HB⟩⟩
       case round =>
        clear H'
        try clear c1
        try clear p2
        try clear c7
        try clear c7b0
        try clear c8
        try clear c10
        try clear c10b0
        try clear c11
        try clear hcz12_0
        try clear hcz12_1
        try clear hcz12_2
        try clear hcz12_3
        try clear hcz12_4
        try clear hcz12_5
        try clear hcz9_0
        try clear hcz9_1
        try clear hcz9_2
        try clear hcz9_3
        try clear hcz9_4
        try clear hcz9_5
        try clear hfz12_0
        try clear hfz12_1
        try clear hfz12_2
        try clear hfz12_3
        try clear hfz12_4
        try clear hfz12_5
        try clear hfz9_0
        try clear hfz9_1
        try clear hfz9_2
        try clear hfz9_3
        try clear hfz9_4
        try clear hfz9_5
        try clear p2
        obtain ⟨x5_3, x26_3, rfl, HA, HK3, HO_5, BK236, BK237, HB⟩ := hrel
        cases gk with
        | zero => exact absurd HA.out (by simp [impl_Puzzle_moves.l2])
        | succ k3 =>
         have H := HA.out
         clear HA
         simp only [impl_Puzzle_moves.l2] at H
         by_cases c13 : x26_3 < (l0_0.length : Int)
         ·rw [if_pos c13] at H
          have c13b0 : decide (x26_3 < (l0_0.length : Int)) = true := decide_eq_true c13
          clear c13
          replace H := Option.bind_eq_some_iff.mp H
          obtain ⟨⟨t242, t243, t244, t245, t246⟩, A140, H⟩ := H
          replace H : (if t246 = true then ((impl_Puzzle_isMove.f l0_0 a0_1 a0_2 a0_3 a0_4 a0_5 x6_1 (IntKind.i8.wrap (x20_2)) (IntKind.i8.wrap (x26_3))).bind fun t248 => (if t248 = true then (if x5_3.length < 46912496118442 then (impl_Puzzle_moves.l2 k3 (x5_3 ++ [(⟨x6_1, IntKind.i8.wrap (x20_2), IntKind.i8.wrap (x26_3)⟩ : S60)]) x6_1 x20_2 (l0_0.length : Int) x20_2 (l0_0.length : Int) (wrap64 (x26_3 + 1)) l0_0 a0_1 a0_2 a0_3 a0_4 a0_5 a1_0 a1_1 a1_2 a1_3) else (none)) else (impl_Puzzle_moves.l2 k3 x5_3 x6_1 x20_2 (l0_0.length : Int) x20_2 (l0_0.length : Int) (wrap64 (x26_3 + 1)) l0_0 a0_1 a0_2 a0_3 a0_4 a0_5 a1_0 a1_1 a1_2 a1_3))) else (impl_Puzzle_moves.l2 k3 x5_3 x6_1 x20_2 (l0_0.length : Int) x20_2 (l0_0.length : Int) (wrap64 (x26_3 + 1)) l0_0 a0_1 a0_2 a0_3 a0_4 a0_5 a1_0 a1_1 a1_2 a1_3)) = some r := H
          have A14 := Aside0.mk A140
          clear A140
          by_cases c15 : t246 = true
          ·subst c15
           have H1 : ((impl_Puzzle_isMove.f l0_0 a0_1 a0_2 a0_3 a0_4 a0_5 x6_1 (IntKind.i8.wrap (x20_2)) (IntKind.i8.wrap (x26_3))).bind fun t248 => (if t248 = true then (if x5_3.length < 46912496118442 then (impl_Puzzle_moves.l2 k3 (x5_3 ++ [(⟨x6_1, IntKind.i8.wrap (x20_2), IntKind.i8.wrap (x26_3)⟩ : S60)]) x6_1 x20_2 (l0_0.length : Int) x20_2 (l0_0.length : Int) (wrap64 (x26_3 + 1)) l0_0 a0_1 a0_2 a0_3 a0_4 a0_5 a1_0 a1_1 a1_2 a1_3) else (none)) else (impl_Puzzle_moves.l2 k3 x5_3 x6_1 x20_2 (l0_0.length : Int) x20_2 (l0_0.length : Int) (wrap64 (x26_3 + 1)) l0_0 a0_1 a0_2 a0_3 a0_4 a0_5 a1_0 a1_1 a1_2 a1_3))) = some r := by rw [if_pos rfl] at H; exact H
           clear H
           have H := H1
           clear H1
           replace H := Option.bind_eq_some_iff.mp H
           obtain ⟨t248, A160, H⟩ := H
           replace H : (if t248 = true then (if x5_3.length < 46912496118442 then (impl_Puzzle_moves.l2 k3 (x5_3 ++ [(⟨x6_1, IntKind.i8.wrap (x20_2), IntKind.i8.wrap (x26_3)⟩ : S60)]) x6_1 x20_2 (l0_0.length : Int) x20_2 (l0_0.length : Int) (wrap64 (x26_3 + 1)) l0_0 a0_1 a0_2 a0_3 a0_4 a0_5 a1_0 a1_1 a1_2 a1_3) else (none)) else (impl_Puzzle_moves.l2 k3 x5_3 x6_1 x20_2 (l0_0.length : Int) x20_2 (l0_0.length : Int) (wrap64 (x26_3 + 1)) l0_0 a0_1 a0_2 a0_3 a0_4 a0_5 a1_0 a1_1 a1_2 a1_3)) = some r := H
           have A16 := Aside0.mk A160
           clear A160
           by_cases c17 : t248 = true
           ·subst c17
            have H1 : (if x5_3.length < 46912496118442 then (impl_Puzzle_moves.l2 k3 (x5_3 ++ [(⟨x6_1, IntKind.i8.wrap (x20_2), IntKind.i8.wrap (x26_3)⟩ : S60)]) x6_1 x20_2 (l0_0.length : Int) x20_2 (l0_0.length : Int) (wrap64 (x26_3 + 1)) l0_0 a0_1 a0_2 a0_3 a0_4 a0_5 a1_0 a1_1 a1_2 a1_3) else (none)) = some r := by rw [if_pos rfl] at H; exact H
            clear H
            have H := H1
            clear H1
            by_cases c18 : x5_3.length < 46912496118442
            ·rw [if_pos c18] at H
             have LMc18 := Aside0.mk c18
             clear c18
             obtain ⟨y249, hy249⟩ : ∃ y_ : List (S60), y_ = (x5_3 ++ [(⟨x6_1, IntKind.i8.wrap (x20_2), IntKind.i8.wrap (x26_3)⟩ : S60)]) := ⟨_, rfl⟩
             replace H : (impl_Puzzle_moves.l2 k3 y249 x6_1 x20_2 (l0_0.length : Int) x20_2 (l0_0.length : Int) (wrap64 (x26_3 + 1)) l0_0 a0_1 a0_2 a0_3 a0_4 a0_5 a1_0 a1_1 a1_2 a1_3) = some r := by first | (rw [hy249]; with_reducible exact H) | (have H2_ := (Option.bind_some _ _).symm.trans H; rw [hy249]; with_reducible exact H2_) | (have H2_ := (Option.bind_some _ _).symm.trans H; with_reducible exact H2_) | with_reducible exact H | (rw [hy249]; exact H) | exact H
             have Ny249 := Aside0.mk hy249
             clear hy249
             have H' := Aside0.mk H
             clear H
             go_wp2_with (first | ((with_reducible refine gate_dst (N := 9) rfl ?_); refine box_event ?hg (N := 9) ?hd (cs := #[.int .i8 0, .int .i8 0, .int .i8 0]) (t := 60) ?hr ?_; (case hd => rfl); (case hg => rfl); (case hr => first | (go_simp; done) | (go_simp; rfl)); intro gb241 hg w19 hbox hb; have n0_ := A_ (Kd.R_below (Kd.R_elderB (pr_ HO_5) gb241 (Nat.le_of_eq hg.symm)) hb); have n1_ := A_ (blk_below (pl_ BK236) hb); have n2_ := A_ (blk_below (pl_ BK237) hb); have n3_ := A_ (below_step (bl_ HB) hb); have n4_ := A_ (hbox); have n5_ := A_ ((by rw [hg]; exact (below_size (bl_ HB)) : w.heap.size ≤ gb241)); have n6_ := n5_; have n7_ := A_ ((by rw [hg]; exact Nat.ne_of_lt (blk_lt (pl_ BK236)) : gb236 ≠ gb241)); have n8_ := Aside0.mk n7_.out.symm; have n9_ := A_ ((by rw [hg]; exact Nat.ne_of_lt (blk_lt (pl_ BK237)) : gb237 ≠ gb241)); have n10_ := Aside0.mk n9_.out.symm; clear HO_5; clear BK236; clear BK237; clear HB; have HO_5 := n0_; have BK236 := n1_; have BK237 := n2_; have HB := n3_; have BK241 := n4_; have GW241 := n5_; have GE241 := n6_; have NB236_241 := n7_; have NB241_236 := n8_; have NB237_241 := n9_; have NB241_237 := n10_; clear n0_ n1_ n2_ n3_ n4_ n5_ n6_ n7_ n8_ n9_ n10_; clear hb hbox hg; have hnb20 := NB241_236.out; have hnc20 := NB236_241.out; have hnb21 := NB241_237.out; have hnc21 := NB237_241.out; obtain ⟨hcz22_0, hcz22_1, hcz22_2, hfz22_0, hfz22_1, hfz22_2⟩ := cl3_ BK241; have hnb23 := NB236_237.out; have hnc23 := NB237_236.out; obtain ⟨hcz24_0, hcz24_1, hcz24_2, hcz24_3, hcz24_4, hcz24_5, hfz24_0, hfz24_1, hfz24_2, hfz24_3, hfz24_4, hfz24_5⟩ := cl6_ BK236; obtain ⟨hcz25_0, hcz25_1, hcz25_2, hcz25_3, hfz25_0, hfz25_1, hfz25_2, hfz25_3⟩ := cl4_ BK237) | ((with_reducible refine gate_callee (f := 87) rfl ?_); refine goesL_ (some 39) rfl rfl Try.func87 (by kernel_rfl) rfl #[.agg #[.slice A0_0 l0_0.length c0_0, .int .i16 a0_1, .int .i16 a0_2, .int .i16 a0_3, .int .i16 a0_4, .bool a0_5], .agg #[.int .i16 a1_0, .int .i16 a1_1, .int .i16 a1_2, .int .i16 a1_3], .agg #[.int .i8 x6_1, .int .i8 (IntKind.i8.wrap (x20_2)), .int .i8 (IntKind.i8.wrap (x26_3))]] rfl arg_ ?_; (with_reducible refine (impl_Puzzle_moved.calls k3 _ _ l0_0 a0_1 a0_2 a0_3 a0_4 a0_5 a1_0 a1_1 a1_2 a1_3 x6_1 (IntKind.i8.wrap (x20_2)) (IntKind.i8.wrap (x26_3)) t242 t243 t244 t245 true _ ?side1 ?side2 A14.out).mono ?_); (case side1 => exact Kd.C_below HR0_0.out (bs_ HB GE241)); (case side2 => exact HC0_0.out); rintro e w26 ⟨rfl, hb⟩; refine ⟨_, rfl, ?_⟩; have n0_ := A_ (Kd.R_below (by (with_reducible repeat (first | apply Kd.R_alloc | apply Kd.R_drewN | apply Kd.R_drew)); exact (Kd.R_mono (Kd.R_far (p := ⟨gb241, 2, none⟩) (Kd.R_far (p := ⟨gb241, 1, none⟩) (Kd.R_far (p := ⟨gb241, 0, none⟩) (Kd.R_mono HO_5.out (fun k_ hk => (⟨hk, hk.2⟩ : _ ∧ k_ ≠ gb241))) (fun _ hk => hk.2) (.int .i8 x6_1)) (fun _ hk => hk.2) (.int .i8 (IntKind.i8.wrap (x20_2)))) (fun _ hk => hk.2) (.int .i8 (IntKind.i8.wrap (x26_3)))) (fun _ h_ => h_.1))) hb); have n1_ := A_ (blk_below (g := gb236) (o := .cells #[.slice A0_0 l0_0.length c0_0, .int .i16 a0_1, .int .i16 a0_2, .int .i16 a0_3, .int .i16 a0_4, .bool a0_5] 32 (0, 0)) (pf_ BK236 NB236_241) hb); have n2_ := A_ (blk_below (g := gb237) (o := .cells #[.int .i16 a1_0, .int .i16 a1_1, .int .i16 a1_2, .int .i16 a1_3] 30 (0, 0)) (pf_ BK237 NB237_241) hb); have n3_ := A_ (blk_below (g := gb241) (o := .cells #[.int .i8 x6_1, .int .i8 (IntKind.i8.wrap (x20_2)), .int .i8 (IntKind.i8.wrap (x26_3))] 60 (0, 0)) (by (with_reducible repeat (first | refine blk_drewN ?_ _ | refine blk_drew ?_ | refine blk_alloc ?_ _)); refine blk_put (cs := #[.int .i8 x6_1, .int .i8 (IntKind.i8.wrap (x20_2)), .int .i8 0]) ?_ 2 _ rfl; (with_reducible repeat (first | refine blk_drewN ?_ _ | refine blk_drew ?_ | refine blk_alloc ?_ _)); refine blk_put (cs := #[.int .i8 x6_1, .int .i8 0, .int .i8 0]) ?_ 1 _ rfl; (with_reducible repeat (first | refine blk_drewN ?_ _ | refine blk_drew ?_ | refine blk_alloc ?_ _)); refine blk_put (cs := #[.int .i8 0, .int .i8 0, .int .i8 0]) ?_ 0 _ rfl; (with_reducible repeat (first | refine blk_drewN ?_ _ | refine blk_drew ?_ | refine blk_alloc ?_ _)); exact BK241.out) hb); have n4_ := A_ (below_step (bs_ HB GE241) hb); clear HO_5; clear BK236; clear BK237; clear BK241; clear HB; have HO_5 := n0_; have BK236 := n1_; have BK237 := n2_; have BK241 := n3_; have HB := n4_; clear n0_ n1_ n2_ n3_ n4_; (try clear hb); (try clear hb2); (try clear hk); (try clear hi)) | ((with_reducible refine gate_dst (N := 10) rfl ?_); refine box_event ?hg (N := 10) ?hd (cs := #[.int .i16 0, .int .i16 0, .int .i16 0, .int .i16 0]) (t := 30) ?hr ?_; (case hd => rfl); (case hg => rfl); (case hr => first | (go_simp; done) | (go_simp; rfl)); intro gb247 hg w27 hbox hb; have n0_ := A_ (Kd.R_below (pr_ HO_5) hb); have n1_ := A_ (blk_below (pl_ BK236) hb); have n2_ := A_ (blk_below (pl_ BK237) hb); have n3_ := A_ (blk_below (pl_ BK241) hb); have n4_ := A_ (below_step (bl_ HB) hb); have n5_ := A_ (hbox); have n6_ := A_ ((by rw [hg]; exact (below_size (bl_ HB)) : w.heap.size ≤ gb247)); have n7_ := n6_; have n8_ := A_ ((by rw [hg]; exact Nat.ne_of_lt (blk_lt (pl_ BK236)) : gb236 ≠ gb247)); have n9_ := Aside0.mk n8_.out.symm; have n10_ := A_ ((by rw [hg]; exact Nat.ne_of_lt (blk_lt (pl_ BK237)) : gb237 ≠ gb247)); have n11_ := Aside0.mk n10_.out.symm; have n12_ := A_ ((by rw [hg]; exact Nat.ne_of_lt (blk_lt (pl_ BK241)) : gb241 ≠ gb247)); have n13_ := Aside0.mk n12_.out.symm; clear HO_5; clear BK236; clear BK237; clear BK241; clear HB; have HO_5 := n0_; have BK236 := n1_; have BK237 := n2_; have BK241 := n3_; have HB := n4_; have BK247 := n5_; have GW247 := n6_; have GE247 := n7_; have NB236_247 := n8_; have NB247_236 := n9_; have NB237_247 := n10_; have NB247_237 := n11_; have NB241_247 := n12_; have NB247_241 := n13_; clear n0_ n1_ n2_ n3_ n4_ n5_ n6_ n7_ n8_ n9_ n10_ n11_ n12_ n13_; clear hb hbox hg; have hnb28 := NB247_236.out; have hnc28 := NB236_247.out; have hnb29 := NB247_237.out; have hnc29 := NB237_247.out; have hnb30 := NB247_241.out; have hnc30 := NB241_247.out; obtain ⟨hcz31_0, hcz31_1, hcz31_2, hcz31_3, hfz31_0, hfz31_1, hfz31_2, hfz31_3⟩ := cl4_ BK247; obtain ⟨hcz32_0, hcz32_1, hcz32_2, hcz32_3, hcz32_4, hcz32_5, hfz32_0, hfz32_1, hfz32_2, hfz32_3, hfz32_4, hfz32_5⟩ := cl6_ BK236; obtain ⟨hcz33_0, hcz33_1, hcz33_2, hfz33_0, hfz33_1, hfz33_2⟩ := cl3_ BK241) | (go_at_call 86; (with_reducible refine (impl_Puzzle_isMove.calls _ _ l0_0 a0_1 a0_2 a0_3 a0_4 a0_5 x6_1 (IntKind.i8.wrap (x20_2)) (IntKind.i8.wrap (x26_3)) true _ ?side1 ?side2 A16.out).mono ?_); (case side1 => exact Kd.C_below HR0_0.out (bs_ HB GE247)); (case side2 => exact HC0_0.out); rintro e w34 ⟨rfl, hb⟩; have n0_ := A_ (Kd.R_below (by (with_reducible repeat (first | apply Kd.R_alloc | apply Kd.R_drewN | apply Kd.R_drew)); exact (rf4_ HO_5 BK247 (by decide))) hb); have n1_ := A_ (blk_below (g := gb236) (o := .cells #[.slice A0_0 l0_0.length c0_0, .int .i16 a0_1, .int .i16 a0_2, .int .i16 a0_3, .int .i16 a0_4, .bool a0_5] 32 (0, 0)) (pf_ BK236 NB236_247) hb); have n2_ := A_ (blk_below (g := gb237) (o := .cells #[.int .i16 a1_0, .int .i16 a1_1, .int .i16 a1_2, .int .i16 a1_3] 30 (0, 0)) (pf_ BK237 NB237_247) hb); have n3_ := A_ (blk_below (g := gb241) (o := .cells #[.int .i8 x6_1, .int .i8 (IntKind.i8.wrap (x20_2)), .int .i8 (IntKind.i8.wrap (x26_3))] 60 (0, 0)) (pf_ BK241 NB241_247) hb); have n4_ := A_ (blk_below (g := gb247) (o := .cells #[.int .i16 t242, .int .i16 t243, .int .i16 t244, .int .i16 t245] 30 (0, 0)) (by (with_reducible repeat (first | refine blk_drewN ?_ _ | refine blk_drew ?_ | refine blk_alloc ?_ _)); refine blk_put (cs := #[.int .i16 t242, .int .i16 t243, .int .i16 t244, .int .i16 0]) ?_ 3 _ rfl; (with_reducible repeat (first | refine blk_drewN ?_ _ | refine blk_drew ?_ | refine blk_alloc ?_ _)); refine blk_put (cs := #[.int .i16 t242, .int .i16 t243, .int .i16 0, .int .i16 0]) ?_ 2 _ rfl; (with_reducible repeat (first | refine blk_drewN ?_ _ | refine blk_drew ?_ | refine blk_alloc ?_ _)); refine blk_put (cs := #[.int .i16 t242, .int .i16 0, .int .i16 0, .int .i16 0]) ?_ 1 _ rfl; (with_reducible repeat (first | refine blk_drewN ?_ _ | refine blk_drew ?_ | refine blk_alloc ?_ _)); refine blk_put (cs := #[.int .i16 0, .int .i16 0, .int .i16 0, .int .i16 0]) ?_ 0 _ rfl; (with_reducible repeat (first | refine blk_drewN ?_ _ | refine blk_drew ?_ | refine blk_alloc ?_ _)); exact BK247.out) hb); have n5_ := A_ (below_step (bs_ HB GE247) hb); clear HO_5; clear BK236; clear BK237; clear BK241; clear BK247; clear HB; have HO_5 := n0_; have BK236 := n1_; have BK237 := n2_; have BK241 := n3_; have BK247 := n4_; have HB := n5_; clear n0_ n1_ n2_ n3_ n4_ n5_; (try clear hb); (try clear hb2); (try clear hk); (try clear hi); obtain ⟨hcz35_0, hcz35_1, hcz35_2, hfz35_0, hfz35_1, hfz35_2⟩ := cl3_ BK241) | ((with_reducible refine gate_builtin (b := .append) (xs := #[.tmp 48, .tmp 50]) rfl ?_); at_builtin; refine Kd.R_append k60 (w0 := w) w.heap.size rfl (.tmp 48) (.tmp 50) 52 60 (.agg #[(.int .i8 0), (.int .i8 0), (.int .i8 0)]) 3 rfl Try.underlying52 info60 rfl (by decide) (by omega) u5 x5_3 (⟨x6_1, IntKind.i8.wrap (x20_2), IntKind.i8.wrap (x26_3)⟩ : S60) [.int .i8 x6_1, .int .i8 (IntKind.i8.wrap (x20_2)), .int .i8 (IntKind.i8.wrap (x26_3))] (fun k_ => k_ ≠ gb241) (fun _ => False) rfl rfl ?aP (fun _ hk => hk.elim) ?aF ?aO ?aB ?aS ?aL ?_; (case aP => exact k60_mkM _ _ _ (⟨x6_1, IntKind.i8.wrap (x20_2), IntKind.i8.wrap (x26_3)⟩ : S60)); (case aB => exact (bl_ HB)); (case aF => exact (fun k_ hk => Kd.freshB (pl_ BK241) k_ hk)); (case aO => exact (by (with_reducible repeat (first | apply Kd.R_alloc | apply Kd.R_drewN | apply Kd.R_drew)); exact Kd.R_mono HO_5.out (fun _ hk => hk.2))); (case aS => exact (below_size (bl_ HB))); (case aL => have := LMc18.out; omega); intro v250 w36 ho hb hg hat; rw [← Ny249.out] at ho; have n0_ := A_ (blk_grown (pl_ BK236) hg (Kd.R_ne HO_5.out BK236.out (by decide))); have n1_ := A_ (blk_grown (pl_ BK237) hg (Kd.R_ne HO_5.out BK237.out (by decide))); have n2_ := A_ (blk_grown (pl_ BK241) hg (Kd.R_away HO_5.out (fun _ hk => hk.2))); have n3_ := A_ (blk_grown (pl_ BK247) hg (Kd.R_ne HO_5.out BK247.out (by decide))); have n4_ := A_ (hb); have n5_ := A_ (ho); clear BK236; clear BK237; clear BK241; clear BK247; clear HB; clear HO_5; have BK236 := n0_; have BK237 := n1_; have BK241 := n2_; have BK247 := n3_; have HB := n4_; have HO251 := n5_; clear n0_ n1_ n2_ n3_ n4_ n5_; clear ho hb hg hat))
             go_roundg k3
             case measure => have := HK1.out; have := HK2.out; have := HK3.out; omega
             case rel => exact ⟨(y249), (wrap64 (x26_3 + 1)), rs_, H', ⟨by have := HK1.out; have := HK2.out; have := HK3.out; omega⟩, ⟨by (with_reducible repeat (first | apply Kd.R_alloc | apply Kd.R_drewN | apply Kd.R_drew)); exact Kd.R_mono HO251.out (fun _ hk => trivial)⟩, ⟨pl_ BK236⟩, ⟨pl_ BK237⟩, ⟨bl_ HB⟩⟩
            ·rw [if_neg c18] at H
             exact absurd H (by simp)
           ·replace c17 := Bool.eq_false_iff.mpr c17
            subst c17
            have H1 : (impl_Puzzle_moves.l2 k3 x5_3 x6_1 x20_2 (l0_0.length : Int) x20_2 (l0_0.length : Int) (wrap64 (x26_3 + 1)) l0_0 a0_1 a0_2 a0_3 a0_4 a0_5 a1_0 a1_1 a1_2 a1_3) = some r := by rw [if_neg (show ¬ (false = true) by decide)] at H; exact H
            clear H
            have H := H1
            clear H1
            have H' := Aside0.mk H
            clear H
            go_wp2_with (first | ((with_reducible refine gate_dst (N := 9) rfl ?_); refine box_event ?hg (N := 9) ?hd (cs := #[.int .i8 0, .int .i8 0, .int .i8 0]) (t := 60) ?hr ?_; (case hd => rfl); (case hg => rfl); (case hr => first | (go_simp; done) | (go_simp; rfl)); intro gb241 hg w37 hbox hb; have n0_ := A_ (Kd.R_below (Kd.R_elderB (pr_ HO_5) gb241 (Nat.le_of_eq hg.symm)) hb); have n1_ := A_ (blk_below (pl_ BK236) hb); have n2_ := A_ (blk_below (pl_ BK237) hb); have n3_ := A_ (below_step (bl_ HB) hb); have n4_ := A_ (hbox); have n5_ := A_ ((by rw [hg]; exact (below_size (bl_ HB)) : w.heap.size ≤ gb241)); have n6_ := n5_; have n7_ := A_ ((by rw [hg]; exact Nat.ne_of_lt (blk_lt (pl_ BK236)) : gb236 ≠ gb241)); have n8_ := Aside0.mk n7_.out.symm; have n9_ := A_ ((by rw [hg]; exact Nat.ne_of_lt (blk_lt (pl_ BK237)) : gb237 ≠ gb241)); have n10_ := Aside0.mk n9_.out.symm; clear HO_5; clear BK236; clear BK237; clear HB; have HO_5 := n0_; have BK236 := n1_; have BK237 := n2_; have HB := n3_; have BK241 := n4_; have GW241 := n5_; have GE241 := n6_; have NB236_241 := n7_; have NB241_236 := n8_; have NB237_241 := n9_; have NB241_237 := n10_; clear n0_ n1_ n2_ n3_ n4_ n5_ n6_ n7_ n8_ n9_ n10_; clear hb hbox hg; have hnb38 := NB241_236.out; have hnc38 := NB236_241.out; have hnb39 := NB241_237.out; have hnc39 := NB237_241.out; obtain ⟨hcz40_0, hcz40_1, hcz40_2, hfz40_0, hfz40_1, hfz40_2⟩ := cl3_ BK241; have hnb41 := NB236_237.out; have hnc41 := NB237_236.out; obtain ⟨hcz42_0, hcz42_1, hcz42_2, hcz42_3, hcz42_4, hcz42_5, hfz42_0, hfz42_1, hfz42_2, hfz42_3, hfz42_4, hfz42_5⟩ := cl6_ BK236; obtain ⟨hcz43_0, hcz43_1, hcz43_2, hcz43_3, hfz43_0, hfz43_1, hfz43_2, hfz43_3⟩ := cl4_ BK237) | ((with_reducible refine gate_callee (f := 87) rfl ?_); refine goesL_ (some 39) rfl rfl Try.func87 (by kernel_rfl) rfl #[.agg #[.slice A0_0 l0_0.length c0_0, .int .i16 a0_1, .int .i16 a0_2, .int .i16 a0_3, .int .i16 a0_4, .bool a0_5], .agg #[.int .i16 a1_0, .int .i16 a1_1, .int .i16 a1_2, .int .i16 a1_3], .agg #[.int .i8 x6_1, .int .i8 (IntKind.i8.wrap (x20_2)), .int .i8 (IntKind.i8.wrap (x26_3))]] rfl arg_ ?_; (with_reducible refine (impl_Puzzle_moved.calls k3 _ _ l0_0 a0_1 a0_2 a0_3 a0_4 a0_5 a1_0 a1_1 a1_2 a1_3 x6_1 (IntKind.i8.wrap (x20_2)) (IntKind.i8.wrap (x26_3)) t242 t243 t244 t245 true _ ?side1 ?side2 A14.out).mono ?_); (case side1 => exact Kd.C_below HR0_0.out (bs_ HB GE241)); (case side2 => exact HC0_0.out); rintro e w44 ⟨rfl, hb⟩; refine ⟨_, rfl, ?_⟩; have n0_ := A_ (Kd.R_below (by (with_reducible repeat (first | apply Kd.R_alloc | apply Kd.R_drewN | apply Kd.R_drew)); exact (Kd.R_mono (Kd.R_far (p := ⟨gb241, 2, none⟩) (Kd.R_far (p := ⟨gb241, 1, none⟩) (Kd.R_far (p := ⟨gb241, 0, none⟩) (Kd.R_mono HO_5.out (fun k_ hk => (⟨hk, hk.2⟩ : _ ∧ k_ ≠ gb241))) (fun _ hk => hk.2) (.int .i8 x6_1)) (fun _ hk => hk.2) (.int .i8 (IntKind.i8.wrap (x20_2)))) (fun _ hk => hk.2) (.int .i8 (IntKind.i8.wrap (x26_3)))) (fun _ h_ => h_.1))) hb); have n1_ := A_ (blk_below (g := gb236) (o := .cells #[.slice A0_0 l0_0.length c0_0, .int .i16 a0_1, .int .i16 a0_2, .int .i16 a0_3, .int .i16 a0_4, .bool a0_5] 32 (0, 0)) (pf_ BK236 NB236_241) hb); have n2_ := A_ (blk_below (g := gb237) (o := .cells #[.int .i16 a1_0, .int .i16 a1_1, .int .i16 a1_2, .int .i16 a1_3] 30 (0, 0)) (pf_ BK237 NB237_241) hb); have n3_ := A_ (blk_below (g := gb241) (o := .cells #[.int .i8 x6_1, .int .i8 (IntKind.i8.wrap (x20_2)), .int .i8 (IntKind.i8.wrap (x26_3))] 60 (0, 0)) (by (with_reducible repeat (first | refine blk_drewN ?_ _ | refine blk_drew ?_ | refine blk_alloc ?_ _)); refine blk_put (cs := #[.int .i8 x6_1, .int .i8 (IntKind.i8.wrap (x20_2)), .int .i8 0]) ?_ 2 _ rfl; (with_reducible repeat (first | refine blk_drewN ?_ _ | refine blk_drew ?_ | refine blk_alloc ?_ _)); refine blk_put (cs := #[.int .i8 x6_1, .int .i8 0, .int .i8 0]) ?_ 1 _ rfl; (with_reducible repeat (first | refine blk_drewN ?_ _ | refine blk_drew ?_ | refine blk_alloc ?_ _)); refine blk_put (cs := #[.int .i8 0, .int .i8 0, .int .i8 0]) ?_ 0 _ rfl; (with_reducible repeat (first | refine blk_drewN ?_ _ | refine blk_drew ?_ | refine blk_alloc ?_ _)); exact BK241.out) hb); have n4_ := A_ (below_step (bs_ HB GE241) hb); clear HO_5; clear BK236; clear BK237; clear BK241; clear HB; have HO_5 := n0_; have BK236 := n1_; have BK237 := n2_; have BK241 := n3_; have HB := n4_; clear n0_ n1_ n2_ n3_ n4_; (try clear hb); (try clear hb2); (try clear hk); (try clear hi)) | ((with_reducible refine gate_dst (N := 10) rfl ?_); refine box_event ?hg (N := 10) ?hd (cs := #[.int .i16 0, .int .i16 0, .int .i16 0, .int .i16 0]) (t := 30) ?hr ?_; (case hd => rfl); (case hg => rfl); (case hr => first | (go_simp; done) | (go_simp; rfl)); intro gb247 hg w45 hbox hb; have n0_ := A_ (Kd.R_below (pr_ HO_5) hb); have n1_ := A_ (blk_below (pl_ BK236) hb); have n2_ := A_ (blk_below (pl_ BK237) hb); have n3_ := A_ (blk_below (pl_ BK241) hb); have n4_ := A_ (below_step (bl_ HB) hb); have n5_ := A_ (hbox); have n6_ := A_ ((by rw [hg]; exact (below_size (bl_ HB)) : w.heap.size ≤ gb247)); have n7_ := n6_; have n8_ := A_ ((by rw [hg]; exact Nat.ne_of_lt (blk_lt (pl_ BK236)) : gb236 ≠ gb247)); have n9_ := Aside0.mk n8_.out.symm; have n10_ := A_ ((by rw [hg]; exact Nat.ne_of_lt (blk_lt (pl_ BK237)) : gb237 ≠ gb247)); have n11_ := Aside0.mk n10_.out.symm; have n12_ := A_ ((by rw [hg]; exact Nat.ne_of_lt (blk_lt (pl_ BK241)) : gb241 ≠ gb247)); have n13_ := Aside0.mk n12_.out.symm; clear HO_5; clear BK236; clear BK237; clear BK241; clear HB; have HO_5 := n0_; have BK236 := n1_; have BK237 := n2_; have BK241 := n3_; have HB := n4_; have BK247 := n5_; have GW247 := n6_; have GE247 := n7_; have NB236_247 := n8_; have NB247_236 := n9_; have NB237_247 := n10_; have NB247_237 := n11_; have NB241_247 := n12_; have NB247_241 := n13_; clear n0_ n1_ n2_ n3_ n4_ n5_ n6_ n7_ n8_ n9_ n10_ n11_ n12_ n13_; clear hb hbox hg; have hnb46 := NB247_236.out; have hnc46 := NB236_247.out; have hnb47 := NB247_237.out; have hnc47 := NB237_247.out; have hnb48 := NB247_241.out; have hnc48 := NB241_247.out; obtain ⟨hcz49_0, hcz49_1, hcz49_2, hcz49_3, hfz49_0, hfz49_1, hfz49_2, hfz49_3⟩ := cl4_ BK247; obtain ⟨hcz50_0, hcz50_1, hcz50_2, hcz50_3, hcz50_4, hcz50_5, hfz50_0, hfz50_1, hfz50_2, hfz50_3, hfz50_4, hfz50_5⟩ := cl6_ BK236; obtain ⟨hcz51_0, hcz51_1, hcz51_2, hfz51_0, hfz51_1, hfz51_2⟩ := cl3_ BK241) | (go_at_call 86; (with_reducible refine (impl_Puzzle_isMove.calls _ _ l0_0 a0_1 a0_2 a0_3 a0_4 a0_5 x6_1 (IntKind.i8.wrap (x20_2)) (IntKind.i8.wrap (x26_3)) false _ ?side1 ?side2 A16.out).mono ?_); (case side1 => exact Kd.C_below HR0_0.out (bs_ HB GE247)); (case side2 => exact HC0_0.out); rintro e w52 ⟨rfl, hb⟩; have n0_ := A_ (Kd.R_below (by (with_reducible repeat (first | apply Kd.R_alloc | apply Kd.R_drewN | apply Kd.R_drew)); exact (rf4_ HO_5 BK247 (by decide))) hb); have n1_ := A_ (blk_below (g := gb236) (o := .cells #[.slice A0_0 l0_0.length c0_0, .int .i16 a0_1, .int .i16 a0_2, .int .i16 a0_3, .int .i16 a0_4, .bool a0_5] 32 (0, 0)) (pf_ BK236 NB236_247) hb); have n2_ := A_ (blk_below (g := gb237) (o := .cells #[.int .i16 a1_0, .int .i16 a1_1, .int .i16 a1_2, .int .i16 a1_3] 30 (0, 0)) (pf_ BK237 NB237_247) hb); have n3_ := A_ (blk_below (g := gb241) (o := .cells #[.int .i8 x6_1, .int .i8 (IntKind.i8.wrap (x20_2)), .int .i8 (IntKind.i8.wrap (x26_3))] 60 (0, 0)) (pf_ BK241 NB241_247) hb); have n4_ := A_ (blk_below (g := gb247) (o := .cells #[.int .i16 t242, .int .i16 t243, .int .i16 t244, .int .i16 t245] 30 (0, 0)) (by (with_reducible repeat (first | refine blk_drewN ?_ _ | refine blk_drew ?_ | refine blk_alloc ?_ _)); refine blk_put (cs := #[.int .i16 t242, .int .i16 t243, .int .i16 t244, .int .i16 0]) ?_ 3 _ rfl; (with_reducible repeat (first | refine blk_drewN ?_ _ | refine blk_drew ?_ | refine blk_alloc ?_ _)); refine blk_put (cs := #[.int .i16 t242, .int .i16 t243, .int .i16 0, .int .i16 0]) ?_ 2 _ rfl; (with_reducible repeat (first | refine blk_drewN ?_ _ | refine blk_drew ?_ | refine blk_alloc ?_ _)); refine blk_put (cs := #[.int .i16 t242, .int .i16 0, .int .i16 0, .int .i16 0]) ?_ 1 _ rfl; (with_reducible repeat (first | refine blk_drewN ?_ _ | refine blk_drew ?_ | refine blk_alloc ?_ _)); refine blk_put (cs := #[.int .i16 0, .int .i16 0, .int .i16 0, .int .i16 0]) ?_ 0 _ rfl; (with_reducible repeat (first | refine blk_drewN ?_ _ | refine blk_drew ?_ | refine blk_alloc ?_ _)); exact BK247.out) hb); have n5_ := A_ (below_step (bs_ HB GE247) hb); clear HO_5; clear BK236; clear BK237; clear BK241; clear BK247; clear HB; have HO_5 := n0_; have BK236 := n1_; have BK237 := n2_; have BK241 := n3_; have BK247 := n4_; have HB := n5_; clear n0_ n1_ n2_ n3_ n4_ n5_; (try clear hb); (try clear hb2); (try clear hk); (try clear hi)))
            go_roundg k3
            case measure => have := HK1.out; have := HK2.out; have := HK3.out; omega
            case rel => exact ⟨(x5_3), (wrap64 (x26_3 + 1)), rs_, H', ⟨by have := HK1.out; have := HK2.out; have := HK3.out; omega⟩, ⟨by (with_reducible repeat (first | apply Kd.R_alloc | apply Kd.R_drewN | apply Kd.R_drew)); exact Kd.R_mono HO_5.out (fun _ hk => trivial)⟩, ⟨pl_ BK236⟩, ⟨pl_ BK237⟩, ⟨bl_ HB⟩⟩
          ·replace c15 := Bool.eq_false_iff.mpr c15
           subst c15
           have H1 : (impl_Puzzle_moves.l2 k3 x5_3 x6_1 x20_2 (l0_0.length : Int) x20_2 (l0_0.length : Int) (wrap64 (x26_3 + 1)) l0_0 a0_1 a0_2 a0_3 a0_4 a0_5 a1_0 a1_1 a1_2 a1_3) = some r := by rw [if_neg (show ¬ (false = true) by decide)] at H; exact H
           clear H
           have H := H1
           clear H1
           have H' := Aside0.mk H
           clear H
           go_wp2_with (first | ((with_reducible refine gate_dst (N := 9) rfl ?_); refine box_event ?hg (N := 9) ?hd (cs := #[.int .i8 0, .int .i8 0, .int .i8 0]) (t := 60) ?hr ?_; (case hd => rfl); (case hg => rfl); (case hr => first | (go_simp; done) | (go_simp; rfl)); intro gb241 hg w53 hbox hb; have n0_ := A_ (Kd.R_below (Kd.R_elderB (pr_ HO_5) gb241 (Nat.le_of_eq hg.symm)) hb); have n1_ := A_ (blk_below (pl_ BK236) hb); have n2_ := A_ (blk_below (pl_ BK237) hb); have n3_ := A_ (below_step (bl_ HB) hb); have n4_ := A_ (hbox); have n5_ := A_ ((by rw [hg]; exact (below_size (bl_ HB)) : w.heap.size ≤ gb241)); have n6_ := n5_; have n7_ := A_ ((by rw [hg]; exact Nat.ne_of_lt (blk_lt (pl_ BK236)) : gb236 ≠ gb241)); have n8_ := Aside0.mk n7_.out.symm; have n9_ := A_ ((by rw [hg]; exact Nat.ne_of_lt (blk_lt (pl_ BK237)) : gb237 ≠ gb241)); have n10_ := Aside0.mk n9_.out.symm; clear HO_5; clear BK236; clear BK237; clear HB; have HO_5 := n0_; have BK236 := n1_; have BK237 := n2_; have HB := n3_; have BK241 := n4_; have GW241 := n5_; have GE241 := n6_; have NB236_241 := n7_; have NB241_236 := n8_; have NB237_241 := n9_; have NB241_237 := n10_; clear n0_ n1_ n2_ n3_ n4_ n5_ n6_ n7_ n8_ n9_ n10_; clear hb hbox hg; have hnb54 := NB241_236.out; have hnc54 := NB236_241.out; have hnb55 := NB241_237.out; have hnc55 := NB237_241.out; obtain ⟨hcz56_0, hcz56_1, hcz56_2, hfz56_0, hfz56_1, hfz56_2⟩ := cl3_ BK241; have hnb57 := NB236_237.out; have hnc57 := NB237_236.out; obtain ⟨hcz58_0, hcz58_1, hcz58_2, hcz58_3, hcz58_4, hcz58_5, hfz58_0, hfz58_1, hfz58_2, hfz58_3, hfz58_4, hfz58_5⟩ := cl6_ BK236; obtain ⟨hcz59_0, hcz59_1, hcz59_2, hcz59_3, hfz59_0, hfz59_1, hfz59_2, hfz59_3⟩ := cl4_ BK237) | ((with_reducible refine gate_callee (f := 87) rfl ?_); refine goesL_ (some 39) rfl rfl Try.func87 (by kernel_rfl) rfl #[.agg #[.slice A0_0 l0_0.length c0_0, .int .i16 a0_1, .int .i16 a0_2, .int .i16 a0_3, .int .i16 a0_4, .bool a0_5], .agg #[.int .i16 a1_0, .int .i16 a1_1, .int .i16 a1_2, .int .i16 a1_3], .agg #[.int .i8 x6_1, .int .i8 (IntKind.i8.wrap (x20_2)), .int .i8 (IntKind.i8.wrap (x26_3))]] rfl arg_ ?_; (with_reducible refine (impl_Puzzle_moved.calls k3 _ _ l0_0 a0_1 a0_2 a0_3 a0_4 a0_5 a1_0 a1_1 a1_2 a1_3 x6_1 (IntKind.i8.wrap (x20_2)) (IntKind.i8.wrap (x26_3)) t242 t243 t244 t245 false _ ?side1 ?side2 A14.out).mono ?_); (case side1 => exact Kd.C_below HR0_0.out (bs_ HB GE241)); (case side2 => exact HC0_0.out); rintro e w60 ⟨rfl, hb⟩; refine ⟨_, rfl, ?_⟩; have n0_ := A_ (Kd.R_below (by (with_reducible repeat (first | apply Kd.R_alloc | apply Kd.R_drewN | apply Kd.R_drew)); exact (Kd.R_mono (Kd.R_far (p := ⟨gb241, 2, none⟩) (Kd.R_far (p := ⟨gb241, 1, none⟩) (Kd.R_far (p := ⟨gb241, 0, none⟩) (Kd.R_mono HO_5.out (fun k_ hk => (⟨hk, hk.2⟩ : _ ∧ k_ ≠ gb241))) (fun _ hk => hk.2) (.int .i8 x6_1)) (fun _ hk => hk.2) (.int .i8 (IntKind.i8.wrap (x20_2)))) (fun _ hk => hk.2) (.int .i8 (IntKind.i8.wrap (x26_3)))) (fun _ h_ => h_.1))) hb); have n1_ := A_ (blk_below (g := gb236) (o := .cells #[.slice A0_0 l0_0.length c0_0, .int .i16 a0_1, .int .i16 a0_2, .int .i16 a0_3, .int .i16 a0_4, .bool a0_5] 32 (0, 0)) (pf_ BK236 NB236_241) hb); have n2_ := A_ (blk_below (g := gb237) (o := .cells #[.int .i16 a1_0, .int .i16 a1_1, .int .i16 a1_2, .int .i16 a1_3] 30 (0, 0)) (pf_ BK237 NB237_241) hb); have n3_ := A_ (blk_below (g := gb241) (o := .cells #[.int .i8 x6_1, .int .i8 (IntKind.i8.wrap (x20_2)), .int .i8 (IntKind.i8.wrap (x26_3))] 60 (0, 0)) (by (with_reducible repeat (first | refine blk_drewN ?_ _ | refine blk_drew ?_ | refine blk_alloc ?_ _)); refine blk_put (cs := #[.int .i8 x6_1, .int .i8 (IntKind.i8.wrap (x20_2)), .int .i8 0]) ?_ 2 _ rfl; (with_reducible repeat (first | refine blk_drewN ?_ _ | refine blk_drew ?_ | refine blk_alloc ?_ _)); refine blk_put (cs := #[.int .i8 x6_1, .int .i8 0, .int .i8 0]) ?_ 1 _ rfl; (with_reducible repeat (first | refine blk_drewN ?_ _ | refine blk_drew ?_ | refine blk_alloc ?_ _)); refine blk_put (cs := #[.int .i8 0, .int .i8 0, .int .i8 0]) ?_ 0 _ rfl; (with_reducible repeat (first | refine blk_drewN ?_ _ | refine blk_drew ?_ | refine blk_alloc ?_ _)); exact BK241.out) hb); have n4_ := A_ (below_step (bs_ HB GE241) hb); clear HO_5; clear BK236; clear BK237; clear BK241; clear HB; have HO_5 := n0_; have BK236 := n1_; have BK237 := n2_; have BK241 := n3_; have HB := n4_; clear n0_ n1_ n2_ n3_ n4_; (try clear hb); (try clear hb2); (try clear hk); (try clear hi)) | ((with_reducible refine gate_dst (N := 10) rfl ?_); refine box_event ?hg (N := 10) ?hd (cs := #[.int .i16 0, .int .i16 0, .int .i16 0, .int .i16 0]) (t := 30) ?hr ?_; (case hd => rfl); (case hg => rfl); (case hr => first | (go_simp; done) | (go_simp; rfl)); intro gb247 hg w61 hbox hb; have n0_ := A_ (Kd.R_below (pr_ HO_5) hb); have n1_ := A_ (blk_below (pl_ BK236) hb); have n2_ := A_ (blk_below (pl_ BK237) hb); have n3_ := A_ (blk_below (pl_ BK241) hb); have n4_ := A_ (below_step (bl_ HB) hb); have n5_ := A_ (hbox); have n6_ := A_ ((by rw [hg]; exact (below_size (bl_ HB)) : w.heap.size ≤ gb247)); have n7_ := n6_; have n8_ := A_ ((by rw [hg]; exact Nat.ne_of_lt (blk_lt (pl_ BK236)) : gb236 ≠ gb247)); have n9_ := Aside0.mk n8_.out.symm; have n10_ := A_ ((by rw [hg]; exact Nat.ne_of_lt (blk_lt (pl_ BK237)) : gb237 ≠ gb247)); have n11_ := Aside0.mk n10_.out.symm; have n12_ := A_ ((by rw [hg]; exact Nat.ne_of_lt (blk_lt (pl_ BK241)) : gb241 ≠ gb247)); have n13_ := Aside0.mk n12_.out.symm; clear HO_5; clear BK236; clear BK237; clear BK241; clear HB; have HO_5 := n0_; have BK236 := n1_; have BK237 := n2_; have BK241 := n3_; have HB := n4_; have BK247 := n5_; have GW247 := n6_; have GE247 := n7_; have NB236_247 := n8_; have NB247_236 := n9_; have NB237_247 := n10_; have NB247_237 := n11_; have NB241_247 := n12_; have NB247_241 := n13_; clear n0_ n1_ n2_ n3_ n4_ n5_ n6_ n7_ n8_ n9_ n10_ n11_ n12_ n13_; clear hb hbox hg; have hnb62 := NB247_236.out; have hnc62 := NB236_247.out; have hnb63 := NB247_237.out; have hnc63 := NB237_247.out; have hnb64 := NB247_241.out; have hnc64 := NB241_247.out; obtain ⟨hcz65_0, hcz65_1, hcz65_2, hcz65_3, hfz65_0, hfz65_1, hfz65_2, hfz65_3⟩ := cl4_ BK247))
           go_roundg k3
           case measure => have := HK1.out; have := HK2.out; have := HK3.out; omega
           case rel => exact ⟨(x5_3), (wrap64 (x26_3 + 1)), rs_, H', ⟨by have := HK1.out; have := HK2.out; have := HK3.out; omega⟩, ⟨by (with_reducible repeat (first | apply Kd.R_alloc | apply Kd.R_drewN | apply Kd.R_drew)); exact Kd.R_mono (Kd.R_far (p := ⟨gb247, 3, none⟩) (Kd.R_far (p := ⟨gb247, 2, none⟩) (Kd.R_far (p := ⟨gb247, 1, none⟩) (Kd.R_far (p := ⟨gb247, 0, none⟩) (Kd.R_types HO_5.out BK247.out (by decide)) (fun _ hk => hk.2) (.int .i16 t242)) (fun _ hk => hk.2) (.int .i16 t243)) (fun _ hk => hk.2) (.int .i16 t244)) (fun _ hk => hk.2) (.int .i16 t245)) (fun _ hk => trivial)⟩, ⟨pf_ BK236 NB236_247⟩, ⟨pf_ BK237 NB237_247⟩, ⟨bs_ HB GE247⟩⟩
         ·rw [if_neg c13] at H
          have c13b0 : decide (x26_3 < (l0_0.length : Int)) = false := decide_eq_false c13
          clear c13
          have H' := Aside0.mk H
          clear H
          go_wp2
          go_roundg k3
          case measure => have := HK1.out; have := HK2.out; have := HK3.out; omega
          case rel => exact ⟨(x5_3), (wrap64 (x20_2 + 1)), rs_, H', ⟨by have := HK1.out; have := HK2.out; have := HK3.out; omega⟩, ⟨pr_ HO_5⟩, ⟨pl_ BK236⟩, ⟨pl_ BK237⟩, ⟨bl_ HB⟩⟩
      ·rw [if_neg c10] at H
       have c10b0 : decide (x20_2 < (l0_0.length : Int)) = false := decide_eq_false c10
       clear c10
       have H' := Aside0.mk H
       clear H
       go_wp2
       go_roundg k2
       case measure => have := HK1.out; have := HK2.out; omega
       case rel => exact ⟨(x5_2), (IntKind.i8.wrap (x6_1 + 1)), rs_, H', ⟨by have := HK1.out; have := HK2.out; omega⟩, ⟨pr_ HO_5⟩, ⟨pl_ BK236⟩, ⟨pl_ BK237⟩, ⟨bl_ HB⟩⟩
   ·rw [if_neg c7] at H
    have c7b0 : decide (x6_1 ≤ 2) = false := decide_eq_false c7
    clear c7
    obtain rfl := Option.some.inj H
    go_wp2
    go_ret
    exact ⟨_, by first | rfl | (simp [errW_none, errW_some] <;> rfl) | (simp [*, errW_none, errW_some] <;> rfl), pr_ HO_5, bl_ HB⟩

end Go.Proofs.Ytodmfjophjhbeaa.M
