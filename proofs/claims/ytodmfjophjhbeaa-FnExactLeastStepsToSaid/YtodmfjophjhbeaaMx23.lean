-- By this seat's own program over the kit's printer (arrays, functions told by hand); nothing of it is trusted: the kernel checks it.
import Derived.Test.YtodmfjophjhbeaaMx0
import Derived.Test.YtodmfjophjhbeaaMx2
import Derived.Test.YtodmfjophjhbeaaMx14
import Derived.Test.YtodmfjophjhbeaaMx17
import Derived.Test.YtodmfjophjhbeaaMx21
import Derived.Test.YtodmfjophjhbeaaMx22
namespace Go.Proofs.Ytodmfjophjhbeaa.M
open Go.RowKit Go.Proofs.YtodmfjophjhbeaaW.PrintWords Go.Proofs.YtodmfjophjhbeaaW.PrintLast Go.Proofs.YtodmfjophjhbeaaW.PrintMore
attribute [local go_sem] max2_int min2_int max_two min_two max_three min_three max_four min_four   -- for this text's walks alone
set_option linter.unusedVariables false
set_option linter.unusedSimpArgs false

/-! ### impl_LeastStepsTo: function 20 -/
mutual
def impl_LeastStepsTo.j0 : Nat → List Int → Int → Bool → List Int → Int → Int → Int → Int → Bool → Option (Int × Int)
 | 0, _, _, _, _, _, _, _, _, _ => none
 | k + 1, x1, x2, x19, x288000, x288001, x288002, x288003, x288004, x288005 => if x19 = true then (some (0, 2)) else ((impl_Puzzle_broken.f k x288000 x288001 x288002 x288003 x288004 x288005 x1).bind fun t290 => (if t290 ≥ 0 then (some (0, 8)) else ((impl_Puzzle_states.f k x288000 x288001 x288002 x288003 x288004 x288005).bind fun t291 => (impl_LeastStepsTo.l0 k x1 x2 (-1) t291 0 x288000 x288001 x288002 x288003 x288004 x288005))))
def impl_LeastStepsTo.l0 : Nat → List Int → Int → Int → Int → Int → List Int → Int → Int → Int → Int → Bool → Option (Int × Int)
 | 0, _, _, _, _, _, _, _, _, _, _, _ => none
 | k + 1, x1, x2, x9, x33, x34, x288000, x288001, x288002, x288003, x288004, x288005 => if x34 < x33 then (if 0 ≤ x34 then (if x34 < (x1.length : Int) then (if (wrap64 (rd x1 x34)) ≥ 0 then ((impl_Puzzle_at.f k x288000 x288001 x288002 x288003 x288004 x288005 x34).bind fun bt293 => ((impl_Puzzle_hasAmount.f k x288000 x288001 x288002 x288003 x288004 x288005 bt293.1 bt293.2.1 bt293.2.2.1 bt293.2.2.2 x2).bind fun t297 => (if t297 = true then (if x9 < 0 then (impl_LeastStepsTo.l0 k x1 x2 (wrap64 (rd x1 x34)) x33 (wrap64 (x34 + 1)) x288000 x288001 x288002 x288003 x288004 x288005) else (if (wrap64 (rd x1 x34)) < x9 then (impl_LeastStepsTo.l0 k x1 x2 (wrap64 (rd x1 x34)) x33 (wrap64 (x34 + 1)) x288000 x288001 x288002 x288003 x288004 x288005) else (impl_LeastStepsTo.l0 k x1 x2 x9 x33 (wrap64 (x34 + 1)) x288000 x288001 x288002 x288003 x288004 x288005))) else (impl_LeastStepsTo.l0 k x1 x2 x9 x33 (wrap64 (x34 + 1)) x288000 x288001 x288002 x288003 x288004 x288005)))) else (impl_LeastStepsTo.l0 k x1 x2 x9 x33 (wrap64 (x34 + 1)) x288000 x288001 x288002 x288003 x288004 x288005)) else (none)) else (none)) else (if x9 < 0 then (some (0, 6)) else (some (x9, 0)))
end
def impl_LeastStepsTo.f (k : Nat) (l0_0 : List Int) (a0_1 : Int) (a0_2 : Int) (a0_3 : Int) (a0_4 : Int) (a0_5 : Bool) (l1 : List Int) (a2 : Int) : Option (Int × Int) := (impl_tableCode.f k l0_0 a0_1 a0_2 a0_3 a0_4 a0_5 l1).bind fun t288 => (if t288 = 1 then (some (0, t288)) else (if t288 = 0 then ((impl_within.f a2 0 60).bind fun t289 => (impl_LeastStepsTo.j0 k l1 a2 (!t289) l0_0 a0_1 a0_2 a0_3 a0_4 a0_5)) else (impl_LeastStepsTo.j0 k l1 a2 true l0_0 a0_1 a0_2 a0_3 a0_4 a0_5)))
theorem impl_LeastStepsTo.mono_l : ∀ k, (∀ y0 y1 y2 y3 y4 y5 y6 y7 y8, LeO (impl_LeastStepsTo.j0 k y0 y1 y2 y3 y4 y5 y6 y7 y8) (impl_LeastStepsTo.j0 (k + 1) y0 y1 y2 y3 y4 y5 y6 y7 y8)) ∧ (∀ y0 y1 y2 y3 y4 y5 y6 y7 y8 y9 y10, LeO (impl_LeastStepsTo.l0 k y0 y1 y2 y3 y4 y5 y6 y7 y8 y9 y10) (impl_LeastStepsTo.l0 (k + 1) y0 y1 y2 y3 y4 y5 y6 y7 y8 y9 y10))
 | 0 => ⟨fun _ _ _ _ _ _ _ _ _ r h => by simp [impl_LeastStepsTo.j0] at h, fun _ _ _ _ _ _ _ _ _ _ _ r h => by simp [impl_LeastStepsTo.l0] at h⟩
 | k + 1 => by
  obtain ⟨ih0, ih1⟩ := impl_LeastStepsTo.mono_l k
  refine ⟨?_, ?_⟩
  ·intro y0 y1 y2 y3 y4 y5 y6 y7 y8
   unfold impl_LeastStepsTo.j0
   repeat' first
   | (with_reducible exact ih0 _ _ _ _ _ _ _ _ _)
   | (with_reducible exact ih1 _ _ _ _ _ _ _ _ _ _ _)
   | (with_reducible exact impl_Puzzle_at.mono _ _ _ _ _ _ _ _)
   | (with_reducible exact impl_Puzzle_broken.mono _ _ _ _ _ _ _ _)
   | (with_reducible exact impl_Puzzle_hasAmount.mono _ _ _ _ _ _ _ _ _ _ _ _)
   | (with_reducible exact impl_Puzzle_states.mono _ _ _ _ _ _ _)
   | (with_reducible exact impl_tableCode.mono _ _ _ _ _ _ _ _)
   | (with_reducible exact LeO.refl _)
   | (with_reducible exact LeO.none _)
   | (with_reducible refine LeO.ite ?_ ?_)
   | (with_reducible refine LeO.bind ?_ (fun _ => ?_))
   | exact ih0 _ _ _ _ _ _ _ _ _
   | exact ih1 _ _ _ _ _ _ _ _ _ _ _
   | exact impl_Puzzle_at.mono _ _ _ _ _ _ _ _
   | exact impl_Puzzle_broken.mono _ _ _ _ _ _ _ _
   | exact impl_Puzzle_hasAmount.mono _ _ _ _ _ _ _ _ _ _ _ _
   | exact impl_Puzzle_states.mono _ _ _ _ _ _ _
   | exact impl_tableCode.mono _ _ _ _ _ _ _ _
   | exact LeO.none _
   | refine LeO.ite ?_ ?_
   | refine LeO.bind ?_ (fun _ => ?_)
  ·intro y0 y1 y2 y3 y4 y5 y6 y7 y8 y9 y10
   unfold impl_LeastStepsTo.l0
   repeat' first
   | (with_reducible exact ih0 _ _ _ _ _ _ _ _ _)
   | (with_reducible exact ih1 _ _ _ _ _ _ _ _ _ _ _)
   | (with_reducible exact impl_Puzzle_at.mono _ _ _ _ _ _ _ _)
   | (with_reducible exact impl_Puzzle_broken.mono _ _ _ _ _ _ _ _)
   | (with_reducible exact impl_Puzzle_hasAmount.mono _ _ _ _ _ _ _ _ _ _ _ _)
   | (with_reducible exact impl_Puzzle_states.mono _ _ _ _ _ _ _)
   | (with_reducible exact impl_tableCode.mono _ _ _ _ _ _ _ _)
   | (with_reducible exact LeO.refl _)
   | (with_reducible exact LeO.none _)
   | (with_reducible refine LeO.ite ?_ ?_)
   | (with_reducible refine LeO.bind ?_ (fun _ => ?_))
   | exact ih0 _ _ _ _ _ _ _ _ _
   | exact ih1 _ _ _ _ _ _ _ _ _ _ _
   | exact impl_Puzzle_at.mono _ _ _ _ _ _ _ _
   | exact impl_Puzzle_broken.mono _ _ _ _ _ _ _ _
   | exact impl_Puzzle_hasAmount.mono _ _ _ _ _ _ _ _ _ _ _ _
   | exact impl_Puzzle_states.mono _ _ _ _ _ _ _
   | exact impl_tableCode.mono _ _ _ _ _ _ _ _
   | exact LeO.none _
   | refine LeO.ite ?_ ?_
   | refine LeO.bind ?_ (fun _ => ?_)
theorem impl_LeastStepsTo.mono : ∀ a0 a1 a2 a3 a4 a5 a6 a7 k, LeO (impl_LeastStepsTo.f k a0 a1 a2 a3 a4 a5 a6 a7) (impl_LeastStepsTo.f (k + 1) a0 a1 a2 a3 a4 a5 a6 a7) := by
 intro a0 a1 a2 a3 a4 a5 a6 a7 k
 obtain ⟨ih0, ih1⟩ := impl_LeastStepsTo.mono_l k
 unfold impl_LeastStepsTo.f
 repeat' first
   | (with_reducible exact ih0 _ _ _ _ _ _ _ _ _)
   | (with_reducible exact ih1 _ _ _ _ _ _ _ _ _ _ _)
   | (with_reducible exact impl_Puzzle_at.mono _ _ _ _ _ _ _ _)
   | (with_reducible exact impl_Puzzle_broken.mono _ _ _ _ _ _ _ _)
   | (with_reducible exact impl_Puzzle_hasAmount.mono _ _ _ _ _ _ _ _ _ _ _ _)
   | (with_reducible exact impl_Puzzle_states.mono _ _ _ _ _ _ _)
   | (with_reducible exact impl_tableCode.mono _ _ _ _ _ _ _ _)
   | (with_reducible exact LeO.refl _)
   | (with_reducible exact LeO.none _)
   | (with_reducible refine LeO.ite ?_ ?_)
   | (with_reducible refine LeO.bind ?_ (fun _ => ?_))
   | exact ih0 _ _ _ _ _ _ _ _ _
   | exact ih1 _ _ _ _ _ _ _ _ _ _ _
   | exact impl_Puzzle_at.mono _ _ _ _ _ _ _ _
   | exact impl_Puzzle_broken.mono _ _ _ _ _ _ _ _
   | exact impl_Puzzle_hasAmount.mono _ _ _ _ _ _ _ _ _ _ _ _
   | exact impl_Puzzle_states.mono _ _ _ _ _ _ _
   | exact impl_tableCode.mono _ _ _ _ _ _ _ _
   | exact LeO.none _
   | refine LeO.ite ?_ ?_
   | refine LeO.bind ?_ (fun _ => ?_)
def impl_LeastStepsTo.T13 : Bool × List (List Nat × List Nat) := (true, [([], []), ([0], [0]), ([1], [1]), ([2], [2]), ([2], [2]), ([2], [2]), ([4, 5, 2, 2], [2, 4, 5]), ([2], [2]), ([3, 6, 7, 6, 2], [2, 3, 6, 7]), ([2, 8], [2, 8]), ([9, 8], [9]), ([10], [10]), ([11, 10], [10, 11]), ([12, 10, 10], [10, 12]), ([13], [13]), ([13], [13]), ([14, 15, 13], [13, 14, 15]), ([13, 16, 10], [10, 13, 16]), ([10, 17], [10, 17])])
def impl_LeastStepsTo.B13 : List Nat := [0, 1, 3, 7, 7, 7, 55, 7, 255, 511, 1023, 2047, 4095, 8191, 16383, 16383, 65535, 131071, 262143]
theorem impl_LeastStepsTo.tab13 : rtab .any (opsOf Try.f20 13) = impl_LeastStepsTo.T13 := by kernel_rfl
theorem impl_LeastStepsTo.bits13 : waitsOk impl_LeastStepsTo.T13.2 impl_LeastStepsTo.B13 = true := by kernel_rfl
set_option maxHeartbeats 8000000 in
set_option maxRecDepth 100000 in
theorem impl_LeastStepsTo.calls (k : Nat) (A0_0 : Option Addr) (c0_0 : Nat) (l0_0 : List Int) (a0_1 : Int) (a0_2 : Int) (a0_3 : Int) (a0_4 : Int) (a0_5 : Bool) (A1 : Option Addr) (c1 : Nat) (l1 : List Int) (a2 : Int) (r1 : Int) (r2 : Int) (w : World) (hr0_0 : Kd.C (Kd.int .i16) w A0_0 l0_0.length l0_0) (hc0_0 : l0_0.length ≤ c0_0) (hr1 : Kd.C (Kd.int .i16) w A1 l1.length l1) (hc1 : l1.length ≤ c1) (h : impl_LeastStepsTo.f k l0_0 a0_1 a0_2 a0_3 a0_4 a0_5 l1 a2 = some (r1, r2)) :
  Calls Try.prog 20 #[.agg #[.slice A0_0 l0_0.length c0_0, .int .i16 a0_1, .int .i16 a0_2, .int .i16 a0_3, .int .i16 a0_4, .bool a0_5], .slice A1 l1.length c1, .int .i64 a2] w fun e w' => e = .returned (.tuple #[.int .i64 r1, .int .i64 r2]) ∧ Below w.heap.size w w' := by
 have hu32 := Try.underlying32
 have HR0_0 := Aside0.mk hr0_0
 have HC0_0 := Aside0.mk hc0_0
 clear hr0_0 hc0_0
 have HR1 := Aside0.mk hr1
 have HC1 := Aside0.mk hc1
 clear hr1 hc1
 have HB := A_ (Below.refl w.heap.size w)
 have H : ((impl_tableCode.f k l0_0 a0_1 a0_2 a0_3 a0_4 a0_5 l1).bind fun t288 => (if t288 = 1 then (some (0, t288)) else (if t288 = 0 then ((impl_within.f a2 0 60).bind fun t289 => (impl_LeastStepsTo.j0 k l1 a2 (!t289) l0_0 a0_1 a0_2 a0_3 a0_4 a0_5)) else (impl_LeastStepsTo.j0 k l1 a2 true l0_0 a0_1 a0_2 a0_3 a0_4 a0_5)))) = some (r1, r2) := h
 clear h
 replace H := Option.bind_eq_some_iff.mp H
 obtain ⟨t288, A40, H⟩ := H
 replace H : (if t288 = 1 then (some (0, t288)) else (if t288 = 0 then ((impl_within.f a2 0 60).bind fun t289 => (impl_LeastStepsTo.j0 k l1 a2 (!t289) l0_0 a0_1 a0_2 a0_3 a0_4 a0_5)) else (impl_LeastStepsTo.j0 k l1 a2 true l0_0 a0_1 a0_2 a0_3 a0_4 a0_5))) = some (r1, r2) := H
 have A4 := Aside0.mk A40
 clear A40
 by_cases c5 : t288 = 1
 ·rw [if_pos c5] at H
  have c5b0 : (t288 == 1) = true := beq_iff_eq.mpr c5
  have c5b1 : (t288 != 1) = false := bne_eq_false_iff_eq.mpr c5
  clear c5
  simp only [Option.some.injEq, Prod.mk.injEq] at H
  obtain ⟨rfl, rfl⟩ := H
  go_enter Try.func20, Try.ntmps20
  go_wp2_with (first | ((with_reducible refine gate_dst (N := 3) rfl ?_); refine box_event ?hg (N := 3) ?hd (cs := #[.slice A0_0 l0_0.length c0_0, .int .i16 a0_1, .int .i16 a0_2, .int .i16 a0_3, .int .i16 a0_4, .bool a0_5]) (t := 32) ?hr ?_; (case hd => rfl); (case hg => rfl); (case hr => first | (go_simp; done) | (go_simp; rfl)); intro gb287 hg w6 hbox hb; have n0_ := A_ (below_step (bl_ HB) hb); have n1_ := A_ (hbox); have n2_ := A_ ((by rw [hg]; exact (below_size (bl_ HB)) : w.heap.size ≤ gb287)); have n3_ := n2_; clear HB; have HB := n0_; have BK287 := n1_; have GW287 := n2_; have GE287 := n3_; clear n0_ n1_ n2_ n3_; clear hb hbox hg; obtain ⟨hcz7_0, hcz7_1, hcz7_2, hcz7_3, hcz7_4, hcz7_5, hfz7_0, hfz7_1, hfz7_2, hfz7_3, hfz7_4, hfz7_5⟩ := cl6_ BK287) | ((with_reducible refine gate_callee (f := 62) rfl ?_); refine goesL_ (some 14) rfl rfl Try.func62 (by kernel_rfl) rfl #[.agg #[.slice A0_0 l0_0.length c0_0, .int .i16 a0_1, .int .i16 a0_2, .int .i16 a0_3, .int .i16 a0_4, .bool a0_5], .slice A1 l1.length c1] rfl arg_ ?_; (with_reducible refine (impl_tableCode.calls k _ _ l0_0 a0_1 a0_2 a0_3 a0_4 a0_5 _ _ l1 t288 _ ?side1 ?side2 ?side3 ?side4 A4.out).mono ?_); (case side1 => exact Kd.C_below HR0_0.out (bl_ HB)); (case side2 => exact HC0_0.out); (case side3 => exact Kd.C_below HR1.out (bl_ HB)); (case side4 => exact HC1.out); rintro e w8 ⟨rfl, hb⟩; refine ⟨_, rfl, ?_⟩; have n0_ := A_ (blk_below (pl_ BK287) hb); have n1_ := A_ (below_step (bl_ HB) hb); clear BK287; clear HB; have BK287 := n0_; have HB := n1_; clear n0_ n1_; (try clear hb); (try clear hb2); (try clear hk); (try clear hi)))
  go_ret2
  exact ⟨by first | rfl | (simp [errW_none, errW_some] <;> rfl) | (simp [*, errW_none, errW_some] <;> rfl), bl_ HB⟩
 ·rw [if_neg c5] at H
  have c5b0 : (t288 == 1) = false := beq_eq_false_iff_ne.mpr c5
  have c5b1 : (t288 != 1) = true := bne_iff_ne.mpr c5
  have HC9 := Aside0.mk H
  clear H
  go_enter Try.func20, Try.ntmps20
  go_upto_region 4 with (first | ((with_reducible refine gate_dst (N := 3) rfl ?_); refine box_event ?hg (N := 3) ?hd (cs := #[.slice A0_0 l0_0.length c0_0, .int .i16 a0_1, .int .i16 a0_2, .int .i16 a0_3, .int .i16 a0_4, .bool a0_5]) (t := 32) ?hr ?_; (case hd => rfl); (case hg => rfl); (case hr => first | (go_simp; done) | (go_simp; rfl)); intro gb287 hg w10 hbox hb; have n0_ := A_ (below_step (bl_ HB) hb); have n1_ := A_ (hbox); have n2_ := A_ ((by rw [hg]; exact (below_size (bl_ HB)) : w.heap.size ≤ gb287)); have n3_ := n2_; clear HB; have HB := n0_; have BK287 := n1_; have GW287 := n2_; have GE287 := n3_; clear n0_ n1_ n2_ n3_; clear hb hbox hg; obtain ⟨hcz11_0, hcz11_1, hcz11_2, hcz11_3, hcz11_4, hcz11_5, hfz11_0, hfz11_1, hfz11_2, hfz11_3, hfz11_4, hfz11_5⟩ := cl6_ BK287) | ((with_reducible refine gate_callee (f := 62) rfl ?_); refine goesL_ (some 14) rfl rfl Try.func62 (by kernel_rfl) rfl #[.agg #[.slice A0_0 l0_0.length c0_0, .int .i16 a0_1, .int .i16 a0_2, .int .i16 a0_3, .int .i16 a0_4, .bool a0_5], .slice A1 l1.length c1] rfl arg_ ?_; (with_reducible refine (impl_tableCode.calls k _ _ l0_0 a0_1 a0_2 a0_3 a0_4 a0_5 _ _ l1 t288 _ ?side1 ?side2 ?side3 ?side4 A4.out).mono ?_); (case side1 => exact Kd.C_below HR0_0.out (bl_ HB)); (case side2 => exact HC0_0.out); (case side3 => exact Kd.C_below HR1.out (bl_ HB)); (case side4 => exact HC1.out); rintro e w12 ⟨rfl, hb⟩; refine ⟨_, rfl, ?_⟩; have n0_ := A_ (blk_below (pl_ BK287) hb); have n1_ := A_ (below_step (bl_ HB) hb); clear BK287; clear HB; have BK287 := n0_; have HB := n1_; clear n0_ n1_; (try clear hb); (try clear hb2); (try clear hk); (try clear hi)))
  (try simp only [Act.put, List.setIfInBounds_toArray, List.set_cons_zero, List.set_cons_succ])
  go_cut [19] (fun v19 wc => ∃ (kq : Nat) (x19_8 : Bool), v19 = .bool x19_8 ∧ Aside0 (impl_LeastStepsTo.j0 kq l1 a2 x19_8 l0_0 a0_1 a0_2 a0_3 a0_4 a0_5 = some (r1, r2)) ∧ Aside0 (kq ≤ k) ∧ Aside0 (wc.heap[gb287]? = some (.cells #[(.slice A0_0 l0_0.length c0_0), .int .i16 a0_1, .int .i16 a0_2, .int .i16 a0_3, .int .i16 a0_4, .bool a0_5] 32 (0, 0))) ∧ Aside0 (Below w.heap.size w wc))
  case first =>
   have H := HC9.out
   clear HC9
   by_cases c13 : t288 = 0
   ·rw [if_pos c13] at H
    have c13b0 : (t288 == 0) = true := beq_iff_eq.mpr c13
    have c13b1 : (t288 != 0) = false := bne_eq_false_iff_eq.mpr c13
    clear c13
    (first | rw [c13b0] | (simp only [i64_w, i32_w]; rw [c13b0]) | skip)
    replace H := Option.bind_eq_some_iff.mp H
    obtain ⟨t289, A140, H⟩ := H
    replace H : (impl_LeastStepsTo.j0 k l1 a2 (!t289) l0_0 a0_1 a0_2 a0_3 a0_4 a0_5) = some (r1, r2) := H
    have A14 := Aside0.mk A140
    clear A140
    have H' := Aside0.mk H
    clear H
    go_wp2_with (first | (go_at_call 63; (with_reducible refine (impl_within.calls a2 0 60 t289 _ A14.out).mono ?_); rintro e w' ⟨rfl, ⟨nd, rfl⟩⟩))
    go_meet
    case rel => exact ⟨_, (!t289), rs_, H', ⟨by first | omega | exact Nat.le_refl _⟩, ⟨pl_ BK287⟩, ⟨bl_ HB⟩⟩
   ·rw [if_neg c13] at H
    have c13b0 : (t288 == 0) = false := beq_eq_false_iff_ne.mpr c13
    have c13b1 : (t288 != 0) = true := bne_iff_ne.mpr c13
    (first | rw [c13b0] | (simp only [i64_w, i32_w]; rw [c13b0]) | skip)
    have H' := Aside0.mk H
    clear H
    go_wp2
    go_meet
    case rel => exact ⟨_, (true), rs_, H', ⟨by first | omega | exact Nat.le_refl _⟩, ⟨pl_ BK287⟩, ⟨bl_ HB⟩⟩
  case rest =>
   clear HC9
   try clear c1
   try clear c2
   try clear p2
   try clear c5
   try clear c5b0
   try clear c5b1
   try clear c6
   try clear c13
   try clear c13b0
   try clear c13b1
   try clear hcz11_0
   try clear hcz11_1
   try clear hcz11_2
   try clear hcz11_3
   try clear hcz11_4
   try clear hcz11_5
   try clear hcz7_0
   try clear hcz7_1
   try clear hcz7_2
   try clear hcz7_3
   try clear hcz7_4
   try clear hcz7_5
   try clear hfz11_0
   try clear hfz11_1
   try clear hfz11_2
   try clear hfz11_3
   try clear hfz11_4
   try clear hfz11_5
   try clear hfz7_0
   try clear hfz7_1
   try clear hfz7_2
   try clear hfz7_3
   try clear hfz7_4
   try clear hfz7_5
   obtain ⟨kq, x19_8, rfl, HA, HJ8, BK287, HB⟩ := hcut
   cases kq with
   | zero => exact absurd HA.out (by simp [impl_LeastStepsTo.j0])
   | succ kj8 =>
    have H := HA.out
    clear HA
    simp only [impl_LeastStepsTo.j0] at H
    by_cases c15 : x19_8 = true
    ·subst c15
     have H1 : (some (0, 2)) = some (r1, r2) := by rw [if_pos rfl] at H; exact H
     clear H
     have H := H1
     clear H1
     simp only [Option.some.injEq, Prod.mk.injEq] at H
     obtain ⟨rfl, rfl⟩ := H
     go_wp2
     go_ret2
     exact ⟨by first | rfl | (simp [errW_none, errW_some] <;> rfl) | (simp [*, errW_none, errW_some] <;> rfl), bl_ HB⟩
    ·replace c15 := Bool.eq_false_iff.mpr c15
     subst c15
     have H1 : ((impl_Puzzle_broken.f kj8 l0_0 a0_1 a0_2 a0_3 a0_4 a0_5 l1).bind fun t290 => (if t290 ≥ 0 then (some (0, 8)) else ((impl_Puzzle_states.f kj8 l0_0 a0_1 a0_2 a0_3 a0_4 a0_5).bind fun t291 => (impl_LeastStepsTo.l0 kj8 l1 a2 (-1) t291 0 l0_0 a0_1 a0_2 a0_3 a0_4 a0_5)))) = some (r1, r2) := by rw [if_neg (show ¬ (false = true) by decide)] at H; exact H
     clear H
     have H := H1
     clear H1
     replace H := Option.bind_eq_some_iff.mp H
     obtain ⟨t290, A160, H⟩ := H
     replace H : (if t290 ≥ 0 then (some (0, 8)) else ((impl_Puzzle_states.f kj8 l0_0 a0_1 a0_2 a0_3 a0_4 a0_5).bind fun t291 => (impl_LeastStepsTo.l0 kj8 l1 a2 (-1) t291 0 l0_0 a0_1 a0_2 a0_3 a0_4 a0_5))) = some (r1, r2) := H
     have A16 := Aside0.mk A160
     clear A160
     by_cases c17 : t290 ≥ 0
     ·rw [if_pos c17] at H
      have c17b0 : decide (0 ≤ t290) = true := decide_eq_true c17
      clear c17
      simp only [Option.some.injEq, Prod.mk.injEq] at H
      obtain ⟨rfl, rfl⟩ := H
      obtain ⟨hcz18_0, hcz18_1, hcz18_2, hcz18_3, hcz18_4, hcz18_5, hfz18_0, hfz18_1, hfz18_2, hfz18_3, hfz18_4, hfz18_5⟩ := cl6_ BK287
      go_wp2_with (first | ((with_reducible refine gate_callee (f := 64) rfl ?_); refine goesL_ (some 30) rfl rfl Try.func64 (by kernel_rfl) rfl #[.agg #[.slice A0_0 l0_0.length c0_0, .int .i16 a0_1, .int .i16 a0_2, .int .i16 a0_3, .int .i16 a0_4, .bool a0_5], .slice A1 l1.length c1] rfl arg_ ?_; (with_reducible refine (impl_Puzzle_broken.calls kj8 _ _ l0_0 a0_1 a0_2 a0_3 a0_4 a0_5 _ _ l1 t290 _ ?side1 ?side2 ?side3 ?side4 A16.out).mono ?_); (case side1 => exact Kd.C_below HR0_0.out (bl_ HB)); (case side2 => exact HC0_0.out); (case side3 => exact Kd.C_below HR1.out (bl_ HB)); (case side4 => exact HC1.out); rintro e w19 ⟨rfl, hb⟩; refine ⟨_, rfl, ?_⟩; have n0_ := A_ (blk_below (pl_ BK287) hb); have n1_ := A_ (below_step (bl_ HB) hb); clear BK287; clear HB; have BK287 := n0_; have HB := n1_; clear n0_ n1_; (try clear hb); (try clear hb2); (try clear hk); (try clear hi)))
      go_ret2
      exact ⟨by first | rfl | (simp [errW_none, errW_some] <;> rfl) | (simp [*, errW_none, errW_some] <;> rfl), bl_ HB⟩
     ·rw [if_neg c17] at H
      have c17b0 : decide (0 ≤ t290) = false := decide_eq_false c17
      clear c17
      replace H := Option.bind_eq_some_iff.mp H
      obtain ⟨t291, A200, H⟩ := H
      replace H : (impl_LeastStepsTo.l0 kj8 l1 a2 (-1) t291 0 l0_0 a0_1 a0_2 a0_3 a0_4 a0_5) = some (r1, r2) := H
      have A20 := Aside0.mk A200
      clear A200
      have H' := Aside0.mk H
      clear H
      obtain ⟨hcz21_0, hcz21_1, hcz21_2, hcz21_3, hcz21_4, hcz21_5, hfz21_0, hfz21_1, hfz21_2, hfz21_3, hfz21_4, hfz21_5⟩ := cl6_ BK287
      go_wp2_with (first | ((with_reducible refine gate_callee (f := 64) rfl ?_); refine goesL_ (some 30) rfl rfl Try.func64 (by kernel_rfl) rfl #[.agg #[.slice A0_0 l0_0.length c0_0, .int .i16 a0_1, .int .i16 a0_2, .int .i16 a0_3, .int .i16 a0_4, .bool a0_5], .slice A1 l1.length c1] rfl arg_ ?_; (with_reducible refine (impl_Puzzle_broken.calls kj8 _ _ l0_0 a0_1 a0_2 a0_3 a0_4 a0_5 _ _ l1 t290 _ ?side1 ?side2 ?side3 ?side4 A16.out).mono ?_); (case side1 => exact Kd.C_below HR0_0.out (bl_ HB)); (case side2 => exact HC0_0.out); (case side3 => exact Kd.C_below HR1.out (bl_ HB)); (case side4 => exact HC1.out); rintro e w22 ⟨rfl, hb⟩; refine ⟨_, rfl, ?_⟩; have n0_ := A_ (blk_below (pl_ BK287) hb); have n1_ := A_ (below_step (bl_ HB) hb); clear BK287; clear HB; have BK287 := n0_; have HB := n1_; clear n0_ n1_; (try clear hb); (try clear hb2); (try clear hk); (try clear hi); obtain ⟨hcz23_0, hcz23_1, hcz23_2, hcz23_3, hcz23_4, hcz23_5, hfz23_0, hfz23_1, hfz23_2, hfz23_3, hfz23_4, hfz23_5⟩ := cl6_ BK287) | ((with_reducible refine gate_callee (f := 65) rfl ?_); refine goesL_ (some 33) rfl rfl Try.func65 (by kernel_rfl) rfl #[.agg #[.slice A0_0 l0_0.length c0_0, .int .i16 a0_1, .int .i16 a0_2, .int .i16 a0_3, .int .i16 a0_4, .bool a0_5]] rfl arg_ ?_; (with_reducible refine (impl_Puzzle_states.calls kj8 _ _ l0_0 a0_1 a0_2 a0_3 a0_4 a0_5 t291 _ ?side1 ?side2 A20.out).mono ?_); (case side1 => exact Kd.C_below HR0_0.out (bl_ HB)); (case side2 => exact HC0_0.out); rintro e w24 ⟨rfl, hb⟩; refine ⟨_, rfl, ?_⟩; have n0_ := A_ (blk_below (pl_ BK287) hb); have n1_ := A_ (below_step (bl_ HB) hb); clear BK287; clear HB; have BK287 := n0_; have HB := n1_; clear n0_ n1_; (try clear hb); (try clear hb2); (try clear hk); (try clear hi)))
      go_loopg [9, 34] kj8 (fun kq v9 v34 w' => ∃ (x9_2 : Int) (x34_2 : Int), v9 = .int .i64 x9_2 ∧ v34 = .int .i64 x34_2 ∧ Aside0 (impl_LeastStepsTo.l0 kq l1 a2 x9_2 t291 x34_2 l0_0 a0_1 a0_2 a0_3 a0_4 a0_5 = some (r1, r2)) ∧ Aside0 (kq ≤ kj8) ∧ Aside0 (w'.heap[gb287]? = some (.cells #[(.slice A0_0 l0_0.length c0_0), .int .i16 a0_1, .int .i16 a0_2, .int .i16 a0_3, .int .i16 a0_4, .bool a0_5] 32 (0, 0))) ∧ Aside0 (Below w.heap.size w w'))
      case atStart => exact ⟨((-1)), (0), rs_, rs_, H', ⟨Nat.le_refl _⟩, ⟨pl_ BK287⟩, ⟨bl_ HB⟩⟩
      case round =>
       clear H'
       try clear c1
       try clear c2
       try clear p2
       try clear c5
       try clear c5b0
       try clear c5b1
       try clear c6
       try clear c13
       try clear c13b0
       try clear c13b1
       try clear c15
       try clear c17
       try clear c17b0
       try clear c20
       try clear hcz11_0
       try clear hcz11_1
       try clear hcz11_2
       try clear hcz11_3
       try clear hcz11_4
       try clear hcz11_5
       try clear hcz18_0
       try clear hcz18_1
       try clear hcz18_2
       try clear hcz18_3
       try clear hcz18_4
       try clear hcz18_5
       try clear hcz21_0
       try clear hcz21_1
       try clear hcz21_2
       try clear hcz21_3
       try clear hcz21_4
       try clear hcz21_5
       try clear hcz23_0
       try clear hcz23_1
       try clear hcz23_2
       try clear hcz23_3
       try clear hcz23_4
       try clear hcz23_5
       try clear hcz7_0
       try clear hcz7_1
       try clear hcz7_2
       try clear hcz7_3
       try clear hcz7_4
       try clear hcz7_5
       try clear hfz11_0
       try clear hfz11_1
       try clear hfz11_2
       try clear hfz11_3
       try clear hfz11_4
       try clear hfz11_5
       try clear hfz18_0
       try clear hfz18_1
       try clear hfz18_2
       try clear hfz18_3
       try clear hfz18_4
       try clear hfz18_5
       try clear hfz21_0
       try clear hfz21_1
       try clear hfz21_2
       try clear hfz21_3
       try clear hfz21_4
       try clear hfz21_5
       try clear hfz23_0
       try clear hfz23_1
       try clear hfz23_2
       try clear hfz23_3
       try clear hfz23_4
       try clear hfz23_5
       try clear hfz7_0
       try clear hfz7_1
       try clear hfz7_2
       try clear hfz7_3
       try clear hfz7_4
       try clear hfz7_5
       try clear p2
       obtain ⟨x9_2, x34_2, rfl, rfl, HA, HK2, BK287, HB⟩ := hrel
       cases gk with
       | zero => exact absurd HA.out (by simp [impl_LeastStepsTo.l0])
       | succ k2 =>
        have H := HA.out
        clear HA
        simp only [impl_LeastStepsTo.l0] at H
        by_cases c25 : x34_2 < t291
        ·rw [if_pos c25] at H
         have c25b0 : decide (x34_2 < t291) = true := decide_eq_true c25
         clear c25
         by_cases c26 : 0 ≤ x34_2
         ·rw [if_pos c26] at H
          have c26b0 : decide (0 ≤ x34_2) = true := decide_eq_true c26
          clear c26
          by_cases c27 : x34_2 < (l1.length : Int)
          ·rw [if_pos c27] at H
           have c27b0 : decide (x34_2 < (l1.length : Int)) = true := decide_eq_true c27
           clear c27
           by_cases c28 : (wrap64 (rd l1 x34_2)) ≥ 0
           ·rw [if_pos c28] at H
            have c28b0 : decide (0 ≤ (wrap64 (rd l1 x34_2))) = true := decide_eq_true c28
            clear c28
            replace H := Option.bind_eq_some_iff.mp H
            obtain ⟨⟨t293, t294, t295, t296⟩, A290, H⟩ := H
            replace H : ((impl_Puzzle_hasAmount.f k2 l0_0 a0_1 a0_2 a0_3 a0_4 a0_5 t293 t294 t295 t296 a2).bind fun t297 => (if t297 = true then (if x9_2 < 0 then (impl_LeastStepsTo.l0 k2 l1 a2 (wrap64 (rd l1 x34_2)) t291 (wrap64 (x34_2 + 1)) l0_0 a0_1 a0_2 a0_3 a0_4 a0_5) else (if (wrap64 (rd l1 x34_2)) < x9_2 then (impl_LeastStepsTo.l0 k2 l1 a2 (wrap64 (rd l1 x34_2)) t291 (wrap64 (x34_2 + 1)) l0_0 a0_1 a0_2 a0_3 a0_4 a0_5) else (impl_LeastStepsTo.l0 k2 l1 a2 x9_2 t291 (wrap64 (x34_2 + 1)) l0_0 a0_1 a0_2 a0_3 a0_4 a0_5))) else (impl_LeastStepsTo.l0 k2 l1 a2 x9_2 t291 (wrap64 (x34_2 + 1)) l0_0 a0_1 a0_2 a0_3 a0_4 a0_5))) = some (r1, r2) := H
            have A29 := Aside0.mk A290
            clear A290
            replace H := Option.bind_eq_some_iff.mp H
            obtain ⟨t297, A300, H⟩ := H
            replace H : (if t297 = true then (if x9_2 < 0 then (impl_LeastStepsTo.l0 k2 l1 a2 (wrap64 (rd l1 x34_2)) t291 (wrap64 (x34_2 + 1)) l0_0 a0_1 a0_2 a0_3 a0_4 a0_5) else (if (wrap64 (rd l1 x34_2)) < x9_2 then (impl_LeastStepsTo.l0 k2 l1 a2 (wrap64 (rd l1 x34_2)) t291 (wrap64 (x34_2 + 1)) l0_0 a0_1 a0_2 a0_3 a0_4 a0_5) else (impl_LeastStepsTo.l0 k2 l1 a2 x9_2 t291 (wrap64 (x34_2 + 1)) l0_0 a0_1 a0_2 a0_3 a0_4 a0_5))) else (impl_LeastStepsTo.l0 k2 l1 a2 x9_2 t291 (wrap64 (x34_2 + 1)) l0_0 a0_1 a0_2 a0_3 a0_4 a0_5)) = some (r1, r2) := H
            have A30 := Aside0.mk A300
            clear A300
            by_cases c31 : t297 = true
            ·subst c31
             have H1 : (if x9_2 < 0 then (impl_LeastStepsTo.l0 k2 l1 a2 (wrap64 (rd l1 x34_2)) t291 (wrap64 (x34_2 + 1)) l0_0 a0_1 a0_2 a0_3 a0_4 a0_5) else (if (wrap64 (rd l1 x34_2)) < x9_2 then (impl_LeastStepsTo.l0 k2 l1 a2 (wrap64 (rd l1 x34_2)) t291 (wrap64 (x34_2 + 1)) l0_0 a0_1 a0_2 a0_3 a0_4 a0_5) else (impl_LeastStepsTo.l0 k2 l1 a2 x9_2 t291 (wrap64 (x34_2 + 1)) l0_0 a0_1 a0_2 a0_3 a0_4 a0_5))) = some (r1, r2) := by rw [if_pos rfl] at H; exact H
             clear H
             have H := H1
             clear H1
             by_cases c32 : x9_2 < 0
             ·rw [if_pos c32] at H
              have c32b0 : decide (x9_2 < 0) = true := decide_eq_true c32
              clear c32
              have H' := Aside0.mk H
              clear H
              have p292 : 0 ≤ (x34_2 : Int) := asm_
              have q292 : x34_2 < (l1.length : Int) := asm_
              obtain ⟨ad292, e292, hx292_0⟩ := Kd.at_int HR1.out x34_2 p292 q292
              cases e292
              (try replace hx292_0 := (HB.out.cell (World.block_lt_of_cell? w _ hx292_0)).trans hx292_0)
              replace p292 := eq_true p292
              replace q292 := eq_true q292
              try go_wp2
              have n0_ := A_ (blk_drew BK287.out)
              have n1_ := A_ (below_drew1 HB.out)
              clear BK287
              clear HB
              have BK287 := n0_
              have HB := n1_
              clear n0_ n1_
              refine start_ (n := 19) (S := fun w' => w'.cell? ⟨gb287, 0, none⟩ = some (.slice A0_0 l0_0.length c0_0) ∧ w'.cell? ⟨gb287, 1, none⟩ = some (.int .i16 a0_1) ∧ w'.cell? ⟨gb287, 2, none⟩ = some (.int .i16 a0_2) ∧ w'.cell? ⟨gb287, 3, none⟩ = some (.int .i16 a0_3) ∧ w'.cell? ⟨gb287, 4, none⟩ = some (.int .i16 a0_4) ∧ w'.cell? ⟨gb287, 5, none⟩ = some (.bool a0_5)) (ds := []) #[false, false, false, false, false, false, false, false, false, false, false, false, false, false, false, false, false, false, false] (by kernel_rfl) rfl rfl ⟨(blk_cell BK287.out 0).trans rfl, (blk_cell BK287.out 1).trans rfl, (blk_cell BK287.out 2).trans rfl, (blk_cell BK287.out 3).trans rfl, (blk_cell BK287.out 4).trans rfl, (blk_cell BK287.out 5).trans rfl⟩ (fun hHeld => ?_); refine with_tabW impl_LeastStepsTo.tab13 impl_LeastStepsTo.bits13 (fun HT_ HW_ => ?_)
              generalize wr.drew = w33 at BK287 HB hHeld ⊢
              refine pure_ (i := 0) (N := some 42) (v := ?_) (a' := ?_) #[true, false, false, false, false, false, false, false, false, false, false, false, false, false, false, false, false, false, false] rfl rfl (any_of HT_.out (by kernel_rfl)) (fun _ _ _ h => h) (Or.inl ⟨by rfl, ?_⟩) ?_ ?_
              rotate_left
              ·intro w'
               go_simp
               with_reducible rfl
              rotate_left
              ·simp only [Act.put, sp_]
               rfl
              refine pure_ (i := 1) (N := some 43) (v := ?_) (a' := ?_) #[true, true, false, false, false, false, false, false, false, false, false, false, false, false, false, false, false, false, false] rfl rfl (any_of HT_.out (by kernel_rfl)) (fun _ _ _ h => h) (Or.inl ⟨by rfl, ?_⟩) ?_ ?_
              rotate_left
              ·intro w'
               go_simp
               with_reducible rfl
              rotate_left
              ·simp only [Act.put, sp_]
               rfl
              refine pure_ (i := 2) (N := some 44) (v := ?_) (a' := ?_) #[true, true, true, false, false, false, false, false, false, false, false, false, false, false, false, false, false, false, false] rfl rfl (any_of HT_.out (by kernel_rfl)) (fun _ _ _ h => h) (Or.inl ⟨by rfl, ?_⟩) ?_ ?_
              rotate_left
              ·intro w'
               go_simp
               with_reducible rfl
              rotate_left
              ·simp only [Act.put, sp_]
               rfl
              refine pure_ (i := 5) (N := some 47) (v := ?_) (a' := ?_) #[true, true, true, false, false, true, false, false, false, false, false, false, false, false, false, false, false, false, false] rfl rfl (any_of HT_.out (by kernel_rfl)) (fun _ _ _ h => h) (Or.inl ⟨by rfl, ?_⟩) ?_ ?_
              rotate_left
              ·intro w'
               go_simp
               with_reducible rfl
              rotate_left
              ·simp only [Act.put, sp_]
               rfl
              refine pure_ (i := 7) (N := some 49) (v := ?_) (a' := ?_) #[true, true, true, false, false, true, false, true, false, false, false, false, false, false, false, false, false, false, false] rfl rfl (any_of HT_.out (by kernel_rfl)) (fun _ _ _ h => h) (Or.inl ⟨by rfl, ?_⟩) ?_ ?_
              rotate_left
              ·intro w'
               go_simp
               with_reducible rfl
              rotate_left
              ·simp only [Act.put, sp_]
               rfl
              refine take_ (i := 3) (N := some 45) (v := ?_) (a' := ?_) #[true, true, true, true, false, true, false, true, false, false, false, false, false, false, false, false, false, false, false] rfl rfl (take_ofW HT_.out HW_.out (by kernel_rfl)) (fun _ _ _ h => h) (Or.inl ⟨by rfl, ?_⟩) hHeld ?_ ?_
              rotate_left
              ·rintro w' ⟨s0, s1, s2, s3, s4, s5⟩
               go_simp
               with_reducible rfl
              rotate_left
              ·simp only [Act.put, sp_]
               rfl
              refine take_ (i := 4) (N := some 46) (v := ?_) (a' := ?_) #[true, true, true, true, true, true, false, true, false, false, false, false, false, false, false, false, false, false, false] rfl rfl (take_ofW HT_.out HW_.out (by kernel_rfl)) (fun _ _ _ h => h) (Or.inl ⟨by rfl, ?_⟩) hHeld ?_ ?_
              rotate_left
              ·rintro w' ⟨s0, s1, s2, s3, s4, s5⟩
               go_simp
               with_reducible rfl
              rotate_left
              ·simp only [Act.put, sp_]
               rfl
              refine one_ (i := 6) (N := some 48) #[true, true, true, true, true, true, true, true, false, false, false, false, false, false, false, false, false, false, false] rfl rfl (one_of HT_.out (by kernel_rfl)) (by decide) (fun K hK => ?_)
              refine goes_ Try.func67 (by kernel_rfl) rfl #[.agg #[.slice A0_0 l0_0.length c0_0, .int .i16 a0_1, .int .i16 a0_2, .int .i16 a0_3, .int .i16 a0_4, .bool a0_5], .int .i64 x34_2] (by rfl) rfl rfl arg_ ?_
              with_reducible refine (impl_Puzzle_at.calls k2 _ _ l0_0 a0_1 a0_2 a0_3 a0_4 a0_5 x34_2 t293 t294 t295 t296 _ ?side1 ?side2 A29.out).mono ?_
              (case side1 => exact Kd.C_below HR0_0.out (bl_ HB))
              (case side2 => exact HC0_0.out)
              rintro e w34 ⟨rfl, hb⟩
              refine ⟨_, rfl, ?_⟩
              have n0_ := A_ (blk_below (pl_ BK287) hb)
              have n1_ := A_ (below_step (bl_ HB) hb)
              clear BK287
              clear HB
              have BK287 := n0_
              have HB := n1_
              clear n0_ n1_
              (try clear hb)
              (try clear hb2)
              (try clear hk)
              (try clear hi)
              refine hK.out _ _ ⟨(blk_cell BK287.out 0).trans rfl, (blk_cell BK287.out 1).trans rfl, (blk_cell BK287.out 2).trans rfl, (blk_cell BK287.out 3).trans rfl, (blk_cell BK287.out 4).trans rfl, (blk_cell BK287.out 5).trans rfl⟩ (fun hHeld => ?_)
              clear hK K
              refine norm_ (a' := ?_) ?_ ?_
              rotate_left
              ·show Act.put _ (some 48) _ = _
               simp only [Act.put, sp_]
               rfl
              refine one_ (i := 8) (N := some 50) #[true, true, true, true, true, true, true, true, true, false, false, false, false, false, false, false, false, false, false] rfl rfl (one_of HT_.out (by kernel_rfl)) (by decide) (fun K hK => ?_)
              refine goes_ Try.func66 (by kernel_rfl) rfl #[.agg #[.slice A0_0 l0_0.length c0_0, .int .i16 a0_1, .int .i16 a0_2, .int .i16 a0_3, .int .i16 a0_4, .bool a0_5], .agg #[.int .i16 t293, .int .i16 t294, .int .i16 t295, .int .i16 t296], .int .i64 a2] (by rfl) rfl rfl arg_ ?_
              with_reducible refine (impl_Puzzle_hasAmount.calls k2 _ _ l0_0 a0_1 a0_2 a0_3 a0_4 a0_5 t293 t294 t295 t296 a2 true _ ?side1 ?side2 A30.out).mono ?_
              (case side1 => exact Kd.C_below HR0_0.out (bl_ HB))
              (case side2 => exact HC0_0.out)
              rintro e w35 ⟨rfl, hb⟩
              refine ⟨_, rfl, ?_⟩
              have n0_ := A_ (blk_below (pl_ BK287) hb)
              have n1_ := A_ (below_step (bl_ HB) hb)
              clear BK287
              clear HB
              have BK287 := n0_
              have HB := n1_
              clear n0_ n1_
              (try clear hb)
              (try clear hb2)
              (try clear hk)
              (try clear hi)
              refine hK.out _ _ ⟨(blk_cell BK287.out 0).trans rfl, (blk_cell BK287.out 1).trans rfl, (blk_cell BK287.out 2).trans rfl, (blk_cell BK287.out 3).trans rfl, (blk_cell BK287.out 4).trans rfl, (blk_cell BK287.out 5).trans rfl⟩ (fun hHeld => ?_)
              clear hK K
              refine norm_ (a' := ?_) ?_ ?_
              rotate_left
              ·show Act.put _ (some 50) _ = _
               simp only [Act.put, sp_]
               rfl
              refine pure_ (i := 9) (N := some 51) (v := ?_) (a' := ?_) #[true, true, true, true, true, true, true, true, true, true, false, false, false, false, false, false, false, false, false] rfl rfl (any_of HT_.out (by kernel_rfl)) (fun _ _ _ h => h) (Or.inl ⟨by rfl, ?_⟩) ?_ ?_
              rotate_left
              ·intro w'
               go_simp
               with_reducible rfl
              rotate_left
              ·simp only [Act.put, sp_]
               rfl
              refine pure_ (i := 10) (N := some 52) (v := ?_) (a' := ?_) #[true, true, true, true, true, true, true, true, true, true, true, false, false, false, false, false, false, false, false] rfl rfl (any_of HT_.out (by kernel_rfl)) (fun _ _ _ h => h) (Or.inl ⟨by rfl, ?_⟩) ?_ ?_
              rotate_left
              ·intro w'
               go_simp
               with_reducible rfl
              rotate_left
              ·simp only [Act.put, sp_]
               rfl
              refine pure_ (i := 11) (N := some 53) (v := ?_) (a' := ?_) #[true, true, true, true, true, true, true, true, true, true, true, true, false, false, false, false, false, false, false] rfl rfl (any_of HT_.out (by kernel_rfl)) (fun _ _ _ h => h) (Or.inl ⟨by rfl, ?_⟩) ?_ ?_
              rotate_left
              ·intro w'
               go_simp
               with_reducible rfl
              rotate_left
              ·simp only [Act.put, sp_]
               rfl
              refine pure_ (i := 12) (N := some 54) (v := ?_) (a' := ?_) #[true, true, true, true, true, true, true, true, true, true, true, true, true, false, false, false, false, false, false] rfl rfl (any_of HT_.out (by kernel_rfl)) (fun _ _ _ h => h) (Or.inl ⟨by rfl, ?_⟩) ?_ ?_
              rotate_left
              ·intro w'
               go_simp
               with_reducible rfl
              rotate_left
              ·simp only [Act.put, sp_]
               rfl
              refine pure_ (i := 13) (N := some 55) (v := ?_) (a' := ?_) #[true, true, true, true, true, true, true, true, true, true, true, true, true, true, false, false, false, false, false] rfl rfl (any_of HT_.out (by kernel_rfl)) (fun _ _ _ h => h) (Or.inl ⟨by rfl, ?_⟩) ?_ ?_
              rotate_left
              ·intro w'
               go_simp
               with_reducible rfl
              rotate_left
              ·simp only [Act.put, sp_]
               rfl
              refine pure_ (i := 14) (N := some 56) (v := undef) (a' := ?_) #[true, true, true, true, true, true, true, true, true, true, true, true, true, true, true, false, false, false, false] rfl rfl (any_of HT_.out (by kernel_rfl)) (fun _ _ _ h => h) (Or.inr ⟨by rfl, rfl⟩) ?_ ?_
              rotate_left
              ·simp only [Act.put, sp_]
               rfl
              refine pure_ (i := 15) (N := some 57) (v := undef) (a' := ?_) #[true, true, true, true, true, true, true, true, true, true, true, true, true, true, true, true, false, false, false] rfl rfl (any_of HT_.out (by kernel_rfl)) (fun _ _ _ h => h) (Or.inr ⟨by rfl, rfl⟩) ?_ ?_
              rotate_left
              ·simp only [Act.put, sp_]
               rfl
              refine pure_ (i := 16) (N := some 58) (v := undef) (a' := ?_) #[true, true, true, true, true, true, true, true, true, true, true, true, true, true, true, true, true, false, false] rfl rfl (any_of HT_.out (by kernel_rfl)) (fun _ _ _ h => h) (Or.inr ⟨by rfl, rfl⟩) ?_ ?_
              rotate_left
              ·simp only [Act.put, sp_]
               rfl
              refine pure_ (i := 17) (N := some 59) (v := ?_) (a' := ?_) #[true, true, true, true, true, true, true, true, true, true, true, true, true, true, true, true, true, true, false] rfl rfl (any_of HT_.out (by kernel_rfl)) (fun _ _ _ h => h) (Or.inl ⟨by rfl, ?_⟩) ?_ ?_
              rotate_left
              ·intro w'
               go_simp
               with_reducible rfl
              rotate_left
              ·simp only [Act.put, sp_]
               rfl
              refine pure_ (i := 18) (N := some 60) (v := ?_) (a' := ?_) #[true, true, true, true, true, true, true, true, true, true, true, true, true, true, true, true, true, true, true] rfl rfl (any_of HT_.out (by kernel_rfl)) (fun _ _ _ h => h) (Or.inl ⟨by rfl, ?_⟩) ?_ ?_
              rotate_left
              ·intro w'
               go_simp
               with_reducible rfl
              rotate_left
              ·simp only [Act.put, sp_]
               rfl
              refine done_ (done_of HT_.out (by kernel_rfl)) ?_
              try go_wp2
              go_roundg k2
              case measure => have := HJ8.out; have := HK2.out; omega
              case rel => exact ⟨(wrap64 (rd l1 x34_2)), (wrap64 (x34_2 + 1)), rs_, rs_, H', ⟨by have := HJ8.out; have := HK2.out; omega⟩, ⟨pl_ BK287⟩, ⟨bl_ HB⟩⟩
             ·rw [if_neg c32] at H
              have c32b0 : decide (x9_2 < 0) = false := decide_eq_false c32
              clear c32
              by_cases c36 : (wrap64 (rd l1 x34_2)) < x9_2
              ·rw [if_pos c36] at H
               have c36b0 : decide ((wrap64 (rd l1 x34_2)) < x9_2) = true := decide_eq_true c36
               clear c36
               have H' := Aside0.mk H
               clear H
               have p292 : 0 ≤ (x34_2 : Int) := asm_
               have q292 : x34_2 < (l1.length : Int) := asm_
               obtain ⟨ad292, e292, hx292_0⟩ := Kd.at_int HR1.out x34_2 p292 q292
               cases e292
               (try replace hx292_0 := (HB.out.cell (World.block_lt_of_cell? w _ hx292_0)).trans hx292_0)
               replace p292 := eq_true p292
               replace q292 := eq_true q292
               try go_wp2
               have n0_ := A_ (blk_drew BK287.out)
               have n1_ := A_ (below_drew1 HB.out)
               clear BK287
               clear HB
               have BK287 := n0_
               have HB := n1_
               clear n0_ n1_
               refine start_ (n := 19) (S := fun w' => w'.cell? ⟨gb287, 0, none⟩ = some (.slice A0_0 l0_0.length c0_0) ∧ w'.cell? ⟨gb287, 1, none⟩ = some (.int .i16 a0_1) ∧ w'.cell? ⟨gb287, 2, none⟩ = some (.int .i16 a0_2) ∧ w'.cell? ⟨gb287, 3, none⟩ = some (.int .i16 a0_3) ∧ w'.cell? ⟨gb287, 4, none⟩ = some (.int .i16 a0_4) ∧ w'.cell? ⟨gb287, 5, none⟩ = some (.bool a0_5)) (ds := []) #[false, false, false, false, false, false, false, false, false, false, false, false, false, false, false, false, false, false, false] (by kernel_rfl) rfl rfl ⟨(blk_cell BK287.out 0).trans rfl, (blk_cell BK287.out 1).trans rfl, (blk_cell BK287.out 2).trans rfl, (blk_cell BK287.out 3).trans rfl, (blk_cell BK287.out 4).trans rfl, (blk_cell BK287.out 5).trans rfl⟩ (fun hHeld => ?_); refine with_tabW impl_LeastStepsTo.tab13 impl_LeastStepsTo.bits13 (fun HT_ HW_ => ?_)
               generalize wr.drew = w37 at BK287 HB hHeld ⊢
               refine pure_ (i := 0) (N := some 42) (v := ?_) (a' := ?_) #[true, false, false, false, false, false, false, false, false, false, false, false, false, false, false, false, false, false, false] rfl rfl (any_of HT_.out (by kernel_rfl)) (fun _ _ _ h => h) (Or.inl ⟨by rfl, ?_⟩) ?_ ?_
               rotate_left
               ·intro w'
                go_simp
                with_reducible rfl
               rotate_left
               ·simp only [Act.put, sp_]
                rfl
               refine pure_ (i := 1) (N := some 43) (v := ?_) (a' := ?_) #[true, true, false, false, false, false, false, false, false, false, false, false, false, false, false, false, false, false, false] rfl rfl (any_of HT_.out (by kernel_rfl)) (fun _ _ _ h => h) (Or.inl ⟨by rfl, ?_⟩) ?_ ?_
               rotate_left
               ·intro w'
                go_simp
                with_reducible rfl
               rotate_left
               ·simp only [Act.put, sp_]
                rfl
               refine pure_ (i := 2) (N := some 44) (v := ?_) (a' := ?_) #[true, true, true, false, false, false, false, false, false, false, false, false, false, false, false, false, false, false, false] rfl rfl (any_of HT_.out (by kernel_rfl)) (fun _ _ _ h => h) (Or.inl ⟨by rfl, ?_⟩) ?_ ?_
               rotate_left
               ·intro w'
                go_simp
                with_reducible rfl
               rotate_left
               ·simp only [Act.put, sp_]
                rfl
               refine pure_ (i := 5) (N := some 47) (v := ?_) (a' := ?_) #[true, true, true, false, false, true, false, false, false, false, false, false, false, false, false, false, false, false, false] rfl rfl (any_of HT_.out (by kernel_rfl)) (fun _ _ _ h => h) (Or.inl ⟨by rfl, ?_⟩) ?_ ?_
               rotate_left
               ·intro w'
                go_simp
                with_reducible rfl
               rotate_left
               ·simp only [Act.put, sp_]
                rfl
               refine pure_ (i := 7) (N := some 49) (v := ?_) (a' := ?_) #[true, true, true, false, false, true, false, true, false, false, false, false, false, false, false, false, false, false, false] rfl rfl (any_of HT_.out (by kernel_rfl)) (fun _ _ _ h => h) (Or.inl ⟨by rfl, ?_⟩) ?_ ?_
               rotate_left
               ·intro w'
                go_simp
                with_reducible rfl
               rotate_left
               ·simp only [Act.put, sp_]
                rfl
               refine take_ (i := 3) (N := some 45) (v := ?_) (a' := ?_) #[true, true, true, true, false, true, false, true, false, false, false, false, false, false, false, false, false, false, false] rfl rfl (take_ofW HT_.out HW_.out (by kernel_rfl)) (fun _ _ _ h => h) (Or.inl ⟨by rfl, ?_⟩) hHeld ?_ ?_
               rotate_left
               ·rintro w' ⟨s0, s1, s2, s3, s4, s5⟩
                go_simp
                with_reducible rfl
               rotate_left
               ·simp only [Act.put, sp_]
                rfl
               refine take_ (i := 4) (N := some 46) (v := ?_) (a' := ?_) #[true, true, true, true, true, true, false, true, false, false, false, false, false, false, false, false, false, false, false] rfl rfl (take_ofW HT_.out HW_.out (by kernel_rfl)) (fun _ _ _ h => h) (Or.inl ⟨by rfl, ?_⟩) hHeld ?_ ?_
               rotate_left
               ·rintro w' ⟨s0, s1, s2, s3, s4, s5⟩
                go_simp
                with_reducible rfl
               rotate_left
               ·simp only [Act.put, sp_]
                rfl
               refine one_ (i := 6) (N := some 48) #[true, true, true, true, true, true, true, true, false, false, false, false, false, false, false, false, false, false, false] rfl rfl (one_of HT_.out (by kernel_rfl)) (by decide) (fun K hK => ?_)
               refine goes_ Try.func67 (by kernel_rfl) rfl #[.agg #[.slice A0_0 l0_0.length c0_0, .int .i16 a0_1, .int .i16 a0_2, .int .i16 a0_3, .int .i16 a0_4, .bool a0_5], .int .i64 x34_2] (by rfl) rfl rfl arg_ ?_
               with_reducible refine (impl_Puzzle_at.calls k2 _ _ l0_0 a0_1 a0_2 a0_3 a0_4 a0_5 x34_2 t293 t294 t295 t296 _ ?side1 ?side2 A29.out).mono ?_
               (case side1 => exact Kd.C_below HR0_0.out (bl_ HB))
               (case side2 => exact HC0_0.out)
               rintro e w38 ⟨rfl, hb⟩
               refine ⟨_, rfl, ?_⟩
               have n0_ := A_ (blk_below (pl_ BK287) hb)
               have n1_ := A_ (below_step (bl_ HB) hb)
               clear BK287
               clear HB
               have BK287 := n0_
               have HB := n1_
               clear n0_ n1_
               (try clear hb)
               (try clear hb2)
               (try clear hk)
               (try clear hi)
               refine hK.out _ _ ⟨(blk_cell BK287.out 0).trans rfl, (blk_cell BK287.out 1).trans rfl, (blk_cell BK287.out 2).trans rfl, (blk_cell BK287.out 3).trans rfl, (blk_cell BK287.out 4).trans rfl, (blk_cell BK287.out 5).trans rfl⟩ (fun hHeld => ?_)
               clear hK K
               refine norm_ (a' := ?_) ?_ ?_
               rotate_left
               ·show Act.put _ (some 48) _ = _
                simp only [Act.put, sp_]
                rfl
               refine one_ (i := 8) (N := some 50) #[true, true, true, true, true, true, true, true, true, false, false, false, false, false, false, false, false, false, false] rfl rfl (one_of HT_.out (by kernel_rfl)) (by decide) (fun K hK => ?_)
               refine goes_ Try.func66 (by kernel_rfl) rfl #[.agg #[.slice A0_0 l0_0.length c0_0, .int .i16 a0_1, .int .i16 a0_2, .int .i16 a0_3, .int .i16 a0_4, .bool a0_5], .agg #[.int .i16 t293, .int .i16 t294, .int .i16 t295, .int .i16 t296], .int .i64 a2] (by rfl) rfl rfl arg_ ?_
               with_reducible refine (impl_Puzzle_hasAmount.calls k2 _ _ l0_0 a0_1 a0_2 a0_3 a0_4 a0_5 t293 t294 t295 t296 a2 true _ ?side1 ?side2 A30.out).mono ?_
               (case side1 => exact Kd.C_below HR0_0.out (bl_ HB))
               (case side2 => exact HC0_0.out)
               rintro e w39 ⟨rfl, hb⟩
               refine ⟨_, rfl, ?_⟩
               have n0_ := A_ (blk_below (pl_ BK287) hb)
               have n1_ := A_ (below_step (bl_ HB) hb)
               clear BK287
               clear HB
               have BK287 := n0_
               have HB := n1_
               clear n0_ n1_
               (try clear hb)
               (try clear hb2)
               (try clear hk)
               (try clear hi)
               refine hK.out _ _ ⟨(blk_cell BK287.out 0).trans rfl, (blk_cell BK287.out 1).trans rfl, (blk_cell BK287.out 2).trans rfl, (blk_cell BK287.out 3).trans rfl, (blk_cell BK287.out 4).trans rfl, (blk_cell BK287.out 5).trans rfl⟩ (fun hHeld => ?_)
               clear hK K
               refine norm_ (a' := ?_) ?_ ?_
               rotate_left
               ·show Act.put _ (some 50) _ = _
                simp only [Act.put, sp_]
                rfl
               refine pure_ (i := 9) (N := some 51) (v := ?_) (a' := ?_) #[true, true, true, true, true, true, true, true, true, true, false, false, false, false, false, false, false, false, false] rfl rfl (any_of HT_.out (by kernel_rfl)) (fun _ _ _ h => h) (Or.inl ⟨by rfl, ?_⟩) ?_ ?_
               rotate_left
               ·intro w'
                go_simp
                with_reducible rfl
               rotate_left
               ·simp only [Act.put, sp_]
                rfl
               refine pure_ (i := 10) (N := some 52) (v := ?_) (a' := ?_) #[true, true, true, true, true, true, true, true, true, true, true, false, false, false, false, false, false, false, false] rfl rfl (any_of HT_.out (by kernel_rfl)) (fun _ _ _ h => h) (Or.inl ⟨by rfl, ?_⟩) ?_ ?_
               rotate_left
               ·intro w'
                go_simp
                with_reducible rfl
               rotate_left
               ·simp only [Act.put, sp_]
                rfl
               refine pure_ (i := 11) (N := some 53) (v := ?_) (a' := ?_) #[true, true, true, true, true, true, true, true, true, true, true, true, false, false, false, false, false, false, false] rfl rfl (any_of HT_.out (by kernel_rfl)) (fun _ _ _ h => h) (Or.inl ⟨by rfl, ?_⟩) ?_ ?_
               rotate_left
               ·intro w'
                go_simp
                with_reducible rfl
               rotate_left
               ·simp only [Act.put, sp_]
                rfl
               refine pure_ (i := 12) (N := some 54) (v := ?_) (a' := ?_) #[true, true, true, true, true, true, true, true, true, true, true, true, true, false, false, false, false, false, false] rfl rfl (any_of HT_.out (by kernel_rfl)) (fun _ _ _ h => h) (Or.inl ⟨by rfl, ?_⟩) ?_ ?_
               rotate_left
               ·intro w'
                go_simp
                with_reducible rfl
               rotate_left
               ·simp only [Act.put, sp_]
                rfl
               refine pure_ (i := 13) (N := some 55) (v := ?_) (a' := ?_) #[true, true, true, true, true, true, true, true, true, true, true, true, true, true, false, false, false, false, false] rfl rfl (any_of HT_.out (by kernel_rfl)) (fun _ _ _ h => h) (Or.inl ⟨by rfl, ?_⟩) ?_ ?_
               rotate_left
               ·intro w'
                go_simp
                with_reducible rfl
               rotate_left
               ·simp only [Act.put, sp_]
                rfl
               refine pure_ (i := 14) (N := some 56) (v := ?_) (a' := ?_) #[true, true, true, true, true, true, true, true, true, true, true, true, true, true, true, false, false, false, false] rfl rfl (any_of HT_.out (by kernel_rfl)) (fun _ _ _ h => h) (Or.inl ⟨by rfl, ?_⟩) ?_ ?_
               rotate_left
               ·intro w'
                go_simp
                with_reducible rfl
               rotate_left
               ·simp only [Act.put, sp_]
                rfl
               refine pure_ (i := 15) (N := some 57) (v := ?_) (a' := ?_) #[true, true, true, true, true, true, true, true, true, true, true, true, true, true, true, true, false, false, false] rfl rfl (any_of HT_.out (by kernel_rfl)) (fun _ _ _ h => h) (Or.inl ⟨by rfl, ?_⟩) ?_ ?_
               rotate_left
               ·intro w'
                go_simp
                with_reducible rfl
               rotate_left
               ·simp only [Act.put, sp_]
                rfl
               refine pure_ (i := 16) (N := some 58) (v := ?_) (a' := ?_) #[true, true, true, true, true, true, true, true, true, true, true, true, true, true, true, true, true, false, false] rfl rfl (any_of HT_.out (by kernel_rfl)) (fun _ _ _ h => h) (Or.inl ⟨by rfl, ?_⟩) ?_ ?_
               rotate_left
               ·intro w'
                go_simp
                with_reducible rfl
               rotate_left
               ·simp only [Act.put, sp_]
                rfl
               refine pure_ (i := 17) (N := some 59) (v := ?_) (a' := ?_) #[true, true, true, true, true, true, true, true, true, true, true, true, true, true, true, true, true, true, false] rfl rfl (any_of HT_.out (by kernel_rfl)) (fun _ _ _ h => h) (Or.inl ⟨by rfl, ?_⟩) ?_ ?_
               rotate_left
               ·intro w'
                go_simp
                with_reducible rfl
               rotate_left
               ·simp only [Act.put, sp_]
                rfl
               refine pure_ (i := 18) (N := some 60) (v := ?_) (a' := ?_) #[true, true, true, true, true, true, true, true, true, true, true, true, true, true, true, true, true, true, true] rfl rfl (any_of HT_.out (by kernel_rfl)) (fun _ _ _ h => h) (Or.inl ⟨by rfl, ?_⟩) ?_ ?_
               rotate_left
               ·intro w'
                go_simp
                with_reducible rfl
               rotate_left
               ·simp only [Act.put, sp_]
                rfl
               refine done_ (done_of HT_.out (by kernel_rfl)) ?_
               try go_wp2
               go_roundg k2
               case measure => have := HJ8.out; have := HK2.out; omega
               case rel => exact ⟨(wrap64 (rd l1 x34_2)), (wrap64 (x34_2 + 1)), rs_, rs_, H', ⟨by have := HJ8.out; have := HK2.out; omega⟩, ⟨pl_ BK287⟩, ⟨bl_ HB⟩⟩
              ·rw [if_neg c36] at H
               have c36b0 : decide ((wrap64 (rd l1 x34_2)) < x9_2) = false := decide_eq_false c36
               clear c36
               have H' := Aside0.mk H
               clear H
               have p292 : 0 ≤ (x34_2 : Int) := asm_
               have q292 : x34_2 < (l1.length : Int) := asm_
               obtain ⟨ad292, e292, hx292_0⟩ := Kd.at_int HR1.out x34_2 p292 q292
               cases e292
               (try replace hx292_0 := (HB.out.cell (World.block_lt_of_cell? w _ hx292_0)).trans hx292_0)
               replace p292 := eq_true p292
               replace q292 := eq_true q292
               try go_wp2
               have n0_ := A_ (blk_drew BK287.out)
               have n1_ := A_ (below_drew1 HB.out)
               clear BK287
               clear HB
               have BK287 := n0_
               have HB := n1_
               clear n0_ n1_
               refine start_ (n := 19) (S := fun w' => w'.cell? ⟨gb287, 0, none⟩ = some (.slice A0_0 l0_0.length c0_0) ∧ w'.cell? ⟨gb287, 1, none⟩ = some (.int .i16 a0_1) ∧ w'.cell? ⟨gb287, 2, none⟩ = some (.int .i16 a0_2) ∧ w'.cell? ⟨gb287, 3, none⟩ = some (.int .i16 a0_3) ∧ w'.cell? ⟨gb287, 4, none⟩ = some (.int .i16 a0_4) ∧ w'.cell? ⟨gb287, 5, none⟩ = some (.bool a0_5)) (ds := []) #[false, false, false, false, false, false, false, false, false, false, false, false, false, false, false, false, false, false, false] (by kernel_rfl) rfl rfl ⟨(blk_cell BK287.out 0).trans rfl, (blk_cell BK287.out 1).trans rfl, (blk_cell BK287.out 2).trans rfl, (blk_cell BK287.out 3).trans rfl, (blk_cell BK287.out 4).trans rfl, (blk_cell BK287.out 5).trans rfl⟩ (fun hHeld => ?_); refine with_tabW impl_LeastStepsTo.tab13 impl_LeastStepsTo.bits13 (fun HT_ HW_ => ?_)
               generalize wr.drew = w40 at BK287 HB hHeld ⊢
               refine pure_ (i := 0) (N := some 42) (v := ?_) (a' := ?_) #[true, false, false, false, false, false, false, false, false, false, false, false, false, false, false, false, false, false, false] rfl rfl (any_of HT_.out (by kernel_rfl)) (fun _ _ _ h => h) (Or.inl ⟨by rfl, ?_⟩) ?_ ?_
               rotate_left
               ·intro w'
                go_simp
                with_reducible rfl
               rotate_left
               ·simp only [Act.put, sp_]
                rfl
               refine pure_ (i := 1) (N := some 43) (v := ?_) (a' := ?_) #[true, true, false, false, false, false, false, false, false, false, false, false, false, false, false, false, false, false, false] rfl rfl (any_of HT_.out (by kernel_rfl)) (fun _ _ _ h => h) (Or.inl ⟨by rfl, ?_⟩) ?_ ?_
               rotate_left
               ·intro w'
                go_simp
                with_reducible rfl
               rotate_left
               ·simp only [Act.put, sp_]
                rfl
               refine pure_ (i := 2) (N := some 44) (v := ?_) (a' := ?_) #[true, true, true, false, false, false, false, false, false, false, false, false, false, false, false, false, false, false, false] rfl rfl (any_of HT_.out (by kernel_rfl)) (fun _ _ _ h => h) (Or.inl ⟨by rfl, ?_⟩) ?_ ?_
               rotate_left
               ·intro w'
                go_simp
                with_reducible rfl
               rotate_left
               ·simp only [Act.put, sp_]
                rfl
               refine pure_ (i := 5) (N := some 47) (v := ?_) (a' := ?_) #[true, true, true, false, false, true, false, false, false, false, false, false, false, false, false, false, false, false, false] rfl rfl (any_of HT_.out (by kernel_rfl)) (fun _ _ _ h => h) (Or.inl ⟨by rfl, ?_⟩) ?_ ?_
               rotate_left
               ·intro w'
                go_simp
                with_reducible rfl
               rotate_left
               ·simp only [Act.put, sp_]
                rfl
               refine pure_ (i := 7) (N := some 49) (v := ?_) (a' := ?_) #[true, true, true, false, false, true, false, true, false, false, false, false, false, false, false, false, false, false, false] rfl rfl (any_of HT_.out (by kernel_rfl)) (fun _ _ _ h => h) (Or.inl ⟨by rfl, ?_⟩) ?_ ?_
               rotate_left
               ·intro w'
                go_simp
                with_reducible rfl
               rotate_left
               ·simp only [Act.put, sp_]
                rfl
               refine take_ (i := 3) (N := some 45) (v := ?_) (a' := ?_) #[true, true, true, true, false, true, false, true, false, false, false, false, false, false, false, false, false, false, false] rfl rfl (take_ofW HT_.out HW_.out (by kernel_rfl)) (fun _ _ _ h => h) (Or.inl ⟨by rfl, ?_⟩) hHeld ?_ ?_
               rotate_left
               ·rintro w' ⟨s0, s1, s2, s3, s4, s5⟩
                go_simp
                with_reducible rfl
               rotate_left
               ·simp only [Act.put, sp_]
                rfl
               refine take_ (i := 4) (N := some 46) (v := ?_) (a' := ?_) #[true, true, true, true, true, true, false, true, false, false, false, false, false, false, false, false, false, false, false] rfl rfl (take_ofW HT_.out HW_.out (by kernel_rfl)) (fun _ _ _ h => h) (Or.inl ⟨by rfl, ?_⟩) hHeld ?_ ?_
               rotate_left
               ·rintro w' ⟨s0, s1, s2, s3, s4, s5⟩
                go_simp
                with_reducible rfl
               rotate_left
               ·simp only [Act.put, sp_]
                rfl
               refine one_ (i := 6) (N := some 48) #[true, true, true, true, true, true, true, true, false, false, false, false, false, false, false, false, false, false, false] rfl rfl (one_of HT_.out (by kernel_rfl)) (by decide) (fun K hK => ?_)
               refine goes_ Try.func67 (by kernel_rfl) rfl #[.agg #[.slice A0_0 l0_0.length c0_0, .int .i16 a0_1, .int .i16 a0_2, .int .i16 a0_3, .int .i16 a0_4, .bool a0_5], .int .i64 x34_2] (by rfl) rfl rfl arg_ ?_
               with_reducible refine (impl_Puzzle_at.calls k2 _ _ l0_0 a0_1 a0_2 a0_3 a0_4 a0_5 x34_2 t293 t294 t295 t296 _ ?side1 ?side2 A29.out).mono ?_
               (case side1 => exact Kd.C_below HR0_0.out (bl_ HB))
               (case side2 => exact HC0_0.out)
               rintro e w41 ⟨rfl, hb⟩
               refine ⟨_, rfl, ?_⟩
               have n0_ := A_ (blk_below (pl_ BK287) hb)
               have n1_ := A_ (below_step (bl_ HB) hb)
               clear BK287
               clear HB
               have BK287 := n0_
               have HB := n1_
               clear n0_ n1_
               (try clear hb)
               (try clear hb2)
               (try clear hk)
               (try clear hi)
               refine hK.out _ _ ⟨(blk_cell BK287.out 0).trans rfl, (blk_cell BK287.out 1).trans rfl, (blk_cell BK287.out 2).trans rfl, (blk_cell BK287.out 3).trans rfl, (blk_cell BK287.out 4).trans rfl, (blk_cell BK287.out 5).trans rfl⟩ (fun hHeld => ?_)
               clear hK K
               refine norm_ (a' := ?_) ?_ ?_
               rotate_left
               ·show Act.put _ (some 48) _ = _
                simp only [Act.put, sp_]
                rfl
               refine one_ (i := 8) (N := some 50) #[true, true, true, true, true, true, true, true, true, false, false, false, false, false, false, false, false, false, false] rfl rfl (one_of HT_.out (by kernel_rfl)) (by decide) (fun K hK => ?_)
               refine goes_ Try.func66 (by kernel_rfl) rfl #[.agg #[.slice A0_0 l0_0.length c0_0, .int .i16 a0_1, .int .i16 a0_2, .int .i16 a0_3, .int .i16 a0_4, .bool a0_5], .agg #[.int .i16 t293, .int .i16 t294, .int .i16 t295, .int .i16 t296], .int .i64 a2] (by rfl) rfl rfl arg_ ?_
               with_reducible refine (impl_Puzzle_hasAmount.calls k2 _ _ l0_0 a0_1 a0_2 a0_3 a0_4 a0_5 t293 t294 t295 t296 a2 true _ ?side1 ?side2 A30.out).mono ?_
               (case side1 => exact Kd.C_below HR0_0.out (bl_ HB))
               (case side2 => exact HC0_0.out)
               rintro e w42 ⟨rfl, hb⟩
               refine ⟨_, rfl, ?_⟩
               have n0_ := A_ (blk_below (pl_ BK287) hb)
               have n1_ := A_ (below_step (bl_ HB) hb)
               clear BK287
               clear HB
               have BK287 := n0_
               have HB := n1_
               clear n0_ n1_
               (try clear hb)
               (try clear hb2)
               (try clear hk)
               (try clear hi)
               refine hK.out _ _ ⟨(blk_cell BK287.out 0).trans rfl, (blk_cell BK287.out 1).trans rfl, (blk_cell BK287.out 2).trans rfl, (blk_cell BK287.out 3).trans rfl, (blk_cell BK287.out 4).trans rfl, (blk_cell BK287.out 5).trans rfl⟩ (fun hHeld => ?_)
               clear hK K
               refine norm_ (a' := ?_) ?_ ?_
               rotate_left
               ·show Act.put _ (some 50) _ = _
                simp only [Act.put, sp_]
                rfl
               refine pure_ (i := 9) (N := some 51) (v := ?_) (a' := ?_) #[true, true, true, true, true, true, true, true, true, true, false, false, false, false, false, false, false, false, false] rfl rfl (any_of HT_.out (by kernel_rfl)) (fun _ _ _ h => h) (Or.inl ⟨by rfl, ?_⟩) ?_ ?_
               rotate_left
               ·intro w'
                go_simp
                with_reducible rfl
               rotate_left
               ·simp only [Act.put, sp_]
                rfl
               refine pure_ (i := 10) (N := some 52) (v := ?_) (a' := ?_) #[true, true, true, true, true, true, true, true, true, true, true, false, false, false, false, false, false, false, false] rfl rfl (any_of HT_.out (by kernel_rfl)) (fun _ _ _ h => h) (Or.inl ⟨by rfl, ?_⟩) ?_ ?_
               rotate_left
               ·intro w'
                go_simp
                with_reducible rfl
               rotate_left
               ·simp only [Act.put, sp_]
                rfl
               refine pure_ (i := 11) (N := some 53) (v := ?_) (a' := ?_) #[true, true, true, true, true, true, true, true, true, true, true, true, false, false, false, false, false, false, false] rfl rfl (any_of HT_.out (by kernel_rfl)) (fun _ _ _ h => h) (Or.inl ⟨by rfl, ?_⟩) ?_ ?_
               rotate_left
               ·intro w'
                go_simp
                with_reducible rfl
               rotate_left
               ·simp only [Act.put, sp_]
                rfl
               refine pure_ (i := 12) (N := some 54) (v := ?_) (a' := ?_) #[true, true, true, true, true, true, true, true, true, true, true, true, true, false, false, false, false, false, false] rfl rfl (any_of HT_.out (by kernel_rfl)) (fun _ _ _ h => h) (Or.inl ⟨by rfl, ?_⟩) ?_ ?_
               rotate_left
               ·intro w'
                go_simp
                with_reducible rfl
               rotate_left
               ·simp only [Act.put, sp_]
                rfl
               refine pure_ (i := 13) (N := some 55) (v := ?_) (a' := ?_) #[true, true, true, true, true, true, true, true, true, true, true, true, true, true, false, false, false, false, false] rfl rfl (any_of HT_.out (by kernel_rfl)) (fun _ _ _ h => h) (Or.inl ⟨by rfl, ?_⟩) ?_ ?_
               rotate_left
               ·intro w'
                go_simp
                with_reducible rfl
               rotate_left
               ·simp only [Act.put, sp_]
                rfl
               refine pure_ (i := 14) (N := some 56) (v := ?_) (a' := ?_) #[true, true, true, true, true, true, true, true, true, true, true, true, true, true, true, false, false, false, false] rfl rfl (any_of HT_.out (by kernel_rfl)) (fun _ _ _ h => h) (Or.inl ⟨by rfl, ?_⟩) ?_ ?_
               rotate_left
               ·intro w'
                go_simp
                with_reducible rfl
               rotate_left
               ·simp only [Act.put, sp_]
                rfl
               refine pure_ (i := 15) (N := some 57) (v := ?_) (a' := ?_) #[true, true, true, true, true, true, true, true, true, true, true, true, true, true, true, true, false, false, false] rfl rfl (any_of HT_.out (by kernel_rfl)) (fun _ _ _ h => h) (Or.inl ⟨by rfl, ?_⟩) ?_ ?_
               rotate_left
               ·intro w'
                go_simp
                with_reducible rfl
               rotate_left
               ·simp only [Act.put, sp_]
                rfl
               refine pure_ (i := 16) (N := some 58) (v := ?_) (a' := ?_) #[true, true, true, true, true, true, true, true, true, true, true, true, true, true, true, true, true, false, false] rfl rfl (any_of HT_.out (by kernel_rfl)) (fun _ _ _ h => h) (Or.inl ⟨by rfl, ?_⟩) ?_ ?_
               rotate_left
               ·intro w'
                go_simp
                with_reducible rfl
               rotate_left
               ·simp only [Act.put, sp_]
                rfl
               refine pure_ (i := 17) (N := some 59) (v := ?_) (a' := ?_) #[true, true, true, true, true, true, true, true, true, true, true, true, true, true, true, true, true, true, false] rfl rfl (any_of HT_.out (by kernel_rfl)) (fun _ _ _ h => h) (Or.inl ⟨by rfl, ?_⟩) ?_ ?_
               rotate_left
               ·intro w'
                go_simp
                with_reducible rfl
               rotate_left
               ·simp only [Act.put, sp_]
                rfl
               refine pure_ (i := 18) (N := some 60) (v := ?_) (a' := ?_) #[true, true, true, true, true, true, true, true, true, true, true, true, true, true, true, true, true, true, true] rfl rfl (any_of HT_.out (by kernel_rfl)) (fun _ _ _ h => h) (Or.inl ⟨by rfl, ?_⟩) ?_ ?_
               rotate_left
               ·intro w'
                go_simp
                with_reducible rfl
               rotate_left
               ·simp only [Act.put, sp_]
                rfl
               refine done_ (done_of HT_.out (by kernel_rfl)) ?_
               try go_wp2
               go_roundg k2
               case measure => have := HJ8.out; have := HK2.out; omega
               case rel => exact ⟨(x9_2), (wrap64 (x34_2 + 1)), rs_, rs_, H', ⟨by have := HJ8.out; have := HK2.out; omega⟩, ⟨pl_ BK287⟩, ⟨bl_ HB⟩⟩
            ·replace c31 := Bool.eq_false_iff.mpr c31
             subst c31
             have H1 : (impl_LeastStepsTo.l0 k2 l1 a2 x9_2 t291 (wrap64 (x34_2 + 1)) l0_0 a0_1 a0_2 a0_3 a0_4 a0_5) = some (r1, r2) := by rw [if_neg (show ¬ (false = true) by decide)] at H; exact H
             clear H
             have H := H1
             clear H1
             have H' := Aside0.mk H
             clear H
             have p292 : 0 ≤ (x34_2 : Int) := asm_
             have q292 : x34_2 < (l1.length : Int) := asm_
             obtain ⟨ad292, e292, hx292_0⟩ := Kd.at_int HR1.out x34_2 p292 q292
             cases e292
             (try replace hx292_0 := (HB.out.cell (World.block_lt_of_cell? w _ hx292_0)).trans hx292_0)
             replace p292 := eq_true p292
             replace q292 := eq_true q292
             try go_wp2
             have n0_ := A_ (blk_drew BK287.out)
             have n1_ := A_ (below_drew1 HB.out)
             clear BK287
             clear HB
             have BK287 := n0_
             have HB := n1_
             clear n0_ n1_
             refine start_ (n := 19) (S := fun w' => w'.cell? ⟨gb287, 0, none⟩ = some (.slice A0_0 l0_0.length c0_0) ∧ w'.cell? ⟨gb287, 1, none⟩ = some (.int .i16 a0_1) ∧ w'.cell? ⟨gb287, 2, none⟩ = some (.int .i16 a0_2) ∧ w'.cell? ⟨gb287, 3, none⟩ = some (.int .i16 a0_3) ∧ w'.cell? ⟨gb287, 4, none⟩ = some (.int .i16 a0_4) ∧ w'.cell? ⟨gb287, 5, none⟩ = some (.bool a0_5)) (ds := []) #[false, false, false, false, false, false, false, false, false, false, false, false, false, false, false, false, false, false, false] (by kernel_rfl) rfl rfl ⟨(blk_cell BK287.out 0).trans rfl, (blk_cell BK287.out 1).trans rfl, (blk_cell BK287.out 2).trans rfl, (blk_cell BK287.out 3).trans rfl, (blk_cell BK287.out 4).trans rfl, (blk_cell BK287.out 5).trans rfl⟩ (fun hHeld => ?_); refine with_tabW impl_LeastStepsTo.tab13 impl_LeastStepsTo.bits13 (fun HT_ HW_ => ?_)
             generalize wr.drew = w43 at BK287 HB hHeld ⊢
             refine pure_ (i := 0) (N := some 42) (v := ?_) (a' := ?_) #[true, false, false, false, false, false, false, false, false, false, false, false, false, false, false, false, false, false, false] rfl rfl (any_of HT_.out (by kernel_rfl)) (fun _ _ _ h => h) (Or.inl ⟨by rfl, ?_⟩) ?_ ?_
             rotate_left
             ·intro w'
              go_simp
              with_reducible rfl
             rotate_left
             ·simp only [Act.put, sp_]
              rfl
             refine pure_ (i := 1) (N := some 43) (v := ?_) (a' := ?_) #[true, true, false, false, false, false, false, false, false, false, false, false, false, false, false, false, false, false, false] rfl rfl (any_of HT_.out (by kernel_rfl)) (fun _ _ _ h => h) (Or.inl ⟨by rfl, ?_⟩) ?_ ?_
             rotate_left
             ·intro w'
              go_simp
              with_reducible rfl
             rotate_left
             ·simp only [Act.put, sp_]
              rfl
             refine pure_ (i := 2) (N := some 44) (v := ?_) (a' := ?_) #[true, true, true, false, false, false, false, false, false, false, false, false, false, false, false, false, false, false, false] rfl rfl (any_of HT_.out (by kernel_rfl)) (fun _ _ _ h => h) (Or.inl ⟨by rfl, ?_⟩) ?_ ?_
             rotate_left
             ·intro w'
              go_simp
              with_reducible rfl
             rotate_left
             ·simp only [Act.put, sp_]
              rfl
             refine pure_ (i := 5) (N := some 47) (v := ?_) (a' := ?_) #[true, true, true, false, false, true, false, false, false, false, false, false, false, false, false, false, false, false, false] rfl rfl (any_of HT_.out (by kernel_rfl)) (fun _ _ _ h => h) (Or.inl ⟨by rfl, ?_⟩) ?_ ?_
             rotate_left
             ·intro w'
              go_simp
              with_reducible rfl
             rotate_left
             ·simp only [Act.put, sp_]
              rfl
             refine pure_ (i := 7) (N := some 49) (v := ?_) (a' := ?_) #[true, true, true, false, false, true, false, true, false, false, false, false, false, false, false, false, false, false, false] rfl rfl (any_of HT_.out (by kernel_rfl)) (fun _ _ _ h => h) (Or.inl ⟨by rfl, ?_⟩) ?_ ?_
             rotate_left
             ·intro w'
              go_simp
              with_reducible rfl
             rotate_left
             ·simp only [Act.put, sp_]
              rfl
             refine take_ (i := 3) (N := some 45) (v := ?_) (a' := ?_) #[true, true, true, true, false, true, false, true, false, false, false, false, false, false, false, false, false, false, false] rfl rfl (take_ofW HT_.out HW_.out (by kernel_rfl)) (fun _ _ _ h => h) (Or.inl ⟨by rfl, ?_⟩) hHeld ?_ ?_
             rotate_left
             ·rintro w' ⟨s0, s1, s2, s3, s4, s5⟩
              go_simp
              with_reducible rfl
             rotate_left
             ·simp only [Act.put, sp_]
              rfl
             refine take_ (i := 4) (N := some 46) (v := ?_) (a' := ?_) #[true, true, true, true, true, true, false, true, false, false, false, false, false, false, false, false, false, false, false] rfl rfl (take_ofW HT_.out HW_.out (by kernel_rfl)) (fun _ _ _ h => h) (Or.inl ⟨by rfl, ?_⟩) hHeld ?_ ?_
             rotate_left
             ·rintro w' ⟨s0, s1, s2, s3, s4, s5⟩
              go_simp
              with_reducible rfl
             rotate_left
             ·simp only [Act.put, sp_]
              rfl
             refine one_ (i := 6) (N := some 48) #[true, true, true, true, true, true, true, true, false, false, false, false, false, false, false, false, false, false, false] rfl rfl (one_of HT_.out (by kernel_rfl)) (by decide) (fun K hK => ?_)
             refine goes_ Try.func67 (by kernel_rfl) rfl #[.agg #[.slice A0_0 l0_0.length c0_0, .int .i16 a0_1, .int .i16 a0_2, .int .i16 a0_3, .int .i16 a0_4, .bool a0_5], .int .i64 x34_2] (by rfl) rfl rfl arg_ ?_
             with_reducible refine (impl_Puzzle_at.calls k2 _ _ l0_0 a0_1 a0_2 a0_3 a0_4 a0_5 x34_2 t293 t294 t295 t296 _ ?side1 ?side2 A29.out).mono ?_
             (case side1 => exact Kd.C_below HR0_0.out (bl_ HB))
             (case side2 => exact HC0_0.out)
             rintro e w44 ⟨rfl, hb⟩
             refine ⟨_, rfl, ?_⟩
             have n0_ := A_ (blk_below (pl_ BK287) hb)
             have n1_ := A_ (below_step (bl_ HB) hb)
             clear BK287
             clear HB
             have BK287 := n0_
             have HB := n1_
             clear n0_ n1_
             (try clear hb)
             (try clear hb2)
             (try clear hk)
             (try clear hi)
             refine hK.out _ _ ⟨(blk_cell BK287.out 0).trans rfl, (blk_cell BK287.out 1).trans rfl, (blk_cell BK287.out 2).trans rfl, (blk_cell BK287.out 3).trans rfl, (blk_cell BK287.out 4).trans rfl, (blk_cell BK287.out 5).trans rfl⟩ (fun hHeld => ?_)
             clear hK K
             refine norm_ (a' := ?_) ?_ ?_
             rotate_left
             ·show Act.put _ (some 48) _ = _
              simp only [Act.put, sp_]
              rfl
             refine one_ (i := 8) (N := some 50) #[true, true, true, true, true, true, true, true, true, false, false, false, false, false, false, false, false, false, false] rfl rfl (one_of HT_.out (by kernel_rfl)) (by decide) (fun K hK => ?_)
             refine goes_ Try.func66 (by kernel_rfl) rfl #[.agg #[.slice A0_0 l0_0.length c0_0, .int .i16 a0_1, .int .i16 a0_2, .int .i16 a0_3, .int .i16 a0_4, .bool a0_5], .agg #[.int .i16 t293, .int .i16 t294, .int .i16 t295, .int .i16 t296], .int .i64 a2] (by rfl) rfl rfl arg_ ?_
             with_reducible refine (impl_Puzzle_hasAmount.calls k2 _ _ l0_0 a0_1 a0_2 a0_3 a0_4 a0_5 t293 t294 t295 t296 a2 false _ ?side1 ?side2 A30.out).mono ?_
             (case side1 => exact Kd.C_below HR0_0.out (bl_ HB))
             (case side2 => exact HC0_0.out)
             rintro e w45 ⟨rfl, hb⟩
             refine ⟨_, rfl, ?_⟩
             have n0_ := A_ (blk_below (pl_ BK287) hb)
             have n1_ := A_ (below_step (bl_ HB) hb)
             clear BK287
             clear HB
             have BK287 := n0_
             have HB := n1_
             clear n0_ n1_
             (try clear hb)
             (try clear hb2)
             (try clear hk)
             (try clear hi)
             refine hK.out _ _ ⟨(blk_cell BK287.out 0).trans rfl, (blk_cell BK287.out 1).trans rfl, (blk_cell BK287.out 2).trans rfl, (blk_cell BK287.out 3).trans rfl, (blk_cell BK287.out 4).trans rfl, (blk_cell BK287.out 5).trans rfl⟩ (fun hHeld => ?_)
             clear hK K
             refine norm_ (a' := ?_) ?_ ?_
             rotate_left
             ·show Act.put _ (some 50) _ = _
              simp only [Act.put, sp_]
              rfl
             refine pure_ (i := 9) (N := some 51) (v := ?_) (a' := ?_) #[true, true, true, true, true, true, true, true, true, true, false, false, false, false, false, false, false, false, false] rfl rfl (any_of HT_.out (by kernel_rfl)) (fun _ _ _ h => h) (Or.inl ⟨by rfl, ?_⟩) ?_ ?_
             rotate_left
             ·intro w'
              go_simp
              with_reducible rfl
             rotate_left
             ·simp only [Act.put, sp_]
              rfl
             refine pure_ (i := 10) (N := some 52) (v := ?_) (a' := ?_) #[true, true, true, true, true, true, true, true, true, true, true, false, false, false, false, false, false, false, false] rfl rfl (any_of HT_.out (by kernel_rfl)) (fun _ _ _ h => h) (Or.inl ⟨by rfl, ?_⟩) ?_ ?_
             rotate_left
             ·intro w'
              go_simp
              with_reducible rfl
             rotate_left
             ·simp only [Act.put, sp_]
              rfl
             refine pure_ (i := 11) (N := some 53) (v := undef) (a' := ?_) #[true, true, true, true, true, true, true, true, true, true, true, true, false, false, false, false, false, false, false] rfl rfl (any_of HT_.out (by kernel_rfl)) (fun _ _ _ h => h) (Or.inr ⟨by rfl, rfl⟩) ?_ ?_
             rotate_left
             ·simp only [Act.put, sp_]
              rfl
             refine pure_ (i := 12) (N := some 54) (v := undef) (a' := ?_) #[true, true, true, true, true, true, true, true, true, true, true, true, true, false, false, false, false, false, false] rfl rfl (any_of HT_.out (by kernel_rfl)) (fun _ _ _ h => h) (Or.inr ⟨by rfl, rfl⟩) ?_ ?_
             rotate_left
             ·simp only [Act.put, sp_]
              rfl
             refine pure_ (i := 13) (N := some 55) (v := undef) (a' := ?_) #[true, true, true, true, true, true, true, true, true, true, true, true, true, true, false, false, false, false, false] rfl rfl (any_of HT_.out (by kernel_rfl)) (fun _ _ _ h => h) (Or.inr ⟨by rfl, rfl⟩) ?_ ?_
             rotate_left
             ·simp only [Act.put, sp_]
              rfl
             refine pure_ (i := 14) (N := some 56) (v := undef) (a' := ?_) #[true, true, true, true, true, true, true, true, true, true, true, true, true, true, true, false, false, false, false] rfl rfl (any_of HT_.out (by kernel_rfl)) (fun _ _ _ h => h) (Or.inr ⟨by rfl, rfl⟩) ?_ ?_
             rotate_left
             ·simp only [Act.put, sp_]
              rfl
             refine pure_ (i := 15) (N := some 57) (v := undef) (a' := ?_) #[true, true, true, true, true, true, true, true, true, true, true, true, true, true, true, true, false, false, false] rfl rfl (any_of HT_.out (by kernel_rfl)) (fun _ _ _ h => h) (Or.inr ⟨by rfl, rfl⟩) ?_ ?_
             rotate_left
             ·simp only [Act.put, sp_]
              rfl
             refine pure_ (i := 16) (N := some 58) (v := undef) (a' := ?_) #[true, true, true, true, true, true, true, true, true, true, true, true, true, true, true, true, true, false, false] rfl rfl (any_of HT_.out (by kernel_rfl)) (fun _ _ _ h => h) (Or.inr ⟨by rfl, rfl⟩) ?_ ?_
             rotate_left
             ·simp only [Act.put, sp_]
              rfl
             refine pure_ (i := 17) (N := some 59) (v := undef) (a' := ?_) #[true, true, true, true, true, true, true, true, true, true, true, true, true, true, true, true, true, true, false] rfl rfl (any_of HT_.out (by kernel_rfl)) (fun _ _ _ h => h) (Or.inr ⟨by rfl, rfl⟩) ?_ ?_
             rotate_left
             ·simp only [Act.put, sp_]
              rfl
             refine pure_ (i := 18) (N := some 60) (v := ?_) (a' := ?_) #[true, true, true, true, true, true, true, true, true, true, true, true, true, true, true, true, true, true, true] rfl rfl (any_of HT_.out (by kernel_rfl)) (fun _ _ _ h => h) (Or.inl ⟨by rfl, ?_⟩) ?_ ?_
             rotate_left
             ·intro w'
              go_simp
              with_reducible rfl
             rotate_left
             ·simp only [Act.put, sp_]
              rfl
             refine done_ (done_of HT_.out (by kernel_rfl)) ?_
             try go_wp2
             go_roundg k2
             case measure => have := HJ8.out; have := HK2.out; omega
             case rel => exact ⟨(x9_2), (wrap64 (x34_2 + 1)), rs_, rs_, H', ⟨by have := HJ8.out; have := HK2.out; omega⟩, ⟨pl_ BK287⟩, ⟨bl_ HB⟩⟩
           ·rw [if_neg c28] at H
            have c28b0 : decide (0 ≤ (wrap64 (rd l1 x34_2))) = false := decide_eq_false c28
            clear c28
            have H' := Aside0.mk H
            clear H
            have p292 : 0 ≤ (x34_2 : Int) := asm_
            have q292 : x34_2 < (l1.length : Int) := asm_
            obtain ⟨ad292, e292, hx292_0⟩ := Kd.at_int HR1.out x34_2 p292 q292
            cases e292
            (try replace hx292_0 := (HB.out.cell (World.block_lt_of_cell? w _ hx292_0)).trans hx292_0)
            replace p292 := eq_true p292
            replace q292 := eq_true q292
            try go_wp2
            have n0_ := A_ (blk_drew BK287.out)
            have n1_ := A_ (below_drew1 HB.out)
            clear BK287
            clear HB
            have BK287 := n0_
            have HB := n1_
            clear n0_ n1_
            refine start_ (n := 19) (S := fun w' => True) (ds := []) #[false, false, false, false, false, false, false, false, false, false, false, false, false, false, false, false, false, false, false] (by kernel_rfl) rfl rfl trivial (fun hHeld => ?_); refine with_tabW impl_LeastStepsTo.tab13 impl_LeastStepsTo.bits13 (fun HT_ HW_ => ?_)
            generalize wr.drew = w46 at BK287 HB hHeld ⊢
            refine pure_ (i := 0) (N := some 42) (v := ?_) (a' := ?_) #[true, false, false, false, false, false, false, false, false, false, false, false, false, false, false, false, false, false, false] rfl rfl (any_of HT_.out (by kernel_rfl)) (fun _ _ _ h => h) (Or.inl ⟨by rfl, ?_⟩) ?_ ?_
            rotate_left
            ·intro w'
             go_simp
             with_reducible rfl
            rotate_left
            ·simp only [Act.put, sp_]
             rfl
            refine pure_ (i := 1) (N := some 43) (v := ?_) (a' := ?_) #[true, true, false, false, false, false, false, false, false, false, false, false, false, false, false, false, false, false, false] rfl rfl (any_of HT_.out (by kernel_rfl)) (fun _ _ _ h => h) (Or.inl ⟨by rfl, ?_⟩) ?_ ?_
            rotate_left
            ·intro w'
             go_simp
             with_reducible rfl
            rotate_left
            ·simp only [Act.put, sp_]
             rfl
            refine pure_ (i := 2) (N := some 44) (v := ?_) (a' := ?_) #[true, true, true, false, false, false, false, false, false, false, false, false, false, false, false, false, false, false, false] rfl rfl (any_of HT_.out (by kernel_rfl)) (fun _ _ _ h => h) (Or.inl ⟨by rfl, ?_⟩) ?_ ?_
            rotate_left
            ·intro w'
             go_simp
             with_reducible rfl
            rotate_left
            ·simp only [Act.put, sp_]
             rfl
            refine pure_ (i := 3) (N := some 45) (v := undef) (a' := ?_) #[true, true, true, true, false, false, false, false, false, false, false, false, false, false, false, false, false, false, false] rfl rfl (any_of HT_.out (by kernel_rfl)) (fun _ _ _ h => h) (Or.inr ⟨by rfl, rfl⟩) ?_ ?_
            rotate_left
            ·simp only [Act.put, sp_]
             rfl
            refine pure_ (i := 4) (N := some 46) (v := undef) (a' := ?_) #[true, true, true, true, true, false, false, false, false, false, false, false, false, false, false, false, false, false, false] rfl rfl (any_of HT_.out (by kernel_rfl)) (fun _ _ _ h => h) (Or.inr ⟨by rfl, rfl⟩) ?_ ?_
            rotate_left
            ·simp only [Act.put, sp_]
             rfl
            refine pure_ (i := 5) (N := some 47) (v := undef) (a' := ?_) #[true, true, true, true, true, true, false, false, false, false, false, false, false, false, false, false, false, false, false] rfl rfl (any_of HT_.out (by kernel_rfl)) (fun _ _ _ h => h) (Or.inr ⟨by rfl, rfl⟩) ?_ ?_
            rotate_left
            ·simp only [Act.put, sp_]
             rfl
            refine pure_ (i := 6) (N := some 48) (v := undef) (a' := ?_) #[true, true, true, true, true, true, true, false, false, false, false, false, false, false, false, false, false, false, false] rfl rfl (any_of HT_.out (by kernel_rfl)) (fun _ _ _ h => h) (Or.inr ⟨by rfl, rfl⟩) ?_ ?_
            rotate_left
            ·simp only [Act.put, sp_]
             rfl
            refine pure_ (i := 7) (N := some 49) (v := undef) (a' := ?_) #[true, true, true, true, true, true, true, true, false, false, false, false, false, false, false, false, false, false, false] rfl rfl (any_of HT_.out (by kernel_rfl)) (fun _ _ _ h => h) (Or.inr ⟨by rfl, rfl⟩) ?_ ?_
            rotate_left
            ·simp only [Act.put, sp_]
             rfl
            refine pure_ (i := 8) (N := some 50) (v := undef) (a' := ?_) #[true, true, true, true, true, true, true, true, true, false, false, false, false, false, false, false, false, false, false] rfl rfl (any_of HT_.out (by kernel_rfl)) (fun _ _ _ h => h) (Or.inr ⟨by rfl, rfl⟩) ?_ ?_
            rotate_left
            ·simp only [Act.put, sp_]
             rfl
            refine pure_ (i := 9) (N := some 51) (v := ?_) (a' := ?_) #[true, true, true, true, true, true, true, true, true, true, false, false, false, false, false, false, false, false, false] rfl rfl (any_of HT_.out (by kernel_rfl)) (fun _ _ _ h => h) (Or.inl ⟨by rfl, ?_⟩) ?_ ?_
            rotate_left
            ·intro w'
             go_simp
             with_reducible rfl
            rotate_left
            ·simp only [Act.put, sp_]
             rfl
            refine pure_ (i := 10) (N := some 52) (v := ?_) (a' := ?_) #[true, true, true, true, true, true, true, true, true, true, true, false, false, false, false, false, false, false, false] rfl rfl (any_of HT_.out (by kernel_rfl)) (fun _ _ _ h => h) (Or.inl ⟨by rfl, ?_⟩) ?_ ?_
            rotate_left
            ·intro w'
             go_simp
             with_reducible rfl
            rotate_left
            ·simp only [Act.put, sp_]
             rfl
            refine pure_ (i := 11) (N := some 53) (v := undef) (a' := ?_) #[true, true, true, true, true, true, true, true, true, true, true, true, false, false, false, false, false, false, false] rfl rfl (any_of HT_.out (by kernel_rfl)) (fun _ _ _ h => h) (Or.inr ⟨by rfl, rfl⟩) ?_ ?_
            rotate_left
            ·simp only [Act.put, sp_]
             rfl
            refine pure_ (i := 12) (N := some 54) (v := undef) (a' := ?_) #[true, true, true, true, true, true, true, true, true, true, true, true, true, false, false, false, false, false, false] rfl rfl (any_of HT_.out (by kernel_rfl)) (fun _ _ _ h => h) (Or.inr ⟨by rfl, rfl⟩) ?_ ?_
            rotate_left
            ·simp only [Act.put, sp_]
             rfl
            refine pure_ (i := 13) (N := some 55) (v := undef) (a' := ?_) #[true, true, true, true, true, true, true, true, true, true, true, true, true, true, false, false, false, false, false] rfl rfl (any_of HT_.out (by kernel_rfl)) (fun _ _ _ h => h) (Or.inr ⟨by rfl, rfl⟩) ?_ ?_
            rotate_left
            ·simp only [Act.put, sp_]
             rfl
            refine pure_ (i := 14) (N := some 56) (v := undef) (a' := ?_) #[true, true, true, true, true, true, true, true, true, true, true, true, true, true, true, false, false, false, false] rfl rfl (any_of HT_.out (by kernel_rfl)) (fun _ _ _ h => h) (Or.inr ⟨by rfl, rfl⟩) ?_ ?_
            rotate_left
            ·simp only [Act.put, sp_]
             rfl
            refine pure_ (i := 15) (N := some 57) (v := undef) (a' := ?_) #[true, true, true, true, true, true, true, true, true, true, true, true, true, true, true, true, false, false, false] rfl rfl (any_of HT_.out (by kernel_rfl)) (fun _ _ _ h => h) (Or.inr ⟨by rfl, rfl⟩) ?_ ?_
            rotate_left
            ·simp only [Act.put, sp_]
             rfl
            refine pure_ (i := 16) (N := some 58) (v := undef) (a' := ?_) #[true, true, true, true, true, true, true, true, true, true, true, true, true, true, true, true, true, false, false] rfl rfl (any_of HT_.out (by kernel_rfl)) (fun _ _ _ h => h) (Or.inr ⟨by rfl, rfl⟩) ?_ ?_
            rotate_left
            ·simp only [Act.put, sp_]
             rfl
            refine pure_ (i := 17) (N := some 59) (v := undef) (a' := ?_) #[true, true, true, true, true, true, true, true, true, true, true, true, true, true, true, true, true, true, false] rfl rfl (any_of HT_.out (by kernel_rfl)) (fun _ _ _ h => h) (Or.inr ⟨by rfl, rfl⟩) ?_ ?_
            rotate_left
            ·simp only [Act.put, sp_]
             rfl
            refine pure_ (i := 18) (N := some 60) (v := ?_) (a' := ?_) #[true, true, true, true, true, true, true, true, true, true, true, true, true, true, true, true, true, true, true] rfl rfl (any_of HT_.out (by kernel_rfl)) (fun _ _ _ h => h) (Or.inl ⟨by rfl, ?_⟩) ?_ ?_
            rotate_left
            ·intro w'
             go_simp
             with_reducible rfl
            rotate_left
            ·simp only [Act.put, sp_]
             rfl
            refine done_ (done_of HT_.out (by kernel_rfl)) ?_
            try go_wp2
            go_roundg k2
            case measure => have := HJ8.out; have := HK2.out; omega
            case rel => exact ⟨(x9_2), (wrap64 (x34_2 + 1)), rs_, rs_, H', ⟨by have := HJ8.out; have := HK2.out; omega⟩, ⟨pl_ BK287⟩, ⟨bl_ HB⟩⟩
          ·rw [if_neg c27] at H
           exact absurd H (by simp)
         ·rw [if_neg c26] at H
          exact absurd H (by simp)
        ·rw [if_neg c25] at H
         have c25b0 : decide (x34_2 < t291) = false := decide_eq_false c25
         clear c25
         by_cases c47 : x9_2 < 0
         ·rw [if_pos c47] at H
          have c47b0 : decide (x9_2 < 0) = true := decide_eq_true c47
          clear c47
          simp only [Option.some.injEq, Prod.mk.injEq] at H
          obtain ⟨rfl, rfl⟩ := H
          go_wp2
          go_ret2
          exact ⟨by first | rfl | (simp [errW_none, errW_some] <;> rfl) | (simp [*, errW_none, errW_some] <;> rfl), bl_ HB⟩
         ·rw [if_neg c47] at H
          have c47b0 : decide (x9_2 < 0) = false := decide_eq_false c47
          clear c47
          simp only [Option.some.injEq, Prod.mk.injEq] at H
          obtain ⟨rfl, rfl⟩ := H
          go_wp2
          go_ret2
          exact ⟨by first | rfl | (simp [errW_none, errW_some] <;> rfl) | (simp [*, errW_none, errW_some] <;> rfl), bl_ HB⟩

end Go.Proofs.Ytodmfjophjhbeaa.M
