-- By this seat's own program over the kit's printer (arrays, functions told by hand); nothing of it is trusted: the kernel checks it.
import Derived.Test.YtodmfjophjhbeaaMx0
import Derived.Test.YtodmfjophjhbeaaMx6
import Derived.Test.YtodmfjophjhbeaaMx10
import Derived.Test.YtodmfjophjhbeaaMx11
namespace Go.Proofs.Ytodmfjophjhbeaa.M
open Go.RowKit Go.Proofs.YtodmfjophjhbeaaW.PrintWords Go.Proofs.YtodmfjophjhbeaaW.PrintLast Go.Proofs.YtodmfjophjhbeaaW.PrintMore
attribute [local go_sem] max2_int min2_int max_two min_two max_three min_three max_four min_four   -- for this text's walks alone
set_option linter.unusedVariables false
set_option linter.unusedSimpArgs false

/-! ### spec_LeastStepsTo: function 17 -/
mutual
def spec_LeastStepsTo.j0 : Nat → List Int → Int → Int → List Int → Int → Int → Int → Int → Bool → Option (Int × Int)
 | 0, _, _, _, _, _, _, _, _, _ => none
 | k + 1, x1, x2, x8, x169000, x169001, x169002, x169003, x169004, x169005 => if x8 = 0 then ((spec_l02Broken.f k x169000 x169001 x169002 x169003 x169004 x169005 x1).bind fun t171 => (if t171 ≥ 0 then (some (0, 8)) else (spec_LeastStepsTo.l0 k x1 x2 (-1) 0 x169000 x169001 x169002 x169003 x169004 x169005))) else (some (0, x8))
def spec_LeastStepsTo.l0 : Nat → List Int → Int → Int → Int → List Int → Int → Int → Int → Int → Bool → Option (Int × Int)
 | 0, _, _, _, _, _, _, _, _, _, _ => none
 | k + 1, x1, x2, x9, x10, x169000, x169001, x169002, x169003, x169004, x169005 => if x10 < (x1.length : Int) then (if 0 ≤ x10 then (if (wrap64 (rd x1 x10)) ≥ 0 then (if x9 < 0 then ((spec_l02At.f k x169000 x169001 x169002 x169003 x169004 x169005 x10).bind fun bt173 => ((spec_l02Has.f k x169000 x169001 x169002 x169003 x169004 x169005 bt173.1 bt173.2.1 bt173.2.2.1 bt173.2.2.2 x2).bind fun t177 => (if t177 = true then (spec_LeastStepsTo.l0 k x1 x2 (wrap64 (rd x1 x10)) (wrap64 (x10 + 1)) x169000 x169001 x169002 x169003 x169004 x169005) else (spec_LeastStepsTo.l0 k x1 x2 x9 (wrap64 (x10 + 1)) x169000 x169001 x169002 x169003 x169004 x169005)))) else (if (wrap64 (rd x1 x10)) < x9 then ((spec_l02At.f k x169000 x169001 x169002 x169003 x169004 x169005 x10).bind fun bt178 => ((spec_l02Has.f k x169000 x169001 x169002 x169003 x169004 x169005 bt178.1 bt178.2.1 bt178.2.2.1 bt178.2.2.2 x2).bind fun t182 => (if t182 = true then (spec_LeastStepsTo.l0 k x1 x2 (wrap64 (rd x1 x10)) (wrap64 (x10 + 1)) x169000 x169001 x169002 x169003 x169004 x169005) else (spec_LeastStepsTo.l0 k x1 x2 x9 (wrap64 (x10 + 1)) x169000 x169001 x169002 x169003 x169004 x169005)))) else (spec_LeastStepsTo.l0 k x1 x2 x9 (wrap64 (x10 + 1)) x169000 x169001 x169002 x169003 x169004 x169005))) else (spec_LeastStepsTo.l0 k x1 x2 x9 (wrap64 (x10 + 1)) x169000 x169001 x169002 x169003 x169004 x169005)) else (none)) else (if x9 < 0 then (some (0, 6)) else (some (x9, 0)))
end
def spec_LeastStepsTo.f (k : Nat) (l0_0 : List Int) (a0_1 : Int) (a0_2 : Int) (a0_3 : Int) (a0_4 : Int) (a0_5 : Bool) (l1 : List Int) (a2 : Int) : Option (Int × Int) := (spec_l02Tabled.f k l0_0 a0_1 a0_2 a0_3 a0_4 a0_5 l1).bind fun t169 => (if t169 = 0 then ((spec_l02Amount.f k l0_0 a0_1 a0_2 a0_3 a0_4 a0_5 a2).bind fun t170 => (spec_LeastStepsTo.j0 k l1 a2 t170 l0_0 a0_1 a0_2 a0_3 a0_4 a0_5)) else (spec_LeastStepsTo.j0 k l1 a2 t169 l0_0 a0_1 a0_2 a0_3 a0_4 a0_5))
theorem spec_LeastStepsTo.mono_l : ∀ k, (∀ y0 y1 y2 y3 y4 y5 y6 y7 y8, LeO (spec_LeastStepsTo.j0 k y0 y1 y2 y3 y4 y5 y6 y7 y8) (spec_LeastStepsTo.j0 (k + 1) y0 y1 y2 y3 y4 y5 y6 y7 y8)) ∧ (∀ y0 y1 y2 y3 y4 y5 y6 y7 y8 y9, LeO (spec_LeastStepsTo.l0 k y0 y1 y2 y3 y4 y5 y6 y7 y8 y9) (spec_LeastStepsTo.l0 (k + 1) y0 y1 y2 y3 y4 y5 y6 y7 y8 y9))
 | 0 => ⟨fun _ _ _ _ _ _ _ _ _ r h => by simp [spec_LeastStepsTo.j0] at h, fun _ _ _ _ _ _ _ _ _ _ r h => by simp [spec_LeastStepsTo.l0] at h⟩
 | k + 1 => by
  obtain ⟨ih0, ih1⟩ := spec_LeastStepsTo.mono_l k
  refine ⟨?_, ?_⟩
  ·intro y0 y1 y2 y3 y4 y5 y6 y7 y8
   unfold spec_LeastStepsTo.j0
   repeat' first
   | (with_reducible exact ih0 _ _ _ _ _ _ _ _ _)
   | (with_reducible exact ih1 _ _ _ _ _ _ _ _ _ _)
   | (with_reducible exact spec_l02Amount.mono _ _ _ _ _ _ _ _)
   | (with_reducible exact spec_l02At.mono _ _ _ _ _ _ _ _)
   | (with_reducible exact spec_l02Broken.mono _ _ _ _ _ _ _ _)
   | (with_reducible exact spec_l02Has.mono _ _ _ _ _ _ _ _ _ _ _ _)
   | (with_reducible exact spec_l02Tabled.mono _ _ _ _ _ _ _ _)
   | (with_reducible exact LeO.refl _)
   | (with_reducible exact LeO.none _)
   | (with_reducible refine LeO.ite ?_ ?_)
   | (with_reducible refine LeO.bind ?_ (fun _ => ?_))
   | exact ih0 _ _ _ _ _ _ _ _ _
   | exact ih1 _ _ _ _ _ _ _ _ _ _
   | exact spec_l02Amount.mono _ _ _ _ _ _ _ _
   | exact spec_l02At.mono _ _ _ _ _ _ _ _
   | exact spec_l02Broken.mono _ _ _ _ _ _ _ _
   | exact spec_l02Has.mono _ _ _ _ _ _ _ _ _ _ _ _
   | exact spec_l02Tabled.mono _ _ _ _ _ _ _ _
   | exact LeO.none _
   | refine LeO.ite ?_ ?_
   | refine LeO.bind ?_ (fun _ => ?_)
  ·intro y0 y1 y2 y3 y4 y5 y6 y7 y8 y9
   unfold spec_LeastStepsTo.l0
   repeat' first
   | (with_reducible exact ih0 _ _ _ _ _ _ _ _ _)
   | (with_reducible exact ih1 _ _ _ _ _ _ _ _ _ _)
   | (with_reducible exact spec_l02Amount.mono _ _ _ _ _ _ _ _)
   | (with_reducible exact spec_l02At.mono _ _ _ _ _ _ _ _)
   | (with_reducible exact spec_l02Broken.mono _ _ _ _ _ _ _ _)
   | (with_reducible exact spec_l02Has.mono _ _ _ _ _ _ _ _ _ _ _ _)
   | (with_reducible exact spec_l02Tabled.mono _ _ _ _ _ _ _ _)
   | (with_reducible exact LeO.refl _)
   | (with_reducible exact LeO.none _)
   | (with_reducible refine LeO.ite ?_ ?_)
   | (with_reducible refine LeO.bind ?_ (fun _ => ?_))
   | exact ih0 _ _ _ _ _ _ _ _ _
   | exact ih1 _ _ _ _ _ _ _ _ _ _
   | exact spec_l02Amount.mono _ _ _ _ _ _ _ _
   | exact spec_l02At.mono _ _ _ _ _ _ _ _
   | exact spec_l02Broken.mono _ _ _ _ _ _ _ _
   | exact spec_l02Has.mono _ _ _ _ _ _ _ _ _ _ _ _
   | exact spec_l02Tabled.mono _ _ _ _ _ _ _ _
   | exact LeO.none _
   | refine LeO.ite ?_ ?_
   | refine LeO.bind ?_ (fun _ => ?_)
theorem spec_LeastStepsTo.mono : ∀ a0 a1 a2 a3 a4 a5 a6 a7 k, LeO (spec_LeastStepsTo.f k a0 a1 a2 a3 a4 a5 a6 a7) (spec_LeastStepsTo.f (k + 1) a0 a1 a2 a3 a4 a5 a6 a7) := by
 intro a0 a1 a2 a3 a4 a5 a6 a7 k
 obtain ⟨ih0, ih1⟩ := spec_LeastStepsTo.mono_l k
 unfold spec_LeastStepsTo.f
 repeat' first
   | (with_reducible exact ih0 _ _ _ _ _ _ _ _ _)
   | (with_reducible exact ih1 _ _ _ _ _ _ _ _ _ _)
   | (with_reducible exact spec_l02Amount.mono _ _ _ _ _ _ _ _)
   | (with_reducible exact spec_l02At.mono _ _ _ _ _ _ _ _)
   | (with_reducible exact spec_l02Broken.mono _ _ _ _ _ _ _ _)
   | (with_reducible exact spec_l02Has.mono _ _ _ _ _ _ _ _ _ _ _ _)
   | (with_reducible exact spec_l02Tabled.mono _ _ _ _ _ _ _ _)
   | (with_reducible exact LeO.refl _)
   | (with_reducible exact LeO.none _)
   | (with_reducible refine LeO.ite ?_ ?_)
   | (with_reducible refine LeO.bind ?_ (fun _ => ?_))
   | exact ih0 _ _ _ _ _ _ _ _ _
   | exact ih1 _ _ _ _ _ _ _ _ _ _
   | exact spec_l02Amount.mono _ _ _ _ _ _ _ _
   | exact spec_l02At.mono _ _ _ _ _ _ _ _
   | exact spec_l02Broken.mono _ _ _ _ _ _ _ _
   | exact spec_l02Has.mono _ _ _ _ _ _ _ _ _ _ _ _
   | exact spec_l02Tabled.mono _ _ _ _ _ _ _ _
   | exact LeO.none _
   | refine LeO.ite ?_ ?_
   | refine LeO.bind ?_ (fun _ => ?_)
set_option maxHeartbeats 8000000 in
set_option maxRecDepth 100000 in
theorem spec_LeastStepsTo.calls (k : Nat) (A0_0 : Option Addr) (c0_0 : Nat) (l0_0 : List Int) (a0_1 : Int) (a0_2 : Int) (a0_3 : Int) (a0_4 : Int) (a0_5 : Bool) (A1 : Option Addr) (c1 : Nat) (l1 : List Int) (a2 : Int) (r1 : Int) (r2 : Int) (w : World) (hr0_0 : Kd.C (Kd.int .i16) w A0_0 l0_0.length l0_0) (hc0_0 : l0_0.length ≤ c0_0) (hr1 : Kd.C (Kd.int .i16) w A1 l1.length l1) (hc1 : l1.length ≤ c1) (h : spec_LeastStepsTo.f k l0_0 a0_1 a0_2 a0_3 a0_4 a0_5 l1 a2 = some (r1, r2)) :
  Calls Try.prog 17 #[.agg #[.slice A0_0 l0_0.length c0_0, .int .i16 a0_1, .int .i16 a0_2, .int .i16 a0_3, .int .i16 a0_4, .bool a0_5], .slice A1 l1.length c1, .int .i64 a2] w fun e w' => e = .returned (.tuple #[.int .i64 r1, .int .i64 r2]) ∧ Below w.heap.size w w' := by
 have hu32 := Try.underlying32
 have HR0_0 := Aside0.mk hr0_0
 have HC0_0 := Aside0.mk hc0_0
 clear hr0_0 hc0_0
 have HR1 := Aside0.mk hr1
 have HC1 := Aside0.mk hc1
 clear hr1 hc1
 have HB := A_ (Below.refl w.heap.size w)
 have H : ((spec_l02Tabled.f k l0_0 a0_1 a0_2 a0_3 a0_4 a0_5 l1).bind fun t169 => (if t169 = 0 then ((spec_l02Amount.f k l0_0 a0_1 a0_2 a0_3 a0_4 a0_5 a2).bind fun t170 => (spec_LeastStepsTo.j0 k l1 a2 t170 l0_0 a0_1 a0_2 a0_3 a0_4 a0_5)) else (spec_LeastStepsTo.j0 k l1 a2 t169 l0_0 a0_1 a0_2 a0_3 a0_4 a0_5))) = some (r1, r2) := h
 clear h
 replace H := Option.bind_eq_some_iff.mp H
 obtain ⟨t169, A40, H⟩ := H
 replace H : (if t169 = 0 then ((spec_l02Amount.f k l0_0 a0_1 a0_2 a0_3 a0_4 a0_5 a2).bind fun t170 => (spec_LeastStepsTo.j0 k l1 a2 t170 l0_0 a0_1 a0_2 a0_3 a0_4 a0_5)) else (spec_LeastStepsTo.j0 k l1 a2 t169 l0_0 a0_1 a0_2 a0_3 a0_4 a0_5)) = some (r1, r2) := H
 have A4 := Aside0.mk A40
 clear A40
 have HC5 := Aside0.mk H
 clear H
 go_enter Try.func17, Try.ntmps17
 go_upto_if 15 with (first | ((with_reducible refine gate_dst (N := 3) rfl ?_); refine box_event ?hg (N := 3) ?hd (cs := #[.slice A0_0 l0_0.length c0_0, .int .i16 a0_1, .int .i16 a0_2, .int .i16 a0_3, .int .i16 a0_4, .bool a0_5]) (t := 32) ?hr ?_; (case hd => rfl); (case hg => rfl); (case hr => first | (go_simp; done) | (go_simp; rfl)); intro gb168 hg w6 hbox hb; have n0_ := A_ (below_step (bl_ HB) hb); have n1_ := A_ (hbox); have n2_ := A_ ((by rw [hg]; exact (below_size (bl_ HB)) : w.heap.size ≤ gb168)); have n3_ := n2_; clear HB; have HB := n0_; have BK168 := n1_; have GW168 := n2_; have GE168 := n3_; clear n0_ n1_ n2_ n3_; clear hb hbox hg) | ((with_reducible refine gate_callee (f := 57) rfl ?_); refine goesL_ (some 13) rfl rfl Try.func57 (by kernel_rfl) rfl #[.pointer (some ⟨gb168, 0, none⟩), .slice A1 l1.length c1] rfl arg_ ?_; (with_reducible refine (spec_l02Tabled.calls k gb168 A0_0 c0_0 l0_0 a0_1 a0_2 a0_3 a0_4 a0_5 _ _ l1 t169 _ ?side1 ?side2 ?side3 ?side4 ?side5 A4.out).mono ?_); (case side1 => exact (pl_ BK168)); (case side2 => exact Kd.C_below HR0_0.out (bl_ HB)); (case side3 => exact HC0_0.out); (case side4 => exact Kd.C_below HR1.out (bl_ HB)); (case side5 => exact HC1.out); rintro e w7 ⟨rfl, hb⟩; refine ⟨_, rfl, ?_⟩; have n0_ := A_ (blk_below (pl_ BK168) hb); have n1_ := A_ (below_step (bl_ HB) hb); clear BK168; clear HB; have BK168 := n0_; have HB := n1_; clear n0_ n1_; (try clear hb); (try clear hb2); (try clear hk); (try clear hi)))
 (try simp only [Act.put, List.setIfInBounds_toArray, List.set_cons_zero, List.set_cons_succ])
 go_cut [8] (fun v8 wc => ∃ (kq : Nat) (x8_4 : Int) (x169001_4 : Int) (x169002_4 : Int) (x169003_4 : Int) (x169004_4 : Int) (x169005_4 : Bool), v8 = .int .i64 x8_4 ∧ Aside0 (spec_LeastStepsTo.j0 kq l1 a2 x8_4 l0_0 x169001_4 x169002_4 x169003_4 x169004_4 x169005_4 = some (r1, r2)) ∧ Aside0 (kq ≤ k) ∧ Aside0 (wc.heap[gb168]? = some (.cells #[(.slice A0_0 l0_0.length c0_0), .int .i16 x169001_4, .int .i16 x169002_4, .int .i16 x169003_4, .int .i16 x169004_4, .bool x169005_4] 32 (0, 0))) ∧ Aside0 (Below w.heap.size w wc))
 case first =>
  have H := HC5.out
  clear HC5
  by_cases c8 : t169 = 0
  ·rw [if_pos c8] at H
   have c8b0 : (t169 == 0) = true := beq_iff_eq.mpr c8
   have c8b1 : (t169 != 0) = false := bne_eq_false_iff_eq.mpr c8
   clear c8
   (first | rw [c8b0] | (simp only [i64_w, i32_w]; rw [c8b0]) | skip)
   replace H := Option.bind_eq_some_iff.mp H
   obtain ⟨t170, A90, H⟩ := H
   replace H : (spec_LeastStepsTo.j0 k l1 a2 t170 l0_0 a0_1 a0_2 a0_3 a0_4 a0_5) = some (r1, r2) := H
   have A9 := Aside0.mk A90
   clear A90
   have H' := Aside0.mk H
   clear H
   go_wp2_with (first | ((with_reducible refine gate_callee (f := 58) rfl ?_); refine goesL_ (some 17) rfl rfl Try.func58 (by kernel_rfl) rfl #[.pointer (some ⟨gb168, 0, none⟩), .int .i64 a2] rfl arg_ ?_; (with_reducible refine (spec_l02Amount.calls k gb168 A0_0 c0_0 l0_0 a0_1 a0_2 a0_3 a0_4 a0_5 a2 t170 _ ?side1 ?side2 ?side3 A9.out).mono ?_); (case side1 => exact (pl_ BK168)); (case side2 => exact Kd.C_below HR0_0.out (bl_ HB)); (case side3 => exact HC0_0.out); rintro e w10 ⟨rfl, hb⟩; refine ⟨_, rfl, ?_⟩; have n0_ := A_ (blk_below (pl_ BK168) hb); have n1_ := A_ (below_step (bl_ HB) hb); clear BK168; clear HB; have BK168 := n0_; have HB := n1_; clear n0_ n1_; (try clear hb); (try clear hb2); (try clear hk); (try clear hi)))
   go_meet
   case rel => exact ⟨_, (t170), (a0_1), (a0_2), (a0_3), (a0_4), (a0_5), rs_, H', ⟨by first | omega | exact Nat.le_refl _⟩, ⟨pl_ BK168⟩, ⟨bl_ HB⟩⟩
  ·rw [if_neg c8] at H
   have c8b0 : (t169 == 0) = false := beq_eq_false_iff_ne.mpr c8
   have c8b1 : (t169 != 0) = true := bne_iff_ne.mpr c8
   (first | rw [c8b0] | (simp only [i64_w, i32_w]; rw [c8b0]) | skip)
   have H' := Aside0.mk H
   clear H
   go_wp2
   go_meet
   case rel => exact ⟨_, (t169), (a0_1), (a0_2), (a0_3), (a0_4), (a0_5), rs_, H', ⟨by first | omega | exact Nat.le_refl _⟩, ⟨pl_ BK168⟩, ⟨bl_ HB⟩⟩
 case rest =>
  clear HC5
  try clear c1
  try clear p2
  try clear c5
  try clear c8
  try clear c8b0
  try clear c8b1
  obtain ⟨kq, x8_4, x169001_4, x169002_4, x169003_4, x169004_4, x169005_4, rfl, HA, HJ4, BK168, HB⟩ := hcut
  cases kq with
  | zero => exact absurd HA.out (by simp [spec_LeastStepsTo.j0])
  | succ kj4 =>
   have H := HA.out
   clear HA
   simp only [spec_LeastStepsTo.j0] at H
   by_cases c11 : x8_4 = 0
   ·rw [if_pos c11] at H
    have c11b0 : (x8_4 == 0) = true := beq_iff_eq.mpr c11
    have c11b1 : (x8_4 != 0) = false := bne_eq_false_iff_eq.mpr c11
    clear c11
    replace H := Option.bind_eq_some_iff.mp H
    obtain ⟨t171, A120, H⟩ := H
    replace H : (if t171 ≥ 0 then (some (0, 8)) else (spec_LeastStepsTo.l0 kj4 l1 a2 (-1) 0 l0_0 x169001_4 x169002_4 x169003_4 x169004_4 x169005_4)) = some (r1, r2) := H
    have A12 := Aside0.mk A120
    clear A120
    by_cases c13 : t171 ≥ 0
    ·rw [if_pos c13] at H
     have c13b0 : decide (0 ≤ t171) = true := decide_eq_true c13
     clear c13
     simp only [Option.some.injEq, Prod.mk.injEq] at H
     obtain ⟨rfl, rfl⟩ := H
     go_wp2_with (first | ((with_reducible refine gate_callee (f := 59) rfl ?_); refine goesL_ (some 22) rfl rfl Try.func59 (by kernel_rfl) rfl #[.pointer (some ⟨gb168, 0, none⟩), .slice A1 l1.length c1] rfl arg_ ?_; (with_reducible refine (spec_l02Broken.calls kj4 gb168 A0_0 c0_0 l0_0 x169001_4 x169002_4 x169003_4 x169004_4 x169005_4 _ _ l1 t171 _ ?side1 ?side2 ?side3 ?side4 ?side5 A12.out).mono ?_); (case side1 => exact (pl_ BK168)); (case side2 => exact Kd.C_below HR0_0.out (bl_ HB)); (case side3 => exact HC0_0.out); (case side4 => exact Kd.C_below HR1.out (bl_ HB)); (case side5 => exact HC1.out); rintro e w14 ⟨rfl, hb⟩; refine ⟨_, rfl, ?_⟩; have n0_ := A_ (blk_below (pl_ BK168) hb); have n1_ := A_ (below_step (bl_ HB) hb); clear BK168; clear HB; have BK168 := n0_; have HB := n1_; clear n0_ n1_; (try clear hb); (try clear hb2); (try clear hk); (try clear hi)))
     go_ret2
     exact ⟨by first | rfl | (simp [errW_none, errW_some] <;> rfl) | (simp [*, errW_none, errW_some] <;> rfl), bl_ HB⟩
    ·rw [if_neg c13] at H
     have c13b0 : decide (0 ≤ t171) = false := decide_eq_false c13
     clear c13
     have H' := Aside0.mk H
     clear H
     go_wp2_with (first | ((with_reducible refine gate_callee (f := 59) rfl ?_); refine goesL_ (some 22) rfl rfl Try.func59 (by kernel_rfl) rfl #[.pointer (some ⟨gb168, 0, none⟩), .slice A1 l1.length c1] rfl arg_ ?_; (with_reducible refine (spec_l02Broken.calls kj4 gb168 A0_0 c0_0 l0_0 x169001_4 x169002_4 x169003_4 x169004_4 x169005_4 _ _ l1 t171 _ ?side1 ?side2 ?side3 ?side4 ?side5 A12.out).mono ?_); (case side1 => exact (pl_ BK168)); (case side2 => exact Kd.C_below HR0_0.out (bl_ HB)); (case side3 => exact HC0_0.out); (case side4 => exact Kd.C_below HR1.out (bl_ HB)); (case side5 => exact HC1.out); rintro e w15 ⟨rfl, hb⟩; refine ⟨_, rfl, ?_⟩; have n0_ := A_ (blk_below (pl_ BK168) hb); have n1_ := A_ (below_step (bl_ HB) hb); clear BK168; clear HB; have BK168 := n0_; have HB := n1_; clear n0_ n1_; (try clear hb); (try clear hb2); (try clear hk); (try clear hi)))
     go_loopg [9, 10] kj4 (fun kq v9 v10 w' => ∃ (x9_2 : Int) (x10_2 : Int) (x169001_2 : Int) (x169002_2 : Int) (x169003_2 : Int) (x169004_2 : Int) (x169005_2 : Bool), v9 = .int .i64 x9_2 ∧ v10 = .int .i64 x10_2 ∧ Aside0 (spec_LeastStepsTo.l0 kq l1 a2 x9_2 x10_2 l0_0 x169001_2 x169002_2 x169003_2 x169004_2 x169005_2 = some (r1, r2)) ∧ Aside0 (kq ≤ kj4) ∧ Aside0 (w'.heap[gb168]? = some (.cells #[(.slice A0_0 l0_0.length c0_0), .int .i16 x169001_2, .int .i16 x169002_2, .int .i16 x169003_2, .int .i16 x169004_2, .bool x169005_2] 32 (0, 0))) ∧ Aside0 (Below w.heap.size w w'))
     case atStart => exact ⟨((-1)), (0), (x169001_4), (x169002_4), (x169003_4), (x169004_4), (x169005_4), rs_, rs_, H', ⟨Nat.le_refl _⟩, ⟨pl_ BK168⟩, ⟨bl_ HB⟩⟩
     case round =>
      clear H'
      try clear c1
      try clear p2
      try clear c5
      try clear c8
      try clear c8b0
      try clear c8b1
      try clear c11
      try clear c11b0
      try clear c11b1
      try clear c13
      try clear c13b0
      try clear p2
      obtain ⟨x9_2, x10_2, x169001_2, x169002_2, x169003_2, x169004_2, x169005_2, rfl, rfl, HA, HK2, BK168, HB⟩ := hrel
      cases gk with
      | zero => exact absurd HA.out (by simp [spec_LeastStepsTo.l0])
      | succ k2 =>
       have H := HA.out
       clear HA
       simp only [spec_LeastStepsTo.l0] at H
       by_cases c16 : x10_2 < (l1.length : Int)
       ·rw [if_pos c16] at H
        have c16b0 : decide (x10_2 < (l1.length : Int)) = true := decide_eq_true c16
        clear c16
        by_cases c17 : 0 ≤ x10_2
        ·rw [if_pos c17] at H
         have c17b0 : decide (0 ≤ x10_2) = true := decide_eq_true c17
         clear c17
         by_cases c18 : (wrap64 (rd l1 x10_2)) ≥ 0
         ·rw [if_pos c18] at H
          have c18b0 : decide (0 ≤ (wrap64 (rd l1 x10_2))) = true := decide_eq_true c18
          clear c18
          by_cases c19 : x9_2 < 0
          ·rw [if_pos c19] at H
           have c19b0 : decide (x9_2 < 0) = true := decide_eq_true c19
           clear c19
           replace H := Option.bind_eq_some_iff.mp H
           obtain ⟨⟨t173, t174, t175, t176⟩, A200, H⟩ := H
           replace H : ((spec_l02Has.f k2 l0_0 x169001_2 x169002_2 x169003_2 x169004_2 x169005_2 t173 t174 t175 t176 a2).bind fun t177 => (if t177 = true then (spec_LeastStepsTo.l0 k2 l1 a2 (wrap64 (rd l1 x10_2)) (wrap64 (x10_2 + 1)) l0_0 x169001_2 x169002_2 x169003_2 x169004_2 x169005_2) else (spec_LeastStepsTo.l0 k2 l1 a2 x9_2 (wrap64 (x10_2 + 1)) l0_0 x169001_2 x169002_2 x169003_2 x169004_2 x169005_2))) = some (r1, r2) := H
           have A20 := Aside0.mk A200
           clear A200
           replace H := Option.bind_eq_some_iff.mp H
           obtain ⟨t177, A210, H⟩ := H
           replace H : (if t177 = true then (spec_LeastStepsTo.l0 k2 l1 a2 (wrap64 (rd l1 x10_2)) (wrap64 (x10_2 + 1)) l0_0 x169001_2 x169002_2 x169003_2 x169004_2 x169005_2) else (spec_LeastStepsTo.l0 k2 l1 a2 x9_2 (wrap64 (x10_2 + 1)) l0_0 x169001_2 x169002_2 x169003_2 x169004_2 x169005_2)) = some (r1, r2) := H
           have A21 := Aside0.mk A210
           clear A210
           by_cases c22 : t177 = true
           ·subst c22
            have H1 : (spec_LeastStepsTo.l0 k2 l1 a2 (wrap64 (rd l1 x10_2)) (wrap64 (x10_2 + 1)) l0_0 x169001_2 x169002_2 x169003_2 x169004_2 x169005_2) = some (r1, r2) := by rw [if_pos rfl] at H; exact H
            clear H
            have H := H1
            clear H1
            have H' := Aside0.mk H
            clear H
            have p172 : 0 ≤ (x10_2 : Int) := asm_
            have q172 : x10_2 < (l1.length : Int) := asm_
            obtain ⟨ad172, e172, hx172_0⟩ := Kd.at_int HR1.out x10_2 p172 q172
            cases e172
            (try replace hx172_0 := (HB.out.cell (World.block_lt_of_cell? w _ hx172_0)).trans hx172_0)
            replace p172 := eq_true p172
            replace q172 := eq_true q172
            go_wp2_with (first | (go_at_call 61; (with_reducible refine (spec_l02At.calls k2 gb168 A0_0 c0_0 l0_0 x169001_2 x169002_2 x169003_2 x169004_2 x169005_2 x10_2 t173 t174 t175 t176 _ ?side1 ?side2 ?side3 A20.out).mono ?_); (case side1 => exact (pl_ BK168)); (case side2 => exact Kd.C_below HR0_0.out (bl_ HB)); (case side3 => exact HC0_0.out); rintro e w23 ⟨rfl, hb⟩; have n0_ := A_ (blk_below (pl_ BK168) hb); have n1_ := A_ (below_step (bl_ HB) hb); clear BK168; clear HB; have BK168 := n0_; have HB := n1_; clear n0_ n1_; (try clear hb); (try clear hb2); (try clear hk); (try clear hi)) | (go_at_call 60; (with_reducible refine (spec_l02Has.calls k2 gb168 A0_0 c0_0 l0_0 x169001_2 x169002_2 x169003_2 x169004_2 x169005_2 t173 t174 t175 t176 a2 true _ ?side1 ?side2 ?side3 A21.out).mono ?_); (case side1 => exact (pl_ BK168)); (case side2 => exact Kd.C_below HR0_0.out (bl_ HB)); (case side3 => exact HC0_0.out); rintro e w24 ⟨rfl, hb⟩; have n0_ := A_ (blk_below (pl_ BK168) hb); have n1_ := A_ (below_step (bl_ HB) hb); clear BK168; clear HB; have BK168 := n0_; have HB := n1_; clear n0_ n1_; (try clear hb); (try clear hb2); (try clear hk); (try clear hi)))
            go_roundg k2
            case measure => have := HJ4.out; have := HK2.out; omega
            case rel => exact ⟨(wrap64 (rd l1 x10_2)), (wrap64 (x10_2 + 1)), (x169001_2), (x169002_2), (x169003_2), (x169004_2), (x169005_2), rs_, rs_, H', ⟨by have := HJ4.out; have := HK2.out; omega⟩, ⟨pl_ BK168⟩, ⟨bl_ HB⟩⟩
           ·replace c22 := Bool.eq_false_iff.mpr c22
            subst c22
            have H1 : (spec_LeastStepsTo.l0 k2 l1 a2 x9_2 (wrap64 (x10_2 + 1)) l0_0 x169001_2 x169002_2 x169003_2 x169004_2 x169005_2) = some (r1, r2) := by rw [if_neg (show ¬ (false = true) by decide)] at H; exact H
            clear H
            have H := H1
            clear H1
            have H' := Aside0.mk H
            clear H
            have p172 : 0 ≤ (x10_2 : Int) := asm_
            have q172 : x10_2 < (l1.length : Int) := asm_
            obtain ⟨ad172, e172, hx172_0⟩ := Kd.at_int HR1.out x10_2 p172 q172
            cases e172
            (try replace hx172_0 := (HB.out.cell (World.block_lt_of_cell? w _ hx172_0)).trans hx172_0)
            replace p172 := eq_true p172
            replace q172 := eq_true q172
            go_wp2_with (first | (go_at_call 61; (with_reducible refine (spec_l02At.calls k2 gb168 A0_0 c0_0 l0_0 x169001_2 x169002_2 x169003_2 x169004_2 x169005_2 x10_2 t173 t174 t175 t176 _ ?side1 ?side2 ?side3 A20.out).mono ?_); (case side1 => exact (pl_ BK168)); (case side2 => exact Kd.C_below HR0_0.out (bl_ HB)); (case side3 => exact HC0_0.out); rintro e w25 ⟨rfl, hb⟩; have n0_ := A_ (blk_below (pl_ BK168) hb); have n1_ := A_ (below_step (bl_ HB) hb); clear BK168; clear HB; have BK168 := n0_; have HB := n1_; clear n0_ n1_; (try clear hb); (try clear hb2); (try clear hk); (try clear hi)) | (go_at_call 60; (with_reducible refine (spec_l02Has.calls k2 gb168 A0_0 c0_0 l0_0 x169001_2 x169002_2 x169003_2 x169004_2 x169005_2 t173 t174 t175 t176 a2 false _ ?side1 ?side2 ?side3 A21.out).mono ?_); (case side1 => exact (pl_ BK168)); (case side2 => exact Kd.C_below HR0_0.out (bl_ HB)); (case side3 => exact HC0_0.out); rintro e w26 ⟨rfl, hb⟩; have n0_ := A_ (blk_below (pl_ BK168) hb); have n1_ := A_ (below_step (bl_ HB) hb); clear BK168; clear HB; have BK168 := n0_; have HB := n1_; clear n0_ n1_; (try clear hb); (try clear hb2); (try clear hk); (try clear hi)))
            go_roundg k2
            case measure => have := HJ4.out; have := HK2.out; omega
            case rel => exact ⟨(x9_2), (wrap64 (x10_2 + 1)), (x169001_2), (x169002_2), (x169003_2), (x169004_2), (x169005_2), rs_, rs_, H', ⟨by have := HJ4.out; have := HK2.out; omega⟩, ⟨pl_ BK168⟩, ⟨bl_ HB⟩⟩
          ·rw [if_neg c19] at H
           have c19b0 : decide (x9_2 < 0) = false := decide_eq_false c19
           clear c19
           by_cases c27 : (wrap64 (rd l1 x10_2)) < x9_2
           ·rw [if_pos c27] at H
            have c27b0 : decide ((wrap64 (rd l1 x10_2)) < x9_2) = true := decide_eq_true c27
            clear c27
            replace H := Option.bind_eq_some_iff.mp H
            obtain ⟨⟨t178, t179, t180, t181⟩, A280, H⟩ := H
            replace H : ((spec_l02Has.f k2 l0_0 x169001_2 x169002_2 x169003_2 x169004_2 x169005_2 t178 t179 t180 t181 a2).bind fun t182 => (if t182 = true then (spec_LeastStepsTo.l0 k2 l1 a2 (wrap64 (rd l1 x10_2)) (wrap64 (x10_2 + 1)) l0_0 x169001_2 x169002_2 x169003_2 x169004_2 x169005_2) else (spec_LeastStepsTo.l0 k2 l1 a2 x9_2 (wrap64 (x10_2 + 1)) l0_0 x169001_2 x169002_2 x169003_2 x169004_2 x169005_2))) = some (r1, r2) := H
            have A28 := Aside0.mk A280
            clear A280
            replace H := Option.bind_eq_some_iff.mp H
            obtain ⟨t182, A290, H⟩ := H
            replace H : (if t182 = true then (spec_LeastStepsTo.l0 k2 l1 a2 (wrap64 (rd l1 x10_2)) (wrap64 (x10_2 + 1)) l0_0 x169001_2 x169002_2 x169003_2 x169004_2 x169005_2) else (spec_LeastStepsTo.l0 k2 l1 a2 x9_2 (wrap64 (x10_2 + 1)) l0_0 x169001_2 x169002_2 x169003_2 x169004_2 x169005_2)) = some (r1, r2) := H
            have A29 := Aside0.mk A290
            clear A290
            by_cases c30 : t182 = true
            ·subst c30
             have H1 : (spec_LeastStepsTo.l0 k2 l1 a2 (wrap64 (rd l1 x10_2)) (wrap64 (x10_2 + 1)) l0_0 x169001_2 x169002_2 x169003_2 x169004_2 x169005_2) = some (r1, r2) := by rw [if_pos rfl] at H; exact H
             clear H
             have H := H1
             clear H1
             have H' := Aside0.mk H
             clear H
             have p172 : 0 ≤ (x10_2 : Int) := asm_
             have q172 : x10_2 < (l1.length : Int) := asm_
             obtain ⟨ad172, e172, hx172_0⟩ := Kd.at_int HR1.out x10_2 p172 q172
             cases e172
             (try replace hx172_0 := (HB.out.cell (World.block_lt_of_cell? w _ hx172_0)).trans hx172_0)
             replace p172 := eq_true p172
             replace q172 := eq_true q172
             go_wp2_with (first | (go_at_call 61; (with_reducible refine (spec_l02At.calls k2 gb168 A0_0 c0_0 l0_0 x169001_2 x169002_2 x169003_2 x169004_2 x169005_2 x10_2 t178 t179 t180 t181 _ ?side1 ?side2 ?side3 A28.out).mono ?_); (case side1 => exact (pl_ BK168)); (case side2 => exact Kd.C_below HR0_0.out (bl_ HB)); (case side3 => exact HC0_0.out); rintro e w31 ⟨rfl, hb⟩; have n0_ := A_ (blk_below (pl_ BK168) hb); have n1_ := A_ (below_step (bl_ HB) hb); clear BK168; clear HB; have BK168 := n0_; have HB := n1_; clear n0_ n1_; (try clear hb); (try clear hb2); (try clear hk); (try clear hi)) | (go_at_call 60; (with_reducible refine (spec_l02Has.calls k2 gb168 A0_0 c0_0 l0_0 x169001_2 x169002_2 x169003_2 x169004_2 x169005_2 t178 t179 t180 t181 a2 true _ ?side1 ?side2 ?side3 A29.out).mono ?_); (case side1 => exact (pl_ BK168)); (case side2 => exact Kd.C_below HR0_0.out (bl_ HB)); (case side3 => exact HC0_0.out); rintro e w32 ⟨rfl, hb⟩; have n0_ := A_ (blk_below (pl_ BK168) hb); have n1_ := A_ (below_step (bl_ HB) hb); clear BK168; clear HB; have BK168 := n0_; have HB := n1_; clear n0_ n1_; (try clear hb); (try clear hb2); (try clear hk); (try clear hi)))
             go_roundg k2
             case measure => have := HJ4.out; have := HK2.out; omega
             case rel => exact ⟨(wrap64 (rd l1 x10_2)), (wrap64 (x10_2 + 1)), (x169001_2), (x169002_2), (x169003_2), (x169004_2), (x169005_2), rs_, rs_, H', ⟨by have := HJ4.out; have := HK2.out; omega⟩, ⟨pl_ BK168⟩, ⟨bl_ HB⟩⟩
            ·replace c30 := Bool.eq_false_iff.mpr c30
             subst c30
             have H1 : (spec_LeastStepsTo.l0 k2 l1 a2 x9_2 (wrap64 (x10_2 + 1)) l0_0 x169001_2 x169002_2 x169003_2 x169004_2 x169005_2) = some (r1, r2) := by rw [if_neg (show ¬ (false = true) by decide)] at H; exact H
             clear H
             have H := H1
             clear H1
             have H' := Aside0.mk H
             clear H
             have p172 : 0 ≤ (x10_2 : Int) := asm_
             have q172 : x10_2 < (l1.length : Int) := asm_
             obtain ⟨ad172, e172, hx172_0⟩ := Kd.at_int HR1.out x10_2 p172 q172
             cases e172
             (try replace hx172_0 := (HB.out.cell (World.block_lt_of_cell? w _ hx172_0)).trans hx172_0)
             replace p172 := eq_true p172
             replace q172 := eq_true q172
             go_wp2_with (first | (go_at_call 61; (with_reducible refine (spec_l02At.calls k2 gb168 A0_0 c0_0 l0_0 x169001_2 x169002_2 x169003_2 x169004_2 x169005_2 x10_2 t178 t179 t180 t181 _ ?side1 ?side2 ?side3 A28.out).mono ?_); (case side1 => exact (pl_ BK168)); (case side2 => exact Kd.C_below HR0_0.out (bl_ HB)); (case side3 => exact HC0_0.out); rintro e w33 ⟨rfl, hb⟩; have n0_ := A_ (blk_below (pl_ BK168) hb); have n1_ := A_ (below_step (bl_ HB) hb); clear BK168; clear HB; have BK168 := n0_; have HB := n1_; clear n0_ n1_; (try clear hb); (try clear hb2); (try clear hk); (try clear hi)) | (go_at_call 60; (with_reducible refine (spec_l02Has.calls k2 gb168 A0_0 c0_0 l0_0 x169001_2 x169002_2 x169003_2 x169004_2 x169005_2 t178 t179 t180 t181 a2 false _ ?side1 ?side2 ?side3 A29.out).mono ?_); (case side1 => exact (pl_ BK168)); (case side2 => exact Kd.C_below HR0_0.out (bl_ HB)); (case side3 => exact HC0_0.out); rintro e w34 ⟨rfl, hb⟩; have n0_ := A_ (blk_below (pl_ BK168) hb); have n1_ := A_ (below_step (bl_ HB) hb); clear BK168; clear HB; have BK168 := n0_; have HB := n1_; clear n0_ n1_; (try clear hb); (try clear hb2); (try clear hk); (try clear hi)))
             go_roundg k2
             case measure => have := HJ4.out; have := HK2.out; omega
             case rel => exact ⟨(x9_2), (wrap64 (x10_2 + 1)), (x169001_2), (x169002_2), (x169003_2), (x169004_2), (x169005_2), rs_, rs_, H', ⟨by have := HJ4.out; have := HK2.out; omega⟩, ⟨pl_ BK168⟩, ⟨bl_ HB⟩⟩
           ·rw [if_neg c27] at H
            have c27b0 : decide ((wrap64 (rd l1 x10_2)) < x9_2) = false := decide_eq_false c27
            clear c27
            have H' := Aside0.mk H
            clear H
            have p172 : 0 ≤ (x10_2 : Int) := asm_
            have q172 : x10_2 < (l1.length : Int) := asm_
            obtain ⟨ad172, e172, hx172_0⟩ := Kd.at_int HR1.out x10_2 p172 q172
            cases e172
            (try replace hx172_0 := (HB.out.cell (World.block_lt_of_cell? w _ hx172_0)).trans hx172_0)
            replace p172 := eq_true p172
            replace q172 := eq_true q172
            go_wp2
            go_roundg k2
            case measure => have := HJ4.out; have := HK2.out; omega
            case rel => exact ⟨(x9_2), (wrap64 (x10_2 + 1)), (x169001_2), (x169002_2), (x169003_2), (x169004_2), (x169005_2), rs_, rs_, H', ⟨by have := HJ4.out; have := HK2.out; omega⟩, ⟨pl_ BK168⟩, ⟨bl_ HB⟩⟩
         ·rw [if_neg c18] at H
          have c18b0 : decide (0 ≤ (wrap64 (rd l1 x10_2))) = false := decide_eq_false c18
          clear c18
          have H' := Aside0.mk H
          clear H
          have p172 : 0 ≤ (x10_2 : Int) := asm_
          have q172 : x10_2 < (l1.length : Int) := asm_
          obtain ⟨ad172, e172, hx172_0⟩ := Kd.at_int HR1.out x10_2 p172 q172
          cases e172
          (try replace hx172_0 := (HB.out.cell (World.block_lt_of_cell? w _ hx172_0)).trans hx172_0)
          replace p172 := eq_true p172
          replace q172 := eq_true q172
          go_wp2
          go_roundg k2
          case measure => have := HJ4.out; have := HK2.out; omega
          case rel => exact ⟨(x9_2), (wrap64 (x10_2 + 1)), (x169001_2), (x169002_2), (x169003_2), (x169004_2), (x169005_2), rs_, rs_, H', ⟨by have := HJ4.out; have := HK2.out; omega⟩, ⟨pl_ BK168⟩, ⟨bl_ HB⟩⟩
        ·rw [if_neg c17] at H
         exact absurd H (by simp)
       ·rw [if_neg c16] at H
        have c16b0 : decide (x10_2 < (l1.length : Int)) = false := decide_eq_false c16
        clear c16
        by_cases c35 : x9_2 < 0
        ·rw [if_pos c35] at H
         have c35b0 : decide (x9_2 < 0) = true := decide_eq_true c35
         clear c35
         simp only [Option.some.injEq, Prod.mk.injEq] at H
         obtain ⟨rfl, rfl⟩ := H
         go_wp2
         go_ret2
         exact ⟨by first | rfl | (simp [errW_none, errW_some] <;> rfl) | (simp [*, errW_none, errW_some] <;> rfl), bl_ HB⟩
        ·rw [if_neg c35] at H
         have c35b0 : decide (x9_2 < 0) = false := decide_eq_false c35
         clear c35
         simp only [Option.some.injEq, Prod.mk.injEq] at H
         obtain ⟨rfl, rfl⟩ := H
         go_wp2
         go_ret2
         exact ⟨by first | rfl | (simp [errW_none, errW_some] <;> rfl) | (simp [*, errW_none, errW_some] <;> rfl), bl_ HB⟩
   ·rw [if_neg c11] at H
    have c11b0 : (x8_4 == 0) = false := beq_eq_false_iff_ne.mpr c11
    have c11b1 : (x8_4 != 0) = true := bne_iff_ne.mpr c11
    simp only [Option.some.injEq, Prod.mk.injEq] at H
    obtain ⟨rfl, rfl⟩ := H
    go_wp2
    go_ret2
    exact ⟨by first | rfl | (simp [errW_none, errW_some] <;> rfl) | (simp [*, errW_none, errW_some] <;> rfl), bl_ HB⟩

end Go.Proofs.Ytodmfjophjhbeaa.M
