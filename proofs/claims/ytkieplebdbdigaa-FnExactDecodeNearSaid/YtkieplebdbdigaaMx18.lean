-- By this seat's own program over the kit's printer (arrays, functions told by hand); nothing of it is trusted: the kernel checks it.
import Derived.Test.YtkieplebdbdigaaMx0
import Derived.Test.YtkieplebdbdigaaMx12
import Derived.Test.YtkieplebdbdigaaMx13
import Derived.Test.YtkieplebdbdigaaMx14
import Derived.Test.YtkieplebdbdigaaMx17
namespace Go.Proofs.Ytkieplebdbdigaa.M
open Go.RowKit Go.Proofs.YtkieplebdbdigaaW.PrintWords Go.Proofs.YtkieplebdbdigaaW.PrintLast Go.Proofs.YtkieplebdbdigaaW.PrintMore
attribute [local go_sem] max2_int min2_int max_two min_two max_three min_three max_four min_four   -- for this text's walks alone
set_option linter.unusedVariables false
set_option linter.unusedSimpArgs false

/-! ### impl_DecodeNear: function 14 -/
def impl_DecodeNear.j0 : Nat → Bool → Int → Int → List (S41) → Int → Int → Int → Int → Int → Option (Int × Bool × Int)
 | 0, _, _, _, _, _, _, _, _, _ => none
 | k + 1, x9, x278000, x278001, x278002, x279000, x279001, x279002, x279003, x280000 => if x9 = true then (some (0, false, 1)) else ((impl_within.f x280000 0 4).bind fun t283 => (if t283 = true then ((impl_Fixed_cases.f k x278000 x278001 x278002).bind fun t284 => ((impl_Case_33_at_35.f k t284 x278000 x278001 x278002 x279000 x279001 x279002 x279003 x280000).bind fun t287 => (if (t287.length : Int) = 0 then (some (0, false, 6)) else (if (t287.length : Int) = 1 then (if 0 < (t287.length : Int) then (some ((rd_T38 t287 0).f0, (rd_T38 t287 0).f1, 0)) else (none)) else (some (0, false, 8)))))) else (some (0, false, 2))))
def impl_DecodeNear.f (k : Nat) (a0_0 : Int) (a0_1 : Int) (l0_2 : List (S41)) (a1_0 : Int) (a1_1 : Int) (a1_2 : Int) (a1_3 : Int) (a2 : Int) : Option (Int × Bool × Int) := (impl_ValidFixed.f k a0_0 a0_1 l0_2).bind fun t281 => (if t281 = true then ((impl_ValidWord.f k (wrap64 (a0_0)) a1_0 a1_1 a1_2 a1_3).bind fun t282 => (impl_DecodeNear.j0 k (!t282) a0_0 a0_1 l0_2 a1_0 a1_1 a1_2 a1_3 a2)) else (impl_DecodeNear.j0 k true a0_0 a0_1 l0_2 a1_0 a1_1 a1_2 a1_3 a2))
theorem impl_DecodeNear.mono_l : ∀ k, (∀ y0 y1 y2 y3 y4 y5 y6 y7 y8, LeO (impl_DecodeNear.j0 k y0 y1 y2 y3 y4 y5 y6 y7 y8) (impl_DecodeNear.j0 (k + 1) y0 y1 y2 y3 y4 y5 y6 y7 y8))
 | 0 => fun _ _ _ _ _ _ _ _ _ r h => by simp [impl_DecodeNear.j0] at h
 | k + 1 => by
  have ih0 := impl_DecodeNear.mono_l k
  ·intro y0 y1 y2 y3 y4 y5 y6 y7 y8
   unfold impl_DecodeNear.j0
   repeat' first
   | (with_reducible exact ih0 _ _ _ _ _ _ _ _ _)
   | (with_reducible exact impl_Case_33_at_35.mono _ _ _ _ _ _ _ _ _ _)
   | (with_reducible exact impl_Fixed_cases.mono _ _ _ _)
   | (with_reducible exact impl_ValidFixed.mono _ _ _ _)
   | (with_reducible exact impl_ValidWord.mono _ _ _ _ _ _)
   | (with_reducible exact LeO.refl _)
   | (with_reducible exact LeO.none _)
   | (with_reducible refine LeO.ite ?_ ?_)
   | (with_reducible refine LeO.bind ?_ (fun _ => ?_))
   | exact ih0 _ _ _ _ _ _ _ _ _
   | exact impl_Case_33_at_35.mono _ _ _ _ _ _ _ _ _ _
   | exact impl_Fixed_cases.mono _ _ _ _
   | exact impl_ValidFixed.mono _ _ _ _
   | exact impl_ValidWord.mono _ _ _ _ _ _
   | exact LeO.none _
   | refine LeO.ite ?_ ?_
   | refine LeO.bind ?_ (fun _ => ?_)
theorem impl_DecodeNear.mono : ∀ a0 a1 a2 a3 a4 a5 a6 a7 k, LeO (impl_DecodeNear.f k a0 a1 a2 a3 a4 a5 a6 a7) (impl_DecodeNear.f (k + 1) a0 a1 a2 a3 a4 a5 a6 a7) := by
 intro a0 a1 a2 a3 a4 a5 a6 a7 k
 have ih0 := impl_DecodeNear.mono_l k
 unfold impl_DecodeNear.f
 repeat' first
   | (with_reducible exact ih0 _ _ _ _ _ _ _ _ _)
   | (with_reducible exact impl_Case_33_at_35.mono _ _ _ _ _ _ _ _ _ _)
   | (with_reducible exact impl_Fixed_cases.mono _ _ _ _)
   | (with_reducible exact impl_ValidFixed.mono _ _ _ _)
   | (with_reducible exact impl_ValidWord.mono _ _ _ _ _ _)
   | (with_reducible exact LeO.refl _)
   | (with_reducible exact LeO.none _)
   | (with_reducible refine LeO.ite ?_ ?_)
   | (with_reducible refine LeO.bind ?_ (fun _ => ?_))
   | exact ih0 _ _ _ _ _ _ _ _ _
   | exact impl_Case_33_at_35.mono _ _ _ _ _ _ _ _ _ _
   | exact impl_Fixed_cases.mono _ _ _ _
   | exact impl_ValidFixed.mono _ _ _ _
   | exact impl_ValidWord.mono _ _ _ _ _ _
   | exact LeO.none _
   | refine LeO.ite ?_ ?_
   | refine LeO.bind ?_ (fun _ => ?_)
set_option maxHeartbeats 8000000 in
set_option maxRecDepth 100000 in
theorem impl_DecodeNear.calls (k : Nat) (a0_0 : Int) (a0_1 : Int) (A0_2 : Option Addr) (c0_2 : Nat) (l0_2 : List (S41)) (a1_0 : Int) (a1_1 : Int) (a1_2 : Int) (a1_3 : Int) (a2 : Int) (r1 : Int) (r2 : Bool) (r3 : Int) (w : World) (hr0_2 : Kd.C k41 w A0_2 l0_2.length l0_2) (hc0_2 : l0_2.length ≤ c0_2) (h : impl_DecodeNear.f k a0_0 a0_1 l0_2 a1_0 a1_1 a1_2 a1_3 a2 = some (r1, r2, r3)) :
  Calls Try.prog 14 #[.agg #[.int .i8 a0_0, .int .i8 a0_1, .slice A0_2 l0_2.length c0_2], .agg #[.int .i8 a1_0, .int .i8 a1_1, .int .i8 a1_2, .int .i8 a1_3], .int .i64 a2] w fun e w' => e = .returned (.tuple #[.agg #[.int .i8 r1, .bool r2], .int .i64 r3]) ∧ Below w.heap.size w w' := by
 have hu29 := Try.underlying29
 have hu41 := Try.underlying41
 have hu38 := Try.underlying38
 have HR0_2 := Aside0.mk hr0_2
 have HC0_2 := Aside0.mk hc0_2
 clear hr0_2 hc0_2
 have HB := A_ (Below.refl w.heap.size w)
 have H : ((impl_ValidFixed.f k a0_0 a0_1 l0_2).bind fun t281 => (if t281 = true then ((impl_ValidWord.f k (wrap64 (a0_0)) a1_0 a1_1 a1_2 a1_3).bind fun t282 => (impl_DecodeNear.j0 k (!t282) a0_0 a0_1 l0_2 a1_0 a1_1 a1_2 a1_3 a2)) else (impl_DecodeNear.j0 k true a0_0 a0_1 l0_2 a1_0 a1_1 a1_2 a1_3 a2))) = some (r1, r2, r3) := h
 clear h
 have HC4 := Aside0.mk H
 clear H
 go_enter Try.func14, Try.ntmps14
 go_upto_region 1 with (first | ((with_reducible refine gate_dst (N := 3) rfl ?_); refine box_event ?hg (N := 3) ?hd (cs := #[.int .i8 a0_0, .int .i8 a0_1, .slice A0_2 l0_2.length c0_2]) (t := 29) ?hr ?_; (case hd => rfl); (case hg => rfl); (case hr => first | (go_simp; done) | (go_simp; rfl)); intro gb277 hg w5 hbox hb; have n0_ := A_ (below_step (bl_ HB) hb); have n1_ := A_ (hbox); have n2_ := A_ ((by rw [hg]; exact (below_size (bl_ HB)) : w.heap.size ≤ gb277)); have n3_ := n2_; clear HB; have HB := n0_; have BK277 := n1_; have GW277 := n2_; have GE277 := n3_; clear n0_ n1_ n2_ n3_; clear hb hbox hg) | ((with_reducible refine gate_dst (N := 4) rfl ?_); refine box_event ?hg (N := 4) ?hd (cs := #[.int .i8 a1_0, .int .i8 a1_1, .int .i8 a1_2, .int .i8 a1_3]) (t := 41) ?hr ?_; (case hd => rfl); (case hg => rfl); (case hr => first | (go_simp; done) | (go_simp; rfl)); intro gb278 hg w6 hbox hb; have n0_ := A_ (blk_below (pl_ BK277) hb); have n1_ := A_ (below_step (bl_ HB) hb); have n2_ := A_ (hbox); have n3_ := A_ ((by rw [hg]; exact (below_size (bl_ HB)) : w.heap.size ≤ gb278)); have n4_ := n3_; have n5_ := A_ ((by rw [hg]; exact Nat.ne_of_lt (blk_lt (pl_ BK277)) : gb277 ≠ gb278)); have n6_ := Aside0.mk n5_.out.symm; clear BK277; clear HB; have BK277 := n0_; have HB := n1_; have BK278 := n2_; have GW278 := n3_; have GE278 := n4_; have NB277_278 := n5_; have NB278_277 := n6_; clear n0_ n1_ n2_ n3_ n4_ n5_ n6_; clear hb hbox hg) | ((with_reducible refine gate_dst (N := 5) rfl ?_); refine box_event ?hg (N := 5) ?hd (cs := #[.int .i64 a2]) (t := 2) ?hr ?_; (case hd => rfl); (case hg => rfl); (case hr => first | (go_simp; done) | (go_simp; rfl)); intro gb279 hg w7 hbox hb; have n0_ := A_ (blk_below (pl_ BK277) hb); have n1_ := A_ (blk_below (pl_ BK278) hb); have n2_ := A_ (below_step (bl_ HB) hb); have n3_ := A_ (hbox); have n4_ := A_ ((by rw [hg]; exact (below_size (bl_ HB)) : w.heap.size ≤ gb279)); have n5_ := n4_; have n6_ := A_ ((by rw [hg]; exact Nat.ne_of_lt (blk_lt (pl_ BK277)) : gb277 ≠ gb279)); have n7_ := Aside0.mk n6_.out.symm; have n8_ := A_ ((by rw [hg]; exact Nat.ne_of_lt (blk_lt (pl_ BK278)) : gb278 ≠ gb279)); have n9_ := Aside0.mk n8_.out.symm; clear BK277; clear BK278; clear HB; have BK277 := n0_; have BK278 := n1_; have HB := n2_; have BK279 := n3_; have GW279 := n4_; have GE279 := n5_; have NB277_279 := n6_; have NB279_277 := n7_; have NB278_279 := n8_; have NB279_278 := n9_; clear n0_ n1_ n2_ n3_ n4_ n5_ n6_ n7_ n8_ n9_; clear hb hbox hg) | ((with_reducible refine gate_dst (N := 6) rfl ?_); refine box_event ?hg (N := 6) ?hd (cs := #[.int .i8 0, .bool false]) (t := 38) ?hr ?_; (case hd => rfl); (case hg => rfl); (case hr => first | (go_simp; done) | (go_simp; rfl)); intro gb280 hg w8 hbox hb; have n0_ := A_ (blk_below (pl_ BK277) hb); have n1_ := A_ (blk_below (pl_ BK278) hb); have n2_ := A_ (blk_below (pl_ BK279) hb); have n3_ := A_ (below_step (bl_ HB) hb); have n4_ := A_ (hbox); have n5_ := A_ ((by rw [hg]; exact (below_size (bl_ HB)) : w.heap.size ≤ gb280)); have n6_ := n5_; have n7_ := A_ ((by rw [hg]; exact Nat.ne_of_lt (blk_lt (pl_ BK277)) : gb277 ≠ gb280)); have n8_ := Aside0.mk n7_.out.symm; have n9_ := A_ ((by rw [hg]; exact Nat.ne_of_lt (blk_lt (pl_ BK278)) : gb278 ≠ gb280)); have n10_ := Aside0.mk n9_.out.symm; have n11_ := A_ ((by rw [hg]; exact Nat.ne_of_lt (blk_lt (pl_ BK279)) : gb279 ≠ gb280)); have n12_ := Aside0.mk n11_.out.symm; clear BK277; clear BK278; clear BK279; clear HB; have BK277 := n0_; have BK278 := n1_; have BK279 := n2_; have HB := n3_; have BK280 := n4_; have GW280 := n5_; have GE280 := n6_; have NB277_280 := n7_; have NB280_277 := n8_; have NB278_280 := n9_; have NB280_278 := n10_; have NB279_280 := n11_; have NB280_279 := n12_; clear n0_ n1_ n2_ n3_ n4_ n5_ n6_ n7_ n8_ n9_ n10_ n11_ n12_; clear hb hbox hg))
 (try simp only [Act.put, List.setIfInBounds_toArray, List.set_cons_zero, List.set_cons_succ])
 go_cut [9] (fun v9 wc => ∃ (kq : Nat) (x9_3 : Bool), v9 = .bool x9_3 ∧ Aside0 (impl_DecodeNear.j0 kq x9_3 a0_0 a0_1 l0_2 a1_0 a1_1 a1_2 a1_3 a2 = some (r1, r2, r3)) ∧ Aside0 (kq ≤ k) ∧ Aside0 (wc.heap[gb277]? = some (.cells #[.int .i8 a0_0, .int .i8 a0_1, (.slice A0_2 l0_2.length c0_2)] 29 (0, 0))) ∧ Aside0 (wc.heap[gb278]? = some (.cells #[.int .i8 a1_0, .int .i8 a1_1, .int .i8 a1_2, .int .i8 a1_3] 41 (0, 0))) ∧ Aside0 (wc.heap[gb279]? = some (.cells #[.int .i64 a2] 2 (0, 0))) ∧ Aside0 (wc.heap[gb280]? = some (.cells #[.int .i8 0, .bool false] 38 (0, 0))) ∧ Aside0 (Below w.heap.size w wc))
 case first =>
  have H := HC4.out
  clear HC4
  replace H := Option.bind_eq_some_iff.mp H
  obtain ⟨t281, A90, H⟩ := H
  replace H : (if t281 = true then ((impl_ValidWord.f k (wrap64 (a0_0)) a1_0 a1_1 a1_2 a1_3).bind fun t282 => (impl_DecodeNear.j0 k (!t282) a0_0 a0_1 l0_2 a1_0 a1_1 a1_2 a1_3 a2)) else (impl_DecodeNear.j0 k true a0_0 a0_1 l0_2 a1_0 a1_1 a1_2 a1_3 a2)) = some (r1, r2, r3) := H
  have A9 := Aside0.mk A90
  clear A90
  by_cases c10 : t281 = true
  ·subst c10
   have H1 : ((impl_ValidWord.f k (wrap64 (a0_0)) a1_0 a1_1 a1_2 a1_3).bind fun t282 => (impl_DecodeNear.j0 k (!t282) a0_0 a0_1 l0_2 a1_0 a1_1 a1_2 a1_3 a2)) = some (r1, r2, r3) := by rw [if_pos rfl] at H; exact H
   clear H
   have H := H1
   clear H1
   replace H := Option.bind_eq_some_iff.mp H
   obtain ⟨t282, A110, H⟩ := H
   replace H : (impl_DecodeNear.j0 k (!t282) a0_0 a0_1 l0_2 a1_0 a1_1 a1_2 a1_3 a2) = some (r1, r2, r3) := H
   have A11 := Aside0.mk A110
   clear A110
   have H' := Aside0.mk H
   clear H
   have hnb12 := NB277_278.out
   have hnc12 := NB278_277.out
   have hnb13 := NB277_279.out
   have hnc13 := NB279_277.out
   have hnb14 := NB277_280.out
   have hnc14 := NB280_277.out
   obtain ⟨hcz15_0, hcz15_1, hcz15_2, hfz15_0, hfz15_1, hfz15_2⟩ := cl3_ BK277
   go_wp2_with (first | ((with_reducible refine gate_callee (f := 20) rfl ?_); refine goesL_ (some 11) rfl rfl Try.func20 (by kernel_rfl) rfl #[.agg #[.int .i8 a0_0, .int .i8 a0_1, .slice A0_2 l0_2.length c0_2]] rfl arg_ ?_; (with_reducible refine (impl_ValidFixed.calls k a0_0 a0_1 _ _ l0_2 true _ ?side1 ?side2 A9.out).mono ?_); (case side1 => exact Kd.C_below HR0_2.out (bl_ HB)); (case side2 => exact HC0_2.out); rintro e w16 ⟨rfl, hb⟩; refine ⟨_, rfl, ?_⟩; have n0_ := A_ (blk_below (pl_ BK277) hb); have n1_ := A_ (blk_below (pl_ BK278) hb); have n2_ := A_ (blk_below (pl_ BK279) hb); have n3_ := A_ (blk_below (pl_ BK280) hb); have n4_ := A_ (below_step (bl_ HB) hb); clear BK277; clear BK278; clear BK279; clear BK280; clear HB; have BK277 := n0_; have BK278 := n1_; have BK279 := n2_; have BK280 := n3_; have HB := n4_; clear n0_ n1_ n2_ n3_ n4_; (try clear hb); (try clear hb2); (try clear hk); (try clear hi); obtain ⟨hcz17_0, hcz17_1, hcz17_2, hfz17_0, hfz17_1, hfz17_2⟩ := cl3_ BK277; have hnb18 := NB278_279.out; have hnc18 := NB279_278.out; have hnb19 := NB278_280.out; have hnc19 := NB280_278.out; obtain ⟨hcz20_0, hcz20_1, hcz20_2, hcz20_3, hfz20_0, hfz20_1, hfz20_2, hfz20_3⟩ := cl4_ BK278) | (go_at_call 32; (with_reducible refine (impl_ValidWord.calls k (wrap64 (a0_0)) a1_0 a1_1 a1_2 a1_3 t282 _ A11.out).mono ?_); rintro e w21 ⟨rfl, hb⟩; have n0_ := A_ (blk_below (pl_ BK277) hb); have n1_ := A_ (blk_below (pl_ BK278) hb); have n2_ := A_ (blk_below (pl_ BK279) hb); have n3_ := A_ (blk_below (pl_ BK280) hb); have n4_ := A_ (below_step (bl_ HB) hb); clear BK277; clear BK278; clear BK279; clear BK280; clear HB; have BK277 := n0_; have BK278 := n1_; have BK279 := n2_; have BK280 := n3_; have HB := n4_; clear n0_ n1_ n2_ n3_ n4_; (try clear hb); (try clear hb2); (try clear hk); (try clear hi)))
   go_meet
   case rel => exact ⟨_, (!t282), rs_, H', ⟨by first | omega | exact Nat.le_refl _⟩, ⟨pl_ BK277⟩, ⟨pl_ BK278⟩, ⟨pl_ BK279⟩, ⟨pl_ BK280⟩, ⟨bl_ HB⟩⟩
  ·replace c10 := Bool.eq_false_iff.mpr c10
   subst c10
   have H1 : (impl_DecodeNear.j0 k true a0_0 a0_1 l0_2 a1_0 a1_1 a1_2 a1_3 a2) = some (r1, r2, r3) := by rw [if_neg (show ¬ (false = true) by decide)] at H; exact H
   clear H
   have H := H1
   clear H1
   have H' := Aside0.mk H
   clear H
   have hnb22 := NB277_278.out
   have hnc22 := NB278_277.out
   have hnb23 := NB277_279.out
   have hnc23 := NB279_277.out
   have hnb24 := NB277_280.out
   have hnc24 := NB280_277.out
   obtain ⟨hcz25_0, hcz25_1, hcz25_2, hfz25_0, hfz25_1, hfz25_2⟩ := cl3_ BK277
   go_wp2_with (first | ((with_reducible refine gate_callee (f := 20) rfl ?_); refine goesL_ (some 11) rfl rfl Try.func20 (by kernel_rfl) rfl #[.agg #[.int .i8 a0_0, .int .i8 a0_1, .slice A0_2 l0_2.length c0_2]] rfl arg_ ?_; (with_reducible refine (impl_ValidFixed.calls k a0_0 a0_1 _ _ l0_2 false _ ?side1 ?side2 A9.out).mono ?_); (case side1 => exact Kd.C_below HR0_2.out (bl_ HB)); (case side2 => exact HC0_2.out); rintro e w26 ⟨rfl, hb⟩; refine ⟨_, rfl, ?_⟩; have n0_ := A_ (blk_below (pl_ BK277) hb); have n1_ := A_ (blk_below (pl_ BK278) hb); have n2_ := A_ (blk_below (pl_ BK279) hb); have n3_ := A_ (blk_below (pl_ BK280) hb); have n4_ := A_ (below_step (bl_ HB) hb); clear BK277; clear BK278; clear BK279; clear BK280; clear HB; have BK277 := n0_; have BK278 := n1_; have BK279 := n2_; have BK280 := n3_; have HB := n4_; clear n0_ n1_ n2_ n3_ n4_; (try clear hb); (try clear hb2); (try clear hk); (try clear hi)))
   go_meet
   case rel => exact ⟨_, (true), rs_, H', ⟨by first | omega | exact Nat.le_refl _⟩, ⟨pl_ BK277⟩, ⟨pl_ BK278⟩, ⟨pl_ BK279⟩, ⟨pl_ BK280⟩, ⟨bl_ HB⟩⟩
 case rest =>
  clear HC4
  try clear c1
  try clear c2
  try clear p2
  try clear p6
  try clear c10
  try clear c12
  try clear c13
  try clear c14
  try clear c18
  try clear c19
  try clear c20
  try clear c22
  try clear c23
  try clear c24
  try clear hcz15_0
  try clear hcz15_1
  try clear hcz15_2
  try clear hcz17_0
  try clear hcz17_1
  try clear hcz17_2
  try clear hcz20_0
  try clear hcz20_1
  try clear hcz20_2
  try clear hcz20_3
  try clear hcz25_0
  try clear hcz25_1
  try clear hcz25_2
  try clear hfz15_0
  try clear hfz15_1
  try clear hfz15_2
  try clear hfz17_0
  try clear hfz17_1
  try clear hfz17_2
  try clear hfz20_0
  try clear hfz20_1
  try clear hfz20_2
  try clear hfz20_3
  try clear hfz25_0
  try clear hfz25_1
  try clear hfz25_2
  obtain ⟨kq, x9_3, rfl, HA, HJ3, BK277, BK278, BK279, BK280, HB⟩ := hcut
  cases kq with
  | zero => exact absurd HA.out (by simp [impl_DecodeNear.j0])
  | succ kj3 =>
   have H := HA.out
   clear HA
   simp only [impl_DecodeNear.j0] at H
   by_cases c27 : x9_3 = true
   ·subst c27
    have H1 : (some (0, false, 1)) = some (r1, r2, r3) := by rw [if_pos rfl] at H; exact H
    clear H
    have H := H1
    clear H1
    simp only [Option.some.injEq, Prod.mk.injEq] at H
    obtain ⟨rfl, rfl, rfl⟩ := H
    have hnb28 := NB280_277.out
    have hnc28 := NB277_280.out
    have hnb29 := NB280_278.out
    have hnc29 := NB278_280.out
    have hnb30 := NB280_279.out
    have hnc30 := NB279_280.out
    obtain ⟨hcz31_0, hcz31_1, hfz31_0, hfz31_1⟩ := cl2_ BK280
    go_wp2
    refine bodyPost_ret (results_ct rfl _ _ gb280 38 #[.int .i8 0, .bool false] (0, 0) _ rfl (by (with_reducible repeat (first | refine blk_drewN ?_ _ | refine blk_drew ?_ | refine blk_alloc ?_ _)); refine blk_put (cs := #[.int .i8 0, .bool false]) ?_ 1 _ rfl; (with_reducible repeat (first | refine blk_drewN ?_ _ | refine blk_drew ?_ | refine blk_alloc ?_ _)); refine blk_put (cs := #[.int .i8 0, .bool false]) ?_ 0 _ rfl; (with_reducible repeat (first | refine blk_drewN ?_ _ | refine blk_drew ?_ | refine blk_alloc ?_ _)); exact BK280.out) Try.underlying38 rfl (by kernel_rfl)) rfl ?_
    exact ⟨by first | rfl | (simp [errW_none, errW_some] <;> rfl) | (simp [*, errW_none, errW_some] <;> rfl), bs_ HB GE280⟩
   ·replace c27 := Bool.eq_false_iff.mpr c27
    subst c27
    have H1 : ((impl_within.f a2 0 4).bind fun t283 => (if t283 = true then ((impl_Fixed_cases.f kj3 a0_0 a0_1 l0_2).bind fun t284 => ((impl_Case_33_at_35.f kj3 t284 a0_0 a0_1 l0_2 a1_0 a1_1 a1_2 a1_3 a2).bind fun t287 => (if (t287.length : Int) = 0 then (some (0, false, 6)) else (if (t287.length : Int) = 1 then (if 0 < (t287.length : Int) then (some ((rd_T38 t287 0).f0, (rd_T38 t287 0).f1, 0)) else (none)) else (some (0, false, 8)))))) else (some (0, false, 2)))) = some (r1, r2, r3) := by rw [if_neg (show ¬ (false = true) by decide)] at H; exact H
    clear H
    have H := H1
    clear H1
    replace H := Option.bind_eq_some_iff.mp H
    obtain ⟨t283, A320, H⟩ := H
    replace H : (if t283 = true then ((impl_Fixed_cases.f kj3 a0_0 a0_1 l0_2).bind fun t284 => ((impl_Case_33_at_35.f kj3 t284 a0_0 a0_1 l0_2 a1_0 a1_1 a1_2 a1_3 a2).bind fun t287 => (if (t287.length : Int) = 0 then (some (0, false, 6)) else (if (t287.length : Int) = 1 then (if 0 < (t287.length : Int) then (some ((rd_T38 t287 0).f0, (rd_T38 t287 0).f1, 0)) else (none)) else (some (0, false, 8)))))) else (some (0, false, 2))) = some (r1, r2, r3) := H
    have A32 := Aside0.mk A320
    clear A320
    by_cases c33 : t283 = true
    ·subst c33
     have H1 : ((impl_Fixed_cases.f kj3 a0_0 a0_1 l0_2).bind fun t284 => ((impl_Case_33_at_35.f kj3 t284 a0_0 a0_1 l0_2 a1_0 a1_1 a1_2 a1_3 a2).bind fun t287 => (if (t287.length : Int) = 0 then (some (0, false, 6)) else (if (t287.length : Int) = 1 then (if 0 < (t287.length : Int) then (some ((rd_T38 t287 0).f0, (rd_T38 t287 0).f1, 0)) else (none)) else (some (0, false, 8)))))) = some (r1, r2, r3) := by rw [if_pos rfl] at H; exact H
     clear H
     have H := H1
     clear H1
     replace H := Option.bind_eq_some_iff.mp H
     obtain ⟨t284, A340, H⟩ := H
     replace H : ((impl_Case_33_at_35.f kj3 t284 a0_0 a0_1 l0_2 a1_0 a1_1 a1_2 a1_3 a2).bind fun t287 => (if (t287.length : Int) = 0 then (some (0, false, 6)) else (if (t287.length : Int) = 1 then (if 0 < (t287.length : Int) then (some ((rd_T38 t287 0).f0, (rd_T38 t287 0).f1, 0)) else (none)) else (some (0, false, 8))))) = some (r1, r2, r3) := H
     have A34 := Aside0.mk A340
     clear A340
     replace H := Option.bind_eq_some_iff.mp H
     obtain ⟨t287, A350, H⟩ := H
     replace H : (if (t287.length : Int) = 0 then (some (0, false, 6)) else (if (t287.length : Int) = 1 then (if 0 < (t287.length : Int) then (some ((rd_T38 t287 0).f0, (rd_T38 t287 0).f1, 0)) else (none)) else (some (0, false, 8)))) = some (r1, r2, r3) := H
     have A35 := Aside0.mk A350
     clear A350
     by_cases c36 : (t287.length : Int) = 0
     ·rw [if_pos c36] at H
      have c36b0 : ((t287.length : Int) == 0) = true := beq_iff_eq.mpr c36
      have c36b1 : ((t287.length : Int) != 0) = false := bne_eq_false_iff_eq.mpr c36
      clear c36
      simp only [Option.some.injEq, Prod.mk.injEq] at H
      obtain ⟨rfl, rfl, rfl⟩ := H
      have hnb37 := NB279_277.out
      have hnc37 := NB277_279.out
      have hnb38 := NB279_278.out
      have hnc38 := NB278_279.out
      have hnb39 := NB279_280.out
      have hnc39 := NB280_279.out
      obtain ⟨hcz40_0, hfz40_0⟩ := cl1_ BK279
      go_wp2_with (first | ((with_reducible refine gate_callee (f := 21) rfl ?_); refine goesL_ (some 24) rfl rfl Try.func21 (by kernel_rfl) rfl #[.int .i64 a2, .int .i64 0, .int .i64 4] rfl arg_ ?_; (with_reducible refine (impl_within.calls a2 0 4 true _ A32.out).mono ?_); rintro e w' ⟨rfl, ⟨nd, rfl⟩⟩; refine ⟨_, rfl, ?_⟩; (try (rw [drewN_self wc]; generalize hq_ : World.drewN wc _ = wc; have n0_ : Aside0 (wc.heap[gb277]? = some (.cells #[.int .i8 a0_0, .int .i8 a0_1, .slice A0_2 l0_2.length c0_2] 29 (0, 0))) := ⟨by rw [← hq_]; exact (pl_ BK277)⟩; have n1_ : Aside0 (wc.heap[gb278]? = some (.cells #[.int .i8 a1_0, .int .i8 a1_1, .int .i8 a1_2, .int .i8 a1_3] 41 (0, 0))) := ⟨by rw [← hq_]; exact (pl_ BK278)⟩; have n2_ : Aside0 (wc.heap[gb279]? = some (.cells #[.int .i64 a2] 2 (0, 0))) := ⟨by rw [← hq_]; exact (pl_ BK279)⟩; have n3_ : Aside0 (wc.heap[gb280]? = some (.cells #[.int .i8 0, .bool false] 38 (0, 0))) := ⟨by rw [← hq_]; exact (pl_ BK280)⟩; have n4_ : Aside0 (Below w.heap.size w wc) := ⟨by rw [← hq_]; exact (bl_ HB)⟩; clear BK277 BK278 BK279 BK280 HB hq_; have BK277 := n0_; have BK278 := n1_; have BK279 := n2_; have BK280 := n3_; have HB := n4_; clear n0_ n1_ n2_ n3_ n4_)); have hnb41 := NB277_278.out; have hnc41 := NB278_277.out; have hnb42 := NB277_280.out; have hnc42 := NB280_277.out; obtain ⟨hcz43_0, hcz43_1, hcz43_2, hfz43_0, hfz43_1, hfz43_2⟩ := cl3_ BK277) | ((with_reducible refine gate_callee (f := 34) rfl ?_); refine goesL_ (some 28) rfl rfl Try.func34 (by kernel_rfl) rfl #[.agg #[.int .i8 a0_0, .int .i8 a0_1, .slice A0_2 l0_2.length c0_2]] rfl arg_ ?_; (with_reducible refine (impl_Fixed_cases.calls kj3 a0_0 a0_1 _ _ l0_2 t284 _ ?side1 ?side2 A34.out).mono ?_); (case side1 => exact Kd.C_below HR0_2.out (bl_ HB)); (case side2 => exact HC0_2.out); rintro e w44 ⟨v285, rfl, ho0, hb⟩; refine ⟨_, rfl, ?_⟩; have n0_ := A_ (Kd.R_lower (Kd.R_newB ho0 (pl_ BK280)) (below_size (bl_ HB))); have n1_ := A_ (blk_below (pl_ BK277) hb); have n2_ := A_ (blk_below (pl_ BK278) hb); have n3_ := A_ (blk_below (pl_ BK279) hb); have n4_ := A_ (blk_below (pl_ BK280) hb); have n5_ := A_ (below_step (bl_ HB) hb); clear BK277; clear BK278; clear BK279; clear BK280; clear HB; have HO286 := n0_; have BK277 := n1_; have BK278 := n2_; have BK279 := n3_; have BK280 := n4_; have HB := n5_; clear n0_ n1_ n2_ n3_ n4_ n5_; (try clear hb); (try clear hb2); (try clear hk); (try clear hi); (try clear ho0); obtain ⟨Ao45, co45, eo45⟩ := Kd.R_slice HO286.out; subst eo45) | ((with_reducible refine gate_callee (f := 33) rfl ?_); refine goesL_ (some 30) rfl rfl Try.func33 (by kernel_rfl) rfl #[.slice Ao45 t284.length co45, .func (.func 35) #[] #[.pointer (some ⟨gb277, 0, none⟩), .pointer (some ⟨gb278, 0, none⟩), .pointer (some ⟨gb279, 0, none⟩)]] rfl arg_ ?_; (with_reducible refine (impl_Case_33_at_35.calls kj3 (fun k_ => some k_ = (.slice Ao45 t284.length co45 : Value).ownBlock) (.slice Ao45 t284.length co45) t284 gb277 gb278 gb279 a0_0 a0_1 A0_2 c0_2 l0_2 a1_0 a1_1 a1_2 a1_3 a2 t287 w _ ?side1 ?side2 ?sideb277 ?sideb278 ?sideb279 ?side3 ?side4 A35.out).mono ?_); (case sideb277 => exact (pl_ BK277)); (case sideb278 => exact (pl_ BK278)); (case sideb279 => exact (pl_ BK279)); (case side1 => repeat (first | (with_reducible first | exact HB.out | apply below_alloc | apply pw_below_drewN | apply below_drew1) | exact HB.out)); (case side2 => exact Kd.R_tight rfl HO286.out); (case side3 => exact Kd.C_kept_came k41_heap HR0_2.out (bl_ HB) (fun k_ hs_ => (fun e_ => Kd.R_base HO286.out k_ e_.symm) hs_)); (case side4 => exact HC0_2.out); rintro e w46 ⟨v288, rfl, ho0, hb, hkp⟩; refine ⟨_, rfl, ?_⟩; have n0_ := A_ (blk_kept (pl_ BK277) hkp (fun hs_ => (fun e_ => (Kd.R_ne HO286.out BK277.out (by decide)) e_) hs_)); have n1_ := A_ (blk_kept (pl_ BK278) hkp (fun hs_ => (fun e_ => (Kd.R_ne HO286.out BK278.out (by decide)) e_) hs_)); have n2_ := A_ (blk_kept (pl_ BK279) hkp (fun hs_ => (fun e_ => (Kd.R_ne HO286.out BK279.out (by decide)) e_) hs_)); have n3_ := A_ (blk_kept (pl_ BK280) hkp (fun hs_ => (fun e_ => (Kd.R_away HO286.out (fun _ hk => hk.2)) e_) hs_)); have n4_ := A_ (Kd.R_mono (ok' := fun k_ => k_ ≠ gb280) ho0 (fun k_ hk_ => Or.elim hk_ (fun hs_ => fun e_ => (Kd.R_away HO286.out (fun _ hk => hk.2)) (by rw [← e_]; exact hs_)) (fun hn_ => (Kd.freshB (pl_ BK280) k_ hn_)))); have n5_ := A_ (hb); clear BK277; clear BK278; clear BK279; clear BK280; clear HB; clear HO286; have BK277 := n0_; have BK278 := n1_; have BK279 := n2_; have BK280 := n3_; have HO289 := n4_; have HB := n5_; clear n0_ n1_ n2_ n3_ n4_ n5_; (try clear hb); (try clear hkp); (try clear ho0); obtain ⟨Ao47, co47, eo47⟩ := Kd.R_slice HO289.out; subst eo47; have hnb48 := NB280_278.out; have hnc48 := NB278_280.out; obtain ⟨hcz49_0, hcz49_1, hfz49_0, hfz49_1⟩ := cl2_ BK280))
      refine bodyPost_ret (results_ct rfl _ _ gb280 38 #[.int .i8 0, .bool false] (0, 0) _ rfl (by (with_reducible repeat (first | refine blk_drewN ?_ _ | refine blk_drew ?_ | refine blk_alloc ?_ _)); refine blk_put (cs := #[.int .i8 0, .bool false]) ?_ 1 _ rfl; (with_reducible repeat (first | refine blk_drewN ?_ _ | refine blk_drew ?_ | refine blk_alloc ?_ _)); refine blk_put (cs := #[.int .i8 0, .bool false]) ?_ 0 _ rfl; (with_reducible repeat (first | refine blk_drewN ?_ _ | refine blk_drew ?_ | refine blk_alloc ?_ _)); exact BK280.out) Try.underlying38 rfl (by kernel_rfl)) rfl ?_
      exact ⟨by first | rfl | (simp [errW_none, errW_some] <;> rfl) | (simp [*, errW_none, errW_some] <;> rfl), bs_ HB GE280⟩
     ·rw [if_neg c36] at H
      have c36b0 : ((t287.length : Int) == 0) = false := beq_eq_false_iff_ne.mpr c36
      have c36b1 : ((t287.length : Int) != 0) = true := bne_iff_ne.mpr c36
      have c36b2 : ¬ (t287 = []) := fun h_ => c36 (by rw [h_]; rfl)
      by_cases c50 : (t287.length : Int) = 1
      ·rw [if_pos c50] at H
       have c50b0 : ((t287.length : Int) == 1) = true := beq_iff_eq.mpr c50
       have c50b1 : ((t287.length : Int) != 1) = false := bne_eq_false_iff_eq.mpr c50
       clear c50
       by_cases c51 : 0 < (t287.length : Int)
       ·rw [if_pos c51] at H
        have c51b0 : decide (0 < (t287.length : Int)) = true := decide_eq_true c51
        have c51b1 : decide (0 < t287.length) = true := decide_eq_true (by omega)
        clear c51
        simp only [Option.some.injEq, Prod.mk.injEq] at H
        obtain ⟨rfl, rfl, rfl⟩ := H
        have hnb52 := NB279_277.out
        have hnc52 := NB277_279.out
        have hnb53 := NB279_278.out
        have hnc53 := NB278_279.out
        have hnb54 := NB279_280.out
        have hnc54 := NB280_279.out
        obtain ⟨hcz55_0, hfz55_0⟩ := cl1_ BK279
        go_wp2_with (first | ((with_reducible refine gate_callee (f := 21) rfl ?_); refine goesL_ (some 24) rfl rfl Try.func21 (by kernel_rfl) rfl #[.int .i64 a2, .int .i64 0, .int .i64 4] rfl arg_ ?_; (with_reducible refine (impl_within.calls a2 0 4 true _ A32.out).mono ?_); rintro e w' ⟨rfl, ⟨nd, rfl⟩⟩; refine ⟨_, rfl, ?_⟩; (try (rw [drewN_self wc]; generalize hq_ : World.drewN wc _ = wc; have n0_ : Aside0 (wc.heap[gb277]? = some (.cells #[.int .i8 a0_0, .int .i8 a0_1, .slice A0_2 l0_2.length c0_2] 29 (0, 0))) := ⟨by rw [← hq_]; exact (pl_ BK277)⟩; have n1_ : Aside0 (wc.heap[gb278]? = some (.cells #[.int .i8 a1_0, .int .i8 a1_1, .int .i8 a1_2, .int .i8 a1_3] 41 (0, 0))) := ⟨by rw [← hq_]; exact (pl_ BK278)⟩; have n2_ : Aside0 (wc.heap[gb279]? = some (.cells #[.int .i64 a2] 2 (0, 0))) := ⟨by rw [← hq_]; exact (pl_ BK279)⟩; have n3_ : Aside0 (wc.heap[gb280]? = some (.cells #[.int .i8 0, .bool false] 38 (0, 0))) := ⟨by rw [← hq_]; exact (pl_ BK280)⟩; have n4_ : Aside0 (Below w.heap.size w wc) := ⟨by rw [← hq_]; exact (bl_ HB)⟩; clear BK277 BK278 BK279 BK280 HB hq_; have BK277 := n0_; have BK278 := n1_; have BK279 := n2_; have BK280 := n3_; have HB := n4_; clear n0_ n1_ n2_ n3_ n4_)); have hnb56 := NB277_278.out; have hnc56 := NB278_277.out; have hnb57 := NB277_280.out; have hnc57 := NB280_277.out; obtain ⟨hcz58_0, hcz58_1, hcz58_2, hfz58_0, hfz58_1, hfz58_2⟩ := cl3_ BK277) | ((with_reducible refine gate_callee (f := 34) rfl ?_); refine goesL_ (some 28) rfl rfl Try.func34 (by kernel_rfl) rfl #[.agg #[.int .i8 a0_0, .int .i8 a0_1, .slice A0_2 l0_2.length c0_2]] rfl arg_ ?_; (with_reducible refine (impl_Fixed_cases.calls kj3 a0_0 a0_1 _ _ l0_2 t284 _ ?side1 ?side2 A34.out).mono ?_); (case side1 => exact Kd.C_below HR0_2.out (bl_ HB)); (case side2 => exact HC0_2.out); rintro e w59 ⟨v285, rfl, ho0, hb⟩; refine ⟨_, rfl, ?_⟩; have n0_ := A_ (Kd.R_lower (Kd.R_newB ho0 (pl_ BK280)) (below_size (bl_ HB))); have n1_ := A_ (blk_below (pl_ BK277) hb); have n2_ := A_ (blk_below (pl_ BK278) hb); have n3_ := A_ (blk_below (pl_ BK279) hb); have n4_ := A_ (blk_below (pl_ BK280) hb); have n5_ := A_ (below_step (bl_ HB) hb); clear BK277; clear BK278; clear BK279; clear BK280; clear HB; have HO286 := n0_; have BK277 := n1_; have BK278 := n2_; have BK279 := n3_; have BK280 := n4_; have HB := n5_; clear n0_ n1_ n2_ n3_ n4_ n5_; (try clear hb); (try clear hb2); (try clear hk); (try clear hi); (try clear ho0); obtain ⟨Ao60, co60, eo60⟩ := Kd.R_slice HO286.out; subst eo60) | ((with_reducible refine gate_callee (f := 33) rfl ?_); refine goesL_ (some 30) rfl rfl Try.func33 (by kernel_rfl) rfl #[.slice Ao60 t284.length co60, .func (.func 35) #[] #[.pointer (some ⟨gb277, 0, none⟩), .pointer (some ⟨gb278, 0, none⟩), .pointer (some ⟨gb279, 0, none⟩)]] rfl arg_ ?_; (with_reducible refine (impl_Case_33_at_35.calls kj3 (fun k_ => some k_ = (.slice Ao60 t284.length co60 : Value).ownBlock) (.slice Ao60 t284.length co60) t284 gb277 gb278 gb279 a0_0 a0_1 A0_2 c0_2 l0_2 a1_0 a1_1 a1_2 a1_3 a2 t287 w _ ?side1 ?side2 ?sideb277 ?sideb278 ?sideb279 ?side3 ?side4 A35.out).mono ?_); (case sideb277 => exact (pl_ BK277)); (case sideb278 => exact (pl_ BK278)); (case sideb279 => exact (pl_ BK279)); (case side1 => repeat (first | (with_reducible first | exact HB.out | apply below_alloc | apply pw_below_drewN | apply below_drew1) | exact HB.out)); (case side2 => exact Kd.R_tight rfl HO286.out); (case side3 => exact Kd.C_kept_came k41_heap HR0_2.out (bl_ HB) (fun k_ hs_ => (fun e_ => Kd.R_base HO286.out k_ e_.symm) hs_)); (case side4 => exact HC0_2.out); rintro e w61 ⟨v288, rfl, ho0, hb, hkp⟩; refine ⟨_, rfl, ?_⟩; have n0_ := A_ (blk_kept (pl_ BK277) hkp (fun hs_ => (fun e_ => (Kd.R_ne HO286.out BK277.out (by decide)) e_) hs_)); have n1_ := A_ (blk_kept (pl_ BK278) hkp (fun hs_ => (fun e_ => (Kd.R_ne HO286.out BK278.out (by decide)) e_) hs_)); have n2_ := A_ (blk_kept (pl_ BK279) hkp (fun hs_ => (fun e_ => (Kd.R_ne HO286.out BK279.out (by decide)) e_) hs_)); have n3_ := A_ (blk_kept (pl_ BK280) hkp (fun hs_ => (fun e_ => (Kd.R_away HO286.out (fun _ hk => hk.2)) e_) hs_)); have n4_ := A_ (Kd.R_mono (ok' := fun k_ => k_ ≠ gb280) ho0 (fun k_ hk_ => Or.elim hk_ (fun hs_ => fun e_ => (Kd.R_away HO286.out (fun _ hk => hk.2)) (by rw [← e_]; exact hs_)) (fun hn_ => (Kd.freshB (pl_ BK280) k_ hn_)))); have n5_ := A_ (hb); clear BK277; clear BK278; clear BK279; clear BK280; clear HB; clear HO286; have BK277 := n0_; have BK278 := n1_; have BK279 := n2_; have BK280 := n3_; have HO289 := n4_; have HB := n5_; clear n0_ n1_ n2_ n3_ n4_ n5_; (try clear hb); (try clear hkp); (try clear ho0); obtain ⟨Ao62, co62, eo62⟩ := Kd.R_slice HO289.out; subst eo62; have p290 : 0 ≤ (0 : Int) := (by omega); have q290 : 0 < (t287.length : Int) := asm_; obtain ⟨ad290, e290, hx290_0, hx290_1⟩ := at_T38 (Kd.R_reads' HO289.out).2.2 0 p290 q290; cases e290; have qi290 : (0 < t287.length) = True := eq_true (by omega); (try rw [show ((0 : Int)).toNat = 0 from rfl] at hx290_0); (try rw [show 0 * 2 = 0 from rfl] at hx290_0); (try rw [Addr.add_zero'] at hx290_0); (try rw [show ((0 : Int)).toNat = 0 from rfl] at hx290_1); (try rw [show 0 * 2 = 0 from rfl] at hx290_1); (try rw [Addr.add_zero'] at hx290_1); replace p290 := eq_true p290; replace q290 := eq_true q290; have hnb63 := NB280_278.out; have hnc63 := NB278_280.out; obtain ⟨hcz64_0, hcz64_1, hfz64_0, hfz64_1⟩ := cl2_ BK280))
        refine bodyPost_ret (results_ct rfl _ _ gb280 38 #[.int .i8 ((rd_T38 t287 0).f0), .bool ((rd_T38 t287 0).f1)] (0, 0) _ rfl (by (with_reducible repeat (first | refine blk_drewN ?_ _ | refine blk_drew ?_ | refine blk_alloc ?_ _)); refine blk_put (cs := #[.int .i8 ((rd_T38 t287 0).f0), .bool false]) ?_ 1 _ rfl; (with_reducible repeat (first | refine blk_drewN ?_ _ | refine blk_drew ?_ | refine blk_alloc ?_ _)); refine blk_put (cs := #[.int .i8 0, .bool false]) ?_ 0 _ rfl; (with_reducible repeat (first | refine blk_drewN ?_ _ | refine blk_drew ?_ | refine blk_alloc ?_ _)); exact BK280.out) Try.underlying38 rfl (by kernel_rfl)) rfl ?_
        exact ⟨by first | rfl | (simp [errW_none, errW_some] <;> rfl) | (simp [*, errW_none, errW_some] <;> rfl), bs_ HB GE280⟩
       ·rw [if_neg c51] at H
        exact absurd H (by simp)
      ·rw [if_neg c50] at H
       have c50b0 : ((t287.length : Int) == 1) = false := beq_eq_false_iff_ne.mpr c50
       have c50b1 : ((t287.length : Int) != 1) = true := bne_iff_ne.mpr c50
       simp only [Option.some.injEq, Prod.mk.injEq] at H
       obtain ⟨rfl, rfl, rfl⟩ := H
       have hnb65 := NB279_277.out
       have hnc65 := NB277_279.out
       have hnb66 := NB279_278.out
       have hnc66 := NB278_279.out
       have hnb67 := NB279_280.out
       have hnc67 := NB280_279.out
       obtain ⟨hcz68_0, hfz68_0⟩ := cl1_ BK279
       go_wp2_with (first | ((with_reducible refine gate_callee (f := 21) rfl ?_); refine goesL_ (some 24) rfl rfl Try.func21 (by kernel_rfl) rfl #[.int .i64 a2, .int .i64 0, .int .i64 4] rfl arg_ ?_; (with_reducible refine (impl_within.calls a2 0 4 true _ A32.out).mono ?_); rintro e w' ⟨rfl, ⟨nd, rfl⟩⟩; refine ⟨_, rfl, ?_⟩; (try (rw [drewN_self wc]; generalize hq_ : World.drewN wc _ = wc; have n0_ : Aside0 (wc.heap[gb277]? = some (.cells #[.int .i8 a0_0, .int .i8 a0_1, .slice A0_2 l0_2.length c0_2] 29 (0, 0))) := ⟨by rw [← hq_]; exact (pl_ BK277)⟩; have n1_ : Aside0 (wc.heap[gb278]? = some (.cells #[.int .i8 a1_0, .int .i8 a1_1, .int .i8 a1_2, .int .i8 a1_3] 41 (0, 0))) := ⟨by rw [← hq_]; exact (pl_ BK278)⟩; have n2_ : Aside0 (wc.heap[gb279]? = some (.cells #[.int .i64 a2] 2 (0, 0))) := ⟨by rw [← hq_]; exact (pl_ BK279)⟩; have n3_ : Aside0 (wc.heap[gb280]? = some (.cells #[.int .i8 0, .bool false] 38 (0, 0))) := ⟨by rw [← hq_]; exact (pl_ BK280)⟩; have n4_ : Aside0 (Below w.heap.size w wc) := ⟨by rw [← hq_]; exact (bl_ HB)⟩; clear BK277 BK278 BK279 BK280 HB hq_; have BK277 := n0_; have BK278 := n1_; have BK279 := n2_; have BK280 := n3_; have HB := n4_; clear n0_ n1_ n2_ n3_ n4_)); have hnb69 := NB277_278.out; have hnc69 := NB278_277.out; have hnb70 := NB277_280.out; have hnc70 := NB280_277.out; obtain ⟨hcz71_0, hcz71_1, hcz71_2, hfz71_0, hfz71_1, hfz71_2⟩ := cl3_ BK277) | ((with_reducible refine gate_callee (f := 34) rfl ?_); refine goesL_ (some 28) rfl rfl Try.func34 (by kernel_rfl) rfl #[.agg #[.int .i8 a0_0, .int .i8 a0_1, .slice A0_2 l0_2.length c0_2]] rfl arg_ ?_; (with_reducible refine (impl_Fixed_cases.calls kj3 a0_0 a0_1 _ _ l0_2 t284 _ ?side1 ?side2 A34.out).mono ?_); (case side1 => exact Kd.C_below HR0_2.out (bl_ HB)); (case side2 => exact HC0_2.out); rintro e w72 ⟨v285, rfl, ho0, hb⟩; refine ⟨_, rfl, ?_⟩; have n0_ := A_ (Kd.R_lower (Kd.R_newB ho0 (pl_ BK280)) (below_size (bl_ HB))); have n1_ := A_ (blk_below (pl_ BK277) hb); have n2_ := A_ (blk_below (pl_ BK278) hb); have n3_ := A_ (blk_below (pl_ BK279) hb); have n4_ := A_ (blk_below (pl_ BK280) hb); have n5_ := A_ (below_step (bl_ HB) hb); clear BK277; clear BK278; clear BK279; clear BK280; clear HB; have HO286 := n0_; have BK277 := n1_; have BK278 := n2_; have BK279 := n3_; have BK280 := n4_; have HB := n5_; clear n0_ n1_ n2_ n3_ n4_ n5_; (try clear hb); (try clear hb2); (try clear hk); (try clear hi); (try clear ho0); obtain ⟨Ao73, co73, eo73⟩ := Kd.R_slice HO286.out; subst eo73) | ((with_reducible refine gate_callee (f := 33) rfl ?_); refine goesL_ (some 30) rfl rfl Try.func33 (by kernel_rfl) rfl #[.slice Ao73 t284.length co73, .func (.func 35) #[] #[.pointer (some ⟨gb277, 0, none⟩), .pointer (some ⟨gb278, 0, none⟩), .pointer (some ⟨gb279, 0, none⟩)]] rfl arg_ ?_; (with_reducible refine (impl_Case_33_at_35.calls kj3 (fun k_ => some k_ = (.slice Ao73 t284.length co73 : Value).ownBlock) (.slice Ao73 t284.length co73) t284 gb277 gb278 gb279 a0_0 a0_1 A0_2 c0_2 l0_2 a1_0 a1_1 a1_2 a1_3 a2 t287 w _ ?side1 ?side2 ?sideb277 ?sideb278 ?sideb279 ?side3 ?side4 A35.out).mono ?_); (case sideb277 => exact (pl_ BK277)); (case sideb278 => exact (pl_ BK278)); (case sideb279 => exact (pl_ BK279)); (case side1 => repeat (first | (with_reducible first | exact HB.out | apply below_alloc | apply pw_below_drewN | apply below_drew1) | exact HB.out)); (case side2 => exact Kd.R_tight rfl HO286.out); (case side3 => exact Kd.C_kept_came k41_heap HR0_2.out (bl_ HB) (fun k_ hs_ => (fun e_ => Kd.R_base HO286.out k_ e_.symm) hs_)); (case side4 => exact HC0_2.out); rintro e w74 ⟨v288, rfl, ho0, hb, hkp⟩; refine ⟨_, rfl, ?_⟩; have n0_ := A_ (blk_kept (pl_ BK277) hkp (fun hs_ => (fun e_ => (Kd.R_ne HO286.out BK277.out (by decide)) e_) hs_)); have n1_ := A_ (blk_kept (pl_ BK278) hkp (fun hs_ => (fun e_ => (Kd.R_ne HO286.out BK278.out (by decide)) e_) hs_)); have n2_ := A_ (blk_kept (pl_ BK279) hkp (fun hs_ => (fun e_ => (Kd.R_ne HO286.out BK279.out (by decide)) e_) hs_)); have n3_ := A_ (blk_kept (pl_ BK280) hkp (fun hs_ => (fun e_ => (Kd.R_away HO286.out (fun _ hk => hk.2)) e_) hs_)); have n4_ := A_ (Kd.R_mono (ok' := fun k_ => k_ ≠ gb280) ho0 (fun k_ hk_ => Or.elim hk_ (fun hs_ => fun e_ => (Kd.R_away HO286.out (fun _ hk => hk.2)) (by rw [← e_]; exact hs_)) (fun hn_ => (Kd.freshB (pl_ BK280) k_ hn_)))); have n5_ := A_ (hb); clear BK277; clear BK278; clear BK279; clear BK280; clear HB; clear HO286; have BK277 := n0_; have BK278 := n1_; have BK279 := n2_; have BK280 := n3_; have HO289 := n4_; have HB := n5_; clear n0_ n1_ n2_ n3_ n4_ n5_; (try clear hb); (try clear hkp); (try clear ho0); obtain ⟨Ao75, co75, eo75⟩ := Kd.R_slice HO289.out; subst eo75; have hnb76 := NB280_278.out; have hnc76 := NB278_280.out; obtain ⟨hcz77_0, hcz77_1, hfz77_0, hfz77_1⟩ := cl2_ BK280))
       refine bodyPost_ret (results_ct rfl _ _ gb280 38 #[.int .i8 0, .bool false] (0, 0) _ rfl (by (with_reducible repeat (first | refine blk_drewN ?_ _ | refine blk_drew ?_ | refine blk_alloc ?_ _)); refine blk_put (cs := #[.int .i8 0, .bool false]) ?_ 1 _ rfl; (with_reducible repeat (first | refine blk_drewN ?_ _ | refine blk_drew ?_ | refine blk_alloc ?_ _)); refine blk_put (cs := #[.int .i8 0, .bool false]) ?_ 0 _ rfl; (with_reducible repeat (first | refine blk_drewN ?_ _ | refine blk_drew ?_ | refine blk_alloc ?_ _)); exact BK280.out) Try.underlying38 rfl (by kernel_rfl)) rfl ?_
       exact ⟨by first | rfl | (simp [errW_none, errW_some] <;> rfl) | (simp [*, errW_none, errW_some] <;> rfl), bs_ HB GE280⟩
    ·replace c33 := Bool.eq_false_iff.mpr c33
     subst c33
     have H1 : (some (0, false, 2)) = some (r1, r2, r3) := by rw [if_neg (show ¬ (false = true) by decide)] at H; exact H
     clear H
     have H := H1
     clear H1
     simp only [Option.some.injEq, Prod.mk.injEq] at H
     obtain ⟨rfl, rfl, rfl⟩ := H
     have hnb78 := NB279_277.out
     have hnc78 := NB277_279.out
     have hnb79 := NB279_278.out
     have hnc79 := NB278_279.out
     have hnb80 := NB279_280.out
     have hnc80 := NB280_279.out
     obtain ⟨hcz81_0, hfz81_0⟩ := cl1_ BK279
     go_wp2_with (first | ((with_reducible refine gate_callee (f := 21) rfl ?_); refine goesL_ (some 24) rfl rfl Try.func21 (by kernel_rfl) rfl #[.int .i64 a2, .int .i64 0, .int .i64 4] rfl arg_ ?_; (with_reducible refine (impl_within.calls a2 0 4 false _ A32.out).mono ?_); rintro e w' ⟨rfl, ⟨nd, rfl⟩⟩; refine ⟨_, rfl, ?_⟩; (try (rw [drewN_self wc]; generalize hq_ : World.drewN wc _ = wc; have n0_ : Aside0 (wc.heap[gb277]? = some (.cells #[.int .i8 a0_0, .int .i8 a0_1, .slice A0_2 l0_2.length c0_2] 29 (0, 0))) := ⟨by rw [← hq_]; exact (pl_ BK277)⟩; have n1_ : Aside0 (wc.heap[gb278]? = some (.cells #[.int .i8 a1_0, .int .i8 a1_1, .int .i8 a1_2, .int .i8 a1_3] 41 (0, 0))) := ⟨by rw [← hq_]; exact (pl_ BK278)⟩; have n2_ : Aside0 (wc.heap[gb279]? = some (.cells #[.int .i64 a2] 2 (0, 0))) := ⟨by rw [← hq_]; exact (pl_ BK279)⟩; have n3_ : Aside0 (wc.heap[gb280]? = some (.cells #[.int .i8 0, .bool false] 38 (0, 0))) := ⟨by rw [← hq_]; exact (pl_ BK280)⟩; have n4_ : Aside0 (Below w.heap.size w wc) := ⟨by rw [← hq_]; exact (bl_ HB)⟩; clear BK277 BK278 BK279 BK280 HB hq_; have BK277 := n0_; have BK278 := n1_; have BK279 := n2_; have BK280 := n3_; have HB := n4_; clear n0_ n1_ n2_ n3_ n4_)); have hnb82 := NB280_277.out; have hnc82 := NB277_280.out; have hnb83 := NB280_278.out; have hnc83 := NB278_280.out; obtain ⟨hcz84_0, hcz84_1, hfz84_0, hfz84_1⟩ := cl2_ BK280))
     refine bodyPost_ret (results_ct rfl _ _ gb280 38 #[.int .i8 0, .bool false] (0, 0) _ rfl (by (with_reducible repeat (first | refine blk_drewN ?_ _ | refine blk_drew ?_ | refine blk_alloc ?_ _)); refine blk_put (cs := #[.int .i8 0, .bool false]) ?_ 1 _ rfl; (with_reducible repeat (first | refine blk_drewN ?_ _ | refine blk_drew ?_ | refine blk_alloc ?_ _)); refine blk_put (cs := #[.int .i8 0, .bool false]) ?_ 0 _ rfl; (with_reducible repeat (first | refine blk_drewN ?_ _ | refine blk_drew ?_ | refine blk_alloc ?_ _)); exact BK280.out) Try.underlying38 rfl (by kernel_rfl)) rfl ?_
     exact ⟨by first | rfl | (simp [errW_none, errW_some] <;> rfl) | (simp [*, errW_none, errW_some] <;> rfl), bs_ HB GE280⟩

/-! ### laws_eqCase: function 15 -/
def laws_eqCase.f (a0_0 : Int) (a0_1 : Bool) (a1_0 : Int) (a1_1 : Bool) : Option (Bool) := if a0_0 = a1_0 then (if (a0_1 != a1_1) = true then (some false) else (some true)) else (some false)
set_option maxHeartbeats 8000000 in
set_option maxRecDepth 100000 in
theorem laws_eqCase.calls (a0_0 : Int) (a0_1 : Bool) (a1_0 : Int) (a1_1 : Bool) (r : Bool) (w : World) (h : laws_eqCase.f a0_0 a0_1 a1_0 a1_1 = some r) :
  Calls Try.prog 15 #[.agg #[.int .i8 a0_0, .bool a0_1], .agg #[.int .i8 a1_0, .bool a1_1]] w fun e w' => e = .returned (.bool r) ∧ Below w.heap.size w w' := by
 have hu38 := Try.underlying38
 have HB := A_ (Below.refl w.heap.size w)
 have H : (if a0_0 = a1_0 then (if (a0_1 != a1_1) = true then (some false) else (some true)) else (some false)) = some r := h
 clear h
 by_cases c3 : a0_0 = a1_0
 ·rw [if_pos c3] at H
  have c3b0 : (a0_0 == a1_0) = true := beq_iff_eq.mpr c3
  have c3b1 : (a0_0 != a1_0) = false := bne_eq_false_iff_eq.mpr c3
  clear c3
  by_cases c4 : (a0_1 != a1_1) = true
  ·rw [if_pos c4] at H
   have c4b0 : (a0_1 != a1_1) = true := c4
   (try (have c4b1 : decide (a0_1 = a1_1) = false := by simpa using c4))
   (try (have c4b2 : (a0_1 == a1_1) = false := by simpa using c4))
   (try (have c4b3 : ¬ (a0_1 = a1_1) := by simpa using c4))
   clear c4
   obtain rfl := Option.some.inj H
   go_enter Try.func15, Try.ntmps15
   go_wp2_with (first | ((with_reducible refine gate_dst (N := 2) rfl ?_); refine box_event ?hg (N := 2) ?hd (cs := #[.int .i8 a0_0, .bool a0_1]) (t := 38) ?hr ?_; (case hd => rfl); (case hg => rfl); (case hr => first | (go_simp; done) | (go_simp; rfl)); intro gb291 hg w5 hbox hb; have n0_ := A_ (below_step (bl_ HB) hb); have n1_ := A_ (hbox); have n2_ := A_ ((by rw [hg]; exact (below_size (bl_ HB)) : w.heap.size ≤ gb291)); have n3_ := n2_; clear HB; have HB := n0_; have BK291 := n1_; have GW291 := n2_; have GE291 := n3_; clear n0_ n1_ n2_ n3_; clear hb hbox hg) | ((with_reducible refine gate_dst (N := 3) rfl ?_); refine box_event ?hg (N := 3) ?hd (cs := #[.int .i8 a1_0, .bool a1_1]) (t := 38) ?hr ?_; (case hd => rfl); (case hg => rfl); (case hr => first | (go_simp; done) | (go_simp; rfl)); intro gb292 hg w6 hbox hb; have n0_ := A_ (blk_below (pl_ BK291) hb); have n1_ := A_ (below_step (bl_ HB) hb); have n2_ := A_ (hbox); have n3_ := A_ ((by rw [hg]; exact (below_size (bl_ HB)) : w.heap.size ≤ gb292)); have n4_ := n3_; have n5_ := A_ ((by rw [hg]; exact Nat.ne_of_lt (blk_lt (pl_ BK291)) : gb291 ≠ gb292)); have n6_ := Aside0.mk n5_.out.symm; clear BK291; clear HB; have BK291 := n0_; have HB := n1_; have BK292 := n2_; have GW292 := n3_; have GE292 := n4_; have NB291_292 := n5_; have NB292_291 := n6_; clear n0_ n1_ n2_ n3_ n4_ n5_ n6_; clear hb hbox hg; have hnb7 := NB291_292.out; have hnc7 := NB292_291.out; obtain ⟨hcz8_0, hcz8_1, hfz8_0, hfz8_1⟩ := cl2_ BK291; obtain ⟨hcz9_0, hcz9_1, hfz9_0, hfz9_1⟩ := cl2_ BK292))
   go_ret
   exact ⟨by first | rfl | (simp [errW_none, errW_some] <;> rfl) | (simp [*, errW_none, errW_some] <;> rfl), bl_ HB⟩
  ·rw [if_neg c4] at H
   have c4b0 : (a0_1 != a1_1) = false := by simpa using c4
   (try (have c4b1 : decide (a0_1 = a1_1) = true := by simpa using c4))
   (try (have c4b2 : (a0_1 == a1_1) = true := by simpa using c4))
   clear c4
   obtain rfl := Option.some.inj H
   go_enter Try.func15, Try.ntmps15
   go_wp2_with (first | ((with_reducible refine gate_dst (N := 2) rfl ?_); refine box_event ?hg (N := 2) ?hd (cs := #[.int .i8 a0_0, .bool a0_1]) (t := 38) ?hr ?_; (case hd => rfl); (case hg => rfl); (case hr => first | (go_simp; done) | (go_simp; rfl)); intro gb291 hg w10 hbox hb; have n0_ := A_ (below_step (bl_ HB) hb); have n1_ := A_ (hbox); have n2_ := A_ ((by rw [hg]; exact (below_size (bl_ HB)) : w.heap.size ≤ gb291)); have n3_ := n2_; clear HB; have HB := n0_; have BK291 := n1_; have GW291 := n2_; have GE291 := n3_; clear n0_ n1_ n2_ n3_; clear hb hbox hg) | ((with_reducible refine gate_dst (N := 3) rfl ?_); refine box_event ?hg (N := 3) ?hd (cs := #[.int .i8 a1_0, .bool a1_1]) (t := 38) ?hr ?_; (case hd => rfl); (case hg => rfl); (case hr => first | (go_simp; done) | (go_simp; rfl)); intro gb292 hg w11 hbox hb; have n0_ := A_ (blk_below (pl_ BK291) hb); have n1_ := A_ (below_step (bl_ HB) hb); have n2_ := A_ (hbox); have n3_ := A_ ((by rw [hg]; exact (below_size (bl_ HB)) : w.heap.size ≤ gb292)); have n4_ := n3_; have n5_ := A_ ((by rw [hg]; exact Nat.ne_of_lt (blk_lt (pl_ BK291)) : gb291 ≠ gb292)); have n6_ := Aside0.mk n5_.out.symm; clear BK291; clear HB; have BK291 := n0_; have HB := n1_; have BK292 := n2_; have GW292 := n3_; have GE292 := n4_; have NB291_292 := n5_; have NB292_291 := n6_; clear n0_ n1_ n2_ n3_ n4_ n5_ n6_; clear hb hbox hg; have hnb12 := NB291_292.out; have hnc12 := NB292_291.out; obtain ⟨hcz13_0, hcz13_1, hfz13_0, hfz13_1⟩ := cl2_ BK291; obtain ⟨hcz14_0, hcz14_1, hfz14_0, hfz14_1⟩ := cl2_ BK292))
   go_ret
   exact ⟨by first | rfl | (simp [errW_none, errW_some] <;> rfl) | (simp [*, errW_none, errW_some] <;> rfl), bl_ HB⟩
 ·rw [if_neg c3] at H
  have c3b0 : (a0_0 == a1_0) = false := beq_eq_false_iff_ne.mpr c3
  have c3b1 : (a0_0 != a1_0) = true := bne_iff_ne.mpr c3
  obtain rfl := Option.some.inj H
  go_enter Try.func15, Try.ntmps15
  go_wp2_with (first | ((with_reducible refine gate_dst (N := 2) rfl ?_); refine box_event ?hg (N := 2) ?hd (cs := #[.int .i8 a0_0, .bool a0_1]) (t := 38) ?hr ?_; (case hd => rfl); (case hg => rfl); (case hr => first | (go_simp; done) | (go_simp; rfl)); intro gb291 hg w15 hbox hb; have n0_ := A_ (below_step (bl_ HB) hb); have n1_ := A_ (hbox); have n2_ := A_ ((by rw [hg]; exact (below_size (bl_ HB)) : w.heap.size ≤ gb291)); have n3_ := n2_; clear HB; have HB := n0_; have BK291 := n1_; have GW291 := n2_; have GE291 := n3_; clear n0_ n1_ n2_ n3_; clear hb hbox hg) | ((with_reducible refine gate_dst (N := 3) rfl ?_); refine box_event ?hg (N := 3) ?hd (cs := #[.int .i8 a1_0, .bool a1_1]) (t := 38) ?hr ?_; (case hd => rfl); (case hg => rfl); (case hr => first | (go_simp; done) | (go_simp; rfl)); intro gb292 hg w16 hbox hb; have n0_ := A_ (blk_below (pl_ BK291) hb); have n1_ := A_ (below_step (bl_ HB) hb); have n2_ := A_ (hbox); have n3_ := A_ ((by rw [hg]; exact (below_size (bl_ HB)) : w.heap.size ≤ gb292)); have n4_ := n3_; have n5_ := A_ ((by rw [hg]; exact Nat.ne_of_lt (blk_lt (pl_ BK291)) : gb291 ≠ gb292)); have n6_ := Aside0.mk n5_.out.symm; clear BK291; clear HB; have BK291 := n0_; have HB := n1_; have BK292 := n2_; have GW292 := n3_; have GE292 := n4_; have NB291_292 := n5_; have NB292_291 := n6_; clear n0_ n1_ n2_ n3_ n4_ n5_ n6_; clear hb hbox hg; have hnb17 := NB291_292.out; have hnc17 := NB292_291.out; obtain ⟨hcz18_0, hcz18_1, hfz18_0, hfz18_1⟩ := cl2_ BK291; obtain ⟨hcz19_0, hcz19_1, hfz19_0, hfz19_1⟩ := cl2_ BK292))
  go_ret
  exact ⟨by first | rfl | (simp [errW_none, errW_some] <;> rfl) | (simp [*, errW_none, errW_some] <;> rfl), bl_ HB⟩

end Go.Proofs.Ytkieplebdbdigaa.M
