-- By this seat's own program over the kit's printer (arrays, functions told by hand); nothing of it is trusted: the kernel checks it.
import Derived.Test.YtkieplebdbdigaaMx0
import Derived.Test.YtkieplebdbdigaaMx4
import Derived.Test.YtkieplebdbdigaaMx6
import Derived.Test.YtkieplebdbdigaaMx8
import Derived.Test.YtkieplebdbdigaaMx10
namespace Go.Proofs.Ytkieplebdbdigaa.M
open Go.RowKit Go.Proofs.YtkieplebdbdigaaW.PrintWords Go.Proofs.YtkieplebdbdigaaW.PrintLast Go.Proofs.YtkieplebdbdigaaW.PrintMore
attribute [local go_sem] max2_int min2_int max_two min_two max_three min_three max_four min_four   -- for this text's walks alone
set_option linter.unusedVariables false
set_option linter.unusedSimpArgs false

/-! ### spec_DecodeNear: function 12 -/
mutual
def spec_DecodeNear.j0 : Nat → Int → Bool → Int → Int → List (S41) → Int → Int → Int → Int → Option (Int × Bool × Int)
 | 0, _, _, _, _, _, _, _, _, _ => none
 | k + 1, x2, x20, x173000, x173001, x173002, x174000, x174001, x174002, x174003 => if x20 = true then (some (0, false, 1)) else ((spec_l00In.f x2 0 4).bind fun t177 => (if t177 = true then ((spec_l04Cases.f k x173000 x173001 x173002).bind fun t178 => (spec_DecodeNear.l0 k x2 t178 (([] : List (S38))) 0 x173000 x173001 x173002 x174000 x174001 x174002 x174003)) else (some (0, false, 2))))
def spec_DecodeNear.l0 : Nat → Int → List (S38) → List (S38) → Int → Int → Int → List (S41) → Int → Int → Int → Int → Option (Int × Bool × Int)
 | 0, _, _, _, _, _, _, _, _, _, _, _ => none
 | k + 1, x2, x8, x9, x10, x173000, x173001, x173002, x174000, x174001, x174002, x174003 => if x10 < (x8.length : Int) then (if 0 ≤ x10 then ((spec_l04Seen.f k x173000 x173001 x173002 ((rd_T38 x8 x10).f0) ((rd_T38 x8 x10).f1)).bind fun bt185 => ((spec_l04Distance.f k bt185.1 bt185.2.1 bt185.2.2.1 bt185.2.2.2 x174000 x174001 x174002 x174003).bind fun t189 => (if t189 ≤ x2 then (if x9.length < 70368744177664 then (spec_DecodeNear.l0 k x2 x8 (x9 ++ [(⟨(rd_T38 x8 x10).f0, (rd_T38 x8 x10).f1⟩ : S38)]) (wrap64 (x10 + 1)) x173000 x173001 x173002 x174000 x174001 x174002 x174003) else (none)) else (spec_DecodeNear.l0 k x2 x8 x9 (wrap64 (x10 + 1)) x173000 x173001 x173002 x174000 x174001 x174002 x174003)))) else (none)) else (if (x9.length : Int) = 0 then (some (0, false, 6)) else (if (x9.length : Int) > 1 then (some (0, false, 8)) else (if 0 < (x9.length : Int) then (some ((rd_T38 x9 0).f0, (rd_T38 x9 0).f1, 0)) else (none))))
end
def spec_DecodeNear.f (k : Nat) (a0_0 : Int) (a0_1 : Int) (l0_2 : List (S41)) (a1_0 : Int) (a1_1 : Int) (a1_2 : Int) (a1_3 : Int) (a2 : Int) : Option (Int × Bool × Int) := (spec_l04Ok.f k a0_0 a0_1 l0_2).bind fun t175 => (if t175 = true then ((spec_l04Word.f k (wrap64 (a0_0)) a1_0 a1_1 a1_2 a1_3).bind fun t176 => (spec_DecodeNear.j0 k a2 (!t176) a0_0 a0_1 l0_2 a1_0 a1_1 a1_2 a1_3)) else (spec_DecodeNear.j0 k a2 true a0_0 a0_1 l0_2 a1_0 a1_1 a1_2 a1_3))
theorem spec_DecodeNear.mono_l : ∀ k, (∀ y0 y1 y2 y3 y4 y5 y6 y7 y8, LeO (spec_DecodeNear.j0 k y0 y1 y2 y3 y4 y5 y6 y7 y8) (spec_DecodeNear.j0 (k + 1) y0 y1 y2 y3 y4 y5 y6 y7 y8)) ∧ (∀ y0 y1 y2 y3 y4 y5 y6 y7 y8 y9 y10, LeO (spec_DecodeNear.l0 k y0 y1 y2 y3 y4 y5 y6 y7 y8 y9 y10) (spec_DecodeNear.l0 (k + 1) y0 y1 y2 y3 y4 y5 y6 y7 y8 y9 y10))
 | 0 => ⟨fun _ _ _ _ _ _ _ _ _ r h => by simp [spec_DecodeNear.j0] at h, fun _ _ _ _ _ _ _ _ _ _ _ r h => by simp [spec_DecodeNear.l0] at h⟩
 | k + 1 => by
  obtain ⟨ih0, ih1⟩ := spec_DecodeNear.mono_l k
  refine ⟨?_, ?_⟩
  ·intro y0 y1 y2 y3 y4 y5 y6 y7 y8
   unfold spec_DecodeNear.j0
   repeat' first
   | (with_reducible exact ih0 _ _ _ _ _ _ _ _ _)
   | (with_reducible exact ih1 _ _ _ _ _ _ _ _ _ _ _)
   | (with_reducible exact spec_l04Cases.mono _ _ _ _)
   | (with_reducible exact spec_l04Distance.mono _ _ _ _ _ _ _ _ _)
   | (with_reducible exact spec_l04Ok.mono _ _ _ _)
   | (with_reducible exact spec_l04Seen.mono _ _ _ _ _ _)
   | (with_reducible exact spec_l04Word.mono _ _ _ _ _ _)
   | (with_reducible exact LeO.refl _)
   | (with_reducible exact LeO.none _)
   | (with_reducible refine LeO.ite ?_ ?_)
   | (with_reducible refine LeO.bind ?_ (fun _ => ?_))
   | exact ih0 _ _ _ _ _ _ _ _ _
   | exact ih1 _ _ _ _ _ _ _ _ _ _ _
   | exact spec_l04Cases.mono _ _ _ _
   | exact spec_l04Distance.mono _ _ _ _ _ _ _ _ _
   | exact spec_l04Ok.mono _ _ _ _
   | exact spec_l04Seen.mono _ _ _ _ _ _
   | exact spec_l04Word.mono _ _ _ _ _ _
   | exact LeO.none _
   | refine LeO.ite ?_ ?_
   | refine LeO.bind ?_ (fun _ => ?_)
  ·intro y0 y1 y2 y3 y4 y5 y6 y7 y8 y9 y10
   unfold spec_DecodeNear.l0
   repeat' first
   | (with_reducible exact ih0 _ _ _ _ _ _ _ _ _)
   | (with_reducible exact ih1 _ _ _ _ _ _ _ _ _ _ _)
   | (with_reducible exact spec_l04Cases.mono _ _ _ _)
   | (with_reducible exact spec_l04Distance.mono _ _ _ _ _ _ _ _ _)
   | (with_reducible exact spec_l04Ok.mono _ _ _ _)
   | (with_reducible exact spec_l04Seen.mono _ _ _ _ _ _)
   | (with_reducible exact spec_l04Word.mono _ _ _ _ _ _)
   | (with_reducible exact LeO.refl _)
   | (with_reducible exact LeO.none _)
   | (with_reducible refine LeO.ite ?_ ?_)
   | (with_reducible refine LeO.bind ?_ (fun _ => ?_))
   | exact ih0 _ _ _ _ _ _ _ _ _
   | exact ih1 _ _ _ _ _ _ _ _ _ _ _
   | exact spec_l04Cases.mono _ _ _ _
   | exact spec_l04Distance.mono _ _ _ _ _ _ _ _ _
   | exact spec_l04Ok.mono _ _ _ _
   | exact spec_l04Seen.mono _ _ _ _ _ _
   | exact spec_l04Word.mono _ _ _ _ _ _
   | exact LeO.none _
   | refine LeO.ite ?_ ?_
   | refine LeO.bind ?_ (fun _ => ?_)
theorem spec_DecodeNear.mono : ∀ a0 a1 a2 a3 a4 a5 a6 a7 k, LeO (spec_DecodeNear.f k a0 a1 a2 a3 a4 a5 a6 a7) (spec_DecodeNear.f (k + 1) a0 a1 a2 a3 a4 a5 a6 a7) := by
 intro a0 a1 a2 a3 a4 a5 a6 a7 k
 obtain ⟨ih0, ih1⟩ := spec_DecodeNear.mono_l k
 unfold spec_DecodeNear.f
 repeat' first
   | (with_reducible exact ih0 _ _ _ _ _ _ _ _ _)
   | (with_reducible exact ih1 _ _ _ _ _ _ _ _ _ _ _)
   | (with_reducible exact spec_l04Cases.mono _ _ _ _)
   | (with_reducible exact spec_l04Distance.mono _ _ _ _ _ _ _ _ _)
   | (with_reducible exact spec_l04Ok.mono _ _ _ _)
   | (with_reducible exact spec_l04Seen.mono _ _ _ _ _ _)
   | (with_reducible exact spec_l04Word.mono _ _ _ _ _ _)
   | (with_reducible exact LeO.refl _)
   | (with_reducible exact LeO.none _)
   | (with_reducible refine LeO.ite ?_ ?_)
   | (with_reducible refine LeO.bind ?_ (fun _ => ?_))
   | exact ih0 _ _ _ _ _ _ _ _ _
   | exact ih1 _ _ _ _ _ _ _ _ _ _ _
   | exact spec_l04Cases.mono _ _ _ _
   | exact spec_l04Distance.mono _ _ _ _ _ _ _ _ _
   | exact spec_l04Ok.mono _ _ _ _
   | exact spec_l04Seen.mono _ _ _ _ _ _
   | exact spec_l04Word.mono _ _ _ _ _ _
   | exact LeO.none _
   | refine LeO.ite ?_ ?_
   | refine LeO.bind ?_ (fun _ => ?_)
def spec_DecodeNear.T10 : Bool × List (List Nat × List Nat) := (true, [([], []), ([], []), ([0, 1], [0, 1]), ([2], [2]), ([3], [3]), ([], []), ([4, 5, 4], [4, 5]), ([], []), ([6, 7], [6, 7])])
def spec_DecodeNear.B10 : List Nat := [0, 0, 3, 7, 15, 0, 63, 0, 255]
theorem spec_DecodeNear.tab10 : rtab .any (opsOf Try.f12 10) = spec_DecodeNear.T10 := by kernel_rfl
theorem spec_DecodeNear.bits10 : waitsOk spec_DecodeNear.T10.2 spec_DecodeNear.B10 = true := by kernel_rfl
set_option maxHeartbeats 8000000 in
set_option maxRecDepth 100000 in
theorem spec_DecodeNear.calls (k : Nat) (a0_0 : Int) (a0_1 : Int) (A0_2 : Option Addr) (c0_2 : Nat) (l0_2 : List (S41)) (a1_0 : Int) (a1_1 : Int) (a1_2 : Int) (a1_3 : Int) (a2 : Int) (r1 : Int) (r2 : Bool) (r3 : Int) (w : World) (hr0_2 : Kd.C k41 w A0_2 l0_2.length l0_2) (hc0_2 : l0_2.length ≤ c0_2) (h : spec_DecodeNear.f k a0_0 a0_1 l0_2 a1_0 a1_1 a1_2 a1_3 a2 = some (r1, r2, r3)) :
  Calls Try.prog 12 #[.agg #[.int .i8 a0_0, .int .i8 a0_1, .slice A0_2 l0_2.length c0_2], .agg #[.int .i8 a1_0, .int .i8 a1_1, .int .i8 a1_2, .int .i8 a1_3], .int .i64 a2] w fun e w' => e = .returned (.tuple #[.agg #[.int .i8 r1, .bool r2], .int .i64 r3]) ∧ Below w.heap.size w w' := by
 have hu29 := Try.underlying29
 have hu41 := Try.underlying41
 have hu38 := Try.underlying38
 have HR0_2 := Aside0.mk hr0_2
 have HC0_2 := Aside0.mk hc0_2
 clear hr0_2 hc0_2
 have HB := A_ (Below.refl w.heap.size w)
 have H : ((spec_l04Ok.f k a0_0 a0_1 l0_2).bind fun t175 => (if t175 = true then ((spec_l04Word.f k (wrap64 (a0_0)) a1_0 a1_1 a1_2 a1_3).bind fun t176 => (spec_DecodeNear.j0 k a2 (!t176) a0_0 a0_1 l0_2 a1_0 a1_1 a1_2 a1_3)) else (spec_DecodeNear.j0 k a2 true a0_0 a0_1 l0_2 a1_0 a1_1 a1_2 a1_3))) = some (r1, r2, r3) := h
 clear h
 have HC4 := Aside0.mk H
 clear H
 go_enter Try.func12, Try.ntmps12
 go_upto_region 1 with (first | ((with_reducible refine gate_dst (N := 3) rfl ?_); refine box_event ?hg (N := 3) ?hd (cs := #[.int .i8 a0_0, .int .i8 a0_1, .slice A0_2 l0_2.length c0_2]) (t := 29) ?hr ?_; (case hd => rfl); (case hg => rfl); (case hr => first | (go_simp; done) | (go_simp; rfl)); intro gb172 hg w5 hbox hb; have n0_ := A_ (below_step (bl_ HB) hb); have n1_ := A_ (hbox); have n2_ := A_ ((by rw [hg]; exact (below_size (bl_ HB)) : w.heap.size ≤ gb172)); have n3_ := n2_; clear HB; have HB := n0_; have BK172 := n1_; have GW172 := n2_; have GE172 := n3_; clear n0_ n1_ n2_ n3_; clear hb hbox hg) | ((with_reducible refine gate_dst (N := 4) rfl ?_); refine box_event ?hg (N := 4) ?hd (cs := #[.int .i8 a1_0, .int .i8 a1_1, .int .i8 a1_2, .int .i8 a1_3]) (t := 41) ?hr ?_; (case hd => rfl); (case hg => rfl); (case hr => first | (go_simp; done) | (go_simp; rfl)); intro gb173 hg w6 hbox hb; have n0_ := A_ (blk_below (pl_ BK172) hb); have n1_ := A_ (below_step (bl_ HB) hb); have n2_ := A_ (hbox); have n3_ := A_ ((by rw [hg]; exact (below_size (bl_ HB)) : w.heap.size ≤ gb173)); have n4_ := n3_; have n5_ := A_ ((by rw [hg]; exact Nat.ne_of_lt (blk_lt (pl_ BK172)) : gb172 ≠ gb173)); have n6_ := Aside0.mk n5_.out.symm; clear BK172; clear HB; have BK172 := n0_; have HB := n1_; have BK173 := n2_; have GW173 := n3_; have GE173 := n4_; have NB172_173 := n5_; have NB173_172 := n6_; clear n0_ n1_ n2_ n3_ n4_ n5_ n6_; clear hb hbox hg) | ((with_reducible refine gate_dst (N := 6) rfl ?_); refine box_event ?hg (N := 6) ?hd (cs := #[.int .i8 0, .bool false]) (t := 38) ?hr ?_; (case hd => rfl); (case hg => rfl); (case hr => first | (go_simp; done) | (go_simp; rfl)); intro gb174 hg w7 hbox hb; have n0_ := A_ (blk_below (pl_ BK172) hb); have n1_ := A_ (blk_below (pl_ BK173) hb); have n2_ := A_ (below_step (bl_ HB) hb); have n3_ := A_ (hbox); have n4_ := A_ ((by rw [hg]; exact (below_size (bl_ HB)) : w.heap.size ≤ gb174)); have n5_ := n4_; have n6_ := A_ ((by rw [hg]; exact Nat.ne_of_lt (blk_lt (pl_ BK172)) : gb172 ≠ gb174)); have n7_ := Aside0.mk n6_.out.symm; have n8_ := A_ ((by rw [hg]; exact Nat.ne_of_lt (blk_lt (pl_ BK173)) : gb173 ≠ gb174)); have n9_ := Aside0.mk n8_.out.symm; clear BK172; clear BK173; clear HB; have BK172 := n0_; have BK173 := n1_; have HB := n2_; have BK174 := n3_; have GW174 := n4_; have GE174 := n5_; have NB172_174 := n6_; have NB174_172 := n7_; have NB173_174 := n8_; have NB174_173 := n9_; clear n0_ n1_ n2_ n3_ n4_ n5_ n6_ n7_ n8_ n9_; clear hb hbox hg))
 (try simp only [Act.put, List.setIfInBounds_toArray, List.set_cons_zero, List.set_cons_succ])
 go_cut [20] (fun v20 wc => ∃ (kq : Nat) (x20_3 : Bool) (x173000_3 : Int) (x173001_3 : Int), v20 = .bool x20_3 ∧ Aside0 (spec_DecodeNear.j0 kq a2 x20_3 x173000_3 x173001_3 l0_2 a1_0 a1_1 a1_2 a1_3 = some (r1, r2, r3)) ∧ Aside0 (kq ≤ k) ∧ Aside0 (wc.heap[gb172]? = some (.cells #[.int .i8 x173000_3, .int .i8 x173001_3, (.slice A0_2 l0_2.length c0_2)] 29 (0, 0))) ∧ Aside0 (wc.heap[gb173]? = some (.cells #[.int .i8 a1_0, .int .i8 a1_1, .int .i8 a1_2, .int .i8 a1_3] 41 (0, 0))) ∧ Aside0 (wc.heap[gb174]? = some (.cells #[.int .i8 0, .bool false] 38 (0, 0))) ∧ Aside0 (Below w.heap.size w wc))
 case first =>
  have H := HC4.out
  clear HC4
  replace H := Option.bind_eq_some_iff.mp H
  obtain ⟨t175, A80, H⟩ := H
  replace H : (if t175 = true then ((spec_l04Word.f k (wrap64 (a0_0)) a1_0 a1_1 a1_2 a1_3).bind fun t176 => (spec_DecodeNear.j0 k a2 (!t176) a0_0 a0_1 l0_2 a1_0 a1_1 a1_2 a1_3)) else (spec_DecodeNear.j0 k a2 true a0_0 a0_1 l0_2 a1_0 a1_1 a1_2 a1_3)) = some (r1, r2, r3) := H
  have A8 := Aside0.mk A80
  clear A80
  by_cases c9 : t175 = true
  ·subst c9
   have H1 : ((spec_l04Word.f k (wrap64 (a0_0)) a1_0 a1_1 a1_2 a1_3).bind fun t176 => (spec_DecodeNear.j0 k a2 (!t176) a0_0 a0_1 l0_2 a1_0 a1_1 a1_2 a1_3)) = some (r1, r2, r3) := by rw [if_pos rfl] at H; exact H
   clear H
   have H := H1
   clear H1
   replace H := Option.bind_eq_some_iff.mp H
   obtain ⟨t176, A100, H⟩ := H
   replace H : (spec_DecodeNear.j0 k a2 (!t176) a0_0 a0_1 l0_2 a1_0 a1_1 a1_2 a1_3) = some (r1, r2, r3) := H
   have A10 := Aside0.mk A100
   clear A100
   have H' := Aside0.mk H
   clear H
   go_wp2_with (first | ((with_reducible refine gate_callee (f := 17) rfl ?_); refine goesL_ (some 11) rfl rfl Try.func17 (by kernel_rfl) rfl #[.pointer (some ⟨gb172, 0, none⟩)] rfl arg_ ?_; (with_reducible refine (spec_l04Ok.calls k gb172 a0_0 a0_1 A0_2 c0_2 l0_2 true _ ?side1 ?side2 ?side3 A8.out).mono ?_); (case side1 => exact (pl_ BK172)); (case side2 => exact Kd.C_below HR0_2.out (bl_ HB)); (case side3 => exact HC0_2.out); rintro e w11 ⟨rfl, hb⟩; refine ⟨_, rfl, ?_⟩; have n0_ := A_ (blk_below (pl_ BK172) hb); have n1_ := A_ (blk_below (pl_ BK173) hb); have n2_ := A_ (blk_below (pl_ BK174) hb); have n3_ := A_ (below_step (bl_ HB) hb); clear BK172; clear BK173; clear BK174; clear HB; have BK172 := n0_; have BK173 := n1_; have BK174 := n2_; have HB := n3_; clear n0_ n1_ n2_ n3_; (try clear hb); (try clear hb2); (try clear hk); (try clear hi); have hnb12 := NB172_173.out; have hnc12 := NB173_172.out; have hnb13 := NB172_174.out; have hnc13 := NB174_172.out; obtain ⟨hcz14_0, hcz14_1, hcz14_2, hfz14_0, hfz14_1, hfz14_2⟩ := cl3_ BK172; have hnb15 := NB173_174.out; have hnc15 := NB174_173.out; obtain ⟨hcz16_0, hcz16_1, hcz16_2, hcz16_3, hfz16_0, hfz16_1, hfz16_2, hfz16_3⟩ := cl4_ BK173) | (go_at_call 28; (with_reducible refine (spec_l04Word.calls k (wrap64 (a0_0)) a1_0 a1_1 a1_2 a1_3 t176 _ A10.out).mono ?_); rintro e w17 ⟨rfl, hb⟩; have n0_ := A_ (blk_below (pl_ BK172) hb); have n1_ := A_ (blk_below (pl_ BK173) hb); have n2_ := A_ (blk_below (pl_ BK174) hb); have n3_ := A_ (below_step (bl_ HB) hb); clear BK172; clear BK173; clear BK174; clear HB; have BK172 := n0_; have BK173 := n1_; have BK174 := n2_; have HB := n3_; clear n0_ n1_ n2_ n3_; (try clear hb); (try clear hb2); (try clear hk); (try clear hi)))
   go_meet
   case rel => exact ⟨_, (!t176), (a0_0), (a0_1), rs_, H', ⟨by first | omega | exact Nat.le_refl _⟩, ⟨pl_ BK172⟩, ⟨pl_ BK173⟩, ⟨pl_ BK174⟩, ⟨bl_ HB⟩⟩
  ·replace c9 := Bool.eq_false_iff.mpr c9
   subst c9
   have H1 : (spec_DecodeNear.j0 k a2 true a0_0 a0_1 l0_2 a1_0 a1_1 a1_2 a1_3) = some (r1, r2, r3) := by rw [if_neg (show ¬ (false = true) by decide)] at H; exact H
   clear H
   have H := H1
   clear H1
   have H' := Aside0.mk H
   clear H
   go_wp2_with (first | ((with_reducible refine gate_callee (f := 17) rfl ?_); refine goesL_ (some 11) rfl rfl Try.func17 (by kernel_rfl) rfl #[.pointer (some ⟨gb172, 0, none⟩)] rfl arg_ ?_; (with_reducible refine (spec_l04Ok.calls k gb172 a0_0 a0_1 A0_2 c0_2 l0_2 false _ ?side1 ?side2 ?side3 A8.out).mono ?_); (case side1 => exact (pl_ BK172)); (case side2 => exact Kd.C_below HR0_2.out (bl_ HB)); (case side3 => exact HC0_2.out); rintro e w18 ⟨rfl, hb⟩; refine ⟨_, rfl, ?_⟩; have n0_ := A_ (blk_below (pl_ BK172) hb); have n1_ := A_ (blk_below (pl_ BK173) hb); have n2_ := A_ (blk_below (pl_ BK174) hb); have n3_ := A_ (below_step (bl_ HB) hb); clear BK172; clear BK173; clear BK174; clear HB; have BK172 := n0_; have BK173 := n1_; have BK174 := n2_; have HB := n3_; clear n0_ n1_ n2_ n3_; (try clear hb); (try clear hb2); (try clear hk); (try clear hi)))
   go_meet
   case rel => exact ⟨_, (true), (a0_0), (a0_1), rs_, H', ⟨by first | omega | exact Nat.le_refl _⟩, ⟨pl_ BK172⟩, ⟨pl_ BK173⟩, ⟨pl_ BK174⟩, ⟨bl_ HB⟩⟩
 case rest =>
  clear HC4
  try clear c1
  try clear p2
  try clear p6
  try clear c9
  try clear c12
  try clear c13
  try clear c15
  try clear c17
  try clear hcz14_0
  try clear hcz14_1
  try clear hcz14_2
  try clear hcz16_0
  try clear hcz16_1
  try clear hcz16_2
  try clear hcz16_3
  try clear hfz14_0
  try clear hfz14_1
  try clear hfz14_2
  try clear hfz16_0
  try clear hfz16_1
  try clear hfz16_2
  try clear hfz16_3
  obtain ⟨kq, x20_3, x173000_3, x173001_3, rfl, HA, HJ3, BK172, BK173, BK174, HB⟩ := hcut
  cases kq with
  | zero => exact absurd HA.out (by simp [spec_DecodeNear.j0])
  | succ kj3 =>
   have H := HA.out
   clear HA
   simp only [spec_DecodeNear.j0] at H
   by_cases c19 : x20_3 = true
   ·subst c19
    have H1 : (some (0, false, 1)) = some (r1, r2, r3) := by rw [if_pos rfl] at H; exact H
    clear H
    have H := H1
    clear H1
    simp only [Option.some.injEq, Prod.mk.injEq] at H
    obtain ⟨rfl, rfl, rfl⟩ := H
    have hnb20 := NB174_172.out
    have hnc20 := NB172_174.out
    have hnb21 := NB174_173.out
    have hnc21 := NB173_174.out
    obtain ⟨hcz22_0, hcz22_1, hfz22_0, hfz22_1⟩ := cl2_ BK174
    go_wp2
    refine bodyPost_ret (results_ct rfl _ _ gb174 38 #[.int .i8 0, .bool false] (0, 0) _ rfl (by (with_reducible repeat (first | refine blk_drewN ?_ _ | refine blk_drew ?_ | refine blk_alloc ?_ _)); refine blk_put (cs := #[.int .i8 0, .bool false]) ?_ 1 _ rfl; (with_reducible repeat (first | refine blk_drewN ?_ _ | refine blk_drew ?_ | refine blk_alloc ?_ _)); refine blk_put (cs := #[.int .i8 0, .bool false]) ?_ 0 _ rfl; (with_reducible repeat (first | refine blk_drewN ?_ _ | refine blk_drew ?_ | refine blk_alloc ?_ _)); exact BK174.out) Try.underlying38 rfl (by kernel_rfl)) rfl ?_
    exact ⟨by first | rfl | (simp [errW_none, errW_some] <;> rfl) | (simp [*, errW_none, errW_some] <;> rfl), bs_ HB GE174⟩
   ·replace c19 := Bool.eq_false_iff.mpr c19
    subst c19
    have H1 : ((spec_l00In.f a2 0 4).bind fun t177 => (if t177 = true then ((spec_l04Cases.f kj3 x173000_3 x173001_3 l0_2).bind fun t178 => (spec_DecodeNear.l0 kj3 a2 t178 (([] : List (S38))) 0 x173000_3 x173001_3 l0_2 a1_0 a1_1 a1_2 a1_3)) else (some (0, false, 2)))) = some (r1, r2, r3) := by rw [if_neg (show ¬ (false = true) by decide)] at H; exact H
    clear H
    have H := H1
    clear H1
    replace H := Option.bind_eq_some_iff.mp H
    obtain ⟨t177, A230, H⟩ := H
    replace H : (if t177 = true then ((spec_l04Cases.f kj3 x173000_3 x173001_3 l0_2).bind fun t178 => (spec_DecodeNear.l0 kj3 a2 t178 (([] : List (S38))) 0 x173000_3 x173001_3 l0_2 a1_0 a1_1 a1_2 a1_3)) else (some (0, false, 2))) = some (r1, r2, r3) := H
    have A23 := Aside0.mk A230
    clear A230
    by_cases c24 : t177 = true
    ·subst c24
     have H1 : ((spec_l04Cases.f kj3 x173000_3 x173001_3 l0_2).bind fun t178 => (spec_DecodeNear.l0 kj3 a2 t178 (([] : List (S38))) 0 x173000_3 x173001_3 l0_2 a1_0 a1_1 a1_2 a1_3)) = some (r1, r2, r3) := by rw [if_pos rfl] at H; exact H
     clear H
     have H := H1
     clear H1
     replace H := Option.bind_eq_some_iff.mp H
     obtain ⟨t178, A250, H⟩ := H
     replace H : (spec_DecodeNear.l0 kj3 a2 t178 (([] : List (S38))) 0 x173000_3 x173001_3 l0_2 a1_0 a1_1 a1_2 a1_3) = some (r1, r2, r3) := H
     have A25 := Aside0.mk A250
     clear A250
     obtain ⟨y181, hy181⟩ : ∃ y_ : List (S38), y_ = (([] : List (S38))) := ⟨_, rfl⟩
     replace H : (spec_DecodeNear.l0 kj3 a2 t178 y181 0 x173000_3 x173001_3 l0_2 a1_0 a1_1 a1_2 a1_3) = some (r1, r2, r3) := by first | (rw [hy181]; with_reducible exact H) | (have H2_ := (Option.bind_some _ _).symm.trans H; rw [hy181]; with_reducible exact H2_) | (have H2_ := (Option.bind_some _ _).symm.trans H; with_reducible exact H2_) | with_reducible exact H | (rw [hy181]; exact H) | exact H
     have Ny181 := Aside0.mk hy181
     clear hy181
     have H' := Aside0.mk H
     clear H
     go_wp2_with (first | ((with_reducible refine gate_callee (f := 18) rfl ?_); refine goesL_ (some 23) rfl rfl Try.func18 (by kernel_rfl) rfl #[.int .i64 a2, .int .i64 0, .int .i64 4] rfl arg_ ?_; (with_reducible refine (spec_l00In.calls a2 0 4 true _ A23.out).mono ?_); rintro e w' ⟨rfl, ⟨nd, rfl⟩⟩; refine ⟨_, rfl, ?_⟩) | ((with_reducible refine gate_callee (f := 29) rfl ?_); refine goesL_ (some 26) rfl rfl Try.func29 (by kernel_rfl) rfl #[.pointer (some ⟨gb172, 0, none⟩)] rfl arg_ ?_; (with_reducible refine (spec_l04Cases.calls kj3 gb172 x173000_3 x173001_3 A0_2 c0_2 l0_2 t178 _ ?side1 ?side2 ?side3 A25.out).mono ?_); (case side1 => exact (pl_ BK172)); (case side2 => repeat (first | exact (Kd.C_below HR0_2.out (bl_ HB)) | (with_reducible refine Kd.C_alloc ?_ _) | (with_reducible refine Kd.C_drewN ?_ _) | (with_reducible refine Kd.C_drew ?_))); (case side3 => exact HC0_2.out); rintro e w26 ⟨v179, rfl, ho0, hb⟩; refine ⟨_, rfl, ?_⟩; have n0_ := A_ (Kd.R_lower (Kd.R_newB ho0 (pl_ BK174)) (below_size (bl_ HB))); have n1_ := A_ (blk_below (pl_ BK172) hb); have n2_ := A_ (blk_below (pl_ BK173) hb); have n3_ := A_ (blk_below (pl_ BK174) hb); have n4_ := A_ (below_step (bl_ HB) hb); clear BK172; clear BK173; clear BK174; clear HB; have HO180 := n0_; have BK172 := n1_; have BK173 := n2_; have BK174 := n3_; have HB := n4_; clear n0_ n1_ n2_ n3_ n4_; (try clear hb); (try clear hb2); (try clear hk); (try clear hi); (try clear ho0)) | ((with_reducible refine gate_dst (N := 27) rfl ?_); refine Kd.R_lit k38 _ 38 ?hg (N := 27) ?hd (xs := ([] : List (S38))) (inner := []) (ok := fun _ => True) (okp := fun _ => True) ?hr ?hp (fun _ hk => hk) trivial (Below.refl _ _) (Nat.le_refl _) (by simp) ?_; (case hd => rfl); (case hg => rfl); (case hr => first | (go_simp; done) | (go_simp; rfl)); (case hp => exact (Reps.none _ _)); intro v182 w27 ho28 hb hg_ hnew_; clear hg_ hnew_; (first | rw [← Ny181.out] at ho28 | (simp only [Int.reduceToNat] at ho28; rw [← Ny181.out] at ho28)); have n0_ := A_ (Kd.R_elder' (pr_ HO180) (Kd.R_base ho28) hb); have n1_ := A_ (Kd.R_lower (Kd.R_newB (Kd.R_new' ho28 (Kd.R_lt (pr_ HO180))) (pl_ BK174)) (below_size (bl_ HB))); have n2_ := A_ (blk_below (pl_ BK172) hb); have n3_ := A_ (blk_below (pl_ BK173) hb); have n4_ := A_ (blk_below (pl_ BK174) hb); have n5_ := A_ (below_step (bl_ HB) hb); clear HO180; clear BK172; clear BK173; clear BK174; clear HB; have HO180 := n0_; have HO183 := n1_; have BK172 := n2_; have BK173 := n3_; have BK174 := n4_; have HB := n5_; clear n0_ n1_ n2_ n3_ n4_ n5_; clear hb ho28))
     go_loopg [9, 10] kj3 (fun kq v9 v10 w' => ∃ (x9_2 : List (S38)) (x10_2 : Int) (x173000_2 : Int) (x173001_2 : Int), v10 = .int .i64 x10_2 ∧ Aside0 (spec_DecodeNear.l0 kq a2 t178 x9_2 x10_2 x173000_2 x173001_2 l0_2 a1_0 a1_1 a1_2 a1_3 = some (r1, r2, r3)) ∧ Aside0 (kq ≤ kj3) ∧ Aside0 (Kd.R k38 38 w' w.heap.size (fun k_ => some k_ ≠ (v9 : Value).ownBlock ∧ k_ ≠ gb174) v179 t178) ∧ Aside0 (Kd.R k38 38 w' w.heap.size (fun k_ => some k_ ≠ (v179 : Value).ownBlock ∧ k_ ≠ gb174) v9 x9_2) ∧ Aside0 (w'.heap[gb172]? = some (.cells #[.int .i8 x173000_2, .int .i8 x173001_2, (.slice A0_2 l0_2.length c0_2)] 29 (0, 0))) ∧ Aside0 (w'.heap[gb173]? = some (.cells #[.int .i8 a1_0, .int .i8 a1_1, .int .i8 a1_2, .int .i8 a1_3] 41 (0, 0))) ∧ Aside0 (w'.heap[gb174]? = some (.cells #[.int .i8 0, .bool false] 38 (0, 0))) ∧ Aside0 (Below w.heap.size w w'))
     case atStart => exact ⟨(y181), (0), (x173000_3), (x173001_3), rs_, H', ⟨Nat.le_refl _⟩, ⟨by (with_reducible repeat (first | apply Kd.R_alloc | apply Kd.R_drewN | apply Kd.R_drew)); exact Kd.R_mono HO180.out (fun _ hk => ⟨hk.2, hk.1.2⟩)⟩, ⟨by (with_reducible repeat (first | apply Kd.R_alloc | apply Kd.R_drewN | apply Kd.R_drew)); exact Kd.R_mono HO183.out (fun _ hk => ⟨hk.1.2, hk.2⟩)⟩, ⟨pl_ BK172⟩, ⟨pl_ BK173⟩, ⟨pl_ BK174⟩, ⟨bl_ HB⟩⟩
     case round =>
      clear H'
      try clear c1
      try clear c2
      try clear p2
      try clear p6
      try clear c9
      try clear c12
      try clear c13
      try clear c15
      try clear c17
      try clear c18
      try clear c19
      try clear c20
      try clear c21
      try clear c24
      try clear hcz14_0
      try clear hcz14_1
      try clear hcz14_2
      try clear hcz16_0
      try clear hcz16_1
      try clear hcz16_2
      try clear hcz16_3
      try clear hcz22_0
      try clear hcz22_1
      try clear hfz14_0
      try clear hfz14_1
      try clear hfz14_2
      try clear hfz16_0
      try clear hfz16_1
      try clear hfz16_2
      try clear hfz16_3
      try clear hfz22_0
      try clear hfz22_1
      try clear p2
      try clear p6
      obtain ⟨x9_2, x10_2, x173000_2, x173001_2, rfl, HA, HK2, HO_8, HO_9, BK172, BK173, BK174, HB⟩ := hrel
      cases gk with
      | zero => exact absurd HA.out (by simp [spec_DecodeNear.l0])
      | succ k2 =>
       have H := HA.out
       clear HA
       simp only [spec_DecodeNear.l0] at H
       by_cases c29 : x10_2 < (t178.length : Int)
       ·rw [if_pos c29] at H
        have c29b0 : decide (x10_2 < (t178.length : Int)) = true := decide_eq_true c29
        clear c29
        by_cases c30 : 0 ≤ x10_2
        ·rw [if_pos c30] at H
         have c30b0 : decide (0 ≤ x10_2) = true := decide_eq_true c30
         clear c30
         replace H := Option.bind_eq_some_iff.mp H
         obtain ⟨⟨t185, t186, t187, t188⟩, A310, H⟩ := H
         replace H : ((spec_l04Distance.f k2 t185 t186 t187 t188 a1_0 a1_1 a1_2 a1_3).bind fun t189 => (if t189 ≤ a2 then (if x9_2.length < 70368744177664 then (spec_DecodeNear.l0 k2 a2 t178 (x9_2 ++ [(⟨(rd_T38 t178 x10_2).f0, (rd_T38 t178 x10_2).f1⟩ : S38)]) (wrap64 (x10_2 + 1)) x173000_2 x173001_2 l0_2 a1_0 a1_1 a1_2 a1_3) else (none)) else (spec_DecodeNear.l0 k2 a2 t178 x9_2 (wrap64 (x10_2 + 1)) x173000_2 x173001_2 l0_2 a1_0 a1_1 a1_2 a1_3))) = some (r1, r2, r3) := H
         have A31 := Aside0.mk A310
         clear A310
         replace H := Option.bind_eq_some_iff.mp H
         obtain ⟨t189, A320, H⟩ := H
         replace H : (if t189 ≤ a2 then (if x9_2.length < 70368744177664 then (spec_DecodeNear.l0 k2 a2 t178 (x9_2 ++ [(⟨(rd_T38 t178 x10_2).f0, (rd_T38 t178 x10_2).f1⟩ : S38)]) (wrap64 (x10_2 + 1)) x173000_2 x173001_2 l0_2 a1_0 a1_1 a1_2 a1_3) else (none)) else (spec_DecodeNear.l0 k2 a2 t178 x9_2 (wrap64 (x10_2 + 1)) x173000_2 x173001_2 l0_2 a1_0 a1_1 a1_2 a1_3)) = some (r1, r2, r3) := H
         have A32 := Aside0.mk A320
         clear A320
         by_cases c33 : t189 ≤ a2
         ·rw [if_pos c33] at H
          have c33b0 : decide (t189 ≤ a2) = true := decide_eq_true c33
          clear c33
          by_cases c34 : x9_2.length < 70368744177664
          ·rw [if_pos c34] at H
           have LMc34 := Aside0.mk c34
           clear c34
           obtain ⟨y191, hy191⟩ : ∃ y_ : List (S38), y_ = (x9_2 ++ [(⟨(rd_T38 t178 x10_2).f0, (rd_T38 t178 x10_2).f1⟩ : S38)]) := ⟨_, rfl⟩
           replace H : (spec_DecodeNear.l0 k2 a2 t178 y191 (wrap64 (x10_2 + 1)) x173000_2 x173001_2 l0_2 a1_0 a1_1 a1_2 a1_3) = some (r1, r2, r3) := by first | (rw [hy191]; with_reducible exact H) | (have H2_ := (Option.bind_some _ _).symm.trans H; rw [hy191]; with_reducible exact H2_) | (have H2_ := (Option.bind_some _ _).symm.trans H; with_reducible exact H2_) | with_reducible exact H | (rw [hy191]; exact H) | exact H
           have Ny191 := Aside0.mk hy191
           clear hy191
           have H' := Aside0.mk H
           clear H
           obtain ⟨Ao35, co35, eo35⟩ := Kd.R_slice HO_8.out
           subst eo35
           try go_wp2
           have n0_ := A_ (Kd.R_drew HO_8.out)
           have n1_ := A_ (Kd.R_drew HO_9.out)
           have n2_ := A_ (blk_drew BK172.out)
           have n3_ := A_ (blk_drew BK173.out)
           have n4_ := A_ (blk_drew BK174.out)
           have n5_ := A_ (below_drew1 HB.out)
           clear HO_8
           clear HO_9
           clear BK172
           clear BK173
           clear BK174
           clear HB
           have HO_8 := n0_
           have HO_9 := n1_
           have BK172 := n2_
           have BK173 := n3_
           have BK174 := n4_
           have HB := n5_
           clear n0_ n1_ n2_ n3_ n4_ n5_
           have p184 : 0 ≤ (x10_2 : Int) := asm_
           have q184 : x10_2 < (t178.length : Int) := asm_
           obtain ⟨ad184, e184, hx184_0, hx184_1⟩ := at_T38 (Kd.R_reads' HO_8.out).2.2 x10_2 p184 q184
           cases e184
           replace p184 := eq_true p184
           replace q184 := eq_true q184
           refine start_ (n := 9) (S := fun w' => w'.cell? ⟨gb173, 0, none⟩ = some (.int .i8 a1_0) ∧ w'.cell? ⟨gb173, 1, none⟩ = some (.int .i8 a1_1) ∧ w'.cell? ⟨gb173, 2, none⟩ = some (.int .i8 a1_2) ∧ w'.cell? ⟨gb173, 3, none⟩ = some (.int .i8 a1_3) ∧ w'.cell? (ad184.add ((x10_2).toNat * 2)) = some (.int .i8 ((rd_T38 t178 x10_2).f0)) ∧ w'.cell? ⟨(ad184.add ((x10_2).toNat * 2)).block, (ad184.add ((x10_2).toNat * 2)).off + 1, none⟩ = some (.bool ((rd_T38 t178 x10_2).f1))) (ds := []) #[false, false, false, false, false, false, false, false, false] (by kernel_rfl) rfl rfl ⟨(blk_cell BK173.out 0).trans rfl, (blk_cell BK173.out 1).trans rfl, (blk_cell BK173.out 2).trans rfl, (blk_cell BK173.out 3).trans rfl, hx184_0, hx184_1⟩ (fun hHeld => ?_); refine with_tabW spec_DecodeNear.tab10 spec_DecodeNear.bits10 (fun HT_ HW_ => ?_)
           generalize wr.drew = w36 at HO_8 HO_9 BK172 BK173 BK174 HB hx184_0 hx184_1 hHeld ⊢
           refine pure_ (i := 0) (N := some 34) (v := ?_) (a' := ?_) #[true, false, false, false, false, false, false, false, false] rfl rfl (any_of HT_.out (by kernel_rfl)) (fun _ _ _ h => h) (Or.inl ⟨by rfl, ?_⟩) ?_ ?_
           rotate_left
           ·intro w'
            go_simp
            with_reducible rfl
           rotate_left
           ·simp only [Act.put, sp_]
            rfl
           refine pure_ (i := 1) (N := some 35) (v := ?_) (a' := ?_) #[true, true, false, false, false, false, false, false, false] rfl rfl (any_of HT_.out (by kernel_rfl)) (fun _ _ _ h => h) (Or.inl ⟨by rfl, ?_⟩) ?_ ?_
           rotate_left
           ·intro w'
            go_simp
            with_reducible rfl
           rotate_left
           ·simp only [Act.put, sp_]
            rfl
           refine pure_ (i := 2) (N := some 36) (v := ?_) (a' := ?_) #[true, true, true, false, false, false, false, false, false] rfl rfl (any_of HT_.out (by kernel_rfl)) (fun _ _ _ h => h) (Or.inl ⟨by rfl, ?_⟩) ?_ ?_
           rotate_left
           ·intro w'
            go_simp
            with_reducible rfl
           rotate_left
           ·simp only [Act.put, sp_]
            rfl
           refine pure_ (i := 7) (N := some 41) (v := ?_) (a' := ?_) #[true, true, true, false, false, false, false, true, false] rfl rfl (any_of HT_.out (by kernel_rfl)) (fun _ _ _ h => h) (Or.inl ⟨by rfl, ?_⟩) ?_ ?_
           rotate_left
           ·intro w'
            go_simp
            with_reducible rfl
           rotate_left
           ·simp only [Act.put, sp_]
            rfl
           refine take_ (i := 3) (N := some 37) (v := ?_) (a' := ?_) #[true, true, true, true, false, false, false, true, false] rfl rfl (take_ofW HT_.out HW_.out (by kernel_rfl)) (fun _ _ _ h => h) (Or.inl ⟨by rfl, ?_⟩) hHeld ?_ ?_
           rotate_left
           ·rintro w' ⟨s0, s1, s2, s3, s4, s5⟩
            go_simp
            with_reducible rfl
           rotate_left
           ·simp only [Act.put, sp_]
            rfl
           refine take_ (i := 5) (N := some 39) (v := ?_) (a' := ?_) #[true, true, true, true, false, true, false, true, false] rfl rfl (take_ofW HT_.out HW_.out (by kernel_rfl)) (fun _ _ _ h => h) (Or.inl ⟨by rfl, ?_⟩) hHeld ?_ ?_
           rotate_left
           ·rintro w' ⟨s0, s1, s2, s3, s4, s5⟩
            go_simp
            with_reducible rfl
           rotate_left
           ·simp only [Act.put, sp_]
            rfl
           refine one_ (i := 4) (N := some 38) #[true, true, true, true, true, true, false, true, false] rfl rfl (one_of HT_.out (by kernel_rfl)) (by decide) (fun K hK => ?_)
           refine goes_ Try.func31 (by kernel_rfl) rfl #[.pointer (some ⟨gb172, 0, none⟩), .agg #[.int .i8 ((rd_T38 t178 x10_2).f0), .bool ((rd_T38 t178 x10_2).f1)]] (by rfl) rfl rfl arg_ ?_
           with_reducible refine (spec_l04Seen.calls k2 gb172 x173000_2 x173001_2 A0_2 c0_2 l0_2 ((rd_T38 t178 x10_2).f0) ((rd_T38 t178 x10_2).f1) t185 t186 t187 t188 _ ?side1 ?side2 ?side3 A31.out).mono ?_
           (case side1 => exact (pl_ BK172))
           (case side2 => exact Kd.C_below HR0_2.out (bl_ HB))
           (case side3 => exact HC0_2.out)
           rintro e w37 ⟨rfl, hb⟩
           have HS4_ := (hb.cell (World.block_lt_of_cell? _ _ (hHeld.2.2.2.2.1))).trans (hHeld.2.2.2.2.1)
           have HS5_ := (hb.cell (World.block_lt_of_cell? _ _ (hHeld.2.2.2.2.2))).trans (hHeld.2.2.2.2.2)
           refine ⟨_, rfl, ?_⟩
           have n0_ := A_ (Kd.R_below (pr_ HO_8) hb)
           have n1_ := A_ (Kd.R_below (pr_ HO_9) hb)
           have n2_ := A_ (blk_below (pl_ BK172) hb)
           have n3_ := A_ (blk_below (pl_ BK173) hb)
           have n4_ := A_ (blk_below (pl_ BK174) hb)
           have n5_ := A_ (below_step (bl_ HB) hb)
           clear HO_8
           clear HO_9
           clear BK172
           clear BK173
           clear BK174
           clear HB
           have HO_8 := n0_
           have HO_9 := n1_
           have BK172 := n2_
           have BK173 := n3_
           have BK174 := n4_
           have HB := n5_
           clear n0_ n1_ n2_ n3_ n4_ n5_
           (try clear hb)
           (try clear hb2)
           (try clear hk)
           (try clear hi)
           refine hK.out _ _ ⟨(blk_cell BK173.out 0).trans rfl, (blk_cell BK173.out 1).trans rfl, (blk_cell BK173.out 2).trans rfl, (blk_cell BK173.out 3).trans rfl, HS4_, HS5_⟩ (fun hHeld => ?_)
           clear hK K
           refine norm_ (a' := ?_) ?_ ?_
           rotate_left
           ·show Act.put _ (some 38) _ = _
            simp only [Act.put, sp_]
            rfl
           refine one_ (i := 6) (N := some 40) #[true, true, true, true, true, true, true, true, false] rfl rfl (one_of HT_.out (by kernel_rfl)) (by decide) (fun K hK => ?_)
           refine goes_ Try.func30 (by kernel_rfl) rfl #[.agg #[.int .i8 t185, .int .i8 t186, .int .i8 t187, .int .i8 t188], .agg #[.int .i8 a1_0, .int .i8 a1_1, .int .i8 a1_2, .int .i8 a1_3]] (by rfl) rfl rfl arg_ ?_
           with_reducible refine (spec_l04Distance.calls k2 t185 t186 t187 t188 a1_0 a1_1 a1_2 a1_3 t189 _ A32.out).mono ?_
           rintro e w38 ⟨rfl, hb⟩
           have HS4_ := (hb.cell (World.block_lt_of_cell? _ _ (hHeld.2.2.2.2.1))).trans (hHeld.2.2.2.2.1)
           have HS5_ := (hb.cell (World.block_lt_of_cell? _ _ (hHeld.2.2.2.2.2))).trans (hHeld.2.2.2.2.2)
           refine ⟨_, rfl, ?_⟩
           have n0_ := A_ (Kd.R_below (pr_ HO_8) hb)
           have n1_ := A_ (Kd.R_below (pr_ HO_9) hb)
           have n2_ := A_ (blk_below (pl_ BK172) hb)
           have n3_ := A_ (blk_below (pl_ BK173) hb)
           have n4_ := A_ (blk_below (pl_ BK174) hb)
           have n5_ := A_ (below_step (bl_ HB) hb)
           clear HO_8
           clear HO_9
           clear BK172
           clear BK173
           clear BK174
           clear HB
           have HO_8 := n0_
           have HO_9 := n1_
           have BK172 := n2_
           have BK173 := n3_
           have BK174 := n4_
           have HB := n5_
           clear n0_ n1_ n2_ n3_ n4_ n5_
           (try clear hb)
           (try clear hb2)
           (try clear hk)
           (try clear hi)
           refine hK.out _ _ ⟨(blk_cell BK173.out 0).trans rfl, (blk_cell BK173.out 1).trans rfl, (blk_cell BK173.out 2).trans rfl, (blk_cell BK173.out 3).trans rfl, HS4_, HS5_⟩ (fun hHeld => ?_)
           clear hK K
           refine norm_ (a' := ?_) ?_ ?_
           rotate_left
           ·show Act.put _ (some 40) _ = _
            simp only [Act.put, sp_]
            rfl
           refine pure_ (i := 8) (N := some 42) (v := ?_) (a' := ?_) #[true, true, true, true, true, true, true, true, true] rfl rfl (any_of HT_.out (by kernel_rfl)) (fun _ _ _ h => h) (Or.inl ⟨by rfl, ?_⟩) ?_ ?_
           rotate_left
           ·intro w'
            go_simp
            with_reducible rfl
           rotate_left
           ·simp only [Act.put, sp_]
            rfl
           refine done_ (done_of HT_.out (by kernel_rfl)) ?_
           have p190 : 0 ≤ (x10_2 : Int) := asm_
           have q190 : x10_2 < (t178.length : Int) := asm_
           obtain ⟨ad190, e190, hx190_0, hx190_1⟩ := at_T38 (Kd.R_reads' HO_8.out).2.2 x10_2 p190 q190
           obtain rfl : ad184 = ad190 := (by injection e190)
           replace p190 := eq_true p190
           replace q190 := eq_true q190
           try go_wp2_with (first | ((with_reducible refine gate_builtin (b := .append) (xs := #[.tmp 43, .tmp 48]) rfl ?_); at_builtin; refine Kd.R_append k38 (w0 := w) w.heap.size rfl (.tmp 43) (.tmp 48) 57 38 (.agg #[(.int .i8 0), (.bool false)]) 2 rfl Try.underlying57 info38 rfl (by decide) (by omega) u9 x9_2 (⟨(rd_T38 t178 x10_2).f0, (rd_T38 t178 x10_2).f1⟩ : S38) [.int .i8 ((rd_T38 t178 x10_2).f0), .bool ((rd_T38 t178 x10_2).f1)] (fun k_ => some k_ ≠ (.slice (some ad184) t178.length co35 : Value).ownBlock ∧ k_ ≠ gb174) (fun _ => False) rfl rfl ?aP (fun _ hk => hk.elim) ?aF ?aO ?aB ?aS ?aL ?_; (case aP => exact k38_mkM _ _ _ (⟨(rd_T38 t178 x10_2).f0, (rd_T38 t178 x10_2).f1⟩ : S38)); (case aB => exact (bl_ HB)); (case aF => exact (fun k_ hk => ⟨Kd.fresh' (Kd.R_lt (pr_ HO_8)) k_ hk, Kd.freshB (pl_ BK174) k_ hk⟩)); (case aO => exact (pr_ HO_9)); (case aS => exact (below_size (bl_ HB))); (case aL => have := LMc34.out; omega); intro v192 w39 ho hb hg hat; rw [← Ny191.out] at ho; have n0_ := A_ (Kd.R_after (ok := (fun k_ => k_ ≠ gb174)) (by (with_reducible repeat (first | apply Kd.R_alloc | apply Kd.R_drewN | apply Kd.R_drew)); exact Kd.R_mono HO_8.out (fun _ hk => ⟨hk.2, hk.1⟩)) hg hat); have n1_ := A_ (blk_grown (pl_ BK172) hg (Kd.R_ne HO_9.out BK172.out (by decide))); have n2_ := A_ (blk_grown (pl_ BK173) hg (Kd.R_ne HO_9.out BK173.out (by decide))); have n3_ := A_ (blk_grown (pl_ BK174) hg (Kd.R_away HO_9.out (fun _ hk => hk.2))); have n4_ := A_ (hb); have n5_ := A_ (ho); clear HO_8; clear BK172; clear BK173; clear BK174; clear HB; clear HO_9; have HO_8 := n0_; have BK172 := n1_; have BK173 := n2_; have BK174 := n3_; have HB := n4_; have HO193 := n5_; clear n0_ n1_ n2_ n3_ n4_ n5_; clear ho hb hg hat))
           go_roundg k2
           case measure => have := HJ3.out; have := HK2.out; omega
           case rel => exact ⟨(y191), (wrap64 (x10_2 + 1)), (x173000_2), (x173001_2), rs_, H', ⟨by have := HJ3.out; have := HK2.out; omega⟩, ⟨by (with_reducible repeat (first | apply Kd.R_alloc | apply Kd.R_drewN | apply Kd.R_drew)); exact Kd.R_mono HO_8.out (fun _ hk => ⟨hk.2, hk.1⟩)⟩, ⟨pr_ HO193⟩, ⟨pl_ BK172⟩, ⟨pl_ BK173⟩, ⟨pl_ BK174⟩, ⟨bl_ HB⟩⟩
          ·rw [if_neg c34] at H
           exact absurd H (by simp)
         ·rw [if_neg c33] at H
          have c33b0 : decide (t189 ≤ a2) = false := decide_eq_false c33
          clear c33
          have H' := Aside0.mk H
          clear H
          obtain ⟨Ao40, co40, eo40⟩ := Kd.R_slice HO_8.out
          subst eo40
          try go_wp2
          have n0_ := A_ (Kd.R_drew HO_8.out)
          have n1_ := A_ (Kd.R_drew HO_9.out)
          have n2_ := A_ (blk_drew BK172.out)
          have n3_ := A_ (blk_drew BK173.out)
          have n4_ := A_ (blk_drew BK174.out)
          have n5_ := A_ (below_drew1 HB.out)
          clear HO_8
          clear HO_9
          clear BK172
          clear BK173
          clear BK174
          clear HB
          have HO_8 := n0_
          have HO_9 := n1_
          have BK172 := n2_
          have BK173 := n3_
          have BK174 := n4_
          have HB := n5_
          clear n0_ n1_ n2_ n3_ n4_ n5_
          have p184 : 0 ≤ (x10_2 : Int) := asm_
          have q184 : x10_2 < (t178.length : Int) := asm_
          obtain ⟨ad184, e184, hx184_0, hx184_1⟩ := at_T38 (Kd.R_reads' HO_8.out).2.2 x10_2 p184 q184
          cases e184
          replace p184 := eq_true p184
          replace q184 := eq_true q184
          refine start_ (n := 9) (S := fun w' => w'.cell? ⟨gb173, 0, none⟩ = some (.int .i8 a1_0) ∧ w'.cell? ⟨gb173, 1, none⟩ = some (.int .i8 a1_1) ∧ w'.cell? ⟨gb173, 2, none⟩ = some (.int .i8 a1_2) ∧ w'.cell? ⟨gb173, 3, none⟩ = some (.int .i8 a1_3) ∧ w'.cell? (ad184.add ((x10_2).toNat * 2)) = some (.int .i8 ((rd_T38 t178 x10_2).f0)) ∧ w'.cell? ⟨(ad184.add ((x10_2).toNat * 2)).block, (ad184.add ((x10_2).toNat * 2)).off + 1, none⟩ = some (.bool ((rd_T38 t178 x10_2).f1))) (ds := []) #[false, false, false, false, false, false, false, false, false] (by kernel_rfl) rfl rfl ⟨(blk_cell BK173.out 0).trans rfl, (blk_cell BK173.out 1).trans rfl, (blk_cell BK173.out 2).trans rfl, (blk_cell BK173.out 3).trans rfl, hx184_0, hx184_1⟩ (fun hHeld => ?_); refine with_tabW spec_DecodeNear.tab10 spec_DecodeNear.bits10 (fun HT_ HW_ => ?_)
          generalize wr.drew = w41 at HO_8 HO_9 BK172 BK173 BK174 HB hx184_0 hx184_1 hHeld ⊢
          refine pure_ (i := 0) (N := some 34) (v := ?_) (a' := ?_) #[true, false, false, false, false, false, false, false, false] rfl rfl (any_of HT_.out (by kernel_rfl)) (fun _ _ _ h => h) (Or.inl ⟨by rfl, ?_⟩) ?_ ?_
          rotate_left
          ·intro w'
           go_simp
           with_reducible rfl
          rotate_left
          ·simp only [Act.put, sp_]
           rfl
          refine pure_ (i := 1) (N := some 35) (v := ?_) (a' := ?_) #[true, true, false, false, false, false, false, false, false] rfl rfl (any_of HT_.out (by kernel_rfl)) (fun _ _ _ h => h) (Or.inl ⟨by rfl, ?_⟩) ?_ ?_
          rotate_left
          ·intro w'
           go_simp
           with_reducible rfl
          rotate_left
          ·simp only [Act.put, sp_]
           rfl
          refine pure_ (i := 2) (N := some 36) (v := ?_) (a' := ?_) #[true, true, true, false, false, false, false, false, false] rfl rfl (any_of HT_.out (by kernel_rfl)) (fun _ _ _ h => h) (Or.inl ⟨by rfl, ?_⟩) ?_ ?_
          rotate_left
          ·intro w'
           go_simp
           with_reducible rfl
          rotate_left
          ·simp only [Act.put, sp_]
           rfl
          refine pure_ (i := 7) (N := some 41) (v := ?_) (a' := ?_) #[true, true, true, false, false, false, false, true, false] rfl rfl (any_of HT_.out (by kernel_rfl)) (fun _ _ _ h => h) (Or.inl ⟨by rfl, ?_⟩) ?_ ?_
          rotate_left
          ·intro w'
           go_simp
           with_reducible rfl
          rotate_left
          ·simp only [Act.put, sp_]
           rfl
          refine take_ (i := 3) (N := some 37) (v := ?_) (a' := ?_) #[true, true, true, true, false, false, false, true, false] rfl rfl (take_ofW HT_.out HW_.out (by kernel_rfl)) (fun _ _ _ h => h) (Or.inl ⟨by rfl, ?_⟩) hHeld ?_ ?_
          rotate_left
          ·rintro w' ⟨s0, s1, s2, s3, s4, s5⟩
           go_simp
           with_reducible rfl
          rotate_left
          ·simp only [Act.put, sp_]
           rfl
          refine take_ (i := 5) (N := some 39) (v := ?_) (a' := ?_) #[true, true, true, true, false, true, false, true, false] rfl rfl (take_ofW HT_.out HW_.out (by kernel_rfl)) (fun _ _ _ h => h) (Or.inl ⟨by rfl, ?_⟩) hHeld ?_ ?_
          rotate_left
          ·rintro w' ⟨s0, s1, s2, s3, s4, s5⟩
           go_simp
           with_reducible rfl
          rotate_left
          ·simp only [Act.put, sp_]
           rfl
          refine one_ (i := 4) (N := some 38) #[true, true, true, true, true, true, false, true, false] rfl rfl (one_of HT_.out (by kernel_rfl)) (by decide) (fun K hK => ?_)
          refine goes_ Try.func31 (by kernel_rfl) rfl #[.pointer (some ⟨gb172, 0, none⟩), .agg #[.int .i8 ((rd_T38 t178 x10_2).f0), .bool ((rd_T38 t178 x10_2).f1)]] (by rfl) rfl rfl arg_ ?_
          with_reducible refine (spec_l04Seen.calls k2 gb172 x173000_2 x173001_2 A0_2 c0_2 l0_2 ((rd_T38 t178 x10_2).f0) ((rd_T38 t178 x10_2).f1) t185 t186 t187 t188 _ ?side1 ?side2 ?side3 A31.out).mono ?_
          (case side1 => exact (pl_ BK172))
          (case side2 => exact Kd.C_below HR0_2.out (bl_ HB))
          (case side3 => exact HC0_2.out)
          rintro e w42 ⟨rfl, hb⟩
          have HS4_ := (hb.cell (World.block_lt_of_cell? _ _ (hHeld.2.2.2.2.1))).trans (hHeld.2.2.2.2.1)
          have HS5_ := (hb.cell (World.block_lt_of_cell? _ _ (hHeld.2.2.2.2.2))).trans (hHeld.2.2.2.2.2)
          refine ⟨_, rfl, ?_⟩
          have n0_ := A_ (Kd.R_below (pr_ HO_8) hb)
          have n1_ := A_ (Kd.R_below (pr_ HO_9) hb)
          have n2_ := A_ (blk_below (pl_ BK172) hb)
          have n3_ := A_ (blk_below (pl_ BK173) hb)
          have n4_ := A_ (blk_below (pl_ BK174) hb)
          have n5_ := A_ (below_step (bl_ HB) hb)
          clear HO_8
          clear HO_9
          clear BK172
          clear BK173
          clear BK174
          clear HB
          have HO_8 := n0_
          have HO_9 := n1_
          have BK172 := n2_
          have BK173 := n3_
          have BK174 := n4_
          have HB := n5_
          clear n0_ n1_ n2_ n3_ n4_ n5_
          (try clear hb)
          (try clear hb2)
          (try clear hk)
          (try clear hi)
          refine hK.out _ _ ⟨(blk_cell BK173.out 0).trans rfl, (blk_cell BK173.out 1).trans rfl, (blk_cell BK173.out 2).trans rfl, (blk_cell BK173.out 3).trans rfl, HS4_, HS5_⟩ (fun hHeld => ?_)
          clear hK K
          refine norm_ (a' := ?_) ?_ ?_
          rotate_left
          ·show Act.put _ (some 38) _ = _
           simp only [Act.put, sp_]
           rfl
          refine one_ (i := 6) (N := some 40) #[true, true, true, true, true, true, true, true, false] rfl rfl (one_of HT_.out (by kernel_rfl)) (by decide) (fun K hK => ?_)
          refine goes_ Try.func30 (by kernel_rfl) rfl #[.agg #[.int .i8 t185, .int .i8 t186, .int .i8 t187, .int .i8 t188], .agg #[.int .i8 a1_0, .int .i8 a1_1, .int .i8 a1_2, .int .i8 a1_3]] (by rfl) rfl rfl arg_ ?_
          with_reducible refine (spec_l04Distance.calls k2 t185 t186 t187 t188 a1_0 a1_1 a1_2 a1_3 t189 _ A32.out).mono ?_
          rintro e w43 ⟨rfl, hb⟩
          have HS4_ := (hb.cell (World.block_lt_of_cell? _ _ (hHeld.2.2.2.2.1))).trans (hHeld.2.2.2.2.1)
          have HS5_ := (hb.cell (World.block_lt_of_cell? _ _ (hHeld.2.2.2.2.2))).trans (hHeld.2.2.2.2.2)
          refine ⟨_, rfl, ?_⟩
          have n0_ := A_ (Kd.R_below (pr_ HO_8) hb)
          have n1_ := A_ (Kd.R_below (pr_ HO_9) hb)
          have n2_ := A_ (blk_below (pl_ BK172) hb)
          have n3_ := A_ (blk_below (pl_ BK173) hb)
          have n4_ := A_ (blk_below (pl_ BK174) hb)
          have n5_ := A_ (below_step (bl_ HB) hb)
          clear HO_8
          clear HO_9
          clear BK172
          clear BK173
          clear BK174
          clear HB
          have HO_8 := n0_
          have HO_9 := n1_
          have BK172 := n2_
          have BK173 := n3_
          have BK174 := n4_
          have HB := n5_
          clear n0_ n1_ n2_ n3_ n4_ n5_
          (try clear hb)
          (try clear hb2)
          (try clear hk)
          (try clear hi)
          refine hK.out _ _ ⟨(blk_cell BK173.out 0).trans rfl, (blk_cell BK173.out 1).trans rfl, (blk_cell BK173.out 2).trans rfl, (blk_cell BK173.out 3).trans rfl, HS4_, HS5_⟩ (fun hHeld => ?_)
          clear hK K
          refine norm_ (a' := ?_) ?_ ?_
          rotate_left
          ·show Act.put _ (some 40) _ = _
           simp only [Act.put, sp_]
           rfl
          refine pure_ (i := 8) (N := some 42) (v := ?_) (a' := ?_) #[true, true, true, true, true, true, true, true, true] rfl rfl (any_of HT_.out (by kernel_rfl)) (fun _ _ _ h => h) (Or.inl ⟨by rfl, ?_⟩) ?_ ?_
          rotate_left
          ·intro w'
           go_simp
           with_reducible rfl
          rotate_left
          ·simp only [Act.put, sp_]
           rfl
          refine done_ (done_of HT_.out (by kernel_rfl)) ?_
          try go_wp2
          go_roundg k2
          case measure => have := HJ3.out; have := HK2.out; omega
          case rel => exact ⟨(x9_2), (wrap64 (x10_2 + 1)), (x173000_2), (x173001_2), rs_, H', ⟨by have := HJ3.out; have := HK2.out; omega⟩, ⟨pr_ HO_8⟩, ⟨pr_ HO_9⟩, ⟨pl_ BK172⟩, ⟨pl_ BK173⟩, ⟨pl_ BK174⟩, ⟨bl_ HB⟩⟩
        ·rw [if_neg c30] at H
         exact absurd H (by simp)
       ·rw [if_neg c29] at H
        have c29b0 : decide (x10_2 < (t178.length : Int)) = false := decide_eq_false c29
        clear c29
        by_cases c44 : (x9_2.length : Int) = 0
        ·rw [if_pos c44] at H
         have c44b0 : ((x9_2.length : Int) == 0) = true := beq_iff_eq.mpr c44
         have c44b1 : ((x9_2.length : Int) != 0) = false := bne_eq_false_iff_eq.mpr c44
         clear c44
         simp only [Option.some.injEq, Prod.mk.injEq] at H
         obtain ⟨rfl, rfl, rfl⟩ := H
         obtain ⟨Ao45, co45, eo45⟩ := Kd.R_slice HO_8.out
         subst eo45
         obtain ⟨Ao46, co46, eo46⟩ := Kd.R_slice HO_9.out
         subst eo46
         have hnb47 := NB174_172.out
         have hnc47 := NB172_174.out
         have hnb48 := NB174_173.out
         have hnc48 := NB173_174.out
         obtain ⟨hcz49_0, hcz49_1, hfz49_0, hfz49_1⟩ := cl2_ BK174
         go_wp2
         refine bodyPost_ret (results_ct rfl _ _ gb174 38 #[.int .i8 0, .bool false] (0, 0) _ rfl (by (with_reducible repeat (first | refine blk_drewN ?_ _ | refine blk_drew ?_ | refine blk_alloc ?_ _)); refine blk_put (cs := #[.int .i8 0, .bool false]) ?_ 1 _ rfl; (with_reducible repeat (first | refine blk_drewN ?_ _ | refine blk_drew ?_ | refine blk_alloc ?_ _)); refine blk_put (cs := #[.int .i8 0, .bool false]) ?_ 0 _ rfl; (with_reducible repeat (first | refine blk_drewN ?_ _ | refine blk_drew ?_ | refine blk_alloc ?_ _)); exact BK174.out) Try.underlying38 rfl (by kernel_rfl)) rfl ?_
         exact ⟨by first | rfl | (simp [errW_none, errW_some] <;> rfl) | (simp [*, errW_none, errW_some] <;> rfl), bs_ HB GE174⟩
        ·rw [if_neg c44] at H
         have c44b0 : ((x9_2.length : Int) == 0) = false := beq_eq_false_iff_ne.mpr c44
         have c44b1 : ((x9_2.length : Int) != 0) = true := bne_iff_ne.mpr c44
         have c44b2 : ¬ (x9_2 = []) := fun h_ => c44 (by rw [h_]; rfl)
         by_cases c50 : (x9_2.length : Int) > 1
         ·rw [if_pos c50] at H
          have c50b0 : decide (1 < (x9_2.length : Int)) = true := decide_eq_true c50
          have c50b1 : decide (1 < x9_2.length) = true := decide_eq_true (by omega)
          clear c50
          simp only [Option.some.injEq, Prod.mk.injEq] at H
          obtain ⟨rfl, rfl, rfl⟩ := H
          obtain ⟨Ao51, co51, eo51⟩ := Kd.R_slice HO_8.out
          subst eo51
          obtain ⟨Ao52, co52, eo52⟩ := Kd.R_slice HO_9.out
          subst eo52
          have hnb53 := NB174_172.out
          have hnc53 := NB172_174.out
          have hnb54 := NB174_173.out
          have hnc54 := NB173_174.out
          obtain ⟨hcz55_0, hcz55_1, hfz55_0, hfz55_1⟩ := cl2_ BK174
          go_wp2
          refine bodyPost_ret (results_ct rfl _ _ gb174 38 #[.int .i8 0, .bool false] (0, 0) _ rfl (by (with_reducible repeat (first | refine blk_drewN ?_ _ | refine blk_drew ?_ | refine blk_alloc ?_ _)); refine blk_put (cs := #[.int .i8 0, .bool false]) ?_ 1 _ rfl; (with_reducible repeat (first | refine blk_drewN ?_ _ | refine blk_drew ?_ | refine blk_alloc ?_ _)); refine blk_put (cs := #[.int .i8 0, .bool false]) ?_ 0 _ rfl; (with_reducible repeat (first | refine blk_drewN ?_ _ | refine blk_drew ?_ | refine blk_alloc ?_ _)); exact BK174.out) Try.underlying38 rfl (by kernel_rfl)) rfl ?_
          exact ⟨by first | rfl | (simp [errW_none, errW_some] <;> rfl) | (simp [*, errW_none, errW_some] <;> rfl), bs_ HB GE174⟩
         ·rw [if_neg c50] at H
          have c50b0 : decide (1 < (x9_2.length : Int)) = false := decide_eq_false c50
          have c50b1 : decide (1 < x9_2.length) = false := decide_eq_false (by omega)
          clear c50
          by_cases c56 : 0 < (x9_2.length : Int)
          ·rw [if_pos c56] at H
           have c56b0 : decide (0 < (x9_2.length : Int)) = true := decide_eq_true c56
           have c56b1 : decide (0 < x9_2.length) = true := decide_eq_true (by omega)
           clear c56
           simp only [Option.some.injEq, Prod.mk.injEq] at H
           obtain ⟨rfl, rfl, rfl⟩ := H
           obtain ⟨Ao57, co57, eo57⟩ := Kd.R_slice HO_8.out
           subst eo57
           obtain ⟨Ao58, co58, eo58⟩ := Kd.R_slice HO_9.out
           subst eo58
           have p194 : 0 ≤ (0 : Int) := (by omega)
           have q194 : 0 < (x9_2.length : Int) := asm_
           obtain ⟨ad194, e194, hx194_0, hx194_1⟩ := at_T38 (Kd.R_reads' HO_9.out).2.2 0 p194 q194
           cases e194
           have qi194 : (0 < x9_2.length) = True := eq_true (by omega)
           (try rw [show ((0 : Int)).toNat = 0 from rfl] at hx194_0)
           (try rw [show 0 * 2 = 0 from rfl] at hx194_0)
           (try rw [Addr.add_zero'] at hx194_0)
           (try rw [show ((0 : Int)).toNat = 0 from rfl] at hx194_1)
           (try rw [show 0 * 2 = 0 from rfl] at hx194_1)
           (try rw [Addr.add_zero'] at hx194_1)
           replace p194 := eq_true p194
           replace q194 := eq_true q194
           have hnb59 := NB174_172.out
           have hnc59 := NB172_174.out
           have hnb60 := NB174_173.out
           have hnc60 := NB173_174.out
           obtain ⟨hcz61_0, hcz61_1, hfz61_0, hfz61_1⟩ := cl2_ BK174
           go_wp2
           refine bodyPost_ret (results_ct rfl _ _ gb174 38 #[.int .i8 ((rd_T38 x9_2 0).f0), .bool ((rd_T38 x9_2 0).f1)] (0, 0) _ rfl (by (with_reducible repeat (first | refine blk_drewN ?_ _ | refine blk_drew ?_ | refine blk_alloc ?_ _)); refine blk_put (cs := #[.int .i8 ((rd_T38 x9_2 0).f0), .bool false]) ?_ 1 _ rfl; (with_reducible repeat (first | refine blk_drewN ?_ _ | refine blk_drew ?_ | refine blk_alloc ?_ _)); refine blk_put (cs := #[.int .i8 0, .bool false]) ?_ 0 _ rfl; (with_reducible repeat (first | refine blk_drewN ?_ _ | refine blk_drew ?_ | refine blk_alloc ?_ _)); exact BK174.out) Try.underlying38 rfl (by kernel_rfl)) rfl ?_
           exact ⟨by first | rfl | (simp [errW_none, errW_some] <;> rfl) | (simp [*, errW_none, errW_some] <;> rfl), bs_ HB GE174⟩
          ·rw [if_neg c56] at H
           exact absurd H (by simp)
    ·replace c24 := Bool.eq_false_iff.mpr c24
     subst c24
     have H1 : (some (0, false, 2)) = some (r1, r2, r3) := by rw [if_neg (show ¬ (false = true) by decide)] at H; exact H
     clear H
     have H := H1
     clear H1
     simp only [Option.some.injEq, Prod.mk.injEq] at H
     obtain ⟨rfl, rfl, rfl⟩ := H
     go_wp2_with (first | ((with_reducible refine gate_callee (f := 18) rfl ?_); refine goesL_ (some 23) rfl rfl Try.func18 (by kernel_rfl) rfl #[.int .i64 a2, .int .i64 0, .int .i64 4] rfl arg_ ?_; (with_reducible refine (spec_l00In.calls a2 0 4 false _ A23.out).mono ?_); rintro e w' ⟨rfl, ⟨nd, rfl⟩⟩; refine ⟨_, rfl, ?_⟩; (try (rw [drewN_self wc]; generalize hq_ : World.drewN wc _ = wc; have n0_ : Aside0 (wc.heap[gb172]? = some (.cells #[.int .i8 x173000_3, .int .i8 x173001_3, .slice A0_2 l0_2.length c0_2] 29 (0, 0))) := ⟨by rw [← hq_]; exact (pl_ BK172)⟩; have n1_ : Aside0 (wc.heap[gb173]? = some (.cells #[.int .i8 a1_0, .int .i8 a1_1, .int .i8 a1_2, .int .i8 a1_3] 41 (0, 0))) := ⟨by rw [← hq_]; exact (pl_ BK173)⟩; have n2_ : Aside0 (wc.heap[gb174]? = some (.cells #[.int .i8 0, .bool false] 38 (0, 0))) := ⟨by rw [← hq_]; exact (pl_ BK174)⟩; have n3_ : Aside0 (Below w.heap.size w wc) := ⟨by rw [← hq_]; exact (bl_ HB)⟩; clear BK172 BK173 BK174 HB hq_; have BK172 := n0_; have BK173 := n1_; have BK174 := n2_; have HB := n3_; clear n0_ n1_ n2_ n3_)); have hnb62 := NB174_172.out; have hnc62 := NB172_174.out; have hnb63 := NB174_173.out; have hnc63 := NB173_174.out; obtain ⟨hcz64_0, hcz64_1, hfz64_0, hfz64_1⟩ := cl2_ BK174))
     refine bodyPost_ret (results_ct rfl _ _ gb174 38 #[.int .i8 0, .bool false] (0, 0) _ rfl (by (with_reducible repeat (first | refine blk_drewN ?_ _ | refine blk_drew ?_ | refine blk_alloc ?_ _)); refine blk_put (cs := #[.int .i8 0, .bool false]) ?_ 1 _ rfl; (with_reducible repeat (first | refine blk_drewN ?_ _ | refine blk_drew ?_ | refine blk_alloc ?_ _)); refine blk_put (cs := #[.int .i8 0, .bool false]) ?_ 0 _ rfl; (with_reducible repeat (first | refine blk_drewN ?_ _ | refine blk_drew ?_ | refine blk_alloc ?_ _)); exact BK174.out) Try.underlying38 rfl (by kernel_rfl)) rfl ?_
     exact ⟨by first | rfl | (simp [errW_none, errW_some] <;> rfl) | (simp [*, errW_none, errW_some] <;> rfl), bs_ HB GE174⟩

end Go.Proofs.Ytkieplebdbdigaa.M
