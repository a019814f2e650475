-- By this seat's own program over the kit's printer (arrays, functions told by hand); nothing of it is trusted: the kernel checks it.
import Derived.Test.YtcghglembmohcaaMx0
import Derived.Test.YtcghglembmohcaaMx1
import Derived.Test.YtcghglembmohcaaMx2
namespace Go.Proofs.Ytcghglembmohcaa.M
open Go.RowKit Go.Proofs.YtcghglembmohcaaW.PrintWords Go.Proofs.YtcghglembmohcaaW.PrintLast Go.Proofs.YtcghglembmohcaaW.PrintMore
attribute [local go_sem] max2_int min2_int max_two min_two max_three min_three max_four min_four   -- for this text's walks alone
set_option linter.unusedVariables false
set_option linter.unusedSimpArgs false

/-! ### spec_ReadWeighing: function 7 -/
mutual
def spec_ReadWeighing.j0 : Nat → ByteArray → Int → Int → Int → Bool → Bool → Option (Int × Int × Int × Int × Int × Int × Int × Int × Int × Int × Int × Int × Int × Int × Int)
 | 0, _, _, _, _, _, _ => none
 | k + 1, x1, x6, x109000, x109001, x109002, x109003 => spec_ReadWeighing.l0 k x1 x6 ((x1.size : Int) == x6) 0 x109000 x109001 x109002 x109003 0 0 0 0 0 0 0 0 0 0 0 0 0 0
def spec_ReadWeighing.l0 : Nat → ByteArray → Int → Bool → Int → Int → Int → Bool → Bool → Int → Int → Int → Int → Int → Int → Int → Int → Int → Int → Int → Int → Int → Int → Option (Int × Int × Int × Int × Int × Int × Int × Int × Int × Int × Int × Int × Int × Int × Int)
 | 0, _, _, _, _, _, _, _, _, _, _, _, _, _, _, _, _, _, _, _, _, _, _ => none
 | k + 1, x1, x6, x8, x9, x109000, x109001, x109002, x109003, x112000, x112001, x112002, x112003, x112004, x112005, x112006, x112007, x112008, x112009, x112010, x112011, x112012, x112013 => if x9 < x6 then (spec_ReadWeighing.j2 k x1 x6 x8 x9 x8 x109000 x109001 x109002 x109003 x112000 x112001 x112002 x112003 x112004 x112005 x112006 x112007 x112008 x112009 x112010 x112011 x112012 x112013) else (spec_ReadWeighing.j2 k x1 x6 x8 x9 false x109000 x109001 x109002 x109003 x112000 x112001 x112002 x112003 x112004 x112005 x112006 x112007 x112008 x112009 x112010 x112011 x112012 x112013)
def spec_ReadWeighing.j2 : Nat → ByteArray → Int → Bool → Int → Bool → Int → Int → Bool → Bool → Int → Int → Int → Int → Int → Int → Int → Int → Int → Int → Int → Int → Int → Int → Option (Int × Int × Int × Int × Int × Int × Int × Int × Int × Int × Int × Int × Int × Int × Int)
 | 0, _, _, _, _, _, _, _, _, _, _, _, _, _, _, _, _, _, _, _, _, _, _, _ => none
 | k + 1, x1, x6, x8, x9, x31, x109000, x109001, x109002, x109003, x112000, x112001, x112002, x112003, x112004, x112005, x112006, x112007, x112008, x112009, x112010, x112011, x112012, x112013 => if x31 = true then (if 0 ≤ x9 then (if x9 < (x1.size : Int) then (if (bt x1 x9) = 45 then (if x9 < 14 then (spec_ReadWeighing.l0 k x1 x6 x8 (wrap64 (x9 + 1)) x109000 x109001 x109002 x109003 (aup x9 0 (-1) x112000) (aup x9 1 (-1) x112001) (aup x9 2 (-1) x112002) (aup x9 3 (-1) x112003) (aup x9 4 (-1) x112004) (aup x9 5 (-1) x112005) (aup x9 6 (-1) x112006) (aup x9 7 (-1) x112007) (aup x9 8 (-1) x112008) (aup x9 9 (-1) x112009) (aup x9 10 (-1) x112010) (aup x9 11 (-1) x112011) (aup x9 12 (-1) x112012) (aup x9 13 (-1) x112013)) else (none)) else (if (bt x1 x9) = 43 then (if x9 < 14 then (spec_ReadWeighing.l0 k x1 x6 x8 (wrap64 (x9 + 1)) x109000 x109001 x109002 x109003 (aup x9 0 1 x112000) (aup x9 1 1 x112001) (aup x9 2 1 x112002) (aup x9 3 1 x112003) (aup x9 4 1 x112004) (aup x9 5 1 x112005) (aup x9 6 1 x112006) (aup x9 7 1 x112007) (aup x9 8 1 x112008) (aup x9 9 1 x112009) (aup x9 10 1 x112010) (aup x9 11 1 x112011) (aup x9 12 1 x112012) (aup x9 13 1 x112013)) else (none)) else (if (bt x1 x9) = 48 then (spec_ReadWeighing.l0 k x1 x6 x8 (wrap64 (x9 + 1)) x109000 x109001 x109002 x109003 x112000 x112001 x112002 x112003 x112004 x112005 x112006 x112007 x112008 x112009 x112010 x112011 x112012 x112013) else (spec_ReadWeighing.l0 k x1 x6 false (wrap64 (x9 + 1)) x109000 x109001 x109002 x109003 x112000 x112001 x112002 x112003 x112004 x112005 x112006 x112007 x112008 x112009 x112010 x112011 x112012 x112013)))) else (none)) else (none)) else (if x8 = true then ((spec_l03Weighing.f k x109000 x109001 x109002 x109003 x112000 x112001 x112002 x112003 x112004 x112005 x112006 x112007 x112008 x112009 x112010 x112011 x112012 x112013).bind fun t112 => (if t112 = true then (some (x112000, x112001, x112002, x112003, x112004, x112005, x112006, x112007, x112008, x112009, x112010, x112011, x112012, x112013, 0)) else (some (0, 0, 0, 0, 0, 0, 0, 0, 0, 0, 0, 0, 0, 0, 5)))) else (some (0, 0, 0, 0, 0, 0, 0, 0, 0, 0, 0, 0, 0, 0, 5)))
end
def spec_ReadWeighing.f (k : Nat) (a0_0 : Int) (a0_1 : Int) (a0_2 : Bool) (a0_3 : Bool) (a1 : ByteArray) : Option (Int × Int × Int × Int × Int × Int × Int × Int × Int × Int × Int × Int × Int × Int × Int) := (spec_l03Ok.f a0_0 a0_1 a0_2 a0_3).bind fun t110 => (if t110 = true then (if a0_3 = true then (spec_ReadWeighing.j0 k a1 (wrap64 ((wrap64 (a0_0)) + 1)) a0_0 a0_1 a0_2 a0_3) else (spec_ReadWeighing.j0 k a1 (wrap64 (a0_0)) a0_0 a0_1 a0_2 a0_3)) else (some (0, 0, 0, 0, 0, 0, 0, 0, 0, 0, 0, 0, 0, 0, 1)))
theorem spec_ReadWeighing.mono_l : ∀ k, (∀ y0 y1 y2 y3 y4 y5, LeO (spec_ReadWeighing.j0 k y0 y1 y2 y3 y4 y5) (spec_ReadWeighing.j0 (k + 1) y0 y1 y2 y3 y4 y5)) ∧ (∀ y0 y1 y2 y3 y4 y5 y6 y7 y8 y9 y10 y11 y12 y13 y14 y15 y16 y17 y18 y19 y20 y21, LeO (spec_ReadWeighing.l0 k y0 y1 y2 y3 y4 y5 y6 y7 y8 y9 y10 y11 y12 y13 y14 y15 y16 y17 y18 y19 y20 y21) (spec_ReadWeighing.l0 (k + 1) y0 y1 y2 y3 y4 y5 y6 y7 y8 y9 y10 y11 y12 y13 y14 y15 y16 y17 y18 y19 y20 y21)) ∧ (∀ y0 y1 y2 y3 y4 y5 y6 y7 y8 y9 y10 y11 y12 y13 y14 y15 y16 y17 y18 y19 y20 y21 y22, LeO (spec_ReadWeighing.j2 k y0 y1 y2 y3 y4 y5 y6 y7 y8 y9 y10 y11 y12 y13 y14 y15 y16 y17 y18 y19 y20 y21 y22) (spec_ReadWeighing.j2 (k + 1) y0 y1 y2 y3 y4 y5 y6 y7 y8 y9 y10 y11 y12 y13 y14 y15 y16 y17 y18 y19 y20 y21 y22))
 | 0 => ⟨fun _ _ _ _ _ _ r h => by simp [spec_ReadWeighing.j0] at h, fun _ _ _ _ _ _ _ _ _ _ _ _ _ _ _ _ _ _ _ _ _ _ r h => by simp [spec_ReadWeighing.l0] at h, fun _ _ _ _ _ _ _ _ _ _ _ _ _ _ _ _ _ _ _ _ _ _ _ r h => by simp [spec_ReadWeighing.j2] at h⟩
 | k + 1 => by
  obtain ⟨ih0, ih1, ih2⟩ := spec_ReadWeighing.mono_l k
  refine ⟨?_, ?_, ?_⟩
  ·intro y0 y1 y2 y3 y4 y5
   unfold spec_ReadWeighing.j0
   repeat' first
   | (with_reducible exact ih0 _ _ _ _ _ _)
   | (with_reducible exact ih1 _ _ _ _ _ _ _ _ _ _ _ _ _ _ _ _ _ _ _ _ _ _)
   | (with_reducible exact ih2 _ _ _ _ _ _ _ _ _ _ _ _ _ _ _ _ _ _ _ _ _ _ _)
   | (with_reducible exact spec_l03Weighing.mono _ _ _ _ _ _ _ _ _ _ _ _ _ _ _ _ _ _ _)
   | (with_reducible exact LeO.refl _)
   | (with_reducible exact LeO.none _)
   | (with_reducible refine LeO.ite ?_ ?_)
   | (with_reducible refine LeO.bind ?_ (fun _ => ?_))
   | exact ih0 _ _ _ _ _ _
   | exact ih1 _ _ _ _ _ _ _ _ _ _ _ _ _ _ _ _ _ _ _ _ _ _
   | exact ih2 _ _ _ _ _ _ _ _ _ _ _ _ _ _ _ _ _ _ _ _ _ _ _
   | exact spec_l03Weighing.mono _ _ _ _ _ _ _ _ _ _ _ _ _ _ _ _ _ _ _
   | exact LeO.none _
   | refine LeO.ite ?_ ?_
   | refine LeO.bind ?_ (fun _ => ?_)
  ·intro y0 y1 y2 y3 y4 y5 y6 y7 y8 y9 y10 y11 y12 y13 y14 y15 y16 y17 y18 y19 y20 y21
   unfold spec_ReadWeighing.l0
   repeat' first
   | (with_reducible exact ih0 _ _ _ _ _ _)
   | (with_reducible exact ih1 _ _ _ _ _ _ _ _ _ _ _ _ _ _ _ _ _ _ _ _ _ _)
   | (with_reducible exact ih2 _ _ _ _ _ _ _ _ _ _ _ _ _ _ _ _ _ _ _ _ _ _ _)
   | (with_reducible exact spec_l03Weighing.mono _ _ _ _ _ _ _ _ _ _ _ _ _ _ _ _ _ _ _)
   | (with_reducible exact LeO.refl _)
   | (with_reducible exact LeO.none _)
   | (with_reducible refine LeO.ite ?_ ?_)
   | (with_reducible refine LeO.bind ?_ (fun _ => ?_))
   | exact ih0 _ _ _ _ _ _
   | exact ih1 _ _ _ _ _ _ _ _ _ _ _ _ _ _ _ _ _ _ _ _ _ _
   | exact ih2 _ _ _ _ _ _ _ _ _ _ _ _ _ _ _ _ _ _ _ _ _ _ _
   | exact spec_l03Weighing.mono _ _ _ _ _ _ _ _ _ _ _ _ _ _ _ _ _ _ _
   | exact LeO.none _
   | refine LeO.ite ?_ ?_
   | refine LeO.bind ?_ (fun _ => ?_)
  ·intro y0 y1 y2 y3 y4 y5 y6 y7 y8 y9 y10 y11 y12 y13 y14 y15 y16 y17 y18 y19 y20 y21 y22
   unfold spec_ReadWeighing.j2
   repeat' first
   | (with_reducible exact ih0 _ _ _ _ _ _)
   | (with_reducible exact ih1 _ _ _ _ _ _ _ _ _ _ _ _ _ _ _ _ _ _ _ _ _ _)
   | (with_reducible exact ih2 _ _ _ _ _ _ _ _ _ _ _ _ _ _ _ _ _ _ _ _ _ _ _)
   | (with_reducible exact spec_l03Weighing.mono _ _ _ _ _ _ _ _ _ _ _ _ _ _ _ _ _ _ _)
   | (with_reducible exact LeO.refl _)
   | (with_reducible exact LeO.none _)
   | (with_reducible refine LeO.ite ?_ ?_)
   | (with_reducible refine LeO.bind ?_ (fun _ => ?_))
   | exact ih0 _ _ _ _ _ _
   | exact ih1 _ _ _ _ _ _ _ _ _ _ _ _ _ _ _ _ _ _ _ _ _ _
   | exact ih2 _ _ _ _ _ _ _ _ _ _ _ _ _ _ _ _ _ _ _ _ _ _ _
   | exact spec_l03Weighing.mono _ _ _ _ _ _ _ _ _ _ _ _ _ _ _ _ _ _ _
   | exact LeO.none _
   | refine LeO.ite ?_ ?_
   | refine LeO.bind ?_ (fun _ => ?_)
theorem spec_ReadWeighing.mono : ∀ a0 a1 a2 a3 a4 k, LeO (spec_ReadWeighing.f k a0 a1 a2 a3 a4) (spec_ReadWeighing.f (k + 1) a0 a1 a2 a3 a4) := by
 intro a0 a1 a2 a3 a4 k
 obtain ⟨ih0, ih1, ih2⟩ := spec_ReadWeighing.mono_l k
 unfold spec_ReadWeighing.f
 repeat' first
   | (with_reducible exact ih0 _ _ _ _ _ _)
   | (with_reducible exact ih1 _ _ _ _ _ _ _ _ _ _ _ _ _ _ _ _ _ _ _ _ _ _)
   | (with_reducible exact ih2 _ _ _ _ _ _ _ _ _ _ _ _ _ _ _ _ _ _ _ _ _ _ _)
   | (with_reducible exact spec_l03Weighing.mono _ _ _ _ _ _ _ _ _ _ _ _ _ _ _ _ _ _ _)
   | (with_reducible exact LeO.refl _)
   | (with_reducible exact LeO.none _)
   | (with_reducible refine LeO.ite ?_ ?_)
   | (with_reducible refine LeO.bind ?_ (fun _ => ?_))
   | exact ih0 _ _ _ _ _ _
   | exact ih1 _ _ _ _ _ _ _ _ _ _ _ _ _ _ _ _ _ _ _ _ _ _
   | exact ih2 _ _ _ _ _ _ _ _ _ _ _ _ _ _ _ _ _ _ _ _ _ _ _
   | exact spec_l03Weighing.mono _ _ _ _ _ _ _ _ _ _ _ _ _ _ _ _ _ _ _
   | exact LeO.none _
   | refine LeO.ite ?_ ?_
   | refine LeO.bind ?_ (fun _ => ?_)
set_option maxHeartbeats 8000000 in
set_option maxRecDepth 100000 in
theorem spec_ReadWeighing.calls (k : Nat) (a0_0 : Int) (a0_1 : Int) (a0_2 : Bool) (a0_3 : Bool) (a1 : ByteArray) (r1 : Int) (r2 : Int) (r3 : Int) (r4 : Int) (r5 : Int) (r6 : Int) (r7 : Int) (r8 : Int) (r9 : Int) (r10 : Int) (r11 : Int) (r12 : Int) (r13 : Int) (r14 : Int) (r15 : Int) (w : World) (h : spec_ReadWeighing.f k a0_0 a0_1 a0_2 a0_3 a1 = some (r1, r2, r3, r4, r5, r6, r7, r8, r9, r10, r11, r12, r13, r14, r15)) :
  Calls Try.prog 7 #[.agg #[.int .i8 a0_0, .int .i8 a0_1, .bool a0_2, .bool a0_3], .string a1] w fun e w' => e = .returned (.tuple #[.agg #[.int .i8 r1, .int .i8 r2, .int .i8 r3, .int .i8 r4, .int .i8 r5, .int .i8 r6, .int .i8 r7, .int .i8 r8, .int .i8 r9, .int .i8 r10, .int .i8 r11, .int .i8 r12, .int .i8 r13, .int .i8 r14], .int .i64 r15]) ∧ Below w.heap.size w w' := by
 have hu29 := Try.underlying29
 have hu26 := Try.underlying26
 have HB := A_ (Below.refl w.heap.size w)
 have H : ((spec_l03Ok.f a0_0 a0_1 a0_2 a0_3).bind fun t110 => (if t110 = true then (if a0_3 = true then (spec_ReadWeighing.j0 k a1 (wrap64 ((wrap64 (a0_0)) + 1)) a0_0 a0_1 a0_2 a0_3) else (spec_ReadWeighing.j0 k a1 (wrap64 (a0_0)) a0_0 a0_1 a0_2 a0_3)) else (some (0, 0, 0, 0, 0, 0, 0, 0, 0, 0, 0, 0, 0, 0, 1)))) = some (r1, r2, r3, r4, r5, r6, r7, r8, r9, r10, r11, r12, r13, r14, r15) := h
 clear h
 replace H := Option.bind_eq_some_iff.mp H
 obtain ⟨t110, A30, H⟩ := H
 replace H : (if t110 = true then (if a0_3 = true then (spec_ReadWeighing.j0 k a1 (wrap64 ((wrap64 (a0_0)) + 1)) a0_0 a0_1 a0_2 a0_3) else (spec_ReadWeighing.j0 k a1 (wrap64 (a0_0)) a0_0 a0_1 a0_2 a0_3)) else (some (0, 0, 0, 0, 0, 0, 0, 0, 0, 0, 0, 0, 0, 0, 1))) = some (r1, r2, r3, r4, r5, r6, r7, r8, r9, r10, r11, r12, r13, r14, r15) := H
 have A3 := Aside0.mk A30
 clear A30
 by_cases c4 : t110 = true
 ·subst c4
  have H1 : (if a0_3 = true then (spec_ReadWeighing.j0 k a1 (wrap64 ((wrap64 (a0_0)) + 1)) a0_0 a0_1 a0_2 a0_3) else (spec_ReadWeighing.j0 k a1 (wrap64 (a0_0)) a0_0 a0_1 a0_2 a0_3)) = some (r1, r2, r3, r4, r5, r6, r7, r8, r9, r10, r11, r12, r13, r14, r15) := by rw [if_pos rfl] at H; exact H
  clear H
  have H := H1
  clear H1
  have HC5 := Aside0.mk H
  clear H
  go_enter Try.func7, Try.ntmps7
  go_upto_if 18 with (first | ((with_reducible refine gate_dst (N := 2) rfl ?_); refine box_event ?hg (N := 2) ?hd (cs := #[.int .i8 a0_0, .int .i8 a0_1, .bool a0_2, .bool a0_3]) (t := 29) ?hr ?_; (case hd => rfl); (case hg => rfl); (case hr => first | (go_simp; done) | (go_simp; rfl)); intro gb108 hg w6 hbox hb; have n0_ := A_ (below_step (bl_ HB) hb); have n1_ := A_ (hbox); have n2_ := A_ ((by rw [hg]; exact (below_size (bl_ HB)) : w.heap.size ≤ gb108)); have n3_ := n2_; clear HB; have HB := n0_; have BK108 := n1_; have GW108 := n2_; have GE108 := n3_; clear n0_ n1_ n2_ n3_; clear hb hbox hg) | ((with_reducible refine gate_dst (N := 4) rfl ?_); refine box_event ?hg (N := 4) ?hd (cs := #[.int .i8 0, .int .i8 0, .int .i8 0, .int .i8 0, .int .i8 0, .int .i8 0, .int .i8 0, .int .i8 0, .int .i8 0, .int .i8 0, .int .i8 0, .int .i8 0, .int .i8 0, .int .i8 0]) (t := 26) ?hr ?_; (case hd => rfl); (case hg => rfl); (case hr => first | (go_simp; done) | (go_simp; rfl)); intro gb109 hg w7 hbox hb; have n0_ := A_ (blk_below (pl_ BK108) hb); have n1_ := A_ (below_step (bl_ HB) hb); have n2_ := A_ (hbox); have n3_ := A_ ((by rw [hg]; exact (below_size (bl_ HB)) : w.heap.size ≤ gb109)); have n4_ := n3_; have n5_ := A_ ((by rw [hg]; exact Nat.ne_of_lt (blk_lt (pl_ BK108)) : gb108 ≠ gb109)); have n6_ := Aside0.mk n5_.out.symm; clear BK108; clear HB; have BK108 := n0_; have HB := n1_; have BK109 := n2_; have GW109 := n3_; have GE109 := n4_; have NB108_109 := n5_; have NB109_108 := n6_; clear n0_ n1_ n2_ n3_ n4_ n5_ n6_; clear hb hbox hg; have hnb8 := NB108_109.out; have hnc8 := NB109_108.out; obtain ⟨hcz9_0, hcz9_1, hcz9_2, hcz9_3, hfz9_0, hfz9_1, hfz9_2, hfz9_3⟩ := cl4_ BK108) | ((with_reducible refine gate_callee (f := 22) rfl ?_); refine goesL_ (some 11) rfl rfl Try.func22 (by kernel_rfl) rfl #[.agg #[.int .i8 a0_0, .int .i8 a0_1, .bool a0_2, .bool a0_3]] rfl arg_ ?_; (with_reducible refine (spec_l03Ok.calls a0_0 a0_1 a0_2 a0_3 true _ A3.out).mono ?_); rintro e w10 ⟨rfl, hb⟩; refine ⟨_, rfl, ?_⟩; have n0_ := A_ (blk_below (pl_ BK108) hb); have n1_ := A_ (blk_below (pl_ BK109) hb); have n2_ := A_ (below_step (bl_ HB) hb); clear BK108; clear BK109; clear HB; have BK108 := n0_; have BK109 := n1_; have HB := n2_; clear n0_ n1_ n2_; (try clear hb); (try clear hb2); (try clear hk); (try clear hi); obtain ⟨hcz11_0, hcz11_1, hcz11_2, hcz11_3, hfz11_0, hfz11_1, hfz11_2, hfz11_3⟩ := cl4_ BK108))
  (try simp only [Act.put, List.setIfInBounds_toArray, List.set_cons_zero, List.set_cons_succ])
  go_cut [6] (fun v6 wc => ∃ (kq : Nat) (x6_4 : Int), v6 = .int .i64 x6_4 ∧ Aside0 (spec_ReadWeighing.j0 kq a1 x6_4 a0_0 a0_1 a0_2 a0_3 = some (r1, r2, r3, r4, r5, r6, r7, r8, r9, r10, r11, r12, r13, r14, r15)) ∧ Aside0 (kq ≤ k) ∧ Aside0 (wc.heap[gb108]? = some (.cells #[.int .i8 a0_0, .int .i8 a0_1, .bool a0_2, .bool a0_3] 29 (0, 0))) ∧ Aside0 (wc.heap[gb109]? = some (.cells #[.int .i8 0, .int .i8 0, .int .i8 0, .int .i8 0, .int .i8 0, .int .i8 0, .int .i8 0, .int .i8 0, .int .i8 0, .int .i8 0, .int .i8 0, .int .i8 0, .int .i8 0, .int .i8 0] 26 (0, 0))) ∧ Aside0 (Below w.heap.size w wc))
  case first =>
   have H := HC5.out
   clear HC5
   by_cases c12 : a0_3 = true
   ·subst c12
    have H1 : (spec_ReadWeighing.j0 k a1 (wrap64 ((wrap64 (a0_0)) + 1)) a0_0 a0_1 a0_2 true) = some (r1, r2, r3, r4, r5, r6, r7, r8, r9, r10, r11, r12, r13, r14, r15) := by rw [if_pos rfl] at H; exact H
    clear H
    have H := H1
    clear H1
    have H' := Aside0.mk H
    clear H
    go_wp2
    go_meet
    case rel => exact ⟨_, (wrap64 ((wrap64 (a0_0)) + 1)), rs_, H', ⟨by first | omega | exact Nat.le_refl _⟩, ⟨pl_ BK108⟩, ⟨pl_ BK109⟩, ⟨bl_ HB⟩⟩
   ·replace c12 := Bool.eq_false_iff.mpr c12
    subst c12
    have H1 : (spec_ReadWeighing.j0 k a1 (wrap64 (a0_0)) a0_0 a0_1 a0_2 false) = some (r1, r2, r3, r4, r5, r6, r7, r8, r9, r10, r11, r12, r13, r14, r15) := by rw [if_neg (show ¬ (false = true) by decide)] at H; exact H
    clear H
    have H := H1
    clear H1
    have H' := Aside0.mk H
    clear H
    go_wp2
    go_meet
    case rel => exact ⟨_, (wrap64 (a0_0)), rs_, H', ⟨by first | omega | exact Nat.le_refl _⟩, ⟨pl_ BK108⟩, ⟨pl_ BK109⟩, ⟨bl_ HB⟩⟩
  case rest =>
   clear HC5
   try clear c1
   try clear c2
   try clear p2
   try clear c4
   try clear p6
   try clear c7
   try clear c8
   try clear c12
   try clear hcz11_0
   try clear hcz11_1
   try clear hcz11_2
   try clear hcz11_3
   try clear hcz9_0
   try clear hcz9_1
   try clear hcz9_2
   try clear hcz9_3
   try clear hfz11_0
   try clear hfz11_1
   try clear hfz11_2
   try clear hfz11_3
   try clear hfz9_0
   try clear hfz9_1
   try clear hfz9_2
   try clear hfz9_3
   obtain ⟨kq, x6_4, rfl, HA, HJ4, BK108, BK109, HB⟩ := hcut
   cases kq with
   | zero => exact absurd HA.out (by simp [spec_ReadWeighing.j0])
   | succ kj4 =>
    have H := HA.out
    clear HA
    simp only [spec_ReadWeighing.j0] at H
    have H' := Aside0.mk H
    clear H
    go_wp2_with (first | ((with_reducible refine gate_dst (N := 7) rfl ?_); refine box_event ?hg (N := 7) ?hd (cs := #[.int .i8 0, .int .i8 0, .int .i8 0, .int .i8 0, .int .i8 0, .int .i8 0, .int .i8 0, .int .i8 0, .int .i8 0, .int .i8 0, .int .i8 0, .int .i8 0, .int .i8 0, .int .i8 0]) (t := 26) ?hr ?_; (case hd => rfl); (case hg => rfl); (case hr => first | (go_simp; done) | (go_simp; rfl)); intro gb111 hg w13 hbox hb; have n0_ := A_ (blk_below (pl_ BK108) hb); have n1_ := A_ (blk_below (pl_ BK109) hb); have n2_ := A_ (below_step (bl_ HB) hb); have n3_ := A_ (hbox); have n4_ := A_ ((by rw [hg]; exact (below_size (bl_ HB)) : w.heap.size ≤ gb111)); have n5_ := n4_; have n6_ := A_ ((by rw [hg]; exact Nat.ne_of_lt (blk_lt (pl_ BK108)) : gb108 ≠ gb111)); have n7_ := Aside0.mk n6_.out.symm; have n8_ := A_ ((by rw [hg]; exact Nat.ne_of_lt (blk_lt (pl_ BK109)) : gb109 ≠ gb111)); have n9_ := Aside0.mk n8_.out.symm; clear BK108; clear BK109; clear HB; have BK108 := n0_; have BK109 := n1_; have HB := n2_; have BK111 := n3_; have GW111 := n4_; have GE111 := n5_; have NB108_111 := n6_; have NB111_108 := n7_; have NB109_111 := n8_; have NB111_109 := n9_; clear n0_ n1_ n2_ n3_ n4_ n5_ n6_ n7_ n8_ n9_; clear hb hbox hg; have hnb14 := NB111_108.out; have hnc14 := NB108_111.out; have hnb15 := NB111_109.out; have hnc15 := NB109_111.out; obtain ⟨hcz16_0, hcz16_1, hcz16_2, hcz16_3, hcz16_4, hcz16_5, hcz16_6, hcz16_7, hcz16_8, hcz16_9, hcz16_10, hcz16_11, hcz16_12, hcz16_13, hfz16_0, hfz16_1, hfz16_2, hfz16_3, hfz16_4, hfz16_5, hfz16_6, hfz16_7, hfz16_8, hfz16_9, hfz16_10, hfz16_11, hfz16_12, hfz16_13⟩ := cl14_ BK111))
    go_loopg [8, 9] kj4 (fun kq v8 v9 w' => ∃ (x8_2 : Bool) (x9_2 : Int) (x112000_2 : Int) (x112001_2 : Int) (x112002_2 : Int) (x112003_2 : Int) (x112004_2 : Int) (x112005_2 : Int) (x112006_2 : Int) (x112007_2 : Int) (x112008_2 : Int) (x112009_2 : Int) (x112010_2 : Int) (x112011_2 : Int) (x112012_2 : Int) (x112013_2 : Int), v8 = .bool x8_2 ∧ v9 = .int .i64 x9_2 ∧ Aside0 (spec_ReadWeighing.l0 kq a1 x6_4 x8_2 x9_2 a0_0 a0_1 a0_2 a0_3 x112000_2 x112001_2 x112002_2 x112003_2 x112004_2 x112005_2 x112006_2 x112007_2 x112008_2 x112009_2 x112010_2 x112011_2 x112012_2 x112013_2 = some (r1, r2, r3, r4, r5, r6, r7, r8, r9, r10, r11, r12, r13, r14, r15)) ∧ Aside0 (kq ≤ kj4) ∧ Aside0 (w'.heap[gb108]? = some (.cells #[.int .i8 a0_0, .int .i8 a0_1, .bool a0_2, .bool a0_3] 29 (0, 0))) ∧ Aside0 (w'.heap[gb109]? = some (.cells #[.int .i8 0, .int .i8 0, .int .i8 0, .int .i8 0, .int .i8 0, .int .i8 0, .int .i8 0, .int .i8 0, .int .i8 0, .int .i8 0, .int .i8 0, .int .i8 0, .int .i8 0, .int .i8 0] 26 (0, 0))) ∧ Aside0 (w'.heap[gb111]? = some (.cells #[.int .i8 x112000_2, .int .i8 x112001_2, .int .i8 x112002_2, .int .i8 x112003_2, .int .i8 x112004_2, .int .i8 x112005_2, .int .i8 x112006_2, .int .i8 x112007_2, .int .i8 x112008_2, .int .i8 x112009_2, .int .i8 x112010_2, .int .i8 x112011_2, .int .i8 x112012_2, .int .i8 x112013_2] 26 (0, 0))) ∧ Aside0 (Below w.heap.size w w'))
    case atStart => exact ⟨(((a1.size : Int) == x6_4)), (0), (0), (0), (0), (0), (0), (0), (0), (0), (0), (0), (0), (0), (0), (0), rs_, rs_, H', ⟨Nat.le_refl _⟩, ⟨pf_ BK108 NB108_111⟩, ⟨pf_ BK109 NB109_111⟩, ⟨by (with_reducible repeat (first | refine blk_drewN ?_ _ | refine blk_drew ?_ | refine blk_alloc ?_ _)); refine blk_put (cs := #[.int .i8 0, .int .i8 0, .int .i8 0, .int .i8 0, .int .i8 0, .int .i8 0, .int .i8 0, .int .i8 0, .int .i8 0, .int .i8 0, .int .i8 0, .int .i8 0, .int .i8 0, .int .i8 0]) ?_ 13 _ rfl; (with_reducible repeat (first | refine blk_drewN ?_ _ | refine blk_drew ?_ | refine blk_alloc ?_ _)); refine blk_put (cs := #[.int .i8 0, .int .i8 0, .int .i8 0, .int .i8 0, .int .i8 0, .int .i8 0, .int .i8 0, .int .i8 0, .int .i8 0, .int .i8 0, .int .i8 0, .int .i8 0, .int .i8 0, .int .i8 0]) ?_ 12 _ rfl; (with_reducible repeat (first | refine blk_drewN ?_ _ | refine blk_drew ?_ | refine blk_alloc ?_ _)); refine blk_put (cs := #[.int .i8 0, .int .i8 0, .int .i8 0, .int .i8 0, .int .i8 0, .int .i8 0, .int .i8 0, .int .i8 0, .int .i8 0, .int .i8 0, .int .i8 0, .int .i8 0, .int .i8 0, .int .i8 0]) ?_ 11 _ rfl; (with_reducible repeat (first | refine blk_drewN ?_ _ | refine blk_drew ?_ | refine blk_alloc ?_ _)); refine blk_put (cs := #[.int .i8 0, .int .i8 0, .int .i8 0, .int .i8 0, .int .i8 0, .int .i8 0, .int .i8 0, .int .i8 0, .int .i8 0, .int .i8 0, .int .i8 0, .int .i8 0, .int .i8 0, .int .i8 0]) ?_ 10 _ rfl; (with_reducible repeat (first | refine blk_drewN ?_ _ | refine blk_drew ?_ | refine blk_alloc ?_ _)); refine blk_put (cs := #[.int .i8 0, .int .i8 0, .int .i8 0, .int .i8 0, .int .i8 0, .int .i8 0, .int .i8 0, .int .i8 0, .int .i8 0, .int .i8 0, .int .i8 0, .int .i8 0, .int .i8 0, .int .i8 0]) ?_ 9 _ rfl; (with_reducible repeat (first | refine blk_drewN ?_ _ | refine blk_drew ?_ | refine blk_alloc ?_ _)); refine blk_put (cs := #[.int .i8 0, .int .i8 0, .int .i8 0, .int .i8 0, .int .i8 0, .int .i8 0, .int .i8 0, .int .i8 0, .int .i8 0, .int .i8 0, .int .i8 0, .int .i8 0, .int .i8 0, .int .i8 0]) ?_ 8 _ rfl; (with_reducible repeat (first | refine blk_drewN ?_ _ | refine blk_drew ?_ | refine blk_alloc ?_ _)); refine blk_put (cs := #[.int .i8 0, .int .i8 0, .int .i8 0, .int .i8 0, .int .i8 0, .int .i8 0, .int .i8 0, .int .i8 0, .int .i8 0, .int .i8 0, .int .i8 0, .int .i8 0, .int .i8 0, .int .i8 0]) ?_ 7 _ rfl; (with_reducible repeat (first | refine blk_drewN ?_ _ | refine blk_drew ?_ | refine blk_alloc ?_ _)); refine blk_put (cs := #[.int .i8 0, .int .i8 0, .int .i8 0, .int .i8 0, .int .i8 0, .int .i8 0, .int .i8 0, .int .i8 0, .int .i8 0, .int .i8 0, .int .i8 0, .int .i8 0, .int .i8 0, .int .i8 0]) ?_ 6 _ rfl; (with_reducible repeat (first | refine blk_drewN ?_ _ | refine blk_drew ?_ | refine blk_alloc ?_ _)); refine blk_put (cs := #[.int .i8 0, .int .i8 0, .int .i8 0, .int .i8 0, .int .i8 0, .int .i8 0, .int .i8 0, .int .i8 0, .int .i8 0, .int .i8 0, .int .i8 0, .int .i8 0, .int .i8 0, .int .i8 0]) ?_ 5 _ rfl; (with_reducible repeat (first | refine blk_drewN ?_ _ | refine blk_drew ?_ | refine blk_alloc ?_ _)); refine blk_put (cs := #[.int .i8 0, .int .i8 0, .int .i8 0, .int .i8 0, .int .i8 0, .int .i8 0, .int .i8 0, .int .i8 0, .int .i8 0, .int .i8 0, .int .i8 0, .int .i8 0, .int .i8 0, .int .i8 0]) ?_ 4 _ rfl; (with_reducible repeat (first | refine blk_drewN ?_ _ | refine blk_drew ?_ | refine blk_alloc ?_ _)); refine blk_put (cs := #[.int .i8 0, .int .i8 0, .int .i8 0, .int .i8 0, .int .i8 0, .int .i8 0, .int .i8 0, .int .i8 0, .int .i8 0, .int .i8 0, .int .i8 0, .int .i8 0, .int .i8 0, .int .i8 0]) ?_ 3 _ rfl; (with_reducible repeat (first | refine blk_drewN ?_ _ | refine blk_drew ?_ | refine blk_alloc ?_ _)); refine blk_put (cs := #[.int .i8 0, .int .i8 0, .int .i8 0, .int .i8 0, .int .i8 0, .int .i8 0, .int .i8 0, .int .i8 0, .int .i8 0, .int .i8 0, .int .i8 0, .int .i8 0, .int .i8 0, .int .i8 0]) ?_ 2 _ rfl; (with_reducible repeat (first | refine blk_drewN ?_ _ | refine blk_drew ?_ | refine blk_alloc ?_ _)); refine blk_put (cs := #[.int .i8 0, .int .i8 0, .int .i8 0, .int .i8 0, .int .i8 0, .int .i8 0, .int .i8 0, .int .i8 0, .int .i8 0, .int .i8 0, .int .i8 0, .int .i8 0, .int .i8 0, .int .i8 0]) ?_ 1 _ rfl; (with_reducible repeat (first | refine blk_drewN ?_ _ | refine blk_drew ?_ | refine blk_alloc ?_ _)); refine blk_put (cs := #[.int .i8 0, .int .i8 0, .int .i8 0, .int .i8 0, .int .i8 0, .int .i8 0, .int .i8 0, .int .i8 0, .int .i8 0, .int .i8 0, .int .i8 0, .int .i8 0, .int .i8 0, .int .i8 0]) ?_ 0 _ rfl; (with_reducible repeat (first | refine blk_drewN ?_ _ | refine blk_drew ?_ | refine blk_alloc ?_ _)); exact BK111.out⟩, ⟨bs_ HB GE111⟩⟩
    case round =>
     clear H'
     try clear c1
     try clear c2
     try clear p2
     try clear c4
     try clear p6
     try clear c7
     try clear c8
     try clear c12
     try clear c14
     try clear c15
     try clear hcz11_0
     try clear hcz11_1
     try clear hcz11_2
     try clear hcz11_3
     try clear hcz16_0
     try clear hcz16_1
     try clear hcz16_10
     try clear hcz16_11
     try clear hcz16_12
     try clear hcz16_13
     try clear hcz16_2
     try clear hcz16_3
     try clear hcz16_4
     try clear hcz16_5
     try clear hcz16_6
     try clear hcz16_7
     try clear hcz16_8
     try clear hcz16_9
     try clear hcz9_0
     try clear hcz9_1
     try clear hcz9_2
     try clear hcz9_3
     try clear hfz11_0
     try clear hfz11_1
     try clear hfz11_2
     try clear hfz11_3
     try clear hfz16_0
     try clear hfz16_1
     try clear hfz16_10
     try clear hfz16_11
     try clear hfz16_12
     try clear hfz16_13
     try clear hfz16_2
     try clear hfz16_3
     try clear hfz16_4
     try clear hfz16_5
     try clear hfz16_6
     try clear hfz16_7
     try clear hfz16_8
     try clear hfz16_9
     try clear hfz9_0
     try clear hfz9_1
     try clear hfz9_2
     try clear hfz9_3
     try clear p2
     try clear p6
     obtain ⟨x8_2, x9_2, x112000_2, x112001_2, x112002_2, x112003_2, x112004_2, x112005_2, x112006_2, x112007_2, x112008_2, x112009_2, x112010_2, x112011_2, x112012_2, x112013_2, rfl, rfl, HA, HK2, BK108, BK109, BK111, HB⟩ := hrel
     cases gk with
     | zero => exact absurd HA.out (by simp [spec_ReadWeighing.l0])
     | succ k2 =>
      have H := HA.out
      clear HA
      simp only [spec_ReadWeighing.l0] at H
      have HC17 := Aside0.mk H
      clear H
      go_upto_region 9 with (fail)
      go_cut [31] (fun v31 wc => ∃ (kq : Nat) (x31_16 : Bool), v31 = .bool x31_16 ∧ Aside0 (spec_ReadWeighing.j2 kq a1 x6_4 x8_2 x9_2 x31_16 a0_0 a0_1 a0_2 a0_3 x112000_2 x112001_2 x112002_2 x112003_2 x112004_2 x112005_2 x112006_2 x112007_2 x112008_2 x112009_2 x112010_2 x112011_2 x112012_2 x112013_2 = some (r1, r2, r3, r4, r5, r6, r7, r8, r9, r10, r11, r12, r13, r14, r15)) ∧ Aside0 (kq ≤ k2) ∧ Aside0 (wc.heap[gb108]? = some (.cells #[.int .i8 a0_0, .int .i8 a0_1, .bool a0_2, .bool a0_3] 29 (0, 0))) ∧ Aside0 (wc.heap[gb109]? = some (.cells #[.int .i8 0, .int .i8 0, .int .i8 0, .int .i8 0, .int .i8 0, .int .i8 0, .int .i8 0, .int .i8 0, .int .i8 0, .int .i8 0, .int .i8 0, .int .i8 0, .int .i8 0, .int .i8 0] 26 (0, 0))) ∧ Aside0 (wc.heap[gb111]? = some (.cells #[.int .i8 x112000_2, .int .i8 x112001_2, .int .i8 x112002_2, .int .i8 x112003_2, .int .i8 x112004_2, .int .i8 x112005_2, .int .i8 x112006_2, .int .i8 x112007_2, .int .i8 x112008_2, .int .i8 x112009_2, .int .i8 x112010_2, .int .i8 x112011_2, .int .i8 x112012_2, .int .i8 x112013_2] 26 (0, 0))) ∧ Aside0 (Below w.heap.size w wc))
      case first =>
       have H := HC17.out
       clear HC17
       by_cases c18 : x9_2 < x6_4
       ·rw [if_pos c18] at H
        have c18b0 : decide (x9_2 < x6_4) = true := decide_eq_true c18
        clear c18
        (first | rw [c18b0] | (simp only [i64_w, i32_w]; rw [c18b0]) | skip)
        have H' := Aside0.mk H
        clear H
        go_wp2
        go_meet
        case rel => exact ⟨_, (x8_2), rs_, H', ⟨by have := HJ4.out; have := HK2.out; first | omega | exact Nat.le_refl _⟩, ⟨pl_ BK108⟩, ⟨pl_ BK109⟩, ⟨pl_ BK111⟩, ⟨bl_ HB⟩⟩
       ·rw [if_neg c18] at H
        have c18b0 : decide (x9_2 < x6_4) = false := decide_eq_false c18
        clear c18
        (first | rw [c18b0] | (simp only [i64_w, i32_w]; rw [c18b0]) | skip)
        have H' := Aside0.mk H
        clear H
        go_wp2
        go_meet
        case rel => exact ⟨_, (false), rs_, H', ⟨by have := HJ4.out; have := HK2.out; first | omega | exact Nat.le_refl _⟩, ⟨pl_ BK108⟩, ⟨pl_ BK109⟩, ⟨pl_ BK111⟩, ⟨bl_ HB⟩⟩
      case rest =>
       clear HC17
       try clear c1
       try clear c2
       try clear p2
       try clear c4
       try clear p6
       try clear c7
       try clear c8
       try clear c12
       try clear c14
       try clear c15
       try clear c18
       try clear c18b0
       try clear hcz11_0
       try clear hcz11_1
       try clear hcz11_2
       try clear hcz11_3
       try clear hcz16_0
       try clear hcz16_1
       try clear hcz16_10
       try clear hcz16_11
       try clear hcz16_12
       try clear hcz16_13
       try clear hcz16_2
       try clear hcz16_3
       try clear hcz16_4
       try clear hcz16_5
       try clear hcz16_6
       try clear hcz16_7
       try clear hcz16_8
       try clear hcz16_9
       try clear hcz9_0
       try clear hcz9_1
       try clear hcz9_2
       try clear hcz9_3
       try clear hfz11_0
       try clear hfz11_1
       try clear hfz11_2
       try clear hfz11_3
       try clear hfz16_0
       try clear hfz16_1
       try clear hfz16_10
       try clear hfz16_11
       try clear hfz16_12
       try clear hfz16_13
       try clear hfz16_2
       try clear hfz16_3
       try clear hfz16_4
       try clear hfz16_5
       try clear hfz16_6
       try clear hfz16_7
       try clear hfz16_8
       try clear hfz16_9
       try clear hfz9_0
       try clear hfz9_1
       try clear hfz9_2
       try clear hfz9_3
       try clear p2
       try clear p6
       obtain ⟨kq, x31_16, rfl, HA, HJ16, BK108, BK109, BK111, HB⟩ := hcut
       cases kq with
       | zero => exact absurd HA.out (by simp [spec_ReadWeighing.j2])
       | succ kj16 =>
        have H := HA.out
        clear HA
        simp only [spec_ReadWeighing.j2] at H
        by_cases c19 : x31_16 = true
        ·subst c19
         have H1 : (if 0 ≤ x9_2 then (if x9_2 < (a1.size : Int) then (if (bt a1 x9_2) = 45 then (if x9_2 < 14 then (spec_ReadWeighing.l0 kj16 a1 x6_4 x8_2 (wrap64 (x9_2 + 1)) a0_0 a0_1 a0_2 a0_3 (aup x9_2 0 (-1) x112000_2) (aup x9_2 1 (-1) x112001_2) (aup x9_2 2 (-1) x112002_2) (aup x9_2 3 (-1) x112003_2) (aup x9_2 4 (-1) x112004_2) (aup x9_2 5 (-1) x112005_2) (aup x9_2 6 (-1) x112006_2) (aup x9_2 7 (-1) x112007_2) (aup x9_2 8 (-1) x112008_2) (aup x9_2 9 (-1) x112009_2) (aup x9_2 10 (-1) x112010_2) (aup x9_2 11 (-1) x112011_2) (aup x9_2 12 (-1) x112012_2) (aup x9_2 13 (-1) x112013_2)) else (none)) else (if (bt a1 x9_2) = 43 then (if x9_2 < 14 then (spec_ReadWeighing.l0 kj16 a1 x6_4 x8_2 (wrap64 (x9_2 + 1)) a0_0 a0_1 a0_2 a0_3 (aup x9_2 0 1 x112000_2) (aup x9_2 1 1 x112001_2) (aup x9_2 2 1 x112002_2) (aup x9_2 3 1 x112003_2) (aup x9_2 4 1 x112004_2) (aup x9_2 5 1 x112005_2) (aup x9_2 6 1 x112006_2) (aup x9_2 7 1 x112007_2) (aup x9_2 8 1 x112008_2) (aup x9_2 9 1 x112009_2) (aup x9_2 10 1 x112010_2) (aup x9_2 11 1 x112011_2) (aup x9_2 12 1 x112012_2) (aup x9_2 13 1 x112013_2)) else (none)) else (if (bt a1 x9_2) = 48 then (spec_ReadWeighing.l0 kj16 a1 x6_4 x8_2 (wrap64 (x9_2 + 1)) a0_0 a0_1 a0_2 a0_3 x112000_2 x112001_2 x112002_2 x112003_2 x112004_2 x112005_2 x112006_2 x112007_2 x112008_2 x112009_2 x112010_2 x112011_2 x112012_2 x112013_2) else (spec_ReadWeighing.l0 kj16 a1 x6_4 false (wrap64 (x9_2 + 1)) a0_0 a0_1 a0_2 a0_3 x112000_2 x112001_2 x112002_2 x112003_2 x112004_2 x112005_2 x112006_2 x112007_2 x112008_2 x112009_2 x112010_2 x112011_2 x112012_2 x112013_2)))) else (none)) else (none)) = some (r1, r2, r3, r4, r5, r6, r7, r8, r9, r10, r11, r12, r13, r14, r15) := by rw [if_pos rfl] at H; exact H
         clear H
         have H := H1
         clear H1
         by_cases c20 : 0 ≤ x9_2
         ·rw [if_pos c20] at H
          have c20b0 : decide (0 ≤ x9_2) = true := decide_eq_true c20
          clear c20
          by_cases c21 : x9_2 < (a1.size : Int)
          ·rw [if_pos c21] at H
           have c21b0 : decide (x9_2 < (a1.size : Int)) = true := decide_eq_true c21
           clear c21
           by_cases c23 : (bt a1 x9_2) = 45
           ·rw [if_pos c23] at H
            have c23b0 : ((bt a1 x9_2) == 45) = true := beq_iff_eq.mpr c23
            have c23b1 : ((bt a1 x9_2) != 45) = false := bne_eq_false_iff_eq.mpr c23
            clear c23
            by_cases c24 : x9_2 < 14
            ·rw [if_pos c24] at H
             have c24b0 : decide (x9_2 < 14) = true := decide_eq_true c24
             clear c24
             have H' := Aside0.mk H
             clear H
             have p22 : 0 ≤ (x9_2 : Int) := asm_
             have q22 : x9_2 < (a1.size : Int) := asm_
             have hx22 := bt_at a1 x9_2
             replace p22 := eq_true p22
             replace q22 := eq_true q22
             have hnb27 := NB111_108.out
             have hnc27 := NB108_111.out
             have hnb28 := NB111_109.out
             have hnc28 := NB109_111.out
             obtain ⟨hcz29_0, hcz29_1, hcz29_2, hcz29_3, hcz29_4, hcz29_5, hcz29_6, hcz29_7, hcz29_8, hcz29_9, hcz29_10, hcz29_11, hcz29_12, hcz29_13, hfz29_0, hfz29_1, hfz29_2, hfz29_3, hfz29_4, hfz29_5, hfz29_6, hfz29_7, hfz29_8, hfz29_9, hfz29_10, hfz29_11, hfz29_12, hfz29_13⟩ := cl14_ BK111
             have p25 : 0 ≤ (x9_2 : Int) := asm_
             have q25 : (x9_2 : Int) < 14 := asm_
             have hx25 : wc.cell? ⟨gb111, (x9_2 : Int).toNat, none⟩ = some (.int .i8 (rd [x112000_2, x112001_2, x112002_2, x112003_2, x112004_2, x112005_2, x112006_2, x112007_2, x112008_2, x112009_2, x112010_2, x112011_2, x112012_2, x112013_2] x9_2)) := ard_cell (k := .i8) (l := [x112000_2, x112001_2, x112002_2, x112003_2, x112004_2, x112005_2, x112006_2, x112007_2, x112008_2, x112009_2, x112010_2, x112011_2, x112012_2, x112013_2]) BK111.out p25 q25
             have hf25 := blk_frozen BK111.out (x9_2 : Int).toNat
             have P25 := Aside0.mk p25
             have Q25 := Aside0.mk q25
             replace p25 := eq_true p25
             replace q25 := eq_true q25
             go_wp2_with (first | ((with_reducible refine gate_store (t := 22) (p := 40) rfl ?_); refine store_event (t := 22) (p := 40) (v := ?vo_w31) (w1 := (wc.setCell ⟨gb111, (x9_2 : Int).toNat, none⟩ (.int .i8 (-1)))) ?hg ?ho ?hn ?hr ?_; (case ho => rfl); (case hg => rfl); (case hn => rfl); (case hr => first | (go_simp; done) | (go_simp; rfl)); intro w31 hw; have n0_ : Aside0 (w31.heap[gb108]? = some (.cells #[.int .i8 a0_0, .int .i8 a0_1, .bool a0_2, .bool a0_3] 29 (0, 0))) := ⟨(by rw [hw]; exact (pf_ BK108 NB108_111))⟩; have n1_ : Aside0 (w31.heap[gb109]? = some (.cells #[.int .i8 0, .int .i8 0, .int .i8 0, .int .i8 0, .int .i8 0, .int .i8 0, .int .i8 0, .int .i8 0, .int .i8 0, .int .i8 0, .int .i8 0, .int .i8 0, .int .i8 0, .int .i8 0] 26 (0, 0))) := ⟨(by rw [hw]; exact (pf_ BK109 NB109_111))⟩; have n2_ : Aside0 (w31.heap[gb111]? = some (.cells #[.int .i8 (aup x9_2 0 (-1) x112000_2), .int .i8 (aup x9_2 1 (-1) x112001_2), .int .i8 (aup x9_2 2 (-1) x112002_2), .int .i8 (aup x9_2 3 (-1) x112003_2), .int .i8 (aup x9_2 4 (-1) x112004_2), .int .i8 (aup x9_2 5 (-1) x112005_2), .int .i8 (aup x9_2 6 (-1) x112006_2), .int .i8 (aup x9_2 7 (-1) x112007_2), .int .i8 (aup x9_2 8 (-1) x112008_2), .int .i8 (aup x9_2 9 (-1) x112009_2), .int .i8 (aup x9_2 10 (-1) x112010_2), .int .i8 (aup x9_2 11 (-1) x112011_2), .int .i8 (aup x9_2 12 (-1) x112012_2), .int .i8 (aup x9_2 13 (-1) x112013_2)] 26 (0, 0))) := ⟨(by rw [hw]; exact (by (with_reducible repeat (first | refine blk_drewN ?_ _ | refine blk_drew ?_ | refine blk_alloc ?_ _)); refine blk_put (cs := #[.int .i8 x112000_2, .int .i8 x112001_2, .int .i8 x112002_2, .int .i8 x112003_2, .int .i8 x112004_2, .int .i8 x112005_2, .int .i8 x112006_2, .int .i8 x112007_2, .int .i8 x112008_2, .int .i8 x112009_2, .int .i8 x112010_2, .int .i8 x112011_2, .int .i8 x112012_2, .int .i8 x112013_2]) ?_ (x9_2 : Int).toNat _ (ups_set (k := .i8) (l := [x112000_2, x112001_2, x112002_2, x112003_2, x112004_2, x112005_2, x112006_2, x112007_2, x112008_2, x112009_2, x112010_2, x112011_2, x112012_2, x112013_2]) P25.out); (with_reducible repeat (first | refine blk_drewN ?_ _ | refine blk_drew ?_ | refine blk_alloc ?_ _)); exact BK111.out))⟩; have n3_ : Aside0 (Below w.heap.size w w31) := ⟨(by rw [hw]; exact (bs_ HB GE111))⟩; clear hw; clear BK108; clear BK109; clear BK111; clear HB; have BK108 := n0_; have BK109 := n1_; have BK111 := n2_; have HB := n3_; clear n0_ n1_ n2_ n3_))
             go_roundg kj16
             case measure => have := HJ4.out; have := HK2.out; have := HJ16.out; omega
             case rel => exact ⟨(x8_2), (wrap64 (x9_2 + 1)), (aup x9_2 0 (-1) x112000_2), (aup x9_2 1 (-1) x112001_2), (aup x9_2 2 (-1) x112002_2), (aup x9_2 3 (-1) x112003_2), (aup x9_2 4 (-1) x112004_2), (aup x9_2 5 (-1) x112005_2), (aup x9_2 6 (-1) x112006_2), (aup x9_2 7 (-1) x112007_2), (aup x9_2 8 (-1) x112008_2), (aup x9_2 9 (-1) x112009_2), (aup x9_2 10 (-1) x112010_2), (aup x9_2 11 (-1) x112011_2), (aup x9_2 12 (-1) x112012_2), (aup x9_2 13 (-1) x112013_2), rs_, rs_, H', ⟨by have := HJ4.out; have := HK2.out; have := HJ16.out; omega⟩, ⟨pl_ BK108⟩, ⟨pl_ BK109⟩, ⟨pl_ BK111⟩, ⟨bl_ HB⟩⟩
            ·rw [if_neg c24] at H
             exact absurd H (by simp)
           ·rw [if_neg c23] at H
            have c23b0 : ((bt a1 x9_2) == 45) = false := beq_eq_false_iff_ne.mpr c23
            have c23b1 : ((bt a1 x9_2) != 45) = true := bne_iff_ne.mpr c23
            by_cases c32 : (bt a1 x9_2) = 43
            ·rw [if_pos c32] at H
             have c32b0 : ((bt a1 x9_2) == 43) = true := beq_iff_eq.mpr c32
             have c32b1 : ((bt a1 x9_2) != 43) = false := bne_eq_false_iff_eq.mpr c32
             clear c32
             by_cases c33 : x9_2 < 14
             ·rw [if_pos c33] at H
              have c33b0 : decide (x9_2 < 14) = true := decide_eq_true c33
              clear c33
              have H' := Aside0.mk H
              clear H
              have p22 : 0 ≤ (x9_2 : Int) := asm_
              have q22 : x9_2 < (a1.size : Int) := asm_
              have hx22 := bt_at a1 x9_2
              replace p22 := eq_true p22
              replace q22 := eq_true q22
              have hnb36 := NB111_108.out
              have hnc36 := NB108_111.out
              have hnb37 := NB111_109.out
              have hnc37 := NB109_111.out
              obtain ⟨hcz38_0, hcz38_1, hcz38_2, hcz38_3, hcz38_4, hcz38_5, hcz38_6, hcz38_7, hcz38_8, hcz38_9, hcz38_10, hcz38_11, hcz38_12, hcz38_13, hfz38_0, hfz38_1, hfz38_2, hfz38_3, hfz38_4, hfz38_5, hfz38_6, hfz38_7, hfz38_8, hfz38_9, hfz38_10, hfz38_11, hfz38_12, hfz38_13⟩ := cl14_ BK111
              have p34 : 0 ≤ (x9_2 : Int) := asm_
              have q34 : (x9_2 : Int) < 14 := asm_
              have hx34 : wc.cell? ⟨gb111, (x9_2 : Int).toNat, none⟩ = some (.int .i8 (rd [x112000_2, x112001_2, x112002_2, x112003_2, x112004_2, x112005_2, x112006_2, x112007_2, x112008_2, x112009_2, x112010_2, x112011_2, x112012_2, x112013_2] x9_2)) := ard_cell (k := .i8) (l := [x112000_2, x112001_2, x112002_2, x112003_2, x112004_2, x112005_2, x112006_2, x112007_2, x112008_2, x112009_2, x112010_2, x112011_2, x112012_2, x112013_2]) BK111.out p34 q34
              have hf34 := blk_frozen BK111.out (x9_2 : Int).toNat
              have P34 := Aside0.mk p34
              have Q34 := Aside0.mk q34
              replace p34 := eq_true p34
              replace q34 := eq_true q34
              go_wp2_with (first | ((with_reducible refine gate_store (t := 22) (p := 44) rfl ?_); refine store_event (t := 22) (p := 44) (v := ?vo_w40) (w1 := (wc.setCell ⟨gb111, (x9_2 : Int).toNat, none⟩ (.int .i8 1))) ?hg ?ho ?hn ?hr ?_; (case ho => rfl); (case hg => rfl); (case hn => rfl); (case hr => first | (go_simp; done) | (go_simp; rfl)); intro w40 hw; have n0_ : Aside0 (w40.heap[gb108]? = some (.cells #[.int .i8 a0_0, .int .i8 a0_1, .bool a0_2, .bool a0_3] 29 (0, 0))) := ⟨(by rw [hw]; exact (pf_ BK108 NB108_111))⟩; have n1_ : Aside0 (w40.heap[gb109]? = some (.cells #[.int .i8 0, .int .i8 0, .int .i8 0, .int .i8 0, .int .i8 0, .int .i8 0, .int .i8 0, .int .i8 0, .int .i8 0, .int .i8 0, .int .i8 0, .int .i8 0, .int .i8 0, .int .i8 0] 26 (0, 0))) := ⟨(by rw [hw]; exact (pf_ BK109 NB109_111))⟩; have n2_ : Aside0 (w40.heap[gb111]? = some (.cells #[.int .i8 (aup x9_2 0 1 x112000_2), .int .i8 (aup x9_2 1 1 x112001_2), .int .i8 (aup x9_2 2 1 x112002_2), .int .i8 (aup x9_2 3 1 x112003_2), .int .i8 (aup x9_2 4 1 x112004_2), .int .i8 (aup x9_2 5 1 x112005_2), .int .i8 (aup x9_2 6 1 x112006_2), .int .i8 (aup x9_2 7 1 x112007_2), .int .i8 (aup x9_2 8 1 x112008_2), .int .i8 (aup x9_2 9 1 x112009_2), .int .i8 (aup x9_2 10 1 x112010_2), .int .i8 (aup x9_2 11 1 x112011_2), .int .i8 (aup x9_2 12 1 x112012_2), .int .i8 (aup x9_2 13 1 x112013_2)] 26 (0, 0))) := ⟨(by rw [hw]; exact (by (with_reducible repeat (first | refine blk_drewN ?_ _ | refine blk_drew ?_ | refine blk_alloc ?_ _)); refine blk_put (cs := #[.int .i8 x112000_2, .int .i8 x112001_2, .int .i8 x112002_2, .int .i8 x112003_2, .int .i8 x112004_2, .int .i8 x112005_2, .int .i8 x112006_2, .int .i8 x112007_2, .int .i8 x112008_2, .int .i8 x112009_2, .int .i8 x112010_2, .int .i8 x112011_2, .int .i8 x112012_2, .int .i8 x112013_2]) ?_ (x9_2 : Int).toNat _ (ups_set (k := .i8) (l := [x112000_2, x112001_2, x112002_2, x112003_2, x112004_2, x112005_2, x112006_2, x112007_2, x112008_2, x112009_2, x112010_2, x112011_2, x112012_2, x112013_2]) P34.out); (with_reducible repeat (first | refine blk_drewN ?_ _ | refine blk_drew ?_ | refine blk_alloc ?_ _)); exact BK111.out))⟩; have n3_ : Aside0 (Below w.heap.size w w40) := ⟨(by rw [hw]; exact (bs_ HB GE111))⟩; clear hw; clear BK108; clear BK109; clear BK111; clear HB; have BK108 := n0_; have BK109 := n1_; have BK111 := n2_; have HB := n3_; clear n0_ n1_ n2_ n3_))
              go_roundg kj16
              case measure => have := HJ4.out; have := HK2.out; have := HJ16.out; omega
              case rel => exact ⟨(x8_2), (wrap64 (x9_2 + 1)), (aup x9_2 0 1 x112000_2), (aup x9_2 1 1 x112001_2), (aup x9_2 2 1 x112002_2), (aup x9_2 3 1 x112003_2), (aup x9_2 4 1 x112004_2), (aup x9_2 5 1 x112005_2), (aup x9_2 6 1 x112006_2), (aup x9_2 7 1 x112007_2), (aup x9_2 8 1 x112008_2), (aup x9_2 9 1 x112009_2), (aup x9_2 10 1 x112010_2), (aup x9_2 11 1 x112011_2), (aup x9_2 12 1 x112012_2), (aup x9_2 13 1 x112013_2), rs_, rs_, H', ⟨by have := HJ4.out; have := HK2.out; have := HJ16.out; omega⟩, ⟨pl_ BK108⟩, ⟨pl_ BK109⟩, ⟨pl_ BK111⟩, ⟨bl_ HB⟩⟩
             ·rw [if_neg c33] at H
              exact absurd H (by simp)
            ·rw [if_neg c32] at H
             have c32b0 : ((bt a1 x9_2) == 43) = false := beq_eq_false_iff_ne.mpr c32
             have c32b1 : ((bt a1 x9_2) != 43) = true := bne_iff_ne.mpr c32
             by_cases c41 : (bt a1 x9_2) = 48
             ·rw [if_pos c41] at H
              have c41b0 : ((bt a1 x9_2) == 48) = true := beq_iff_eq.mpr c41
              have c41b1 : ((bt a1 x9_2) != 48) = false := bne_eq_false_iff_eq.mpr c41
              clear c41
              have H' := Aside0.mk H
              clear H
              have p22 : 0 ≤ (x9_2 : Int) := asm_
              have q22 : x9_2 < (a1.size : Int) := asm_
              have hx22 := bt_at a1 x9_2
              replace p22 := eq_true p22
              replace q22 := eq_true q22
              go_wp2
              go_roundg kj16
              case measure => have := HJ4.out; have := HK2.out; have := HJ16.out; omega
              case rel => exact ⟨(x8_2), (wrap64 (x9_2 + 1)), (x112000_2), (x112001_2), (x112002_2), (x112003_2), (x112004_2), (x112005_2), (x112006_2), (x112007_2), (x112008_2), (x112009_2), (x112010_2), (x112011_2), (x112012_2), (x112013_2), rs_, rs_, H', ⟨by have := HJ4.out; have := HK2.out; have := HJ16.out; omega⟩, ⟨pl_ BK108⟩, ⟨pl_ BK109⟩, ⟨pl_ BK111⟩, ⟨bl_ HB⟩⟩
             ·rw [if_neg c41] at H
              have c41b0 : ((bt a1 x9_2) == 48) = false := beq_eq_false_iff_ne.mpr c41
              have c41b1 : ((bt a1 x9_2) != 48) = true := bne_iff_ne.mpr c41
              have H' := Aside0.mk H
              clear H
              have p22 : 0 ≤ (x9_2 : Int) := asm_
              have q22 : x9_2 < (a1.size : Int) := asm_
              have hx22 := bt_at a1 x9_2
              replace p22 := eq_true p22
              replace q22 := eq_true q22
              go_wp2
              go_roundg kj16
              case measure => have := HJ4.out; have := HK2.out; have := HJ16.out; omega
              case rel => exact ⟨(false), (wrap64 (x9_2 + 1)), (x112000_2), (x112001_2), (x112002_2), (x112003_2), (x112004_2), (x112005_2), (x112006_2), (x112007_2), (x112008_2), (x112009_2), (x112010_2), (x112011_2), (x112012_2), (x112013_2), rs_, rs_, H', ⟨by have := HJ4.out; have := HK2.out; have := HJ16.out; omega⟩, ⟨pl_ BK108⟩, ⟨pl_ BK109⟩, ⟨pl_ BK111⟩, ⟨bl_ HB⟩⟩
          ·rw [if_neg c21] at H
           exact absurd H (by simp)
         ·rw [if_neg c20] at H
          exact absurd H (by simp)
        ·replace c19 := Bool.eq_false_iff.mpr c19
         subst c19
         have H1 : (if x8_2 = true then ((spec_l03Weighing.f kj16 a0_0 a0_1 a0_2 a0_3 x112000_2 x112001_2 x112002_2 x112003_2 x112004_2 x112005_2 x112006_2 x112007_2 x112008_2 x112009_2 x112010_2 x112011_2 x112012_2 x112013_2).bind fun t112 => (if t112 = true then (some (x112000_2, x112001_2, x112002_2, x112003_2, x112004_2, x112005_2, x112006_2, x112007_2, x112008_2, x112009_2, x112010_2, x112011_2, x112012_2, x112013_2, 0)) else (some (0, 0, 0, 0, 0, 0, 0, 0, 0, 0, 0, 0, 0, 0, 5)))) else (some (0, 0, 0, 0, 0, 0, 0, 0, 0, 0, 0, 0, 0, 0, 5))) = some (r1, r2, r3, r4, r5, r6, r7, r8, r9, r10, r11, r12, r13, r14, r15) := by rw [if_neg (show ¬ (false = true) by decide)] at H; exact H
         clear H
         have H := H1
         clear H1
         by_cases c42 : x8_2 = true
         ·subst c42
          have H1 : ((spec_l03Weighing.f kj16 a0_0 a0_1 a0_2 a0_3 x112000_2 x112001_2 x112002_2 x112003_2 x112004_2 x112005_2 x112006_2 x112007_2 x112008_2 x112009_2 x112010_2 x112011_2 x112012_2 x112013_2).bind fun t112 => (if t112 = true then (some (x112000_2, x112001_2, x112002_2, x112003_2, x112004_2, x112005_2, x112006_2, x112007_2, x112008_2, x112009_2, x112010_2, x112011_2, x112012_2, x112013_2, 0)) else (some (0, 0, 0, 0, 0, 0, 0, 0, 0, 0, 0, 0, 0, 0, 5)))) = some (r1, r2, r3, r4, r5, r6, r7, r8, r9, r10, r11, r12, r13, r14, r15) := by rw [if_pos rfl] at H; exact H
          clear H
          have H := H1
          clear H1
          replace H := Option.bind_eq_some_iff.mp H
          obtain ⟨t112, A430, H⟩ := H
          replace H : (if t112 = true then (some (x112000_2, x112001_2, x112002_2, x112003_2, x112004_2, x112005_2, x112006_2, x112007_2, x112008_2, x112009_2, x112010_2, x112011_2, x112012_2, x112013_2, 0)) else (some (0, 0, 0, 0, 0, 0, 0, 0, 0, 0, 0, 0, 0, 0, 5))) = some (r1, r2, r3, r4, r5, r6, r7, r8, r9, r10, r11, r12, r13, r14, r15) := H
          have A43 := Aside0.mk A430
          clear A430
          by_cases c44 : t112 = true
          ·subst c44
           have H1 : (some (x112000_2, x112001_2, x112002_2, x112003_2, x112004_2, x112005_2, x112006_2, x112007_2, x112008_2, x112009_2, x112010_2, x112011_2, x112012_2, x112013_2, 0)) = some (r1, r2, r3, r4, r5, r6, r7, r8, r9, r10, r11, r12, r13, r14, r15) := by rw [if_pos rfl] at H; exact H
           clear H
           have H := H1
           clear H1
           simp only [Option.some.injEq, Prod.mk.injEq] at H
           obtain ⟨rfl, rfl, rfl, rfl, rfl, rfl, rfl, rfl, rfl, rfl, rfl, rfl, rfl, rfl, rfl⟩ := H
           have hnb45 := NB108_109.out
           have hnc45 := NB109_108.out
           have hnb46 := NB108_111.out
           have hnc46 := NB111_108.out
           obtain ⟨hcz47_0, hcz47_1, hcz47_2, hcz47_3, hfz47_0, hfz47_1, hfz47_2, hfz47_3⟩ := cl4_ BK108
           have hnb48 := NB111_109.out
           have hnc48 := NB109_111.out
           obtain ⟨hcz49_0, hcz49_1, hcz49_2, hcz49_3, hcz49_4, hcz49_5, hcz49_6, hcz49_7, hcz49_8, hcz49_9, hcz49_10, hcz49_11, hcz49_12, hcz49_13, hfz49_0, hfz49_1, hfz49_2, hfz49_3, hfz49_4, hfz49_5, hfz49_6, hfz49_7, hfz49_8, hfz49_9, hfz49_10, hfz49_11, hfz49_12, hfz49_13⟩ := cl14_ BK111
           go_wp2_with (first | (go_at_call 23; (with_reducible refine (spec_l03Weighing.calls kj16 a0_0 a0_1 a0_2 a0_3 x112000_2 x112001_2 x112002_2 x112003_2 x112004_2 x112005_2 x112006_2 x112007_2 x112008_2 x112009_2 x112010_2 x112011_2 x112012_2 x112013_2 true _ A43.out).mono ?_); rintro e w50 ⟨rfl, hb⟩; have n0_ := A_ (blk_below (pl_ BK108) hb); have n1_ := A_ (blk_below (pl_ BK109) hb); have n2_ := A_ (blk_below (pl_ BK111) hb); have n3_ := A_ (below_step (bl_ HB) hb); clear BK108; clear BK109; clear BK111; clear HB; have BK108 := n0_; have BK109 := n1_; have BK111 := n2_; have HB := n3_; clear n0_ n1_ n2_ n3_; (try clear hb); (try clear hb2); (try clear hk); (try clear hi); obtain ⟨hcz51_0, hcz51_1, hcz51_2, hcz51_3, hcz51_4, hcz51_5, hcz51_6, hcz51_7, hcz51_8, hcz51_9, hcz51_10, hcz51_11, hcz51_12, hcz51_13, hfz51_0, hfz51_1, hfz51_2, hfz51_3, hfz51_4, hfz51_5, hfz51_6, hfz51_7, hfz51_8, hfz51_9, hfz51_10, hfz51_11, hfz51_12, hfz51_13⟩ := cl14_ BK111; obtain ⟨hcz52_0, hcz52_1, hcz52_2, hcz52_3, hcz52_4, hcz52_5, hcz52_6, hcz52_7, hcz52_8, hcz52_9, hcz52_10, hcz52_11, hcz52_12, hcz52_13, hfz52_0, hfz52_1, hfz52_2, hfz52_3, hfz52_4, hfz52_5, hfz52_6, hfz52_7, hfz52_8, hfz52_9, hfz52_10, hfz52_11, hfz52_12, hfz52_13⟩ := cl14_ BK109))
           refine bodyPost_ret (results_ct rfl _ _ gb109 26 #[.int .i8 x112000_2, .int .i8 x112001_2, .int .i8 x112002_2, .int .i8 x112003_2, .int .i8 x112004_2, .int .i8 x112005_2, .int .i8 x112006_2, .int .i8 x112007_2, .int .i8 x112008_2, .int .i8 x112009_2, .int .i8 x112010_2, .int .i8 x112011_2, .int .i8 x112012_2, .int .i8 x112013_2] (0, 0) _ rfl (by (with_reducible repeat (first | refine blk_drewN ?_ _ | refine blk_drew ?_ | refine blk_alloc ?_ _)); refine blk_put (cs := #[.int .i8 x112000_2, .int .i8 x112001_2, .int .i8 x112002_2, .int .i8 x112003_2, .int .i8 x112004_2, .int .i8 x112005_2, .int .i8 x112006_2, .int .i8 x112007_2, .int .i8 x112008_2, .int .i8 x112009_2, .int .i8 x112010_2, .int .i8 x112011_2, .int .i8 x112012_2, .int .i8 0]) ?_ 13 _ rfl; (with_reducible repeat (first | refine blk_drewN ?_ _ | refine blk_drew ?_ | refine blk_alloc ?_ _)); refine blk_put (cs := #[.int .i8 x112000_2, .int .i8 x112001_2, .int .i8 x112002_2, .int .i8 x112003_2, .int .i8 x112004_2, .int .i8 x112005_2, .int .i8 x112006_2, .int .i8 x112007_2, .int .i8 x112008_2, .int .i8 x112009_2, .int .i8 x112010_2, .int .i8 x112011_2, .int .i8 0, .int .i8 0]) ?_ 12 _ rfl; (with_reducible repeat (first | refine blk_drewN ?_ _ | refine blk_drew ?_ | refine blk_alloc ?_ _)); refine blk_put (cs := #[.int .i8 x112000_2, .int .i8 x112001_2, .int .i8 x112002_2, .int .i8 x112003_2, .int .i8 x112004_2, .int .i8 x112005_2, .int .i8 x112006_2, .int .i8 x112007_2, .int .i8 x112008_2, .int .i8 x112009_2, .int .i8 x112010_2, .int .i8 0, .int .i8 0, .int .i8 0]) ?_ 11 _ rfl; (with_reducible repeat (first | refine blk_drewN ?_ _ | refine blk_drew ?_ | refine blk_alloc ?_ _)); refine blk_put (cs := #[.int .i8 x112000_2, .int .i8 x112001_2, .int .i8 x112002_2, .int .i8 x112003_2, .int .i8 x112004_2, .int .i8 x112005_2, .int .i8 x112006_2, .int .i8 x112007_2, .int .i8 x112008_2, .int .i8 x112009_2, .int .i8 0, .int .i8 0, .int .i8 0, .int .i8 0]) ?_ 10 _ rfl; (with_reducible repeat (first | refine blk_drewN ?_ _ | refine blk_drew ?_ | refine blk_alloc ?_ _)); refine blk_put (cs := #[.int .i8 x112000_2, .int .i8 x112001_2, .int .i8 x112002_2, .int .i8 x112003_2, .int .i8 x112004_2, .int .i8 x112005_2, .int .i8 x112006_2, .int .i8 x112007_2, .int .i8 x112008_2, .int .i8 0, .int .i8 0, .int .i8 0, .int .i8 0, .int .i8 0]) ?_ 9 _ rfl; (with_reducible repeat (first | refine blk_drewN ?_ _ | refine blk_drew ?_ | refine blk_alloc ?_ _)); refine blk_put (cs := #[.int .i8 x112000_2, .int .i8 x112001_2, .int .i8 x112002_2, .int .i8 x112003_2, .int .i8 x112004_2, .int .i8 x112005_2, .int .i8 x112006_2, .int .i8 x112007_2, .int .i8 0, .int .i8 0, .int .i8 0, .int .i8 0, .int .i8 0, .int .i8 0]) ?_ 8 _ rfl; (with_reducible repeat (first | refine blk_drewN ?_ _ | refine blk_drew ?_ | refine blk_alloc ?_ _)); refine blk_put (cs := #[.int .i8 x112000_2, .int .i8 x112001_2, .int .i8 x112002_2, .int .i8 x112003_2, .int .i8 x112004_2, .int .i8 x112005_2, .int .i8 x112006_2, .int .i8 0, .int .i8 0, .int .i8 0, .int .i8 0, .int .i8 0, .int .i8 0, .int .i8 0]) ?_ 7 _ rfl; (with_reducible repeat (first | refine blk_drewN ?_ _ | refine blk_drew ?_ | refine blk_alloc ?_ _)); refine blk_put (cs := #[.int .i8 x112000_2, .int .i8 x112001_2, .int .i8 x112002_2, .int .i8 x112003_2, .int .i8 x112004_2, .int .i8 x112005_2, .int .i8 0, .int .i8 0, .int .i8 0, .int .i8 0, .int .i8 0, .int .i8 0, .int .i8 0, .int .i8 0]) ?_ 6 _ rfl; (with_reducible repeat (first | refine blk_drewN ?_ _ | refine blk_drew ?_ | refine blk_alloc ?_ _)); refine blk_put (cs := #[.int .i8 x112000_2, .int .i8 x112001_2, .int .i8 x112002_2, .int .i8 x112003_2, .int .i8 x112004_2, .int .i8 0, .int .i8 0, .int .i8 0, .int .i8 0, .int .i8 0, .int .i8 0, .int .i8 0, .int .i8 0, .int .i8 0]) ?_ 5 _ rfl; (with_reducible repeat (first | refine blk_drewN ?_ _ | refine blk_drew ?_ | refine blk_alloc ?_ _)); refine blk_put (cs := #[.int .i8 x112000_2, .int .i8 x112001_2, .int .i8 x112002_2, .int .i8 x112003_2, .int .i8 0, .int .i8 0, .int .i8 0, .int .i8 0, .int .i8 0, .int .i8 0, .int .i8 0, .int .i8 0, .int .i8 0, .int .i8 0]) ?_ 4 _ rfl; (with_reducible repeat (first | refine blk_drewN ?_ _ | refine blk_drew ?_ | refine blk_alloc ?_ _)); refine blk_put (cs := #[.int .i8 x112000_2, .int .i8 x112001_2, .int .i8 x112002_2, .int .i8 0, .int .i8 0, .int .i8 0, .int .i8 0, .int .i8 0, .int .i8 0, .int .i8 0, .int .i8 0, .int .i8 0, .int .i8 0, .int .i8 0]) ?_ 3 _ rfl; (with_reducible repeat (first | refine blk_drewN ?_ _ | refine blk_drew ?_ | refine blk_alloc ?_ _)); refine blk_put (cs := #[.int .i8 x112000_2, .int .i8 x112001_2, .int .i8 0, .int .i8 0, .int .i8 0, .int .i8 0, .int .i8 0, .int .i8 0, .int .i8 0, .int .i8 0, .int .i8 0, .int .i8 0, .int .i8 0, .int .i8 0]) ?_ 2 _ rfl; (with_reducible repeat (first | refine blk_drewN ?_ _ | refine blk_drew ?_ | refine blk_alloc ?_ _)); refine blk_put (cs := #[.int .i8 x112000_2, .int .i8 0, .int .i8 0, .int .i8 0, .int .i8 0, .int .i8 0, .int .i8 0, .int .i8 0, .int .i8 0, .int .i8 0, .int .i8 0, .int .i8 0, .int .i8 0, .int .i8 0]) ?_ 1 _ rfl; (with_reducible repeat (first | refine blk_drewN ?_ _ | refine blk_drew ?_ | refine blk_alloc ?_ _)); refine blk_put (cs := #[.int .i8 0, .int .i8 0, .int .i8 0, .int .i8 0, .int .i8 0, .int .i8 0, .int .i8 0, .int .i8 0, .int .i8 0, .int .i8 0, .int .i8 0, .int .i8 0, .int .i8 0, .int .i8 0]) ?_ 0 _ rfl; (with_reducible repeat (first | refine blk_drewN ?_ _ | refine blk_drew ?_ | refine blk_alloc ?_ _)); exact BK109.out) Try.underlying26 rfl (by kernel_rfl)) rfl ?_
           exact ⟨by first | rfl | (simp [errW_none, errW_some] <;> rfl) | (simp [*, errW_none, errW_some] <;> rfl), bs_ HB GE109⟩
          ·replace c44 := Bool.eq_false_iff.mpr c44
           subst c44
           have H1 : (some (0, 0, 0, 0, 0, 0, 0, 0, 0, 0, 0, 0, 0, 0, 5)) = some (r1, r2, r3, r4, r5, r6, r7, r8, r9, r10, r11, r12, r13, r14, r15) := by rw [if_neg (show ¬ (false = true) by decide)] at H; exact H
           clear H
           have H := H1
           clear H1
           simp only [Option.some.injEq, Prod.mk.injEq] at H
           obtain ⟨rfl, rfl, rfl, rfl, rfl, rfl, rfl, rfl, rfl, rfl, rfl, rfl, rfl, rfl, rfl⟩ := H
           have hnb53 := NB108_109.out
           have hnc53 := NB109_108.out
           have hnb54 := NB108_111.out
           have hnc54 := NB111_108.out
           obtain ⟨hcz55_0, hcz55_1, hcz55_2, hcz55_3, hfz55_0, hfz55_1, hfz55_2, hfz55_3⟩ := cl4_ BK108
           have hnb56 := NB111_109.out
           have hnc56 := NB109_111.out
           obtain ⟨hcz57_0, hcz57_1, hcz57_2, hcz57_3, hcz57_4, hcz57_5, hcz57_6, hcz57_7, hcz57_8, hcz57_9, hcz57_10, hcz57_11, hcz57_12, hcz57_13, hfz57_0, hfz57_1, hfz57_2, hfz57_3, hfz57_4, hfz57_5, hfz57_6, hfz57_7, hfz57_8, hfz57_9, hfz57_10, hfz57_11, hfz57_12, hfz57_13⟩ := cl14_ BK111
           go_wp2_with (first | (go_at_call 23; (with_reducible refine (spec_l03Weighing.calls kj16 a0_0 a0_1 a0_2 a0_3 x112000_2 x112001_2 x112002_2 x112003_2 x112004_2 x112005_2 x112006_2 x112007_2 x112008_2 x112009_2 x112010_2 x112011_2 x112012_2 x112013_2 false _ A43.out).mono ?_); rintro e w58 ⟨rfl, hb⟩; have n0_ := A_ (blk_below (pl_ BK108) hb); have n1_ := A_ (blk_below (pl_ BK109) hb); have n2_ := A_ (blk_below (pl_ BK111) hb); have n3_ := A_ (below_step (bl_ HB) hb); clear BK108; clear BK109; clear BK111; clear HB; have BK108 := n0_; have BK109 := n1_; have BK111 := n2_; have HB := n3_; clear n0_ n1_ n2_ n3_; (try clear hb); (try clear hb2); (try clear hk); (try clear hi); obtain ⟨hcz59_0, hcz59_1, hcz59_2, hcz59_3, hcz59_4, hcz59_5, hcz59_6, hcz59_7, hcz59_8, hcz59_9, hcz59_10, hcz59_11, hcz59_12, hcz59_13, hfz59_0, hfz59_1, hfz59_2, hfz59_3, hfz59_4, hfz59_5, hfz59_6, hfz59_7, hfz59_8, hfz59_9, hfz59_10, hfz59_11, hfz59_12, hfz59_13⟩ := cl14_ BK109))
           refine bodyPost_ret (results_ct rfl _ _ gb109 26 #[.int .i8 0, .int .i8 0, .int .i8 0, .int .i8 0, .int .i8 0, .int .i8 0, .int .i8 0, .int .i8 0, .int .i8 0, .int .i8 0, .int .i8 0, .int .i8 0, .int .i8 0, .int .i8 0] (0, 0) _ rfl (by (with_reducible repeat (first | refine blk_drewN ?_ _ | refine blk_drew ?_ | refine blk_alloc ?_ _)); refine blk_put (cs := #[.int .i8 0, .int .i8 0, .int .i8 0, .int .i8 0, .int .i8 0, .int .i8 0, .int .i8 0, .int .i8 0, .int .i8 0, .int .i8 0, .int .i8 0, .int .i8 0, .int .i8 0, .int .i8 0]) ?_ 13 _ rfl; (with_reducible repeat (first | refine blk_drewN ?_ _ | refine blk_drew ?_ | refine blk_alloc ?_ _)); refine blk_put (cs := #[.int .i8 0, .int .i8 0, .int .i8 0, .int .i8 0, .int .i8 0, .int .i8 0, .int .i8 0, .int .i8 0, .int .i8 0, .int .i8 0, .int .i8 0, .int .i8 0, .int .i8 0, .int .i8 0]) ?_ 12 _ rfl; (with_reducible repeat (first | refine blk_drewN ?_ _ | refine blk_drew ?_ | refine blk_alloc ?_ _)); refine blk_put (cs := #[.int .i8 0, .int .i8 0, .int .i8 0, .int .i8 0, .int .i8 0, .int .i8 0, .int .i8 0, .int .i8 0, .int .i8 0, .int .i8 0, .int .i8 0, .int .i8 0, .int .i8 0, .int .i8 0]) ?_ 11 _ rfl; (with_reducible repeat (first | refine blk_drewN ?_ _ | refine blk_drew ?_ | refine blk_alloc ?_ _)); refine blk_put (cs := #[.int .i8 0, .int .i8 0, .int .i8 0, .int .i8 0, .int .i8 0, .int .i8 0, .int .i8 0, .int .i8 0, .int .i8 0, .int .i8 0, .int .i8 0, .int .i8 0, .int .i8 0, .int .i8 0]) ?_ 10 _ rfl; (with_reducible repeat (first | refine blk_drewN ?_ _ | refine blk_drew ?_ | refine blk_alloc ?_ _)); refine blk_put (cs := #[.int .i8 0, .int .i8 0, .int .i8 0, .int .i8 0, .int .i8 0, .int .i8 0, .int .i8 0, .int .i8 0, .int .i8 0, .int .i8 0, .int .i8 0, .int .i8 0, .int .i8 0, .int .i8 0]) ?_ 9 _ rfl; (with_reducible repeat (first | refine blk_drewN ?_ _ | refine blk_drew ?_ | refine blk_alloc ?_ _)); refine blk_put (cs := #[.int .i8 0, .int .i8 0, .int .i8 0, .int .i8 0, .int .i8 0, .int .i8 0, .int .i8 0, .int .i8 0, .int .i8 0, .int .i8 0, .int .i8 0, .int .i8 0, .int .i8 0, .int .i8 0]) ?_ 8 _ rfl; (with_reducible repeat (first | refine blk_drewN ?_ _ | refine blk_drew ?_ | refine blk_alloc ?_ _)); refine blk_put (cs := #[.int .i8 0, .int .i8 0, .int .i8 0, .int .i8 0, .int .i8 0, .int .i8 0, .int .i8 0, .int .i8 0, .int .i8 0, .int .i8 0, .int .i8 0, .int .i8 0, .int .i8 0, .int .i8 0]) ?_ 7 _ rfl; (with_reducible repeat (first | refine blk_drewN ?_ _ | refine blk_drew ?_ | refine blk_alloc ?_ _)); refine blk_put (cs := #[.int .i8 0, .int .i8 0, .int .i8 0, .int .i8 0, .int .i8 0, .int .i8 0, .int .i8 0, .int .i8 0, .int .i8 0, .int .i8 0, .int .i8 0, .int .i8 0, .int .i8 0, .int .i8 0]) ?_ 6 _ rfl; (with_reducible repeat (first | refine blk_drewN ?_ _ | refine blk_drew ?_ | refine blk_alloc ?_ _)); refine blk_put (cs := #[.int .i8 0, .int .i8 0, .int .i8 0, .int .i8 0, .int .i8 0, .int .i8 0, .int .i8 0, .int .i8 0, .int .i8 0, .int .i8 0, .int .i8 0, .int .i8 0, .int .i8 0, .int .i8 0]) ?_ 5 _ rfl; (with_reducible repeat (first | refine blk_drewN ?_ _ | refine blk_drew ?_ | refine blk_alloc ?_ _)); refine blk_put (cs := #[.int .i8 0, .int .i8 0, .int .i8 0, .int .i8 0, .int .i8 0, .int .i8 0, .int .i8 0, .int .i8 0, .int .i8 0, .int .i8 0, .int .i8 0, .int .i8 0, .int .i8 0, .int .i8 0]) ?_ 4 _ rfl; (with_reducible repeat (first | refine blk_drewN ?_ _ | refine blk_drew ?_ | refine blk_alloc ?_ _)); refine blk_put (cs := #[.int .i8 0, .int .i8 0, .int .i8 0, .int .i8 0, .int .i8 0, .int .i8 0, .int .i8 0, .int .i8 0, .int .i8 0, .int .i8 0, .int .i8 0, .int .i8 0, .int .i8 0, .int .i8 0]) ?_ 3 _ rfl; (with_reducible repeat (first | refine blk_drewN ?_ _ | refine blk_drew ?_ | refine blk_alloc ?_ _)); refine blk_put (cs := #[.int .i8 0, .int .i8 0, .int .i8 0, .int .i8 0, .int .i8 0, .int .i8 0, .int .i8 0, .int .i8 0, .int .i8 0, .int .i8 0, .int .i8 0, .int .i8 0, .int .i8 0, .int .i8 0]) ?_ 2 _ rfl; (with_reducible repeat (first | refine blk_drewN ?_ _ | refine blk_drew ?_ | refine blk_alloc ?_ _)); refine blk_put (cs := #[.int .i8 0, .int .i8 0, .int .i8 0, .int .i8 0, .int .i8 0, .int .i8 0, .int .i8 0, .int .i8 0, .int .i8 0, .int .i8 0, .int .i8 0, .int .i8 0, .int .i8 0, .int .i8 0]) ?_ 1 _ rfl; (with_reducible repeat (first | refine blk_drewN ?_ _ | refine blk_drew ?_ | refine blk_alloc ?_ _)); refine blk_put (cs := #[.int .i8 0, .int .i8 0, .int .i8 0, .int .i8 0, .int .i8 0, .int .i8 0, .int .i8 0, .int .i8 0, .int .i8 0, .int .i8 0, .int .i8 0, .int .i8 0, .int .i8 0, .int .i8 0]) ?_ 0 _ rfl; (with_reducible repeat (first | refine blk_drewN ?_ _ | refine blk_drew ?_ | refine blk_alloc ?_ _)); exact BK109.out) Try.underlying26 rfl (by kernel_rfl)) rfl ?_
           exact ⟨by first | rfl | (simp [errW_none, errW_some] <;> rfl) | (simp [*, errW_none, errW_some] <;> rfl), bs_ HB GE109⟩
         ·replace c42 := Bool.eq_false_iff.mpr c42
          subst c42
          have H1 : (some (0, 0, 0, 0, 0, 0, 0, 0, 0, 0, 0, 0, 0, 0, 5)) = some (r1, r2, r3, r4, r5, r6, r7, r8, r9, r10, r11, r12, r13, r14, r15) := by rw [if_neg (show ¬ (false = true) by decide)] at H; exact H
          clear H
          have H := H1
          clear H1
          simp only [Option.some.injEq, Prod.mk.injEq] at H
          obtain ⟨rfl, rfl, rfl, rfl, rfl, rfl, rfl, rfl, rfl, rfl, rfl, rfl, rfl, rfl, rfl⟩ := H
          have hnb60 := NB109_108.out
          have hnc60 := NB108_109.out
          have hnb61 := NB109_111.out
          have hnc61 := NB111_109.out
          obtain ⟨hcz62_0, hcz62_1, hcz62_2, hcz62_3, hcz62_4, hcz62_5, hcz62_6, hcz62_7, hcz62_8, hcz62_9, hcz62_10, hcz62_11, hcz62_12, hcz62_13, hfz62_0, hfz62_1, hfz62_2, hfz62_3, hfz62_4, hfz62_5, hfz62_6, hfz62_7, hfz62_8, hfz62_9, hfz62_10, hfz62_11, hfz62_12, hfz62_13⟩ := cl14_ BK109
          go_wp2
          refine bodyPost_ret (results_ct rfl _ _ gb109 26 #[.int .i8 0, .int .i8 0, .int .i8 0, .int .i8 0, .int .i8 0, .int .i8 0, .int .i8 0, .int .i8 0, .int .i8 0, .int .i8 0, .int .i8 0, .int .i8 0, .int .i8 0, .int .i8 0] (0, 0) _ rfl (by (with_reducible repeat (first | refine blk_drewN ?_ _ | refine blk_drew ?_ | refine blk_alloc ?_ _)); refine blk_put (cs := #[.int .i8 0, .int .i8 0, .int .i8 0, .int .i8 0, .int .i8 0, .int .i8 0, .int .i8 0, .int .i8 0, .int .i8 0, .int .i8 0, .int .i8 0, .int .i8 0, .int .i8 0, .int .i8 0]) ?_ 13 _ rfl; (with_reducible repeat (first | refine blk_drewN ?_ _ | refine blk_drew ?_ | refine blk_alloc ?_ _)); refine blk_put (cs := #[.int .i8 0, .int .i8 0, .int .i8 0, .int .i8 0, .int .i8 0, .int .i8 0, .int .i8 0, .int .i8 0, .int .i8 0, .int .i8 0, .int .i8 0, .int .i8 0, .int .i8 0, .int .i8 0]) ?_ 12 _ rfl; (with_reducible repeat (first | refine blk_drewN ?_ _ | refine blk_drew ?_ | refine blk_alloc ?_ _)); refine blk_put (cs := #[.int .i8 0, .int .i8 0, .int .i8 0, .int .i8 0, .int .i8 0, .int .i8 0, .int .i8 0, .int .i8 0, .int .i8 0, .int .i8 0, .int .i8 0, .int .i8 0, .int .i8 0, .int .i8 0]) ?_ 11 _ rfl; (with_reducible repeat (first | refine blk_drewN ?_ _ | refine blk_drew ?_ | refine blk_alloc ?_ _)); refine blk_put (cs := #[.int .i8 0, .int .i8 0, .int .i8 0, .int .i8 0, .int .i8 0, .int .i8 0, .int .i8 0, .int .i8 0, .int .i8 0, .int .i8 0, .int .i8 0, .int .i8 0, .int .i8 0, .int .i8 0]) ?_ 10 _ rfl; (with_reducible repeat (first | refine blk_drewN ?_ _ | refine blk_drew ?_ | refine blk_alloc ?_ _)); refine blk_put (cs := #[.int .i8 0, .int .i8 0, .int .i8 0, .int .i8 0, .int .i8 0, .int .i8 0, .int .i8 0, .int .i8 0, .int .i8 0, .int .i8 0, .int .i8 0, .int .i8 0, .int .i8 0, .int .i8 0]) ?_ 9 _ rfl; (with_reducible repeat (first | refine blk_drewN ?_ _ | refine blk_drew ?_ | refine blk_alloc ?_ _)); refine blk_put (cs := #[.int .i8 0, .int .i8 0, .int .i8 0, .int .i8 0, .int .i8 0, .int .i8 0, .int .i8 0, .int .i8 0, .int .i8 0, .int .i8 0, .int .i8 0, .int .i8 0, .int .i8 0, .int .i8 0]) ?_ 8 _ rfl; (with_reducible repeat (first | refine blk_drewN ?_ _ | refine blk_drew ?_ | refine blk_alloc ?_ _)); refine blk_put (cs := #[.int .i8 0, .int .i8 0, .int .i8 0, .int .i8 0, .int .i8 0, .int .i8 0, .int .i8 0, .int .i8 0, .int .i8 0, .int .i8 0, .int .i8 0, .int .i8 0, .int .i8 0, .int .i8 0]) ?_ 7 _ rfl; (with_reducible repeat (first | refine blk_drewN ?_ _ | refine blk_drew ?_ | refine blk_alloc ?_ _)); refine blk_put (cs := #[.int .i8 0, .int .i8 0, .int .i8 0, .int .i8 0, .int .i8 0, .int .i8 0, .int .i8 0, .int .i8 0, .int .i8 0, .int .i8 0, .int .i8 0, .int .i8 0, .int .i8 0, .int .i8 0]) ?_ 6 _ rfl; (with_reducible repeat (first | refine blk_drewN ?_ _ | refine blk_drew ?_ | refine blk_alloc ?_ _)); refine blk_put (cs := #[.int .i8 0, .int .i8 0, .int .i8 0, .int .i8 0, .int .i8 0, .int .i8 0, .int .i8 0, .int .i8 0, .int .i8 0, .int .i8 0, .int .i8 0, .int .i8 0, .int .i8 0, .int .i8 0]) ?_ 5 _ rfl; (with_reducible repeat (first | refine blk_drewN ?_ _ | refine blk_drew ?_ | refine blk_alloc ?_ _)); refine blk_put (cs := #[.int .i8 0, .int .i8 0, .int .i8 0, .int .i8 0, .int .i8 0, .int .i8 0, .int .i8 0, .int .i8 0, .int .i8 0, .int .i8 0, .int .i8 0, .int .i8 0, .int .i8 0, .int .i8 0]) ?_ 4 _ rfl; (with_reducible repeat (first | refine blk_drewN ?_ _ | refine blk_drew ?_ | refine blk_alloc ?_ _)); refine blk_put (cs := #[.int .i8 0, .int .i8 0, .int .i8 0, .int .i8 0, .int .i8 0, .int .i8 0, .int .i8 0, .int .i8 0, .int .i8 0, .int .i8 0, .int .i8 0, .int .i8 0, .int .i8 0, .int .i8 0]) ?_ 3 _ rfl; (with_reducible repeat (first | refine blk_drewN ?_ _ | refine blk_drew ?_ | refine blk_alloc ?_ _)); refine blk_put (cs := #[.int .i8 0, .int .i8 0, .int .i8 0, .int .i8 0, .int .i8 0, .int .i8 0, .int .i8 0, .int .i8 0, .int .i8 0, .int .i8 0, .int .i8 0, .int .i8 0, .int .i8 0, .int .i8 0]) ?_ 2 _ rfl; (with_reducible repeat (first | refine blk_drewN ?_ _ | refine blk_drew ?_ | refine blk_alloc ?_ _)); refine blk_put (cs := #[.int .i8 0, .int .i8 0, .int .i8 0, .int .i8 0, .int .i8 0, .int .i8 0, .int .i8 0, .int .i8 0, .int .i8 0, .int .i8 0, .int .i8 0, .int .i8 0, .int .i8 0, .int .i8 0]) ?_ 1 _ rfl; (with_reducible repeat (first | refine blk_drewN ?_ _ | refine blk_drew ?_ | refine blk_alloc ?_ _)); refine blk_put (cs := #[.int .i8 0, .int .i8 0, .int .i8 0, .int .i8 0, .int .i8 0, .int .i8 0, .int .i8 0, .int .i8 0, .int .i8 0, .int .i8 0, .int .i8 0, .int .i8 0, .int .i8 0, .int .i8 0]) ?_ 0 _ rfl; (with_reducible repeat (first | refine blk_drewN ?_ _ | refine blk_drew ?_ | refine blk_alloc ?_ _)); exact BK109.out) Try.underlying26 rfl (by kernel_rfl)) rfl ?_
          exact ⟨by first | rfl | (simp [errW_none, errW_some] <;> rfl) | (simp [*, errW_none, errW_some] <;> rfl), bs_ HB GE109⟩
 ·replace c4 := Bool.eq_false_iff.mpr c4
  subst c4
  have H1 : (some (0, 0, 0, 0, 0, 0, 0, 0, 0, 0, 0, 0, 0, 0, 1)) = some (r1, r2, r3, r4, r5, r6, r7, r8, r9, r10, r11, r12, r13, r14, r15) := by rw [if_neg (show ¬ (false = true) by decide)] at H; exact H
  clear H
  have H := H1
  clear H1
  simp only [Option.some.injEq, Prod.mk.injEq] at H
  obtain ⟨rfl, rfl, rfl, rfl, rfl, rfl, rfl, rfl, rfl, rfl, rfl, rfl, rfl, rfl, rfl⟩ := H
  go_enter Try.func7, Try.ntmps7
  go_wp2_with (first | ((with_reducible refine gate_dst (N := 2) rfl ?_); refine box_event ?hg (N := 2) ?hd (cs := #[.int .i8 a0_0, .int .i8 a0_1, .bool a0_2, .bool a0_3]) (t := 29) ?hr ?_; (case hd => rfl); (case hg => rfl); (case hr => first | (go_simp; done) | (go_simp; rfl)); intro gb108 hg w63 hbox hb; have n0_ := A_ (below_step (bl_ HB) hb); have n1_ := A_ (hbox); have n2_ := A_ ((by rw [hg]; exact (below_size (bl_ HB)) : w.heap.size ≤ gb108)); have n3_ := n2_; clear HB; have HB := n0_; have BK108 := n1_; have GW108 := n2_; have GE108 := n3_; clear n0_ n1_ n2_ n3_; clear hb hbox hg) | ((with_reducible refine gate_dst (N := 4) rfl ?_); refine box_event ?hg (N := 4) ?hd (cs := #[.int .i8 0, .int .i8 0, .int .i8 0, .int .i8 0, .int .i8 0, .int .i8 0, .int .i8 0, .int .i8 0, .int .i8 0, .int .i8 0, .int .i8 0, .int .i8 0, .int .i8 0, .int .i8 0]) (t := 26) ?hr ?_; (case hd => rfl); (case hg => rfl); (case hr => first | (go_simp; done) | (go_simp; rfl)); intro gb109 hg w64 hbox hb; have n0_ := A_ (blk_below (pl_ BK108) hb); have n1_ := A_ (below_step (bl_ HB) hb); have n2_ := A_ (hbox); have n3_ := A_ ((by rw [hg]; exact (below_size (bl_ HB)) : w.heap.size ≤ gb109)); have n4_ := n3_; have n5_ := A_ ((by rw [hg]; exact Nat.ne_of_lt (blk_lt (pl_ BK108)) : gb108 ≠ gb109)); have n6_ := Aside0.mk n5_.out.symm; clear BK108; clear HB; have BK108 := n0_; have HB := n1_; have BK109 := n2_; have GW109 := n3_; have GE109 := n4_; have NB108_109 := n5_; have NB109_108 := n6_; clear n0_ n1_ n2_ n3_ n4_ n5_ n6_; clear hb hbox hg; have hnb65 := NB108_109.out; have hnc65 := NB109_108.out; obtain ⟨hcz66_0, hcz66_1, hcz66_2, hcz66_3, hfz66_0, hfz66_1, hfz66_2, hfz66_3⟩ := cl4_ BK108) | ((with_reducible refine gate_callee (f := 22) rfl ?_); refine goesL_ (some 11) rfl rfl Try.func22 (by kernel_rfl) rfl #[.agg #[.int .i8 a0_0, .int .i8 a0_1, .bool a0_2, .bool a0_3]] rfl arg_ ?_; (with_reducible refine (spec_l03Ok.calls a0_0 a0_1 a0_2 a0_3 false _ A3.out).mono ?_); rintro e w67 ⟨rfl, hb⟩; refine ⟨_, rfl, ?_⟩; have n0_ := A_ (blk_below (pl_ BK108) hb); have n1_ := A_ (blk_below (pl_ BK109) hb); have n2_ := A_ (below_step (bl_ HB) hb); clear BK108; clear BK109; clear HB; have BK108 := n0_; have BK109 := n1_; have HB := n2_; clear n0_ n1_ n2_; (try clear hb); (try clear hb2); (try clear hk); (try clear hi); obtain ⟨hcz68_0, hcz68_1, hcz68_2, hcz68_3, hcz68_4, hcz68_5, hcz68_6, hcz68_7, hcz68_8, hcz68_9, hcz68_10, hcz68_11, hcz68_12, hcz68_13, hfz68_0, hfz68_1, hfz68_2, hfz68_3, hfz68_4, hfz68_5, hfz68_6, hfz68_7, hfz68_8, hfz68_9, hfz68_10, hfz68_11, hfz68_12, hfz68_13⟩ := cl14_ BK109))
  refine bodyPost_ret (results_ct rfl _ _ gb109 26 #[.int .i8 0, .int .i8 0, .int .i8 0, .int .i8 0, .int .i8 0, .int .i8 0, .int .i8 0, .int .i8 0, .int .i8 0, .int .i8 0, .int .i8 0, .int .i8 0, .int .i8 0, .int .i8 0] (0, 0) _ rfl (by (with_reducible repeat (first | refine blk_drewN ?_ _ | refine blk_drew ?_ | refine blk_alloc ?_ _)); refine blk_put (cs := #[.int .i8 0, .int .i8 0, .int .i8 0, .int .i8 0, .int .i8 0, .int .i8 0, .int .i8 0, .int .i8 0, .int .i8 0, .int .i8 0, .int .i8 0, .int .i8 0, .int .i8 0, .int .i8 0]) ?_ 13 _ rfl; (with_reducible repeat (first | refine blk_drewN ?_ _ | refine blk_drew ?_ | refine blk_alloc ?_ _)); refine blk_put (cs := #[.int .i8 0, .int .i8 0, .int .i8 0, .int .i8 0, .int .i8 0, .int .i8 0, .int .i8 0, .int .i8 0, .int .i8 0, .int .i8 0, .int .i8 0, .int .i8 0, .int .i8 0, .int .i8 0]) ?_ 12 _ rfl; (with_reducible repeat (first | refine blk_drewN ?_ _ | refine blk_drew ?_ | refine blk_alloc ?_ _)); refine blk_put (cs := #[.int .i8 0, .int .i8 0, .int .i8 0, .int .i8 0, .int .i8 0, .int .i8 0, .int .i8 0, .int .i8 0, .int .i8 0, .int .i8 0, .int .i8 0, .int .i8 0, .int .i8 0, .int .i8 0]) ?_ 11 _ rfl; (with_reducible repeat (first | refine blk_drewN ?_ _ | refine blk_drew ?_ | refine blk_alloc ?_ _)); refine blk_put (cs := #[.int .i8 0, .int .i8 0, .int .i8 0, .int .i8 0, .int .i8 0, .int .i8 0, .int .i8 0, .int .i8 0, .int .i8 0, .int .i8 0, .int .i8 0, .int .i8 0, .int .i8 0, .int .i8 0]) ?_ 10 _ rfl; (with_reducible repeat (first | refine blk_drewN ?_ _ | refine blk_drew ?_ | refine blk_alloc ?_ _)); refine blk_put (cs := #[.int .i8 0, .int .i8 0, .int .i8 0, .int .i8 0, .int .i8 0, .int .i8 0, .int .i8 0, .int .i8 0, .int .i8 0, .int .i8 0, .int .i8 0, .int .i8 0, .int .i8 0, .int .i8 0]) ?_ 9 _ rfl; (with_reducible repeat (first | refine blk_drewN ?_ _ | refine blk_drew ?_ | refine blk_alloc ?_ _)); refine blk_put (cs := #[.int .i8 0, .int .i8 0, .int .i8 0, .int .i8 0, .int .i8 0, .int .i8 0, .int .i8 0, .int .i8 0, .int .i8 0, .int .i8 0, .int .i8 0, .int .i8 0, .int .i8 0, .int .i8 0]) ?_ 8 _ rfl; (with_reducible repeat (first | refine blk_drewN ?_ _ | refine blk_drew ?_ | refine blk_alloc ?_ _)); refine blk_put (cs := #[.int .i8 0, .int .i8 0, .int .i8 0, .int .i8 0, .int .i8 0, .int .i8 0, .int .i8 0, .int .i8 0, .int .i8 0, .int .i8 0, .int .i8 0, .int .i8 0, .int .i8 0, .int .i8 0]) ?_ 7 _ rfl; (with_reducible repeat (first | refine blk_drewN ?_ _ | refine blk_drew ?_ | refine blk_alloc ?_ _)); refine blk_put (cs := #[.int .i8 0, .int .i8 0, .int .i8 0, .int .i8 0, .int .i8 0, .int .i8 0, .int .i8 0, .int .i8 0, .int .i8 0, .int .i8 0, .int .i8 0, .int .i8 0, .int .i8 0, .int .i8 0]) ?_ 6 _ rfl; (with_reducible repeat (first | refine blk_drewN ?_ _ | refine blk_drew ?_ | refine blk_alloc ?_ _)); refine blk_put (cs := #[.int .i8 0, .int .i8 0, .int .i8 0, .int .i8 0, .int .i8 0, .int .i8 0, .int .i8 0, .int .i8 0, .int .i8 0, .int .i8 0, .int .i8 0, .int .i8 0, .int .i8 0, .int .i8 0]) ?_ 5 _ rfl; (with_reducible repeat (first | refine blk_drewN ?_ _ | refine blk_drew ?_ | refine blk_alloc ?_ _)); refine blk_put (cs := #[.int .i8 0, .int .i8 0, .int .i8 0, .int .i8 0, .int .i8 0, .int .i8 0, .int .i8 0, .int .i8 0, .int .i8 0, .int .i8 0, .int .i8 0, .int .i8 0, .int .i8 0, .int .i8 0]) ?_ 4 _ rfl; (with_reducible repeat (first | refine blk_drewN ?_ _ | refine blk_drew ?_ | refine blk_alloc ?_ _)); refine blk_put (cs := #[.int .i8 0, .int .i8 0, .int .i8 0, .int .i8 0, .int .i8 0, .int .i8 0, .int .i8 0, .int .i8 0, .int .i8 0, .int .i8 0, .int .i8 0, .int .i8 0, .int .i8 0, .int .i8 0]) ?_ 3 _ rfl; (with_reducible repeat (first | refine blk_drewN ?_ _ | refine blk_drew ?_ | refine blk_alloc ?_ _)); refine blk_put (cs := #[.int .i8 0, .int .i8 0, .int .i8 0, .int .i8 0, .int .i8 0, .int .i8 0, .int .i8 0, .int .i8 0, .int .i8 0, .int .i8 0, .int .i8 0, .int .i8 0, .int .i8 0, .int .i8 0]) ?_ 2 _ rfl; (with_reducible repeat (first | refine blk_drewN ?_ _ | refine blk_drew ?_ | refine blk_alloc ?_ _)); refine blk_put (cs := #[.int .i8 0, .int .i8 0, .int .i8 0, .int .i8 0, .int .i8 0, .int .i8 0, .int .i8 0, .int .i8 0, .int .i8 0, .int .i8 0, .int .i8 0, .int .i8 0, .int .i8 0, .int .i8 0]) ?_ 1 _ rfl; (with_reducible repeat (first | refine blk_drewN ?_ _ | refine blk_drew ?_ | refine blk_alloc ?_ _)); refine blk_put (cs := #[.int .i8 0, .int .i8 0, .int .i8 0, .int .i8 0, .int .i8 0, .int .i8 0, .int .i8 0, .int .i8 0, .int .i8 0, .int .i8 0, .int .i8 0, .int .i8 0, .int .i8 0, .int .i8 0]) ?_ 0 _ rfl; (with_reducible repeat (first | refine blk_drewN ?_ _ | refine blk_drew ?_ | refine blk_alloc ?_ _)); exact BK109.out) Try.underlying26 rfl (by kernel_rfl)) rfl ?_
  exact ⟨by first | rfl | (simp [errW_none, errW_some] <;> rfl) | (simp [*, errW_none, errW_some] <;> rfl), bs_ HB GE109⟩

end Go.Proofs.Ytcghglembmohcaa.M
