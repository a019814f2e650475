-- By this seat's own program over the kit's printer (arrays, functions told by hand); nothing of it is trusted: the kernel checks it.
import Derived.Test.YtkieplebdbdigaaMx0
import Derived.Test.YtkieplebdbdigaaMx15
namespace Go.Proofs.Ytkieplebdbdigaa.M
open Go.RowKit Go.Proofs.YtkieplebdbdigaaW.PrintWords Go.Proofs.YtkieplebdbdigaaW.PrintLast Go.Proofs.YtkieplebdbdigaaW.PrintMore
attribute [local go_sem] max2_int min2_int max_two min_two max_three min_three max_four min_four   -- for this text's walks alone
set_option linter.unusedVariables false
set_option linter.unusedSimpArgs false

/-! ### impl_DecodeNear_1_35: function 35 -/
def impl_DecodeNear_1_35.f (k : Nat) (a0_0 : Int) (a0_1 : Bool) (a1_0 : Int) (a1_1 : Int) (l1_2 : List (S41)) (a2_0 : Int) (a2_1 : Int) (a2_2 : Int) (a2_3 : Int) (a3_0 : Int) : Option (Bool) := (impl_Fixed_seen_37.f k a1_0 a1_1 l1_2 a0_0 a0_1).bind fun bt251 => ((impl_distance_36.f k bt251.1 bt251.2.1 bt251.2.2.1 bt251.2.2.2 a2_0 a2_1 a2_2 a2_3).bind fun t255 => (some (decide (t255 > a3_0))))
theorem impl_DecodeNear_1_35.mono : ∀ a0 a1 a2 a3 a4 a5 a6 a7 a8 a9 k, LeO (impl_DecodeNear_1_35.f k a0 a1 a2 a3 a4 a5 a6 a7 a8 a9) (impl_DecodeNear_1_35.f (k + 1) a0 a1 a2 a3 a4 a5 a6 a7 a8 a9) := by
 intro a0 a1 a2 a3 a4 a5 a6 a7 a8 a9 k
 unfold impl_DecodeNear_1_35.f
 repeat' first
   | (with_reducible exact impl_Fixed_seen_37.mono _ _ _ _ _ _)
   | (with_reducible exact impl_distance_36.mono _ _ _ _ _ _ _ _ _)
   | (with_reducible exact LeO.refl _)
   | (with_reducible exact LeO.none _)
   | (with_reducible refine LeO.ite ?_ ?_)
   | (with_reducible refine LeO.bind ?_ (fun _ => ?_))
   | exact impl_Fixed_seen_37.mono _ _ _ _ _ _
   | exact impl_distance_36.mono _ _ _ _ _ _ _ _ _
   | exact LeO.none _
   | refine LeO.ite ?_ ?_
   | refine LeO.bind ?_ (fun _ => ?_)
def impl_DecodeNear_1_35.T1 : Bool × List (List Nat × List Nat) := (true, [([], []), ([], []), ([0, 1], [0, 1]), ([], []), ([2, 3, 2], [2, 3]), ([], []), ([4, 5], [4, 5]), ([6, 4, 0, 1, 2, 3, 4, 5, 6], [6])])
def impl_DecodeNear_1_35.B1 : List Nat := [0, 0, 3, 0, 15, 0, 63, 127]
theorem impl_DecodeNear_1_35.tab1 : rtab .any (opsOf Try.f35 1) = impl_DecodeNear_1_35.T1 := by kernel_rfl
theorem impl_DecodeNear_1_35.bits1 : waitsOk impl_DecodeNear_1_35.T1.2 impl_DecodeNear_1_35.B1 = true := by kernel_rfl
set_option maxHeartbeats 8000000 in
set_option maxRecDepth 100000 in
theorem impl_DecodeNear_1_35.calls (k : Nat) (a0_0 : Int) (a0_1 : Bool) (gp1 : Nat) (a1_0 : Int) (a1_1 : Int) (A1_2 : Option Addr) (c1_2 : Nat) (l1_2 : List (S41)) (gp2 : Nat) (a2_0 : Int) (a2_1 : Int) (a2_2 : Int) (a2_3 : Int) (gp3 : Nat) (a3_0 : Int) (r : Bool) (w : World) (hb1 : w.heap[gp1]? = some (.cells #[.int .i8 a1_0, .int .i8 a1_1, .slice A1_2 l1_2.length c1_2] 29 (0, 0))) (hr1_2 : Kd.C k41 w A1_2 l1_2.length l1_2) (hc1_2 : l1_2.length ≤ c1_2) (hb2 : w.heap[gp2]? = some (.cells #[.int .i8 a2_0, .int .i8 a2_1, .int .i8 a2_2, .int .i8 a2_3] 41 (0, 0))) (hb3 : w.heap[gp3]? = some (.cells #[.int .i64 a3_0] 2 (0, 0))) (h : impl_DecodeNear_1_35.f k a0_0 a0_1 a1_0 a1_1 l1_2 a2_0 a2_1 a2_2 a2_3 a3_0 = some r) :
  Calls Try.prog 35 #[.agg #[.int .i8 a0_0, .bool a0_1], .pointer (some ⟨gp1, 0, none⟩), .pointer (some ⟨gp2, 0, none⟩), .pointer (some ⟨gp3, 0, none⟩)] w fun e w' => e = .returned (.bool r) ∧ Below w.heap.size w w' := by
 have hu38 := Try.underlying38
 have hu29 := Try.underlying29
 have hu41 := Try.underlying41
 have HR1_2 := Aside0.mk hr1_2
 have HC1_2 := Aside0.mk hc1_2
 clear hr1_2 hc1_2
 have BK247 := Aside0.mk hb1
 clear hb1
 have BK248 := Aside0.mk hb2
 clear hb2
 have BK249 := Aside0.mk hb3
 clear hb3
 have HB := A_ (Below.refl w.heap.size w)
 have H : ((impl_Fixed_seen_37.f k a1_0 a1_1 l1_2 a0_0 a0_1).bind fun bt251 => ((impl_distance_36.f k bt251.1 bt251.2.1 bt251.2.2.1 bt251.2.2.2 a2_0 a2_1 a2_2 a2_3).bind fun t255 => (some (decide (t255 > a3_0))))) = some r := h
 clear h
 replace H := Option.bind_eq_some_iff.mp H
 obtain ⟨⟨t251, t252, t253, t254⟩, A50, H⟩ := H
 replace H : ((impl_distance_36.f k t251 t252 t253 t254 a2_0 a2_1 a2_2 a2_3).bind fun t255 => (some (decide (t255 > a3_0)))) = some r := H
 have A5 := Aside0.mk A50
 clear A50
 replace H := Option.bind_eq_some_iff.mp H
 obtain ⟨t255, A60, H⟩ := H
 replace H : (some (decide (t255 > a3_0))) = some r := H
 have A6 := Aside0.mk A60
 clear A60
 obtain rfl := Option.some.inj H
 go_enter Try.func35, Try.ntmps35
 try go_wp2_with (first | ((with_reducible refine gate_dst (N := 4) rfl ?_); refine box_event ?hg (N := 4) ?hd (cs := #[.int .i8 a0_0, .bool a0_1]) (t := 38) ?hr ?_; (case hd => rfl); (case hg => rfl); (case hr => first | (go_simp; done) | (go_simp; rfl)); intro gb250 hg w7 hbox hb; have n0_ := A_ (blk_below (pl_ BK247) hb); have n1_ := A_ (blk_below (pl_ BK248) hb); have n2_ := A_ (blk_below (pl_ BK249) hb); have n3_ := A_ (below_step (bl_ HB) hb); have n4_ := A_ (hbox); have n5_ := A_ ((by rw [hg]; exact (below_size (bl_ HB)) : w.heap.size ≤ gb250)); have n6_ := n5_; have n7_ := A_ ((by rw [hg]; exact Nat.ne_of_lt (blk_lt (pl_ BK247)) : gp1 ≠ gb250)); have n8_ := Aside0.mk n7_.out.symm; have n9_ := A_ ((by rw [hg]; exact Nat.ne_of_lt (blk_lt (pl_ BK248)) : gp2 ≠ gb250)); have n10_ := Aside0.mk n9_.out.symm; have n11_ := A_ ((by rw [hg]; exact Nat.ne_of_lt (blk_lt (pl_ BK249)) : gp3 ≠ gb250)); have n12_ := Aside0.mk n11_.out.symm; clear BK247; clear BK248; clear BK249; clear HB; have BK247 := n0_; have BK248 := n1_; have BK249 := n2_; have HB := n3_; have BK250 := n4_; have GW250 := n5_; have GE250 := n6_; have NB247_250 := n7_; have NB250_247 := n8_; have NB248_250 := n9_; have NB250_248 := n10_; have NB249_250 := n11_; have NB250_249 := n12_; clear n0_ n1_ n2_ n3_ n4_ n5_ n6_ n7_ n8_ n9_ n10_ n11_ n12_; clear hb hbox hg))
 have n0_ := A_ (blk_drew BK247.out)
 have n1_ := A_ (blk_drew BK248.out)
 have n2_ := A_ (blk_drew BK249.out)
 have n3_ := A_ (blk_drew BK250.out)
 have n4_ := A_ (below_drew1 HB.out)
 clear BK247
 clear BK248
 clear BK249
 clear BK250
 clear HB
 have BK247 := n0_
 have BK248 := n1_
 have BK249 := n2_
 have BK250 := n3_
 have HB := n4_
 clear n0_ n1_ n2_ n3_ n4_
 refine start_ (n := 8) (S := fun w' => w'.cell? ⟨gp1, 0, none⟩ = some (.int .i8 a1_0) ∧ w'.cell? ⟨gp1, 1, none⟩ = some (.int .i8 a1_1) ∧ w'.cell? ⟨gp1, 2, none⟩ = some (.slice A1_2 l1_2.length c1_2) ∧ w'.cell? ⟨gb250, 0, none⟩ = some (.int .i8 a0_0) ∧ w'.cell? ⟨gb250, 1, none⟩ = some (.bool a0_1) ∧ w'.cell? ⟨gp2, 0, none⟩ = some (.int .i8 a2_0) ∧ w'.cell? ⟨gp2, 1, none⟩ = some (.int .i8 a2_1) ∧ w'.cell? ⟨gp2, 2, none⟩ = some (.int .i8 a2_2) ∧ w'.cell? ⟨gp2, 3, none⟩ = some (.int .i8 a2_3) ∧ w'.cell? ⟨gp3, 0, none⟩ = some (.int .i64 a3_0)) (ds := []) #[false, false, false, false, false, false, false, false] (by kernel_rfl) rfl rfl ⟨(blk_cell BK247.out 0).trans rfl, (blk_cell BK247.out 1).trans rfl, (blk_cell BK247.out 2).trans rfl, (blk_cell BK250.out 0).trans rfl, (blk_cell BK250.out 1).trans rfl, (blk_cell BK248.out 0).trans rfl, (blk_cell BK248.out 1).trans rfl, (blk_cell BK248.out 2).trans rfl, (blk_cell BK248.out 3).trans rfl, (blk_cell BK249.out 0).trans rfl⟩ (fun hHeld => ?_); refine with_tabW impl_DecodeNear_1_35.tab1 impl_DecodeNear_1_35.bits1 (fun HT_ HW_ => ?_)
 generalize w7.drew = w8 at BK247 BK248 BK249 BK250 HB hHeld ⊢
 refine take_ (i := 0) (N := some 6) (v := ?_) (a' := ?_) #[true, false, false, false, false, false, false, false] rfl rfl (take_ofW HT_.out HW_.out (by kernel_rfl)) (fun _ _ _ h => h) (Or.inl ⟨by rfl, ?_⟩) hHeld ?_ ?_
 rotate_left
 ·rintro w' ⟨s0, s1, s2, s3, s4, s5, s6, s7, s8, s9⟩
  go_simp
  with_reducible rfl
 rotate_left
 ·simp only [Act.put, sp_]
  rfl
 refine take_ (i := 1) (N := some 7) (v := ?_) (a' := ?_) #[true, true, false, false, false, false, false, false] rfl rfl (take_ofW HT_.out HW_.out (by kernel_rfl)) (fun _ _ _ h => h) (Or.inl ⟨by rfl, ?_⟩) hHeld ?_ ?_
 rotate_left
 ·rintro w' ⟨s0, s1, s2, s3, s4, s5, s6, s7, s8, s9⟩
  go_simp
  with_reducible rfl
 rotate_left
 ·simp only [Act.put, sp_]
  rfl
 refine take_ (i := 3) (N := some 9) (v := ?_) (a' := ?_) #[true, true, false, true, false, false, false, false] rfl rfl (take_ofW HT_.out HW_.out (by kernel_rfl)) (fun _ _ _ h => h) (Or.inl ⟨by rfl, ?_⟩) hHeld ?_ ?_
 rotate_left
 ·rintro w' ⟨s0, s1, s2, s3, s4, s5, s6, s7, s8, s9⟩
  go_simp
  with_reducible rfl
 rotate_left
 ·simp only [Act.put, sp_]
  rfl
 refine take_ (i := 5) (N := some 11) (v := ?_) (a' := ?_) #[true, true, false, true, false, true, false, false] rfl rfl (take_ofW HT_.out HW_.out (by kernel_rfl)) (fun _ _ _ h => h) (Or.inl ⟨by rfl, ?_⟩) hHeld ?_ ?_
 rotate_left
 ·rintro w' ⟨s0, s1, s2, s3, s4, s5, s6, s7, s8, s9⟩
  go_simp
  with_reducible rfl
 rotate_left
 ·simp only [Act.put, sp_]
  rfl
 refine one_ (i := 2) (N := some 8) #[true, true, true, true, false, true, false, false] rfl rfl (one_of HT_.out (by kernel_rfl)) (by decide) (fun K hK => ?_)
 refine goes_ Try.func37 (by kernel_rfl) rfl #[.agg #[.int .i8 a1_0, .int .i8 a1_1, .slice A1_2 l1_2.length c1_2], .agg #[.int .i8 a0_0, .bool a0_1]] (by rfl) rfl rfl arg_ ?_
 with_reducible refine (impl_Fixed_seen_37.calls k a1_0 a1_1 _ _ l1_2 a0_0 a0_1 t251 t252 t253 t254 _ ?side1 ?side2 A5.out).mono ?_
 (case side1 => exact Kd.C_below HR1_2.out (bl_ HB))
 (case side2 => exact HC1_2.out)
 rintro e w9 ⟨rfl, hb⟩
 refine ⟨_, rfl, ?_⟩
 have n0_ := A_ (blk_below (pl_ BK247) hb)
 have n1_ := A_ (blk_below (pl_ BK248) hb)
 have n2_ := A_ (blk_below (pl_ BK249) hb)
 have n3_ := A_ (blk_below (pl_ BK250) hb)
 have n4_ := A_ (below_step (bl_ HB) hb)
 clear BK247
 clear BK248
 clear BK249
 clear BK250
 clear HB
 have BK247 := n0_
 have BK248 := n1_
 have BK249 := n2_
 have BK250 := n3_
 have HB := n4_
 clear n0_ n1_ n2_ n3_ n4_
 (try clear hb)
 (try clear hb2)
 (try clear hk)
 (try clear hi)
 refine hK.out _ _ ⟨(blk_cell BK247.out 0).trans rfl, (blk_cell BK247.out 1).trans rfl, (blk_cell BK247.out 2).trans rfl, (blk_cell BK250.out 0).trans rfl, (blk_cell BK250.out 1).trans rfl, (blk_cell BK248.out 0).trans rfl, (blk_cell BK248.out 1).trans rfl, (blk_cell BK248.out 2).trans rfl, (blk_cell BK248.out 3).trans rfl, (blk_cell BK249.out 0).trans rfl⟩ (fun hHeld => ?_)
 clear hK K
 refine norm_ (a' := ?_) ?_ ?_
 rotate_left
 ·show Act.put _ (some 8) _ = _
  simp only [Act.put, sp_]
  rfl
 refine one_ (i := 4) (N := some 10) #[true, true, true, true, true, true, false, false] rfl rfl (one_of HT_.out (by kernel_rfl)) (by decide) (fun K hK => ?_)
 refine goes_ Try.func36 (by kernel_rfl) rfl #[.agg #[.int .i8 t251, .int .i8 t252, .int .i8 t253, .int .i8 t254], .agg #[.int .i8 a2_0, .int .i8 a2_1, .int .i8 a2_2, .int .i8 a2_3]] (by rfl) rfl rfl arg_ ?_
 with_reducible refine (impl_distance_36.calls k t251 t252 t253 t254 a2_0 a2_1 a2_2 a2_3 t255 _ A6.out).mono ?_
 rintro e w10 ⟨rfl, hb⟩
 refine ⟨_, rfl, ?_⟩
 have n0_ := A_ (blk_below (pl_ BK247) hb)
 have n1_ := A_ (blk_below (pl_ BK248) hb)
 have n2_ := A_ (blk_below (pl_ BK249) hb)
 have n3_ := A_ (blk_below (pl_ BK250) hb)
 have n4_ := A_ (below_step (bl_ HB) hb)
 clear BK247
 clear BK248
 clear BK249
 clear BK250
 clear HB
 have BK247 := n0_
 have BK248 := n1_
 have BK249 := n2_
 have BK250 := n3_
 have HB := n4_
 clear n0_ n1_ n2_ n3_ n4_
 (try clear hb)
 (try clear hb2)
 (try clear hk)
 (try clear hi)
 refine hK.out _ _ ⟨(blk_cell BK247.out 0).trans rfl, (blk_cell BK247.out 1).trans rfl, (blk_cell BK247.out 2).trans rfl, (blk_cell BK250.out 0).trans rfl, (blk_cell BK250.out 1).trans rfl, (blk_cell BK248.out 0).trans rfl, (blk_cell BK248.out 1).trans rfl, (blk_cell BK248.out 2).trans rfl, (blk_cell BK248.out 3).trans rfl, (blk_cell BK249.out 0).trans rfl⟩ (fun hHeld => ?_)
 clear hK K
 refine norm_ (a' := ?_) ?_ ?_
 rotate_left
 ·show Act.put _ (some 10) _ = _
  simp only [Act.put, sp_]
  rfl
 refine pure_ (i := 6) (N := some 12) (v := ?_) (a' := ?_) #[true, true, true, true, true, true, true, false] rfl rfl (any_of HT_.out (by kernel_rfl)) (fun _ _ _ h => h) (Or.inl ⟨by rfl, ?_⟩) ?_ ?_
 rotate_left
 ·intro w'
  go_simp
  with_reducible rfl
 rotate_left
 ·simp only [Act.put, sp_]
  rfl
 refine pure_ (i := 7) (N := some 5) (v := ?_) (a' := ?_) #[true, true, true, true, true, true, true, true] rfl rfl (any_of HT_.out (by kernel_rfl)) (fun _ _ _ h => h) (Or.inl ⟨by rfl, ?_⟩) ?_ ?_
 rotate_left
 ·intro w'
  go_simp
  with_reducible rfl
 rotate_left
 ·simp only [Act.put, sp_]
  rfl
 refine done_ (done_of HT_.out (by kernel_rfl)) ?_
 try go_wp2
 go_ret
 exact ⟨by first | rfl | (simp [errW_none, errW_some] <;> rfl) | (simp [*, errW_none, errW_some] <;> rfl), bl_ HB⟩

/-! ### impl_Case_47_at_35: function 47 -/
def impl_Case_47_at_35.l0 : Nat → List (S38) → Int → Int → Int → Int → List (S41) → Int → Int → Int → Int → Int → Option (Int)
 | 0, _, _, _, _, _, _, _, _, _, _, _ => none
 | k + 1, x0, x7, x8, x257000, x257001, x257002, x258000, x258001, x258002, x258003, x259000 => if x8 < x7 then (if 0 ≤ x8 then (if x8 < (x0.length : Int) then ((impl_DecodeNear_1_35.f k ((rd_T38 x0 x8).f0) ((rd_T38 x0 x8).f1) x257000 x257001 x257002 x258000 x258001 x258002 x258003 x259000).bind fun t260 => (if t260 = true then (some x8) else (impl_Case_47_at_35.l0 k x0 x7 (wrap64 (x8 + 1)) x257000 x257001 x257002 x258000 x258001 x258002 x258003 x259000))) else (none)) else (none)) else (some (-1))
def impl_Case_47_at_35.f (k : Nat) (l0 : List (S38)) (a1_0 : Int) (a1_1 : Int) (l1_2 : List (S41)) (a1_3 : Int) (a1_4 : Int) (a1_5 : Int) (a1_6 : Int) (a1_7 : Int) : Option (Int) := impl_Case_47_at_35.l0 k l0 (l0.length : Int) 0 a1_0 a1_1 l1_2 a1_3 a1_4 a1_5 a1_6 a1_7
theorem impl_Case_47_at_35.mono_l : ∀ k, (∀ y0 y1 y2 y3 y4 y5 y6 y7 y8 y9 y10, LeO (impl_Case_47_at_35.l0 k y0 y1 y2 y3 y4 y5 y6 y7 y8 y9 y10) (impl_Case_47_at_35.l0 (k + 1) y0 y1 y2 y3 y4 y5 y6 y7 y8 y9 y10))
 | 0 => fun _ _ _ _ _ _ _ _ _ _ _ r h => by simp [impl_Case_47_at_35.l0] at h
 | k + 1 => by
  have ih0 := impl_Case_47_at_35.mono_l k
  ·intro y0 y1 y2 y3 y4 y5 y6 y7 y8 y9 y10
   unfold impl_Case_47_at_35.l0
   repeat' first
   | (with_reducible exact ih0 _ _ _ _ _ _ _ _ _ _ _)
   | (with_reducible exact impl_DecodeNear_1_35.mono _ _ _ _ _ _ _ _ _ _ _)
   | (with_reducible exact LeO.refl _)
   | (with_reducible exact LeO.none _)
   | (with_reducible refine LeO.ite ?_ ?_)
   | (with_reducible refine LeO.bind ?_ (fun _ => ?_))
   | exact ih0 _ _ _ _ _ _ _ _ _ _ _
   | exact impl_DecodeNear_1_35.mono _ _ _ _ _ _ _ _ _ _ _
   | exact LeO.none _
   | refine LeO.ite ?_ ?_
   | refine LeO.bind ?_ (fun _ => ?_)
theorem impl_Case_47_at_35.mono : ∀ a0 a1 a2 a3 a4 a5 a6 a7 a8 k, LeO (impl_Case_47_at_35.f k a0 a1 a2 a3 a4 a5 a6 a7 a8) (impl_Case_47_at_35.f (k + 1) a0 a1 a2 a3 a4 a5 a6 a7 a8) := by
 intro a0 a1 a2 a3 a4 a5 a6 a7 a8 k
 have ih0 := impl_Case_47_at_35.mono_l k
 unfold impl_Case_47_at_35.f
 repeat' first
   | (with_reducible exact ih0 _ _ _ _ _ _ _ _ _ _ _)
   | (with_reducible exact impl_DecodeNear_1_35.mono _ _ _ _ _ _ _ _ _ _ _)
   | (with_reducible exact LeO.refl _)
   | (with_reducible exact LeO.none _)
   | (with_reducible refine LeO.ite ?_ ?_)
   | (with_reducible refine LeO.bind ?_ (fun _ => ?_))
   | exact ih0 _ _ _ _ _ _ _ _ _ _ _
   | exact impl_DecodeNear_1_35.mono _ _ _ _ _ _ _ _ _ _ _
   | exact LeO.none _
   | refine LeO.ite ?_ ?_
   | refine LeO.bind ?_ (fun _ => ?_)
set_option maxHeartbeats 8000000 in
set_option maxRecDepth 100000 in
theorem impl_Case_47_at_35.calls (k : Nat) (A0 : Option Addr) (c0 : Nat) (l0 : List (S38)) (gp1_0 : Nat) (gp1_1 : Nat) (gp1_2 : Nat) (a1_0 : Int) (a1_1 : Int) (A1_2 : Option Addr) (c1_2 : Nat) (l1_2 : List (S41)) (a1_3 : Int) (a1_4 : Int) (a1_5 : Int) (a1_6 : Int) (a1_7 : Int) (r : Int) (w : World) (hr0 : Kd.C k38 w A0 l0.length l0) (hc0 : l0.length ≤ c0) (hb1_0 : w.heap[gp1_0]? = some (.cells #[.int .i8 a1_0, .int .i8 a1_1, .slice A1_2 l1_2.length c1_2] 29 (0, 0))) (hb1_1 : w.heap[gp1_1]? = some (.cells #[.int .i8 a1_3, .int .i8 a1_4, .int .i8 a1_5, .int .i8 a1_6] 41 (0, 0))) (hb1_2 : w.heap[gp1_2]? = some (.cells #[.int .i64 a1_7] 2 (0, 0))) (hr1_2 : Kd.C k41 w A1_2 l1_2.length l1_2) (hc1_2 : l1_2.length ≤ c1_2) (h : impl_Case_47_at_35.f k l0 a1_0 a1_1 l1_2 a1_3 a1_4 a1_5 a1_6 a1_7 = some r) :
  Calls Try.prog 47 #[.slice A0 l0.length c0, .func (.func 35) #[] #[.pointer (some ⟨gp1_0, 0, none⟩), .pointer (some ⟨gp1_1, 0, none⟩), .pointer (some ⟨gp1_2, 0, none⟩)]] w fun e w' => e = .returned (.int .i64 r) ∧ Below w.heap.size w w' := by
 have hu38 := Try.underlying38
 have HR0 := Aside0.mk hr0
 have HC0 := Aside0.mk hc0
 clear hr0 hc0
 have HR1_2 := Aside0.mk hr1_2
 have HC1_2 := Aside0.mk hc1_2
 clear hr1_2 hc1_2
 have BK256 := Aside0.mk hb1_0
 clear hb1_0
 have BK257 := Aside0.mk hb1_1
 clear hb1_1
 have BK258 := Aside0.mk hb1_2
 clear hb1_2
 have HB := A_ (Below.refl w.heap.size w)
 have H : (impl_Case_47_at_35.l0 k l0 (l0.length : Int) 0 a1_0 a1_1 l1_2 a1_3 a1_4 a1_5 a1_6 a1_7) = some r := h
 clear h
 have H' := Aside0.mk H
 clear H
 go_enter Try.func47, Try.ntmps47
 go_wp2
 go_loopg [8] k (fun kq v8 w' => ∃ (x8_1 : Int), v8 = .int .i64 x8_1 ∧ Aside0 (impl_Case_47_at_35.l0 kq l0 (l0.length : Int) x8_1 a1_0 a1_1 l1_2 a1_3 a1_4 a1_5 a1_6 a1_7 = some r) ∧ Aside0 (kq ≤ k) ∧ Aside0 (w'.heap[gp1_0]? = some (.cells #[.int .i8 a1_0, .int .i8 a1_1, (.slice A1_2 l1_2.length c1_2)] 29 (0, 0))) ∧ Aside0 (w'.heap[gp1_1]? = some (.cells #[.int .i8 a1_3, .int .i8 a1_4, .int .i8 a1_5, .int .i8 a1_6] 41 (0, 0))) ∧ Aside0 (w'.heap[gp1_2]? = some (.cells #[.int .i64 a1_7] 2 (0, 0))) ∧ Aside0 (Below w.heap.size w w'))
 case atStart => exact ⟨(0), rs_, H', ⟨Nat.le_refl _⟩, ⟨pl_ BK256⟩, ⟨pl_ BK257⟩, ⟨pl_ BK258⟩, ⟨bl_ HB⟩⟩
 case round =>
  clear H'
  try clear c1
  try clear p1
  try clear p2
  obtain ⟨x8_1, rfl, HA, HK1, BK256, BK257, BK258, HB⟩ := hrel
  cases gk with
  | zero => exact absurd HA.out (by simp [impl_Case_47_at_35.l0])
  | succ k1 =>
   have H := HA.out
   clear HA
   simp only [impl_Case_47_at_35.l0] at H
   by_cases c3 : x8_1 < (l0.length : Int)
   ·rw [if_pos c3] at H
    have c3b0 : decide (x8_1 < (l0.length : Int)) = true := decide_eq_true c3
    clear c3
    by_cases c4 : 0 ≤ x8_1
    ·rw [if_pos c4] at H
     have c4b0 : decide (0 ≤ x8_1) = true := decide_eq_true c4
     clear c4
     by_cases c5 : x8_1 < (l0.length : Int)
     ·rw [if_pos c5] at H
      have c5b0 : decide (x8_1 < (l0.length : Int)) = true := decide_eq_true c5
      clear c5
      replace H := Option.bind_eq_some_iff.mp H
      obtain ⟨t260, A60, H⟩ := H
      replace H : (if t260 = true then (some x8_1) else (impl_Case_47_at_35.l0 k1 l0 (l0.length : Int) (wrap64 (x8_1 + 1)) a1_0 a1_1 l1_2 a1_3 a1_4 a1_5 a1_6 a1_7)) = some r := H
      have A6 := Aside0.mk A60
      clear A60
      by_cases c7 : t260 = true
      ·subst c7
       have H1 : (some x8_1) = some r := by rw [if_pos rfl] at H; exact H
       clear H
       have H := H1
       clear H1
       obtain rfl := Option.some.inj H
       have p259 : 0 ≤ (x8_1 : Int) := asm_
       have q259 : x8_1 < (l0.length : Int) := asm_
       obtain ⟨ad259, e259, hx259_0, hx259_1⟩ := at_T38 HR0.out x8_1 p259 q259
       cases e259
       (try replace hx259_0 := (HB.out.cell (World.block_lt_of_cell? w _ hx259_0)).trans hx259_0)
       (try replace hx259_1 := (HB.out.cell (World.block_lt_of_cell? w _ hx259_1)).trans hx259_1)
       replace p259 := eq_true p259
       replace q259 := eq_true q259
       go_wp2_with (first | (go_at_call 35; (with_reducible refine (impl_DecodeNear_1_35.calls k1 ((rd_T38 l0 x8_1).f0) ((rd_T38 l0 x8_1).f1) gp1_0 a1_0 a1_1 A1_2 c1_2 l1_2 gp1_1 a1_3 a1_4 a1_5 a1_6 gp1_2 a1_7 true _ ?side1 ?side2 ?side3 ?side4 ?side5 A6.out).mono ?_); (case side1 => exact (pl_ BK256)); (case side2 => exact Kd.C_below HR1_2.out (bl_ HB)); (case side3 => exact HC1_2.out); (case side4 => exact (pl_ BK257)); (case side5 => exact (pl_ BK258)); rintro e w8 ⟨rfl, hb⟩; have n0_ := A_ (blk_below (pl_ BK256) hb); have n1_ := A_ (blk_below (pl_ BK257) hb); have n2_ := A_ (blk_below (pl_ BK258) hb); have n3_ := A_ (below_step (bl_ HB) hb); clear BK256; clear BK257; clear BK258; clear HB; have BK256 := n0_; have BK257 := n1_; have BK258 := n2_; have HB := n3_; clear n0_ n1_ n2_ n3_; (try clear hb); (try clear hb2); (try clear hk); (try clear hi)))
       go_ret
       exact ⟨by first | rfl | (simp [errW_none, errW_some] <;> rfl) | (simp [*, errW_none, errW_some] <;> rfl), bl_ HB⟩
      ·replace c7 := Bool.eq_false_iff.mpr c7
       subst c7
       have H1 : (impl_Case_47_at_35.l0 k1 l0 (l0.length : Int) (wrap64 (x8_1 + 1)) a1_0 a1_1 l1_2 a1_3 a1_4 a1_5 a1_6 a1_7) = some r := by rw [if_neg (show ¬ (false = true) by decide)] at H; exact H
       clear H
       have H := H1
       clear H1
       have H' := Aside0.mk H
       clear H
       have p259 : 0 ≤ (x8_1 : Int) := asm_
       have q259 : x8_1 < (l0.length : Int) := asm_
       obtain ⟨ad259, e259, hx259_0, hx259_1⟩ := at_T38 HR0.out x8_1 p259 q259
       cases e259
       (try replace hx259_0 := (HB.out.cell (World.block_lt_of_cell? w _ hx259_0)).trans hx259_0)
       (try replace hx259_1 := (HB.out.cell (World.block_lt_of_cell? w _ hx259_1)).trans hx259_1)
       replace p259 := eq_true p259
       replace q259 := eq_true q259
       go_wp2_with (first | (go_at_call 35; (with_reducible refine (impl_DecodeNear_1_35.calls k1 ((rd_T38 l0 x8_1).f0) ((rd_T38 l0 x8_1).f1) gp1_0 a1_0 a1_1 A1_2 c1_2 l1_2 gp1_1 a1_3 a1_4 a1_5 a1_6 gp1_2 a1_7 false _ ?side1 ?side2 ?side3 ?side4 ?side5 A6.out).mono ?_); (case side1 => exact (pl_ BK256)); (case side2 => exact Kd.C_below HR1_2.out (bl_ HB)); (case side3 => exact HC1_2.out); (case side4 => exact (pl_ BK257)); (case side5 => exact (pl_ BK258)); rintro e w9 ⟨rfl, hb⟩; have n0_ := A_ (blk_below (pl_ BK256) hb); have n1_ := A_ (blk_below (pl_ BK257) hb); have n2_ := A_ (blk_below (pl_ BK258) hb); have n3_ := A_ (below_step (bl_ HB) hb); clear BK256; clear BK257; clear BK258; clear HB; have BK256 := n0_; have BK257 := n1_; have BK258 := n2_; have HB := n3_; clear n0_ n1_ n2_ n3_; (try clear hb); (try clear hb2); (try clear hk); (try clear hi)))
       go_roundg k1
       case measure => have := HK1.out; omega
       case rel => exact ⟨(wrap64 (x8_1 + 1)), rs_, H', ⟨by have := HK1.out; omega⟩, ⟨pl_ BK256⟩, ⟨pl_ BK257⟩, ⟨pl_ BK258⟩, ⟨bl_ HB⟩⟩
     ·rw [if_neg c5] at H
      exact absurd H (by simp)
    ·rw [if_neg c4] at H
     exact absurd H (by simp)
   ·rw [if_neg c3] at H
    have c3b0 : decide (x8_1 < (l0.length : Int)) = false := decide_eq_false c3
    clear c3
    obtain rfl := Option.some.inj H
    go_wp2
    go_ret
    exact ⟨by first | rfl | (simp [errW_none, errW_some] <;> rfl) | (simp [*, errW_none, errW_some] <;> rfl), bl_ HB⟩

end Go.Proofs.Ytkieplebdbdigaa.M
