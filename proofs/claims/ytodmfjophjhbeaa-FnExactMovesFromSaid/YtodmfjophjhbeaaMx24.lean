-- By this seat's own program over the kit's printer (arrays, functions told by hand); nothing of it is trusted: the kernel checks it.
import Derived.Test.YtodmfjophjhbeaaMx0
import Derived.Test.YtodmfjophjhbeaaMx8
import Derived.Test.YtodmfjophjhbeaaMx10
import Derived.Test.YtodmfjophjhbeaaMx12
import Derived.Test.YtodmfjophjhbeaaMx23
namespace Go.Proofs.Ytodmfjophjhbeaa.M
open Go.RowKit Go.Proofs.YtodmfjophjhbeaaW.PrintWords Go.Proofs.YtodmfjophjhbeaaW.PrintLast Go.Proofs.YtodmfjophjhbeaaW.PrintMore
attribute [local go_sem] max2_int min2_int max_two min_two max_three min_three max_four min_four   -- for this text's walks alone
set_option linter.unusedVariables false
set_option linter.unusedSimpArgs false

/-! ### spec_MovesFrom: function 47 -/
mutual
def spec_MovesFrom.j0 : Nat → Bool → List Int → Int → Int → Int → Int → Bool → Int → Int → Int → Int → Option ((List (S60)) × Int)
 | 0, _, _, _, _, _, _, _, _, _, _, _ => none
 | k + 1, x19, x303000, x303001, x303002, x303003, x303004, x303005, x304000, x304001, x304002, x304003 => if x19 = true then (some ((([] : List (S60))), 1)) else ((spec_l02All.f k x303000 x303001 x303002 x303003 x303004 x303005).bind fun t312 => (spec_MovesFrom.l0 k (([] : List (S60))) t312 0 x303000 x303001 x303002 x303003 x303004 x303005 x304000 x304001 x304002 x304003))
def spec_MovesFrom.l0 : Nat → List (S60) → List (S60) → Int → List Int → Int → Int → Int → Int → Bool → Int → Int → Int → Int → Option ((List (S60)) × Int)
 | 0, _, _, _, _, _, _, _, _, _, _, _, _, _ => none
 | k + 1, x6, x7, x8, x303000, x303001, x303002, x303003, x303004, x303005, x304000, x304001, x304002, x304003 => if x8 < (x7.length : Int) then (if 0 ≤ x8 then ((spec_l02Move.f k x303000 x303001 x303002 x303003 x303004 x303005 x304000 x304001 x304002 x304003 ((rd_T60 x7 x8).f0) ((rd_T60 x7 x8).f1) ((rd_T60 x7 x8).f2)).bind fun bt316 => (if bt316.2.2.2.2 = 0 then (if x6.length < 46912496118442 then (spec_MovesFrom.l0 k (x6 ++ [(⟨(rd_T60 x7 x8).f0, (rd_T60 x7 x8).f1, (rd_T60 x7 x8).f2⟩ : S60)]) x7 (wrap64 (x8 + 1)) x303000 x303001 x303002 x303003 x303004 x303005 x304000 x304001 x304002 x304003) else (none)) else (spec_MovesFrom.l0 k x6 x7 (wrap64 (x8 + 1)) x303000 x303001 x303002 x303003 x303004 x303005 x304000 x304001 x304002 x304003))) else (none)) else (some (x6, 0))
end
def spec_MovesFrom.f (k : Nat) (l0_0 : List Int) (a0_1 : Int) (a0_2 : Int) (a0_3 : Int) (a0_4 : Int) (a0_5 : Bool) (a1_0 : Int) (a1_1 : Int) (a1_2 : Int) (a1_3 : Int) : Option ((List (S60)) × Int) := (spec_l02Ok.f k l0_0 a0_1 a0_2 a0_3 a0_4 a0_5).bind fun t304 => (if t304 = true then ((spec_l02Water.f k l0_0 a1_0 a1_1 a1_2 a1_3).bind fun t305 => (spec_MovesFrom.j0 k (!t305) l0_0 a0_1 a0_2 a0_3 a0_4 a0_5 a1_0 a1_1 a1_2 a1_3)) else (spec_MovesFrom.j0 k true l0_0 a0_1 a0_2 a0_3 a0_4 a0_5 a1_0 a1_1 a1_2 a1_3))
theorem spec_MovesFrom.mono_l : ∀ k, (∀ y0 y1 y2 y3 y4 y5 y6 y7 y8 y9 y10, LeO (spec_MovesFrom.j0 k y0 y1 y2 y3 y4 y5 y6 y7 y8 y9 y10) (spec_MovesFrom.j0 (k + 1) y0 y1 y2 y3 y4 y5 y6 y7 y8 y9 y10)) ∧ (∀ y0 y1 y2 y3 y4 y5 y6 y7 y8 y9 y10 y11 y12, LeO (spec_MovesFrom.l0 k y0 y1 y2 y3 y4 y5 y6 y7 y8 y9 y10 y11 y12) (spec_MovesFrom.l0 (k + 1) y0 y1 y2 y3 y4 y5 y6 y7 y8 y9 y10 y11 y12))
 | 0 => ⟨fun _ _ _ _ _ _ _ _ _ _ _ r h => by simp [spec_MovesFrom.j0] at h, fun _ _ _ _ _ _ _ _ _ _ _ _ _ r h => by simp [spec_MovesFrom.l0] at h⟩
 | k + 1 => by
  obtain ⟨ih0, ih1⟩ := spec_MovesFrom.mono_l k
  refine ⟨?_, ?_⟩
  ·intro y0 y1 y2 y3 y4 y5 y6 y7 y8 y9 y10
   unfold spec_MovesFrom.j0
   repeat' first
   | (with_reducible exact ih0 _ _ _ _ _ _ _ _ _ _ _)
   | (with_reducible exact ih1 _ _ _ _ _ _ _ _ _ _ _ _ _)
   | (with_reducible exact spec_l02All.mono _ _ _ _ _ _ _)
   | (with_reducible exact spec_l02Move.mono _ _ _ _ _ _ _ _ _ _ _ _ _ _)
   | (with_reducible exact spec_l02Ok.mono _ _ _ _ _ _ _)
   | (with_reducible exact spec_l02Water.mono _ _ _ _ _ _)
   | (with_reducible exact LeO.refl _)
   | (with_reducible exact LeO.none _)
   | (with_reducible refine LeO.ite ?_ ?_)
   | (with_reducible refine LeO.bind ?_ (fun _ => ?_))
   | exact ih0 _ _ _ _ _ _ _ _ _ _ _
   | exact ih1 _ _ _ _ _ _ _ _ _ _ _ _ _
   | exact spec_l02All.mono _ _ _ _ _ _ _
   | exact spec_l02Move.mono _ _ _ _ _ _ _ _ _ _ _ _ _ _
   | exact spec_l02Ok.mono _ _ _ _ _ _ _
   | exact spec_l02Water.mono _ _ _ _ _ _
   | exact LeO.none _
   | refine LeO.ite ?_ ?_
   | refine LeO.bind ?_ (fun _ => ?_)
  ·intro y0 y1 y2 y3 y4 y5 y6 y7 y8 y9 y10 y11 y12
   unfold spec_MovesFrom.l0
   repeat' first
   | (with_reducible exact ih0 _ _ _ _ _ _ _ _ _ _ _)
   | (with_reducible exact ih1 _ _ _ _ _ _ _ _ _ _ _ _ _)
   | (with_reducible exact spec_l02All.mono _ _ _ _ _ _ _)
   | (with_reducible exact spec_l02Move.mono _ _ _ _ _ _ _ _ _ _ _ _ _ _)
   | (with_reducible exact spec_l02Ok.mono _ _ _ _ _ _ _)
   | (with_reducible exact spec_l02Water.mono _ _ _ _ _ _)
   | (with_reducible exact LeO.refl _)
   | (with_reducible exact LeO.none _)
   | (with_reducible refine LeO.ite ?_ ?_)
   | (with_reducible refine LeO.bind ?_ (fun _ => ?_))
   | exact ih0 _ _ _ _ _ _ _ _ _ _ _
   | exact ih1 _ _ _ _ _ _ _ _ _ _ _ _ _
   | exact spec_l02All.mono _ _ _ _ _ _ _
   | exact spec_l02Move.mono _ _ _ _ _ _ _ _ _ _ _ _ _ _
   | exact spec_l02Ok.mono _ _ _ _ _ _ _
   | exact spec_l02Water.mono _ _ _ _ _ _
   | exact LeO.none _
   | refine LeO.ite ?_ ?_
   | refine LeO.bind ?_ (fun _ => ?_)
theorem spec_MovesFrom.mono : ∀ a0 a1 a2 a3 a4 a5 a6 a7 a8 a9 k, LeO (spec_MovesFrom.f k a0 a1 a2 a3 a4 a5 a6 a7 a8 a9) (spec_MovesFrom.f (k + 1) a0 a1 a2 a3 a4 a5 a6 a7 a8 a9) := by
 intro a0 a1 a2 a3 a4 a5 a6 a7 a8 a9 k
 obtain ⟨ih0, ih1⟩ := spec_MovesFrom.mono_l k
 unfold spec_MovesFrom.f
 repeat' first
   | (with_reducible exact ih0 _ _ _ _ _ _ _ _ _ _ _)
   | (with_reducible exact ih1 _ _ _ _ _ _ _ _ _ _ _ _ _)
   | (with_reducible exact spec_l02All.mono _ _ _ _ _ _ _)
   | (with_reducible exact spec_l02Move.mono _ _ _ _ _ _ _ _ _ _ _ _ _ _)
   | (with_reducible exact spec_l02Ok.mono _ _ _ _ _ _ _)
   | (with_reducible exact spec_l02Water.mono _ _ _ _ _ _)
   | (with_reducible exact LeO.refl _)
   | (with_reducible exact LeO.none _)
   | (with_reducible refine LeO.ite ?_ ?_)
   | (with_reducible refine LeO.bind ?_ (fun _ => ?_))
   | exact ih0 _ _ _ _ _ _ _ _ _ _ _
   | exact ih1 _ _ _ _ _ _ _ _ _ _ _ _ _
   | exact spec_l02All.mono _ _ _ _ _ _ _
   | exact spec_l02Move.mono _ _ _ _ _ _ _ _ _ _ _ _ _ _
   | exact spec_l02Ok.mono _ _ _ _ _ _ _
   | exact spec_l02Water.mono _ _ _ _ _ _
   | exact LeO.none _
   | refine LeO.ite ?_ ?_
   | refine LeO.bind ?_ (fun _ => ?_)
def spec_MovesFrom.T8 : Bool × List (List Nat × List Nat) := (true, [([], []), ([], []), ([], []), ([1, 2], [1, 2]), ([3], [3]), ([0, 4], [0, 4]), ([5], [5]), ([6], [6]), ([6], [6]), ([], []), ([9, 7, 5, 0, 1, 2, 3, 4, 5, 6, 7, 9], [7, 9]), ([8, 10, 0, 1, 2, 3, 4, 5, 6, 7, 8, 9, 10], [8])])
def spec_MovesFrom.B8 : List Nat := [0, 0, 0, 6, 14, 31, 63, 127, 127, 0, 767, 2047]
theorem spec_MovesFrom.tab8 : rtab .any (opsOf Try.f47 8) = spec_MovesFrom.T8 := by kernel_rfl
theorem spec_MovesFrom.bits8 : waitsOk spec_MovesFrom.T8.2 spec_MovesFrom.B8 = true := by kernel_rfl
set_option maxHeartbeats 8000000 in
set_option maxRecDepth 100000 in
theorem spec_MovesFrom.calls (k : Nat) (A0_0 : Option Addr) (c0_0 : Nat) (l0_0 : List Int) (a0_1 : Int) (a0_2 : Int) (a0_3 : Int) (a0_4 : Int) (a0_5 : Bool) (a1_0 : Int) (a1_1 : Int) (a1_2 : Int) (a1_3 : Int) (r1 : List (S60)) (r2 : Int) (w : World) (hr0_0 : Kd.C (Kd.int .i16) w A0_0 l0_0.length l0_0) (hc0_0 : l0_0.length ≤ c0_0) (h : spec_MovesFrom.f k l0_0 a0_1 a0_2 a0_3 a0_4 a0_5 a1_0 a1_1 a1_2 a1_3 = some (r1, r2)) :
  Calls Try.prog 47 #[.agg #[.slice A0_0 l0_0.length c0_0, .int .i16 a0_1, .int .i16 a0_2, .int .i16 a0_3, .int .i16 a0_4, .bool a0_5], .agg #[.int .i16 a1_0, .int .i16 a1_1, .int .i16 a1_2, .int .i16 a1_3]] w fun e w' => ∃ v0_ : Value, e = .returned (.tuple #[v0_, .int .i64 r2]) ∧ Kd.R k60 60 w' w.heap.size (fun _ => True) v0_ r1 ∧ Below w.heap.size w w' := by
 have hu32 := Try.underlying32
 have hu30 := Try.underlying30
 have hu60 := Try.underlying60
 have HR0_0 := Aside0.mk hr0_0
 have HC0_0 := Aside0.mk hc0_0
 clear hr0_0 hc0_0
 have HB := A_ (Below.refl w.heap.size w)
 have H : ((spec_l02Ok.f k l0_0 a0_1 a0_2 a0_3 a0_4 a0_5).bind fun t304 => (if t304 = true then ((spec_l02Water.f k l0_0 a1_0 a1_1 a1_2 a1_3).bind fun t305 => (spec_MovesFrom.j0 k (!t305) l0_0 a0_1 a0_2 a0_3 a0_4 a0_5 a1_0 a1_1 a1_2 a1_3)) else (spec_MovesFrom.j0 k true l0_0 a0_1 a0_2 a0_3 a0_4 a0_5 a1_0 a1_1 a1_2 a1_3))) = some (r1, r2) := h
 clear h
 have HC3 := Aside0.mk H
 clear H
 go_enter Try.func47, Try.ntmps47
 go_upto_region 1 with (first | ((with_reducible refine gate_dst (N := 2) rfl ?_); refine box_event ?hg (N := 2) ?hd (cs := #[.slice A0_0 l0_0.length c0_0, .int .i16 a0_1, .int .i16 a0_2, .int .i16 a0_3, .int .i16 a0_4, .bool a0_5]) (t := 32) ?hr ?_; (case hd => rfl); (case hg => rfl); (case hr => first | (go_simp; done) | (go_simp; rfl)); intro gb302 hg w4 hbox hb; have n0_ := A_ (below_step (bl_ HB) hb); have n1_ := A_ (hbox); have n2_ := A_ ((by rw [hg]; exact (below_size (bl_ HB)) : w.heap.size ≤ gb302)); have n3_ := n2_; clear HB; have HB := n0_; have BK302 := n1_; have GW302 := n2_; have GE302 := n3_; clear n0_ n1_ n2_ n3_; clear hb hbox hg) | ((with_reducible refine gate_dst (N := 3) rfl ?_); refine box_event ?hg (N := 3) ?hd (cs := #[.int .i16 a1_0, .int .i16 a1_1, .int .i16 a1_2, .int .i16 a1_3]) (t := 30) ?hr ?_; (case hd => rfl); (case hg => rfl); (case hr => first | (go_simp; done) | (go_simp; rfl)); intro gb303 hg w5 hbox hb; have n0_ := A_ (blk_below (pl_ BK302) hb); have n1_ := A_ (below_step (bl_ HB) hb); have n2_ := A_ (hbox); have n3_ := A_ ((by rw [hg]; exact (below_size (bl_ HB)) : w.heap.size ≤ gb303)); have n4_ := n3_; have n5_ := A_ ((by rw [hg]; exact Nat.ne_of_lt (blk_lt (pl_ BK302)) : gb302 ≠ gb303)); have n6_ := Aside0.mk n5_.out.symm; clear BK302; clear HB; have BK302 := n0_; have HB := n1_; have BK303 := n2_; have GW303 := n3_; have GE303 := n4_; have NB302_303 := n5_; have NB303_302 := n6_; clear n0_ n1_ n2_ n3_ n4_ n5_ n6_; clear hb hbox hg))
 (try simp only [Act.put, List.setIfInBounds_toArray, List.set_cons_zero, List.set_cons_succ])
 go_cut [19] (fun v19 wc => ∃ (kq : Nat) (x19_2 : Bool) (x303001_2 : Int) (x303002_2 : Int) (x303003_2 : Int) (x303004_2 : Int) (x303005_2 : Bool), v19 = .bool x19_2 ∧ Aside0 (spec_MovesFrom.j0 kq x19_2 l0_0 x303001_2 x303002_2 x303003_2 x303004_2 x303005_2 a1_0 a1_1 a1_2 a1_3 = some (r1, r2)) ∧ Aside0 (kq ≤ k) ∧ Aside0 (wc.heap[gb302]? = some (.cells #[(.slice A0_0 l0_0.length c0_0), .int .i16 x303001_2, .int .i16 x303002_2, .int .i16 x303003_2, .int .i16 x303004_2, .bool x303005_2] 32 (0, 0))) ∧ Aside0 (wc.heap[gb303]? = some (.cells #[.int .i16 a1_0, .int .i16 a1_1, .int .i16 a1_2, .int .i16 a1_3] 30 (0, 0))) ∧ Aside0 (Below w.heap.size w wc))
 case first =>
  have H := HC3.out
  clear HC3
  replace H := Option.bind_eq_some_iff.mp H
  obtain ⟨t304, A60, H⟩ := H
  replace H : (if t304 = true then ((spec_l02Water.f k l0_0 a1_0 a1_1 a1_2 a1_3).bind fun t305 => (spec_MovesFrom.j0 k (!t305) l0_0 a0_1 a0_2 a0_3 a0_4 a0_5 a1_0 a1_1 a1_2 a1_3)) else (spec_MovesFrom.j0 k true l0_0 a0_1 a0_2 a0_3 a0_4 a0_5 a1_0 a1_1 a1_2 a1_3)) = some (r1, r2) := H
  have A6 := Aside0.mk A60
  clear A60
  by_cases c7 : t304 = true
  ·subst c7
   have H1 : ((spec_l02Water.f k l0_0 a1_0 a1_1 a1_2 a1_3).bind fun t305 => (spec_MovesFrom.j0 k (!t305) l0_0 a0_1 a0_2 a0_3 a0_4 a0_5 a1_0 a1_1 a1_2 a1_3)) = some (r1, r2) := by rw [if_pos rfl] at H; exact H
   clear H
   have H := H1
   clear H1
   replace H := Option.bind_eq_some_iff.mp H
   obtain ⟨t305, A80, H⟩ := H
   replace H : (spec_MovesFrom.j0 k (!t305) l0_0 a0_1 a0_2 a0_3 a0_4 a0_5 a1_0 a1_1 a1_2 a1_3) = some (r1, r2) := H
   have A8 := Aside0.mk A80
   clear A80
   have H' := Aside0.mk H
   clear H
   go_wp2_with (first | ((with_reducible refine gate_callee (f := 68) rfl ?_); refine goesL_ (some 11) rfl rfl Try.func68 (by kernel_rfl) rfl #[.pointer (some ⟨gb302, 0, none⟩)] rfl arg_ ?_; (with_reducible refine (spec_l02Ok.calls k gb302 A0_0 c0_0 l0_0 a0_1 a0_2 a0_3 a0_4 a0_5 true _ ?side1 ?side2 ?side3 A6.out).mono ?_); (case side1 => exact (pl_ BK302)); (case side2 => repeat (first | exact (Kd.C_below HR0_0.out HB.out) | (with_reducible refine Kd.C_alloc ?_ _) | (with_reducible refine Kd.C_drewN ?_ _) | (with_reducible refine Kd.C_drew ?_))); (case side3 => exact HC0_0.out); rintro e w9 ⟨rfl, hb⟩; refine ⟨_, rfl, ?_⟩; have n0_ := A_ (blk_below (pl_ BK302) hb); have n1_ := A_ (blk_below (pl_ BK303) hb); have n2_ := A_ (below_step (bl_ HB) hb); clear BK302; clear BK303; clear HB; have BK302 := n0_; have BK303 := n1_; have HB := n2_; clear n0_ n1_ n2_; (try clear hb); (try clear hb2); (try clear hk); (try clear hi); have hnb10 := NB302_303.out; have hnc10 := NB303_302.out; have hcz11_0 : w9.cell? ⟨gb302, 0, none⟩ = some (.slice A0_0 l0_0.length c0_0) := (blk_cell BK302.out 0).trans rfl; have hcz11_1 : w9.cell? ⟨gb302, 1, none⟩ = some (.int .i16 a0_1) := (blk_cell BK302.out 1).trans rfl; have hcz11_2 : w9.cell? ⟨gb302, 2, none⟩ = some (.int .i16 a0_2) := (blk_cell BK302.out 2).trans rfl; have hcz11_3 : w9.cell? ⟨gb302, 3, none⟩ = some (.int .i16 a0_3) := (blk_cell BK302.out 3).trans rfl; have hcz11_4 : w9.cell? ⟨gb302, 4, none⟩ = some (.int .i16 a0_4) := (blk_cell BK302.out 4).trans rfl; have hcz11_5 : w9.cell? ⟨gb302, 5, none⟩ = some (.bool a0_5) := (blk_cell BK302.out 5).trans rfl; have hfz11_0 := blk_frozen BK302.out 0; have hfz11_1 := blk_frozen BK302.out 1; have hfz11_2 := blk_frozen BK302.out 2; have hfz11_3 := blk_frozen BK302.out 3; have hfz11_4 := blk_frozen BK302.out 4; have hfz11_5 := blk_frozen BK302.out 5; have hcz12_0 : w9.cell? ⟨gb303, 0, none⟩ = some (.int .i16 a1_0) := (blk_cell BK303.out 0).trans rfl; have hcz12_1 : w9.cell? ⟨gb303, 1, none⟩ = some (.int .i16 a1_1) := (blk_cell BK303.out 1).trans rfl; have hcz12_2 : w9.cell? ⟨gb303, 2, none⟩ = some (.int .i16 a1_2) := (blk_cell BK303.out 2).trans rfl; have hcz12_3 : w9.cell? ⟨gb303, 3, none⟩ = some (.int .i16 a1_3) := (blk_cell BK303.out 3).trans rfl; have hfz12_0 := blk_frozen BK303.out 0; have hfz12_1 := blk_frozen BK303.out 1; have hfz12_2 := blk_frozen BK303.out 2; have hfz12_3 := blk_frozen BK303.out 3) | (go_at_call 73; (with_reducible refine (spec_l02Water.calls k _ _ l0_0 a1_0 a1_1 a1_2 a1_3 t305 _ ?side1 ?side2 A8.out).mono ?_); (case side1 => repeat (first | exact (Kd.C_below HR0_0.out HB.out) | (with_reducible refine Kd.C_alloc ?_ _) | (with_reducible refine Kd.C_drewN ?_ _) | (with_reducible refine Kd.C_drew ?_))); (case side2 => exact HC0_0.out); rintro e w13 ⟨rfl, hb⟩; have n0_ := A_ (blk_below (pl_ BK302) hb); have n1_ := A_ (blk_below (pl_ BK303) hb); have n2_ := A_ (below_step (bl_ HB) hb); clear BK302; clear BK303; clear HB; have BK302 := n0_; have BK303 := n1_; have HB := n2_; clear n0_ n1_ n2_; (try clear hb); (try clear hb2); (try clear hk); (try clear hi)))
   go_meet
   case rel => exact ⟨_, (!t305), (a0_1), (a0_2), (a0_3), (a0_4), (a0_5), rs_, H', ⟨by first | omega | exact Nat.le_refl _⟩, ⟨pl_ BK302⟩, ⟨pl_ BK303⟩, ⟨bl_ HB⟩⟩
  ·replace c7 := Bool.eq_false_iff.mpr c7
   subst c7
   have H1 : (spec_MovesFrom.j0 k true l0_0 a0_1 a0_2 a0_3 a0_4 a0_5 a1_0 a1_1 a1_2 a1_3) = some (r1, r2) := by rw [if_neg (show ¬ (false = true) by decide)] at H; exact H
   clear H
   have H := H1
   clear H1
   have H' := Aside0.mk H
   clear H
   go_wp2_with (first | ((with_reducible refine gate_callee (f := 68) rfl ?_); refine goesL_ (some 11) rfl rfl Try.func68 (by kernel_rfl) rfl #[.pointer (some ⟨gb302, 0, none⟩)] rfl arg_ ?_; (with_reducible refine (spec_l02Ok.calls k gb302 A0_0 c0_0 l0_0 a0_1 a0_2 a0_3 a0_4 a0_5 false _ ?side1 ?side2 ?side3 A6.out).mono ?_); (case side1 => exact (pl_ BK302)); (case side2 => repeat (first | exact (Kd.C_below HR0_0.out HB.out) | (with_reducible refine Kd.C_alloc ?_ _) | (with_reducible refine Kd.C_drewN ?_ _) | (with_reducible refine Kd.C_drew ?_))); (case side3 => exact HC0_0.out); rintro e w14 ⟨rfl, hb⟩; refine ⟨_, rfl, ?_⟩; have n0_ := A_ (blk_below (pl_ BK302) hb); have n1_ := A_ (blk_below (pl_ BK303) hb); have n2_ := A_ (below_step (bl_ HB) hb); clear BK302; clear BK303; clear HB; have BK302 := n0_; have BK303 := n1_; have HB := n2_; clear n0_ n1_ n2_; (try clear hb); (try clear hb2); (try clear hk); (try clear hi)))
   go_meet
   case rel => exact ⟨_, (true), (a0_1), (a0_2), (a0_3), (a0_4), (a0_5), rs_, H', ⟨by first | omega | exact Nat.le_refl _⟩, ⟨pl_ BK302⟩, ⟨pl_ BK303⟩, ⟨bl_ HB⟩⟩
 case rest =>
  clear HC3
  try clear c1
  try clear p2
  try clear c4
  try clear c6
  try clear c7
  try clear c10
  try clear hcz11_0
  try clear hcz11_1
  try clear hcz11_2
  try clear hcz11_3
  try clear hcz11_4
  try clear hcz11_5
  try clear hcz12_0
  try clear hcz12_1
  try clear hcz12_2
  try clear hcz12_3
  try clear hfz11_0
  try clear hfz11_1
  try clear hfz11_2
  try clear hfz11_3
  try clear hfz11_4
  try clear hfz11_5
  try clear hfz12_0
  try clear hfz12_1
  try clear hfz12_2
  try clear hfz12_3
  obtain ⟨kq, x19_2, x303001_2, x303002_2, x303003_2, x303004_2, x303005_2, rfl, HA, HJ2, BK302, BK303, HB⟩ := hcut
  cases kq with
  | zero => exact absurd HA.out (by simp [spec_MovesFrom.j0])
  | succ kj2 =>
   have H := HA.out
   clear HA
   simp only [spec_MovesFrom.j0] at H
   by_cases c15 : x19_2 = true
   ·subst c15
    have H1 : (some ((([] : List (S60))), 1)) = some (r1, r2) := by rw [if_pos rfl] at H; exact H
    clear H
    have H := H1
    clear H1
    obtain ⟨y306, hy306⟩ : ∃ y_ : List (S60), y_ = (([] : List (S60))) := ⟨_, rfl⟩
    replace H : (some (y306, 1)) = some (r1, r2) := by first | (rw [hy306]; with_reducible exact H) | (have H2_ := (Option.bind_some _ _).symm.trans H; rw [hy306]; with_reducible exact H2_) | (have H2_ := (Option.bind_some _ _).symm.trans H; with_reducible exact H2_) | with_reducible exact H | (rw [hy306]; exact H) | exact H
    have Ny306 := Aside0.mk hy306
    clear hy306
    simp only [Option.some.injEq, Prod.mk.injEq] at H
    obtain ⟨rfl, rfl⟩ := H
    go_wp2_with (first | ((with_reducible refine gate_dst (N := 20) rfl ?_); refine Kd.R_lit k60 _ 60 ?hg (N := 20) ?hd (xs := ([] : List (S60))) (inner := []) (ok := fun _ => True) (okp := fun _ => True) ?hr ?hp (fun _ hk => hk) trivial (Below.refl _ _) (Nat.le_refl _) (by simp) ?_; (case hd => rfl); (case hg => rfl); (case hr => first | (go_simp; done) | (go_simp; rfl)); (case hp => exact (Reps.none _ _)); intro v307 w16 ho17 hb hg_ hnew_; clear hg_ hnew_; (first | rw [← Ny306.out] at ho17 | (simp only [Int.reduceToNat] at ho17; rw [← Ny306.out] at ho17)); have n0_ := A_ (Kd.R_lower ho17 (below_size (bl_ HB))); have n1_ := A_ (blk_below (pl_ BK302) hb); have n2_ := A_ (blk_below (pl_ BK303) hb); have n3_ := A_ (below_step (bl_ HB) hb); clear BK302; clear BK303; clear HB; have HO308 := n0_; have BK302 := n1_; have BK303 := n2_; have HB := n3_; clear n0_ n1_ n2_ n3_; clear hb ho17))
    go_ret2
    exact ⟨_, by first | rfl | (simp [errW_none, errW_some] <;> rfl) | (simp [*, errW_none, errW_some] <;> rfl), pr_ HO308, bl_ HB⟩
   ·replace c15 := Bool.eq_false_iff.mpr c15
    subst c15
    have H1 : ((spec_l02All.f kj2 l0_0 x303001_2 x303002_2 x303003_2 x303004_2 x303005_2).bind fun t312 => (spec_MovesFrom.l0 kj2 (([] : List (S60))) t312 0 l0_0 x303001_2 x303002_2 x303003_2 x303004_2 x303005_2 a1_0 a1_1 a1_2 a1_3)) = some (r1, r2) := by rw [if_neg (show ¬ (false = true) by decide)] at H; exact H
    clear H
    have H := H1
    clear H1
    obtain ⟨y309, hy309⟩ : ∃ y_ : List (S60), y_ = (([] : List (S60))) := ⟨_, rfl⟩
    replace H : ((spec_l02All.f kj2 l0_0 x303001_2 x303002_2 x303003_2 x303004_2 x303005_2).bind fun t312 => (spec_MovesFrom.l0 kj2 y309 t312 0 l0_0 x303001_2 x303002_2 x303003_2 x303004_2 x303005_2 a1_0 a1_1 a1_2 a1_3)) = some (r1, r2) := by first | (rw [hy309]; with_reducible exact H) | (have H2_ := (Option.bind_some _ _).symm.trans H; rw [hy309]; with_reducible exact H2_) | (have H2_ := (Option.bind_some _ _).symm.trans H; with_reducible exact H2_) | with_reducible exact H | (rw [hy309]; exact H) | exact H
    have Ny309 := Aside0.mk hy309
    clear hy309
    replace H := Option.bind_eq_some_iff.mp H
    obtain ⟨t312, A180, H⟩ := H
    replace H : (spec_MovesFrom.l0 kj2 y309 t312 0 l0_0 x303001_2 x303002_2 x303003_2 x303004_2 x303005_2 a1_0 a1_1 a1_2 a1_3) = some (r1, r2) := H
    have A18 := Aside0.mk A180
    clear A180
    have H' := Aside0.mk H
    clear H
    go_wp2_with (first | ((with_reducible refine gate_dst (N := 21) rfl ?_); refine Kd.R_lit k60 _ 60 ?hg (N := 21) ?hd (xs := ([] : List (S60))) (inner := []) (ok := fun _ => True) (okp := fun _ => True) ?hr ?hp (fun _ hk => hk) trivial (Below.refl _ _) (Nat.le_refl _) (by simp) ?_; (case hd => rfl); (case hg => rfl); (case hr => first | (go_simp; done) | (go_simp; rfl)); (case hp => exact (Reps.none _ _)); intro v310 w19 ho20 hb hg_ hnew_; clear hg_ hnew_; (first | rw [← Ny309.out] at ho20 | (simp only [Int.reduceToNat] at ho20; rw [← Ny309.out] at ho20)); have n0_ := A_ (Kd.R_lower ho20 (below_size (bl_ HB))); have n1_ := A_ (blk_below (pl_ BK302) hb); have n2_ := A_ (blk_below (pl_ BK303) hb); have n3_ := A_ (below_step (bl_ HB) hb); clear BK302; clear BK303; clear HB; have HO311 := n0_; have BK302 := n1_; have BK303 := n2_; have HB := n3_; clear n0_ n1_ n2_ n3_; clear hb ho20) | ((with_reducible refine gate_callee (f := 88) rfl ?_); refine goesL_ (some 22) rfl rfl Try.func88 (by kernel_rfl) rfl #[.pointer (some ⟨gb302, 0, none⟩)] rfl arg_ ?_; (with_reducible refine (spec_l02All.calls kj2 gb302 A0_0 c0_0 l0_0 x303001_2 x303002_2 x303003_2 x303004_2 x303005_2 t312 _ ?side1 ?side2 ?side3 A18.out).mono ?_); (case side1 => exact (pl_ BK302)); (case side2 => repeat (first | exact (Kd.C_below HR0_0.out HB.out) | (with_reducible refine Kd.C_alloc ?_ _) | (with_reducible refine Kd.C_drewN ?_ _) | (with_reducible refine Kd.C_drew ?_))); (case side3 => exact HC0_0.out); rintro e w21 ⟨v313, rfl, ho0, hb⟩; refine ⟨_, rfl, ?_⟩; have n0_ := A_ (Kd.R_elder' (pr_ HO311) (Kd.R_base ho0) hb); have n1_ := A_ (Kd.R_lower (Kd.R_new' ho0 (Kd.R_lt (pr_ HO311))) (below_size (bl_ HB))); have n2_ := A_ (blk_below (pl_ BK302) hb); have n3_ := A_ (blk_below (pl_ BK303) hb); have n4_ := A_ (below_step (bl_ HB) hb); clear HO311; clear BK302; clear BK303; clear HB; have HO311 := n0_; have HO314 := n1_; have BK302 := n2_; have BK303 := n3_; have HB := n4_; clear n0_ n1_ n2_ n3_ n4_; (try clear hb); (try clear hb2); (try clear hk); (try clear hi); (try clear ho0)))
    go_loopg [6, 8] kj2 (fun kq v6 v8 w' => ∃ (x6_2 : List (S60)) (x8_2 : Int) (x303001_2 : Int) (x303002_2 : Int) (x303003_2 : Int) (x303004_2 : Int) (x303005_2 : Bool), v8 = .int .i64 x8_2 ∧ Aside0 (spec_MovesFrom.l0 kq x6_2 t312 x8_2 l0_0 x303001_2 x303002_2 x303003_2 x303004_2 x303005_2 a1_0 a1_1 a1_2 a1_3 = some (r1, r2)) ∧ Aside0 (kq ≤ kj2) ∧ Aside0 (Kd.R k60 60 w' w.heap.size (fun k_ => some k_ ≠ (v313 : Value).ownBlock) v6 x6_2) ∧ Aside0 (Kd.R k60 60 w' w.heap.size (fun k_ => some k_ ≠ (v6 : Value).ownBlock) v313 t312) ∧ Aside0 (w'.heap[gb302]? = some (.cells #[(.slice A0_0 l0_0.length c0_0), .int .i16 x303001_2, .int .i16 x303002_2, .int .i16 x303003_2, .int .i16 x303004_2, .bool x303005_2] 32 (0, 0))) ∧ Aside0 (w'.heap[gb303]? = some (.cells #[.int .i16 a1_0, .int .i16 a1_1, .int .i16 a1_2, .int .i16 a1_3] 30 (0, 0))) ∧ Aside0 (Below w.heap.size w w'))
    case atStart => exact ⟨(y309), (0), (x303001_2), (x303002_2), (x303003_2), (x303004_2), (x303005_2), rs_, H', ⟨Nat.le_refl _⟩, ⟨by (with_reducible repeat (first | apply Kd.R_alloc | apply Kd.R_drewN | apply Kd.R_drew)); exact Kd.R_mono HO311.out (fun _ hk => hk.2)⟩, ⟨by (with_reducible repeat (first | apply Kd.R_alloc | apply Kd.R_drewN | apply Kd.R_drew)); exact Kd.R_mono HO314.out (fun _ hk => hk.2)⟩, ⟨pl_ BK302⟩, ⟨pl_ BK303⟩, ⟨bl_ HB⟩⟩
    case round =>
     clear H'
     try clear c1
     try clear p2
     try clear c4
     try clear c6
     try clear c7
     try clear c8
     try clear c10
     try clear c15
     try clear hcz11_0
     try clear hcz11_1
     try clear hcz11_2
     try clear hcz11_3
     try clear hcz11_4
     try clear hcz11_5
     try clear hcz12_0
     try clear hcz12_1
     try clear hcz12_2
     try clear hcz12_3
     try clear hfz11_0
     try clear hfz11_1
     try clear hfz11_2
     try clear hfz11_3
     try clear hfz11_4
     try clear hfz11_5
     try clear hfz12_0
     try clear hfz12_1
     try clear hfz12_2
     try clear hfz12_3
     try clear p2
     obtain ⟨x6_2, x8_2, x303001_2, x303002_2, x303003_2, x303004_2, x303005_2, rfl, HA, HK2, HO_6, HO_7, BK302, BK303, HB⟩ := hrel
     cases gk with
     | zero => exact absurd HA.out (by simp [spec_MovesFrom.l0])
     | succ k2 =>
      have H := HA.out
      clear HA
      simp only [spec_MovesFrom.l0] at H
      by_cases c22 : x8_2 < (t312.length : Int)
      ·rw [if_pos c22] at H
       have c22b0 : decide (x8_2 < (t312.length : Int)) = true := decide_eq_true c22
       clear c22
       by_cases c23 : 0 ≤ x8_2
       ·rw [if_pos c23] at H
        have c23b0 : decide (0 ≤ x8_2) = true := decide_eq_true c23
        clear c23
        replace H := Option.bind_eq_some_iff.mp H
        obtain ⟨⟨t316, t317, t318, t319, t320⟩, A240, H⟩ := H
        replace H : (if t320 = 0 then (if x6_2.length < 46912496118442 then (spec_MovesFrom.l0 k2 (x6_2 ++ [(⟨(rd_T60 t312 x8_2).f0, (rd_T60 t312 x8_2).f1, (rd_T60 t312 x8_2).f2⟩ : S60)]) t312 (wrap64 (x8_2 + 1)) l0_0 x303001_2 x303002_2 x303003_2 x303004_2 x303005_2 a1_0 a1_1 a1_2 a1_3) else (none)) else (spec_MovesFrom.l0 k2 x6_2 t312 (wrap64 (x8_2 + 1)) l0_0 x303001_2 x303002_2 x303003_2 x303004_2 x303005_2 a1_0 a1_1 a1_2 a1_3)) = some (r1, r2) := H
        have A24 := Aside0.mk A240
        clear A240
        by_cases c25 : t320 = 0
        ·rw [if_pos c25] at H
         have c25b0 : (t320 == 0) = true := beq_iff_eq.mpr c25
         have c25b1 : (t320 != 0) = false := bne_eq_false_iff_eq.mpr c25
         clear c25
         by_cases c26 : x6_2.length < 46912496118442
         ·rw [if_pos c26] at H
          have LMc26 := Aside0.mk c26
          clear c26
          obtain ⟨y323, hy323⟩ : ∃ y_ : List (S60), y_ = (x6_2 ++ [(⟨(rd_T60 t312 x8_2).f0, (rd_T60 t312 x8_2).f1, (rd_T60 t312 x8_2).f2⟩ : S60)]) := ⟨_, rfl⟩
          replace H : (spec_MovesFrom.l0 k2 y323 t312 (wrap64 (x8_2 + 1)) l0_0 x303001_2 x303002_2 x303003_2 x303004_2 x303005_2 a1_0 a1_1 a1_2 a1_3) = some (r1, r2) := by first | (rw [hy323]; with_reducible exact H) | (have H2_ := (Option.bind_some _ _).symm.trans H; rw [hy323]; with_reducible exact H2_) | (have H2_ := (Option.bind_some _ _).symm.trans H; with_reducible exact H2_) | with_reducible exact H | (rw [hy323]; exact H) | exact H
          have Ny323 := Aside0.mk hy323
          clear hy323
          have H' := Aside0.mk H
          clear H
          obtain ⟨Ao27, co27, eo27⟩ := Kd.R_slice HO_7.out
          subst eo27
          try go_wp2
          have n0_ := A_ (Kd.R_drew HO_6.out)
          have n1_ := A_ (Kd.R_drew HO_7.out)
          have n2_ := A_ (blk_drew BK302.out)
          have n3_ := A_ (blk_drew BK303.out)
          have n4_ := A_ (below_drew1 HB.out)
          clear HO_6
          clear HO_7
          clear BK302
          clear BK303
          clear HB
          have HO_6 := n0_
          have HO_7 := n1_
          have BK302 := n2_
          have BK303 := n3_
          have HB := n4_
          clear n0_ n1_ n2_ n3_ n4_
          have p315 : 0 ≤ (x8_2 : Int) := asm_
          have q315 : x8_2 < (t312.length : Int) := asm_
          obtain ⟨ad315, e315, hx315_0, hx315_1, hx315_2⟩ := at_T60 (Kd.R_reads' HO_7.out).2.2 x8_2 p315 q315
          cases e315
          replace p315 := eq_true p315
          replace q315 := eq_true q315
          refine start_ (n := 12) (S := fun w' => w'.cell? ⟨gb303, 0, none⟩ = some (.int .i16 a1_0) ∧ w'.cell? ⟨gb303, 1, none⟩ = some (.int .i16 a1_1) ∧ w'.cell? ⟨gb303, 2, none⟩ = some (.int .i16 a1_2) ∧ w'.cell? ⟨gb303, 3, none⟩ = some (.int .i16 a1_3) ∧ w'.cell? (ad315.add ((x8_2).toNat * 3)) = some (.int .i8 ((rd_T60 t312 x8_2).f0)) ∧ w'.cell? ⟨(ad315.add ((x8_2).toNat * 3)).block, (ad315.add ((x8_2).toNat * 3)).off + 1, none⟩ = some (.int .i8 ((rd_T60 t312 x8_2).f1)) ∧ w'.cell? ⟨(ad315.add ((x8_2).toNat * 3)).block, (ad315.add ((x8_2).toNat * 3)).off + 2, none⟩ = some (.int .i8 ((rd_T60 t312 x8_2).f2))) (ds := []) #[false, false, false, false, false, false, false, false, false, false, false, false] (by kernel_rfl) rfl rfl ⟨(blk_cell BK303.out 0).trans rfl, (blk_cell BK303.out 1).trans rfl, (blk_cell BK303.out 2).trans rfl, (blk_cell BK303.out 3).trans rfl, hx315_0, hx315_1, hx315_2⟩ (fun hHeld => ?_); refine with_tabW spec_MovesFrom.tab8 spec_MovesFrom.bits8 (fun HT_ HW_ => ?_)
          generalize wr.drew = w28 at HO_6 HO_7 BK302 BK303 HB hx315_0 hx315_1 hx315_2 hHeld ⊢
          refine pure_ (i := 1) (N := some 31) (v := ?_) (a' := ?_) #[false, true, false, false, false, false, false, false, false, false, false, false] rfl rfl (any_of HT_.out (by kernel_rfl)) (fun _ _ _ h => h) (Or.inl ⟨by rfl, ?_⟩) ?_ ?_
          rotate_left
          ·intro w'
           go_simp
           with_reducible rfl
          rotate_left
          ·simp only [Act.put, List.setIfInBounds_toArray, List.set_cons_zero, List.set_cons_succ, i64_w, i32_w]
           rfl
          refine pure_ (i := 2) (N := some 32) (v := ?_) (a' := ?_) #[false, true, true, false, false, false, false, false, false, false, false, false] rfl rfl (any_of HT_.out (by kernel_rfl)) (fun _ _ _ h => h) (Or.inl ⟨by rfl, ?_⟩) ?_ ?_
          rotate_left
          ·intro w'
           go_simp
           with_reducible rfl
          rotate_left
          ·simp only [Act.put, List.setIfInBounds_toArray, List.set_cons_zero, List.set_cons_succ, i64_w, i32_w]
           rfl
          refine pure_ (i := 3) (N := some 33) (v := ?_) (a' := ?_) #[false, true, true, true, false, false, false, false, false, false, false, false] rfl rfl (any_of HT_.out (by kernel_rfl)) (fun _ _ _ h => h) (Or.inl ⟨by rfl, ?_⟩) ?_ ?_
          rotate_left
          ·intro w'
           go_simp
           with_reducible rfl
          rotate_left
          ·simp only [Act.put, List.setIfInBounds_toArray, List.set_cons_zero, List.set_cons_succ, i64_w, i32_w]
           rfl
          refine take_ (i := 0) (N := some 30) (v := ?_) (a' := ?_) #[true, true, true, true, false, false, false, false, false, false, false, false] rfl rfl (take_ofW HT_.out HW_.out (by kernel_rfl)) (fun _ _ _ h => h) (Or.inl ⟨by rfl, ?_⟩) hHeld ?_ ?_
          rotate_left
          ·rintro w' ⟨s0, s1, s2, s3, s4, s5, s6⟩
           go_simp
           with_reducible rfl
          rotate_left
          ·simp only [Act.put, List.setIfInBounds_toArray, List.set_cons_zero, List.set_cons_succ, i64_w, i32_w]
           rfl
          refine take_ (i := 4) (N := some 34) (v := ?_) (a' := ?_) #[true, true, true, true, true, false, false, false, false, false, false, false] rfl rfl (take_ofW HT_.out HW_.out (by kernel_rfl)) (fun _ _ _ h => h) (Or.inl ⟨by rfl, ?_⟩) hHeld ?_ ?_
          rotate_left
          ·rintro w' ⟨s0, s1, s2, s3, s4, s5, s6⟩
           go_simp
           with_reducible rfl
          rotate_left
          ·simp only [Act.put, List.setIfInBounds_toArray, List.set_cons_zero, List.set_cons_succ, i64_w, i32_w]
           rfl
          refine join_ (σ := Nat) 2 #[true, true, true, true, true, true, true, true, true, true, false, false] (fun s_ => [(35, .tuple #[.agg #[.int .i16 t316, .int .i16 t317, .int .i16 t318, .int .i16 t319], .int .i64 t320]), (9, .pointer (some ⟨s_, 0, none⟩)), (29, .tuple #[.agg #[.int .i16 t316, .int .i16 t317, .int .i16 t318, .int .i16 t319], .int .i64 t320]), (36, .agg #[.int .i16 t316, .int .i16 t317, .int .i16 t318, .int .i16 t319]), (37, .int .i64 t320)]) (fun s_ w' => (w'.cell? ⟨gb303, 0, none⟩ = some (.int .i16 a1_0) ∧ w'.cell? ⟨gb303, 1, none⟩ = some (.int .i16 a1_1) ∧ w'.cell? ⟨gb303, 2, none⟩ = some (.int .i16 a1_2) ∧ w'.cell? ⟨gb303, 3, none⟩ = some (.int .i16 a1_3) ∧ w'.cell? (ad315.add ((x8_2).toNat * 3)) = some (.int .i8 ((rd_T60 t312 x8_2).f0)) ∧ w'.cell? ⟨(ad315.add ((x8_2).toNat * 3)).block, (ad315.add ((x8_2).toNat * 3)).off + 1, none⟩ = some (.int .i8 ((rd_T60 t312 x8_2).f1)) ∧ w'.cell? ⟨(ad315.add ((x8_2).toNat * 3)).block, (ad315.add ((x8_2).toNat * 3)).off + 2, none⟩ = some (.int .i8 ((rd_T60 t312 x8_2).f2))) ∧ (Kd.R k60 60 w' w.heap.size (fun k_ => some k_ ≠ (.slice (some ad315) t312.length co27 : Value).ownBlock) u6 x6_2) ∧ (Kd.R k60 60 w' w.heap.size (fun k_ => some k_ ≠ (u6 : Value).ownBlock) (.slice (some ad315) t312.length co27) t312) ∧ (w'.heap[gb302]? = some (.cells #[.slice A0_0 l0_0.length c0_0, .int .i16 x303001_2, .int .i16 x303002_2, .int .i16 x303003_2, .int .i16 x303004_2, .bool x303005_2] 32 (0, 0))) ∧ (w'.heap[gb303]? = some (.cells #[.int .i16 a1_0, .int .i16 a1_1, .int .i16 a1_2, .int .i16 a1_3] 30 (0, 0))) ∧ (w'.heap[s_]? = some (.cells #[.int .i16 0, .int .i16 0, .int .i16 0, .int .i16 0] 30 (0, 0))) ∧ (w.heap.size ≤ s_) ∧ (w.heap.size ≤ s_) ∧ (gb302 ≠ s_) ∧ (s_ ≠ gb302) ∧ (gb303 ≠ s_) ∧ (s_ ≠ gb303) ∧ (Below w.heap.size w w')) ?_ ?_
          rotate_left
          ·intro hCont
           refine two_ (i := 5) (j := 9) (Ni := some 35) (Nj := some 9) #[true, true, true, true, true, true, false, false, false, false, false, false] #[true, true, true, true, true, false, false, false, false, true, false, false] rfl rfl rfl rfl (two_of HT_.out (by kernel_rfl)) (by decide) (by decide) (fun K hK => ?_) (fun K hK => ?_)
           ·skip
            refine goes_ Try.func85 (by kernel_rfl) rfl #[.pointer (some ⟨gb302, 0, none⟩), .agg #[.int .i16 a1_0, .int .i16 a1_1, .int .i16 a1_2, .int .i16 a1_3], .agg #[.int .i8 ((rd_T60 t312 x8_2).f0), .int .i8 ((rd_T60 t312 x8_2).f1), .int .i8 ((rd_T60 t312 x8_2).f2)]] (by rfl) rfl rfl arg_ ?_
            with_reducible refine (spec_l02Move.calls k2 gb302 A0_0 c0_0 l0_0 x303001_2 x303002_2 x303003_2 x303004_2 x303005_2 a1_0 a1_1 a1_2 a1_3 ((rd_T60 t312 x8_2).f0) ((rd_T60 t312 x8_2).f1) ((rd_T60 t312 x8_2).f2) t316 t317 t318 t319 t320 _ ?side1 ?side2 ?side3 A24.out).mono ?_
            (case side1 => exact (pl_ BK302))
            (case side2 => repeat (first | exact (Kd.C_below HR0_0.out HB.out) | (with_reducible refine Kd.C_alloc ?_ _) | (with_reducible refine Kd.C_drewN ?_ _) | (with_reducible refine Kd.C_drew ?_)))
            (case side3 => exact HC0_0.out)
            rintro e w29 ⟨rfl, hb⟩
            have HS4_ := (hb.cell (World.block_lt_of_cell? _ _ (hHeld.2.2.2.2.1))).trans (hHeld.2.2.2.2.1)
            have HS5_ := (hb.cell (World.block_lt_of_cell? _ _ (hHeld.2.2.2.2.2.1))).trans (hHeld.2.2.2.2.2.1)
            have HS6_ := (hb.cell (World.block_lt_of_cell? _ _ (hHeld.2.2.2.2.2.2))).trans (hHeld.2.2.2.2.2.2)
            refine ⟨_, rfl, ?_⟩
            have n0_ := A_ (Kd.R_below (pr_ HO_6) hb)
            have n1_ := A_ (Kd.R_below (pr_ HO_7) hb)
            have n2_ := A_ (blk_below (pl_ BK302) hb)
            have n3_ := A_ (blk_below (pl_ BK303) hb)
            have n4_ := A_ (below_step (bl_ HB) hb)
            clear HO_6
            clear HO_7
            clear BK302
            clear BK303
            clear HB
            have HO_6 := n0_
            have HO_7 := n1_
            have BK302 := n2_
            have BK303 := n3_
            have HB := n4_
            clear n0_ n1_ n2_ n3_ n4_
            (try clear hb)
            (try clear hb2)
            (try clear hk)
            (try clear hi)
            refine hK.out _ _ ⟨(blk_cell BK303.out 0).trans rfl, (blk_cell BK303.out 1).trans rfl, (blk_cell BK303.out 2).trans rfl, (blk_cell BK303.out 3).trans rfl, HS4_, HS5_, HS6_⟩ (fun hHeld => ?_)
            clear hK K
            refine norm_ (a' := ?_) ?_ ?_
            rotate_left
            ·show Act.put _ (some 35) _ = _
             simp only [Act.put, List.setIfInBounds_toArray, List.set_cons_zero, List.set_cons_succ, i64_w, i32_w]
             rfl
            refine pure_ (i := 6) (N := some 29) (v := ?_) (a' := ?_) #[true, true, true, true, true, true, true, false, false, false, false, false] rfl rfl (any_of HT_.out (by kernel_rfl)) (fun _ _ _ h => h) (Or.inl ⟨by rfl, ?_⟩) ?_ ?_
            rotate_left
            ·intro w'
             go_simp
             with_reducible rfl
            rotate_left
            ·simp only [Act.put, List.setIfInBounds_toArray, List.set_cons_zero, List.set_cons_succ, i64_w, i32_w]
             rfl
            refine pure_ (i := 7) (N := some 36) (v := ?_) (a' := ?_) #[true, true, true, true, true, true, true, true, false, false, false, false] rfl rfl (any_of HT_.out (by kernel_rfl)) (fun _ _ _ h => h) (Or.inl ⟨by rfl, ?_⟩) ?_ ?_
            rotate_left
            ·intro w'
             go_simp
             with_reducible rfl
            rotate_left
            ·simp only [Act.put, List.setIfInBounds_toArray, List.set_cons_zero, List.set_cons_succ, i64_w, i32_w]
             rfl
            refine pure_ (i := 8) (N := some 37) (v := ?_) (a' := ?_) #[true, true, true, true, true, true, true, true, true, false, false, false] rfl rfl (any_of HT_.out (by kernel_rfl)) (fun _ _ _ h => h) (Or.inl ⟨by rfl, ?_⟩) ?_ ?_
            rotate_left
            ·intro w'
             go_simp
             with_reducible rfl
            rotate_left
            ·simp only [Act.put, List.setIfInBounds_toArray, List.set_cons_zero, List.set_cons_succ, i64_w, i32_w]
             rfl
            refine one_ (i := 9) (N := some 9) #[true, true, true, true, true, true, true, true, true, true, false, false] rfl rfl (one_of HT_.out (by kernel_rfl)) (by decide) (fun K hK => ?_)
            refine box_step ?hg (N := 9) ?hd (cs := #[.int .i16 0, .int .i16 0, .int .i16 0, .int .i16 0]) (t := 30) ?hr ?_; (case hd => rfl); (case hg => rfl); (case hr => first | (go_simp; done) | (go_simp; rfl))
            intro gb321 hg w30 hbox hb
            have HS4_ := (hb.cell (World.block_lt_of_cell? _ _ (hHeld.2.2.2.2.1))).trans (hHeld.2.2.2.2.1)
            have HS5_ := (hb.cell (World.block_lt_of_cell? _ _ (hHeld.2.2.2.2.2.1))).trans (hHeld.2.2.2.2.2.1)
            have HS6_ := (hb.cell (World.block_lt_of_cell? _ _ (hHeld.2.2.2.2.2.2))).trans (hHeld.2.2.2.2.2.2)
            have n0_ := A_ (Kd.R_below (pr_ HO_6) hb)
            have n1_ := A_ (Kd.R_below (pr_ HO_7) hb)
            have n2_ := A_ (blk_below (pl_ BK302) hb)
            have n3_ := A_ (blk_below (pl_ BK303) hb)
            have n4_ := A_ (below_step (bl_ HB) hb)
            have n5_ := A_ (hbox)
            have n6_ := A_ ((by rw [hg]; exact (below_size (bl_ HB)) : w.heap.size ≤ gb321))
            have n7_ := n6_
            have n8_ := A_ ((by rw [hg]; exact Nat.ne_of_lt (blk_lt (pl_ BK302)) : gb302 ≠ gb321))
            have n9_ := Aside0.mk n8_.out.symm
            have n10_ := A_ ((by rw [hg]; exact Nat.ne_of_lt (blk_lt (pl_ BK303)) : gb303 ≠ gb321))
            have n11_ := Aside0.mk n10_.out.symm
            clear HO_6
            clear HO_7
            clear BK302
            clear BK303
            clear HB
            have HO_6 := n0_
            have HO_7 := n1_
            have BK302 := n2_
            have BK303 := n3_
            have HB := n4_
            have BK321 := n5_
            have GW321 := n6_
            have GE321 := n7_
            have NB302_321 := n8_
            have NB321_302 := n9_
            have NB303_321 := n10_
            have NB321_303 := n11_
            clear n0_ n1_ n2_ n3_ n4_ n5_ n6_ n7_ n8_ n9_ n10_ n11_
            clear hb hbox hg
            refine hK.out _ _ ⟨(blk_cell BK303.out 0).trans rfl, (blk_cell BK303.out 1).trans rfl, (blk_cell BK303.out 2).trans rfl, (blk_cell BK303.out 3).trans rfl, HS4_, HS5_, HS6_⟩ (fun hHeld => ?_)
            clear hK K
            refine norm_ (a' := ?_) ?_ ?_
            rotate_left
            ·show Act.put _ (some 9) _ = _
             simp only [Act.put, List.setIfInBounds_toArray, List.set_cons_zero, List.set_cons_succ, i64_w, i32_w]
             rfl
            exact norm_ pa_ (hCont (gb321) _ ⟨hHeld, (pr_ HO_6), (pr_ HO_7), (pl_ BK302), (pl_ BK303), (pl_ BK321), GW321.out, GE321.out, NB302_321.out, NB321_302.out, NB303_321.out, NB321_303.out, (bl_ HB)⟩)
           ·skip
            refine box_step ?hg (N := 9) ?hd (cs := #[.int .i16 0, .int .i16 0, .int .i16 0, .int .i16 0]) (t := 30) ?hr ?_; (case hd => rfl); (case hg => rfl); (case hr => first | (go_simp; done) | (go_simp; rfl))
            intro gb321 hg w29 hbox hb
            have HS4_ := (hb.cell (World.block_lt_of_cell? _ _ (hHeld.2.2.2.2.1))).trans (hHeld.2.2.2.2.1)
            have HS5_ := (hb.cell (World.block_lt_of_cell? _ _ (hHeld.2.2.2.2.2.1))).trans (hHeld.2.2.2.2.2.1)
            have HS6_ := (hb.cell (World.block_lt_of_cell? _ _ (hHeld.2.2.2.2.2.2))).trans (hHeld.2.2.2.2.2.2)
            have n0_ := A_ (Kd.R_below (pr_ HO_6) hb)
            have n1_ := A_ (Kd.R_below (pr_ HO_7) hb)
            have n2_ := A_ (blk_below (pl_ BK302) hb)
            have n3_ := A_ (blk_below (pl_ BK303) hb)
            have n4_ := A_ (below_step (bl_ HB) hb)
            have n5_ := A_ (hbox)
            have n6_ := A_ ((by rw [hg]; exact (below_size (bl_ HB)) : w.heap.size ≤ gb321))
            have n7_ := n6_
            have n8_ := A_ ((by rw [hg]; exact Nat.ne_of_lt (blk_lt (pl_ BK302)) : gb302 ≠ gb321))
            have n9_ := Aside0.mk n8_.out.symm
            have n10_ := A_ ((by rw [hg]; exact Nat.ne_of_lt (blk_lt (pl_ BK303)) : gb303 ≠ gb321))
            have n11_ := Aside0.mk n10_.out.symm
            clear HO_6
            clear HO_7
            clear BK302
            clear BK303
            clear HB
            have HO_6 := n0_
            have HO_7 := n1_
            have BK302 := n2_
            have BK303 := n3_
            have HB := n4_
            have BK321 := n5_
            have GW321 := n6_
            have GE321 := n7_
            have NB302_321 := n8_
            have NB321_302 := n9_
            have NB303_321 := n10_
            have NB321_303 := n11_
            clear n0_ n1_ n2_ n3_ n4_ n5_ n6_ n7_ n8_ n9_ n10_ n11_
            clear hb hbox hg
            refine hK.out _ _ ⟨(blk_cell BK303.out 0).trans rfl, (blk_cell BK303.out 1).trans rfl, (blk_cell BK303.out 2).trans rfl, (blk_cell BK303.out 3).trans rfl, HS4_, HS5_, HS6_⟩ (fun hHeld => ?_)
            clear hK K
            refine norm_ (a' := ?_) ?_ ?_
            rotate_left
            ·show Act.put _ (some 9) _ = _
             simp only [Act.put, List.setIfInBounds_toArray, List.set_cons_zero, List.set_cons_succ, i64_w, i32_w]
             rfl
            refine one_ (i := 5) (N := some 35) #[true, true, true, true, true, true, false, false, false, true, false, false] rfl rfl (one_of HT_.out (by kernel_rfl)) (by decide) (fun K hK => ?_)
            refine goes_ Try.func85 (by kernel_rfl) rfl #[.pointer (some ⟨gb302, 0, none⟩), .agg #[.int .i16 a1_0, .int .i16 a1_1, .int .i16 a1_2, .int .i16 a1_3], .agg #[.int .i8 ((rd_T60 t312 x8_2).f0), .int .i8 ((rd_T60 t312 x8_2).f1), .int .i8 ((rd_T60 t312 x8_2).f2)]] (by rfl) rfl rfl arg_ ?_
            with_reducible refine (spec_l02Move.calls k2 gb302 A0_0 c0_0 l0_0 x303001_2 x303002_2 x303003_2 x303004_2 x303005_2 a1_0 a1_1 a1_2 a1_3 ((rd_T60 t312 x8_2).f0) ((rd_T60 t312 x8_2).f1) ((rd_T60 t312 x8_2).f2) t316 t317 t318 t319 t320 _ ?side1 ?side2 ?side3 A24.out).mono ?_
            (case side1 => exact (pl_ BK302))
            (case side2 => repeat (first | exact (Kd.C_below HR0_0.out HB.out) | (with_reducible refine Kd.C_alloc ?_ _) | (with_reducible refine Kd.C_drewN ?_ _) | (with_reducible refine Kd.C_drew ?_)))
            (case side3 => exact HC0_0.out)
            rintro e w30 ⟨rfl, hb⟩
            have HS4_ := (hb.cell (World.block_lt_of_cell? _ _ (hHeld.2.2.2.2.1))).trans (hHeld.2.2.2.2.1)
            have HS5_ := (hb.cell (World.block_lt_of_cell? _ _ (hHeld.2.2.2.2.2.1))).trans (hHeld.2.2.2.2.2.1)
            have HS6_ := (hb.cell (World.block_lt_of_cell? _ _ (hHeld.2.2.2.2.2.2))).trans (hHeld.2.2.2.2.2.2)
            refine ⟨_, rfl, ?_⟩
            have n0_ := A_ (Kd.R_below (pr_ HO_6) hb)
            have n1_ := A_ (Kd.R_below (pr_ HO_7) hb)
            have n2_ := A_ (blk_below (pl_ BK302) hb)
            have n3_ := A_ (blk_below (pl_ BK303) hb)
            have n4_ := A_ (blk_below (pl_ BK321) hb)
            have n5_ := A_ (below_step (bl_ HB) hb)
            clear HO_6
            clear HO_7
            clear BK302
            clear BK303
            clear BK321
            clear HB
            have HO_6 := n0_
            have HO_7 := n1_
            have BK302 := n2_
            have BK303 := n3_
            have BK321 := n4_
            have HB := n5_
            clear n0_ n1_ n2_ n3_ n4_ n5_
            (try clear hb)
            (try clear hb2)
            (try clear hk)
            (try clear hi)
            refine hK.out _ _ ⟨(blk_cell BK303.out 0).trans rfl, (blk_cell BK303.out 1).trans rfl, (blk_cell BK303.out 2).trans rfl, (blk_cell BK303.out 3).trans rfl, HS4_, HS5_, HS6_⟩ (fun hHeld => ?_)
            clear hK K
            refine norm_ (a' := ?_) ?_ ?_
            rotate_left
            ·show Act.put _ (some 35) _ = _
             simp only [Act.put, List.setIfInBounds_toArray, List.set_cons_zero, List.set_cons_succ, i64_w, i32_w]
             rfl
            refine pure_ (i := 6) (N := some 29) (v := ?_) (a' := ?_) #[true, true, true, true, true, true, true, false, false, true, false, false] rfl rfl (any_of HT_.out (by kernel_rfl)) (fun _ _ _ h => h) (Or.inl ⟨by rfl, ?_⟩) ?_ ?_
            rotate_left
            ·intro w'
             go_simp
             with_reducible rfl
            rotate_left
            ·simp only [Act.put, List.setIfInBounds_toArray, List.set_cons_zero, List.set_cons_succ, i64_w, i32_w]
             rfl
            refine pure_ (i := 7) (N := some 36) (v := ?_) (a' := ?_) #[true, true, true, true, true, true, true, true, false, true, false, false] rfl rfl (any_of HT_.out (by kernel_rfl)) (fun _ _ _ h => h) (Or.inl ⟨by rfl, ?_⟩) ?_ ?_
            rotate_left
            ·intro w'
             go_simp
             with_reducible rfl
            rotate_left
            ·simp only [Act.put, List.setIfInBounds_toArray, List.set_cons_zero, List.set_cons_succ, i64_w, i32_w]
             rfl
            refine pure_ (i := 8) (N := some 37) (v := ?_) (a' := ?_) #[true, true, true, true, true, true, true, true, true, true, false, false] rfl rfl (any_of HT_.out (by kernel_rfl)) (fun _ _ _ h => h) (Or.inl ⟨by rfl, ?_⟩) ?_ ?_
            rotate_left
            ·intro w'
             go_simp
             with_reducible rfl
            rotate_left
            ·simp only [Act.put, List.setIfInBounds_toArray, List.set_cons_zero, List.set_cons_succ, i64_w, i32_w]
             rfl
            exact norm_ pa_ (hCont (gb321) _ ⟨hHeld, (pr_ HO_6), (pr_ HO_7), (pl_ BK302), (pl_ BK303), (pl_ BK321), GW321.out, GE321.out, NB302_321.out, NB321_302.out, NB303_321.out, NB321_303.out, (bl_ HB)⟩)
          rintro gb321 w31 ⟨hS_, h0_, h1_, h2_, h3_, h4_, h5_, h6_, h7_, h8_, h9_, h10_, h11_⟩
          have n0_ : Aside0 (Kd.R k60 60 w31 w.heap.size (fun k_ => some k_ ≠ (.slice (some ad315) t312.length co27 : Value).ownBlock) u6 x6_2) := ⟨h0_⟩
          have n1_ : Aside0 (Kd.R k60 60 w31 w.heap.size (fun k_ => some k_ ≠ (u6 : Value).ownBlock) (.slice (some ad315) t312.length co27) t312) := ⟨h1_⟩
          have n2_ : Aside0 (w31.heap[gb302]? = some (.cells #[.slice A0_0 l0_0.length c0_0, .int .i16 x303001_2, .int .i16 x303002_2, .int .i16 x303003_2, .int .i16 x303004_2, .bool x303005_2] 32 (0, 0))) := ⟨h2_⟩
          have n3_ : Aside0 (w31.heap[gb303]? = some (.cells #[.int .i16 a1_0, .int .i16 a1_1, .int .i16 a1_2, .int .i16 a1_3] 30 (0, 0))) := ⟨h3_⟩
          have n4_ : Aside0 (w31.heap[gb321]? = some (.cells #[.int .i16 0, .int .i16 0, .int .i16 0, .int .i16 0] 30 (0, 0))) := ⟨h4_⟩
          have n5_ : Aside0 (w.heap.size ≤ gb321) := ⟨h5_⟩
          have n6_ : Aside0 (w.heap.size ≤ gb321) := ⟨h6_⟩
          have n7_ : Aside0 (gb302 ≠ gb321) := ⟨h7_⟩
          have n8_ : Aside0 (gb321 ≠ gb302) := ⟨h8_⟩
          have n9_ : Aside0 (gb303 ≠ gb321) := ⟨h9_⟩
          have n10_ : Aside0 (gb321 ≠ gb303) := ⟨h10_⟩
          have n11_ : Aside0 (Below w.heap.size w w31) := ⟨h11_⟩
          clear HO_6
          clear HO_7
          clear BK302
          clear BK303
          clear HB
          clear h0_ h1_ h2_ h3_ h4_ h5_ h6_ h7_ h8_ h9_ h10_ h11_
          have HO_6 := n0_
          have HO_7 := n1_
          have BK302 := n2_
          have BK303 := n3_
          have BK321 := n4_
          have GW321 := n5_
          have GE321 := n6_
          have NB302_321 := n7_
          have NB321_302 := n8_
          have NB303_321 := n9_
          have NB321_303 := n10_
          have HB := n11_
          clear n0_ n1_ n2_ n3_ n4_ n5_ n6_ n7_ n8_ n9_ n10_ n11_
          have hHeld : w31.cell? ⟨gb303, 0, none⟩ = some (.int .i16 a1_0) ∧ w31.cell? ⟨gb303, 1, none⟩ = some (.int .i16 a1_1) ∧ w31.cell? ⟨gb303, 2, none⟩ = some (.int .i16 a1_2) ∧ w31.cell? ⟨gb303, 3, none⟩ = some (.int .i16 a1_3) ∧ w31.cell? (ad315.add ((x8_2).toNat * 3)) = some (.int .i8 ((rd_T60 t312 x8_2).f0)) ∧ w31.cell? ⟨(ad315.add ((x8_2).toNat * 3)).block, (ad315.add ((x8_2).toNat * 3)).off + 1, none⟩ = some (.int .i8 ((rd_T60 t312 x8_2).f1)) ∧ w31.cell? ⟨(ad315.add ((x8_2).toNat * 3)).block, (ad315.add ((x8_2).toNat * 3)).off + 2, none⟩ = some (.int .i8 ((rd_T60 t312 x8_2).f2)) := hS_
          refine norm_ (a' := ?_) ?_ ?_
          rotate_left
          ·simp only [putAll, Act.put, List.setIfInBounds_toArray, List.set_cons_zero, List.set_cons_succ]
           rfl
          refine one_ (i := 10) (N := none) #[true, true, true, true, true, true, true, true, true, true, true, false] rfl rfl (one_of HT_.out (by kernel_rfl)) (by decide) (fun K hK => ?_)
          have hs32 : w31.cell? ⟨gb321, 0, none⟩ = some (.int .i16 0) := (blk_cell BK321.out 0).trans rfl
          have hfs32 := blk_frozen BK321.out 0
          have hns32_0 := NB302_321.out
          have hns32_1 := NB303_321.out
          have hms32_0 := NB321_302.out
          have hms32_1 := NB321_303.out
          have hs33 : w31.cell? ⟨gb321, 1, none⟩ = some (.int .i16 0) := (blk_cell BK321.out 1).trans rfl
          have hfs33 := blk_frozen BK321.out 1
          have hns33_0 := NB302_321.out
          have hns33_1 := NB303_321.out
          have hms33_0 := NB321_302.out
          have hms33_1 := NB321_303.out
          have hs34 : w31.cell? ⟨gb321, 2, none⟩ = some (.int .i16 0) := (blk_cell BK321.out 2).trans rfl
          have hfs34 := blk_frozen BK321.out 2
          have hns34_0 := NB302_321.out
          have hns34_1 := NB303_321.out
          have hms34_0 := NB321_302.out
          have hms34_1 := NB321_303.out
          have hs35 : w31.cell? ⟨gb321, 3, none⟩ = some (.int .i16 0) := (blk_cell BK321.out 3).trans rfl
          have hfs35 := blk_frozen BK321.out 3
          have hns35_0 := NB302_321.out
          have hns35_1 := NB303_321.out
          have hms35_0 := NB321_302.out
          have hms35_1 := NB321_303.out
          refine skip_ (w1 := ?_) (by rfl) rfl ?_ ?_
          rotate_left
          ·go_simp
           rfl
          refine hK.out _ _ ⟨((cell_far (p := ⟨gb321, _, none⟩) NB303_321.out _).trans ((cf3_ NB303_321 (hHeld.1)))), ((cell_far (p := ⟨gb321, _, none⟩) NB303_321.out _).trans ((cf3_ NB303_321 (hHeld.2.1)))), ((cell_far (p := ⟨gb321, _, none⟩) NB303_321.out _).trans ((cf3_ NB303_321 (hHeld.2.2.1)))), ((cell_far (p := ⟨gb321, _, none⟩) NB303_321.out _).trans ((cf3_ NB303_321 (hHeld.2.2.2.1)))), ((cell_far (p := ⟨gb321, _, none⟩) (by first | exact Kd.own_blk (Kd.R_ne HO_7.out BK321.out (by decide)) | (rw [add_block]; exact Kd.own_blk (Kd.R_ne HO_7.out BK321.out (by decide))) | (show (Addr.add _ _).block ≠ _; rw [add_block]; exact Kd.own_blk (Kd.R_ne HO_7.out BK321.out (by decide))) | (dsimp only; exact Kd.own_blk (Kd.R_ne HO_7.out BK321.out (by decide)))) _).trans (((cell_far (p := ⟨gb321, _, none⟩) (by first | exact Kd.own_blk (Kd.R_ne HO_7.out BK321.out (by decide)) | (rw [add_block]; exact Kd.own_blk (Kd.R_ne HO_7.out BK321.out (by decide))) | (show (Addr.add _ _).block ≠ _; rw [add_block]; exact Kd.own_blk (Kd.R_ne HO_7.out BK321.out (by decide))) | (dsimp only; exact Kd.own_blk (Kd.R_ne HO_7.out BK321.out (by decide)))) _).trans (((cell_far (p := ⟨gb321, _, none⟩) (by first | exact Kd.own_blk (Kd.R_ne HO_7.out BK321.out (by decide)) | (rw [add_block]; exact Kd.own_blk (Kd.R_ne HO_7.out BK321.out (by decide))) | (show (Addr.add _ _).block ≠ _; rw [add_block]; exact Kd.own_blk (Kd.R_ne HO_7.out BK321.out (by decide))) | (dsimp only; exact Kd.own_blk (Kd.R_ne HO_7.out BK321.out (by decide)))) _).trans (((cell_far (p := ⟨gb321, _, none⟩) (by first | exact Kd.own_blk (Kd.R_ne HO_7.out BK321.out (by decide)) | (rw [add_block]; exact Kd.own_blk (Kd.R_ne HO_7.out BK321.out (by decide))) | (show (Addr.add _ _).block ≠ _; rw [add_block]; exact Kd.own_blk (Kd.R_ne HO_7.out BK321.out (by decide))) | (dsimp only; exact Kd.own_blk (Kd.R_ne HO_7.out BK321.out (by decide)))) _).trans (hHeld.2.2.2.2.1)))))))), ((cell_far (p := ⟨gb321, _, none⟩) (by first | exact Kd.own_blk (Kd.R_ne HO_7.out BK321.out (by decide)) | (rw [add_block]; exact Kd.own_blk (Kd.R_ne HO_7.out BK321.out (by decide))) | (show (Addr.add _ _).block ≠ _; rw [add_block]; exact Kd.own_blk (Kd.R_ne HO_7.out BK321.out (by decide))) | (dsimp only; exact Kd.own_blk (Kd.R_ne HO_7.out BK321.out (by decide)))) _).trans (((cell_far (p := ⟨gb321, _, none⟩) (by first | exact Kd.own_blk (Kd.R_ne HO_7.out BK321.out (by decide)) | (rw [add_block]; exact Kd.own_blk (Kd.R_ne HO_7.out BK321.out (by decide))) | (show (Addr.add _ _).block ≠ _; rw [add_block]; exact Kd.own_blk (Kd.R_ne HO_7.out BK321.out (by decide))) | (dsimp only; exact Kd.own_blk (Kd.R_ne HO_7.out BK321.out (by decide)))) _).trans (((cell_far (p := ⟨gb321, _, none⟩) (by first | exact Kd.own_blk (Kd.R_ne HO_7.out BK321.out (by decide)) | (rw [add_block]; exact Kd.own_blk (Kd.R_ne HO_7.out BK321.out (by decide))) | (show (Addr.add _ _).block ≠ _; rw [add_block]; exact Kd.own_blk (Kd.R_ne HO_7.out BK321.out (by decide))) | (dsimp only; exact Kd.own_blk (Kd.R_ne HO_7.out BK321.out (by decide)))) _).trans (((cell_far (p := ⟨gb321, _, none⟩) (by first | exact Kd.own_blk (Kd.R_ne HO_7.out BK321.out (by decide)) | (rw [add_block]; exact Kd.own_blk (Kd.R_ne HO_7.out BK321.out (by decide))) | (show (Addr.add _ _).block ≠ _; rw [add_block]; exact Kd.own_blk (Kd.R_ne HO_7.out BK321.out (by decide))) | (dsimp only; exact Kd.own_blk (Kd.R_ne HO_7.out BK321.out (by decide)))) _).trans (hHeld.2.2.2.2.2.1)))))))), ((cell_far (p := ⟨gb321, _, none⟩) (by first | exact Kd.own_blk (Kd.R_ne HO_7.out BK321.out (by decide)) | (rw [add_block]; exact Kd.own_blk (Kd.R_ne HO_7.out BK321.out (by decide))) | (show (Addr.add _ _).block ≠ _; rw [add_block]; exact Kd.own_blk (Kd.R_ne HO_7.out BK321.out (by decide))) | (dsimp only; exact Kd.own_blk (Kd.R_ne HO_7.out BK321.out (by decide)))) _).trans (((cell_far (p := ⟨gb321, _, none⟩) (by first | exact Kd.own_blk (Kd.R_ne HO_7.out BK321.out (by decide)) | (rw [add_block]; exact Kd.own_blk (Kd.R_ne HO_7.out BK321.out (by decide))) | (show (Addr.add _ _).block ≠ _; rw [add_block]; exact Kd.own_blk (Kd.R_ne HO_7.out BK321.out (by decide))) | (dsimp only; exact Kd.own_blk (Kd.R_ne HO_7.out BK321.out (by decide)))) _).trans (((cell_far (p := ⟨gb321, _, none⟩) (by first | exact Kd.own_blk (Kd.R_ne HO_7.out BK321.out (by decide)) | (rw [add_block]; exact Kd.own_blk (Kd.R_ne HO_7.out BK321.out (by decide))) | (show (Addr.add _ _).block ≠ _; rw [add_block]; exact Kd.own_blk (Kd.R_ne HO_7.out BK321.out (by decide))) | (dsimp only; exact Kd.own_blk (Kd.R_ne HO_7.out BK321.out (by decide)))) _).trans (((cell_far (p := ⟨gb321, _, none⟩) (by first | exact Kd.own_blk (Kd.R_ne HO_7.out BK321.out (by decide)) | (rw [add_block]; exact Kd.own_blk (Kd.R_ne HO_7.out BK321.out (by decide))) | (show (Addr.add _ _).block ≠ _; rw [add_block]; exact Kd.own_blk (Kd.R_ne HO_7.out BK321.out (by decide))) | (dsimp only; exact Kd.own_blk (Kd.R_ne HO_7.out BK321.out (by decide)))) _).trans (hHeld.2.2.2.2.2.2))))))))⟩ (fun hHeld => ?_)
          clear hK K
          refine pure_ (i := 11) (N := some 10) (v := ?_) (a' := ?_) #[true, true, true, true, true, true, true, true, true, true, true, true] rfl rfl (any_of HT_.out (by kernel_rfl)) (fun _ _ _ h => h) (Or.inl ⟨by rfl, ?_⟩) ?_ ?_
          rotate_left
          ·intro w'
           go_simp
           with_reducible rfl
          rotate_left
          ·simp only [Act.put, List.setIfInBounds_toArray, List.set_cons_zero, List.set_cons_succ, i64_w, i32_w]
           rfl
          refine done_ (done_of HT_.out (by kernel_rfl)) ?_
          have p322 : 0 ≤ (x8_2 : Int) := asm_
          have q322 : x8_2 < (t312.length : Int) := asm_
          obtain ⟨ad322, e322, hx322_0, hx322_1, hx322_2⟩ := at_T60 (Kd.R_reads' HO_7.out).2.2 x8_2 p322 q322
          obtain rfl : ad315 = ad322 := (by injection e322)
          have hn322_0 : ad315.block ≠ gb321 := Kd.own_blk (Kd.R_ne HO_7.out BK321.out (by decide))
          have hn322_1 : ad315.block ≠ gb321 := Kd.own_blk (Kd.R_ne HO_7.out BK321.out (by decide))
          have hn322_2 : ad315.block ≠ gb321 := Kd.own_blk (Kd.R_ne HO_7.out BK321.out (by decide))
          have hn322_3 : ad315.block ≠ gb321 := Kd.own_blk (Kd.R_ne HO_7.out BK321.out (by decide))
          replace hx322_0 := (cell_far (p := ⟨gb321, 0, none⟩) (by first | (rw [add_block]; exact hn322_0) | (show (Addr.add _ _).block ≠ _; rw [add_block]; exact hn322_0) | exact hn322_0) (.int .i16 t316)).trans hx322_0
          replace hx322_1 := (cell_far (p := ⟨gb321, 0, none⟩) (by first | (rw [add_block]; exact hn322_0) | (show (Addr.add _ _).block ≠ _; rw [add_block]; exact hn322_0) | exact hn322_0) (.int .i16 t316)).trans hx322_1
          replace hx322_2 := (cell_far (p := ⟨gb321, 0, none⟩) (by first | (rw [add_block]; exact hn322_0) | (show (Addr.add _ _).block ≠ _; rw [add_block]; exact hn322_0) | exact hn322_0) (.int .i16 t316)).trans hx322_2
          replace hx322_0 := (cell_far (p := ⟨gb321, 1, none⟩) (by first | (rw [add_block]; exact hn322_1) | (show (Addr.add _ _).block ≠ _; rw [add_block]; exact hn322_1) | exact hn322_1) (.int .i16 t317)).trans hx322_0
          replace hx322_1 := (cell_far (p := ⟨gb321, 1, none⟩) (by first | (rw [add_block]; exact hn322_1) | (show (Addr.add _ _).block ≠ _; rw [add_block]; exact hn322_1) | exact hn322_1) (.int .i16 t317)).trans hx322_1
          replace hx322_2 := (cell_far (p := ⟨gb321, 1, none⟩) (by first | (rw [add_block]; exact hn322_1) | (show (Addr.add _ _).block ≠ _; rw [add_block]; exact hn322_1) | exact hn322_1) (.int .i16 t317)).trans hx322_2
          replace hx322_0 := (cell_far (p := ⟨gb321, 2, none⟩) (by first | (rw [add_block]; exact hn322_2) | (show (Addr.add _ _).block ≠ _; rw [add_block]; exact hn322_2) | exact hn322_2) (.int .i16 t318)).trans hx322_0
          replace hx322_1 := (cell_far (p := ⟨gb321, 2, none⟩) (by first | (rw [add_block]; exact hn322_2) | (show (Addr.add _ _).block ≠ _; rw [add_block]; exact hn322_2) | exact hn322_2) (.int .i16 t318)).trans hx322_1
          replace hx322_2 := (cell_far (p := ⟨gb321, 2, none⟩) (by first | (rw [add_block]; exact hn322_2) | (show (Addr.add _ _).block ≠ _; rw [add_block]; exact hn322_2) | exact hn322_2) (.int .i16 t318)).trans hx322_2
          replace hx322_0 := (cell_far (p := ⟨gb321, 3, none⟩) (by first | (rw [add_block]; exact hn322_3) | (show (Addr.add _ _).block ≠ _; rw [add_block]; exact hn322_3) | exact hn322_3) (.int .i16 t319)).trans hx322_0
          replace hx322_1 := (cell_far (p := ⟨gb321, 3, none⟩) (by first | (rw [add_block]; exact hn322_3) | (show (Addr.add _ _).block ≠ _; rw [add_block]; exact hn322_3) | exact hn322_3) (.int .i16 t319)).trans hx322_1
          replace hx322_2 := (cell_far (p := ⟨gb321, 3, none⟩) (by first | (rw [add_block]; exact hn322_3) | (show (Addr.add _ _).block ≠ _; rw [add_block]; exact hn322_3) | exact hn322_3) (.int .i16 t319)).trans hx322_2
          clear hn322_0
          clear hn322_1
          clear hn322_2
          clear hn322_3
          replace p322 := eq_true p322
          replace q322 := eq_true q322
          try go_wp2_with (first | ((with_reducible refine gate_builtin (b := .append) (xs := #[.tmp 40, .tmp 45]) rfl ?_); at_builtin; refine Kd.R_append k60 (w0 := w) w.heap.size rfl (.tmp 40) (.tmp 45) 52 60 (.agg #[(.int .i8 0), (.int .i8 0), (.int .i8 0)]) 3 rfl Try.underlying52 info60 rfl (by decide) (by omega) u6 x6_2 (⟨(rd_T60 t312 x8_2).f0, (rd_T60 t312 x8_2).f1, (rd_T60 t312 x8_2).f2⟩ : S60) [.int .i8 ((rd_T60 t312 x8_2).f0), .int .i8 ((rd_T60 t312 x8_2).f1), .int .i8 ((rd_T60 t312 x8_2).f2)] (fun k_ => some k_ ≠ (.slice (some ad315) t312.length co27 : Value).ownBlock) (fun _ => False) rfl (by first | (go_simp; done) | (go_simp; rfl)) ?aP (fun _ hk => hk.elim) ?aF ?aO ?aB ?aS ?aL ?_; (case aP => exact k60_mkM _ _ _ (⟨(rd_T60 t312 x8_2).f0, (rd_T60 t312 x8_2).f1, (rd_T60 t312 x8_2).f2⟩ : S60)); (case aB => exact (bs_ HB GE321)); (case aF => exact (fun k_ hk => Kd.fresh' (Kd.R_lt (by (with_reducible repeat (first | apply Kd.R_alloc | apply Kd.R_drewN | apply Kd.R_drew)); exact (rf4_ HO_7 BK321 (by decide)))) k_ hk)); (case aO => exact (by (with_reducible repeat (first | apply Kd.R_alloc | apply Kd.R_drewN | apply Kd.R_drew)); exact Kd.R_mono (Kd.R_far (p := ⟨gb321, 3, none⟩) (Kd.R_far (p := ⟨gb321, 2, none⟩) (Kd.R_far (p := ⟨gb321, 1, none⟩) (Kd.R_far (p := ⟨gb321, 0, none⟩) (Kd.R_types HO_6.out BK321.out (by decide)) (fun _ hk => hk.2) (.int .i16 t316)) (fun _ hk => hk.2) (.int .i16 t317)) (fun _ hk => hk.2) (.int .i16 t318)) (fun _ hk => hk.2) (.int .i16 t319)) (fun _ hk => hk.1))); (case aS => exact (below_size (bs_ HB GE321))); (case aL => have := LMc26.out; omega); intro v324 w36 ho hb hg hat; rw [← Ny323.out] at ho; have n0_ := A_ (Kd.R_after (ok := (fun _ => True)) (by (with_reducible repeat (first | apply Kd.R_alloc | apply Kd.R_drewN | apply Kd.R_drew)); exact Kd.R_mono (Kd.R_far (p := ⟨gb321, 3, none⟩) (Kd.R_far (p := ⟨gb321, 2, none⟩) (Kd.R_far (p := ⟨gb321, 1, none⟩) (Kd.R_far (p := ⟨gb321, 0, none⟩) (Kd.R_types HO_7.out BK321.out (by decide)) (fun _ hk => hk.2) (.int .i16 t316)) (fun _ hk => hk.2) (.int .i16 t317)) (fun _ hk => hk.2) (.int .i16 t318)) (fun _ hk => hk.2) (.int .i16 t319)) (fun _ hk => ⟨trivial, hk.1⟩)) hg hat); have n1_ := A_ (blk_grown (g := gb302) (o := .cells #[.slice A0_0 l0_0.length c0_0, .int .i16 x303001_2, .int .i16 x303002_2, .int .i16 x303003_2, .int .i16 x303004_2, .bool x303005_2] 32 (0, 0)) (pf_ BK302 NB302_321) hg (Kd.R_ne HO_6.out BK302.out (by decide))); have n2_ := A_ (blk_grown (g := gb303) (o := .cells #[.int .i16 a1_0, .int .i16 a1_1, .int .i16 a1_2, .int .i16 a1_3] 30 (0, 0)) (pf_ BK303 NB303_321) hg (Kd.R_ne HO_6.out BK303.out (by decide))); have n3_ := A_ (blk_grown (g := gb321) (o := .cells #[.int .i16 t316, .int .i16 t317, .int .i16 t318, .int .i16 t319] 30 (0, 0)) (by (with_reducible repeat (first | refine blk_drewN ?_ _ | refine blk_drew ?_ | refine blk_alloc ?_ _)); refine blk_put (cs := #[.int .i16 t316, .int .i16 t317, .int .i16 t318, .int .i16 0]) ?_ 3 _ rfl; (with_reducible repeat (first | refine blk_drewN ?_ _ | refine blk_drew ?_ | refine blk_alloc ?_ _)); refine blk_put (cs := #[.int .i16 t316, .int .i16 t317, .int .i16 0, .int .i16 0]) ?_ 2 _ rfl; (with_reducible repeat (first | refine blk_drewN ?_ _ | refine blk_drew ?_ | refine blk_alloc ?_ _)); refine blk_put (cs := #[.int .i16 t316, .int .i16 0, .int .i16 0, .int .i16 0]) ?_ 1 _ rfl; (with_reducible repeat (first | refine blk_drewN ?_ _ | refine blk_drew ?_ | refine blk_alloc ?_ _)); refine blk_put (cs := #[.int .i16 0, .int .i16 0, .int .i16 0, .int .i16 0]) ?_ 0 _ rfl; (with_reducible repeat (first | refine blk_drewN ?_ _ | refine blk_drew ?_ | refine blk_alloc ?_ _)); exact BK321.out) hg (Kd.R_ne HO_6.out BK321.out (by decide))); have n4_ := A_ (hb); have n5_ := A_ (ho); clear HO_7; clear BK302; clear BK303; clear BK321; clear HB; clear HO_6; have HO_7 := n0_; have BK302 := n1_; have BK303 := n2_; have BK321 := n3_; have HB := n4_; have HO325 := n5_; clear n0_ n1_ n2_ n3_ n4_ n5_; clear ho hb hg hat))
          go_roundg k2
          case measure => have := HJ2.out; have := HK2.out; omega
          case rel => exact ⟨(y323), (wrap64 (x8_2 + 1)), (x303001_2), (x303002_2), (x303003_2), (x303004_2), (x303005_2), rs_, H', ⟨by have := HJ2.out; have := HK2.out; omega⟩, ⟨pr_ HO325⟩, ⟨by (with_reducible repeat (first | apply Kd.R_alloc | apply Kd.R_drewN | apply Kd.R_drew)); exact Kd.R_mono HO_7.out (fun _ hk => hk.2)⟩, ⟨pl_ BK302⟩, ⟨pl_ BK303⟩, ⟨bl_ HB⟩⟩
         ·rw [if_neg c26] at H
          exact absurd H (by simp)
        ·rw [if_neg c25] at H
         have c25b0 : (t320 == 0) = false := beq_eq_false_iff_ne.mpr c25
         have c25b1 : (t320 != 0) = true := bne_iff_ne.mpr c25
         have H' := Aside0.mk H
         clear H
         obtain ⟨Ao37, co37, eo37⟩ := Kd.R_slice HO_7.out
         subst eo37
         try go_wp2
         have n0_ := A_ (Kd.R_drew HO_6.out)
         have n1_ := A_ (Kd.R_drew HO_7.out)
         have n2_ := A_ (blk_drew BK302.out)
         have n3_ := A_ (blk_drew BK303.out)
         have n4_ := A_ (below_drew1 HB.out)
         clear HO_6
         clear HO_7
         clear BK302
         clear BK303
         clear HB
         have HO_6 := n0_
         have HO_7 := n1_
         have BK302 := n2_
         have BK303 := n3_
         have HB := n4_
         clear n0_ n1_ n2_ n3_ n4_
         have p315 : 0 ≤ (x8_2 : Int) := asm_
         have q315 : x8_2 < (t312.length : Int) := asm_
         obtain ⟨ad315, e315, hx315_0, hx315_1, hx315_2⟩ := at_T60 (Kd.R_reads' HO_7.out).2.2 x8_2 p315 q315
         cases e315
         replace p315 := eq_true p315
         replace q315 := eq_true q315
         refine start_ (n := 12) (S := fun w' => w'.cell? ⟨gb303, 0, none⟩ = some (.int .i16 a1_0) ∧ w'.cell? ⟨gb303, 1, none⟩ = some (.int .i16 a1_1) ∧ w'.cell? ⟨gb303, 2, none⟩ = some (.int .i16 a1_2) ∧ w'.cell? ⟨gb303, 3, none⟩ = some (.int .i16 a1_3) ∧ w'.cell? (ad315.add ((x8_2).toNat * 3)) = some (.int .i8 ((rd_T60 t312 x8_2).f0)) ∧ w'.cell? ⟨(ad315.add ((x8_2).toNat * 3)).block, (ad315.add ((x8_2).toNat * 3)).off + 1, none⟩ = some (.int .i8 ((rd_T60 t312 x8_2).f1)) ∧ w'.cell? ⟨(ad315.add ((x8_2).toNat * 3)).block, (ad315.add ((x8_2).toNat * 3)).off + 2, none⟩ = some (.int .i8 ((rd_T60 t312 x8_2).f2))) (ds := []) #[false, false, false, false, false, false, false, false, false, false, false, false] (by kernel_rfl) rfl rfl ⟨(blk_cell BK303.out 0).trans rfl, (blk_cell BK303.out 1).trans rfl, (blk_cell BK303.out 2).trans rfl, (blk_cell BK303.out 3).trans rfl, hx315_0, hx315_1, hx315_2⟩ (fun hHeld => ?_); refine with_tabW spec_MovesFrom.tab8 spec_MovesFrom.bits8 (fun HT_ HW_ => ?_)
         generalize wr.drew = w38 at HO_6 HO_7 BK302 BK303 HB hx315_0 hx315_1 hx315_2 hHeld ⊢
         refine pure_ (i := 1) (N := some 31) (v := ?_) (a' := ?_) #[false, true, false, false, false, false, false, false, false, false, false, false] rfl rfl (any_of HT_.out (by kernel_rfl)) (fun _ _ _ h => h) (Or.inl ⟨by rfl, ?_⟩) ?_ ?_
         rotate_left
         ·intro w'
          go_simp
          with_reducible rfl
         rotate_left
         ·simp only [Act.put, List.setIfInBounds_toArray, List.set_cons_zero, List.set_cons_succ, i64_w, i32_w]
          rfl
         refine pure_ (i := 2) (N := some 32) (v := ?_) (a' := ?_) #[false, true, true, false, false, false, false, false, false, false, false, false] rfl rfl (any_of HT_.out (by kernel_rfl)) (fun _ _ _ h => h) (Or.inl ⟨by rfl, ?_⟩) ?_ ?_
         rotate_left
         ·intro w'
          go_simp
          with_reducible rfl
         rotate_left
         ·simp only [Act.put, List.setIfInBounds_toArray, List.set_cons_zero, List.set_cons_succ, i64_w, i32_w]
          rfl
         refine pure_ (i := 3) (N := some 33) (v := ?_) (a' := ?_) #[false, true, true, true, false, false, false, false, false, false, false, false] rfl rfl (any_of HT_.out (by kernel_rfl)) (fun _ _ _ h => h) (Or.inl ⟨by rfl, ?_⟩) ?_ ?_
         rotate_left
         ·intro w'
          go_simp
          with_reducible rfl
         rotate_left
         ·simp only [Act.put, List.setIfInBounds_toArray, List.set_cons_zero, List.set_cons_succ, i64_w, i32_w]
          rfl
         refine take_ (i := 0) (N := some 30) (v := ?_) (a' := ?_) #[true, true, true, true, false, false, false, false, false, false, false, false] rfl rfl (take_ofW HT_.out HW_.out (by kernel_rfl)) (fun _ _ _ h => h) (Or.inl ⟨by rfl, ?_⟩) hHeld ?_ ?_
         rotate_left
         ·rintro w' ⟨s0, s1, s2, s3, s4, s5, s6⟩
          go_simp
          with_reducible rfl
         rotate_left
         ·simp only [Act.put, List.setIfInBounds_toArray, List.set_cons_zero, List.set_cons_succ, i64_w, i32_w]
          rfl
         refine take_ (i := 4) (N := some 34) (v := ?_) (a' := ?_) #[true, true, true, true, true, false, false, false, false, false, false, false] rfl rfl (take_ofW HT_.out HW_.out (by kernel_rfl)) (fun _ _ _ h => h) (Or.inl ⟨by rfl, ?_⟩) hHeld ?_ ?_
         rotate_left
         ·rintro w' ⟨s0, s1, s2, s3, s4, s5, s6⟩
          go_simp
          with_reducible rfl
         rotate_left
         ·simp only [Act.put, List.setIfInBounds_toArray, List.set_cons_zero, List.set_cons_succ, i64_w, i32_w]
          rfl
         refine join_ (σ := Nat) 2 #[true, true, true, true, true, true, true, true, true, true, false, false] (fun s_ => [(35, .tuple #[.agg #[.int .i16 t316, .int .i16 t317, .int .i16 t318, .int .i16 t319], .int .i64 t320]), (9, .pointer (some ⟨s_, 0, none⟩)), (29, .tuple #[.agg #[.int .i16 t316, .int .i16 t317, .int .i16 t318, .int .i16 t319], .int .i64 t320]), (36, .agg #[.int .i16 t316, .int .i16 t317, .int .i16 t318, .int .i16 t319]), (37, .int .i64 t320)]) (fun s_ w' => (w'.cell? ⟨gb303, 0, none⟩ = some (.int .i16 a1_0) ∧ w'.cell? ⟨gb303, 1, none⟩ = some (.int .i16 a1_1) ∧ w'.cell? ⟨gb303, 2, none⟩ = some (.int .i16 a1_2) ∧ w'.cell? ⟨gb303, 3, none⟩ = some (.int .i16 a1_3) ∧ w'.cell? (ad315.add ((x8_2).toNat * 3)) = some (.int .i8 ((rd_T60 t312 x8_2).f0)) ∧ w'.cell? ⟨(ad315.add ((x8_2).toNat * 3)).block, (ad315.add ((x8_2).toNat * 3)).off + 1, none⟩ = some (.int .i8 ((rd_T60 t312 x8_2).f1)) ∧ w'.cell? ⟨(ad315.add ((x8_2).toNat * 3)).block, (ad315.add ((x8_2).toNat * 3)).off + 2, none⟩ = some (.int .i8 ((rd_T60 t312 x8_2).f2))) ∧ (Kd.R k60 60 w' w.heap.size (fun k_ => some k_ ≠ (.slice (some ad315) t312.length co37 : Value).ownBlock) u6 x6_2) ∧ (Kd.R k60 60 w' w.heap.size (fun k_ => some k_ ≠ (u6 : Value).ownBlock) (.slice (some ad315) t312.length co37) t312) ∧ (w'.heap[gb302]? = some (.cells #[.slice A0_0 l0_0.length c0_0, .int .i16 x303001_2, .int .i16 x303002_2, .int .i16 x303003_2, .int .i16 x303004_2, .bool x303005_2] 32 (0, 0))) ∧ (w'.heap[gb303]? = some (.cells #[.int .i16 a1_0, .int .i16 a1_1, .int .i16 a1_2, .int .i16 a1_3] 30 (0, 0))) ∧ (w'.heap[s_]? = some (.cells #[.int .i16 0, .int .i16 0, .int .i16 0, .int .i16 0] 30 (0, 0))) ∧ (w.heap.size ≤ s_) ∧ (w.heap.size ≤ s_) ∧ (gb302 ≠ s_) ∧ (s_ ≠ gb302) ∧ (gb303 ≠ s_) ∧ (s_ ≠ gb303) ∧ (Below w.heap.size w w')) ?_ ?_
         rotate_left
         ·intro hCont
          refine two_ (i := 5) (j := 9) (Ni := some 35) (Nj := some 9) #[true, true, true, true, true, true, false, false, false, false, false, false] #[true, true, true, true, true, false, false, false, false, true, false, false] rfl rfl rfl rfl (two_of HT_.out (by kernel_rfl)) (by decide) (by decide) (fun K hK => ?_) (fun K hK => ?_)
          ·skip
           refine goes_ Try.func85 (by kernel_rfl) rfl #[.pointer (some ⟨gb302, 0, none⟩), .agg #[.int .i16 a1_0, .int .i16 a1_1, .int .i16 a1_2, .int .i16 a1_3], .agg #[.int .i8 ((rd_T60 t312 x8_2).f0), .int .i8 ((rd_T60 t312 x8_2).f1), .int .i8 ((rd_T60 t312 x8_2).f2)]] (by rfl) rfl rfl arg_ ?_
           with_reducible refine (spec_l02Move.calls k2 gb302 A0_0 c0_0 l0_0 x303001_2 x303002_2 x303003_2 x303004_2 x303005_2 a1_0 a1_1 a1_2 a1_3 ((rd_T60 t312 x8_2).f0) ((rd_T60 t312 x8_2).f1) ((rd_T60 t312 x8_2).f2) t316 t317 t318 t319 t320 _ ?side1 ?side2 ?side3 A24.out).mono ?_
           (case side1 => exact (pl_ BK302))
           (case side2 => repeat (first | exact (Kd.C_below HR0_0.out HB.out) | (with_reducible refine Kd.C_alloc ?_ _) | (with_reducible refine Kd.C_drewN ?_ _) | (with_reducible refine Kd.C_drew ?_)))
           (case side3 => exact HC0_0.out)
           rintro e w39 ⟨rfl, hb⟩
           have HS4_ := (hb.cell (World.block_lt_of_cell? _ _ (hHeld.2.2.2.2.1))).trans (hHeld.2.2.2.2.1)
           have HS5_ := (hb.cell (World.block_lt_of_cell? _ _ (hHeld.2.2.2.2.2.1))).trans (hHeld.2.2.2.2.2.1)
           have HS6_ := (hb.cell (World.block_lt_of_cell? _ _ (hHeld.2.2.2.2.2.2))).trans (hHeld.2.2.2.2.2.2)
           refine ⟨_, rfl, ?_⟩
           have n0_ := A_ (Kd.R_below (pr_ HO_6) hb)
           have n1_ := A_ (Kd.R_below (pr_ HO_7) hb)
           have n2_ := A_ (blk_below (pl_ BK302) hb)
           have n3_ := A_ (blk_below (pl_ BK303) hb)
           have n4_ := A_ (below_step (bl_ HB) hb)
           clear HO_6
           clear HO_7
           clear BK302
           clear BK303
           clear HB
           have HO_6 := n0_
           have HO_7 := n1_
           have BK302 := n2_
           have BK303 := n3_
           have HB := n4_
           clear n0_ n1_ n2_ n3_ n4_
           (try clear hb)
           (try clear hb2)
           (try clear hk)
           (try clear hi)
           refine hK.out _ _ ⟨(blk_cell BK303.out 0).trans rfl, (blk_cell BK303.out 1).trans rfl, (blk_cell BK303.out 2).trans rfl, (blk_cell BK303.out 3).trans rfl, HS4_, HS5_, HS6_⟩ (fun hHeld => ?_)
           clear hK K
           refine norm_ (a' := ?_) ?_ ?_
           rotate_left
           ·show Act.put _ (some 35) _ = _
            simp only [Act.put, List.setIfInBounds_toArray, List.set_cons_zero, List.set_cons_succ, i64_w, i32_w]
            rfl
           refine pure_ (i := 6) (N := some 29) (v := ?_) (a' := ?_) #[true, true, true, true, true, true, true, false, false, false, false, false] rfl rfl (any_of HT_.out (by kernel_rfl)) (fun _ _ _ h => h) (Or.inl ⟨by rfl, ?_⟩) ?_ ?_
           rotate_left
           ·intro w'
            go_simp
            with_reducible rfl
           rotate_left
           ·simp only [Act.put, List.setIfInBounds_toArray, List.set_cons_zero, List.set_cons_succ, i64_w, i32_w]
            rfl
           refine pure_ (i := 7) (N := some 36) (v := ?_) (a' := ?_) #[true, true, true, true, true, true, true, true, false, false, false, false] rfl rfl (any_of HT_.out (by kernel_rfl)) (fun _ _ _ h => h) (Or.inl ⟨by rfl, ?_⟩) ?_ ?_
           rotate_left
           ·intro w'
            go_simp
            with_reducible rfl
           rotate_left
           ·simp only [Act.put, List.setIfInBounds_toArray, List.set_cons_zero, List.set_cons_succ, i64_w, i32_w]
            rfl
           refine pure_ (i := 8) (N := some 37) (v := ?_) (a' := ?_) #[true, true, true, true, true, true, true, true, true, false, false, false] rfl rfl (any_of HT_.out (by kernel_rfl)) (fun _ _ _ h => h) (Or.inl ⟨by rfl, ?_⟩) ?_ ?_
           rotate_left
           ·intro w'
            go_simp
            with_reducible rfl
           rotate_left
           ·simp only [Act.put, List.setIfInBounds_toArray, List.set_cons_zero, List.set_cons_succ, i64_w, i32_w]
            rfl
           refine one_ (i := 9) (N := some 9) #[true, true, true, true, true, true, true, true, true, true, false, false] rfl rfl (one_of HT_.out (by kernel_rfl)) (by decide) (fun K hK => ?_)
           refine box_step ?hg (N := 9) ?hd (cs := #[.int .i16 0, .int .i16 0, .int .i16 0, .int .i16 0]) (t := 30) ?hr ?_; (case hd => rfl); (case hg => rfl); (case hr => first | (go_simp; done) | (go_simp; rfl))
           intro gb321 hg w40 hbox hb
           have HS4_ := (hb.cell (World.block_lt_of_cell? _ _ (hHeld.2.2.2.2.1))).trans (hHeld.2.2.2.2.1)
           have HS5_ := (hb.cell (World.block_lt_of_cell? _ _ (hHeld.2.2.2.2.2.1))).trans (hHeld.2.2.2.2.2.1)
           have HS6_ := (hb.cell (World.block_lt_of_cell? _ _ (hHeld.2.2.2.2.2.2))).trans (hHeld.2.2.2.2.2.2)
           have n0_ := A_ (Kd.R_below (pr_ HO_6) hb)
           have n1_ := A_ (Kd.R_below (pr_ HO_7) hb)
           have n2_ := A_ (blk_below (pl_ BK302) hb)
           have n3_ := A_ (blk_below (pl_ BK303) hb)
           have n4_ := A_ (below_step (bl_ HB) hb)
           have n5_ := A_ (hbox)
           have n6_ := A_ ((by rw [hg]; exact (below_size (bl_ HB)) : w.heap.size ≤ gb321))
           have n7_ := n6_
           have n8_ := A_ ((by rw [hg]; exact Nat.ne_of_lt (blk_lt (pl_ BK302)) : gb302 ≠ gb321))
           have n9_ := Aside0.mk n8_.out.symm
           have n10_ := A_ ((by rw [hg]; exact Nat.ne_of_lt (blk_lt (pl_ BK303)) : gb303 ≠ gb321))
           have n11_ := Aside0.mk n10_.out.symm
           clear HO_6
           clear HO_7
           clear BK302
           clear BK303
           clear HB
           have HO_6 := n0_
           have HO_7 := n1_
           have BK302 := n2_
           have BK303 := n3_
           have HB := n4_
           have BK321 := n5_
           have GW321 := n6_
           have GE321 := n7_
           have NB302_321 := n8_
           have NB321_302 := n9_
           have NB303_321 := n10_
           have NB321_303 := n11_
           clear n0_ n1_ n2_ n3_ n4_ n5_ n6_ n7_ n8_ n9_ n10_ n11_
           clear hb hbox hg
           refine hK.out _ _ ⟨(blk_cell BK303.out 0).trans rfl, (blk_cell BK303.out 1).trans rfl, (blk_cell BK303.out 2).trans rfl, (blk_cell BK303.out 3).trans rfl, HS4_, HS5_, HS6_⟩ (fun hHeld => ?_)
           clear hK K
           refine norm_ (a' := ?_) ?_ ?_
           rotate_left
           ·show Act.put _ (some 9) _ = _
            simp only [Act.put, List.setIfInBounds_toArray, List.set_cons_zero, List.set_cons_succ, i64_w, i32_w]
            rfl
           exact norm_ pa_ (hCont (gb321) _ ⟨hHeld, (pr_ HO_6), (pr_ HO_7), (pl_ BK302), (pl_ BK303), (pl_ BK321), GW321.out, GE321.out, NB302_321.out, NB321_302.out, NB303_321.out, NB321_303.out, (bl_ HB)⟩)
          ·skip
           refine box_step ?hg (N := 9) ?hd (cs := #[.int .i16 0, .int .i16 0, .int .i16 0, .int .i16 0]) (t := 30) ?hr ?_; (case hd => rfl); (case hg => rfl); (case hr => first | (go_simp; done) | (go_simp; rfl))
           intro gb321 hg w39 hbox hb
           have HS4_ := (hb.cell (World.block_lt_of_cell? _ _ (hHeld.2.2.2.2.1))).trans (hHeld.2.2.2.2.1)
           have HS5_ := (hb.cell (World.block_lt_of_cell? _ _ (hHeld.2.2.2.2.2.1))).trans (hHeld.2.2.2.2.2.1)
           have HS6_ := (hb.cell (World.block_lt_of_cell? _ _ (hHeld.2.2.2.2.2.2))).trans (hHeld.2.2.2.2.2.2)
           have n0_ := A_ (Kd.R_below (pr_ HO_6) hb)
           have n1_ := A_ (Kd.R_below (pr_ HO_7) hb)
           have n2_ := A_ (blk_below (pl_ BK302) hb)
           have n3_ := A_ (blk_below (pl_ BK303) hb)
           have n4_ := A_ (below_step (bl_ HB) hb)
           have n5_ := A_ (hbox)
           have n6_ := A_ ((by rw [hg]; exact (below_size (bl_ HB)) : w.heap.size ≤ gb321))
           have n7_ := n6_
           have n8_ := A_ ((by rw [hg]; exact Nat.ne_of_lt (blk_lt (pl_ BK302)) : gb302 ≠ gb321))
           have n9_ := Aside0.mk n8_.out.symm
           have n10_ := A_ ((by rw [hg]; exact Nat.ne_of_lt (blk_lt (pl_ BK303)) : gb303 ≠ gb321))
           have n11_ := Aside0.mk n10_.out.symm
           clear HO_6
           clear HO_7
           clear BK302
           clear BK303
           clear HB
           have HO_6 := n0_
           have HO_7 := n1_
           have BK302 := n2_
           have BK303 := n3_
           have HB := n4_
           have BK321 := n5_
           have GW321 := n6_
           have GE321 := n7_
           have NB302_321 := n8_
           have NB321_302 := n9_
           have NB303_321 := n10_
           have NB321_303 := n11_
           clear n0_ n1_ n2_ n3_ n4_ n5_ n6_ n7_ n8_ n9_ n10_ n11_
           clear hb hbox hg
           refine hK.out _ _ ⟨(blk_cell BK303.out 0).trans rfl, (blk_cell BK303.out 1).trans rfl, (blk_cell BK303.out 2).trans rfl, (blk_cell BK303.out 3).trans rfl, HS4_, HS5_, HS6_⟩ (fun hHeld => ?_)
           clear hK K
           refine norm_ (a' := ?_) ?_ ?_
           rotate_left
           ·show Act.put _ (some 9) _ = _
            simp only [Act.put, List.setIfInBounds_toArray, List.set_cons_zero, List.set_cons_succ, i64_w, i32_w]
            rfl
           refine one_ (i := 5) (N := some 35) #[true, true, true, true, true, true, false, false, false, true, false, false] rfl rfl (one_of HT_.out (by kernel_rfl)) (by decide) (fun K hK => ?_)
           refine goes_ Try.func85 (by kernel_rfl) rfl #[.pointer (some ⟨gb302, 0, none⟩), .agg #[.int .i16 a1_0, .int .i16 a1_1, .int .i16 a1_2, .int .i16 a1_3], .agg #[.int .i8 ((rd_T60 t312 x8_2).f0), .int .i8 ((rd_T60 t312 x8_2).f1), .int .i8 ((rd_T60 t312 x8_2).f2)]] (by rfl) rfl rfl arg_ ?_
           with_reducible refine (spec_l02Move.calls k2 gb302 A0_0 c0_0 l0_0 x303001_2 x303002_2 x303003_2 x303004_2 x303005_2 a1_0 a1_1 a1_2 a1_3 ((rd_T60 t312 x8_2).f0) ((rd_T60 t312 x8_2).f1) ((rd_T60 t312 x8_2).f2) t316 t317 t318 t319 t320 _ ?side1 ?side2 ?side3 A24.out).mono ?_
           (case side1 => exact (pl_ BK302))
           (case side2 => repeat (first | exact (Kd.C_below HR0_0.out HB.out) | (with_reducible refine Kd.C_alloc ?_ _) | (with_reducible refine Kd.C_drewN ?_ _) | (with_reducible refine Kd.C_drew ?_)))
           (case side3 => exact HC0_0.out)
           rintro e w40 ⟨rfl, hb⟩
           have HS4_ := (hb.cell (World.block_lt_of_cell? _ _ (hHeld.2.2.2.2.1))).trans (hHeld.2.2.2.2.1)
           have HS5_ := (hb.cell (World.block_lt_of_cell? _ _ (hHeld.2.2.2.2.2.1))).trans (hHeld.2.2.2.2.2.1)
           have HS6_ := (hb.cell (World.block_lt_of_cell? _ _ (hHeld.2.2.2.2.2.2))).trans (hHeld.2.2.2.2.2.2)
           refine ⟨_, rfl, ?_⟩
           have n0_ := A_ (Kd.R_below (pr_ HO_6) hb)
           have n1_ := A_ (Kd.R_below (pr_ HO_7) hb)
           have n2_ := A_ (blk_below (pl_ BK302) hb)
           have n3_ := A_ (blk_below (pl_ BK303) hb)
           have n4_ := A_ (blk_below (pl_ BK321) hb)
           have n5_ := A_ (below_step (bl_ HB) hb)
           clear HO_6
           clear HO_7
           clear BK302
           clear BK303
           clear BK321
           clear HB
           have HO_6 := n0_
           have HO_7 := n1_
           have BK302 := n2_
           have BK303 := n3_
           have BK321 := n4_
           have HB := n5_
           clear n0_ n1_ n2_ n3_ n4_ n5_
           (try clear hb)
           (try clear hb2)
           (try clear hk)
           (try clear hi)
           refine hK.out _ _ ⟨(blk_cell BK303.out 0).trans rfl, (blk_cell BK303.out 1).trans rfl, (blk_cell BK303.out 2).trans rfl, (blk_cell BK303.out 3).trans rfl, HS4_, HS5_, HS6_⟩ (fun hHeld => ?_)
           clear hK K
           refine norm_ (a' := ?_) ?_ ?_
           rotate_left
           ·show Act.put _ (some 35) _ = _
            simp only [Act.put, List.setIfInBounds_toArray, List.set_cons_zero, List.set_cons_succ, i64_w, i32_w]
            rfl
           refine pure_ (i := 6) (N := some 29) (v := ?_) (a' := ?_) #[true, true, true, true, true, true, true, false, false, true, false, false] rfl rfl (any_of HT_.out (by kernel_rfl)) (fun _ _ _ h => h) (Or.inl ⟨by rfl, ?_⟩) ?_ ?_
           rotate_left
           ·intro w'
            go_simp
            with_reducible rfl
           rotate_left
           ·simp only [Act.put, List.setIfInBounds_toArray, List.set_cons_zero, List.set_cons_succ, i64_w, i32_w]
            rfl
           refine pure_ (i := 7) (N := some 36) (v := ?_) (a' := ?_) #[true, true, true, true, true, true, true, true, false, true, false, false] rfl rfl (any_of HT_.out (by kernel_rfl)) (fun _ _ _ h => h) (Or.inl ⟨by rfl, ?_⟩) ?_ ?_
           rotate_left
           ·intro w'
            go_simp
            with_reducible rfl
           rotate_left
           ·simp only [Act.put, List.setIfInBounds_toArray, List.set_cons_zero, List.set_cons_succ, i64_w, i32_w]
            rfl
           refine pure_ (i := 8) (N := some 37) (v := ?_) (a' := ?_) #[true, true, true, true, true, true, true, true, true, true, false, false] rfl rfl (any_of HT_.out (by kernel_rfl)) (fun _ _ _ h => h) (Or.inl ⟨by rfl, ?_⟩) ?_ ?_
           rotate_left
           ·intro w'
            go_simp
            with_reducible rfl
           rotate_left
           ·simp only [Act.put, List.setIfInBounds_toArray, List.set_cons_zero, List.set_cons_succ, i64_w, i32_w]
            rfl
           exact norm_ pa_ (hCont (gb321) _ ⟨hHeld, (pr_ HO_6), (pr_ HO_7), (pl_ BK302), (pl_ BK303), (pl_ BK321), GW321.out, GE321.out, NB302_321.out, NB321_302.out, NB303_321.out, NB321_303.out, (bl_ HB)⟩)
         rintro gb321 w41 ⟨hS_, h0_, h1_, h2_, h3_, h4_, h5_, h6_, h7_, h8_, h9_, h10_, h11_⟩
         have n0_ : Aside0 (Kd.R k60 60 w41 w.heap.size (fun k_ => some k_ ≠ (.slice (some ad315) t312.length co37 : Value).ownBlock) u6 x6_2) := ⟨h0_⟩
         have n1_ : Aside0 (Kd.R k60 60 w41 w.heap.size (fun k_ => some k_ ≠ (u6 : Value).ownBlock) (.slice (some ad315) t312.length co37) t312) := ⟨h1_⟩
         have n2_ : Aside0 (w41.heap[gb302]? = some (.cells #[.slice A0_0 l0_0.length c0_0, .int .i16 x303001_2, .int .i16 x303002_2, .int .i16 x303003_2, .int .i16 x303004_2, .bool x303005_2] 32 (0, 0))) := ⟨h2_⟩
         have n3_ : Aside0 (w41.heap[gb303]? = some (.cells #[.int .i16 a1_0, .int .i16 a1_1, .int .i16 a1_2, .int .i16 a1_3] 30 (0, 0))) := ⟨h3_⟩
         have n4_ : Aside0 (w41.heap[gb321]? = some (.cells #[.int .i16 0, .int .i16 0, .int .i16 0, .int .i16 0] 30 (0, 0))) := ⟨h4_⟩
         have n5_ : Aside0 (w.heap.size ≤ gb321) := ⟨h5_⟩
         have n6_ : Aside0 (w.heap.size ≤ gb321) := ⟨h6_⟩
         have n7_ : Aside0 (gb302 ≠ gb321) := ⟨h7_⟩
         have n8_ : Aside0 (gb321 ≠ gb302) := ⟨h8_⟩
         have n9_ : Aside0 (gb303 ≠ gb321) := ⟨h9_⟩
         have n10_ : Aside0 (gb321 ≠ gb303) := ⟨h10_⟩
         have n11_ : Aside0 (Below w.heap.size w w41) := ⟨h11_⟩
         clear HO_6
         clear HO_7
         clear BK302
         clear BK303
         clear HB
         clear h0_ h1_ h2_ h3_ h4_ h5_ h6_ h7_ h8_ h9_ h10_ h11_
         have HO_6 := n0_
         have HO_7 := n1_
         have BK302 := n2_
         have BK303 := n3_
         have BK321 := n4_
         have GW321 := n5_
         have GE321 := n6_
         have NB302_321 := n7_
         have NB321_302 := n8_
         have NB303_321 := n9_
         have NB321_303 := n10_
         have HB := n11_
         clear n0_ n1_ n2_ n3_ n4_ n5_ n6_ n7_ n8_ n9_ n10_ n11_
         have hHeld : w41.cell? ⟨gb303, 0, none⟩ = some (.int .i16 a1_0) ∧ w41.cell? ⟨gb303, 1, none⟩ = some (.int .i16 a1_1) ∧ w41.cell? ⟨gb303, 2, none⟩ = some (.int .i16 a1_2) ∧ w41.cell? ⟨gb303, 3, none⟩ = some (.int .i16 a1_3) ∧ w41.cell? (ad315.add ((x8_2).toNat * 3)) = some (.int .i8 ((rd_T60 t312 x8_2).f0)) ∧ w41.cell? ⟨(ad315.add ((x8_2).toNat * 3)).block, (ad315.add ((x8_2).toNat * 3)).off + 1, none⟩ = some (.int .i8 ((rd_T60 t312 x8_2).f1)) ∧ w41.cell? ⟨(ad315.add ((x8_2).toNat * 3)).block, (ad315.add ((x8_2).toNat * 3)).off + 2, none⟩ = some (.int .i8 ((rd_T60 t312 x8_2).f2)) := hS_
         refine norm_ (a' := ?_) ?_ ?_
         rotate_left
         ·simp only [putAll, Act.put, List.setIfInBounds_toArray, List.set_cons_zero, List.set_cons_succ]
          rfl
         refine one_ (i := 10) (N := none) #[true, true, true, true, true, true, true, true, true, true, true, false] rfl rfl (one_of HT_.out (by kernel_rfl)) (by decide) (fun K hK => ?_)
         have hs42 : w41.cell? ⟨gb321, 0, none⟩ = some (.int .i16 0) := (blk_cell BK321.out 0).trans rfl
         have hfs42 := blk_frozen BK321.out 0
         have hns42_0 := NB302_321.out
         have hns42_1 := NB303_321.out
         have hms42_0 := NB321_302.out
         have hms42_1 := NB321_303.out
         have hs43 : w41.cell? ⟨gb321, 1, none⟩ = some (.int .i16 0) := (blk_cell BK321.out 1).trans rfl
         have hfs43 := blk_frozen BK321.out 1
         have hns43_0 := NB302_321.out
         have hns43_1 := NB303_321.out
         have hms43_0 := NB321_302.out
         have hms43_1 := NB321_303.out
         have hs44 : w41.cell? ⟨gb321, 2, none⟩ = some (.int .i16 0) := (blk_cell BK321.out 2).trans rfl
         have hfs44 := blk_frozen BK321.out 2
         have hns44_0 := NB302_321.out
         have hns44_1 := NB303_321.out
         have hms44_0 := NB321_302.out
         have hms44_1 := NB321_303.out
         have hs45 : w41.cell? ⟨gb321, 3, none⟩ = some (.int .i16 0) := (blk_cell BK321.out 3).trans rfl
         have hfs45 := blk_frozen BK321.out 3
         have hns45_0 := NB302_321.out
         have hns45_1 := NB303_321.out
         have hms45_0 := NB321_302.out
         have hms45_1 := NB321_303.out
         refine skip_ (w1 := ?_) (by rfl) rfl ?_ ?_
         rotate_left
         ·go_simp
          rfl
         refine hK.out _ _ ⟨((cell_far (p := ⟨gb321, _, none⟩) NB303_321.out _).trans ((cf3_ NB303_321 (hHeld.1)))), ((cell_far (p := ⟨gb321, _, none⟩) NB303_321.out _).trans ((cf3_ NB303_321 (hHeld.2.1)))), ((cell_far (p := ⟨gb321, _, none⟩) NB303_321.out _).trans ((cf3_ NB303_321 (hHeld.2.2.1)))), ((cell_far (p := ⟨gb321, _, none⟩) NB303_321.out _).trans ((cf3_ NB303_321 (hHeld.2.2.2.1)))), ((cell_far (p := ⟨gb321, _, none⟩) (by first | exact Kd.own_blk (Kd.R_ne HO_7.out BK321.out (by decide)) | (rw [add_block]; exact Kd.own_blk (Kd.R_ne HO_7.out BK321.out (by decide))) | (show (Addr.add _ _).block ≠ _; rw [add_block]; exact Kd.own_blk (Kd.R_ne HO_7.out BK321.out (by decide))) | (dsimp only; exact Kd.own_blk (Kd.R_ne HO_7.out BK321.out (by decide)))) _).trans (((cell_far (p := ⟨gb321, _, none⟩) (by first | exact Kd.own_blk (Kd.R_ne HO_7.out BK321.out (by decide)) | (rw [add_block]; exact Kd.own_blk (Kd.R_ne HO_7.out BK321.out (by decide))) | (show (Addr.add _ _).block ≠ _; rw [add_block]; exact Kd.own_blk (Kd.R_ne HO_7.out BK321.out (by decide))) | (dsimp only; exact Kd.own_blk (Kd.R_ne HO_7.out BK321.out (by decide)))) _).trans (((cell_far (p := ⟨gb321, _, none⟩) (by first | exact Kd.own_blk (Kd.R_ne HO_7.out BK321.out (by decide)) | (rw [add_block]; exact Kd.own_blk (Kd.R_ne HO_7.out BK321.out (by decide))) | (show (Addr.add _ _).block ≠ _; rw [add_block]; exact Kd.own_blk (Kd.R_ne HO_7.out BK321.out (by decide))) | (dsimp only; exact Kd.own_blk (Kd.R_ne HO_7.out BK321.out (by decide)))) _).trans (((cell_far (p := ⟨gb321, _, none⟩) (by first | exact Kd.own_blk (Kd.R_ne HO_7.out BK321.out (by decide)) | (rw [add_block]; exact Kd.own_blk (Kd.R_ne HO_7.out BK321.out (by decide))) | (show (Addr.add _ _).block ≠ _; rw [add_block]; exact Kd.own_blk (Kd.R_ne HO_7.out BK321.out (by decide))) | (dsimp only; exact Kd.own_blk (Kd.R_ne HO_7.out BK321.out (by decide)))) _).trans (hHeld.2.2.2.2.1)))))))), ((cell_far (p := ⟨gb321, _, none⟩) (by first | exact Kd.own_blk (Kd.R_ne HO_7.out BK321.out (by decide)) | (rw [add_block]; exact Kd.own_blk (Kd.R_ne HO_7.out BK321.out (by decide))) | (show (Addr.add _ _).block ≠ _; rw [add_block]; exact Kd.own_blk (Kd.R_ne HO_7.out BK321.out (by decide))) | (dsimp only; exact Kd.own_blk (Kd.R_ne HO_7.out BK321.out (by decide)))) _).trans (((cell_far (p := ⟨gb321, _, none⟩) (by first | exact Kd.own_blk (Kd.R_ne HO_7.out BK321.out (by decide)) | (rw [add_block]; exact Kd.own_blk (Kd.R_ne HO_7.out BK321.out (by decide))) | (show (Addr.add _ _).block ≠ _; rw [add_block]; exact Kd.own_blk (Kd.R_ne HO_7.out BK321.out (by decide))) | (dsimp only; exact Kd.own_blk (Kd.R_ne HO_7.out BK321.out (by decide)))) _).trans (((cell_far (p := ⟨gb321, _, none⟩) (by first | exact Kd.own_blk (Kd.R_ne HO_7.out BK321.out (by decide)) | (rw [add_block]; exact Kd.own_blk (Kd.R_ne HO_7.out BK321.out (by decide))) | (show (Addr.add _ _).block ≠ _; rw [add_block]; exact Kd.own_blk (Kd.R_ne HO_7.out BK321.out (by decide))) | (dsimp only; exact Kd.own_blk (Kd.R_ne HO_7.out BK321.out (by decide)))) _).trans (((cell_far (p := ⟨gb321, _, none⟩) (by first | exact Kd.own_blk (Kd.R_ne HO_7.out BK321.out (by decide)) | (rw [add_block]; exact Kd.own_blk (Kd.R_ne HO_7.out BK321.out (by decide))) | (show (Addr.add _ _).block ≠ _; rw [add_block]; exact Kd.own_blk (Kd.R_ne HO_7.out BK321.out (by decide))) | (dsimp only; exact Kd.own_blk (Kd.R_ne HO_7.out BK321.out (by decide)))) _).trans (hHeld.2.2.2.2.2.1)))))))), ((cell_far (p := ⟨gb321, _, none⟩) (by first | exact Kd.own_blk (Kd.R_ne HO_7.out BK321.out (by decide)) | (rw [add_block]; exact Kd.own_blk (Kd.R_ne HO_7.out BK321.out (by decide))) | (show (Addr.add _ _).block ≠ _; rw [add_block]; exact Kd.own_blk (Kd.R_ne HO_7.out BK321.out (by decide))) | (dsimp only; exact Kd.own_blk (Kd.R_ne HO_7.out BK321.out (by decide)))) _).trans (((cell_far (p := ⟨gb321, _, none⟩) (by first | exact Kd.own_blk (Kd.R_ne HO_7.out BK321.out (by decide)) | (rw [add_block]; exact Kd.own_blk (Kd.R_ne HO_7.out BK321.out (by decide))) | (show (Addr.add _ _).block ≠ _; rw [add_block]; exact Kd.own_blk (Kd.R_ne HO_7.out BK321.out (by decide))) | (dsimp only; exact Kd.own_blk (Kd.R_ne HO_7.out BK321.out (by decide)))) _).trans (((cell_far (p := ⟨gb321, _, none⟩) (by first | exact Kd.own_blk (Kd.R_ne HO_7.out BK321.out (by decide)) | (rw [add_block]; exact Kd.own_blk (Kd.R_ne HO_7.out BK321.out (by decide))) | (show (Addr.add _ _).block ≠ _; rw [add_block]; exact Kd.own_blk (Kd.R_ne HO_7.out BK321.out (by decide))) | (dsimp only; exact Kd.own_blk (Kd.R_ne HO_7.out BK321.out (by decide)))) _).trans (((cell_far (p := ⟨gb321, _, none⟩) (by first | exact Kd.own_blk (Kd.R_ne HO_7.out BK321.out (by decide)) | (rw [add_block]; exact Kd.own_blk (Kd.R_ne HO_7.out BK321.out (by decide))) | (show (Addr.add _ _).block ≠ _; rw [add_block]; exact Kd.own_blk (Kd.R_ne HO_7.out BK321.out (by decide))) | (dsimp only; exact Kd.own_blk (Kd.R_ne HO_7.out BK321.out (by decide)))) _).trans (hHeld.2.2.2.2.2.2))))))))⟩ (fun hHeld => ?_)
         clear hK K
         refine pure_ (i := 11) (N := some 10) (v := ?_) (a' := ?_) #[true, true, true, true, true, true, true, true, true, true, true, true] rfl rfl (any_of HT_.out (by kernel_rfl)) (fun _ _ _ h => h) (Or.inl ⟨by rfl, ?_⟩) ?_ ?_
         rotate_left
         ·intro w'
          go_simp
          with_reducible rfl
         rotate_left
         ·simp only [Act.put, List.setIfInBounds_toArray, List.set_cons_zero, List.set_cons_succ, i64_w, i32_w]
          rfl
         refine done_ (done_of HT_.out (by kernel_rfl)) ?_
         try go_wp2
         go_roundg k2
         case measure => have := HJ2.out; have := HK2.out; omega
         case rel => exact ⟨(x6_2), (wrap64 (x8_2 + 1)), (x303001_2), (x303002_2), (x303003_2), (x303004_2), (x303005_2), rs_, H', ⟨by have := HJ2.out; have := HK2.out; omega⟩, ⟨by (with_reducible repeat (first | apply Kd.R_alloc | apply Kd.R_drewN | apply Kd.R_drew)); exact Kd.R_mono (Kd.R_far (p := ⟨gb321, 3, none⟩) (Kd.R_far (p := ⟨gb321, 2, none⟩) (Kd.R_far (p := ⟨gb321, 1, none⟩) (Kd.R_far (p := ⟨gb321, 0, none⟩) (Kd.R_types HO_6.out BK321.out (by decide)) (fun _ hk => hk.2) (.int .i16 t316)) (fun _ hk => hk.2) (.int .i16 t317)) (fun _ hk => hk.2) (.int .i16 t318)) (fun _ hk => hk.2) (.int .i16 t319)) (fun _ hk => hk.1)⟩, ⟨by (with_reducible repeat (first | apply Kd.R_alloc | apply Kd.R_drewN | apply Kd.R_drew)); exact Kd.R_mono (Kd.R_far (p := ⟨gb321, 3, none⟩) (Kd.R_far (p := ⟨gb321, 2, none⟩) (Kd.R_far (p := ⟨gb321, 1, none⟩) (Kd.R_far (p := ⟨gb321, 0, none⟩) (Kd.R_types HO_7.out BK321.out (by decide)) (fun _ hk => hk.2) (.int .i16 t316)) (fun _ hk => hk.2) (.int .i16 t317)) (fun _ hk => hk.2) (.int .i16 t318)) (fun _ hk => hk.2) (.int .i16 t319)) (fun _ hk => hk.1)⟩, ⟨pf_ BK302 NB302_321⟩, ⟨pf_ BK303 NB303_321⟩, ⟨bs_ HB GE321⟩⟩
       ·rw [if_neg c23] at H
        exact absurd H (by simp)
      ·rw [if_neg c22] at H
       have c22b0 : decide (x8_2 < (t312.length : Int)) = false := decide_eq_false c22
       clear c22
       simp only [Option.some.injEq, Prod.mk.injEq] at H
       obtain ⟨rfl, rfl⟩ := H
       obtain ⟨Ao46, co46, eo46⟩ := Kd.R_slice HO_7.out
       subst eo46
       go_wp2
       go_ret2
       exact ⟨_, by first | rfl | (simp [errW_none, errW_some] <;> rfl) | (simp [*, errW_none, errW_some] <;> rfl), by (with_reducible repeat (first | apply Kd.R_alloc | apply Kd.R_drewN | apply Kd.R_drew)); exact Kd.R_mono HO_6.out (fun _ hk => trivial), bl_ HB⟩

end Go.Proofs.Ytodmfjophjhbeaa.M
