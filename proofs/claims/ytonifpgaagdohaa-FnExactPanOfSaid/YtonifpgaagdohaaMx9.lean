-- By this seat's own program over the kit's printer (arrays, functions told by hand); nothing of it is trusted: the kernel checks it.
import Derived.Test.YtonifpgaagdohaaMx0
import Derived.Test.YtonifpgaagdohaaMx6
import Derived.Test.YtonifpgaagdohaaMx8
namespace Go.Proofs.Ytonifpgaagdohaa.M
open Go.RowKit Go.Proofs.YtonifpgaagdohaaW.PrintWords Go.Proofs.YtonifpgaagdohaaW.PrintLast Go.Proofs.YtonifpgaagdohaaW.PrintMore
attribute [local go_sem] max2_int min2_int max_two min_two max_three min_three max_four min_four   -- for this text's walks alone
set_option linter.unusedVariables false
set_option linter.unusedSimpArgs false

/-! ### spec_PanOf: function 25 -/
def spec_PanOf.l0 : Nat → Int → List Int → List Int → Int → Int → Int → List (S40) → Option (List Int × List Int × Int)
 | 0, _, _, _, _, _, _, _ => none
 | k + 1, x1, x7, x8, x9, x144000, x144001, x144002 => if x9 < (x144002.length : Int) then (if 0 ≤ x9 then (if 0 ≤ x1 then (if x1 < 4 then (if (rd [(rd_T40 x144002 x9).f0, (rd_T40 x144002 x9).f1, (rd_T40 x144002 x9).f2, (rd_T40 x144002 x9).f3] x1) = (-1) then (if x7.length < 17592186044416 then (spec_PanOf.l0 k x1 (x7 ++ [x9]) x8 (wrap64 (x9 + 1)) x144000 x144001 x144002) else (none)) else (if (rd [(rd_T40 x144002 x9).f0, (rd_T40 x144002 x9).f1, (rd_T40 x144002 x9).f2, (rd_T40 x144002 x9).f3] x1) = 1 then (if x8.length < 17592186044416 then (spec_PanOf.l0 k x1 x7 (x8 ++ [x9]) (wrap64 (x9 + 1)) x144000 x144001 x144002) else (none)) else (spec_PanOf.l0 k x1 x7 x8 (wrap64 (x9 + 1)) x144000 x144001 x144002))) else (none)) else (none)) else (none)) else (some (x7, x8, 0))
def spec_PanOf.f (k : Nat) (a0_0 : Int) (a0_1 : Int) (l0_2 : List (S40)) (a1 : Int) : Option (List Int × List Int × Int) := (spec_l04Ok.f k a0_0 a0_1 l0_2).bind fun t144 => (if t144 = true then ((spec_l00In.f a1 0 (wrap64 ((wrap64 (a0_0)) - 1))).bind fun t151 => (if t151 = true then (spec_PanOf.l0 k a1 (([] : List Int)) (([] : List Int)) 0 a0_0 a0_1 l0_2) else (some ((([] : List Int)), (([] : List Int)), 2)))) else (some ((([] : List Int)), (([] : List Int)), 1)))
theorem spec_PanOf.mono_l : ∀ k, (∀ y0 y1 y2 y3 y4 y5 y6, LeO (spec_PanOf.l0 k y0 y1 y2 y3 y4 y5 y6) (spec_PanOf.l0 (k + 1) y0 y1 y2 y3 y4 y5 y6))
 | 0 => fun _ _ _ _ _ _ _ r h => by simp [spec_PanOf.l0] at h
 | k + 1 => by
  have ih0 := spec_PanOf.mono_l k
  ·intro y0 y1 y2 y3 y4 y5 y6
   unfold spec_PanOf.l0
   repeat' first
   | (with_reducible exact ih0 _ _ _ _ _ _ _)
   | (with_reducible exact spec_l04Ok.mono _ _ _ _)
   | (with_reducible exact LeO.refl _)
   | (with_reducible exact LeO.none _)
   | (with_reducible refine LeO.ite ?_ ?_)
   | (with_reducible refine LeO.bind ?_ (fun _ => ?_))
   | exact ih0 _ _ _ _ _ _ _
   | exact spec_l04Ok.mono _ _ _ _
   | exact LeO.none _
   | refine LeO.ite ?_ ?_
   | refine LeO.bind ?_ (fun _ => ?_)
theorem spec_PanOf.mono : ∀ a0 a1 a2 a3 k, LeO (spec_PanOf.f k a0 a1 a2 a3) (spec_PanOf.f (k + 1) a0 a1 a2 a3) := by
 intro a0 a1 a2 a3 k
 have ih0 := spec_PanOf.mono_l k
 unfold spec_PanOf.f
 repeat' first
   | (with_reducible exact ih0 _ _ _ _ _ _ _)
   | (with_reducible exact spec_l04Ok.mono _ _ _ _)
   | (with_reducible exact LeO.refl _)
   | (with_reducible exact LeO.none _)
   | (with_reducible refine LeO.ite ?_ ?_)
   | (with_reducible refine LeO.bind ?_ (fun _ => ?_))
   | exact ih0 _ _ _ _ _ _ _
   | exact spec_l04Ok.mono _ _ _ _
   | exact LeO.none _
   | refine LeO.ite ?_ ?_
   | refine LeO.bind ?_ (fun _ => ?_)
set_option maxHeartbeats 8000000 in
set_option maxRecDepth 100000 in
theorem spec_PanOf.calls (k : Nat) (a0_0 : Int) (a0_1 : Int) (A0_2 : Option Addr) (c0_2 : Nat) (l0_2 : List (S40)) (a1 : Int) (r1 : List Int) (r2 : List Int) (r3 : Int) (w : World) (hr0_2 : Kd.C k40 w A0_2 l0_2.length l0_2) (hc0_2 : l0_2.length ≤ c0_2) (h : spec_PanOf.f k a0_0 a0_1 l0_2 a1 = some (r1, r2, r3)) :
  Calls Try.prog 25 #[.agg #[.int .i8 a0_0, .int .i8 a0_1, .slice A0_2 l0_2.length c0_2], .int .i64 a1] w fun e w' => ∃ v0_ v1_ : Value, e = .returned (.tuple #[v0_, v1_, .int .i64 r3]) ∧ Kd.R (Kd.int .i64) 2 w' w.heap.size (fun k_ => some k_ ≠ (v1_ : Value).ownBlock) v0_ r1 ∧ Kd.R (Kd.int .i64) 2 w' w.heap.size (fun k_ => some k_ ≠ (v0_ : Value).ownBlock) v1_ r2 ∧ Below w.heap.size w w' := by
 have hu30 := Try.underlying30
 have HR0_2 := Aside0.mk hr0_2
 have HC0_2 := Aside0.mk hc0_2
 clear hr0_2 hc0_2
 have HB := A_ (Below.refl w.heap.size w)
 have H : ((spec_l04Ok.f k a0_0 a0_1 l0_2).bind fun t144 => (if t144 = true then ((spec_l00In.f a1 0 (wrap64 ((wrap64 (a0_0)) - 1))).bind fun t151 => (if t151 = true then (spec_PanOf.l0 k a1 (([] : List Int)) (([] : List Int)) 0 a0_0 a0_1 l0_2) else (some ((([] : List Int)), (([] : List Int)), 2)))) else (some ((([] : List Int)), (([] : List Int)), 1)))) = some (r1, r2, r3) := h
 clear h
 replace H := Option.bind_eq_some_iff.mp H
 obtain ⟨t144, A30, H⟩ := H
 replace H : (if t144 = true then ((spec_l00In.f a1 0 (wrap64 ((wrap64 (a0_0)) - 1))).bind fun t151 => (if t151 = true then (spec_PanOf.l0 k a1 (([] : List Int)) (([] : List Int)) 0 a0_0 a0_1 l0_2) else (some ((([] : List Int)), (([] : List Int)), 2)))) else (some ((([] : List Int)), (([] : List Int)), 1))) = some (r1, r2, r3) := H
 have A3 := Aside0.mk A30
 clear A30
 by_cases c4 : t144 = true
 ·subst c4
  have H1 : ((spec_l00In.f a1 0 (wrap64 ((wrap64 (a0_0)) - 1))).bind fun t151 => (if t151 = true then (spec_PanOf.l0 k a1 (([] : List Int)) (([] : List Int)) 0 a0_0 a0_1 l0_2) else (some ((([] : List Int)), (([] : List Int)), 2)))) = some (r1, r2, r3) := by rw [if_pos rfl] at H; exact H
  clear H
  have H := H1
  clear H1
  replace H := Option.bind_eq_some_iff.mp H
  obtain ⟨t151, A50, H⟩ := H
  replace H : (if t151 = true then (spec_PanOf.l0 k a1 (([] : List Int)) (([] : List Int)) 0 a0_0 a0_1 l0_2) else (some ((([] : List Int)), (([] : List Int)), 2))) = some (r1, r2, r3) := H
  have A5 := Aside0.mk A50
  clear A50
  by_cases c6 : t151 = true
  ·subst c6
   have H1 : (spec_PanOf.l0 k a1 (([] : List Int)) (([] : List Int)) 0 a0_0 a0_1 l0_2) = some (r1, r2, r3) := by rw [if_pos rfl] at H; exact H
   clear H
   have H := H1
   clear H1
   obtain ⟨y158, hy158⟩ : ∃ y_ : List Int, y_ = (([] : List Int)) := ⟨_, rfl⟩
   replace H : (spec_PanOf.l0 k a1 y158 (([] : List Int)) 0 a0_0 a0_1 l0_2) = some (r1, r2, r3) := by first | (rw [hy158]; with_reducible exact H) | (have H2_ := (Option.bind_some _ _).symm.trans H; rw [hy158]; with_reducible exact H2_) | (have H2_ := (Option.bind_some _ _).symm.trans H; with_reducible exact H2_) | with_reducible exact H | (rw [hy158]; exact H) | exact H
   have Ny158 := Aside0.mk hy158
   clear hy158
   obtain ⟨y161, hy161⟩ : ∃ y_ : List Int, y_ = (([] : List Int)) := ⟨_, rfl⟩
   replace H : (spec_PanOf.l0 k a1 y158 y161 0 a0_0 a0_1 l0_2) = some (r1, r2, r3) := by first | (rw [hy161]; with_reducible exact H) | (have H2_ := (Option.bind_some _ _).symm.trans H; rw [hy161]; with_reducible exact H2_) | (have H2_ := (Option.bind_some _ _).symm.trans H; with_reducible exact H2_) | with_reducible exact H | (rw [hy161]; exact H) | exact H
   have Ny161 := Aside0.mk hy161
   clear hy161
   have H' := Aside0.mk H
   clear H
   go_enter Try.func25, Try.ntmps25
   go_wp2_with (first | ((with_reducible refine gate_dst (N := 2) rfl ?_); refine box_event ?hg (N := 2) ?hd (cs := #[.int .i8 a0_0, .int .i8 a0_1, .slice A0_2 l0_2.length c0_2]) (t := 30) ?hr ?_; (case hd => rfl); (case hg => rfl); (case hr => first | (go_simp; done) | (go_simp; rfl)); intro gb143 hg w7 hbox hb; have n0_ := A_ (below_step (bl_ HB) hb); have n1_ := A_ (hbox); have n2_ := A_ ((by rw [hg]; exact (below_size (bl_ HB)) : w.heap.size ≤ gb143)); have n3_ := n2_; clear HB; have HB := n0_; have BK143 := n1_; have GW143 := n2_; have GE143 := n3_; clear n0_ n1_ n2_ n3_; clear hb hbox hg) | ((with_reducible refine gate_callee (f := 34) rfl ?_); refine goesL_ (some 10) rfl rfl Try.func34 (by kernel_rfl) rfl #[.pointer (some ⟨gb143, 0, none⟩)] rfl arg_ ?_; (with_reducible refine (spec_l04Ok.calls k gb143 a0_0 a0_1 A0_2 c0_2 l0_2 true _ ?side1 ?side2 ?side3 A3.out).mono ?_); (case side1 => exact (pl_ BK143)); (case side2 => repeat (first | exact (Kd.C_below HR0_2.out HB.out) | (with_reducible refine Kd.C_alloc ?_ _) | (with_reducible refine Kd.C_drewN ?_ _) | (with_reducible refine Kd.C_drew ?_))); (case side3 => exact HC0_2.out); rintro e w8 ⟨rfl, hb⟩; refine ⟨_, rfl, ?_⟩; have n0_ := A_ (blk_below (g := gb143) (o := .cells #[.int .i8 a0_0, .int .i8 a0_1, .slice A0_2 l0_2.length c0_2] 30 (0, 0)) (pl_ BK143) hb); have n1_ := A_ (below_step (bl_ HB) hb); clear BK143; clear HB; have BK143 := n0_; have HB := n1_; clear n0_ n1_; (try clear hb); (try clear hb2); (try clear hk); (try clear hi); have hcz9_0 : w8.cell? ⟨gb143, 0, none⟩ = some (.int .i8 a0_0) := (blk_cell BK143.out 0).trans rfl; have hcz9_1 : w8.cell? ⟨gb143, 1, none⟩ = some (.int .i8 a0_1) := (blk_cell BK143.out 1).trans rfl; have hcz9_2 : w8.cell? ⟨gb143, 2, none⟩ = some (.slice A0_2 l0_2.length c0_2) := (blk_cell BK143.out 2).trans rfl; have hfz9_0 := blk_frozen BK143.out 0; have hfz9_1 := blk_frozen BK143.out 1; have hfz9_2 := blk_frozen BK143.out 2) | ((with_reducible refine gate_callee (f := 49) rfl ?_); refine goesL_ (some 19) rfl rfl Try.func49 (by kernel_rfl) rfl #[.int .i64 a1, .int .i64 0, .int .i64 (wrap64 ((wrap64 (a0_0)) - 1))] rfl arg_ ?_; (with_reducible refine (spec_l00In.calls a1 0 (wrap64 ((wrap64 (a0_0)) - 1)) true _ A5.out).mono ?_); rintro e w' ⟨rfl, ⟨nd, rfl⟩⟩; refine ⟨_, rfl, ?_⟩) | ((with_reducible refine gate_dst (N := 23) rfl ?_); refine Kd.R_lit (Kd.int .i64) _ 2 ?hg (N := 23) ?hd (xs := ([] : List Int)) (inner := []) (ok := fun _ => True) (okp := fun _ => True) ?hr ?hp (fun _ hk => hk) trivial (Below.refl _ _) (Nat.le_refl _) (by simp) ?_; (case hd => rfl); (case hg => rfl); (case hr => first | (go_simp; done) | (go_simp; rfl)); (case hp => exact (Reps.none _ _)); intro v159 w10 ho11 hb hg_ hnew_; clear hg_ hnew_; (first | rw [← Ny158.out] at ho11 | (simp only [Int.reduceToNat] at ho11; rw [← Ny158.out] at ho11)); have n0_ := A_ (Kd.R_lower ho11 (below_size (bl_ HB))); have n1_ := A_ (blk_below (g := gb143) (o := .cells #[.int .i8 a0_0, .int .i8 a0_1, .slice A0_2 l0_2.length c0_2] 30 (0, 0)) (pl_ BK143) hb); have n2_ := A_ (below_step (bl_ HB) hb); clear BK143; clear HB; have HO160 := n0_; have BK143 := n1_; have HB := n2_; clear n0_ n1_ n2_; clear hb ho11) | ((with_reducible refine gate_dst (N := 24) rfl ?_); refine Kd.R_lit (Kd.int .i64) _ 2 ?hg (N := 24) ?hd (xs := ([] : List Int)) (inner := []) (ok := fun _ => True) (okp := fun _ => True) ?hr ?hp (fun _ hk => hk) trivial (Below.refl _ _) (Nat.le_refl _) (by simp) ?_; (case hd => rfl); (case hg => rfl); (case hr => first | (go_simp; done) | (go_simp; rfl)); (case hp => exact (Reps.none _ _)); intro v162 w12 ho13 hb hg_ hnew_; clear hg_ hnew_; (first | rw [← Ny161.out] at ho13 | (simp only [Int.reduceToNat] at ho13; rw [← Ny161.out] at ho13)); have n0_ := A_ (Kd.R_elder' (pr_ HO160) (Kd.R_base ho13) hb); have n1_ := A_ (Kd.R_lower (Kd.R_new' ho13 (Kd.R_lt (pr_ HO160))) (below_size (bl_ HB))); have n2_ := A_ (blk_below (g := gb143) (o := .cells #[.int .i8 a0_0, .int .i8 a0_1, .slice A0_2 l0_2.length c0_2] 30 (0, 0)) (pl_ BK143) hb); have n3_ := A_ (below_step (bl_ HB) hb); clear HO160; clear BK143; clear HB; have HO160 := n0_; have HO163 := n1_; have BK143 := n2_; have HB := n3_; clear n0_ n1_ n2_ n3_; clear hb ho13))
   go_loopg [7, 8, 9] k (fun kq v7 v8 v9 w' => ∃ (x7_1 : List Int) (x8_1 : List Int) (x9_1 : Int), v9 = .int .i64 x9_1 ∧ Aside0 (spec_PanOf.l0 kq a1 x7_1 x8_1 x9_1 a0_0 a0_1 l0_2 = some (r1, r2, r3)) ∧ Aside0 (kq ≤ k) ∧ Aside0 (Kd.R (Kd.int .i64) 2 w' w.heap.size (fun k_ => some k_ ≠ (v8 : Value).ownBlock) v7 x7_1) ∧ Aside0 (Kd.R (Kd.int .i64) 2 w' w.heap.size (fun k_ => some k_ ≠ (v7 : Value).ownBlock) v8 x8_1) ∧ Aside0 (w'.heap[gb143]? = some (.cells #[.int .i8 a0_0, .int .i8 a0_1, (.slice A0_2 l0_2.length c0_2)] 30 (0, 0))) ∧ Aside0 (Below w.heap.size w w'))
   case atStart => exact ⟨(y158), (y161), (0), rs_, H', ⟨Nat.le_refl _⟩, ⟨by (with_reducible repeat (first | apply Kd.R_alloc | apply Kd.R_drewN | apply Kd.R_drew)); exact Kd.R_mono HO160.out (fun _ hk => hk.2)⟩, ⟨by (with_reducible repeat (first | apply Kd.R_alloc | apply Kd.R_drewN | apply Kd.R_drew)); exact Kd.R_mono HO163.out (fun _ hk => hk.2)⟩, ⟨pl_ BK143⟩, ⟨bl_ HB⟩⟩
   case round =>
    clear H'
    try clear c2
    try clear p2
    try clear c3
    try clear c4
    try clear c6
    try clear p6
    try clear hcz9_0
    try clear hcz9_1
    try clear hcz9_2
    try clear hfz9_0
    try clear hfz9_1
    try clear hfz9_2
    obtain ⟨x7_1, x8_1, x9_1, rfl, HA, HK1, HO_7, HO_8, BK143, HB⟩ := hrel
    cases gk with
    | zero => exact absurd HA.out (by simp [spec_PanOf.l0])
    | succ k1 =>
     have H := HA.out
     clear HA
     simp only [spec_PanOf.l0] at H
     by_cases c14 : x9_1 < (l0_2.length : Int)
     ·rw [if_pos c14] at H
      have c14b0 : decide (x9_1 < (l0_2.length : Int)) = true := decide_eq_true c14
      clear c14
      by_cases c15 : 0 ≤ x9_1
      ·rw [if_pos c15] at H
       have c15b0 : decide (0 ≤ x9_1) = true := decide_eq_true c15
       clear c15
       by_cases c16 : 0 ≤ a1
       ·rw [if_pos c16] at H
        have c16b0 : decide (0 ≤ a1) = true := decide_eq_true c16
        clear c16
        by_cases c17 : a1 < 4
        ·rw [if_pos c17] at H
         have c17b0 : decide (a1 < 4) = true := decide_eq_true c17
         clear c17
         by_cases c19 : (rd [(rd_T40 l0_2 x9_1).f0, (rd_T40 l0_2 x9_1).f1, (rd_T40 l0_2 x9_1).f2, (rd_T40 l0_2 x9_1).f3] a1) = (-1)
         ·rw [if_pos c19] at H
          have c19b0 : ((rd [(rd_T40 l0_2 x9_1).f0, (rd_T40 l0_2 x9_1).f1, (rd_T40 l0_2 x9_1).f2, (rd_T40 l0_2 x9_1).f3] a1) == (-1)) = true := beq_iff_eq.mpr c19
          have c19b1 : ((rd [(rd_T40 l0_2 x9_1).f0, (rd_T40 l0_2 x9_1).f1, (rd_T40 l0_2 x9_1).f2, (rd_T40 l0_2 x9_1).f3] a1) != (-1)) = false := bne_eq_false_iff_eq.mpr c19
          clear c19
          by_cases c20 : x7_1.length < 17592186044416
          ·rw [if_pos c20] at H
           have LMc20 := Aside0.mk c20
           clear c20
           obtain ⟨y165, hy165⟩ : ∃ y_ : List Int, y_ = (x7_1 ++ [x9_1]) := ⟨_, rfl⟩
           replace H : (spec_PanOf.l0 k1 a1 y165 x8_1 (wrap64 (x9_1 + 1)) a0_0 a0_1 l0_2) = some (r1, r2, r3) := by first | (rw [hy165]; with_reducible exact H) | (have H2_ := (Option.bind_some _ _).symm.trans H; rw [hy165]; with_reducible exact H2_) | (have H2_ := (Option.bind_some _ _).symm.trans H; with_reducible exact H2_) | with_reducible exact H | (rw [hy165]; exact H) | exact H
           have Ny165 := Aside0.mk hy165
           clear hy165
           have H' := Aside0.mk H
           clear H
           have hcz21_0 : wr.cell? ⟨gb143, 0, none⟩ = some (.int .i8 a0_0) := (blk_cell BK143.out 0).trans rfl
           have hcz21_1 : wr.cell? ⟨gb143, 1, none⟩ = some (.int .i8 a0_1) := (blk_cell BK143.out 1).trans rfl
           have hcz21_2 : wr.cell? ⟨gb143, 2, none⟩ = some (.slice A0_2 l0_2.length c0_2) := (blk_cell BK143.out 2).trans rfl
           have hfz21_0 := blk_frozen BK143.out 0
           have hfz21_1 := blk_frozen BK143.out 1
           have hfz21_2 := blk_frozen BK143.out 2
           have p164 : 0 ≤ (x9_1 : Int) := asm_
           have q164 : x9_1 < (l0_2.length : Int) := asm_
           obtain ⟨ad164, e164, hx164_0, hx164_1, hx164_2, hx164_3⟩ := at_T40 HR0_2.out x9_1 p164 q164
           cases e164
           (try replace hx164_0 := (HB.out.cell (World.block_lt_of_cell? w _ hx164_0)).trans hx164_0)
           (try replace hx164_1 := (HB.out.cell (World.block_lt_of_cell? w _ hx164_1)).trans hx164_1)
           (try replace hx164_2 := (HB.out.cell (World.block_lt_of_cell? w _ hx164_2)).trans hx164_2)
           (try replace hx164_3 := (HB.out.cell (World.block_lt_of_cell? w _ hx164_3)).trans hx164_3)
           replace p164 := eq_true p164
           replace q164 := eq_true q164
           have p18 : 0 ≤ (a1 : Int) := asm_
           have q18 : (a1 : Int) < 4 := asm_
           have hx18 : ∀ W_ : World, (W_.cell? (ad164.add ((x9_1).toNat * 4)) = some (.int .i8 ((rd_T40 l0_2 x9_1).f0)) ∧ W_.cell? ⟨(ad164.add ((x9_1).toNat * 4)).block, (ad164.add ((x9_1).toNat * 4)).off + 1, none⟩ = some (.int .i8 ((rd_T40 l0_2 x9_1).f1)) ∧ W_.cell? ⟨(ad164.add ((x9_1).toNat * 4)).block, (ad164.add ((x9_1).toNat * 4)).off + 2, none⟩ = some (.int .i8 ((rd_T40 l0_2 x9_1).f2)) ∧ W_.cell? ⟨(ad164.add ((x9_1).toNat * 4)).block, (ad164.add ((x9_1).toNat * 4)).off + 3, none⟩ = some (.int .i8 ((rd_T40 l0_2 x9_1).f3))) → W_.cell? (Addr.add (ad164.add ((x9_1).toNat * 4)) (a1 : Int).toNat) = some (.int .i8 (rd [(rd_T40 l0_2 x9_1).f0, (rd_T40 l0_2 x9_1).f1, (rd_T40 l0_2 x9_1).f2, (rd_T40 l0_2 x9_1).f3] a1)) := fun W_ ⟨y0_, y1_, y2_, y3_⟩ => ard_at (k := .i8) (l := [(rd_T40 l0_2 x9_1).f0, (rd_T40 l0_2 x9_1).f1, (rd_T40 l0_2 x9_1).f2, (rd_T40 l0_2 x9_1).f3]) (a := (ad164.add ((x9_1).toNat * 4))) (fun n_ x_ h_ => by match n_, h_ with | 0, h_ => (cases h_; exact y0_) | 1, h_ => (cases h_; exact y1_) | 2, h_ => (cases h_; exact y2_) | 3, h_ => (cases h_; exact y3_) | n_ + 4, h_ => simp at h_) p18 q18
           replace hx18 := hx18 _ ⟨hx164_0, hx164_1, hx164_2, hx164_3⟩
           replace p18 := eq_true p18
           replace q18 := eq_true q18
           go_wp2_with (first | ((with_reducible refine gate_builtin (b := .append) (xs := #[.tmp 41, .tmp 43]) rfl ?_); at_builtin; refine Kd.R_append (Kd.int .i64) (w0 := w) w.heap.size rfl (.tmp 41) (.tmp 43) 46 2 (.int .i64 0) 8 rfl Try.underlying46 info2 rfl (by decide) (by omega) u7 x7_1 x9_1 [.int .i64 x9_1] (fun k_ => some k_ ≠ (u8 : Value).ownBlock) (fun _ => False) rfl rfl ?aP (fun _ hk => hk.elim) ?aF ?aO ?aB ?aS ?aL ?_; (case aP => exact rfl); (case aB => exact (bl_ HB)); (case aF => exact (fun k_ hk => Kd.fresh' (Kd.R_lt (pr_ HO_8)) k_ hk)); (case aO => exact (pr_ HO_7)); (case aS => exact (below_size (bl_ HB))); (case aL => have := LMc20.out; omega); intro v166 w22 ho hb hg hat; rw [← Ny165.out] at ho; have n0_ := A_ (Kd.R_after (ok := (fun _ => True)) (by (with_reducible repeat (first | apply Kd.R_alloc | apply Kd.R_drewN | apply Kd.R_drew)); exact Kd.R_mono HO_8.out (fun _ hk => ⟨trivial, hk⟩)) hg hat); have n1_ := A_ (blk_grown (g := gb143) (o := .cells #[.int .i8 a0_0, .int .i8 a0_1, .slice (some ad164) l0_2.length c0_2] 30 (0, 0)) (pl_ BK143) hg (Kd.R_ne HO_7.out BK143.out (by decide))); have n2_ := A_ (hb); have n3_ := A_ (ho); clear HO_8; clear BK143; clear HB; clear HO_7; have HO_8 := n0_; have BK143 := n1_; have HB := n2_; have HO167 := n3_; clear n0_ n1_ n2_ n3_; clear ho hb hg hat))
           go_roundg k1
           case measure => have := HK1.out; omega
           case rel => exact ⟨(y165), (x8_1), (wrap64 (x9_1 + 1)), rs_, H', ⟨by have := HK1.out; omega⟩, ⟨pr_ HO167⟩, ⟨by (with_reducible repeat (first | apply Kd.R_alloc | apply Kd.R_drewN | apply Kd.R_drew)); exact Kd.R_mono HO_8.out (fun _ hk => hk.2)⟩, ⟨pl_ BK143⟩, ⟨bl_ HB⟩⟩
          ·rw [if_neg c20] at H
           exact absurd H (by simp)
         ·rw [if_neg c19] at H
          have c19b0 : ((rd [(rd_T40 l0_2 x9_1).f0, (rd_T40 l0_2 x9_1).f1, (rd_T40 l0_2 x9_1).f2, (rd_T40 l0_2 x9_1).f3] a1) == (-1)) = false := beq_eq_false_iff_ne.mpr c19
          have c19b1 : ((rd [(rd_T40 l0_2 x9_1).f0, (rd_T40 l0_2 x9_1).f1, (rd_T40 l0_2 x9_1).f2, (rd_T40 l0_2 x9_1).f3] a1) != (-1)) = true := bne_iff_ne.mpr c19
          by_cases c23 : (rd [(rd_T40 l0_2 x9_1).f0, (rd_T40 l0_2 x9_1).f1, (rd_T40 l0_2 x9_1).f2, (rd_T40 l0_2 x9_1).f3] a1) = 1
          ·rw [if_pos c23] at H
           have c23b0 : ((rd [(rd_T40 l0_2 x9_1).f0, (rd_T40 l0_2 x9_1).f1, (rd_T40 l0_2 x9_1).f2, (rd_T40 l0_2 x9_1).f3] a1) == 1) = true := beq_iff_eq.mpr c23
           have c23b1 : ((rd [(rd_T40 l0_2 x9_1).f0, (rd_T40 l0_2 x9_1).f1, (rd_T40 l0_2 x9_1).f2, (rd_T40 l0_2 x9_1).f3] a1) != 1) = false := bne_eq_false_iff_eq.mpr c23
           clear c23
           by_cases c24 : x8_1.length < 17592186044416
           ·rw [if_pos c24] at H
            have LMc24 := Aside0.mk c24
            clear c24
            obtain ⟨y168, hy168⟩ : ∃ y_ : List Int, y_ = (x8_1 ++ [x9_1]) := ⟨_, rfl⟩
            replace H : (spec_PanOf.l0 k1 a1 x7_1 y168 (wrap64 (x9_1 + 1)) a0_0 a0_1 l0_2) = some (r1, r2, r3) := by first | (rw [hy168]; with_reducible exact H) | (have H2_ := (Option.bind_some _ _).symm.trans H; rw [hy168]; with_reducible exact H2_) | (have H2_ := (Option.bind_some _ _).symm.trans H; with_reducible exact H2_) | with_reducible exact H | (rw [hy168]; exact H) | exact H
            have Ny168 := Aside0.mk hy168
            clear hy168
            have H' := Aside0.mk H
            clear H
            have hcz25_0 : wr.cell? ⟨gb143, 0, none⟩ = some (.int .i8 a0_0) := (blk_cell BK143.out 0).trans rfl
            have hcz25_1 : wr.cell? ⟨gb143, 1, none⟩ = some (.int .i8 a0_1) := (blk_cell BK143.out 1).trans rfl
            have hcz25_2 : wr.cell? ⟨gb143, 2, none⟩ = some (.slice A0_2 l0_2.length c0_2) := (blk_cell BK143.out 2).trans rfl
            have hfz25_0 := blk_frozen BK143.out 0
            have hfz25_1 := blk_frozen BK143.out 1
            have hfz25_2 := blk_frozen BK143.out 2
            have p164 : 0 ≤ (x9_1 : Int) := asm_
            have q164 : x9_1 < (l0_2.length : Int) := asm_
            obtain ⟨ad164, e164, hx164_0, hx164_1, hx164_2, hx164_3⟩ := at_T40 HR0_2.out x9_1 p164 q164
            cases e164
            (try replace hx164_0 := (HB.out.cell (World.block_lt_of_cell? w _ hx164_0)).trans hx164_0)
            (try replace hx164_1 := (HB.out.cell (World.block_lt_of_cell? w _ hx164_1)).trans hx164_1)
            (try replace hx164_2 := (HB.out.cell (World.block_lt_of_cell? w _ hx164_2)).trans hx164_2)
            (try replace hx164_3 := (HB.out.cell (World.block_lt_of_cell? w _ hx164_3)).trans hx164_3)
            replace p164 := eq_true p164
            replace q164 := eq_true q164
            have p18 : 0 ≤ (a1 : Int) := asm_
            have q18 : (a1 : Int) < 4 := asm_
            have hx18 : ∀ W_ : World, (W_.cell? (ad164.add ((x9_1).toNat * 4)) = some (.int .i8 ((rd_T40 l0_2 x9_1).f0)) ∧ W_.cell? ⟨(ad164.add ((x9_1).toNat * 4)).block, (ad164.add ((x9_1).toNat * 4)).off + 1, none⟩ = some (.int .i8 ((rd_T40 l0_2 x9_1).f1)) ∧ W_.cell? ⟨(ad164.add ((x9_1).toNat * 4)).block, (ad164.add ((x9_1).toNat * 4)).off + 2, none⟩ = some (.int .i8 ((rd_T40 l0_2 x9_1).f2)) ∧ W_.cell? ⟨(ad164.add ((x9_1).toNat * 4)).block, (ad164.add ((x9_1).toNat * 4)).off + 3, none⟩ = some (.int .i8 ((rd_T40 l0_2 x9_1).f3))) → W_.cell? (Addr.add (ad164.add ((x9_1).toNat * 4)) (a1 : Int).toNat) = some (.int .i8 (rd [(rd_T40 l0_2 x9_1).f0, (rd_T40 l0_2 x9_1).f1, (rd_T40 l0_2 x9_1).f2, (rd_T40 l0_2 x9_1).f3] a1)) := fun W_ ⟨y0_, y1_, y2_, y3_⟩ => ard_at (k := .i8) (l := [(rd_T40 l0_2 x9_1).f0, (rd_T40 l0_2 x9_1).f1, (rd_T40 l0_2 x9_1).f2, (rd_T40 l0_2 x9_1).f3]) (a := (ad164.add ((x9_1).toNat * 4))) (fun n_ x_ h_ => by match n_, h_ with | 0, h_ => (cases h_; exact y0_) | 1, h_ => (cases h_; exact y1_) | 2, h_ => (cases h_; exact y2_) | 3, h_ => (cases h_; exact y3_) | n_ + 4, h_ => simp at h_) p18 q18
            replace hx18 := hx18 _ ⟨hx164_0, hx164_1, hx164_2, hx164_3⟩
            replace p18 := eq_true p18
            replace q18 := eq_true q18
            go_wp2_with (first | ((with_reducible refine gate_builtin (b := .append) (xs := #[.tmp 47, .tmp 49]) rfl ?_); at_builtin; refine Kd.R_append (Kd.int .i64) (w0 := w) w.heap.size rfl (.tmp 47) (.tmp 49) 46 2 (.int .i64 0) 8 rfl Try.underlying46 info2 rfl (by decide) (by omega) u8 x8_1 x9_1 [.int .i64 x9_1] (fun k_ => some k_ ≠ (u7 : Value).ownBlock) (fun _ => False) rfl rfl ?aP (fun _ hk => hk.elim) ?aF ?aO ?aB ?aS ?aL ?_; (case aP => exact rfl); (case aB => exact (bl_ HB)); (case aF => exact (fun k_ hk => Kd.fresh' (Kd.R_lt (pr_ HO_7)) k_ hk)); (case aO => exact (pr_ HO_8)); (case aS => exact (below_size (bl_ HB))); (case aL => have := LMc24.out; omega); intro v169 w26 ho hb hg hat; rw [← Ny168.out] at ho; have n0_ := A_ (Kd.R_after (ok := (fun _ => True)) (by (with_reducible repeat (first | apply Kd.R_alloc | apply Kd.R_drewN | apply Kd.R_drew)); exact Kd.R_mono HO_7.out (fun _ hk => ⟨trivial, hk⟩)) hg hat); have n1_ := A_ (blk_grown (g := gb143) (o := .cells #[.int .i8 a0_0, .int .i8 a0_1, .slice (some ad164) l0_2.length c0_2] 30 (0, 0)) (pl_ BK143) hg (Kd.R_ne HO_8.out BK143.out (by decide))); have n2_ := A_ (hb); have n3_ := A_ (ho); clear HO_7; clear BK143; clear HB; clear HO_8; have HO_7 := n0_; have BK143 := n1_; have HB := n2_; have HO170 := n3_; clear n0_ n1_ n2_ n3_; clear ho hb hg hat))
            go_roundg k1
            case measure => have := HK1.out; omega
            case rel => exact ⟨(x7_1), (y168), (wrap64 (x9_1 + 1)), rs_, H', ⟨by have := HK1.out; omega⟩, ⟨by (with_reducible repeat (first | apply Kd.R_alloc | apply Kd.R_drewN | apply Kd.R_drew)); exact Kd.R_mono HO_7.out (fun _ hk => hk.2)⟩, ⟨pr_ HO170⟩, ⟨pl_ BK143⟩, ⟨bl_ HB⟩⟩
           ·rw [if_neg c24] at H
            exact absurd H (by simp)
          ·rw [if_neg c23] at H
           have c23b0 : ((rd [(rd_T40 l0_2 x9_1).f0, (rd_T40 l0_2 x9_1).f1, (rd_T40 l0_2 x9_1).f2, (rd_T40 l0_2 x9_1).f3] a1) == 1) = false := beq_eq_false_iff_ne.mpr c23
           have c23b1 : ((rd [(rd_T40 l0_2 x9_1).f0, (rd_T40 l0_2 x9_1).f1, (rd_T40 l0_2 x9_1).f2, (rd_T40 l0_2 x9_1).f3] a1) != 1) = true := bne_iff_ne.mpr c23
           have H' := Aside0.mk H
           clear H
           have hcz27_0 : wr.cell? ⟨gb143, 0, none⟩ = some (.int .i8 a0_0) := (blk_cell BK143.out 0).trans rfl
           have hcz27_1 : wr.cell? ⟨gb143, 1, none⟩ = some (.int .i8 a0_1) := (blk_cell BK143.out 1).trans rfl
           have hcz27_2 : wr.cell? ⟨gb143, 2, none⟩ = some (.slice A0_2 l0_2.length c0_2) := (blk_cell BK143.out 2).trans rfl
           have hfz27_0 := blk_frozen BK143.out 0
           have hfz27_1 := blk_frozen BK143.out 1
           have hfz27_2 := blk_frozen BK143.out 2
           have p164 : 0 ≤ (x9_1 : Int) := asm_
           have q164 : x9_1 < (l0_2.length : Int) := asm_
           obtain ⟨ad164, e164, hx164_0, hx164_1, hx164_2, hx164_3⟩ := at_T40 HR0_2.out x9_1 p164 q164
           cases e164
           (try replace hx164_0 := (HB.out.cell (World.block_lt_of_cell? w _ hx164_0)).trans hx164_0)
           (try replace hx164_1 := (HB.out.cell (World.block_lt_of_cell? w _ hx164_1)).trans hx164_1)
           (try replace hx164_2 := (HB.out.cell (World.block_lt_of_cell? w _ hx164_2)).trans hx164_2)
           (try replace hx164_3 := (HB.out.cell (World.block_lt_of_cell? w _ hx164_3)).trans hx164_3)
           replace p164 := eq_true p164
           replace q164 := eq_true q164
           have p18 : 0 ≤ (a1 : Int) := asm_
           have q18 : (a1 : Int) < 4 := asm_
           have hx18 : ∀ W_ : World, (W_.cell? (ad164.add ((x9_1).toNat * 4)) = some (.int .i8 ((rd_T40 l0_2 x9_1).f0)) ∧ W_.cell? ⟨(ad164.add ((x9_1).toNat * 4)).block, (ad164.add ((x9_1).toNat * 4)).off + 1, none⟩ = some (.int .i8 ((rd_T40 l0_2 x9_1).f1)) ∧ W_.cell? ⟨(ad164.add ((x9_1).toNat * 4)).block, (ad164.add ((x9_1).toNat * 4)).off + 2, none⟩ = some (.int .i8 ((rd_T40 l0_2 x9_1).f2)) ∧ W_.cell? ⟨(ad164.add ((x9_1).toNat * 4)).block, (ad164.add ((x9_1).toNat * 4)).off + 3, none⟩ = some (.int .i8 ((rd_T40 l0_2 x9_1).f3))) → W_.cell? (Addr.add (ad164.add ((x9_1).toNat * 4)) (a1 : Int).toNat) = some (.int .i8 (rd [(rd_T40 l0_2 x9_1).f0, (rd_T40 l0_2 x9_1).f1, (rd_T40 l0_2 x9_1).f2, (rd_T40 l0_2 x9_1).f3] a1)) := fun W_ ⟨y0_, y1_, y2_, y3_⟩ => ard_at (k := .i8) (l := [(rd_T40 l0_2 x9_1).f0, (rd_T40 l0_2 x9_1).f1, (rd_T40 l0_2 x9_1).f2, (rd_T40 l0_2 x9_1).f3]) (a := (ad164.add ((x9_1).toNat * 4))) (fun n_ x_ h_ => by match n_, h_ with | 0, h_ => (cases h_; exact y0_) | 1, h_ => (cases h_; exact y1_) | 2, h_ => (cases h_; exact y2_) | 3, h_ => (cases h_; exact y3_) | n_ + 4, h_ => simp at h_) p18 q18
           replace hx18 := hx18 _ ⟨hx164_0, hx164_1, hx164_2, hx164_3⟩
           replace p18 := eq_true p18
           replace q18 := eq_true q18
           go_wp2
           go_roundg k1
           case measure => have := HK1.out; omega
           case rel => exact ⟨(x7_1), (x8_1), (wrap64 (x9_1 + 1)), rs_, H', ⟨by have := HK1.out; omega⟩, ⟨pr_ HO_7⟩, ⟨pr_ HO_8⟩, ⟨pl_ BK143⟩, ⟨bl_ HB⟩⟩
        ·rw [if_neg c17] at H
         exact absurd H (by simp)
       ·rw [if_neg c16] at H
        exact absurd H (by simp)
      ·rw [if_neg c15] at H
       exact absurd H (by simp)
     ·rw [if_neg c14] at H
      have c14b0 : decide (x9_1 < (l0_2.length : Int)) = false := decide_eq_false c14
      clear c14
      simp only [Option.some.injEq, Prod.mk.injEq] at H
      obtain ⟨rfl, rfl, rfl⟩ := H
      have hcz28_0 : wr.cell? ⟨gb143, 0, none⟩ = some (.int .i8 a0_0) := (blk_cell BK143.out 0).trans rfl
      have hcz28_1 : wr.cell? ⟨gb143, 1, none⟩ = some (.int .i8 a0_1) := (blk_cell BK143.out 1).trans rfl
      have hcz28_2 : wr.cell? ⟨gb143, 2, none⟩ = some (.slice A0_2 l0_2.length c0_2) := (blk_cell BK143.out 2).trans rfl
      have hfz28_0 := blk_frozen BK143.out 0
      have hfz28_1 := blk_frozen BK143.out 1
      have hfz28_2 := blk_frozen BK143.out 2
      go_wp2
      go_ret3
      exact ⟨_, _, by first | rfl | (simp [errW_none, errW_some] <;> rfl) | (simp [*, errW_none, errW_some] <;> rfl), pr_ HO_7, pr_ HO_8, bl_ HB⟩
  ·replace c6 := Bool.eq_false_iff.mpr c6
   subst c6
   have H1 : (some ((([] : List Int)), (([] : List Int)), 2)) = some (r1, r2, r3) := by rw [if_neg (show ¬ (false = true) by decide)] at H; exact H
   clear H
   have H := H1
   clear H1
   obtain ⟨y152, hy152⟩ : ∃ y_ : List Int, y_ = (([] : List Int)) := ⟨_, rfl⟩
   replace H : (some (y152, (([] : List Int)), 2)) = some (r1, r2, r3) := by first | (rw [hy152]; with_reducible exact H) | (have H2_ := (Option.bind_some _ _).symm.trans H; rw [hy152]; with_reducible exact H2_) | (have H2_ := (Option.bind_some _ _).symm.trans H; with_reducible exact H2_) | with_reducible exact H | (rw [hy152]; exact H) | exact H
   have Ny152 := Aside0.mk hy152
   clear hy152
   obtain ⟨y155, hy155⟩ : ∃ y_ : List Int, y_ = (([] : List Int)) := ⟨_, rfl⟩
   replace H : (some (y152, y155, 2)) = some (r1, r2, r3) := by first | (rw [hy155]; with_reducible exact H) | (have H2_ := (Option.bind_some _ _).symm.trans H; rw [hy155]; with_reducible exact H2_) | (have H2_ := (Option.bind_some _ _).symm.trans H; with_reducible exact H2_) | with_reducible exact H | (rw [hy155]; exact H) | exact H
   have Ny155 := Aside0.mk hy155
   clear hy155
   simp only [Option.some.injEq, Prod.mk.injEq] at H
   obtain ⟨rfl, rfl, rfl⟩ := H
   go_enter Try.func25, Try.ntmps25
   go_wp2_with (first | ((with_reducible refine gate_dst (N := 2) rfl ?_); refine box_event ?hg (N := 2) ?hd (cs := #[.int .i8 a0_0, .int .i8 a0_1, .slice A0_2 l0_2.length c0_2]) (t := 30) ?hr ?_; (case hd => rfl); (case hg => rfl); (case hr => first | (go_simp; done) | (go_simp; rfl)); intro gb143 hg w29 hbox hb; have n0_ := A_ (below_step (bl_ HB) hb); have n1_ := A_ (hbox); have n2_ := A_ ((by rw [hg]; exact (below_size (bl_ HB)) : w.heap.size ≤ gb143)); have n3_ := n2_; clear HB; have HB := n0_; have BK143 := n1_; have GW143 := n2_; have GE143 := n3_; clear n0_ n1_ n2_ n3_; clear hb hbox hg) | ((with_reducible refine gate_callee (f := 34) rfl ?_); refine goesL_ (some 10) rfl rfl Try.func34 (by kernel_rfl) rfl #[.pointer (some ⟨gb143, 0, none⟩)] rfl arg_ ?_; (with_reducible refine (spec_l04Ok.calls k gb143 a0_0 a0_1 A0_2 c0_2 l0_2 true _ ?side1 ?side2 ?side3 A3.out).mono ?_); (case side1 => exact (pl_ BK143)); (case side2 => repeat (first | exact (Kd.C_below HR0_2.out HB.out) | (with_reducible refine Kd.C_alloc ?_ _) | (with_reducible refine Kd.C_drewN ?_ _) | (with_reducible refine Kd.C_drew ?_))); (case side3 => exact HC0_2.out); rintro e w30 ⟨rfl, hb⟩; refine ⟨_, rfl, ?_⟩; have n0_ := A_ (blk_below (g := gb143) (o := .cells #[.int .i8 a0_0, .int .i8 a0_1, .slice A0_2 l0_2.length c0_2] 30 (0, 0)) (pl_ BK143) hb); have n1_ := A_ (below_step (bl_ HB) hb); clear BK143; clear HB; have BK143 := n0_; have HB := n1_; clear n0_ n1_; (try clear hb); (try clear hb2); (try clear hk); (try clear hi); have hcz31_0 : w30.cell? ⟨gb143, 0, none⟩ = some (.int .i8 a0_0) := (blk_cell BK143.out 0).trans rfl; have hcz31_1 : w30.cell? ⟨gb143, 1, none⟩ = some (.int .i8 a0_1) := (blk_cell BK143.out 1).trans rfl; have hcz31_2 : w30.cell? ⟨gb143, 2, none⟩ = some (.slice A0_2 l0_2.length c0_2) := (blk_cell BK143.out 2).trans rfl; have hfz31_0 := blk_frozen BK143.out 0; have hfz31_1 := blk_frozen BK143.out 1; have hfz31_2 := blk_frozen BK143.out 2) | ((with_reducible refine gate_callee (f := 49) rfl ?_); refine goesL_ (some 19) rfl rfl Try.func49 (by kernel_rfl) rfl #[.int .i64 a1, .int .i64 0, .int .i64 (wrap64 ((wrap64 (a0_0)) - 1))] rfl arg_ ?_; (with_reducible refine (spec_l00In.calls a1 0 (wrap64 ((wrap64 (a0_0)) - 1)) false _ A5.out).mono ?_); rintro e w' ⟨rfl, ⟨nd, rfl⟩⟩; refine ⟨_, rfl, ?_⟩) | ((with_reducible refine gate_dst (N := 21) rfl ?_); refine Kd.R_lit (Kd.int .i64) _ 2 ?hg (N := 21) ?hd (xs := ([] : List Int)) (inner := []) (ok := fun _ => True) (okp := fun _ => True) ?hr ?hp (fun _ hk => hk) trivial (Below.refl _ _) (Nat.le_refl _) (by simp) ?_; (case hd => rfl); (case hg => rfl); (case hr => first | (go_simp; done) | (go_simp; rfl)); (case hp => exact (Reps.none _ _)); intro v153 w32 ho33 hb hg_ hnew_; clear hg_ hnew_; (first | rw [← Ny152.out] at ho33 | (simp only [Int.reduceToNat] at ho33; rw [← Ny152.out] at ho33)); have n0_ := A_ (Kd.R_lower ho33 (below_size (bl_ HB))); have n1_ := A_ (blk_below (g := gb143) (o := .cells #[.int .i8 a0_0, .int .i8 a0_1, .slice A0_2 l0_2.length c0_2] 30 (0, 0)) (pl_ BK143) hb); have n2_ := A_ (below_step (bl_ HB) hb); clear BK143; clear HB; have HO154 := n0_; have BK143 := n1_; have HB := n2_; clear n0_ n1_ n2_; clear hb ho33) | ((with_reducible refine gate_dst (N := 22) rfl ?_); refine Kd.R_lit (Kd.int .i64) _ 2 ?hg (N := 22) ?hd (xs := ([] : List Int)) (inner := []) (ok := fun _ => True) (okp := fun _ => True) ?hr ?hp (fun _ hk => hk) trivial (Below.refl _ _) (Nat.le_refl _) (by simp) ?_; (case hd => rfl); (case hg => rfl); (case hr => first | (go_simp; done) | (go_simp; rfl)); (case hp => exact (Reps.none _ _)); intro v156 w34 ho35 hb hg_ hnew_; clear hg_ hnew_; (first | rw [← Ny155.out] at ho35 | (simp only [Int.reduceToNat] at ho35; rw [← Ny155.out] at ho35)); have n0_ := A_ (Kd.R_elder' (pr_ HO154) (Kd.R_base ho35) hb); have n1_ := A_ (Kd.R_lower (Kd.R_new' ho35 (Kd.R_lt (pr_ HO154))) (below_size (bl_ HB))); have n2_ := A_ (blk_below (g := gb143) (o := .cells #[.int .i8 a0_0, .int .i8 a0_1, .slice A0_2 l0_2.length c0_2] 30 (0, 0)) (pl_ BK143) hb); have n3_ := A_ (below_step (bl_ HB) hb); clear HO154; clear BK143; clear HB; have HO154 := n0_; have HO157 := n1_; have BK143 := n2_; have HB := n3_; clear n0_ n1_ n2_ n3_; clear hb ho35))
   go_ret3
   exact ⟨_, _, by first | rfl | (simp [errW_none, errW_some] <;> rfl) | (simp [*, errW_none, errW_some] <;> rfl), by (with_reducible repeat (first | apply Kd.R_alloc | apply Kd.R_drewN | apply Kd.R_drew)); exact Kd.R_mono HO154.out (fun _ hk => hk.2), by (with_reducible repeat (first | apply Kd.R_alloc | apply Kd.R_drewN | apply Kd.R_drew)); exact Kd.R_mono HO157.out (fun _ hk => hk.2), bl_ HB⟩
 ·replace c4 := Bool.eq_false_iff.mpr c4
  subst c4
  have H1 : (some ((([] : List Int)), (([] : List Int)), 1)) = some (r1, r2, r3) := by rw [if_neg (show ¬ (false = true) by decide)] at H; exact H
  clear H
  have H := H1
  clear H1
  obtain ⟨y145, hy145⟩ : ∃ y_ : List Int, y_ = (([] : List Int)) := ⟨_, rfl⟩
  replace H : (some (y145, (([] : List Int)), 1)) = some (r1, r2, r3) := by first | (rw [hy145]; with_reducible exact H) | (have H2_ := (Option.bind_some _ _).symm.trans H; rw [hy145]; with_reducible exact H2_) | (have H2_ := (Option.bind_some _ _).symm.trans H; with_reducible exact H2_) | with_reducible exact H | (rw [hy145]; exact H) | exact H
  have Ny145 := Aside0.mk hy145
  clear hy145
  obtain ⟨y148, hy148⟩ : ∃ y_ : List Int, y_ = (([] : List Int)) := ⟨_, rfl⟩
  replace H : (some (y145, y148, 1)) = some (r1, r2, r3) := by first | (rw [hy148]; with_reducible exact H) | (have H2_ := (Option.bind_some _ _).symm.trans H; rw [hy148]; with_reducible exact H2_) | (have H2_ := (Option.bind_some _ _).symm.trans H; with_reducible exact H2_) | with_reducible exact H | (rw [hy148]; exact H) | exact H
  have Ny148 := Aside0.mk hy148
  clear hy148
  simp only [Option.some.injEq, Prod.mk.injEq] at H
  obtain ⟨rfl, rfl, rfl⟩ := H
  go_enter Try.func25, Try.ntmps25
  go_wp2_with (first | ((with_reducible refine gate_dst (N := 2) rfl ?_); refine box_event ?hg (N := 2) ?hd (cs := #[.int .i8 a0_0, .int .i8 a0_1, .slice A0_2 l0_2.length c0_2]) (t := 30) ?hr ?_; (case hd => rfl); (case hg => rfl); (case hr => first | (go_simp; done) | (go_simp; rfl)); intro gb143 hg w36 hbox hb; have n0_ := A_ (below_step (bl_ HB) hb); have n1_ := A_ (hbox); have n2_ := A_ ((by rw [hg]; exact (below_size (bl_ HB)) : w.heap.size ≤ gb143)); have n3_ := n2_; clear HB; have HB := n0_; have BK143 := n1_; have GW143 := n2_; have GE143 := n3_; clear n0_ n1_ n2_ n3_; clear hb hbox hg) | ((with_reducible refine gate_callee (f := 34) rfl ?_); refine goesL_ (some 10) rfl rfl Try.func34 (by kernel_rfl) rfl #[.pointer (some ⟨gb143, 0, none⟩)] rfl arg_ ?_; (with_reducible refine (spec_l04Ok.calls k gb143 a0_0 a0_1 A0_2 c0_2 l0_2 false _ ?side1 ?side2 ?side3 A3.out).mono ?_); (case side1 => exact (pl_ BK143)); (case side2 => repeat (first | exact (Kd.C_below HR0_2.out HB.out) | (with_reducible refine Kd.C_alloc ?_ _) | (with_reducible refine Kd.C_drewN ?_ _) | (with_reducible refine Kd.C_drew ?_))); (case side3 => exact HC0_2.out); rintro e w37 ⟨rfl, hb⟩; refine ⟨_, rfl, ?_⟩; have n0_ := A_ (blk_below (g := gb143) (o := .cells #[.int .i8 a0_0, .int .i8 a0_1, .slice A0_2 l0_2.length c0_2] 30 (0, 0)) (pl_ BK143) hb); have n1_ := A_ (below_step (bl_ HB) hb); clear BK143; clear HB; have BK143 := n0_; have HB := n1_; clear n0_ n1_; (try clear hb); (try clear hb2); (try clear hk); (try clear hi)) | ((with_reducible refine gate_dst (N := 12) rfl ?_); refine Kd.R_lit (Kd.int .i64) _ 2 ?hg (N := 12) ?hd (xs := ([] : List Int)) (inner := []) (ok := fun _ => True) (okp := fun _ => True) ?hr ?hp (fun _ hk => hk) trivial (Below.refl _ _) (Nat.le_refl _) (by simp) ?_; (case hd => rfl); (case hg => rfl); (case hr => first | (go_simp; done) | (go_simp; rfl)); (case hp => exact (Reps.none _ _)); intro v146 w38 ho39 hb hg_ hnew_; clear hg_ hnew_; (first | rw [← Ny145.out] at ho39 | (simp only [Int.reduceToNat] at ho39; rw [← Ny145.out] at ho39)); have n0_ := A_ (Kd.R_lower ho39 (below_size (bl_ HB))); have n1_ := A_ (blk_below (g := gb143) (o := .cells #[.int .i8 a0_0, .int .i8 a0_1, .slice A0_2 l0_2.length c0_2] 30 (0, 0)) (pl_ BK143) hb); have n2_ := A_ (below_step (bl_ HB) hb); clear BK143; clear HB; have HO147 := n0_; have BK143 := n1_; have HB := n2_; clear n0_ n1_ n2_; clear hb ho39) | ((with_reducible refine gate_dst (N := 13) rfl ?_); refine Kd.R_lit (Kd.int .i64) _ 2 ?hg (N := 13) ?hd (xs := ([] : List Int)) (inner := []) (ok := fun _ => True) (okp := fun _ => True) ?hr ?hp (fun _ hk => hk) trivial (Below.refl _ _) (Nat.le_refl _) (by simp) ?_; (case hd => rfl); (case hg => rfl); (case hr => first | (go_simp; done) | (go_simp; rfl)); (case hp => exact (Reps.none _ _)); intro v149 w40 ho41 hb hg_ hnew_; clear hg_ hnew_; (first | rw [← Ny148.out] at ho41 | (simp only [Int.reduceToNat] at ho41; rw [← Ny148.out] at ho41)); have n0_ := A_ (Kd.R_elder' (pr_ HO147) (Kd.R_base ho41) hb); have n1_ := A_ (Kd.R_lower (Kd.R_new' ho41 (Kd.R_lt (pr_ HO147))) (below_size (bl_ HB))); have n2_ := A_ (blk_below (g := gb143) (o := .cells #[.int .i8 a0_0, .int .i8 a0_1, .slice A0_2 l0_2.length c0_2] 30 (0, 0)) (pl_ BK143) hb); have n3_ := A_ (below_step (bl_ HB) hb); clear HO147; clear BK143; clear HB; have HO147 := n0_; have HO150 := n1_; have BK143 := n2_; have HB := n3_; clear n0_ n1_ n2_ n3_; clear hb ho41))
  go_ret3
  exact ⟨_, _, by first | rfl | (simp [errW_none, errW_some] <;> rfl) | (simp [*, errW_none, errW_some] <;> rfl), by (with_reducible repeat (first | apply Kd.R_alloc | apply Kd.R_drewN | apply Kd.R_drew)); exact Kd.R_mono HO147.out (fun _ hk => hk.2), by (with_reducible repeat (first | apply Kd.R_alloc | apply Kd.R_drewN | apply Kd.R_drew)); exact Kd.R_mono HO150.out (fun _ hk => hk.2), bl_ HB⟩

end Go.Proofs.Ytonifpgaagdohaa.M
