-- By this seat's own program over the kit's printer (arrays, functions told by hand); nothing of it is trusted: the kernel checks it.
import Derived.Test.YtodmfjophjhbeaaMx0
import Derived.Test.YtodmfjophjhbeaaMx8
namespace Go.Proofs.Ytodmfjophjhbeaa.M
open Go.RowKit Go.Proofs.YtodmfjophjhbeaaW.PrintWords Go.Proofs.YtodmfjophjhbeaaW.PrintLast Go.Proofs.YtodmfjophjhbeaaW.PrintMore
attribute [local go_sem] max2_int min2_int max_two min_two max_three min_three max_four min_four   -- for this text's walks alone
set_option linter.unusedVariables false
set_option linter.unusedSimpArgs false

/-! ### spec_l01Gcd: function 75 -/
def spec_l01Gcd.f : Nat → Int → Int → Option (Int)
 | 0, _, _ => none
 | k + 1, a0, a1 => if a1 = 0 then (some a0) else ((spec_l01Gcd.f k a1 (Int.tmod a0 a1)).bind fun t138 => (some t138))
theorem spec_l01Gcd.mono_l : ∀ k, (∀ y0 y1, LeO (spec_l01Gcd.f k y0 y1) (spec_l01Gcd.f (k + 1) y0 y1))
 | 0 => fun _ _ r h => by simp [spec_l01Gcd.f] at h
 | k + 1 => by
  have ih0 := spec_l01Gcd.mono_l k
  ·intro y0 y1
   unfold spec_l01Gcd.f
   repeat' first
   | (with_reducible exact ih0 _ _)
   | (with_reducible exact LeO.refl _)
   | (with_reducible exact LeO.none _)
   | (with_reducible refine LeO.ite ?_ ?_)
   | (with_reducible refine LeO.bind ?_ (fun _ => ?_))
   | exact ih0 _ _
   | exact LeO.none _
   | refine LeO.ite ?_ ?_
   | refine LeO.bind ?_ (fun _ => ?_)
theorem spec_l01Gcd.mono : ∀ a0 a1 k, LeO (spec_l01Gcd.f k a0 a1) (spec_l01Gcd.f (k + 1) a0 a1) := by
 intro a0 a1 k
 have ih0 := spec_l01Gcd.mono_l k
 exact ih0 a0 a1
set_option maxHeartbeats 8000000 in
set_option maxRecDepth 100000 in
theorem spec_l01Gcd.calls (k : Nat) : ∀ (a0 : Int) (a1 : Int) (r : Int) (w : World) (h : spec_l01Gcd.f k a0 a1 = some r),
  Calls Try.prog 75 #[.int .i64 a0, .int .i64 a1] w fun e w' => e = .returned (.int .i64 r) ∧ Drawn0 w w' := by
 induction k using Nat.strongRecOn with
 | _ k ih =>
 intro a0 a1 r w h
 cases k with
 | zero => exact absurd h (by simp [spec_l01Gcd.f])
 | succ k =>
 simp only [spec_l01Gcd.f] at h
 have H : (if a1 = 0 then (some a0) else ((spec_l01Gcd.f k a1 (Int.tmod a0 a1)).bind fun t138 => (some t138))) = some r := h
 clear h
 by_cases c3 : a1 = 0
 ·rw [if_pos c3] at H
  have c3b0 : (a1 == 0) = true := beq_iff_eq.mpr c3
  have c3b1 : (a1 != 0) = false := bne_eq_false_iff_eq.mpr c3
  clear c3
  obtain rfl := Option.some.inj H
  go_enter Try.func75, Try.ntmps75
  go_wp2
  go_ret
  exact ⟨by first | rfl | (simp; done) | (simp [*]; done), by repeat (first | exact Drawn0.refl _ | apply Drawn0.step)⟩
 ·rw [if_neg c3] at H
  have c3b0 : (a1 == 0) = false := beq_eq_false_iff_ne.mpr c3
  have c3b1 : (a1 != 0) = true := bne_iff_ne.mpr c3
  replace H := Option.bind_eq_some_iff.mp H
  obtain ⟨t138, A40, H⟩ := H
  replace H : (some t138) = some r := H
  have A4 := Aside0.mk A40
  clear A40
  obtain rfl := Option.some.inj H
  go_enter Try.func75, Try.ntmps75
  go_wp2_with (first | ((with_reducible refine gate_callee (f := 75) rfl ?_); refine goesL_ (some 12) rfl rfl Try.func75 (by kernel_rfl) rfl #[.int .i64 a1, .int .i64 (Int.tmod a0 a1)] rfl arg_ ?_; (with_reducible refine (ih k (by omega) a1 (Int.tmod a0 a1) t138 _ A4.out).mono ?_); rintro e w' ⟨rfl, ⟨nd, rfl⟩⟩; refine ⟨_, rfl, ?_⟩))
  go_ret
  exact ⟨by first | rfl | (simp; done) | (simp [*]; done), by repeat (first | exact Drawn0.refl _ | apply Drawn0.step)⟩

/-! ### spec_StepOfJugs: function 30 -/
def spec_StepOfJugs.l0 : Nat → Int → Int → List Int → Int → Int → Int → Int → Bool → Option (Int × Int)
 | 0, _, _, _, _, _, _, _, _ => none
 | k + 1, x4, x5, x140000, x140001, x140002, x140003, x140004, x140005 => if x5 < (x140000.length : Int) then (if 0 ≤ x5 then ((spec_l01Gcd.f k x4 (wrap64 (rd x140000 x5))).bind fun t142 => (if x5 < 4 then ((spec_l01Gcd.f k t142 (wrap64 (rd [x140001, x140002, x140003, x140004] x5))).bind fun t143 => (spec_StepOfJugs.l0 k t143 (wrap64 (x5 + 1)) x140000 x140001 x140002 x140003 x140004 x140005)) else (none))) else (none)) else (some (x4, 0))
def spec_StepOfJugs.f (k : Nat) (l0_0 : List Int) (a0_1 : Int) (a0_2 : Int) (a0_3 : Int) (a0_4 : Int) (a0_5 : Bool) : Option (Int × Int) := (spec_l02Ok.f k l0_0 a0_1 a0_2 a0_3 a0_4 a0_5).bind fun t140 => (if t140 = true then (spec_StepOfJugs.l0 k 0 0 l0_0 a0_1 a0_2 a0_3 a0_4 a0_5) else (some (0, 1)))
theorem spec_StepOfJugs.mono_l : ∀ k, (∀ y0 y1 y2 y3 y4 y5 y6 y7, LeO (spec_StepOfJugs.l0 k y0 y1 y2 y3 y4 y5 y6 y7) (spec_StepOfJugs.l0 (k + 1) y0 y1 y2 y3 y4 y5 y6 y7))
 | 0 => fun _ _ _ _ _ _ _ _ r h => by simp [spec_StepOfJugs.l0] at h
 | k + 1 => by
  have ih0 := spec_StepOfJugs.mono_l k
  ·intro y0 y1 y2 y3 y4 y5 y6 y7
   unfold spec_StepOfJugs.l0
   repeat' first
   | (with_reducible exact ih0 _ _ _ _ _ _ _ _)
   | (with_reducible exact spec_l01Gcd.mono _ _ _)
   | (with_reducible exact spec_l02Ok.mono _ _ _ _ _ _ _)
   | (with_reducible exact LeO.refl _)
   | (with_reducible exact LeO.none _)
   | (with_reducible refine LeO.ite ?_ ?_)
   | (with_reducible refine LeO.bind ?_ (fun _ => ?_))
   | exact ih0 _ _ _ _ _ _ _ _
   | exact spec_l01Gcd.mono _ _ _
   | exact spec_l02Ok.mono _ _ _ _ _ _ _
   | exact LeO.none _
   | refine LeO.ite ?_ ?_
   | refine LeO.bind ?_ (fun _ => ?_)
theorem spec_StepOfJugs.mono : ∀ a0 a1 a2 a3 a4 a5 k, LeO (spec_StepOfJugs.f k a0 a1 a2 a3 a4 a5) (spec_StepOfJugs.f (k + 1) a0 a1 a2 a3 a4 a5) := by
 intro a0 a1 a2 a3 a4 a5 k
 have ih0 := spec_StepOfJugs.mono_l k
 unfold spec_StepOfJugs.f
 repeat' first
   | (with_reducible exact ih0 _ _ _ _ _ _ _ _)
   | (with_reducible exact spec_l01Gcd.mono _ _ _)
   | (with_reducible exact spec_l02Ok.mono _ _ _ _ _ _ _)
   | (with_reducible exact LeO.refl _)
   | (with_reducible exact LeO.none _)
   | (with_reducible refine LeO.ite ?_ ?_)
   | (with_reducible refine LeO.bind ?_ (fun _ => ?_))
   | exact ih0 _ _ _ _ _ _ _ _
   | exact spec_l01Gcd.mono _ _ _
   | exact spec_l02Ok.mono _ _ _ _ _ _ _
   | exact LeO.none _
   | refine LeO.ite ?_ ?_
   | refine LeO.bind ?_ (fun _ => ?_)
set_option maxHeartbeats 8000000 in
set_option maxRecDepth 100000 in
theorem spec_StepOfJugs.calls (k : Nat) (A0_0 : Option Addr) (c0_0 : Nat) (l0_0 : List Int) (a0_1 : Int) (a0_2 : Int) (a0_3 : Int) (a0_4 : Int) (a0_5 : Bool) (r1 : Int) (r2 : Int) (w : World) (hr0_0 : Kd.C (Kd.int .i16) w A0_0 l0_0.length l0_0) (hc0_0 : l0_0.length ≤ c0_0) (h : spec_StepOfJugs.f k l0_0 a0_1 a0_2 a0_3 a0_4 a0_5 = some (r1, r2)) :
  Calls Try.prog 30 #[.agg #[.slice A0_0 l0_0.length c0_0, .int .i16 a0_1, .int .i16 a0_2, .int .i16 a0_3, .int .i16 a0_4, .bool a0_5]] w fun e w' => e = .returned (.tuple #[.int .i64 r1, .int .i64 r2]) ∧ Below w.heap.size w w' := by
 have hu32 := Try.underlying32
 have HR0_0 := Aside0.mk hr0_0
 have HC0_0 := Aside0.mk hc0_0
 clear hr0_0 hc0_0
 have HB := A_ (Below.refl w.heap.size w)
 have H : ((spec_l02Ok.f k l0_0 a0_1 a0_2 a0_3 a0_4 a0_5).bind fun t140 => (if t140 = true then (spec_StepOfJugs.l0 k 0 0 l0_0 a0_1 a0_2 a0_3 a0_4 a0_5) else (some (0, 1)))) = some (r1, r2) := h
 clear h
 replace H := Option.bind_eq_some_iff.mp H
 obtain ⟨t140, A20, H⟩ := H
 replace H : (if t140 = true then (spec_StepOfJugs.l0 k 0 0 l0_0 a0_1 a0_2 a0_3 a0_4 a0_5) else (some (0, 1))) = some (r1, r2) := H
 have A2 := Aside0.mk A20
 clear A20
 by_cases c3 : t140 = true
 ·subst c3
  have H1 : (spec_StepOfJugs.l0 k 0 0 l0_0 a0_1 a0_2 a0_3 a0_4 a0_5) = some (r1, r2) := by rw [if_pos rfl] at H; exact H
  clear H
  have H := H1
  clear H1
  have H' := Aside0.mk H
  clear H
  go_enter Try.func30, Try.ntmps30
  go_wp2_with (first | ((with_reducible refine gate_dst (N := 1) rfl ?_); refine box_event ?hg (N := 1) ?hd (cs := #[.slice A0_0 l0_0.length c0_0, .int .i16 a0_1, .int .i16 a0_2, .int .i16 a0_3, .int .i16 a0_4, .bool a0_5]) (t := 32) ?hr ?_; (case hd => rfl); (case hg => rfl); (case hr => first | (go_simp; done) | (go_simp; rfl)); intro gb139 hg w4 hbox hb; have n0_ := A_ (below_step (bl_ HB) hb); have n1_ := A_ (hbox); have n2_ := A_ ((by rw [hg]; exact (below_size (bl_ HB)) : w.heap.size ≤ gb139)); have n3_ := n2_; clear HB; have HB := n0_; have BK139 := n1_; have GW139 := n2_; have GE139 := n3_; clear n0_ n1_ n2_ n3_; clear hb hbox hg) | ((with_reducible refine gate_callee (f := 68) rfl ?_); refine goesL_ (some 6) rfl rfl Try.func68 (by kernel_rfl) rfl #[.pointer (some ⟨gb139, 0, none⟩)] rfl arg_ ?_; (with_reducible refine (spec_l02Ok.calls k gb139 A0_0 c0_0 l0_0 a0_1 a0_2 a0_3 a0_4 a0_5 true _ ?side1 ?side2 ?side3 A2.out).mono ?_); (case side1 => exact (pl_ BK139)); (case side2 => repeat (first | exact (Kd.C_below HR0_0.out HB.out) | (with_reducible refine Kd.C_alloc ?_ _) | (with_reducible refine Kd.C_drewN ?_ _) | (with_reducible refine Kd.C_drew ?_))); (case side3 => exact HC0_0.out); rintro e w5 ⟨rfl, hb⟩; refine ⟨_, rfl, ?_⟩; have n0_ := A_ (blk_below (pl_ BK139) hb); have n1_ := A_ (below_step (bl_ HB) hb); clear BK139; clear HB; have BK139 := n0_; have HB := n1_; clear n0_ n1_; (try clear hb); (try clear hb2); (try clear hk); (try clear hi)))
  go_loopg [4, 5] k (fun kq v4 v5 w' => ∃ (x4_1 : Int) (x5_1 : Int), v4 = .int .i64 x4_1 ∧ v5 = .int .i64 x5_1 ∧ Aside0 (spec_StepOfJugs.l0 kq x4_1 x5_1 l0_0 a0_1 a0_2 a0_3 a0_4 a0_5 = some (r1, r2)) ∧ Aside0 (kq ≤ k) ∧ Aside0 (w'.heap[gb139]? = some (.cells #[(.slice A0_0 l0_0.length c0_0), .int .i16 a0_1, .int .i16 a0_2, .int .i16 a0_3, .int .i16 a0_4, .bool a0_5] 32 (0, 0))) ∧ Aside0 (Below w.heap.size w w'))
  case atStart => exact ⟨(0), (0), rs_, rs_, H', ⟨Nat.le_refl _⟩, ⟨pl_ BK139⟩, ⟨bl_ HB⟩⟩
  case round =>
   clear H'
   try clear p2
   try clear c3
   obtain ⟨x4_1, x5_1, rfl, rfl, HA, HK1, BK139, HB⟩ := hrel
   cases gk with
   | zero => exact absurd HA.out (by simp [spec_StepOfJugs.l0])
   | succ k1 =>
    have H := HA.out
    clear HA
    simp only [spec_StepOfJugs.l0] at H
    by_cases c6 : x5_1 < (l0_0.length : Int)
    ·rw [if_pos c6] at H
     have c6b0 : decide (x5_1 < (l0_0.length : Int)) = true := decide_eq_true c6
     clear c6
     by_cases c7 : 0 ≤ x5_1
     ·rw [if_pos c7] at H
      have c7b0 : decide (0 ≤ x5_1) = true := decide_eq_true c7
      clear c7
      replace H := Option.bind_eq_some_iff.mp H
      obtain ⟨t142, A80, H⟩ := H
      replace H : (if x5_1 < 4 then ((spec_l01Gcd.f k1 t142 (wrap64 (rd [a0_1, a0_2, a0_3, a0_4] x5_1))).bind fun t143 => (spec_StepOfJugs.l0 k1 t143 (wrap64 (x5_1 + 1)) l0_0 a0_1 a0_2 a0_3 a0_4 a0_5)) else (none)) = some (r1, r2) := H
      have A8 := Aside0.mk A80
      clear A80
      by_cases c9 : x5_1 < 4
      ·rw [if_pos c9] at H
       have c9b0 : decide (x5_1 < 4) = true := decide_eq_true c9
       clear c9
       replace H := Option.bind_eq_some_iff.mp H
       obtain ⟨t143, A110, H⟩ := H
       replace H : (spec_StepOfJugs.l0 k1 t143 (wrap64 (x5_1 + 1)) l0_0 a0_1 a0_2 a0_3 a0_4 a0_5) = some (r1, r2) := H
       have A11 := Aside0.mk A110
       clear A110
       have H' := Aside0.mk H
       clear H
       have hcz12_0 : wr.cell? ⟨gb139, 0, none⟩ = some (.slice A0_0 l0_0.length c0_0) := (blk_cell BK139.out 0).trans rfl
       have hcz12_1 : wr.cell? ⟨gb139, 1, none⟩ = some (.int .i16 a0_1) := (blk_cell BK139.out 1).trans rfl
       have hcz12_2 : wr.cell? ⟨gb139, 2, none⟩ = some (.int .i16 a0_2) := (blk_cell BK139.out 2).trans rfl
       have hcz12_3 : wr.cell? ⟨gb139, 3, none⟩ = some (.int .i16 a0_3) := (blk_cell BK139.out 3).trans rfl
       have hcz12_4 : wr.cell? ⟨gb139, 4, none⟩ = some (.int .i16 a0_4) := (blk_cell BK139.out 4).trans rfl
       have hcz12_5 : wr.cell? ⟨gb139, 5, none⟩ = some (.bool a0_5) := (blk_cell BK139.out 5).trans rfl
       have hfz12_0 := blk_frozen BK139.out 0
       have hfz12_1 := blk_frozen BK139.out 1
       have hfz12_2 := blk_frozen BK139.out 2
       have hfz12_3 := blk_frozen BK139.out 3
       have hfz12_4 := blk_frozen BK139.out 4
       have hfz12_5 := blk_frozen BK139.out 5
       have p141 : 0 ≤ (x5_1 : Int) := asm_
       have q141 : x5_1 < (l0_0.length : Int) := asm_
       obtain ⟨ad141, e141, hx141_0⟩ := Kd.at_int HR0_0.out x5_1 p141 q141
       cases e141
       (try replace hx141_0 := (HB.out.cell (World.block_lt_of_cell? w _ hx141_0)).trans hx141_0)
       replace p141 := eq_true p141
       replace q141 := eq_true q141
       have p10 : 0 ≤ (x5_1 : Int) := asm_
       have q10 : (x5_1 : Int) < 4 := asm_
       have hx10 : wr.cell? ⟨gb139, 1 + (x5_1 : Int).toNat, none⟩ = some (.int .i16 (rd [a0_1, a0_2, a0_3, a0_4] x5_1)) := ard_in (k := .i16) (l := [a0_1, a0_2, a0_3, a0_4]) (o := 1) BK139.out rfl p10 q10
       have hf10 := blk_frozen BK139.out (1 + (x5_1 : Int).toNat)
       have P10 := Aside0.mk p10
       have Q10 := Aside0.mk q10
       replace p10 := eq_true p10
       replace q10 := eq_true q10
       go_wp2_with (first | ((with_reducible refine gate_callee (f := 75) rfl ?_); refine goesL_ (some 22) rfl rfl Try.func75 (by kernel_rfl) rfl #[.int .i64 x4_1, .int .i64 (wrap64 (rd l0_0 x5_1))] rfl arg_ ?_; (with_reducible refine (spec_l01Gcd.calls k1 x4_1 (wrap64 (rd l0_0 x5_1)) t142 _ A8.out).mono ?_); rintro e w' ⟨rfl, ⟨nd, rfl⟩⟩; refine ⟨_, rfl, ?_⟩) | ((with_reducible refine gate_callee (f := 75) rfl ?_); refine goesL_ (some 29) rfl rfl Try.func75 (by kernel_rfl) rfl #[.int .i64 t142, .int .i64 (wrap64 (rd [a0_1, a0_2, a0_3, a0_4] x5_1))] rfl arg_ ?_; (with_reducible refine (spec_l01Gcd.calls k1 t142 (wrap64 (rd [a0_1, a0_2, a0_3, a0_4] x5_1)) t143 _ A11.out).mono ?_); rintro e w' ⟨rfl, ⟨nd, rfl⟩⟩; refine ⟨_, rfl, ?_⟩))
       go_roundg k1
       case measure => have := HK1.out; omega
       case rel => exact ⟨(t143), (wrap64 (x5_1 + 1)), rs_, rs_, H', ⟨by have := HK1.out; omega⟩, ⟨pl_ BK139⟩, ⟨bl_ HB⟩⟩
      ·rw [if_neg c9] at H
       exact absurd H (by simp)
     ·rw [if_neg c7] at H
      exact absurd H (by simp)
    ·rw [if_neg c6] at H
     have c6b0 : decide (x5_1 < (l0_0.length : Int)) = false := decide_eq_false c6
     clear c6
     simp only [Option.some.injEq, Prod.mk.injEq] at H
     obtain ⟨rfl, rfl⟩ := H
     have hcz13_0 : wr.cell? ⟨gb139, 0, none⟩ = some (.slice A0_0 l0_0.length c0_0) := (blk_cell BK139.out 0).trans rfl
     have hcz13_1 : wr.cell? ⟨gb139, 1, none⟩ = some (.int .i16 a0_1) := (blk_cell BK139.out 1).trans rfl
     have hcz13_2 : wr.cell? ⟨gb139, 2, none⟩ = some (.int .i16 a0_2) := (blk_cell BK139.out 2).trans rfl
     have hcz13_3 : wr.cell? ⟨gb139, 3, none⟩ = some (.int .i16 a0_3) := (blk_cell BK139.out 3).trans rfl
     have hcz13_4 : wr.cell? ⟨gb139, 4, none⟩ = some (.int .i16 a0_4) := (blk_cell BK139.out 4).trans rfl
     have hcz13_5 : wr.cell? ⟨gb139, 5, none⟩ = some (.bool a0_5) := (blk_cell BK139.out 5).trans rfl
     have hfz13_0 := blk_frozen BK139.out 0
     have hfz13_1 := blk_frozen BK139.out 1
     have hfz13_2 := blk_frozen BK139.out 2
     have hfz13_3 := blk_frozen BK139.out 3
     have hfz13_4 := blk_frozen BK139.out 4
     have hfz13_5 := blk_frozen BK139.out 5
     go_wp2
     go_ret2
     exact ⟨by first | rfl | (simp [errW_none, errW_some] <;> rfl) | (simp [*, errW_none, errW_some] <;> rfl), bl_ HB⟩
 ·replace c3 := Bool.eq_false_iff.mpr c3
  subst c3
  have H1 : (some (0, 1)) = some (r1, r2) := by rw [if_neg (show ¬ (false = true) by decide)] at H; exact H
  clear H
  have H := H1
  clear H1
  simp only [Option.some.injEq, Prod.mk.injEq] at H
  obtain ⟨rfl, rfl⟩ := H
  go_enter Try.func30, Try.ntmps30
  go_wp2_with (first | ((with_reducible refine gate_dst (N := 1) rfl ?_); refine box_event ?hg (N := 1) ?hd (cs := #[.slice A0_0 l0_0.length c0_0, .int .i16 a0_1, .int .i16 a0_2, .int .i16 a0_3, .int .i16 a0_4, .bool a0_5]) (t := 32) ?hr ?_; (case hd => rfl); (case hg => rfl); (case hr => first | (go_simp; done) | (go_simp; rfl)); intro gb139 hg w14 hbox hb; have n0_ := A_ (below_step (bl_ HB) hb); have n1_ := A_ (hbox); have n2_ := A_ ((by rw [hg]; exact (below_size (bl_ HB)) : w.heap.size ≤ gb139)); have n3_ := n2_; clear HB; have HB := n0_; have BK139 := n1_; have GW139 := n2_; have GE139 := n3_; clear n0_ n1_ n2_ n3_; clear hb hbox hg) | ((with_reducible refine gate_callee (f := 68) rfl ?_); refine goesL_ (some 6) rfl rfl Try.func68 (by kernel_rfl) rfl #[.pointer (some ⟨gb139, 0, none⟩)] rfl arg_ ?_; (with_reducible refine (spec_l02Ok.calls k gb139 A0_0 c0_0 l0_0 a0_1 a0_2 a0_3 a0_4 a0_5 false _ ?side1 ?side2 ?side3 A2.out).mono ?_); (case side1 => exact (pl_ BK139)); (case side2 => repeat (first | exact (Kd.C_below HR0_0.out HB.out) | (with_reducible refine Kd.C_alloc ?_ _) | (with_reducible refine Kd.C_drewN ?_ _) | (with_reducible refine Kd.C_drew ?_))); (case side3 => exact HC0_0.out); rintro e w15 ⟨rfl, hb⟩; refine ⟨_, rfl, ?_⟩; have n0_ := A_ (blk_below (pl_ BK139) hb); have n1_ := A_ (below_step (bl_ HB) hb); clear BK139; clear HB; have BK139 := n0_; have HB := n1_; clear n0_ n1_; (try clear hb); (try clear hb2); (try clear hk); (try clear hi)))
  go_ret2
  exact ⟨by first | rfl | (simp [errW_none, errW_some] <;> rfl) | (simp [*, errW_none, errW_some] <;> rfl), bl_ HB⟩

end Go.Proofs.Ytodmfjophjhbeaa.M
