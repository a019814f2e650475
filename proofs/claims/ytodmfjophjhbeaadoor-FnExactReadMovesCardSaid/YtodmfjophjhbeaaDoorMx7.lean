-- By this seat's own program over the kit's printer (arrays, functions told by hand); nothing of it is trusted: the kernel checks it.
import Derived.Test.YtodmfjophjhbeaaDoorMx0
import Derived.Test.YtodmfjophjhbeaaDoorMx6
import Derived.Test.YtodmfjophjhbeaaDoorHSplit
namespace Go.Proofs.YtodmfjophjhbeaaDoor.M
open Go.RowKit Go.Proofs.YtodmfjophjhbeaaDoorW.PrintWords Go.Proofs.YtodmfjophjhbeaaDoorW.PrintLast Go.Proofs.YtodmfjophjhbeaaDoorW.PrintMore
attribute [local go_sem] max2_int min2_int max_two min_two max_three min_three max_four min_four   -- for this text's walks alone
set_option linter.unusedVariables false
set_option linter.unusedSimpArgs false

/-! ### impl_ReadMoves: function 11 -/
def impl_ReadMoves.l0 : Nat → List (S56) → List ByteArray → Int → Int → Option ((List (S56)) × Int)
 | 0, _, _, _, _ => none
 | k + 1, x4, x14, x15, x16 => if x16 < x15 then (if 0 ≤ x16 then (if x16 < (x14.length : Int) then ((impl_readMove.f k (rdOf ByteArray.empty x14 x16)).bind fun bt163 => (if bt163.2.2.2 = true then (if (x4.length : Int) = 200 then (some (([] : List (S56)), 5)) else (if x4.length < 46912496118442 then (impl_ReadMoves.l0 k (x4 ++ [(⟨bt163.1, bt163.2.1, bt163.2.2.1⟩ : S56)]) x14 x15 (wrap64 (x16 + 1))) else (none))) else (some (([] : List (S56)), 5)))) else (none)) else (none)) else (some (x4, 0))
def impl_ReadMoves.f (k : Nat) (a0 : ByteArray) : Option ((List (S56)) × Int) := (some (([] : List (S56)) : List (S56))).bind fun y156 => (if a0.toList = ([] : List UInt8) then (some (y156, 0)) else ((strings_Split.f a0 (⟨#[32]⟩ : ByteArray)).bind fun t159 => (impl_ReadMoves.l0 k y156 t159 (t159.length : Int) 0)))
theorem impl_ReadMoves.mono_l : ∀ k, (∀ y0 y1 y2 y3, LeO (impl_ReadMoves.l0 k y0 y1 y2 y3) (impl_ReadMoves.l0 (k + 1) y0 y1 y2 y3))
 | 0 => fun _ _ _ _ r h => by simp [impl_ReadMoves.l0] at h
 | k + 1 => by
  have ih0 := impl_ReadMoves.mono_l k
  ·intro y0 y1 y2 y3
   unfold impl_ReadMoves.l0
   repeat' first
   | (with_reducible exact ih0 _ _ _ _)
   | (with_reducible exact impl_readMove.mono _ _)
   | (with_reducible exact LeO.refl _)
   | (with_reducible exact LeO.none _)
   | (with_reducible refine LeO.ite ?_ ?_)
   | (with_reducible refine LeO.bind ?_ (fun _ => ?_))
   | exact ih0 _ _ _ _
   | exact impl_readMove.mono _ _
   | exact LeO.none _
   | refine LeO.ite ?_ ?_
   | refine LeO.bind ?_ (fun _ => ?_)
theorem impl_ReadMoves.mono : ∀ a0 k, LeO (impl_ReadMoves.f k a0) (impl_ReadMoves.f (k + 1) a0) := by
 intro a0 k
 have ih0 := impl_ReadMoves.mono_l k
 unfold impl_ReadMoves.f
 repeat' first
   | (with_reducible exact ih0 _ _ _ _)
   | (with_reducible exact impl_readMove.mono _ _)
   | (with_reducible exact LeO.refl _)
   | (with_reducible exact LeO.none _)
   | (with_reducible refine LeO.ite ?_ ?_)
   | (with_reducible refine LeO.bind ?_ (fun _ => ?_))
   | exact ih0 _ _ _ _
   | exact impl_readMove.mono _ _
   | exact LeO.none _
   | refine LeO.ite ?_ ?_
   | refine LeO.bind ?_ (fun _ => ?_)
set_option maxHeartbeats 8000000 in
set_option maxRecDepth 100000 in
theorem impl_ReadMoves.calls (k : Nat) (a0 : ByteArray) (r1 : List (S56)) (r2 : Int) (w : World) (hM : HasM w) (h : impl_ReadMoves.f k a0 = some (r1, r2)) :
  Calls Tryd.prog 11 #[.string a0] w fun e w' => ∃ v0_ : Value, e = .returned (.tuple #[v0_, .int .i64 r2]) ∧ Kd.R k56 56 w' w.heap.size (fun _ => True) v0_ r1 ∧ Below w.heap.size w w' := by
 have hu56 := Tryd.underlying56
 have HB := A_ (Below.refl w.heap.size w)
 have H : ((some (([] : List (S56)) : List (S56))).bind fun y156 => (if a0.toList = ([] : List UInt8) then (some (y156, 0)) else ((strings_Split.f a0 (⟨#[32]⟩ : ByteArray)).bind fun t159 => (impl_ReadMoves.l0 k y156 t159 (t159.length : Int) 0)))) = some (r1, r2) := h
 clear h
 obtain ⟨y156, hy156⟩ : ∃ y_ : List (S56), y_ = (([] : List (S56))) := ⟨_, rfl⟩
 replace H : (if a0.toList = ([] : List UInt8) then (some (y156, 0)) else ((strings_Split.f a0 (⟨#[32]⟩ : ByteArray)).bind fun t159 => (impl_ReadMoves.l0 k y156 t159 (t159.length : Int) 0))) = some (r1, r2) := by first | (rw [hy156]; with_reducible exact H) | (have H2_ := (Option.bind_some _ _).symm.trans H; rw [hy156]; with_reducible exact H2_) | (have H2_ := (Option.bind_some _ _).symm.trans H; with_reducible exact H2_) | with_reducible exact H | (rw [hy156]; exact H) | exact H
 have Ny156 := Aside0.mk hy156
 clear hy156
 by_cases c2 : a0.toList = ([] : List UInt8)
 ·rw [if_pos c2] at H
  have c2b0 : (a0.toList == ([] : List UInt8)) = true := beq_iff_eq.mpr c2
  have c2b1 : (a0.toList != ([] : List UInt8)) = false := bne_eq_false_iff_eq.mpr c2
  clear c2
  simp only [Option.some.injEq, Prod.mk.injEq] at H
  obtain ⟨rfl, rfl⟩ := H
  go_enter Tryd.func11, Tryd.ntmps11
  go_wp2_with (first | ((with_reducible refine gate_dst (N := 9) rfl ?_); refine Kd.R_lit k56 _ 56 ?hg (N := 9) ?hd (xs := ([] : List (S56))) (inner := []) (ok := fun _ => True) (okp := fun _ => True) ?hr ?hp (fun _ hk => hk) trivial (Below.refl _ _) (Nat.le_refl _) (by simp) ?_; (case hd => rfl); (case hg => rfl); (case hr => first | (go_simp; done) | (go_simp; rfl)); (case hp => exact (Reps.none _ _)); intro v157 w3 ho4 hb hg_ hnew_; clear hg_ hnew_; (first | rw [← Ny156.out] at ho4 | (simp only [Int.reduceToNat] at ho4; rw [← Ny156.out] at ho4)); have n0_ := A_ (Kd.R_lower ho4 (below_size (bl_ HB))); have n1_ := A_ (below_step (bl_ HB) hb); clear HB; have HO158 := n0_; have HB := n1_; clear n0_ n1_; clear hb ho4))
  go_ret2
  exact ⟨_, by first | rfl | (simp [errW_none, errW_some] <;> rfl) | (simp [*, errW_none, errW_some] <;> rfl), pr_ HO158, bl_ HB⟩
 ·rw [if_neg c2] at H
  have c2b0 : (a0.toList == ([] : List UInt8)) = false := beq_eq_false_iff_ne.mpr c2
  have c2b1 : (a0.toList != ([] : List UInt8)) = true := bne_iff_ne.mpr c2
  replace H := Option.bind_eq_some_iff.mp H
  obtain ⟨t159, A50, H⟩ := H
  replace H : (impl_ReadMoves.l0 k y156 t159 (t159.length : Int) 0) = some (r1, r2) := H
  have A5 := Aside0.mk A50
  clear A50
  have H' := Aside0.mk H
  clear H
  go_enter Tryd.func11, Tryd.ntmps11
  go_wp2_with (first | ((with_reducible refine gate_dst (N := 9) rfl ?_); refine Kd.R_lit k56 _ 56 ?hg (N := 9) ?hd (xs := ([] : List (S56))) (inner := []) (ok := fun _ => True) (okp := fun _ => True) ?hr ?hp (fun _ hk => hk) trivial (Below.refl _ _) (Nat.le_refl _) (by simp) ?_; (case hd => rfl); (case hg => rfl); (case hr => first | (go_simp; done) | (go_simp; rfl)); (case hp => exact (Reps.none _ _)); intro v157 w6 ho7 hb hg_ hnew_; clear hg_ hnew_; (first | rw [← Ny156.out] at ho7 | (simp only [Int.reduceToNat] at ho7; rw [← Ny156.out] at ho7)); have n0_ := A_ (Kd.R_lower ho7 (below_size (bl_ HB))); have n1_ := A_ (below_step (bl_ HB) hb); clear HB; have HO158 := n0_; have HB := n1_; clear n0_ n1_; clear hb ho7) | ((with_reducible refine gate_callee (f := 28) rfl ?_); refine goesL_ (some 14) rfl rfl Tryd.func28 (by kernel_rfl) rfl #[.string a0, .string (⟨#[32]⟩ : ByteArray)] rfl arg_ ?_; (with_reducible refine (strings_Split.calls a0 (⟨#[32]⟩ : ByteArray) t159 _ ?sideM A5.out).mono ?_); (case sideM => exact hM.below (bl_ HB)); rintro e w8 ⟨v160, rfl, ho0, hb⟩; refine ⟨_, rfl, ?_⟩; have n0_ := A_ (Kd.R_below (pr_ HO158) hb); have n1_ := A_ (Kd.R_lower ho0 (below_size (bl_ HB))); have n2_ := A_ (below_step (bl_ HB) hb); clear HO158; clear HB; have HO158 := n0_; have HO161 := n1_; have HB := n2_; clear n0_ n1_ n2_; (try clear hb); (try clear hb2); (try clear hk); (try clear hi); (try clear ho0); obtain ⟨Ao9, co9, eo9⟩ := Kd.R_slice HO161.out; subst eo9))
  go_loopg [4, 16] k (fun kq v4 v16 w' => ∃ (x4_1 : List (S56)) (x16_1 : Int), v16 = .int .i64 x16_1 ∧ Aside0 (impl_ReadMoves.l0 kq x4_1 t159 (t159.length : Int) x16_1 = some (r1, r2)) ∧ Aside0 (kq ≤ k) ∧ Aside0 (Kd.R k56 56 w' w.heap.size (fun _ => True) v4 x4_1) ∧ Aside0 (Kd.R Kd.string 9 w' w.heap.size (fun _ => True) (.slice Ao9 t159.length co9) t159) ∧ Aside0 (Below w.heap.size w w'))
  case atStart => exact ⟨(y156), (0), rs_, H', ⟨Nat.le_refl _⟩, ⟨pr_ HO158⟩, ⟨pr_ HO161⟩, ⟨bl_ HB⟩⟩
  case round =>
   clear H'
   try clear c1
   try clear c2
   try clear c2b0
   try clear c2b1
   try clear p2
   obtain ⟨x4_1, x16_1, rfl, HA, HK1, HO_4, HO_14, HB⟩ := hrel
   cases gk with
   | zero => exact absurd HA.out (by simp [impl_ReadMoves.l0])
   | succ k1 =>
    have H := HA.out
    clear HA
    simp only [impl_ReadMoves.l0] at H
    by_cases c10 : x16_1 < (t159.length : Int)
    ·rw [if_pos c10] at H
     have c10b0 : decide (x16_1 < (t159.length : Int)) = true := decide_eq_true c10
     clear c10
     by_cases c11 : 0 ≤ x16_1
     ·rw [if_pos c11] at H
      have c11b0 : decide (0 ≤ x16_1) = true := decide_eq_true c11
      clear c11
      by_cases c12 : x16_1 < (t159.length : Int)
      ·rw [if_pos c12] at H
       have c12b0 : decide (x16_1 < (t159.length : Int)) = true := decide_eq_true c12
       clear c12
       replace H := Option.bind_eq_some_iff.mp H
       obtain ⟨⟨t163, t164, t165, t166⟩, A130, H⟩ := H
       replace H : (if t166 = true then (if (x4_1.length : Int) = 200 then (some (([] : List (S56)), 5)) else (if x4_1.length < 46912496118442 then (impl_ReadMoves.l0 k1 (x4_1 ++ [(⟨t163, t164, t165⟩ : S56)]) t159 (t159.length : Int) (wrap64 (x16_1 + 1))) else (none))) else (some (([] : List (S56)), 5))) = some (r1, r2) := H
       have A13 := Aside0.mk A130
       clear A130
       by_cases c14 : t166 = true
       ·subst c14
        have H1 : (if (x4_1.length : Int) = 200 then (some (([] : List (S56)), 5)) else (if x4_1.length < 46912496118442 then (impl_ReadMoves.l0 k1 (x4_1 ++ [(⟨t163, t164, t165⟩ : S56)]) t159 (t159.length : Int) (wrap64 (x16_1 + 1))) else (none))) = some (r1, r2) := by rw [if_pos rfl] at H; exact H
        clear H
        have H := H1
        clear H1
        by_cases c15 : (x4_1.length : Int) = 200
        ·rw [if_pos c15] at H
         have c15b0 : ((x4_1.length : Int) == 200) = true := beq_iff_eq.mpr c15
         have c15b1 : ((x4_1.length : Int) != 200) = false := bne_eq_false_iff_eq.mpr c15
         clear c15
         simp only [Option.some.injEq, Prod.mk.injEq] at H
         obtain ⟨rfl, rfl⟩ := H
         have p162 : 0 ≤ (x16_1 : Int) := asm_
         have q162 : x16_1 < (t159.length : Int) := asm_
         obtain ⟨ad162, e162, hx162_0⟩ := Kd.at_string (Kd.R_reads' HO_14.out).2.2 x16_1 p162 q162
         cases e162
         replace p162 := eq_true p162
         replace q162 := eq_true q162
         go_wp2_with (first | ((with_reducible refine gate_callee (f := 29) rfl ?_); refine goesL_ (some 22) rfl rfl Tryd.func29 (by kernel_rfl) rfl #[.string (rdOf ByteArray.empty t159 x16_1)] rfl arg_ ?_; (with_reducible refine (impl_readMove.calls k1 (rdOf ByteArray.empty t159 x16_1) t163 t164 t165 true _ A13.out).mono ?_); rintro e w16 ⟨rfl, hb⟩; refine ⟨_, rfl, ?_⟩; have n0_ := A_ (Kd.R_below (pr_ HO_4) hb); have n1_ := A_ (Kd.R_below (pr_ HO_14) hb); have n2_ := A_ (below_step (bl_ HB) hb); clear HO_4; clear HO_14; clear HB; have HO_4 := n0_; have HO_14 := n1_; have HB := n2_; clear n0_ n1_ n2_; (try clear hb); (try clear hb2); (try clear hk); (try clear hi)) | ((with_reducible refine gate_dst (N := 7) rfl ?_); refine box_event ?hg (N := 7) ?hd (cs := #[.int .i8 0, .int .i8 0, .int .i8 0]) (t := 56) ?hr ?_; (case hd => rfl); (case hg => rfl); (case hr => first | (go_simp; done) | (go_simp; rfl)); intro gb167 hg w17 hbox hb; have n0_ := A_ (Kd.R_below (Kd.R_elderB (pr_ HO_4) gb167 (Nat.le_of_eq hg.symm)) hb); have n1_ := A_ (Kd.R_below (pr_ HO_14) hb); have n2_ := A_ (below_step (bl_ HB) hb); have n3_ := A_ (hbox); have n4_ := A_ ((by rw [hg]; exact (below_size (bl_ HB)) : w.heap.size ≤ gb167)); have n5_ := n4_; clear HO_4; clear HO_14; clear HB; have HO_4 := n0_; have HO_14 := n1_; have HB := n2_; have BK167 := n3_; have GW167 := n4_; have GE167 := n5_; clear n0_ n1_ n2_ n3_ n4_ n5_; clear hb hbox hg; obtain ⟨hcz18_0, hcz18_1, hcz18_2, hfz18_0, hfz18_1, hfz18_2⟩ := cl3_ BK167; obtain ⟨Ao19, co19, eo19⟩ := Kd.R_slice HO_4.out; subst eo19))
         go_ret2
         exact ⟨_, by first | rfl | (simp [errW_none, errW_some] <;> rfl) | (simp [*, errW_none, errW_some] <;> rfl), by first | exact Kd.R_nil _ _ _ _ _ | exact Kd.N_nil _ _ _ _ _ | exact Kd.V_nil _ _ _ _ _ | exact Kd.Q_nil _ _ _ _ _ | exact Kd.S_nil _ _ _ _ _, bs_ HB GE167⟩
        ·rw [if_neg c15] at H
         have c15b0 : ((x4_1.length : Int) == 200) = false := beq_eq_false_iff_ne.mpr c15
         have c15b1 : ((x4_1.length : Int) != 200) = true := bne_iff_ne.mpr c15
         by_cases c20 : x4_1.length < 46912496118442
         ·rw [if_pos c20] at H
          have LMc20 := Aside0.mk c20
          clear c20
          obtain ⟨y168, hy168⟩ : ∃ y_ : List (S56), y_ = (x4_1 ++ [(⟨t163, t164, t165⟩ : S56)]) := ⟨_, rfl⟩
          replace H : (impl_ReadMoves.l0 k1 y168 t159 (t159.length : Int) (wrap64 (x16_1 + 1))) = some (r1, r2) := by first | (rw [hy168]; with_reducible exact H) | (have H2_ := (Option.bind_some _ _).symm.trans H; rw [hy168]; with_reducible exact H2_) | (have H2_ := (Option.bind_some _ _).symm.trans H; with_reducible exact H2_) | with_reducible exact H | (rw [hy168]; exact H) | exact H
          have Ny168 := Aside0.mk hy168
          clear hy168
          have H' := Aside0.mk H
          clear H
          have p162 : 0 ≤ (x16_1 : Int) := asm_
          have q162 : x16_1 < (t159.length : Int) := asm_
          obtain ⟨ad162, e162, hx162_0⟩ := Kd.at_string (Kd.R_reads' HO_14.out).2.2 x16_1 p162 q162
          cases e162
          replace p162 := eq_true p162
          replace q162 := eq_true q162
          go_wp2_with (first | ((with_reducible refine gate_callee (f := 29) rfl ?_); refine goesL_ (some 22) rfl rfl Tryd.func29 (by kernel_rfl) rfl #[.string (rdOf ByteArray.empty t159 x16_1)] rfl arg_ ?_; (with_reducible refine (impl_readMove.calls k1 (rdOf ByteArray.empty t159 x16_1) t163 t164 t165 true _ A13.out).mono ?_); rintro e w21 ⟨rfl, hb⟩; refine ⟨_, rfl, ?_⟩; have n0_ := A_ (Kd.R_below (pr_ HO_4) hb); have n1_ := A_ (Kd.R_below (pr_ HO_14) hb); have n2_ := A_ (below_step (bl_ HB) hb); clear HO_4; clear HO_14; clear HB; have HO_4 := n0_; have HO_14 := n1_; have HB := n2_; clear n0_ n1_ n2_; (try clear hb); (try clear hb2); (try clear hk); (try clear hi)) | ((with_reducible refine gate_dst (N := 7) rfl ?_); refine box_event ?hg (N := 7) ?hd (cs := #[.int .i8 0, .int .i8 0, .int .i8 0]) (t := 56) ?hr ?_; (case hd => rfl); (case hg => rfl); (case hr => first | (go_simp; done) | (go_simp; rfl)); intro gb167 hg w22 hbox hb; have n0_ := A_ (Kd.R_below (Kd.R_elderB (pr_ HO_4) gb167 (Nat.le_of_eq hg.symm)) hb); have n1_ := A_ (Kd.R_below (pr_ HO_14) hb); have n2_ := A_ (below_step (bl_ HB) hb); have n3_ := A_ (hbox); have n4_ := A_ ((by rw [hg]; exact (below_size (bl_ HB)) : w.heap.size ≤ gb167)); have n5_ := n4_; clear HO_4; clear HO_14; clear HB; have HO_4 := n0_; have HO_14 := n1_; have HB := n2_; have BK167 := n3_; have GW167 := n4_; have GE167 := n5_; clear n0_ n1_ n2_ n3_ n4_ n5_; clear hb hbox hg; obtain ⟨hcz23_0, hcz23_1, hcz23_2, hfz23_0, hfz23_1, hfz23_2⟩ := cl3_ BK167; obtain ⟨Ao24, co24, eo24⟩ := Kd.R_slice HO_4.out; subst eo24) | ((with_reducible refine gate_builtin (b := .append) (xs := #[.tmp 32, .tmp 34]) rfl ?_); at_builtin; refine Kd.R_append k56 (w0 := w) w.heap.size rfl (.tmp 32) (.tmp 34) 35 56 (.agg #[(.int .i8 0), (.int .i8 0), (.int .i8 0)]) 3 rfl Tryd.underlying35 info56 rfl (by decide) (by omega) (.slice Ao24 x4_1.length co24) x4_1 (⟨t163, t164, t165⟩ : S56) [.int .i8 t163, .int .i8 t164, .int .i8 t165] (fun k_ => k_ ≠ gb167) (fun _ => False) rfl (by first | (go_simp; done) | (go_simp; rfl)) ?aP (fun _ hk => hk.elim) ?aF ?aO ?aB ?aS ?aL ?_; (case aP => exact k56_mkM _ _ _ (⟨t163, t164, t165⟩ : S56)); (case aB => exact (bs_ HB GE167)); (case aF => exact (fun k_ hk => Kd.freshB (g := gb167) (o := .cells #[.int .i8 t163, .int .i8 t164, .int .i8 t165] 56 (0, 0)) (by (with_reducible repeat (first | refine blk_drewN ?_ _ | refine blk_drew ?_ | refine blk_alloc ?_ _)); refine blk_put (cs := #[.int .i8 t163, .int .i8 t164, .int .i8 0]) ?_ 2 _ rfl; (with_reducible repeat (first | refine blk_drewN ?_ _ | refine blk_drew ?_ | refine blk_alloc ?_ _)); refine blk_put (cs := #[.int .i8 t163, .int .i8 0, .int .i8 0]) ?_ 1 _ rfl; (with_reducible repeat (first | refine blk_drewN ?_ _ | refine blk_drew ?_ | refine blk_alloc ?_ _)); refine blk_put (cs := #[.int .i8 0, .int .i8 0, .int .i8 0]) ?_ 0 _ rfl; (with_reducible repeat (first | refine blk_drewN ?_ _ | refine blk_drew ?_ | refine blk_alloc ?_ _)); exact BK167.out) k_ hk)); (case aO => exact (by (with_reducible repeat (first | apply Kd.R_alloc | apply Kd.R_drewN | apply Kd.R_drew)); exact Kd.R_mono (Kd.R_far (p := ⟨gb167, 2, none⟩) (Kd.R_far (p := ⟨gb167, 1, none⟩) (Kd.R_far (p := ⟨gb167, 0, none⟩) (Kd.R_mono HO_4.out (fun k_ hk => (⟨hk, hk.2⟩ : _ ∧ k_ ≠ gb167))) (fun _ hk => hk.2) (.int .i8 t163)) (fun _ hk => hk.2) (.int .i8 t164)) (fun _ hk => hk.2) (.int .i8 t165)) (fun _ hk => hk.1.2))); (case aS => exact (below_size (bs_ HB GE167))); (case aL => have := LMc20.out; omega); intro v169 w25 ho hb hg hat; rw [← Ny168.out] at ho; have n0_ := A_ (Kd.R_over' (by (with_reducible repeat (first | apply Kd.R_alloc | apply Kd.R_drewN | apply Kd.R_drew)); exact (rf3_ HO_14 BK167 (by decide))) (Kd.R_typed (by (with_reducible repeat (first | apply Kd.R_alloc | apply Kd.R_drewN | apply Kd.R_drew)); exact (Kd.R_mono (Kd.R_far (p := ⟨gb167, 2, none⟩) (Kd.R_far (p := ⟨gb167, 1, none⟩) (Kd.R_far (p := ⟨gb167, 0, none⟩) (Kd.R_mono HO_4.out (fun k_ hk => (⟨hk, hk.2⟩ : _ ∧ k_ ≠ gb167))) (fun _ hk => hk.2) (.int .i8 t163)) (fun _ hk => hk.2) (.int .i8 t164)) (fun _ hk => hk.2) (.int .i8 t165)) (fun _ h_ => h_.1)))) (by decide) hg); have n1_ := A_ (blk_grown (g := gb167) (o := .cells #[.int .i8 t163, .int .i8 t164, .int .i8 t165] 56 (0, 0)) (by (with_reducible repeat (first | refine blk_drewN ?_ _ | refine blk_drew ?_ | refine blk_alloc ?_ _)); refine blk_put (cs := #[.int .i8 t163, .int .i8 t164, .int .i8 0]) ?_ 2 _ rfl; (with_reducible repeat (first | refine blk_drewN ?_ _ | refine blk_drew ?_ | refine blk_alloc ?_ _)); refine blk_put (cs := #[.int .i8 t163, .int .i8 0, .int .i8 0]) ?_ 1 _ rfl; (with_reducible repeat (first | refine blk_drewN ?_ _ | refine blk_drew ?_ | refine blk_alloc ?_ _)); refine blk_put (cs := #[.int .i8 0, .int .i8 0, .int .i8 0]) ?_ 0 _ rfl; (with_reducible repeat (first | refine blk_drewN ?_ _ | refine blk_drew ?_ | refine blk_alloc ?_ _)); exact BK167.out) hg (Kd.R_away HO_4.out (fun _ hk => hk.2))); have n2_ := A_ (hb); have n3_ := A_ (ho); clear HO_14; clear BK167; clear HB; clear HO_4; have HO_14 := n0_; have BK167 := n1_; have HB := n2_; have HO170 := n3_; clear n0_ n1_ n2_ n3_; clear ho hb hg hat))
          go_roundg k1
          case measure => have := HK1.out; omega
          case rel => exact ⟨(y168), (wrap64 (x16_1 + 1)), rs_, H', ⟨by have := HK1.out; omega⟩, ⟨by (with_reducible repeat (first | apply Kd.R_alloc | apply Kd.R_drewN | apply Kd.R_drew)); exact Kd.R_mono HO170.out (fun _ hk => trivial)⟩, ⟨pr_ HO_14⟩, ⟨bl_ HB⟩⟩
         ·rw [if_neg c20] at H
          exact absurd H (by simp)
       ·replace c14 := Bool.eq_false_iff.mpr c14
        subst c14
        have H1 : (some (([] : List (S56)), 5)) = some (r1, r2) := by rw [if_neg (show ¬ (false = true) by decide)] at H; exact H
        clear H
        have H := H1
        clear H1
        simp only [Option.some.injEq, Prod.mk.injEq] at H
        obtain ⟨rfl, rfl⟩ := H
        have p162 : 0 ≤ (x16_1 : Int) := asm_
        have q162 : x16_1 < (t159.length : Int) := asm_
        obtain ⟨ad162, e162, hx162_0⟩ := Kd.at_string (Kd.R_reads' HO_14.out).2.2 x16_1 p162 q162
        cases e162
        replace p162 := eq_true p162
        replace q162 := eq_true q162
        go_wp2_with (first | ((with_reducible refine gate_callee (f := 29) rfl ?_); refine goesL_ (some 22) rfl rfl Tryd.func29 (by kernel_rfl) rfl #[.string (rdOf ByteArray.empty t159 x16_1)] rfl arg_ ?_; (with_reducible refine (impl_readMove.calls k1 (rdOf ByteArray.empty t159 x16_1) t163 t164 t165 false _ A13.out).mono ?_); rintro e w26 ⟨rfl, hb⟩; refine ⟨_, rfl, ?_⟩; have n0_ := A_ (Kd.R_below (pr_ HO_4) hb); have n1_ := A_ (Kd.R_below (pr_ HO_14) hb); have n2_ := A_ (below_step (bl_ HB) hb); clear HO_4; clear HO_14; clear HB; have HO_4 := n0_; have HO_14 := n1_; have HB := n2_; clear n0_ n1_ n2_; (try clear hb); (try clear hb2); (try clear hk); (try clear hi)) | ((with_reducible refine gate_dst (N := 7) rfl ?_); refine box_event ?hg (N := 7) ?hd (cs := #[.int .i8 0, .int .i8 0, .int .i8 0]) (t := 56) ?hr ?_; (case hd => rfl); (case hg => rfl); (case hr => first | (go_simp; done) | (go_simp; rfl)); intro gb167 hg w27 hbox hb; have n0_ := A_ (Kd.R_below (Kd.R_elderB (pr_ HO_4) gb167 (Nat.le_of_eq hg.symm)) hb); have n1_ := A_ (Kd.R_below (pr_ HO_14) hb); have n2_ := A_ (below_step (bl_ HB) hb); have n3_ := A_ (hbox); have n4_ := A_ ((by rw [hg]; exact (below_size (bl_ HB)) : w.heap.size ≤ gb167)); have n5_ := n4_; clear HO_4; clear HO_14; clear HB; have HO_4 := n0_; have HO_14 := n1_; have HB := n2_; have BK167 := n3_; have GW167 := n4_; have GE167 := n5_; clear n0_ n1_ n2_ n3_ n4_ n5_; clear hb hbox hg; obtain ⟨hcz28_0, hcz28_1, hcz28_2, hfz28_0, hfz28_1, hfz28_2⟩ := cl3_ BK167))
        go_ret2
        exact ⟨_, by first | rfl | (simp [errW_none, errW_some] <;> rfl) | (simp [*, errW_none, errW_some] <;> rfl), by first | exact Kd.R_nil _ _ _ _ _ | exact Kd.N_nil _ _ _ _ _ | exact Kd.V_nil _ _ _ _ _ | exact Kd.Q_nil _ _ _ _ _ | exact Kd.S_nil _ _ _ _ _, bs_ HB GE167⟩
      ·rw [if_neg c12] at H
       exact absurd H (by simp)
     ·rw [if_neg c11] at H
      exact absurd H (by simp)
    ·rw [if_neg c10] at H
     have c10b0 : decide (x16_1 < (t159.length : Int)) = false := decide_eq_false c10
     clear c10
     simp only [Option.some.injEq, Prod.mk.injEq] at H
     obtain ⟨rfl, rfl⟩ := H
     go_wp2
     go_ret2
     exact ⟨_, by first | rfl | (simp [errW_none, errW_some] <;> rfl) | (simp [*, errW_none, errW_some] <;> rfl), pr_ HO_4, bl_ HB⟩

/-! ### laws_eqMove: function 30 -/
def laws_eqMove.f (a0_0 : Int) (a0_1 : Int) (a0_2 : Int) (a1_0 : Int) (a1_1 : Int) (a1_2 : Int) : Option (Bool) := if a0_0 = a1_0 then (if a0_1 = a1_1 then (if a0_2 = a1_2 then (some true) else (some false)) else (some false)) else (some false)
set_option maxHeartbeats 8000000 in
set_option maxRecDepth 100000 in
theorem laws_eqMove.calls (a0_0 : Int) (a0_1 : Int) (a0_2 : Int) (a1_0 : Int) (a1_1 : Int) (a1_2 : Int) (r : Bool) (w : World) (h : laws_eqMove.f a0_0 a0_1 a0_2 a1_0 a1_1 a1_2 = some r) :
  Calls Tryd.prog 30 #[.agg #[.int .i8 a0_0, .int .i8 a0_1, .int .i8 a0_2], .agg #[.int .i8 a1_0, .int .i8 a1_1, .int .i8 a1_2]] w fun e w' => e = .returned (.bool r) ∧ Below w.heap.size w w' := by
 have hu56 := Tryd.underlying56
 have HB := A_ (Below.refl w.heap.size w)
 have H : (if a0_0 = a1_0 then (if a0_1 = a1_1 then (if a0_2 = a1_2 then (some true) else (some false)) else (some false)) else (some false)) = some r := h
 clear h
 by_cases c3 : a0_0 = a1_0
 ·rw [if_pos c3] at H
  have c3b0 : (a0_0 == a1_0) = true := beq_iff_eq.mpr c3
  have c3b1 : (a0_0 != a1_0) = false := bne_eq_false_iff_eq.mpr c3
  clear c3
  by_cases c4 : a0_1 = a1_1
  ·rw [if_pos c4] at H
   have c4b0 : (a0_1 == a1_1) = true := beq_iff_eq.mpr c4
   have c4b1 : (a0_1 != a1_1) = false := bne_eq_false_iff_eq.mpr c4
   clear c4
   by_cases c5 : a0_2 = a1_2
   ·rw [if_pos c5] at H
    have c5b0 : (a0_2 == a1_2) = true := beq_iff_eq.mpr c5
    have c5b1 : (a0_2 != a1_2) = false := bne_eq_false_iff_eq.mpr c5
    clear c5
    obtain rfl := Option.some.inj H
    go_enter Tryd.func30, Tryd.ntmps30
    go_wp2_with (first | ((with_reducible refine gate_dst (N := 2) rfl ?_); refine box_event ?hg (N := 2) ?hd (cs := #[.int .i8 a0_0, .int .i8 a0_1, .int .i8 a0_2]) (t := 56) ?hr ?_; (case hd => rfl); (case hg => rfl); (case hr => first | (go_simp; done) | (go_simp; rfl)); intro gb171 hg w6 hbox hb; have n0_ := A_ (below_step (bl_ HB) hb); have n1_ := A_ (hbox); have n2_ := A_ ((by rw [hg]; exact (below_size (bl_ HB)) : w.heap.size ≤ gb171)); have n3_ := n2_; clear HB; have HB := n0_; have BK171 := n1_; have GW171 := n2_; have GE171 := n3_; clear n0_ n1_ n2_ n3_; clear hb hbox hg) | ((with_reducible refine gate_dst (N := 3) rfl ?_); refine box_event ?hg (N := 3) ?hd (cs := #[.int .i8 a1_0, .int .i8 a1_1, .int .i8 a1_2]) (t := 56) ?hr ?_; (case hd => rfl); (case hg => rfl); (case hr => first | (go_simp; done) | (go_simp; rfl)); intro gb172 hg w7 hbox hb; have n0_ := A_ (blk_below (pl_ BK171) hb); have n1_ := A_ (below_step (bl_ HB) hb); have n2_ := A_ (hbox); have n3_ := A_ ((by rw [hg]; exact (below_size (bl_ HB)) : w.heap.size ≤ gb172)); have n4_ := n3_; have n5_ := A_ ((by rw [hg]; exact Nat.ne_of_lt (blk_lt (pl_ BK171)) : gb171 ≠ gb172)); have n6_ := Aside0.mk n5_.out.symm; clear BK171; clear HB; have BK171 := n0_; have HB := n1_; have BK172 := n2_; have GW172 := n3_; have GE172 := n4_; have NB171_172 := n5_; have NB172_171 := n6_; clear n0_ n1_ n2_ n3_ n4_ n5_ n6_; clear hb hbox hg; have hnb8 := NB171_172.out; have hnc8 := NB172_171.out; obtain ⟨hcz9_0, hcz9_1, hcz9_2, hfz9_0, hfz9_1, hfz9_2⟩ := cl3_ BK171; obtain ⟨hcz10_0, hcz10_1, hcz10_2, hfz10_0, hfz10_1, hfz10_2⟩ := cl3_ BK172))
    go_ret
    exact ⟨by first | rfl | (simp [errW_none, errW_some] <;> rfl) | (simp [*, errW_none, errW_some] <;> rfl), bl_ HB⟩
   ·rw [if_neg c5] at H
    have c5b0 : (a0_2 == a1_2) = false := beq_eq_false_iff_ne.mpr c5
    have c5b1 : (a0_2 != a1_2) = true := bne_iff_ne.mpr c5
    obtain rfl := Option.some.inj H
    go_enter Tryd.func30, Tryd.ntmps30
    go_wp2_with (first | ((with_reducible refine gate_dst (N := 2) rfl ?_); refine box_event ?hg (N := 2) ?hd (cs := #[.int .i8 a0_0, .int .i8 a0_1, .int .i8 a0_2]) (t := 56) ?hr ?_; (case hd => rfl); (case hg => rfl); (case hr => first | (go_simp; done) | (go_simp; rfl)); intro gb171 hg w11 hbox hb; have n0_ := A_ (below_step (bl_ HB) hb); have n1_ := A_ (hbox); have n2_ := A_ ((by rw [hg]; exact (below_size (bl_ HB)) : w.heap.size ≤ gb171)); have n3_ := n2_; clear HB; have HB := n0_; have BK171 := n1_; have GW171 := n2_; have GE171 := n3_; clear n0_ n1_ n2_ n3_; clear hb hbox hg) | ((with_reducible refine gate_dst (N := 3) rfl ?_); refine box_event ?hg (N := 3) ?hd (cs := #[.int .i8 a1_0, .int .i8 a1_1, .int .i8 a1_2]) (t := 56) ?hr ?_; (case hd => rfl); (case hg => rfl); (case hr => first | (go_simp; done) | (go_simp; rfl)); intro gb172 hg w12 hbox hb; have n0_ := A_ (blk_below (pl_ BK171) hb); have n1_ := A_ (below_step (bl_ HB) hb); have n2_ := A_ (hbox); have n3_ := A_ ((by rw [hg]; exact (below_size (bl_ HB)) : w.heap.size ≤ gb172)); have n4_ := n3_; have n5_ := A_ ((by rw [hg]; exact Nat.ne_of_lt (blk_lt (pl_ BK171)) : gb171 ≠ gb172)); have n6_ := Aside0.mk n5_.out.symm; clear BK171; clear HB; have BK171 := n0_; have HB := n1_; have BK172 := n2_; have GW172 := n3_; have GE172 := n4_; have NB171_172 := n5_; have NB172_171 := n6_; clear n0_ n1_ n2_ n3_ n4_ n5_ n6_; clear hb hbox hg; have hnb13 := NB171_172.out; have hnc13 := NB172_171.out; obtain ⟨hcz14_0, hcz14_1, hcz14_2, hfz14_0, hfz14_1, hfz14_2⟩ := cl3_ BK171; obtain ⟨hcz15_0, hcz15_1, hcz15_2, hfz15_0, hfz15_1, hfz15_2⟩ := cl3_ BK172))
    go_ret
    exact ⟨by first | rfl | (simp [errW_none, errW_some] <;> rfl) | (simp [*, errW_none, errW_some] <;> rfl), bl_ HB⟩
  ·rw [if_neg c4] at H
   have c4b0 : (a0_1 == a1_1) = false := beq_eq_false_iff_ne.mpr c4
   have c4b1 : (a0_1 != a1_1) = true := bne_iff_ne.mpr c4
   obtain rfl := Option.some.inj H
   go_enter Tryd.func30, Tryd.ntmps30
   go_wp2_with (first | ((with_reducible refine gate_dst (N := 2) rfl ?_); refine box_event ?hg (N := 2) ?hd (cs := #[.int .i8 a0_0, .int .i8 a0_1, .int .i8 a0_2]) (t := 56) ?hr ?_; (case hd => rfl); (case hg => rfl); (case hr => first | (go_simp; done) | (go_simp; rfl)); intro gb171 hg w16 hbox hb; have n0_ := A_ (below_step (bl_ HB) hb); have n1_ := A_ (hbox); have n2_ := A_ ((by rw [hg]; exact (below_size (bl_ HB)) : w.heap.size ≤ gb171)); have n3_ := n2_; clear HB; have HB := n0_; have BK171 := n1_; have GW171 := n2_; have GE171 := n3_; clear n0_ n1_ n2_ n3_; clear hb hbox hg) | ((with_reducible refine gate_dst (N := 3) rfl ?_); refine box_event ?hg (N := 3) ?hd (cs := #[.int .i8 a1_0, .int .i8 a1_1, .int .i8 a1_2]) (t := 56) ?hr ?_; (case hd => rfl); (case hg => rfl); (case hr => first | (go_simp; done) | (go_simp; rfl)); intro gb172 hg w17 hbox hb; have n0_ := A_ (blk_below (pl_ BK171) hb); have n1_ := A_ (below_step (bl_ HB) hb); have n2_ := A_ (hbox); have n3_ := A_ ((by rw [hg]; exact (below_size (bl_ HB)) : w.heap.size ≤ gb172)); have n4_ := n3_; have n5_ := A_ ((by rw [hg]; exact Nat.ne_of_lt (blk_lt (pl_ BK171)) : gb171 ≠ gb172)); have n6_ := Aside0.mk n5_.out.symm; clear BK171; clear HB; have BK171 := n0_; have HB := n1_; have BK172 := n2_; have GW172 := n3_; have GE172 := n4_; have NB171_172 := n5_; have NB172_171 := n6_; clear n0_ n1_ n2_ n3_ n4_ n5_ n6_; clear hb hbox hg; have hnb18 := NB171_172.out; have hnc18 := NB172_171.out; obtain ⟨hcz19_0, hcz19_1, hcz19_2, hfz19_0, hfz19_1, hfz19_2⟩ := cl3_ BK171; obtain ⟨hcz20_0, hcz20_1, hcz20_2, hfz20_0, hfz20_1, hfz20_2⟩ := cl3_ BK172))
   go_ret
   exact ⟨by first | rfl | (simp [errW_none, errW_some] <;> rfl) | (simp [*, errW_none, errW_some] <;> rfl), bl_ HB⟩
 ·rw [if_neg c3] at H
  have c3b0 : (a0_0 == a1_0) = false := beq_eq_false_iff_ne.mpr c3
  have c3b1 : (a0_0 != a1_0) = true := bne_iff_ne.mpr c3
  obtain rfl := Option.some.inj H
  go_enter Tryd.func30, Tryd.ntmps30
  go_wp2_with (first | ((with_reducible refine gate_dst (N := 2) rfl ?_); refine box_event ?hg (N := 2) ?hd (cs := #[.int .i8 a0_0, .int .i8 a0_1, .int .i8 a0_2]) (t := 56) ?hr ?_; (case hd => rfl); (case hg => rfl); (case hr => first | (go_simp; done) | (go_simp; rfl)); intro gb171 hg w21 hbox hb; have n0_ := A_ (below_step (bl_ HB) hb); have n1_ := A_ (hbox); have n2_ := A_ ((by rw [hg]; exact (below_size (bl_ HB)) : w.heap.size ≤ gb171)); have n3_ := n2_; clear HB; have HB := n0_; have BK171 := n1_; have GW171 := n2_; have GE171 := n3_; clear n0_ n1_ n2_ n3_; clear hb hbox hg) | ((with_reducible refine gate_dst (N := 3) rfl ?_); refine box_event ?hg (N := 3) ?hd (cs := #[.int .i8 a1_0, .int .i8 a1_1, .int .i8 a1_2]) (t := 56) ?hr ?_; (case hd => rfl); (case hg => rfl); (case hr => first | (go_simp; done) | (go_simp; rfl)); intro gb172 hg w22 hbox hb; have n0_ := A_ (blk_below (pl_ BK171) hb); have n1_ := A_ (below_step (bl_ HB) hb); have n2_ := A_ (hbox); have n3_ := A_ ((by rw [hg]; exact (below_size (bl_ HB)) : w.heap.size ≤ gb172)); have n4_ := n3_; have n5_ := A_ ((by rw [hg]; exact Nat.ne_of_lt (blk_lt (pl_ BK171)) : gb171 ≠ gb172)); have n6_ := Aside0.mk n5_.out.symm; clear BK171; clear HB; have BK171 := n0_; have HB := n1_; have BK172 := n2_; have GW172 := n3_; have GE172 := n4_; have NB171_172 := n5_; have NB172_171 := n6_; clear n0_ n1_ n2_ n3_ n4_ n5_ n6_; clear hb hbox hg; have hnb23 := NB171_172.out; have hnc23 := NB172_171.out; obtain ⟨hcz24_0, hcz24_1, hcz24_2, hfz24_0, hfz24_1, hfz24_2⟩ := cl3_ BK171; obtain ⟨hcz25_0, hcz25_1, hcz25_2, hfz25_0, hfz25_1, hfz25_2⟩ := cl3_ BK172))
  go_ret
  exact ⟨by first | rfl | (simp [errW_none, errW_some] <;> rfl) | (simp [*, errW_none, errW_some] <;> rfl), bl_ HB⟩

end Go.Proofs.YtodmfjophjhbeaaDoor.M
