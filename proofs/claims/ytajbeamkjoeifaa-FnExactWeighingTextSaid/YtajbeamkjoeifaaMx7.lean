-- By this seat's own program over the kit's printer (arrays, functions told by hand); nothing of it is trusted: the kernel checks it.
import Derived.Test.YtajbeamkjoeifaaMx0
import Derived.Test.YtajbeamkjoeifaaMx5
import Derived.Test.YtajbeamkjoeifaaMx6
namespace Go.Proofs.Ytajbeamkjoeifaa.M
open Go.RowKit Go.Proofs.YtajbeamkjoeifaaW.PrintWords Go.Proofs.YtajbeamkjoeifaaW.PrintLast Go.Proofs.YtajbeamkjoeifaaW.PrintMore
attribute [local go_sem] max2_int min2_int max_two min_two max_three min_three max_four min_four   -- for this text's walks alone
set_option linter.unusedVariables false
set_option linter.unusedSimpArgs false

/-! ### impl_signs: function 57 -/
def impl_signs.l0 : Nat → List Int → List Int → Int → Int → Option (ByteArray × Bool)
 | 0, _, _, _, _ => none
 | k + 1, x4, x8, x9, x10 => if x10 < x9 then (if 0 ≤ x10 then (if x10 < (x8.length : Int) then (if (rd x8 x10) < (-1) then (some ((⟨#[]⟩ : ByteArray), false)) else (if (rd x8 x10) > 1 then (some ((⟨#[]⟩ : ByteArray), false)) else (if 0 ≤ (IntKind.i8.wrap ((rd x8 x10) + 1)) then (if (IntKind.i8.wrap ((rd x8 x10) + 1)) < 3 then (if x4.length < 140737488355328 then (impl_signs.l0 k (x4 ++ [bt (⟨#[45, 48, 43]⟩ : ByteArray) (IntKind.i8.wrap ((rd x8 x10) + 1))]) x8 x9 (wrap64 (x10 + 1))) else (none)) else (none)) else (none)))) else (none)) else (none)) else (some (strOfNums x4, true))
def impl_signs.f (k : Nat) (l0 : List Int) : Option (ByteArray × Bool) := impl_signs.l0 k (([] : List Int)) l0 (l0.length : Int) 0
theorem impl_signs.mono_l : ∀ k, (∀ y0 y1 y2 y3, LeO (impl_signs.l0 k y0 y1 y2 y3) (impl_signs.l0 (k + 1) y0 y1 y2 y3))
 | 0 => fun _ _ _ _ r h => by simp [impl_signs.l0] at h
 | k + 1 => by
  have ih0 := impl_signs.mono_l k
  ·intro y0 y1 y2 y3
   unfold impl_signs.l0
   repeat' first
   | (with_reducible exact ih0 _ _ _ _)
   | (with_reducible exact LeO.refl _)
   | (with_reducible exact LeO.none _)
   | (with_reducible refine LeO.ite ?_ ?_)
   | (with_reducible refine LeO.bind ?_ (fun _ => ?_))
   | exact ih0 _ _ _ _
   | exact LeO.none _
   | refine LeO.ite ?_ ?_
   | refine LeO.bind ?_ (fun _ => ?_)
theorem impl_signs.mono : ∀ a0 k, LeO (impl_signs.f k a0) (impl_signs.f (k + 1) a0) := by
 intro a0 k
 have ih0 := impl_signs.mono_l k
 unfold impl_signs.f
 repeat' first
   | (with_reducible exact ih0 _ _ _ _)
   | (with_reducible exact LeO.refl _)
   | (with_reducible exact LeO.none _)
   | (with_reducible refine LeO.ite ?_ ?_)
   | (with_reducible refine LeO.bind ?_ (fun _ => ?_))
   | exact ih0 _ _ _ _
   | exact LeO.none _
   | refine LeO.ite ?_ ?_
   | refine LeO.bind ?_ (fun _ => ?_)
set_option maxHeartbeats 8000000 in
set_option maxRecDepth 100000 in
theorem impl_signs.calls (k : Nat) (A0 : Option Addr) (c0 : Nat) (l0 : List Int) (r1 : ByteArray) (r2 : Bool) (w : World) (hr0 : Kd.C (Kd.int .i8) w A0 l0.length l0) (hc0 : l0.length ≤ c0) (h : impl_signs.f k l0 = some (r1, r2)) :
  Calls Try.prog 57 #[.slice A0 l0.length c0] w fun e w' => e = .returned (.tuple #[.string r1, .bool r2]) ∧ Below w.heap.size w w' := by
 have HR0 := Aside0.mk hr0
 have HC0 := Aside0.mk hc0
 clear hr0 hc0
 have HB := A_ (Below.refl w.heap.size w)
 have H : (impl_signs.l0 k (([] : List Int)) l0 (l0.length : Int) 0) = some (r1, r2) := h
 clear h
 obtain ⟨y140, hy140⟩ : ∃ y_ : List Int, y_ = (([] : List Int)) := ⟨_, rfl⟩
 replace H : (impl_signs.l0 k y140 l0 (l0.length : Int) 0) = some (r1, r2) := by first | (rw [hy140]; with_reducible exact H) | (have H2_ := (Option.bind_some _ _).symm.trans H; rw [hy140]; with_reducible exact H2_) | (have H2_ := (Option.bind_some _ _).symm.trans H; with_reducible exact H2_) | with_reducible exact H | (rw [hy140]; exact H) | exact H
 have Ny140 := Aside0.mk hy140
 clear hy140
 have H' := Aside0.mk H
 clear H
 go_enter Try.func57, Try.ntmps57
 go_wp2_with (first | ((with_reducible refine gate_dst (N := 7) rfl ?_); refine Kd.R_lit (Kd.int .u8) _ 5 ?hg (N := 7) ?hd (xs := ([] : List Int)) (inner := []) (ok := fun _ => True) (okp := fun _ => True) ?hr ?hp (fun _ hk => hk) trivial (Below.refl _ _) (Nat.le_refl _) (by simp) ?_; (case hd => rfl); (case hg => rfl); (case hr => first | (go_simp; done) | (go_simp; rfl)); (case hp => exact (Reps.none _ _)); intro v141 w2 ho3 hb hg_ hnew_; clear hg_ hnew_; (first | rw [← Ny140.out] at ho3 | (simp only [Int.reduceToNat] at ho3; rw [← Ny140.out] at ho3)); have n0_ := A_ (Kd.R_lower ho3 (below_size (bl_ HB))); have n1_ := A_ (below_step (bl_ HB) hb); clear HB; have HO142 := n0_; have HB := n1_; clear n0_ n1_; clear hb ho3))
 go_loopg [4, 10] k (fun kq v4 v10 w' => ∃ (x4_1 : List Int) (x10_1 : Int), v10 = .int .i64 x10_1 ∧ Aside0 (impl_signs.l0 kq x4_1 l0 (l0.length : Int) x10_1 = some (r1, r2)) ∧ Aside0 (kq ≤ k) ∧ Aside0 (Kd.R (Kd.int .u8) 5 w' w.heap.size (fun _ => True) v4 x4_1) ∧ Aside0 (Below w.heap.size w w'))
 case atStart => exact ⟨(y140), (0), rs_, H', ⟨Nat.le_refl _⟩, ⟨pr_ HO142⟩, ⟨bl_ HB⟩⟩
 case round =>
  clear H'
  try clear p2
  obtain ⟨x4_1, x10_1, rfl, HA, HK1, HO_4, HB⟩ := hrel
  cases gk with
  | zero => exact absurd HA.out (by simp [impl_signs.l0])
  | succ k1 =>
   have H := HA.out
   clear HA
   simp only [impl_signs.l0] at H
   by_cases c4 : x10_1 < (l0.length : Int)
   ·rw [if_pos c4] at H
    have c4b0 : decide (x10_1 < (l0.length : Int)) = true := decide_eq_true c4
    clear c4
    by_cases c5 : 0 ≤ x10_1
    ·rw [if_pos c5] at H
     have c5b0 : decide (0 ≤ x10_1) = true := decide_eq_true c5
     clear c5
     by_cases c6 : x10_1 < (l0.length : Int)
     ·rw [if_pos c6] at H
      have c6b0 : decide (x10_1 < (l0.length : Int)) = true := decide_eq_true c6
      clear c6
      by_cases c7 : (rd l0 x10_1) < (-1)
      ·rw [if_pos c7] at H
       have c7b0 : decide ((rd l0 x10_1) < (-1)) = true := decide_eq_true c7
       clear c7
       simp only [Option.some.injEq, Prod.mk.injEq] at H
       obtain ⟨rfl, rfl⟩ := H
       have p143 : 0 ≤ (x10_1 : Int) := asm_
       have q143 : x10_1 < (l0.length : Int) := asm_
       obtain ⟨ad143, e143, hx143_0⟩ := Kd.at_int HR0.out x10_1 p143 q143
       cases e143
       (try replace hx143_0 := (HB.out.cell (World.block_lt_of_cell? w _ hx143_0)).trans hx143_0)
       replace p143 := eq_true p143
       replace q143 := eq_true q143
       go_wp2
       go_ret2
       exact ⟨by first | rfl | (simp [errW_none, errW_some] <;> rfl) | (simp [*, errW_none, errW_some] <;> rfl), bl_ HB⟩
      ·rw [if_neg c7] at H
       have c7b0 : decide ((rd l0 x10_1) < (-1)) = false := decide_eq_false c7
       clear c7
       by_cases c8 : (rd l0 x10_1) > 1
       ·rw [if_pos c8] at H
        have c8b0 : decide (1 < (rd l0 x10_1)) = true := decide_eq_true c8
        clear c8
        simp only [Option.some.injEq, Prod.mk.injEq] at H
        obtain ⟨rfl, rfl⟩ := H
        have p143 : 0 ≤ (x10_1 : Int) := asm_
        have q143 : x10_1 < (l0.length : Int) := asm_
        obtain ⟨ad143, e143, hx143_0⟩ := Kd.at_int HR0.out x10_1 p143 q143
        cases e143
        (try replace hx143_0 := (HB.out.cell (World.block_lt_of_cell? w _ hx143_0)).trans hx143_0)
        replace p143 := eq_true p143
        replace q143 := eq_true q143
        go_wp2
        go_ret2
        exact ⟨by first | rfl | (simp [errW_none, errW_some] <;> rfl) | (simp [*, errW_none, errW_some] <;> rfl), bl_ HB⟩
       ·rw [if_neg c8] at H
        have c8b0 : decide (1 < (rd l0 x10_1)) = false := decide_eq_false c8
        clear c8
        obtain ⟨ji9, hji9⟩ : ∃ j_ : Int, (IntKind.i8.wrap ((rd l0 x10_1) + 1)) = j_ := ⟨_, rfl⟩
        replace H : (if 0 ≤ (ji9) then (if (ji9) < 3 then (if x4_1.length < 140737488355328 then (impl_signs.l0 k1 (x4_1 ++ [bt (⟨#[45, 48, 43]⟩ : ByteArray) (ji9)]) l0 (l0.length : Int) (wrap64 (x10_1 + 1))) else (none)) else (none)) else (none)) = some (r1, r2) := by first | (rw [hji9] at H; exact H) | (simp only [hji9] at H ⊢; exact H)
        by_cases c10 : 0 ≤ (ji9)
        ·rw [if_pos c10] at H
         have c10b0 : decide (0 ≤ (ji9)) = true := decide_eq_true c10
         clear c10
         by_cases c11 : (ji9) < 3
         ·rw [if_pos c11] at H
          have c11b0 : decide ((ji9) < 3) = true := decide_eq_true c11
          clear c11
          by_cases c13 : x4_1.length < 140737488355328
          ·rw [if_pos c13] at H
           have LMc13 := Aside0.mk c13
           clear c13
           obtain ⟨y144, hy144⟩ : ∃ y_ : List Int, y_ = (x4_1 ++ [bt (⟨#[45, 48, 43]⟩ : ByteArray) (ji9)]) := ⟨_, rfl⟩
           replace H : (impl_signs.l0 k1 y144 l0 (l0.length : Int) (wrap64 (x10_1 + 1))) = some (r1, r2) := by first | (rw [hy144]; with_reducible exact H) | (have H2_ := (Option.bind_some _ _).symm.trans H; rw [hy144]; with_reducible exact H2_) | (have H2_ := (Option.bind_some _ _).symm.trans H; with_reducible exact H2_) | with_reducible exact H | (rw [hy144]; exact H) | exact H
           have Ny144 := Aside0.mk hy144
           clear hy144
           have H' := Aside0.mk H
           clear H
           have p143 : 0 ≤ (x10_1 : Int) := asm_
           have q143 : x10_1 < (l0.length : Int) := asm_
           obtain ⟨ad143, e143, hx143_0⟩ := Kd.at_int HR0.out x10_1 p143 q143
           cases e143
           (try replace hx143_0 := (HB.out.cell (World.block_lt_of_cell? w _ hx143_0)).trans hx143_0)
           replace p143 := eq_true p143
           replace q143 := eq_true q143
           have p12 : 0 ≤ ((ji9) : Int) := asm_
           have q12 : (ji9) < (3 : Int) := asm_
           have hx12 := bt_at (⟨#[45, 48, 43]⟩ : ByteArray) (ji9)
           replace p12 := eq_true p12
           replace q12 := eq_true q12
           go_wp2_with (first | ((with_reducible refine gate_builtin (b := .append) (xs := #[.tmp 20, .tmp 24]) rfl ?_); at_builtin; refine Kd.R_append (Kd.int .u8) (w0 := w) w.heap.size rfl (.tmp 20) (.tmp 24) 95 5 (.int .u8 0) 1 rfl Try.underlying95 info5 rfl (by decide) (by omega) u4 x4_1 (bt (⟨#[45, 48, 43]⟩ : ByteArray) (ji9)) [.int .u8 (bt (⟨#[45, 48, 43]⟩ : ByteArray) (ji9))] (fun _ => True) (fun _ => False) rfl rfl ?aP (fun _ hk => hk.elim) ?aF ?aO ?aB ?aS ?aL ?_; (case aP => exact rfl); (case aB => exact (bl_ HB)); (case aF => exact (fun _ _ => trivial)); (case aO => exact (pr_ HO_4)); (case aS => exact (below_size (bl_ HB))); (case aL => have := LMc13.out; omega); intro v145 w14 ho hb hg hat; rw [← Ny144.out] at ho; have n0_ := A_ (hb); have n1_ := A_ (ho); clear HB; clear HO_4; have HB := n0_; have HO146 := n1_; clear n0_ n1_; clear ho hb hg hat))
           go_roundg k1
           case measure => have := HK1.out; omega
           case rel => exact ⟨(y144), (wrap64 (x10_1 + 1)), rs_, H', ⟨by have := HK1.out; omega⟩, ⟨pr_ HO146⟩, ⟨bl_ HB⟩⟩
          ·rw [if_neg c13] at H
           exact absurd H (by simp)
         ·rw [if_neg c11] at H
          exact absurd H (by simp)
        ·rw [if_neg c10] at H
         exact absurd H (by simp)
     ·rw [if_neg c6] at H
      exact absurd H (by simp)
    ·rw [if_neg c5] at H
     exact absurd H (by simp)
   ·rw [if_neg c4] at H
    have c4b0 : decide (x10_1 < (l0.length : Int)) = false := decide_eq_false c4
    clear c4
    simp only [Option.some.injEq, Prod.mk.injEq] at H
    obtain ⟨rfl, rfl⟩ := H
    have hcv15 := own_string (P := Try.prog) Try.underlying95 Try.underlying5 Try.underlying9 (Kd.own_of_R HO_4.out)
    go_wp2
    go_ret2
    exact ⟨by first | rfl | (simp [errW_none, errW_some] <;> rfl) | (simp [*, errW_none, errW_some] <;> rfl), bl_ HB⟩

/-! ### impl_WeighingText: function 23 -/
def impl_WeighingText.f (k : Nat) (a0_0 : Int) (a0_1 : Int) (a0_2 : Bool) (a0_3 : Bool) (a1_0 : Int) (a1_1 : Int) (a1_2 : Int) (a1_3 : Int) (a1_4 : Int) (a1_5 : Int) (a1_6 : Int) (a1_7 : Int) (a1_8 : Int) (a1_9 : Int) (a1_10 : Int) (a1_11 : Int) (a1_12 : Int) (a1_13 : Int) : Option (ByteArray) := (impl_ValidWeighing.f k a0_0 a0_1 a0_2 a0_3 a1_0 a1_1 a1_2 a1_3 a1_4 a1_5 a1_6 a1_7 a1_8 a1_9 a1_10 a1_11 a1_12 a1_13).bind fun t149 => (if t149 = true then ((impl_Task_places.f a0_0 a0_1 a0_2 a0_3).bind fun t150 => (if 0 ≤ t150 then (if t150 ≤ 14 then ((impl_signs.f k ([a1_0, a1_1, a1_2, a1_3, a1_4, a1_5, a1_6, a1_7, a1_8, a1_9, a1_10, a1_11, a1_12, a1_13].take (t150 : Int).toNat)).bind fun bt155 => (some bt155.1)) else (none)) else (none))) else (some (⟨#[]⟩ : ByteArray)))
theorem impl_WeighingText.mono : ∀ a0 a1 a2 a3 a4 a5 a6 a7 a8 a9 a10 a11 a12 a13 a14 a15 a16 a17 k, LeO (impl_WeighingText.f k a0 a1 a2 a3 a4 a5 a6 a7 a8 a9 a10 a11 a12 a13 a14 a15 a16 a17) (impl_WeighingText.f (k + 1) a0 a1 a2 a3 a4 a5 a6 a7 a8 a9 a10 a11 a12 a13 a14 a15 a16 a17) := by
 intro a0 a1 a2 a3 a4 a5 a6 a7 a8 a9 a10 a11 a12 a13 a14 a15 a16 a17 k
 unfold impl_WeighingText.f
 repeat' first
   | (with_reducible exact impl_ValidWeighing.mono _ _ _ _ _ _ _ _ _ _ _ _ _ _ _ _ _ _ _)
   | (with_reducible exact impl_signs.mono _ _)
   | (with_reducible exact LeO.refl _)
   | (with_reducible exact LeO.none _)
   | (with_reducible refine LeO.ite ?_ ?_)
   | (with_reducible refine LeO.bind ?_ (fun _ => ?_))
   | exact impl_ValidWeighing.mono _ _ _ _ _ _ _ _ _ _ _ _ _ _ _ _ _ _ _
   | exact impl_signs.mono _ _
   | exact LeO.none _
   | refine LeO.ite ?_ ?_
   | refine LeO.bind ?_ (fun _ => ?_)
set_option maxHeartbeats 8000000 in
set_option maxRecDepth 100000 in
theorem impl_WeighingText.calls (k : Nat) (a0_0 : Int) (a0_1 : Int) (a0_2 : Bool) (a0_3 : Bool) (a1_0 : Int) (a1_1 : Int) (a1_2 : Int) (a1_3 : Int) (a1_4 : Int) (a1_5 : Int) (a1_6 : Int) (a1_7 : Int) (a1_8 : Int) (a1_9 : Int) (a1_10 : Int) (a1_11 : Int) (a1_12 : Int) (a1_13 : Int) (r : ByteArray) (w : World) (h : impl_WeighingText.f k a0_0 a0_1 a0_2 a0_3 a1_0 a1_1 a1_2 a1_3 a1_4 a1_5 a1_6 a1_7 a1_8 a1_9 a1_10 a1_11 a1_12 a1_13 = some r) :
  Calls Try.prog 23 #[.agg #[.int .i8 a0_0, .int .i8 a0_1, .bool a0_2, .bool a0_3], .agg #[.int .i8 a1_0, .int .i8 a1_1, .int .i8 a1_2, .int .i8 a1_3, .int .i8 a1_4, .int .i8 a1_5, .int .i8 a1_6, .int .i8 a1_7, .int .i8 a1_8, .int .i8 a1_9, .int .i8 a1_10, .int .i8 a1_11, .int .i8 a1_12, .int .i8 a1_13]] w fun e w' => e = .returned (.string r) ∧ Below w.heap.size w w' := by
 have hu26 := Try.underlying26
 have hu31 := Try.underlying31
 have HB := A_ (Below.refl w.heap.size w)
 have H : ((impl_ValidWeighing.f k a0_0 a0_1 a0_2 a0_3 a1_0 a1_1 a1_2 a1_3 a1_4 a1_5 a1_6 a1_7 a1_8 a1_9 a1_10 a1_11 a1_12 a1_13).bind fun t149 => (if t149 = true then ((impl_Task_places.f a0_0 a0_1 a0_2 a0_3).bind fun t150 => (if 0 ≤ t150 then (if t150 ≤ 14 then ((impl_signs.f k ([a1_0, a1_1, a1_2, a1_3, a1_4, a1_5, a1_6, a1_7, a1_8, a1_9, a1_10, a1_11, a1_12, a1_13].take (t150 : Int).toNat)).bind fun bt155 => (some bt155.1)) else (none)) else (none))) else (some (⟨#[]⟩ : ByteArray)))) = some r := h
 clear h
 replace H := Option.bind_eq_some_iff.mp H
 obtain ⟨t149, A30, H⟩ := H
 replace H : (if t149 = true then ((impl_Task_places.f a0_0 a0_1 a0_2 a0_3).bind fun t150 => (if 0 ≤ t150 then (if t150 ≤ 14 then ((impl_signs.f k ([a1_0, a1_1, a1_2, a1_3, a1_4, a1_5, a1_6, a1_7, a1_8, a1_9, a1_10, a1_11, a1_12, a1_13].take (t150 : Int).toNat)).bind fun bt155 => (some bt155.1)) else (none)) else (none))) else (some (⟨#[]⟩ : ByteArray))) = some r := H
 have A3 := Aside0.mk A30
 clear A30
 by_cases c4 : t149 = true
 ·subst c4
  have H1 : ((impl_Task_places.f a0_0 a0_1 a0_2 a0_3).bind fun t150 => (if 0 ≤ t150 then (if t150 ≤ 14 then ((impl_signs.f k ([a1_0, a1_1, a1_2, a1_3, a1_4, a1_5, a1_6, a1_7, a1_8, a1_9, a1_10, a1_11, a1_12, a1_13].take (t150 : Int).toNat)).bind fun bt155 => (some bt155.1)) else (none)) else (none))) = some r := by rw [if_pos rfl] at H; exact H
  clear H
  have H := H1
  clear H1
  replace H := Option.bind_eq_some_iff.mp H
  obtain ⟨t150, A50, H⟩ := H
  replace H : (if 0 ≤ t150 then (if t150 ≤ 14 then ((impl_signs.f k ([a1_0, a1_1, a1_2, a1_3, a1_4, a1_5, a1_6, a1_7, a1_8, a1_9, a1_10, a1_11, a1_12, a1_13].take (t150 : Int).toNat)).bind fun bt155 => (some bt155.1)) else (none)) else (none)) = some r := H
  have A5 := Aside0.mk A50
  clear A50
  by_cases c6 : 0 ≤ t150
  ·rw [if_pos c6] at H
   have c6b0 := eq_true c6
   have c6b1 : decide (0 ≤ t150) = true := decide_eq_true c6
   clear c6
   by_cases c7 : t150 ≤ 14
   ·rw [if_pos c7] at H
    have c7b0 := eq_true c7
    have c7b1 : decide (t150 ≤ 14) = true := decide_eq_true c7
    clear c7
    obtain ⟨y151, hy151⟩ : ∃ y_ : List Int, y_ = ([a1_0, a1_1, a1_2, a1_3, a1_4, a1_5, a1_6, a1_7, a1_8, a1_9, a1_10, a1_11, a1_12, a1_13].take (t150 : Int).toNat) := ⟨_, rfl⟩
    replace H : ((impl_signs.f k y151).bind fun bt155 => (some bt155.1)) = some r := by first | (rw [hy151]; with_reducible exact H) | (have H2_ := (Option.bind_some _ _).symm.trans H; rw [hy151]; with_reducible exact H2_) | (have H2_ := (Option.bind_some _ _).symm.trans H; with_reducible exact H2_) | with_reducible exact H | (rw [hy151]; exact H) | exact H
    have Ny151 := Aside0.mk hy151
    clear hy151
    replace H := Option.bind_eq_some_iff.mp H
    obtain ⟨⟨t155, t156⟩, A80, H⟩ := H
    replace H : (some t155) = some r := H
    have A8 := Aside0.mk A80
    clear A80
    obtain rfl := Option.some.inj H
    go_enter Try.func23, Try.ntmps23
    go_wp2_with (first | ((with_reducible refine gate_dst (N := 2) rfl ?_); refine box_event ?hg (N := 2) ?hd (cs := #[.int .i8 a0_0, .int .i8 a0_1, .bool a0_2, .bool a0_3]) (t := 26) ?hr ?_; (case hd => rfl); (case hg => rfl); (case hr => first | (go_simp; done) | (go_simp; rfl)); intro gb147 hg w9 hbox hb; have n0_ := A_ (below_step (bl_ HB) hb); have n1_ := A_ (hbox); have n2_ := A_ ((by rw [hg]; exact (below_size (bl_ HB)) : w.heap.size ≤ gb147)); have n3_ := n2_; clear HB; have HB := n0_; have BK147 := n1_; have GW147 := n2_; have GE147 := n3_; clear n0_ n1_ n2_ n3_; clear hb hbox hg) | ((with_reducible refine gate_dst (N := 3) rfl ?_); refine box_event ?hg (N := 3) ?hd (cs := #[.int .i8 a1_0, .int .i8 a1_1, .int .i8 a1_2, .int .i8 a1_3, .int .i8 a1_4, .int .i8 a1_5, .int .i8 a1_6, .int .i8 a1_7, .int .i8 a1_8, .int .i8 a1_9, .int .i8 a1_10, .int .i8 a1_11, .int .i8 a1_12, .int .i8 a1_13]) (t := 31) ?hr ?_; (case hd => rfl); (case hg => rfl); (case hr => first | (go_simp; done) | (go_simp; rfl)); intro gb148 hg w10 hbox hb; have n0_ := A_ (blk_below (pl_ BK147) hb); have n1_ := A_ (below_step (bl_ HB) hb); have n2_ := A_ (hbox); have n3_ := A_ ((by rw [hg]; exact (below_size (bl_ HB)) : w.heap.size ≤ gb148)); have n4_ := n3_; have n5_ := A_ ((by rw [hg]; exact Nat.ne_of_lt (blk_lt (pl_ BK147)) : gb147 ≠ gb148)); have n6_ := Aside0.mk n5_.out.symm; clear BK147; clear HB; have BK147 := n0_; have HB := n1_; have BK148 := n2_; have GW148 := n3_; have GE148 := n4_; have NB147_148 := n5_; have NB148_147 := n6_; clear n0_ n1_ n2_ n3_ n4_ n5_ n6_; clear hb hbox hg; have hnb11 := NB147_148.out; have hnc11 := NB148_147.out; have hcz12_0 : w10.cell? ⟨gb147, 0, none⟩ = some (.int .i8 a0_0) := (blk_cell BK147.out 0).trans rfl; have hcz12_1 : w10.cell? ⟨gb147, 1, none⟩ = some (.int .i8 a0_1) := (blk_cell BK147.out 1).trans rfl; have hcz12_2 : w10.cell? ⟨gb147, 2, none⟩ = some (.bool a0_2) := (blk_cell BK147.out 2).trans rfl; have hcz12_3 : w10.cell? ⟨gb147, 3, none⟩ = some (.bool a0_3) := (blk_cell BK147.out 3).trans rfl; have hfz12_0 := blk_frozen BK147.out 0; have hfz12_1 := blk_frozen BK147.out 1; have hfz12_2 := blk_frozen BK147.out 2; have hfz12_3 := blk_frozen BK147.out 3; have hcz13_0 : w10.cell? ⟨gb148, 0, none⟩ = some (.int .i8 a1_0) := (blk_cell BK148.out 0).trans rfl; have hcz13_1 : w10.cell? ⟨gb148, 1, none⟩ = some (.int .i8 a1_1) := (blk_cell BK148.out 1).trans rfl; have hcz13_2 : w10.cell? ⟨gb148, 2, none⟩ = some (.int .i8 a1_2) := (blk_cell BK148.out 2).trans rfl; have hcz13_3 : w10.cell? ⟨gb148, 3, none⟩ = some (.int .i8 a1_3) := (blk_cell BK148.out 3).trans rfl; have hcz13_4 : w10.cell? ⟨gb148, 4, none⟩ = some (.int .i8 a1_4) := (blk_cell BK148.out 4).trans rfl; have hcz13_5 : w10.cell? ⟨gb148, 5, none⟩ = some (.int .i8 a1_5) := (blk_cell BK148.out 5).trans rfl; have hcz13_6 : w10.cell? ⟨gb148, 6, none⟩ = some (.int .i8 a1_6) := (blk_cell BK148.out 6).trans rfl; have hcz13_7 : w10.cell? ⟨gb148, 7, none⟩ = some (.int .i8 a1_7) := (blk_cell BK148.out 7).trans rfl; have hcz13_8 : w10.cell? ⟨gb148, 8, none⟩ = some (.int .i8 a1_8) := (blk_cell BK148.out 8).trans rfl; have hcz13_9 : w10.cell? ⟨gb148, 9, none⟩ = some (.int .i8 a1_9) := (blk_cell BK148.out 9).trans rfl; have hcz13_10 : w10.cell? ⟨gb148, 10, none⟩ = some (.int .i8 a1_10) := (blk_cell BK148.out 10).trans rfl; have hcz13_11 : w10.cell? ⟨gb148, 11, none⟩ = some (.int .i8 a1_11) := (blk_cell BK148.out 11).trans rfl; have hcz13_12 : w10.cell? ⟨gb148, 12, none⟩ = some (.int .i8 a1_12) := (blk_cell BK148.out 12).trans rfl; have hcz13_13 : w10.cell? ⟨gb148, 13, none⟩ = some (.int .i8 a1_13) := (blk_cell BK148.out 13).trans rfl; have hfz13_0 := blk_frozen BK148.out 0; have hfz13_1 := blk_frozen BK148.out 1; have hfz13_2 := blk_frozen BK148.out 2; have hfz13_3 := blk_frozen BK148.out 3; have hfz13_4 := blk_frozen BK148.out 4; have hfz13_5 := blk_frozen BK148.out 5; have hfz13_6 := blk_frozen BK148.out 6; have hfz13_7 := blk_frozen BK148.out 7; have hfz13_8 := blk_frozen BK148.out 8; have hfz13_9 := blk_frozen BK148.out 9; have hfz13_10 := blk_frozen BK148.out 10; have hfz13_11 := blk_frozen BK148.out 11; have hfz13_12 := blk_frozen BK148.out 12; have hfz13_13 := blk_frozen BK148.out 13) | ((with_reducible refine gate_callee (f := 19) rfl ?_); refine goesL_ (some 9) rfl rfl Try.func19 (by kernel_rfl) rfl #[.agg #[.int .i8 a0_0, .int .i8 a0_1, .bool a0_2, .bool a0_3], .agg #[.int .i8 a1_0, .int .i8 a1_1, .int .i8 a1_2, .int .i8 a1_3, .int .i8 a1_4, .int .i8 a1_5, .int .i8 a1_6, .int .i8 a1_7, .int .i8 a1_8, .int .i8 a1_9, .int .i8 a1_10, .int .i8 a1_11, .int .i8 a1_12, .int .i8 a1_13]] rfl arg_ ?_; (with_reducible refine (impl_ValidWeighing.calls k a0_0 a0_1 a0_2 a0_3 a1_0 a1_1 a1_2 a1_3 a1_4 a1_5 a1_6 a1_7 a1_8 a1_9 a1_10 a1_11 a1_12 a1_13 true _ A3.out).mono ?_); rintro e w14 ⟨rfl, hb⟩; refine ⟨_, rfl, ?_⟩; have n0_ := A_ (blk_below (pl_ BK147) hb); have n1_ := A_ (blk_below (pl_ BK148) hb); have n2_ := A_ (below_step (bl_ HB) hb); clear BK147; clear BK148; clear HB; have BK147 := n0_; have BK148 := n1_; have HB := n2_; clear n0_ n1_ n2_; (try clear hb); (try clear hb2); (try clear hk); (try clear hi); have hcz15_0 : w14.cell? ⟨gb147, 0, none⟩ = some (.int .i8 a0_0) := (blk_cell BK147.out 0).trans rfl; have hcz15_1 : w14.cell? ⟨gb147, 1, none⟩ = some (.int .i8 a0_1) := (blk_cell BK147.out 1).trans rfl; have hcz15_2 : w14.cell? ⟨gb147, 2, none⟩ = some (.bool a0_2) := (blk_cell BK147.out 2).trans rfl; have hcz15_3 : w14.cell? ⟨gb147, 3, none⟩ = some (.bool a0_3) := (blk_cell BK147.out 3).trans rfl; have hfz15_0 := blk_frozen BK147.out 0; have hfz15_1 := blk_frozen BK147.out 1; have hfz15_2 := blk_frozen BK147.out 2; have hfz15_3 := blk_frozen BK147.out 3) | ((with_reducible refine gate_callee (f := 51) rfl ?_); refine goesL_ (some 13) rfl rfl Try.func51 (by kernel_rfl) rfl #[.agg #[.int .i8 a0_0, .int .i8 a0_1, .bool a0_2, .bool a0_3]] rfl arg_ ?_; (with_reducible refine (impl_Task_places.calls a0_0 a0_1 a0_2 a0_3 t150 _ A5.out).mono ?_); rintro e w16 ⟨rfl, hb⟩; refine ⟨_, rfl, ?_⟩; have n0_ := A_ (blk_below (pl_ BK147) hb); have n1_ := A_ (blk_below (pl_ BK148) hb); have n2_ := A_ (below_step (bl_ HB) hb); clear BK147; clear BK148; clear HB; have BK147 := n0_; have BK148 := n1_; have HB := n2_; clear n0_ n1_ n2_; (try clear hb); (try clear hb2); (try clear hk); (try clear hi); have p17 : (0 : Int) ≤ (t150 : Int) := asm_; have q17 : (t150 : Int) ≤ 14 := asm_; have hcut17 := arr_cut (P := Try.prog) (t := 31) (e := 22) Try.underlying31 (by kernel_rfl) ⟨gb148, 0, none⟩ .i64 (t150 : Int) p17 q17; have hr17 := arr_C (k := .i8) (l := [a1_0, a1_1, a1_2, a1_3, a1_4, a1_5, a1_6, a1_7, a1_8, a1_9, a1_10, a1_11, a1_12, a1_13]) (o := 0) BK148.out rfl (by simp) (t150 : Int).toNat (by simp; omega); have hy17 : y151.length = (t150 : Int).toNat := (by rw [Ny151.out]; simp; omega); rw [← Ny151.out] at hr17; rw [← hy17] at hcut17; have HR154 := Aside0.mk hr17; have HC154 := A_ (show y151.length ≤ 14 from by omega); clear hr17 hy17; replace p17 := eq_true p17; replace q17 := eq_true q17) | ((with_reducible refine gate_callee (f := 57) rfl ?_); refine goesL_ (some 15) rfl rfl Try.func57 (by kernel_rfl) rfl #[.slice (some ⟨gb148, 0, none⟩) y151.length 14] rfl arg_ ?_; (with_reducible refine (impl_signs.calls k _ _ y151 t155 t156 _ ?side1 ?side2 A8.out).mono ?_); (case side1 => repeat (first | exact (by repeat (first | (with_reducible exact HR154.out) | (with_reducible refine Kd.C_alloc ?_ _) | (with_reducible refine Kd.C_drewN ?_ _) | (with_reducible refine Kd.C_drew ?_) | exact HR154.out)) | (with_reducible refine Kd.C_alloc ?_ _) | (with_reducible refine Kd.C_drewN ?_ _) | (with_reducible refine Kd.C_drew ?_))); (case side2 => exact HC154.out); rintro e w18 ⟨rfl, hb⟩; refine ⟨_, rfl, ?_⟩; have n0_ := A_ (blk_below (pl_ BK147) hb); have n1_ := A_ (blk_below (pl_ BK148) hb); have n2_ := A_ (Kd.C_below (by repeat (first | (with_reducible exact HR154.out) | (with_reducible refine Kd.C_alloc ?_ _) | (with_reducible refine Kd.C_drewN ?_ _) | (with_reducible refine Kd.C_drew ?_) | exact HR154.out)) hb); have n3_ := A_ (below_step (bl_ HB) hb); clear BK147; clear BK148; clear HR154; clear HB; have BK147 := n0_; have BK148 := n1_; have HR154 := n2_; have HB := n3_; clear n0_ n1_ n2_ n3_; (try clear hb); (try clear hb2); (try clear hk); (try clear hi)))
    go_ret
    exact ⟨by first | rfl | (simp [errW_none, errW_some] <;> rfl) | (simp [*, errW_none, errW_some] <;> rfl), bl_ HB⟩
   ·rw [if_neg c7] at H
    exact absurd H (by simp)
  ·rw [if_neg c6] at H
   exact absurd H (by simp)
 ·replace c4 := Bool.eq_false_iff.mpr c4
  subst c4
  have H1 : (some (⟨#[]⟩ : ByteArray)) = some r := by rw [if_neg (show ¬ (false = true) by decide)] at H; exact H
  clear H
  have H := H1
  clear H1
  obtain rfl := Option.some.inj H
  go_enter Try.func23, Try.ntmps23
  go_wp2_with (first | ((with_reducible refine gate_dst (N := 2) rfl ?_); refine box_event ?hg (N := 2) ?hd (cs := #[.int .i8 a0_0, .int .i8 a0_1, .bool a0_2, .bool a0_3]) (t := 26) ?hr ?_; (case hd => rfl); (case hg => rfl); (case hr => first | (go_simp; done) | (go_simp; rfl)); intro gb147 hg w19 hbox hb; have n0_ := A_ (below_step (bl_ HB) hb); have n1_ := A_ (hbox); have n2_ := A_ ((by rw [hg]; exact (below_size (bl_ HB)) : w.heap.size ≤ gb147)); have n3_ := n2_; clear HB; have HB := n0_; have BK147 := n1_; have GW147 := n2_; have GE147 := n3_; clear n0_ n1_ n2_ n3_; clear hb hbox hg) | ((with_reducible refine gate_dst (N := 3) rfl ?_); refine box_event ?hg (N := 3) ?hd (cs := #[.int .i8 a1_0, .int .i8 a1_1, .int .i8 a1_2, .int .i8 a1_3, .int .i8 a1_4, .int .i8 a1_5, .int .i8 a1_6, .int .i8 a1_7, .int .i8 a1_8, .int .i8 a1_9, .int .i8 a1_10, .int .i8 a1_11, .int .i8 a1_12, .int .i8 a1_13]) (t := 31) ?hr ?_; (case hd => rfl); (case hg => rfl); (case hr => first | (go_simp; done) | (go_simp; rfl)); intro gb148 hg w20 hbox hb; have n0_ := A_ (blk_below (pl_ BK147) hb); have n1_ := A_ (below_step (bl_ HB) hb); have n2_ := A_ (hbox); have n3_ := A_ ((by rw [hg]; exact (below_size (bl_ HB)) : w.heap.size ≤ gb148)); have n4_ := n3_; have n5_ := A_ ((by rw [hg]; exact Nat.ne_of_lt (blk_lt (pl_ BK147)) : gb147 ≠ gb148)); have n6_ := Aside0.mk n5_.out.symm; clear BK147; clear HB; have BK147 := n0_; have HB := n1_; have BK148 := n2_; have GW148 := n3_; have GE148 := n4_; have NB147_148 := n5_; have NB148_147 := n6_; clear n0_ n1_ n2_ n3_ n4_ n5_ n6_; clear hb hbox hg; have hnb21 := NB147_148.out; have hnc21 := NB148_147.out; have hcz22_0 : w20.cell? ⟨gb147, 0, none⟩ = some (.int .i8 a0_0) := (blk_cell BK147.out 0).trans rfl; have hcz22_1 : w20.cell? ⟨gb147, 1, none⟩ = some (.int .i8 a0_1) := (blk_cell BK147.out 1).trans rfl; have hcz22_2 : w20.cell? ⟨gb147, 2, none⟩ = some (.bool a0_2) := (blk_cell BK147.out 2).trans rfl; have hcz22_3 : w20.cell? ⟨gb147, 3, none⟩ = some (.bool a0_3) := (blk_cell BK147.out 3).trans rfl; have hfz22_0 := blk_frozen BK147.out 0; have hfz22_1 := blk_frozen BK147.out 1; have hfz22_2 := blk_frozen BK147.out 2; have hfz22_3 := blk_frozen BK147.out 3; have hcz23_0 : w20.cell? ⟨gb148, 0, none⟩ = some (.int .i8 a1_0) := (blk_cell BK148.out 0).trans rfl; have hcz23_1 : w20.cell? ⟨gb148, 1, none⟩ = some (.int .i8 a1_1) := (blk_cell BK148.out 1).trans rfl; have hcz23_2 : w20.cell? ⟨gb148, 2, none⟩ = some (.int .i8 a1_2) := (blk_cell BK148.out 2).trans rfl; have hcz23_3 : w20.cell? ⟨gb148, 3, none⟩ = some (.int .i8 a1_3) := (blk_cell BK148.out 3).trans rfl; have hcz23_4 : w20.cell? ⟨gb148, 4, none⟩ = some (.int .i8 a1_4) := (blk_cell BK148.out 4).trans rfl; have hcz23_5 : w20.cell? ⟨gb148, 5, none⟩ = some (.int .i8 a1_5) := (blk_cell BK148.out 5).trans rfl; have hcz23_6 : w20.cell? ⟨gb148, 6, none⟩ = some (.int .i8 a1_6) := (blk_cell BK148.out 6).trans rfl; have hcz23_7 : w20.cell? ⟨gb148, 7, none⟩ = some (.int .i8 a1_7) := (blk_cell BK148.out 7).trans rfl; have hcz23_8 : w20.cell? ⟨gb148, 8, none⟩ = some (.int .i8 a1_8) := (blk_cell BK148.out 8).trans rfl; have hcz23_9 : w20.cell? ⟨gb148, 9, none⟩ = some (.int .i8 a1_9) := (blk_cell BK148.out 9).trans rfl; have hcz23_10 : w20.cell? ⟨gb148, 10, none⟩ = some (.int .i8 a1_10) := (blk_cell BK148.out 10).trans rfl; have hcz23_11 : w20.cell? ⟨gb148, 11, none⟩ = some (.int .i8 a1_11) := (blk_cell BK148.out 11).trans rfl; have hcz23_12 : w20.cell? ⟨gb148, 12, none⟩ = some (.int .i8 a1_12) := (blk_cell BK148.out 12).trans rfl; have hcz23_13 : w20.cell? ⟨gb148, 13, none⟩ = some (.int .i8 a1_13) := (blk_cell BK148.out 13).trans rfl; have hfz23_0 := blk_frozen BK148.out 0; have hfz23_1 := blk_frozen BK148.out 1; have hfz23_2 := blk_frozen BK148.out 2; have hfz23_3 := blk_frozen BK148.out 3; have hfz23_4 := blk_frozen BK148.out 4; have hfz23_5 := blk_frozen BK148.out 5; have hfz23_6 := blk_frozen BK148.out 6; have hfz23_7 := blk_frozen BK148.out 7; have hfz23_8 := blk_frozen BK148.out 8; have hfz23_9 := blk_frozen BK148.out 9; have hfz23_10 := blk_frozen BK148.out 10; have hfz23_11 := blk_frozen BK148.out 11; have hfz23_12 := blk_frozen BK148.out 12; have hfz23_13 := blk_frozen BK148.out 13) | ((with_reducible refine gate_callee (f := 19) rfl ?_); refine goesL_ (some 9) rfl rfl Try.func19 (by kernel_rfl) rfl #[.agg #[.int .i8 a0_0, .int .i8 a0_1, .bool a0_2, .bool a0_3], .agg #[.int .i8 a1_0, .int .i8 a1_1, .int .i8 a1_2, .int .i8 a1_3, .int .i8 a1_4, .int .i8 a1_5, .int .i8 a1_6, .int .i8 a1_7, .int .i8 a1_8, .int .i8 a1_9, .int .i8 a1_10, .int .i8 a1_11, .int .i8 a1_12, .int .i8 a1_13]] rfl arg_ ?_; (with_reducible refine (impl_ValidWeighing.calls k a0_0 a0_1 a0_2 a0_3 a1_0 a1_1 a1_2 a1_3 a1_4 a1_5 a1_6 a1_7 a1_8 a1_9 a1_10 a1_11 a1_12 a1_13 false _ A3.out).mono ?_); rintro e w24 ⟨rfl, hb⟩; refine ⟨_, rfl, ?_⟩; have n0_ := A_ (blk_below (pl_ BK147) hb); have n1_ := A_ (blk_below (pl_ BK148) hb); have n2_ := A_ (below_step (bl_ HB) hb); clear BK147; clear BK148; clear HB; have BK147 := n0_; have BK148 := n1_; have HB := n2_; clear n0_ n1_ n2_; (try clear hb); (try clear hb2); (try clear hk); (try clear hi)))
  go_ret
  exact ⟨by first | rfl | (simp [errW_none, errW_some] <;> rfl) | (simp [*, errW_none, errW_some] <;> rfl), bl_ HB⟩

end Go.Proofs.Ytajbeamkjoeifaa.M
