-- By this seat's own program over the kit's printer (arrays, functions told by hand); nothing of it is trusted: the kernel checks it.
import Derived.Test.YtmekcockddoaiaaMx0
namespace Go.Proofs.Ytmekcockddoaiaa.M
open Go.RowKit Go.Proofs.YtmekcockddoaiaaW.PrintWords Go.Proofs.YtmekcockddoaiaaW.PrintLast Go.Proofs.YtmekcockddoaiaaW.PrintMore
attribute [local go_sem] max2_int min2_int max_two min_two max_three min_three max_four min_four   -- for this text's walks alone
set_option linter.unusedVariables false
set_option linter.unusedSimpArgs false

/-! ### impl_signs: function 15 -/
def impl_signs.l0 : Nat → List Int → List Int → Int → Int → Option (ByteArray × Bool)
 | 0, _, _, _, _ => none
 | k + 1, x4, x8, x9, x10 => if x10 < x9 then (if 0 ≤ x10 then (if x10 < (x8.length : Int) then (if (rd x8 x10) < (-1) then (some ((⟨#[]⟩ : ByteArray), false)) else (if (rd x8 x10) > 1 then (some ((⟨#[]⟩ : ByteArray), false)) else (if 0 ≤ (IntKind.i8.wrap ((rd x8 x10) + 1)) then (if (IntKind.i8.wrap ((rd x8 x10) + 1)) < 3 then (if x4.length < 140737488355328 then (impl_signs.l0 k (x4 ++ [bt (⟨#[45, 48, 43]⟩ : ByteArray) (IntKind.i8.wrap ((rd x8 x10) + 1))]) x8 x9 (wrap64 (x10 + 1))) else (none)) else (none)) else (none)))) else (none)) else (none)) else (some (strOfNums x4, true))
def impl_signs.f (k : Nat) (l0 : List Int) : Option (ByteArray × Bool) := impl_signs.l0 k (([] : List Int)) l0 (l0.length : Int) 0
theorem impl_signs.mono_l : ∀ k, (∀ y0 y1 y2 y3, LeO (impl_signs.l0 k y0 y1 y2 y3) (impl_signs.l0 (k + 1) y0 y1 y2 y3))
 | 0 => fun _ _ _ _ r h => by simp [impl_signs.l0] at h
 | k + 1 => by
  have ih0 := impl_signs.mono_l k
  ·intro y0 y1 y2 y3
   unfold impl_signs.l0
   repeat' first
   | (with_reducible exact ih0 _ _ _ _)
   | (with_reducible exact LeO.refl _)
   | (with_reducible exact LeO.none _)
   | (with_reducible refine LeO.ite ?_ ?_)
   | (with_reducible refine LeO.bind ?_ (fun _ => ?_))
   | exact ih0 _ _ _ _
   | exact LeO.none _
   | refine LeO.ite ?_ ?_
   | refine LeO.bind ?_ (fun _ => ?_)
theorem impl_signs.mono : ∀ a0 k, LeO (impl_signs.f k a0) (impl_signs.f (k + 1) a0) := by
 intro a0 k
 have ih0 := impl_signs.mono_l k
 unfold impl_signs.f
 repeat' first
   | (with_reducible exact ih0 _ _ _ _)
   | (with_reducible exact LeO.refl _)
   | (with_reducible exact LeO.none _)
   | (with_reducible refine LeO.ite ?_ ?_)
   | (with_reducible refine LeO.bind ?_ (fun _ => ?_))
   | exact ih0 _ _ _ _
   | exact LeO.none _
   | refine LeO.ite ?_ ?_
   | refine LeO.bind ?_ (fun _ => ?_)
set_option maxHeartbeats 8000000 in
set_option maxRecDepth 100000 in
theorem impl_signs.calls (k : Nat) (A0 : Option Addr) (c0 : Nat) (l0 : List Int) (r1 : ByteArray) (r2 : Bool) (w : World) (hr0 : Kd.C (Kd.int .i8) w A0 l0.length l0) (hc0 : l0.length ≤ c0) (h : impl_signs.f k l0 = some (r1, r2)) :
  Calls Try.prog 15 #[.slice A0 l0.length c0] w fun e w' => e = .returned (.tuple #[.string r1, .bool r2]) ∧ Below w.heap.size w w' := by
 have HR0 := Aside0.mk hr0
 have HC0 := Aside0.mk hc0
 clear hr0 hc0
 have HB := A_ (Below.refl w.heap.size w)
 have H : (impl_signs.l0 k (([] : List Int)) l0 (l0.length : Int) 0) = some (r1, r2) := h
 clear h
 obtain ⟨y168, hy168⟩ : ∃ y_ : List Int, y_ = (([] : List Int)) := ⟨_, rfl⟩
 replace H : (impl_signs.l0 k y168 l0 (l0.length : Int) 0) = some (r1, r2) := by first | (rw [hy168]; with_reducible exact H) | (have H2_ := (Option.bind_some _ _).symm.trans H; rw [hy168]; with_reducible exact H2_) | (have H2_ := (Option.bind_some _ _).symm.trans H; with_reducible exact H2_) | with_reducible exact H | (rw [hy168]; exact H) | exact H
 have Ny168 := Aside0.mk hy168
 clear hy168
 have H' := Aside0.mk H
 clear H
 go_enter Try.func15, Try.ntmps15
 go_wp2_with (first | ((with_reducible refine gate_dst (N := 7) rfl ?_); refine Kd.R_lit (Kd.int .u8) _ 5 ?hg (N := 7) ?hd (xs := ([] : List Int)) (inner := []) (ok := fun _ => True) (okp := fun _ => True) ?hr ?hp (fun _ hk => hk) trivial (Below.refl _ _) (Nat.le_refl _) (by simp) ?_; (case hd => rfl); (case hg => rfl); (case hr => first | (go_simp; done) | (go_simp; rfl)); (case hp => exact (Reps.none _ _)); intro v169 w2 ho3 hb hg_ hnew_; clear hg_ hnew_; (first | rw [← Ny168.out] at ho3 | (simp only [Int.reduceToNat] at ho3; rw [← Ny168.out] at ho3)); have n0_ := A_ (Kd.R_lower ho3 (below_size (bl_ HB))); have n1_ := A_ (below_step (bl_ HB) hb); clear HB; have HO170 := n0_; have HB := n1_; clear n0_ n1_; clear hb ho3))
 go_loopg [4, 10] k (fun kq v4 v10 w' => ∃ (x4_1 : List Int) (x10_1 : Int), v10 = .int .i64 x10_1 ∧ Aside0 (impl_signs.l0 kq x4_1 l0 (l0.length : Int) x10_1 = some (r1, r2)) ∧ Aside0 (kq ≤ k) ∧ Aside0 (Kd.R (Kd.int .u8) 5 w' w.heap.size (fun _ => True) v4 x4_1) ∧ Aside0 (Below w.heap.size w w'))
 case atStart => exact ⟨(y168), (0), rs_, H', ⟨Nat.le_refl _⟩, ⟨pr_ HO170⟩, ⟨bl_ HB⟩⟩
 case round =>
  clear H'
  try clear c1
  try clear p2
  obtain ⟨x4_1, x10_1, rfl, HA, HK1, HO_4, HB⟩ := hrel
  cases gk with
  | zero => exact absurd HA.out (by simp [impl_signs.l0])
  | succ k1 =>
   have H := HA.out
   clear HA
   simp only [impl_signs.l0] at H
   by_cases c4 : x10_1 < (l0.length : Int)
   ·rw [if_pos c4] at H
    have c4b0 : decide (x10_1 < (l0.length : Int)) = true := decide_eq_true c4
    clear c4
    by_cases c5 : 0 ≤ x10_1
    ·rw [if_pos c5] at H
     have c5b0 : decide (0 ≤ x10_1) = true := decide_eq_true c5
     clear c5
     by_cases c6 : x10_1 < (l0.length : Int)
     ·rw [if_pos c6] at H
      have c6b0 : decide (x10_1 < (l0.length : Int)) = true := decide_eq_true c6
      clear c6
      by_cases c7 : (rd l0 x10_1) < (-1)
      ·rw [if_pos c7] at H
       have c7b0 : decide ((rd l0 x10_1) < (-1)) = true := decide_eq_true c7
       clear c7
       simp only [Option.some.injEq, Prod.mk.injEq] at H
       obtain ⟨rfl, rfl⟩ := H
       have p171 : 0 ≤ (x10_1 : Int) := asm_
       have q171 : x10_1 < (l0.length : Int) := asm_
       obtain ⟨ad171, e171, hx171_0⟩ := Kd.at_int HR0.out x10_1 p171 q171
       cases e171
       (try replace hx171_0 := (HB.out.cell (World.block_lt_of_cell? w _ hx171_0)).trans hx171_0)
       replace p171 := eq_true p171
       replace q171 := eq_true q171
       go_wp2
       go_ret2
       exact ⟨by first | rfl | (simp [errW_none, errW_some] <;> rfl) | (simp [*, errW_none, errW_some] <;> rfl), bl_ HB⟩
      ·rw [if_neg c7] at H
       have c7b0 : decide ((rd l0 x10_1) < (-1)) = false := decide_eq_false c7
       clear c7
       by_cases c8 : (rd l0 x10_1) > 1
       ·rw [if_pos c8] at H
        have c8b0 : decide (1 < (rd l0 x10_1)) = true := decide_eq_true c8
        clear c8
        simp only [Option.some.injEq, Prod.mk.injEq] at H
        obtain ⟨rfl, rfl⟩ := H
        have p171 : 0 ≤ (x10_1 : Int) := asm_
        have q171 : x10_1 < (l0.length : Int) := asm_
        obtain ⟨ad171, e171, hx171_0⟩ := Kd.at_int HR0.out x10_1 p171 q171
        cases e171
        (try replace hx171_0 := (HB.out.cell (World.block_lt_of_cell? w _ hx171_0)).trans hx171_0)
        replace p171 := eq_true p171
        replace q171 := eq_true q171
        go_wp2
        go_ret2
        exact ⟨by first | rfl | (simp [errW_none, errW_some] <;> rfl) | (simp [*, errW_none, errW_some] <;> rfl), bl_ HB⟩
       ·rw [if_neg c8] at H
        have c8b0 : decide (1 < (rd l0 x10_1)) = false := decide_eq_false c8
        clear c8
        obtain ⟨ji9, hji9⟩ : ∃ j_ : Int, (IntKind.i8.wrap ((rd l0 x10_1) + 1)) = j_ := ⟨_, rfl⟩
        replace H : (if 0 ≤ (ji9) then (if (ji9) < 3 then (if x4_1.length < 140737488355328 then (impl_signs.l0 k1 (x4_1 ++ [bt (⟨#[45, 48, 43]⟩ : ByteArray) (ji9)]) l0 (l0.length : Int) (wrap64 (x10_1 + 1))) else (none)) else (none)) else (none)) = some (r1, r2) := by first | (rw [hji9] at H; exact H) | (simp only [hji9] at H ⊢; exact H)
        by_cases c10 : 0 ≤ (ji9)
        ·rw [if_pos c10] at H
         have c10b0 : decide (0 ≤ (ji9)) = true := decide_eq_true c10
         clear c10
         by_cases c11 : (ji9) < 3
         ·rw [if_pos c11] at H
          have c11b0 : decide ((ji9) < 3) = true := decide_eq_true c11
          clear c11
          by_cases c13 : x4_1.length < 140737488355328
          ·rw [if_pos c13] at H
           have LMc13 := Aside0.mk c13
           clear c13
           obtain ⟨y172, hy172⟩ : ∃ y_ : List Int, y_ = (x4_1 ++ [bt (⟨#[45, 48, 43]⟩ : ByteArray) (ji9)]) := ⟨_, rfl⟩
           replace H : (impl_signs.l0 k1 y172 l0 (l0.length : Int) (wrap64 (x10_1 + 1))) = some (r1, r2) := by first | (rw [hy172]; with_reducible exact H) | (have H2_ := (Option.bind_some _ _).symm.trans H; rw [hy172]; with_reducible exact H2_) | (have H2_ := (Option.bind_some _ _).symm.trans H; with_reducible exact H2_) | with_reducible exact H | (rw [hy172]; exact H) | exact H
           have Ny172 := Aside0.mk hy172
           clear hy172
           have H' := Aside0.mk H
           clear H
           have p171 : 0 ≤ (x10_1 : Int) := asm_
           have q171 : x10_1 < (l0.length : Int) := asm_
           obtain ⟨ad171, e171, hx171_0⟩ := Kd.at_int HR0.out x10_1 p171 q171
           cases e171
           (try replace hx171_0 := (HB.out.cell (World.block_lt_of_cell? w _ hx171_0)).trans hx171_0)
           replace p171 := eq_true p171
           replace q171 := eq_true q171
           have p12 : 0 ≤ ((ji9) : Int) := asm_
           have q12 : (ji9) < (3 : Int) := asm_
           have hx12 := bt_at (⟨#[45, 48, 43]⟩ : ByteArray) (ji9)
           replace p12 := eq_true p12
           replace q12 := eq_true q12
           go_wp2_with (first | ((with_reducible refine gate_builtin (b := .append) (xs := #[.tmp 20, .tmp 24]) rfl ?_); at_builtin; refine Kd.R_append (Kd.int .u8) (w0 := w) w.heap.size rfl (.tmp 20) (.tmp 24) 52 5 (.int .u8 0) 1 rfl Try.underlying52 info5 rfl (by decide) (by omega) u4 x4_1 (bt (⟨#[45, 48, 43]⟩ : ByteArray) (ji9)) [.int .u8 (bt (⟨#[45, 48, 43]⟩ : ByteArray) (ji9))] (fun _ => True) (fun _ => False) rfl rfl ?aP (fun _ hk => hk.elim) ?aF ?aO ?aB ?aS ?aL ?_; (case aP => exact rfl); (case aB => exact (bl_ HB)); (case aF => exact (fun _ _ => trivial)); (case aO => exact (pr_ HO_4)); (case aS => exact (below_size (bl_ HB))); (case aL => have := LMc13.out; omega); intro v173 w14 ho hb hg hat; rw [← Ny172.out] at ho; have n0_ := A_ (hb); have n1_ := A_ (ho); clear HB; clear HO_4; have HB := n0_; have HO174 := n1_; clear n0_ n1_; clear ho hb hg hat))
           go_roundg k1
           case measure => have := HK1.out; omega
           case rel => exact ⟨(y172), (wrap64 (x10_1 + 1)), rs_, H', ⟨by have := HK1.out; omega⟩, ⟨pr_ HO174⟩, ⟨bl_ HB⟩⟩
          ·rw [if_neg c13] at H
           exact absurd H (by simp)
         ·rw [if_neg c11] at H
          exact absurd H (by simp)
        ·rw [if_neg c10] at H
         exact absurd H (by simp)
     ·rw [if_neg c6] at H
      exact absurd H (by simp)
    ·rw [if_neg c5] at H
     exact absurd H (by simp)
   ·rw [if_neg c4] at H
    have c4b0 : decide (x10_1 < (l0.length : Int)) = false := decide_eq_false c4
    clear c4
    simp only [Option.some.injEq, Prod.mk.injEq] at H
    obtain ⟨rfl, rfl⟩ := H
    have hcv15 := own_string (P := Try.prog) Try.underlying52 Try.underlying5 Try.underlying9 (Kd.own_of_R HO_4.out)
    go_wp2
    go_ret2
    exact ⟨by first | rfl | (simp [errW_none, errW_some] <;> rfl) | (simp [*, errW_none, errW_some] <;> rfl), bl_ HB⟩

end Go.Proofs.Ytmekcockddoaiaa.M
