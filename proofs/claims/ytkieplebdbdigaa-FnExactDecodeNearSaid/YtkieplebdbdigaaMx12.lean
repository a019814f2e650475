-- By this seat's own program over the kit's printer (arrays, functions told by hand); nothing of it is trusted: the kernel checks it.
import Derived.Test.YtkieplebdbdigaaMx0
namespace Go.Proofs.Ytkieplebdbdigaa.M
open Go.RowKit Go.Proofs.YtkieplebdbdigaaW.PrintWords Go.Proofs.YtkieplebdbdigaaW.PrintLast Go.Proofs.YtkieplebdbdigaaW.PrintMore
attribute [local go_sem] max2_int min2_int max_two min_two max_three min_three max_four min_four   -- for this text's walks alone
set_option linter.unusedVariables false
set_option linter.unusedSimpArgs false

/-! ### impl_within: function 21 -/
def impl_within.f (a0 : Int) (a1 : Int) (a2 : Int) : Option (Bool) := if a1 ≤ a0 then (some (decide (a0 ≤ a2))) else (some false)
set_option maxHeartbeats 8000000 in
set_option maxRecDepth 100000 in
theorem impl_within.calls (a0 : Int) (a1 : Int) (a2 : Int) (r : Bool) (w : World) (h : impl_within.f a0 a1 a2 = some r) :
  Calls Try.prog 21 #[.int .i64 a0, .int .i64 a1, .int .i64 a2] w fun e w' => e = .returned (.bool r) ∧ Drawn0 w w' := by
 have H : (if a1 ≤ a0 then (some (decide (a0 ≤ a2))) else (some false)) = some r := h
 clear h
 by_cases c4 : a1 ≤ a0
 ·rw [if_pos c4] at H
  have c4b0 : decide (a1 ≤ a0) = true := decide_eq_true c4
  clear c4
  obtain rfl := Option.some.inj H
  go_enter Try.func21, Try.ntmps21
  go_wp2
  go_ret
  exact ⟨by first | rfl | (simp; done) | (simp [*]; done), by repeat (first | exact Drawn0.refl _ | apply Drawn0.step)⟩
 ·rw [if_neg c4] at H
  have c4b0 : decide (a1 ≤ a0) = false := decide_eq_false c4
  clear c4
  obtain rfl := Option.some.inj H
  go_enter Try.func21, Try.ntmps21
  go_wp2
  go_ret
  exact ⟨by first | rfl | (simp; done) | (simp [*]; done), by repeat (first | exact Drawn0.refl _ | apply Drawn0.step)⟩

/-! ### impl_Word_22: function 22 -/
def impl_Word_22.f (l0 : List (S41)) : Option (Int) := some (l0.length : Int)
set_option maxHeartbeats 8000000 in
set_option maxRecDepth 100000 in
theorem impl_Word_22.calls (A0 : Option Addr) (c0 : Nat) (l0 : List (S41)) (r : Int) (w : World) (hr0 : Kd.C k41 w A0 l0.length l0) (hc0 : l0.length ≤ c0) (h : impl_Word_22.f l0 = some r) :
  Calls Try.prog 22 #[.slice A0 l0.length c0] w fun e w' => e = .returned (.int .i64 r) ∧ Drawn0 w w' := by
 have HR0 := Aside0.mk hr0
 have HC0 := Aside0.mk hc0
 clear hr0 hc0
 have H : (some (l0.length : Int)) = some r := h
 clear h
 obtain rfl := Option.some.inj H
 go_enter Try.func22, Try.ntmps22
 go_wp2
 go_ret
 exact ⟨by first | rfl | (simp; done) | (simp [*]; done), by repeat (first | exact Drawn0.refl _ | apply Drawn0.step)⟩

/-! ### impl_areLetters: function 40 -/
def impl_areLetters.f (a0 : Int) : Option (Bool) := (impl_within.f a0 1 4).bind fun t195 => (some t195)
set_option maxHeartbeats 8000000 in
set_option maxRecDepth 100000 in
theorem impl_areLetters.calls (a0 : Int) (r : Bool) (w : World) (h : impl_areLetters.f a0 = some r) :
  Calls Try.prog 40 #[.int .i64 a0] w fun e w' => e = .returned (.bool r) ∧ Drawn0 w w' := by
 have H : ((impl_within.f a0 1 4).bind fun t195 => (some t195)) = some r := h
 clear h
 replace H := Option.bind_eq_some_iff.mp H
 obtain ⟨t195, A20, H⟩ := H
 replace H : (some t195) = some r := H
 have A2 := Aside0.mk A20
 clear A20
 obtain rfl := Option.some.inj H
 go_enter Try.func40, Try.ntmps40
 go_wp2_with (first | ((with_reducible refine gate_callee (f := 21) rfl ?_); refine goesL_ (some 4) rfl rfl Try.func21 (by kernel_rfl) rfl #[.int .i64 a0, .int .i64 1, .int .i64 4] rfl arg_ ?_; (with_reducible refine (impl_within.calls a0 1 4 t195 _ A2.out).mono ?_); rintro e w' ⟨rfl, ⟨nd, rfl⟩⟩; refine ⟨_, rfl, ?_⟩))
 go_ret
 exact ⟨by first | rfl | (simp; done) | (simp [*]; done), by repeat (first | exact Drawn0.refl _ | apply Drawn0.step)⟩

/-! ### impl_isKind: function 41 -/
def impl_isKind.f (a0 : Int) : Option (Bool) := (impl_within.f a0 0 2).bind fun t196 => (some t196)
set_option maxHeartbeats 8000000 in
set_option maxRecDepth 100000 in
theorem impl_isKind.calls (a0 : Int) (r : Bool) (w : World) (h : impl_isKind.f a0 = some r) :
  Calls Try.prog 41 #[.int .i64 a0] w fun e w' => e = .returned (.bool r) ∧ Drawn0 w w' := by
 have H : ((impl_within.f a0 0 2).bind fun t196 => (some t196)) = some r := h
 clear h
 replace H := Option.bind_eq_some_iff.mp H
 obtain ⟨t196, A20, H⟩ := H
 replace H : (some t196) = some r := H
 have A2 := Aside0.mk A20
 clear A20
 obtain rfl := Option.some.inj H
 go_enter Try.func41, Try.ntmps41
 go_wp2_with (first | ((with_reducible refine gate_callee (f := 21) rfl ?_); refine goesL_ (some 4) rfl rfl Try.func21 (by kernel_rfl) rfl #[.int .i64 a0, .int .i64 0, .int .i64 2] rfl arg_ ?_; (with_reducible refine (impl_within.calls a0 0 2 t196 _ A2.out).mono ?_); rintro e w' ⟨rfl, ⟨nd, rfl⟩⟩; refine ⟨_, rfl, ?_⟩))
 go_ret
 exact ⟨by first | rfl | (simp; done) | (simp [*]; done), by repeat (first | exact Drawn0.refl _ | apply Drawn0.step)⟩

/-! ### impl_ValidWord: function 32 -/
def impl_ValidWord.l0 : Nat → Int → Int → Int → Int → Int → Int → Option (Bool)
 | 0, _, _, _, _, _, _ => none
 | k + 1, x0, x11, x504, x505, x506, x507 => if x11 < 4 then (if 0 ≤ x11 then (if (rd [x504, x505, x506, x507] x11) < (-1) then (some false) else (if (rd [x504, x505, x506, x507] x11) > 1 then (some false) else (if x11 ≥ x0 then (if (rd [x504, x505, x506, x507] x11) = 0 then (impl_ValidWord.l0 k x0 (wrap64 (x11 + 1)) x504 x505 x506 x507) else (some false)) else (impl_ValidWord.l0 k x0 (wrap64 (x11 + 1)) x504 x505 x506 x507)))) else (none)) else (some true)
def impl_ValidWord.f (k : Nat) (a0 : Int) (a1_0 : Int) (a1_1 : Int) (a1_2 : Int) (a1_3 : Int) : Option (Bool) := (impl_areLetters.f a0).bind fun t198 => (if t198 = true then (impl_ValidWord.l0 k a0 0 a1_0 a1_1 a1_2 a1_3) else (some false))
theorem impl_ValidWord.mono_l : ∀ k, (∀ y0 y1 y2 y3 y4 y5, LeO (impl_ValidWord.l0 k y0 y1 y2 y3 y4 y5) (impl_ValidWord.l0 (k + 1) y0 y1 y2 y3 y4 y5))
 | 0 => fun _ _ _ _ _ _ r h => by simp [impl_ValidWord.l0] at h
 | k + 1 => by
  have ih0 := impl_ValidWord.mono_l k
  ·intro y0 y1 y2 y3 y4 y5
   unfold impl_ValidWord.l0
   repeat' first
   | (with_reducible exact ih0 _ _ _ _ _ _)
   | (with_reducible exact LeO.refl _)
   | (with_reducible exact LeO.none _)
   | (with_reducible refine LeO.ite ?_ ?_)
   | (with_reducible refine LeO.bind ?_ (fun _ => ?_))
   | exact ih0 _ _ _ _ _ _
   | exact LeO.none _
   | refine LeO.ite ?_ ?_
   | refine LeO.bind ?_ (fun _ => ?_)
theorem impl_ValidWord.mono : ∀ a0 a1 a2 a3 a4 k, LeO (impl_ValidWord.f k a0 a1 a2 a3 a4) (impl_ValidWord.f (k + 1) a0 a1 a2 a3 a4) := by
 intro a0 a1 a2 a3 a4 k
 have ih0 := impl_ValidWord.mono_l k
 unfold impl_ValidWord.f
 repeat' first
   | (with_reducible exact ih0 _ _ _ _ _ _)
   | (with_reducible exact LeO.refl _)
   | (with_reducible exact LeO.none _)
   | (with_reducible refine LeO.ite ?_ ?_)
   | (with_reducible refine LeO.bind ?_ (fun _ => ?_))
   | exact ih0 _ _ _ _ _ _
   | exact LeO.none _
   | refine LeO.ite ?_ ?_
   | refine LeO.bind ?_ (fun _ => ?_)
set_option maxHeartbeats 8000000 in
set_option maxRecDepth 100000 in
theorem impl_ValidWord.calls (k : Nat) (a0 : Int) (a1_0 : Int) (a1_1 : Int) (a1_2 : Int) (a1_3 : Int) (r : Bool) (w : World) (h : impl_ValidWord.f k a0 a1_0 a1_1 a1_2 a1_3 = some r) :
  Calls Try.prog 32 #[.int .i64 a0, .agg #[.int .i8 a1_0, .int .i8 a1_1, .int .i8 a1_2, .int .i8 a1_3]] w fun e w' => e = .returned (.bool r) ∧ Below w.heap.size w w' := by
 have hu41 := Try.underlying41
 have HB := A_ (Below.refl w.heap.size w)
 have H : ((impl_areLetters.f a0).bind fun t198 => (if t198 = true then (impl_ValidWord.l0 k a0 0 a1_0 a1_1 a1_2 a1_3) else (some false))) = some r := h
 clear h
 replace H := Option.bind_eq_some_iff.mp H
 obtain ⟨t198, A30, H⟩ := H
 replace H : (if t198 = true then (impl_ValidWord.l0 k a0 0 a1_0 a1_1 a1_2 a1_3) else (some false)) = some r := H
 have A3 := Aside0.mk A30
 clear A30
 by_cases c4 : t198 = true
 ·subst c4
  have H1 : (impl_ValidWord.l0 k a0 0 a1_0 a1_1 a1_2 a1_3) = some r := by rw [if_pos rfl] at H; exact H
  clear H
  have H := H1
  clear H1
  have H' := Aside0.mk H
  clear H
  go_enter Try.func32, Try.ntmps32
  go_wp2_with (first | ((with_reducible refine gate_dst (N := 3) rfl ?_); refine box_event ?hg (N := 3) ?hd (cs := #[.int .i8 a1_0, .int .i8 a1_1, .int .i8 a1_2, .int .i8 a1_3]) (t := 41) ?hr ?_; (case hd => rfl); (case hg => rfl); (case hr => first | (go_simp; done) | (go_simp; rfl)); intro gb197 hg w5 hbox hb; have n0_ := A_ (below_step (bl_ HB) hb); have n1_ := A_ (hbox); have n2_ := A_ ((by rw [hg]; exact (below_size (bl_ HB)) : w.heap.size ≤ gb197)); have n3_ := n2_; clear HB; have HB := n0_; have BK197 := n1_; have GW197 := n2_; have GE197 := n3_; clear n0_ n1_ n2_ n3_; clear hb hbox hg) | ((with_reducible refine gate_callee (f := 40) rfl ?_); refine goesL_ (some 8) rfl rfl Try.func40 (by kernel_rfl) rfl #[.int .i64 a0] rfl arg_ ?_; (with_reducible refine (impl_areLetters.calls a0 true _ A3.out).mono ?_); rintro e w' ⟨rfl, ⟨nd, rfl⟩⟩; refine ⟨_, rfl, ?_⟩; obtain ⟨hcz6_0, hcz6_1, hcz6_2, hcz6_3, hfz6_0, hfz6_1, hfz6_2, hfz6_3⟩ := cl4_ BK197))
  go_loopg [11] k (fun kq v11 w' => ∃ (x11_1 : Int), v11 = .int .i64 x11_1 ∧ Aside0 (impl_ValidWord.l0 kq a0 x11_1 a1_0 a1_1 a1_2 a1_3 = some r) ∧ Aside0 (kq ≤ k) ∧ Aside0 (w'.heap[gb197]? = some (.cells #[.int .i8 a1_0, .int .i8 a1_1, .int .i8 a1_2, .int .i8 a1_3] 41 (0, 0))) ∧ Aside0 (Below w.heap.size w w'))
  case atStart => exact ⟨(0), rs_, H', ⟨Nat.le_refl _⟩, ⟨pl_ BK197⟩, ⟨bl_ HB⟩⟩
  case round =>
   clear H'
   try clear p2
   try clear c3
   try clear c4
   try clear hcz6_0
   try clear hcz6_1
   try clear hcz6_2
   try clear hcz6_3
   try clear hfz6_0
   try clear hfz6_1
   try clear hfz6_2
   try clear hfz6_3
   obtain ⟨x11_1, rfl, HA, HK1, BK197, HB⟩ := hrel
   cases gk with
   | zero => exact absurd HA.out (by simp [impl_ValidWord.l0])
   | succ k1 =>
    have H := HA.out
    clear HA
    simp only [impl_ValidWord.l0] at H
    by_cases c7 : x11_1 < 4
    ·rw [if_pos c7] at H
     have c7b0 : decide (x11_1 < 4) = true := decide_eq_true c7
     clear c7
     by_cases c8 : 0 ≤ x11_1
     ·rw [if_pos c8] at H
      have c8b0 : decide (0 ≤ x11_1) = true := decide_eq_true c8
      clear c8
      by_cases c10 : (rd [a1_0, a1_1, a1_2, a1_3] x11_1) < (-1)
      ·rw [if_pos c10] at H
       have c10b0 : decide ((rd [a1_0, a1_1, a1_2, a1_3] x11_1) < (-1)) = true := decide_eq_true c10
       clear c10
       obtain rfl := Option.some.inj H
       have p9 : 0 ≤ (x11_1 : Int) := asm_
       have q9 : (x11_1 : Int) < 4 := asm_
       have hxv9 : ∀ W_ : World, (Instr.index 41 (.agg #[.int .i8 a1_0, .int .i8 a1_1, .int .i8 a1_2, .int .i8 a1_3]) (.int .i64 x11_1)).run Try.prog W_ = .ok (.int .i8 (rd [a1_0, a1_1, a1_2, a1_3] x11_1)) W_ := fun W_ => ard_index (k := .i8) (l := [a1_0, a1_1, a1_2, a1_3]) Try.underlying41 (by kernel_rfl) (by kernel_rfl) ⟨_, Try.underlying22⟩ rfl p9 q9 W_
       replace p9 := eq_true p9
       replace q9 := eq_true q9
       go_wp2
       go_ret
       exact ⟨by first | rfl | (simp [errW_none, errW_some] <;> rfl) | (simp [*, errW_none, errW_some] <;> rfl), bl_ HB⟩
      ·rw [if_neg c10] at H
       have c10b0 : decide ((rd [a1_0, a1_1, a1_2, a1_3] x11_1) < (-1)) = false := decide_eq_false c10
       clear c10
       by_cases c11 : (rd [a1_0, a1_1, a1_2, a1_3] x11_1) > 1
       ·rw [if_pos c11] at H
        have c11b0 : decide (1 < (rd [a1_0, a1_1, a1_2, a1_3] x11_1)) = true := decide_eq_true c11
        clear c11
        obtain rfl := Option.some.inj H
        have p9 : 0 ≤ (x11_1 : Int) := asm_
        have q9 : (x11_1 : Int) < 4 := asm_
        have hxv9 : ∀ W_ : World, (Instr.index 41 (.agg #[.int .i8 a1_0, .int .i8 a1_1, .int .i8 a1_2, .int .i8 a1_3]) (.int .i64 x11_1)).run Try.prog W_ = .ok (.int .i8 (rd [a1_0, a1_1, a1_2, a1_3] x11_1)) W_ := fun W_ => ard_index (k := .i8) (l := [a1_0, a1_1, a1_2, a1_3]) Try.underlying41 (by kernel_rfl) (by kernel_rfl) ⟨_, Try.underlying22⟩ rfl p9 q9 W_
        replace p9 := eq_true p9
        replace q9 := eq_true q9
        go_wp2
        go_ret
        exact ⟨by first | rfl | (simp [errW_none, errW_some] <;> rfl) | (simp [*, errW_none, errW_some] <;> rfl), bl_ HB⟩
       ·rw [if_neg c11] at H
        have c11b0 : decide (1 < (rd [a1_0, a1_1, a1_2, a1_3] x11_1)) = false := decide_eq_false c11
        clear c11
        by_cases c12 : x11_1 ≥ a0
        ·rw [if_pos c12] at H
         have c12b0 : decide (a0 ≤ x11_1) = true := decide_eq_true c12
         clear c12
         by_cases c13 : (rd [a1_0, a1_1, a1_2, a1_3] x11_1) = 0
         ·rw [if_pos c13] at H
          have c13b0 : ((rd [a1_0, a1_1, a1_2, a1_3] x11_1) == 0) = true := beq_iff_eq.mpr c13
          have c13b1 : ((rd [a1_0, a1_1, a1_2, a1_3] x11_1) != 0) = false := bne_eq_false_iff_eq.mpr c13
          clear c13
          have H' := Aside0.mk H
          clear H
          have p9 : 0 ≤ (x11_1 : Int) := asm_
          have q9 : (x11_1 : Int) < 4 := asm_
          have hxv9 : ∀ W_ : World, (Instr.index 41 (.agg #[.int .i8 a1_0, .int .i8 a1_1, .int .i8 a1_2, .int .i8 a1_3]) (.int .i64 x11_1)).run Try.prog W_ = .ok (.int .i8 (rd [a1_0, a1_1, a1_2, a1_3] x11_1)) W_ := fun W_ => ard_index (k := .i8) (l := [a1_0, a1_1, a1_2, a1_3]) Try.underlying41 (by kernel_rfl) (by kernel_rfl) ⟨_, Try.underlying22⟩ rfl p9 q9 W_
          replace p9 := eq_true p9
          replace q9 := eq_true q9
          go_wp2
          go_roundg k1
          case measure => have := HK1.out; omega
          case rel => exact ⟨(wrap64 (x11_1 + 1)), rs_, H', ⟨by have := HK1.out; omega⟩, ⟨pl_ BK197⟩, ⟨bl_ HB⟩⟩
         ·rw [if_neg c13] at H
          have c13b0 : ((rd [a1_0, a1_1, a1_2, a1_3] x11_1) == 0) = false := beq_eq_false_iff_ne.mpr c13
          have c13b1 : ((rd [a1_0, a1_1, a1_2, a1_3] x11_1) != 0) = true := bne_iff_ne.mpr c13
          obtain rfl := Option.some.inj H
          have p9 : 0 ≤ (x11_1 : Int) := asm_
          have q9 : (x11_1 : Int) < 4 := asm_
          have hxv9 : ∀ W_ : World, (Instr.index 41 (.agg #[.int .i8 a1_0, .int .i8 a1_1, .int .i8 a1_2, .int .i8 a1_3]) (.int .i64 x11_1)).run Try.prog W_ = .ok (.int .i8 (rd [a1_0, a1_1, a1_2, a1_3] x11_1)) W_ := fun W_ => ard_index (k := .i8) (l := [a1_0, a1_1, a1_2, a1_3]) Try.underlying41 (by kernel_rfl) (by kernel_rfl) ⟨_, Try.underlying22⟩ rfl p9 q9 W_
          replace p9 := eq_true p9
          replace q9 := eq_true q9
          go_wp2
          go_ret
          exact ⟨by first | rfl | (simp [errW_none, errW_some] <;> rfl) | (simp [*, errW_none, errW_some] <;> rfl), bl_ HB⟩
        ·rw [if_neg c12] at H
         have c12b0 : decide (a0 ≤ x11_1) = false := decide_eq_false c12
         clear c12
         have H' := Aside0.mk H
         clear H
         have p9 : 0 ≤ (x11_1 : Int) := asm_
         have q9 : (x11_1 : Int) < 4 := asm_
         have hxv9 : ∀ W_ : World, (Instr.index 41 (.agg #[.int .i8 a1_0, .int .i8 a1_1, .int .i8 a1_2, .int .i8 a1_3]) (.int .i64 x11_1)).run Try.prog W_ = .ok (.int .i8 (rd [a1_0, a1_1, a1_2, a1_3] x11_1)) W_ := fun W_ => ard_index (k := .i8) (l := [a1_0, a1_1, a1_2, a1_3]) Try.underlying41 (by kernel_rfl) (by kernel_rfl) ⟨_, Try.underlying22⟩ rfl p9 q9 W_
         replace p9 := eq_true p9
         replace q9 := eq_true q9
         go_wp2
         go_roundg k1
         case measure => have := HK1.out; omega
         case rel => exact ⟨(wrap64 (x11_1 + 1)), rs_, H', ⟨by have := HK1.out; omega⟩, ⟨pl_ BK197⟩, ⟨bl_ HB⟩⟩
     ·rw [if_neg c8] at H
      exact absurd H (by simp)
    ·rw [if_neg c7] at H
     have c7b0 : decide (x11_1 < 4) = false := decide_eq_false c7
     clear c7
     obtain rfl := Option.some.inj H
     go_wp2
     go_ret
     exact ⟨by first | rfl | (simp [errW_none, errW_some] <;> rfl) | (simp [*, errW_none, errW_some] <;> rfl), bl_ HB⟩
 ·replace c4 := Bool.eq_false_iff.mpr c4
  subst c4
  have H1 : (some false) = some r := by rw [if_neg (show ¬ (false = true) by decide)] at H; exact H
  clear H
  have H := H1
  clear H1
  obtain rfl := Option.some.inj H
  go_enter Try.func32, Try.ntmps32
  go_wp2_with (first | ((with_reducible refine gate_dst (N := 3) rfl ?_); refine box_event ?hg (N := 3) ?hd (cs := #[.int .i8 a1_0, .int .i8 a1_1, .int .i8 a1_2, .int .i8 a1_3]) (t := 41) ?hr ?_; (case hd => rfl); (case hg => rfl); (case hr => first | (go_simp; done) | (go_simp; rfl)); intro gb197 hg w14 hbox hb; have n0_ := A_ (below_step (bl_ HB) hb); have n1_ := A_ (hbox); have n2_ := A_ ((by rw [hg]; exact (below_size (bl_ HB)) : w.heap.size ≤ gb197)); have n3_ := n2_; clear HB; have HB := n0_; have BK197 := n1_; have GW197 := n2_; have GE197 := n3_; clear n0_ n1_ n2_ n3_; clear hb hbox hg) | ((with_reducible refine gate_callee (f := 40) rfl ?_); refine goesL_ (some 8) rfl rfl Try.func40 (by kernel_rfl) rfl #[.int .i64 a0] rfl arg_ ?_; (with_reducible refine (impl_areLetters.calls a0 false _ A3.out).mono ?_); rintro e w' ⟨rfl, ⟨nd, rfl⟩⟩; refine ⟨_, rfl, ?_⟩))
  go_ret
  exact ⟨by first | rfl | (simp [errW_none, errW_some] <;> rfl) | (simp [*, errW_none, errW_some] <;> rfl), bl_ HB⟩

/-! ### impl_ValidFixed_1_43: function 43 -/
def impl_ValidFixed_1_43.f (k : Nat) (a0_0 : Int) (a0_1 : Int) (a0_2 : Int) (a0_3 : Int) (a1_0 : Int) : Option (Bool) := (impl_ValidWord.f k a1_0 a0_0 a0_1 a0_2 a0_3).bind fun t201 => (some (!t201))
theorem impl_ValidFixed_1_43.mono : ∀ a0 a1 a2 a3 a4 k, LeO (impl_ValidFixed_1_43.f k a0 a1 a2 a3 a4) (impl_ValidFixed_1_43.f (k + 1) a0 a1 a2 a3 a4) := by
 intro a0 a1 a2 a3 a4 k
 unfold impl_ValidFixed_1_43.f
 repeat' first
   | (with_reducible exact impl_ValidWord.mono _ _ _ _ _ _)
   | (with_reducible exact LeO.refl _)
   | (with_reducible exact LeO.none _)
   | (with_reducible refine LeO.ite ?_ ?_)
   | (with_reducible refine LeO.bind ?_ (fun _ => ?_))
   | exact impl_ValidWord.mono _ _ _ _ _ _
   | exact LeO.none _
   | refine LeO.ite ?_ ?_
   | refine LeO.bind ?_ (fun _ => ?_)
set_option maxHeartbeats 8000000 in
set_option maxRecDepth 100000 in
theorem impl_ValidFixed_1_43.calls (k : Nat) (a0_0 : Int) (a0_1 : Int) (a0_2 : Int) (a0_3 : Int) (gp1 : Nat) (a1_0 : Int) (r : Bool) (w : World) (hb1 : w.heap[gp1]? = some (.cells #[.int .i64 a1_0] 2 (0, 0))) (h : impl_ValidFixed_1_43.f k a0_0 a0_1 a0_2 a0_3 a1_0 = some r) :
  Calls Try.prog 43 #[.agg #[.int .i8 a0_0, .int .i8 a0_1, .int .i8 a0_2, .int .i8 a0_3], .pointer (some ⟨gp1, 0, none⟩)] w fun e w' => e = .returned (.bool r) ∧ Below w.heap.size w w' := by
 have hu41 := Try.underlying41
 have BK199 := Aside0.mk hb1
 clear hb1
 have HB := A_ (Below.refl w.heap.size w)
 have H : ((impl_ValidWord.f k a1_0 a0_0 a0_1 a0_2 a0_3).bind fun t201 => (some (!t201))) = some r := h
 clear h
 replace H := Option.bind_eq_some_iff.mp H
 obtain ⟨t201, A30, H⟩ := H
 replace H : (some (!t201)) = some r := H
 have A3 := Aside0.mk A30
 clear A30
 obtain rfl := Option.some.inj H
 go_enter Try.func43, Try.ntmps43
 go_wp2_with (first | ((with_reducible refine gate_dst (N := 2) rfl ?_); refine box_event ?hg (N := 2) ?hd (cs := #[.int .i8 a0_0, .int .i8 a0_1, .int .i8 a0_2, .int .i8 a0_3]) (t := 41) ?hr ?_; (case hd => rfl); (case hg => rfl); (case hr => first | (go_simp; done) | (go_simp; rfl)); intro gb200 hg w4 hbox hb; have n0_ := A_ (blk_below (pl_ BK199) hb); have n1_ := A_ (below_step (bl_ HB) hb); have n2_ := A_ (hbox); have n3_ := A_ ((by rw [hg]; exact (below_size (bl_ HB)) : w.heap.size ≤ gb200)); have n4_ := n3_; have n5_ := A_ ((by rw [hg]; exact Nat.ne_of_lt (blk_lt (pl_ BK199)) : gp1 ≠ gb200)); have n6_ := Aside0.mk n5_.out.symm; clear BK199; clear HB; have BK199 := n0_; have HB := n1_; have BK200 := n2_; have GW200 := n3_; have GE200 := n4_; have NB199_200 := n5_; have NB200_199 := n6_; clear n0_ n1_ n2_ n3_ n4_ n5_ n6_; clear hb hbox hg; have hnb5 := NB199_200.out; have hnc5 := NB200_199.out; obtain ⟨hcz6_0, hfz6_0⟩ := cl1_ BK199; obtain ⟨hcz7_0, hcz7_1, hcz7_2, hcz7_3, hfz7_0, hfz7_1, hfz7_2, hfz7_3⟩ := cl4_ BK200) | ((with_reducible refine gate_callee (f := 32) rfl ?_); refine goesL_ (some 6) rfl rfl Try.func32 (by kernel_rfl) rfl #[.int .i64 a1_0, .agg #[.int .i8 a0_0, .int .i8 a0_1, .int .i8 a0_2, .int .i8 a0_3]] rfl arg_ ?_; (with_reducible refine (impl_ValidWord.calls k a1_0 a0_0 a0_1 a0_2 a0_3 t201 _ A3.out).mono ?_); rintro e w8 ⟨rfl, hb⟩; refine ⟨_, rfl, ?_⟩; have n0_ := A_ (blk_below (pl_ BK199) hb); have n1_ := A_ (blk_below (pl_ BK200) hb); have n2_ := A_ (below_step (bl_ HB) hb); clear BK199; clear BK200; clear HB; have BK199 := n0_; have BK200 := n1_; have HB := n2_; clear n0_ n1_ n2_; (try clear hb); (try clear hb2); (try clear hk); (try clear hi)))
 go_ret
 exact ⟨by first | rfl | (simp [errW_none, errW_some] <;> rfl) | (simp [*, errW_none, errW_some] <;> rfl), bl_ HB⟩

end Go.Proofs.Ytkieplebdbdigaa.M
