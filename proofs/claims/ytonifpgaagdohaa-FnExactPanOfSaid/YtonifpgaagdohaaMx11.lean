-- By this seat's own program over the kit's printer (arrays, functions told by hand); nothing of it is trusted: the kernel checks it.
import Derived.Test.YtonifpgaagdohaaMx0
import Derived.Test.YtonifpgaagdohaaMx10
namespace Go.Proofs.Ytonifpgaagdohaa.M
open Go.RowKit Go.Proofs.YtonifpgaagdohaaW.PrintWords Go.Proofs.YtonifpgaagdohaaW.PrintLast Go.Proofs.YtonifpgaagdohaaW.PrintMore
attribute [local go_sem] max2_int min2_int max_two min_two max_three min_three max_four min_four   -- for this text's walks alone
set_option linter.unusedVariables false
set_option linter.unusedSimpArgs false

/-! ### impl_Word_55_at_40: function 55 -/
def impl_Word_55_at_40.l0 : Nat → List (S40) → Int → Int → Int → Option (Int)
 | 0, _, _, _, _ => none
 | k + 1, x0, x7, x8, x179000 => if x8 < x7 then (if 0 ≤ x8 then (if x8 < (x0.length : Int) then ((impl_ValidFixed_1_40.f k ((rd_T40 x0 x8).f0) ((rd_T40 x0 x8).f1) ((rd_T40 x0 x8).f2) ((rd_T40 x0 x8).f3) x179000).bind fun t180 => (if t180 = true then (some x8) else (impl_Word_55_at_40.l0 k x0 x7 (wrap64 (x8 + 1)) x179000))) else (none)) else (none)) else (some (-1))
def impl_Word_55_at_40.f (k : Nat) (l0 : List (S40)) (a1_0 : Int) : Option (Int) := impl_Word_55_at_40.l0 k l0 (l0.length : Int) 0 a1_0
theorem impl_Word_55_at_40.mono_l : ∀ k, (∀ y0 y1 y2 y3, LeO (impl_Word_55_at_40.l0 k y0 y1 y2 y3) (impl_Word_55_at_40.l0 (k + 1) y0 y1 y2 y3))
 | 0 => fun _ _ _ _ r h => by simp [impl_Word_55_at_40.l0] at h
 | k + 1 => by
  have ih0 := impl_Word_55_at_40.mono_l k
  ·intro y0 y1 y2 y3
   unfold impl_Word_55_at_40.l0
   repeat' first
   | (with_reducible exact ih0 _ _ _ _)
   | (with_reducible exact impl_ValidFixed_1_40.mono _ _ _ _ _ _)
   | (with_reducible exact LeO.refl _)
   | (with_reducible exact LeO.none _)
   | (with_reducible refine LeO.ite ?_ ?_)
   | (with_reducible refine LeO.bind ?_ (fun _ => ?_))
   | exact ih0 _ _ _ _
   | exact impl_ValidFixed_1_40.mono _ _ _ _ _ _
   | exact LeO.none _
   | refine LeO.ite ?_ ?_
   | refine LeO.bind ?_ (fun _ => ?_)
theorem impl_Word_55_at_40.mono : ∀ a0 a1 k, LeO (impl_Word_55_at_40.f k a0 a1) (impl_Word_55_at_40.f (k + 1) a0 a1) := by
 intro a0 a1 k
 have ih0 := impl_Word_55_at_40.mono_l k
 unfold impl_Word_55_at_40.f
 repeat' first
   | (with_reducible exact ih0 _ _ _ _)
   | (with_reducible exact impl_ValidFixed_1_40.mono _ _ _ _ _ _)
   | (with_reducible exact LeO.refl _)
   | (with_reducible exact LeO.none _)
   | (with_reducible refine LeO.ite ?_ ?_)
   | (with_reducible refine LeO.bind ?_ (fun _ => ?_))
   | exact ih0 _ _ _ _
   | exact impl_ValidFixed_1_40.mono _ _ _ _ _ _
   | exact LeO.none _
   | refine LeO.ite ?_ ?_
   | refine LeO.bind ?_ (fun _ => ?_)
set_option maxHeartbeats 8000000 in
set_option maxRecDepth 100000 in
theorem impl_Word_55_at_40.calls (k : Nat) (A0 : Option Addr) (c0 : Nat) (l0 : List (S40)) (gp1_0 : Nat) (a1_0 : Int) (r : Int) (w : World) (hr0 : Kd.C k40 w A0 l0.length l0) (hc0 : l0.length ≤ c0) (hb1_0 : w.heap[gp1_0]? = some (.cells #[.int .i64 a1_0] 2 (0, 0))) (h : impl_Word_55_at_40.f k l0 a1_0 = some r) :
  Calls Try.prog 55 #[.slice A0 l0.length c0, .func (.func 40) #[] #[.pointer (some ⟨gp1_0, 0, none⟩)]] w fun e w' => e = .returned (.int .i64 r) ∧ Below w.heap.size w w' := by
 have hu40 := Try.underlying40
 have HR0 := Aside0.mk hr0
 have HC0 := Aside0.mk hc0
 clear hr0 hc0
 have BK178 := Aside0.mk hb1_0
 clear hb1_0
 have HB := A_ (Below.refl w.heap.size w)
 have H : (impl_Word_55_at_40.l0 k l0 (l0.length : Int) 0 a1_0) = some r := h
 clear h
 have H' := Aside0.mk H
 clear H
 go_enter Try.func55, Try.ntmps55
 go_wp2
 go_loopg [8] k (fun kq v8 w' => ∃ (x8_1 : Int), v8 = .int .i64 x8_1 ∧ Aside0 (impl_Word_55_at_40.l0 kq l0 (l0.length : Int) x8_1 a1_0 = some r) ∧ Aside0 (kq ≤ k) ∧ Aside0 (w'.heap[gp1_0]? = some (.cells #[.int .i64 a1_0] 2 (0, 0))) ∧ Aside0 (Below w.heap.size w w'))
 case atStart => exact ⟨(0), rs_, H', ⟨Nat.le_refl _⟩, ⟨pl_ BK178⟩, ⟨bl_ HB⟩⟩
 case round =>
  clear H'
  try clear p1
  try clear p2
  obtain ⟨x8_1, rfl, HA, HK1, BK178, HB⟩ := hrel
  cases gk with
  | zero => exact absurd HA.out (by simp [impl_Word_55_at_40.l0])
  | succ k1 =>
   have H := HA.out
   clear HA
   simp only [impl_Word_55_at_40.l0] at H
   by_cases c3 : x8_1 < (l0.length : Int)
   ·rw [if_pos c3] at H
    have c3b0 : decide (x8_1 < (l0.length : Int)) = true := decide_eq_true c3
    clear c3
    by_cases c4 : 0 ≤ x8_1
    ·rw [if_pos c4] at H
     have c4b0 : decide (0 ≤ x8_1) = true := decide_eq_true c4
     clear c4
     by_cases c5 : x8_1 < (l0.length : Int)
     ·rw [if_pos c5] at H
      have c5b0 : decide (x8_1 < (l0.length : Int)) = true := decide_eq_true c5
      clear c5
      replace H := Option.bind_eq_some_iff.mp H
      obtain ⟨t180, A60, H⟩ := H
      replace H : (if t180 = true then (some x8_1) else (impl_Word_55_at_40.l0 k1 l0 (l0.length : Int) (wrap64 (x8_1 + 1)) a1_0)) = some r := H
      have A6 := Aside0.mk A60
      clear A60
      by_cases c7 : t180 = true
      ·subst c7
       have H1 : (some x8_1) = some r := by rw [if_pos rfl] at H; exact H
       clear H
       have H := H1
       clear H1
       obtain rfl := Option.some.inj H
       have p179 : 0 ≤ (x8_1 : Int) := asm_
       have q179 : x8_1 < (l0.length : Int) := asm_
       obtain ⟨ad179, e179, hx179_0, hx179_1, hx179_2, hx179_3⟩ := at_T40 HR0.out x8_1 p179 q179
       cases e179
       (try replace hx179_0 := (HB.out.cell (World.block_lt_of_cell? w _ hx179_0)).trans hx179_0)
       (try replace hx179_1 := (HB.out.cell (World.block_lt_of_cell? w _ hx179_1)).trans hx179_1)
       (try replace hx179_2 := (HB.out.cell (World.block_lt_of_cell? w _ hx179_2)).trans hx179_2)
       (try replace hx179_3 := (HB.out.cell (World.block_lt_of_cell? w _ hx179_3)).trans hx179_3)
       replace p179 := eq_true p179
       replace q179 := eq_true q179
       go_wp2_with (first | (go_at_call 40; (with_reducible refine (impl_ValidFixed_1_40.calls k1 ((rd_T40 l0 x8_1).f0) ((rd_T40 l0 x8_1).f1) ((rd_T40 l0 x8_1).f2) ((rd_T40 l0 x8_1).f3) gp1_0 a1_0 true _ ?side1 A6.out).mono ?_); (case side1 => exact (pl_ BK178)); rintro e w8 ⟨rfl, hb⟩; have n0_ := A_ (blk_below (g := gp1_0) (o := .cells #[.int .i64 a1_0] 2 (0, 0)) (pl_ BK178) hb); have n1_ := A_ (below_step (bl_ HB) hb); clear BK178; clear HB; have BK178 := n0_; have HB := n1_; clear n0_ n1_; (try clear hb); (try clear hb2); (try clear hk); (try clear hi)))
       go_ret
       exact ⟨by first | rfl | (simp [errW_none, errW_some] <;> rfl) | (simp [*, errW_none, errW_some] <;> rfl), bl_ HB⟩
      ·replace c7 := Bool.eq_false_iff.mpr c7
       subst c7
       have H1 : (impl_Word_55_at_40.l0 k1 l0 (l0.length : Int) (wrap64 (x8_1 + 1)) a1_0) = some r := by rw [if_neg (show ¬ (false = true) by decide)] at H; exact H
       clear H
       have H := H1
       clear H1
       have H' := Aside0.mk H
       clear H
       have p179 : 0 ≤ (x8_1 : Int) := asm_
       have q179 : x8_1 < (l0.length : Int) := asm_
       obtain ⟨ad179, e179, hx179_0, hx179_1, hx179_2, hx179_3⟩ := at_T40 HR0.out x8_1 p179 q179
       cases e179
       (try replace hx179_0 := (HB.out.cell (World.block_lt_of_cell? w _ hx179_0)).trans hx179_0)
       (try replace hx179_1 := (HB.out.cell (World.block_lt_of_cell? w _ hx179_1)).trans hx179_1)
       (try replace hx179_2 := (HB.out.cell (World.block_lt_of_cell? w _ hx179_2)).trans hx179_2)
       (try replace hx179_3 := (HB.out.cell (World.block_lt_of_cell? w _ hx179_3)).trans hx179_3)
       replace p179 := eq_true p179
       replace q179 := eq_true q179
       go_wp2_with (first | (go_at_call 40; (with_reducible refine (impl_ValidFixed_1_40.calls k1 ((rd_T40 l0 x8_1).f0) ((rd_T40 l0 x8_1).f1) ((rd_T40 l0 x8_1).f2) ((rd_T40 l0 x8_1).f3) gp1_0 a1_0 false _ ?side1 A6.out).mono ?_); (case side1 => exact (pl_ BK178)); rintro e w9 ⟨rfl, hb⟩; have n0_ := A_ (blk_below (g := gp1_0) (o := .cells #[.int .i64 a1_0] 2 (0, 0)) (pl_ BK178) hb); have n1_ := A_ (below_step (bl_ HB) hb); clear BK178; clear HB; have BK178 := n0_; have HB := n1_; clear n0_ n1_; (try clear hb); (try clear hb2); (try clear hk); (try clear hi)))
       go_roundg k1
       case measure => have := HK1.out; omega
       case rel => exact ⟨(wrap64 (x8_1 + 1)), rs_, H', ⟨by have := HK1.out; omega⟩, ⟨pl_ BK178⟩, ⟨bl_ HB⟩⟩
     ·rw [if_neg c5] at H
      exact absurd H (by simp)
    ·rw [if_neg c4] at H
     exact absurd H (by simp)
   ·rw [if_neg c3] at H
    have c3b0 : decide (x8_1 < (l0.length : Int)) = false := decide_eq_false c3
    clear c3
    obtain rfl := Option.some.inj H
    go_wp2
    go_ret
    exact ⟨by first | rfl | (simp [errW_none, errW_some] <;> rfl) | (simp [*, errW_none, errW_some] <;> rfl), bl_ HB⟩

/-! ### impl_Word_39_at_40: function 39 -/
def impl_Word_39_at_40.f (k : Nat) (l0 : List (S40)) (a1_0 : Int) : Option (Bool) := (impl_Word_55_at_40.f k l0 a1_0).bind fun t182 => (some (decide (t182 ≥ 0)))
theorem impl_Word_39_at_40.mono : ∀ a0 a1 k, LeO (impl_Word_39_at_40.f k a0 a1) (impl_Word_39_at_40.f (k + 1) a0 a1) := by
 intro a0 a1 k
 unfold impl_Word_39_at_40.f
 repeat' first
   | (with_reducible exact impl_Word_55_at_40.mono _ _ _)
   | (with_reducible exact LeO.refl _)
   | (with_reducible exact LeO.none _)
   | (with_reducible refine LeO.ite ?_ ?_)
   | (with_reducible refine LeO.bind ?_ (fun _ => ?_))
   | exact impl_Word_55_at_40.mono _ _ _
   | exact LeO.none _
   | refine LeO.ite ?_ ?_
   | refine LeO.bind ?_ (fun _ => ?_)
set_option maxHeartbeats 8000000 in
set_option maxRecDepth 100000 in
theorem impl_Word_39_at_40.calls (k : Nat) (A0 : Option Addr) (c0 : Nat) (l0 : List (S40)) (gp1_0 : Nat) (a1_0 : Int) (r : Bool) (w : World) (hr0 : Kd.C k40 w A0 l0.length l0) (hc0 : l0.length ≤ c0) (hb1_0 : w.heap[gp1_0]? = some (.cells #[.int .i64 a1_0] 2 (0, 0))) (h : impl_Word_39_at_40.f k l0 a1_0 = some r) :
  Calls Try.prog 39 #[.slice A0 l0.length c0, .func (.func 40) #[] #[.pointer (some ⟨gp1_0, 0, none⟩)]] w fun e w' => e = .returned (.bool r) ∧ Below w.heap.size w w' := by
 have HR0 := Aside0.mk hr0
 have HC0 := Aside0.mk hc0
 clear hr0 hc0
 have BK181 := Aside0.mk hb1_0
 clear hb1_0
 have HB := A_ (Below.refl w.heap.size w)
 have H : ((impl_Word_55_at_40.f k l0 a1_0).bind fun t182 => (some (decide (t182 ≥ 0)))) = some r := h
 clear h
 replace H := Option.bind_eq_some_iff.mp H
 obtain ⟨t182, A30, H⟩ := H
 replace H : (some (decide (t182 ≥ 0))) = some r := H
 have A3 := Aside0.mk A30
 clear A30
 obtain rfl := Option.some.inj H
 go_enter Try.func39, Try.ntmps39
 go_wp2_with (first | ((with_reducible refine gate_callee (f := 55) rfl ?_); refine goesL_ (some 7) rfl rfl Try.func55 (by kernel_rfl) rfl #[.slice A0 l0.length c0, .func (.func 40) #[] #[.pointer (some ⟨gp1_0, 0, none⟩)]] rfl arg_ ?_; (with_reducible refine (impl_Word_55_at_40.calls k _ _ l0 gp1_0 a1_0 t182 _ ?side1 ?side2 ?side3 A3.out).mono ?_); (case side1 => repeat (first | exact HR0.out | (with_reducible refine Kd.C_alloc ?_ _) | (with_reducible refine Kd.C_drewN ?_ _) | (with_reducible refine Kd.C_drew ?_))); (case side2 => exact HC0.out); (case side3 => exact (pl_ BK181)); rintro e w4 ⟨rfl, hb⟩; refine ⟨_, rfl, ?_⟩; have n0_ := A_ (blk_below (g := gp1_0) (o := .cells #[.int .i64 a1_0] 2 (0, 0)) (pl_ BK181) hb); have n1_ := A_ (below_step (bl_ HB) hb); clear BK181; clear HB; have BK181 := n0_; have HB := n1_; clear n0_ n1_; (try clear hb); (try clear hb2); (try clear hk); (try clear hi)))
 go_ret
 exact ⟨by first | rfl | (simp [errW_none, errW_some] <;> rfl) | (simp [*, errW_none, errW_some] <;> rfl), bl_ HB⟩

/-! ### impl_ValidFixed: function 15 -/
def impl_ValidFixed.f (k : Nat) (a0_0 : Int) (a0_1 : Int) (l0_2 : List (S40)) : Option (Bool) := (impl_areLetters.f (wrap64 (a0_0))).bind fun t185 => (if t185 = true then ((impl_isKind.f (wrap64 (a0_1))).bind fun t186 => (if t186 = true then ((impl_Word_38.f l0_2).bind fun t187 => ((impl_within.f t187 1 80).bind fun t188 => (if t188 = true then ((impl_Word_39_at_40.f k l0_2 (wrap64 (a0_0))).bind fun t189 => (some (!t189))) else (some false)))) else (some false))) else (some false))
theorem impl_ValidFixed.mono : ∀ a0 a1 a2 k, LeO (impl_ValidFixed.f k a0 a1 a2) (impl_ValidFixed.f (k + 1) a0 a1 a2) := by
 intro a0 a1 a2 k
 unfold impl_ValidFixed.f
 repeat' first
   | (with_reducible exact impl_Word_39_at_40.mono _ _ _)
   | (with_reducible exact LeO.refl _)
   | (with_reducible exact LeO.none _)
   | (with_reducible refine LeO.ite ?_ ?_)
   | (with_reducible refine LeO.bind ?_ (fun _ => ?_))
   | exact impl_Word_39_at_40.mono _ _ _
   | exact LeO.none _
   | refine LeO.ite ?_ ?_
   | refine LeO.bind ?_ (fun _ => ?_)
set_option maxHeartbeats 8000000 in
set_option maxRecDepth 100000 in
theorem impl_ValidFixed.calls (k : Nat) (a0_0 : Int) (a0_1 : Int) (A0_2 : Option Addr) (c0_2 : Nat) (l0_2 : List (S40)) (r : Bool) (w : World) (hr0_2 : Kd.C k40 w A0_2 l0_2.length l0_2) (hc0_2 : l0_2.length ≤ c0_2) (h : impl_ValidFixed.f k a0_0 a0_1 l0_2 = some r) :
  Calls Try.prog 15 #[.agg #[.int .i8 a0_0, .int .i8 a0_1, .slice A0_2 l0_2.length c0_2]] w fun e w' => e = .returned (.bool r) ∧ Below w.heap.size w w' := by
 have hu30 := Try.underlying30
 have HR0_2 := Aside0.mk hr0_2
 have HC0_2 := Aside0.mk hc0_2
 clear hr0_2 hc0_2
 have HB := A_ (Below.refl w.heap.size w)
 have H : ((impl_areLetters.f (wrap64 (a0_0))).bind fun t185 => (if t185 = true then ((impl_isKind.f (wrap64 (a0_1))).bind fun t186 => (if t186 = true then ((impl_Word_38.f l0_2).bind fun t187 => ((impl_within.f t187 1 80).bind fun t188 => (if t188 = true then ((impl_Word_39_at_40.f k l0_2 (wrap64 (a0_0))).bind fun t189 => (some (!t189))) else (some false)))) else (some false))) else (some false))) = some r := h
 clear h
 replace H := Option.bind_eq_some_iff.mp H
 obtain ⟨t185, A20, H⟩ := H
 replace H : (if t185 = true then ((impl_isKind.f (wrap64 (a0_1))).bind fun t186 => (if t186 = true then ((impl_Word_38.f l0_2).bind fun t187 => ((impl_within.f t187 1 80).bind fun t188 => (if t188 = true then ((impl_Word_39_at_40.f k l0_2 (wrap64 (a0_0))).bind fun t189 => (some (!t189))) else (some false)))) else (some false))) else (some false)) = some r := H
 have A2 := Aside0.mk A20
 clear A20
 by_cases c3 : t185 = true
 ·subst c3
  have H1 : ((impl_isKind.f (wrap64 (a0_1))).bind fun t186 => (if t186 = true then ((impl_Word_38.f l0_2).bind fun t187 => ((impl_within.f t187 1 80).bind fun t188 => (if t188 = true then ((impl_Word_39_at_40.f k l0_2 (wrap64 (a0_0))).bind fun t189 => (some (!t189))) else (some false)))) else (some false))) = some r := by rw [if_pos rfl] at H; exact H
  clear H
  have H := H1
  clear H1
  replace H := Option.bind_eq_some_iff.mp H
  obtain ⟨t186, A40, H⟩ := H
  replace H : (if t186 = true then ((impl_Word_38.f l0_2).bind fun t187 => ((impl_within.f t187 1 80).bind fun t188 => (if t188 = true then ((impl_Word_39_at_40.f k l0_2 (wrap64 (a0_0))).bind fun t189 => (some (!t189))) else (some false)))) else (some false)) = some r := H
  have A4 := Aside0.mk A40
  clear A40
  by_cases c5 : t186 = true
  ·subst c5
   have H1 : ((impl_Word_38.f l0_2).bind fun t187 => ((impl_within.f t187 1 80).bind fun t188 => (if t188 = true then ((impl_Word_39_at_40.f k l0_2 (wrap64 (a0_0))).bind fun t189 => (some (!t189))) else (some false)))) = some r := by rw [if_pos rfl] at H; exact H
   clear H
   have H := H1
   clear H1
   replace H := Option.bind_eq_some_iff.mp H
   obtain ⟨t187, A60, H⟩ := H
   replace H : ((impl_within.f t187 1 80).bind fun t188 => (if t188 = true then ((impl_Word_39_at_40.f k l0_2 (wrap64 (a0_0))).bind fun t189 => (some (!t189))) else (some false))) = some r := H
   have A6 := Aside0.mk A60
   clear A60
   replace H := Option.bind_eq_some_iff.mp H
   obtain ⟨t188, A70, H⟩ := H
   replace H : (if t188 = true then ((impl_Word_39_at_40.f k l0_2 (wrap64 (a0_0))).bind fun t189 => (some (!t189))) else (some false)) = some r := H
   have A7 := Aside0.mk A70
   clear A70
   by_cases c8 : t188 = true
   ·subst c8
    have H1 : ((impl_Word_39_at_40.f k l0_2 (wrap64 (a0_0))).bind fun t189 => (some (!t189))) = some r := by rw [if_pos rfl] at H; exact H
    clear H
    have H := H1
    clear H1
    replace H := Option.bind_eq_some_iff.mp H
    obtain ⟨t189, A90, H⟩ := H
    replace H : (some (!t189)) = some r := H
    have A9 := Aside0.mk A90
    clear A90
    obtain rfl := Option.some.inj H
    go_enter Try.func15, Try.ntmps15
    go_wp2_with (first | ((with_reducible refine gate_dst (N := 1) rfl ?_); refine box_event ?hg (N := 1) ?hd (cs := #[.int .i8 a0_0, .int .i8 a0_1, .slice A0_2 l0_2.length c0_2]) (t := 30) ?hr ?_; (case hd => rfl); (case hg => rfl); (case hr => first | (go_simp; done) | (go_simp; rfl)); intro gb183 hg w10 hbox hb; have n0_ := A_ (below_step (bl_ HB) hb); have n1_ := A_ (hbox); have n2_ := A_ ((by rw [hg]; exact (below_size (bl_ HB)) : w.heap.size ≤ gb183)); have n3_ := n2_; clear HB; have HB := n0_; have BK183 := n1_; have GW183 := n2_; have GE183 := n3_; clear n0_ n1_ n2_ n3_; clear hb hbox hg; have hcz11_0 : w10.cell? ⟨gb183, 0, none⟩ = some (.int .i8 a0_0) := (blk_cell BK183.out 0).trans rfl; have hcz11_1 : w10.cell? ⟨gb183, 1, none⟩ = some (.int .i8 a0_1) := (blk_cell BK183.out 1).trans rfl; have hcz11_2 : w10.cell? ⟨gb183, 2, none⟩ = some (.slice A0_2 l0_2.length c0_2) := (blk_cell BK183.out 2).trans rfl; have hfz11_0 := blk_frozen BK183.out 0; have hfz11_1 := blk_frozen BK183.out 1; have hfz11_2 := blk_frozen BK183.out 2) | ((with_reducible refine gate_dst (N := 3) rfl ?_); refine box_event ?hg (N := 3) ?hd (cs := #[.int .i64 0]) (t := 2) ?hr ?_; (case hd => rfl); (case hg => rfl); (case hr => first | (go_simp; done) | (go_simp; rfl)); intro gb184 hg w12 hbox hb; have n0_ := A_ (blk_below (g := gb183) (o := .cells #[.int .i8 a0_0, .int .i8 a0_1, .slice A0_2 l0_2.length c0_2] 30 (0, 0)) (pl_ BK183) hb); have n1_ := A_ (below_step (bl_ HB) hb); have n2_ := A_ (hbox); have n3_ := A_ ((by rw [hg]; exact (below_size (bl_ HB)) : w.heap.size ≤ gb184)); have n4_ := n3_; have n5_ := A_ ((by rw [hg]; exact Nat.ne_of_lt (blk_lt (g := gb183) (o := .cells #[.int .i8 a0_0, .int .i8 a0_1, .slice A0_2 l0_2.length c0_2] 30 (0, 0)) (pl_ BK183)) : gb183 ≠ gb184)); have n6_ := A_ ((by rw [hg]; exact Nat.ne_of_gt (blk_lt (g := gb183) (o := .cells #[.int .i8 a0_0, .int .i8 a0_1, .slice A0_2 l0_2.length c0_2] 30 (0, 0)) (pl_ BK183)) : gb184 ≠ gb183)); clear BK183; clear HB; have BK183 := n0_; have HB := n1_; have BK184 := n2_; have GW184 := n3_; have GE184 := n4_; have NB183_184 := n5_; have NB184_183 := n6_; clear n0_ n1_ n2_ n3_ n4_ n5_ n6_; clear hb hbox hg; have hnb13 := NB184_183.out; have hnc13 := NB183_184.out; have hcz14_0 : w12.cell? ⟨gb184, 0, none⟩ = some (.int .i64 0) := (blk_cell BK184.out 0).trans rfl; have hfz14_0 := blk_frozen BK184.out 0) | ((with_reducible refine gate_callee (f := 35) rfl ?_); refine goesL_ (some 8) rfl rfl Try.func35 (by kernel_rfl) rfl #[.int .i64 (wrap64 (a0_0))] rfl arg_ ?_; (with_reducible refine (impl_areLetters.calls (wrap64 (a0_0)) true _ A2.out).mono ?_); rintro e w' ⟨rfl, ⟨nd, rfl⟩⟩; refine ⟨_, rfl, ?_⟩; have hcz15_0 : w12.cell? ⟨gb183, 0, none⟩ = some (.int .i8 a0_0) := (blk_cell BK183.out 0).trans rfl; have hcz15_1 : w12.cell? ⟨gb183, 1, none⟩ = some (.int .i8 a0_1) := (blk_cell BK183.out 1).trans rfl; have hcz15_2 : w12.cell? ⟨gb183, 2, none⟩ = some (.slice A0_2 l0_2.length c0_2) := (blk_cell BK183.out 2).trans rfl; have hfz15_0 := blk_frozen BK183.out 0; have hfz15_1 := blk_frozen BK183.out 1; have hfz15_2 := blk_frozen BK183.out 2) | (go_at_call 36; (with_reducible refine (impl_isKind.calls (wrap64 (a0_1)) true _ A4.out).mono ?_); rintro e w' ⟨rfl, ⟨nd, rfl⟩⟩) | (go_at_call 38; (with_reducible refine (impl_Word_38.calls _ _ l0_2 t187 _ ?side1 ?side2 A6.out).mono ?_); (case side1 => exact Kd.C_below HR0_2.out (bs_ HB GE184)); (case side2 => exact HC0_2.out); rintro e w' ⟨rfl, ⟨nd, rfl⟩⟩) | (go_at_call 37; (with_reducible refine (impl_within.calls t187 1 80 true _ A7.out).mono ?_); rintro e w' ⟨rfl, ⟨nd, rfl⟩⟩) | (go_at_call 39; (with_reducible refine (impl_Word_39_at_40.calls k _ _ l0_2 gb184 (wrap64 (a0_0)) t189 _ ?side1 ?side2 ?side3 A9.out).mono ?_); (case side1 => exact Kd.C_below HR0_2.out (bs_ HB GE184)); (case side2 => exact HC0_2.out); (case side3 => exact (by (with_reducible repeat (first | refine blk_drewN ?_ _ | refine blk_drew ?_ | refine blk_alloc ?_ _)); refine blk_put (cs := #[.int .i64 0]) ?_ 0 _ rfl; (with_reducible repeat (first | refine blk_drewN ?_ _ | refine blk_drew ?_ | refine blk_alloc ?_ _)); exact BK184.out)); rintro e w16 ⟨rfl, hb⟩; have n0_ := A_ (blk_below (g := gb183) (o := .cells #[.int .i8 a0_0, .int .i8 a0_1, .slice A0_2 l0_2.length c0_2] 30 (0, 0)) (pf_ BK183 NB183_184) hb); have n1_ := A_ (blk_below (g := gb184) (o := .cells #[.int .i64 (wrap64 (a0_0))] 2 (0, 0)) (by (with_reducible repeat (first | refine blk_drewN ?_ _ | refine blk_drew ?_ | refine blk_alloc ?_ _)); refine blk_put (cs := #[.int .i64 0]) ?_ 0 _ rfl; (with_reducible repeat (first | refine blk_drewN ?_ _ | refine blk_drew ?_ | refine blk_alloc ?_ _)); exact BK184.out) hb); have n2_ := A_ (below_step (bs_ HB GE184) hb); clear BK183; clear BK184; clear HB; have BK183 := n0_; have BK184 := n1_; have HB := n2_; clear n0_ n1_ n2_; (try clear hb); (try clear hb2); (try clear hk); (try clear hi)))
    go_ret
    exact ⟨by first | rfl | (simp [errW_none, errW_some] <;> rfl) | (simp [*, errW_none, errW_some] <;> rfl), bl_ HB⟩
   ·replace c8 := Bool.eq_false_iff.mpr c8
    subst c8
    have H1 : (some false) = some r := by rw [if_neg (show ¬ (false = true) by decide)] at H; exact H
    clear H
    have H := H1
    clear H1
    obtain rfl := Option.some.inj H
    go_enter Try.func15, Try.ntmps15
    go_wp2_with (first | ((with_reducible refine gate_dst (N := 1) rfl ?_); refine box_event ?hg (N := 1) ?hd (cs := #[.int .i8 a0_0, .int .i8 a0_1, .slice A0_2 l0_2.length c0_2]) (t := 30) ?hr ?_; (case hd => rfl); (case hg => rfl); (case hr => first | (go_simp; done) | (go_simp; rfl)); intro gb183 hg w17 hbox hb; have n0_ := A_ (below_step (bl_ HB) hb); have n1_ := A_ (hbox); have n2_ := A_ ((by rw [hg]; exact (below_size (bl_ HB)) : w.heap.size ≤ gb183)); have n3_ := n2_; clear HB; have HB := n0_; have BK183 := n1_; have GW183 := n2_; have GE183 := n3_; clear n0_ n1_ n2_ n3_; clear hb hbox hg; have hcz18_0 : w17.cell? ⟨gb183, 0, none⟩ = some (.int .i8 a0_0) := (blk_cell BK183.out 0).trans rfl; have hcz18_1 : w17.cell? ⟨gb183, 1, none⟩ = some (.int .i8 a0_1) := (blk_cell BK183.out 1).trans rfl; have hcz18_2 : w17.cell? ⟨gb183, 2, none⟩ = some (.slice A0_2 l0_2.length c0_2) := (blk_cell BK183.out 2).trans rfl; have hfz18_0 := blk_frozen BK183.out 0; have hfz18_1 := blk_frozen BK183.out 1; have hfz18_2 := blk_frozen BK183.out 2) | ((with_reducible refine gate_dst (N := 3) rfl ?_); refine box_event ?hg (N := 3) ?hd (cs := #[.int .i64 0]) (t := 2) ?hr ?_; (case hd => rfl); (case hg => rfl); (case hr => first | (go_simp; done) | (go_simp; rfl)); intro gb184 hg w19 hbox hb; have n0_ := A_ (blk_below (g := gb183) (o := .cells #[.int .i8 a0_0, .int .i8 a0_1, .slice A0_2 l0_2.length c0_2] 30 (0, 0)) (pl_ BK183) hb); have n1_ := A_ (below_step (bl_ HB) hb); have n2_ := A_ (hbox); have n3_ := A_ ((by rw [hg]; exact (below_size (bl_ HB)) : w.heap.size ≤ gb184)); have n4_ := n3_; have n5_ := A_ ((by rw [hg]; exact Nat.ne_of_lt (blk_lt (g := gb183) (o := .cells #[.int .i8 a0_0, .int .i8 a0_1, .slice A0_2 l0_2.length c0_2] 30 (0, 0)) (pl_ BK183)) : gb183 ≠ gb184)); have n6_ := A_ ((by rw [hg]; exact Nat.ne_of_gt (blk_lt (g := gb183) (o := .cells #[.int .i8 a0_0, .int .i8 a0_1, .slice A0_2 l0_2.length c0_2] 30 (0, 0)) (pl_ BK183)) : gb184 ≠ gb183)); clear BK183; clear HB; have BK183 := n0_; have HB := n1_; have BK184 := n2_; have GW184 := n3_; have GE184 := n4_; have NB183_184 := n5_; have NB184_183 := n6_; clear n0_ n1_ n2_ n3_ n4_ n5_ n6_; clear hb hbox hg; have hnb20 := NB184_183.out; have hnc20 := NB183_184.out; have hcz21_0 : w19.cell? ⟨gb184, 0, none⟩ = some (.int .i64 0) := (blk_cell BK184.out 0).trans rfl; have hfz21_0 := blk_frozen BK184.out 0) | ((with_reducible refine gate_callee (f := 35) rfl ?_); refine goesL_ (some 8) rfl rfl Try.func35 (by kernel_rfl) rfl #[.int .i64 (wrap64 (a0_0))] rfl arg_ ?_; (with_reducible refine (impl_areLetters.calls (wrap64 (a0_0)) true _ A2.out).mono ?_); rintro e w' ⟨rfl, ⟨nd, rfl⟩⟩; refine ⟨_, rfl, ?_⟩; have hcz22_0 : w19.cell? ⟨gb183, 0, none⟩ = some (.int .i8 a0_0) := (blk_cell BK183.out 0).trans rfl; have hcz22_1 : w19.cell? ⟨gb183, 1, none⟩ = some (.int .i8 a0_1) := (blk_cell BK183.out 1).trans rfl; have hcz22_2 : w19.cell? ⟨gb183, 2, none⟩ = some (.slice A0_2 l0_2.length c0_2) := (blk_cell BK183.out 2).trans rfl; have hfz22_0 := blk_frozen BK183.out 0; have hfz22_1 := blk_frozen BK183.out 1; have hfz22_2 := blk_frozen BK183.out 2) | (go_at_call 36; (with_reducible refine (impl_isKind.calls (wrap64 (a0_1)) true _ A4.out).mono ?_); rintro e w' ⟨rfl, ⟨nd, rfl⟩⟩) | (go_at_call 38; (with_reducible refine (impl_Word_38.calls _ _ l0_2 t187 _ ?side1 ?side2 A6.out).mono ?_); (case side1 => exact Kd.C_below HR0_2.out (bs_ HB GE184)); (case side2 => exact HC0_2.out); rintro e w' ⟨rfl, ⟨nd, rfl⟩⟩) | (go_at_call 37; (with_reducible refine (impl_within.calls t187 1 80 false _ A7.out).mono ?_); rintro e w' ⟨rfl, ⟨nd, rfl⟩⟩))
    go_ret
    exact ⟨by first | rfl | (simp [errW_none, errW_some] <;> rfl) | (simp [*, errW_none, errW_some] <;> rfl), bs_ HB GE184⟩
  ·replace c5 := Bool.eq_false_iff.mpr c5
   subst c5
   have H1 : (some false) = some r := by rw [if_neg (show ¬ (false = true) by decide)] at H; exact H
   clear H
   have H := H1
   clear H1
   obtain rfl := Option.some.inj H
   go_enter Try.func15, Try.ntmps15
   go_wp2_with (first | ((with_reducible refine gate_dst (N := 1) rfl ?_); refine box_event ?hg (N := 1) ?hd (cs := #[.int .i8 a0_0, .int .i8 a0_1, .slice A0_2 l0_2.length c0_2]) (t := 30) ?hr ?_; (case hd => rfl); (case hg => rfl); (case hr => first | (go_simp; done) | (go_simp; rfl)); intro gb183 hg w23 hbox hb; have n0_ := A_ (below_step (bl_ HB) hb); have n1_ := A_ (hbox); have n2_ := A_ ((by rw [hg]; exact (below_size (bl_ HB)) : w.heap.size ≤ gb183)); have n3_ := n2_; clear HB; have HB := n0_; have BK183 := n1_; have GW183 := n2_; have GE183 := n3_; clear n0_ n1_ n2_ n3_; clear hb hbox hg; have hcz24_0 : w23.cell? ⟨gb183, 0, none⟩ = some (.int .i8 a0_0) := (blk_cell BK183.out 0).trans rfl; have hcz24_1 : w23.cell? ⟨gb183, 1, none⟩ = some (.int .i8 a0_1) := (blk_cell BK183.out 1).trans rfl; have hcz24_2 : w23.cell? ⟨gb183, 2, none⟩ = some (.slice A0_2 l0_2.length c0_2) := (blk_cell BK183.out 2).trans rfl; have hfz24_0 := blk_frozen BK183.out 0; have hfz24_1 := blk_frozen BK183.out 1; have hfz24_2 := blk_frozen BK183.out 2) | ((with_reducible refine gate_dst (N := 3) rfl ?_); refine box_event ?hg (N := 3) ?hd (cs := #[.int .i64 0]) (t := 2) ?hr ?_; (case hd => rfl); (case hg => rfl); (case hr => first | (go_simp; done) | (go_simp; rfl)); intro gb184 hg w25 hbox hb; have n0_ := A_ (blk_below (g := gb183) (o := .cells #[.int .i8 a0_0, .int .i8 a0_1, .slice A0_2 l0_2.length c0_2] 30 (0, 0)) (pl_ BK183) hb); have n1_ := A_ (below_step (bl_ HB) hb); have n2_ := A_ (hbox); have n3_ := A_ ((by rw [hg]; exact (below_size (bl_ HB)) : w.heap.size ≤ gb184)); have n4_ := n3_; have n5_ := A_ ((by rw [hg]; exact Nat.ne_of_lt (blk_lt (g := gb183) (o := .cells #[.int .i8 a0_0, .int .i8 a0_1, .slice A0_2 l0_2.length c0_2] 30 (0, 0)) (pl_ BK183)) : gb183 ≠ gb184)); have n6_ := A_ ((by rw [hg]; exact Nat.ne_of_gt (blk_lt (g := gb183) (o := .cells #[.int .i8 a0_0, .int .i8 a0_1, .slice A0_2 l0_2.length c0_2] 30 (0, 0)) (pl_ BK183)) : gb184 ≠ gb183)); clear BK183; clear HB; have BK183 := n0_; have HB := n1_; have BK184 := n2_; have GW184 := n3_; have GE184 := n4_; have NB183_184 := n5_; have NB184_183 := n6_; clear n0_ n1_ n2_ n3_ n4_ n5_ n6_; clear hb hbox hg; have hnb26 := NB184_183.out; have hnc26 := NB183_184.out; have hcz27_0 : w25.cell? ⟨gb184, 0, none⟩ = some (.int .i64 0) := (blk_cell BK184.out 0).trans rfl; have hfz27_0 := blk_frozen BK184.out 0) | ((with_reducible refine gate_callee (f := 35) rfl ?_); refine goesL_ (some 8) rfl rfl Try.func35 (by kernel_rfl) rfl #[.int .i64 (wrap64 (a0_0))] rfl arg_ ?_; (with_reducible refine (impl_areLetters.calls (wrap64 (a0_0)) true _ A2.out).mono ?_); rintro e w' ⟨rfl, ⟨nd, rfl⟩⟩; refine ⟨_, rfl, ?_⟩; have hcz28_0 : w25.cell? ⟨gb183, 0, none⟩ = some (.int .i8 a0_0) := (blk_cell BK183.out 0).trans rfl; have hcz28_1 : w25.cell? ⟨gb183, 1, none⟩ = some (.int .i8 a0_1) := (blk_cell BK183.out 1).trans rfl; have hcz28_2 : w25.cell? ⟨gb183, 2, none⟩ = some (.slice A0_2 l0_2.length c0_2) := (blk_cell BK183.out 2).trans rfl; have hfz28_0 := blk_frozen BK183.out 0; have hfz28_1 := blk_frozen BK183.out 1; have hfz28_2 := blk_frozen BK183.out 2) | (go_at_call 36; (with_reducible refine (impl_isKind.calls (wrap64 (a0_1)) false _ A4.out).mono ?_); rintro e w' ⟨rfl, ⟨nd, rfl⟩⟩))
   go_ret
   exact ⟨by first | rfl | (simp [errW_none, errW_some] <;> rfl) | (simp [*, errW_none, errW_some] <;> rfl), bs_ HB GE184⟩
 ·replace c3 := Bool.eq_false_iff.mpr c3
  subst c3
  have H1 : (some false) = some r := by rw [if_neg (show ¬ (false = true) by decide)] at H; exact H
  clear H
  have H := H1
  clear H1
  obtain rfl := Option.some.inj H
  go_enter Try.func15, Try.ntmps15
  go_wp2_with (first | ((with_reducible refine gate_dst (N := 1) rfl ?_); refine box_event ?hg (N := 1) ?hd (cs := #[.int .i8 a0_0, .int .i8 a0_1, .slice A0_2 l0_2.length c0_2]) (t := 30) ?hr ?_; (case hd => rfl); (case hg => rfl); (case hr => first | (go_simp; done) | (go_simp; rfl)); intro gb183 hg w29 hbox hb; have n0_ := A_ (below_step (bl_ HB) hb); have n1_ := A_ (hbox); have n2_ := A_ ((by rw [hg]; exact (below_size (bl_ HB)) : w.heap.size ≤ gb183)); have n3_ := n2_; clear HB; have HB := n0_; have BK183 := n1_; have GW183 := n2_; have GE183 := n3_; clear n0_ n1_ n2_ n3_; clear hb hbox hg; have hcz30_0 : w29.cell? ⟨gb183, 0, none⟩ = some (.int .i8 a0_0) := (blk_cell BK183.out 0).trans rfl; have hcz30_1 : w29.cell? ⟨gb183, 1, none⟩ = some (.int .i8 a0_1) := (blk_cell BK183.out 1).trans rfl; have hcz30_2 : w29.cell? ⟨gb183, 2, none⟩ = some (.slice A0_2 l0_2.length c0_2) := (blk_cell BK183.out 2).trans rfl; have hfz30_0 := blk_frozen BK183.out 0; have hfz30_1 := blk_frozen BK183.out 1; have hfz30_2 := blk_frozen BK183.out 2) | ((with_reducible refine gate_dst (N := 3) rfl ?_); refine box_event ?hg (N := 3) ?hd (cs := #[.int .i64 0]) (t := 2) ?hr ?_; (case hd => rfl); (case hg => rfl); (case hr => first | (go_simp; done) | (go_simp; rfl)); intro gb184 hg w31 hbox hb; have n0_ := A_ (blk_below (g := gb183) (o := .cells #[.int .i8 a0_0, .int .i8 a0_1, .slice A0_2 l0_2.length c0_2] 30 (0, 0)) (pl_ BK183) hb); have n1_ := A_ (below_step (bl_ HB) hb); have n2_ := A_ (hbox); have n3_ := A_ ((by rw [hg]; exact (below_size (bl_ HB)) : w.heap.size ≤ gb184)); have n4_ := n3_; have n5_ := A_ ((by rw [hg]; exact Nat.ne_of_lt (blk_lt (g := gb183) (o := .cells #[.int .i8 a0_0, .int .i8 a0_1, .slice A0_2 l0_2.length c0_2] 30 (0, 0)) (pl_ BK183)) : gb183 ≠ gb184)); have n6_ := A_ ((by rw [hg]; exact Nat.ne_of_gt (blk_lt (g := gb183) (o := .cells #[.int .i8 a0_0, .int .i8 a0_1, .slice A0_2 l0_2.length c0_2] 30 (0, 0)) (pl_ BK183)) : gb184 ≠ gb183)); clear BK183; clear HB; have BK183 := n0_; have HB := n1_; have BK184 := n2_; have GW184 := n3_; have GE184 := n4_; have NB183_184 := n5_; have NB184_183 := n6_; clear n0_ n1_ n2_ n3_ n4_ n5_ n6_; clear hb hbox hg; have hnb32 := NB184_183.out; have hnc32 := NB183_184.out; have hcz33_0 : w31.cell? ⟨gb184, 0, none⟩ = some (.int .i64 0) := (blk_cell BK184.out 0).trans rfl; have hfz33_0 := blk_frozen BK184.out 0) | ((with_reducible refine gate_callee (f := 35) rfl ?_); refine goesL_ (some 8) rfl rfl Try.func35 (by kernel_rfl) rfl #[.int .i64 (wrap64 (a0_0))] rfl arg_ ?_; (with_reducible refine (impl_areLetters.calls (wrap64 (a0_0)) false _ A2.out).mono ?_); rintro e w' ⟨rfl, ⟨nd, rfl⟩⟩; refine ⟨_, rfl, ?_⟩))
  go_ret
  exact ⟨by first | rfl | (simp [errW_none, errW_some] <;> rfl) | (simp [*, errW_none, errW_some] <;> rfl), bs_ HB GE184⟩

end Go.Proofs.Ytonifpgaagdohaa.M
