-- By this seat's own program over the kit's printer (arrays, functions told by hand); nothing of it is trusted: the kernel checks it.
import Derived.Test.YtodmfjophjhbeaaMx0
namespace Go.Proofs.Ytodmfjophjhbeaa.M
open Go.RowKit Go.Proofs.YtodmfjophjhbeaaW.PrintWords Go.Proofs.YtodmfjophjhbeaaW.PrintLast Go.Proofs.YtodmfjophjhbeaaW.PrintMore
attribute [local go_sem] max2_int min2_int max_two min_two max_three min_three max_four min_four   -- for this text's walks alone
set_option linter.unusedVariables false
set_option linter.unusedSimpArgs false

/-! ### impl_Puzzle_hasAmount_1_92: function 92 -/
def impl_Puzzle_hasAmount_1_92.f (a0 : Int) (a1_0 : Int) : Option (Bool) := some ((wrap64 (a0)) == a1_0)
set_option maxHeartbeats 8000000 in
set_option maxRecDepth 100000 in
theorem impl_Puzzle_hasAmount_1_92.calls (a0 : Int) (gp1 : Nat) (a1_0 : Int) (r : Bool) (w : World) (hb1 : w.heap[gp1]? = some (.cells #[.int .i64 a1_0] 2 (0, 0))) (h : impl_Puzzle_hasAmount_1_92.f a0 a1_0 = some r) :
  Calls Try.prog 92 #[.int .i16 a0, .pointer (some ⟨gp1, 0, none⟩)] w fun e w' => e = .returned (.bool r) ∧ Below w.heap.size w w' := by
 have BK273 := Aside0.mk hb1
 clear hb1
 have HB := A_ (Below.refl w.heap.size w)
 have H : (some ((wrap64 (a0)) == a1_0)) = some r := h
 clear h
 obtain rfl := Option.some.inj H
 obtain ⟨hcz3_0, hfz3_0⟩ := cl1_ BK273
 go_enter Try.func92, Try.ntmps92
 go_wp2
 go_ret
 exact ⟨by first | rfl | (simp [errW_none, errW_some] <;> rfl) | (simp [*, errW_none, errW_some] <;> rfl), bl_ HB⟩

/-! ### slices_IndexFunc_int16_int16_93_at_92: function 93 -/
def slices_IndexFunc_int16_int16_93_at_92.l0 : Nat → List Int → Int → Int → Int → Option (Int)
 | 0, _, _, _, _ => none
 | k + 1, x0, x7, x8, x275000 => if x8 < x7 then (if 0 ≤ x8 then (if x8 < (x0.length : Int) then ((impl_Puzzle_hasAmount_1_92.f (rd x0 x8) x275000).bind fun t276 => (if t276 = true then (some x8) else (slices_IndexFunc_int16_int16_93_at_92.l0 k x0 x7 (wrap64 (x8 + 1)) x275000))) else (none)) else (none)) else (some (-1))
def slices_IndexFunc_int16_int16_93_at_92.f (k : Nat) (l0 : List Int) (a1_0 : Int) : Option (Int) := slices_IndexFunc_int16_int16_93_at_92.l0 k l0 (l0.length : Int) 0 a1_0
theorem slices_IndexFunc_int16_int16_93_at_92.mono_l : ∀ k, (∀ y0 y1 y2 y3, LeO (slices_IndexFunc_int16_int16_93_at_92.l0 k y0 y1 y2 y3) (slices_IndexFunc_int16_int16_93_at_92.l0 (k + 1) y0 y1 y2 y3))
 | 0 => fun _ _ _ _ r h => by simp [slices_IndexFunc_int16_int16_93_at_92.l0] at h
 | k + 1 => by
  have ih0 := slices_IndexFunc_int16_int16_93_at_92.mono_l k
  ·intro y0 y1 y2 y3
   unfold slices_IndexFunc_int16_int16_93_at_92.l0
   repeat' first
   | (with_reducible exact ih0 _ _ _ _)
   | (with_reducible exact LeO.refl _)
   | (with_reducible exact LeO.none _)
   | (with_reducible refine LeO.ite ?_ ?_)
   | (with_reducible refine LeO.bind ?_ (fun _ => ?_))
   | exact ih0 _ _ _ _
   | exact LeO.none _
   | refine LeO.ite ?_ ?_
   | refine LeO.bind ?_ (fun _ => ?_)
theorem slices_IndexFunc_int16_int16_93_at_92.mono : ∀ a0 a1 k, LeO (slices_IndexFunc_int16_int16_93_at_92.f k a0 a1) (slices_IndexFunc_int16_int16_93_at_92.f (k + 1) a0 a1) := by
 intro a0 a1 k
 have ih0 := slices_IndexFunc_int16_int16_93_at_92.mono_l k
 unfold slices_IndexFunc_int16_int16_93_at_92.f
 repeat' first
   | (with_reducible exact ih0 _ _ _ _)
   | (with_reducible exact LeO.refl _)
   | (with_reducible exact LeO.none _)
   | (with_reducible refine LeO.ite ?_ ?_)
   | (with_reducible refine LeO.bind ?_ (fun _ => ?_))
   | exact ih0 _ _ _ _
   | exact LeO.none _
   | refine LeO.ite ?_ ?_
   | refine LeO.bind ?_ (fun _ => ?_)
set_option maxHeartbeats 8000000 in
set_option maxRecDepth 100000 in
theorem slices_IndexFunc_int16_int16_93_at_92.calls (k : Nat) (A0 : Option Addr) (c0 : Nat) (l0 : List Int) (gp1_0 : Nat) (a1_0 : Int) (r : Int) (w : World) (hr0 : Kd.C (Kd.int .i16) w A0 l0.length l0) (hc0 : l0.length ≤ c0) (hb1_0 : w.heap[gp1_0]? = some (.cells #[.int .i64 a1_0] 2 (0, 0))) (h : slices_IndexFunc_int16_int16_93_at_92.f k l0 a1_0 = some r) :
  Calls Try.prog 93 #[.slice A0 l0.length c0, .func (.func 92) #[] #[.pointer (some ⟨gp1_0, 0, none⟩)]] w fun e w' => e = .returned (.int .i64 r) ∧ Below w.heap.size w w' := by
 have HR0 := Aside0.mk hr0
 have HC0 := Aside0.mk hc0
 clear hr0 hc0
 have BK274 := Aside0.mk hb1_0
 clear hb1_0
 have HB := A_ (Below.refl w.heap.size w)
 have H : (slices_IndexFunc_int16_int16_93_at_92.l0 k l0 (l0.length : Int) 0 a1_0) = some r := h
 clear h
 have H' := Aside0.mk H
 clear H
 go_enter Try.func93, Try.ntmps93
 go_wp2
 go_loopg [8] k (fun kq v8 w' => ∃ (x8_1 : Int), v8 = .int .i64 x8_1 ∧ Aside0 (slices_IndexFunc_int16_int16_93_at_92.l0 kq l0 (l0.length : Int) x8_1 a1_0 = some r) ∧ Aside0 (kq ≤ k) ∧ Aside0 (w'.heap[gp1_0]? = some (.cells #[.int .i64 a1_0] 2 (0, 0))) ∧ Aside0 (Below w.heap.size w w'))
 case atStart => exact ⟨(0), rs_, H', ⟨Nat.le_refl _⟩, ⟨pl_ BK274⟩, ⟨bl_ HB⟩⟩
 case round =>
  clear H'
  try clear p1
  try clear p2
  obtain ⟨x8_1, rfl, HA, HK1, BK274, HB⟩ := hrel
  cases gk with
  | zero => exact absurd HA.out (by simp [slices_IndexFunc_int16_int16_93_at_92.l0])
  | succ k1 =>
   have H := HA.out
   clear HA
   simp only [slices_IndexFunc_int16_int16_93_at_92.l0] at H
   by_cases c3 : x8_1 < (l0.length : Int)
   ·rw [if_pos c3] at H
    have c3b0 : decide (x8_1 < (l0.length : Int)) = true := decide_eq_true c3
    clear c3
    by_cases c4 : 0 ≤ x8_1
    ·rw [if_pos c4] at H
     have c4b0 : decide (0 ≤ x8_1) = true := decide_eq_true c4
     clear c4
     by_cases c5 : x8_1 < (l0.length : Int)
     ·rw [if_pos c5] at H
      have c5b0 : decide (x8_1 < (l0.length : Int)) = true := decide_eq_true c5
      clear c5
      replace H := Option.bind_eq_some_iff.mp H
      obtain ⟨t276, A60, H⟩ := H
      replace H : (if t276 = true then (some x8_1) else (slices_IndexFunc_int16_int16_93_at_92.l0 k1 l0 (l0.length : Int) (wrap64 (x8_1 + 1)) a1_0)) = some r := H
      have A6 := Aside0.mk A60
      clear A60
      by_cases c7 : t276 = true
      ·subst c7
       have H1 : (some x8_1) = some r := by rw [if_pos rfl] at H; exact H
       clear H
       have H := H1
       clear H1
       obtain rfl := Option.some.inj H
       have p275 : 0 ≤ (x8_1 : Int) := asm_
       have q275 : x8_1 < (l0.length : Int) := asm_
       obtain ⟨ad275, e275, hx275_0⟩ := Kd.at_int HR0.out x8_1 p275 q275
       cases e275
       (try replace hx275_0 := (HB.out.cell (World.block_lt_of_cell? w _ hx275_0)).trans hx275_0)
       replace p275 := eq_true p275
       replace q275 := eq_true q275
       go_wp2_with (first | (go_at_call 92; (with_reducible refine (impl_Puzzle_hasAmount_1_92.calls (rd l0 x8_1) gp1_0 a1_0 true _ ?side1 A6.out).mono ?_); (case side1 => exact (pl_ BK274)); rintro e w8 ⟨rfl, hb⟩; have n0_ := A_ (blk_below (pl_ BK274) hb); have n1_ := A_ (below_step (bl_ HB) hb); clear BK274; clear HB; have BK274 := n0_; have HB := n1_; clear n0_ n1_; (try clear hb); (try clear hb2); (try clear hk); (try clear hi)))
       go_ret
       exact ⟨by first | rfl | (simp [errW_none, errW_some] <;> rfl) | (simp [*, errW_none, errW_some] <;> rfl), bl_ HB⟩
      ·replace c7 := Bool.eq_false_iff.mpr c7
       subst c7
       have H1 : (slices_IndexFunc_int16_int16_93_at_92.l0 k1 l0 (l0.length : Int) (wrap64 (x8_1 + 1)) a1_0) = some r := by rw [if_neg (show ¬ (false = true) by decide)] at H; exact H
       clear H
       have H := H1
       clear H1
       have H' := Aside0.mk H
       clear H
       have p275 : 0 ≤ (x8_1 : Int) := asm_
       have q275 : x8_1 < (l0.length : Int) := asm_
       obtain ⟨ad275, e275, hx275_0⟩ := Kd.at_int HR0.out x8_1 p275 q275
       cases e275
       (try replace hx275_0 := (HB.out.cell (World.block_lt_of_cell? w _ hx275_0)).trans hx275_0)
       replace p275 := eq_true p275
       replace q275 := eq_true q275
       go_wp2_with (first | (go_at_call 92; (with_reducible refine (impl_Puzzle_hasAmount_1_92.calls (rd l0 x8_1) gp1_0 a1_0 false _ ?side1 A6.out).mono ?_); (case side1 => exact (pl_ BK274)); rintro e w9 ⟨rfl, hb⟩; have n0_ := A_ (blk_below (pl_ BK274) hb); have n1_ := A_ (below_step (bl_ HB) hb); clear BK274; clear HB; have BK274 := n0_; have HB := n1_; clear n0_ n1_; (try clear hb); (try clear hb2); (try clear hk); (try clear hi)))
       go_roundg k1
       case measure => have := HK1.out; omega
       case rel => exact ⟨(wrap64 (x8_1 + 1)), rs_, H', ⟨by have := HK1.out; omega⟩, ⟨pl_ BK274⟩, ⟨bl_ HB⟩⟩
     ·rw [if_neg c5] at H
      exact absurd H (by simp)
    ·rw [if_neg c4] at H
     exact absurd H (by simp)
   ·rw [if_neg c3] at H
    have c3b0 : decide (x8_1 < (l0.length : Int)) = false := decide_eq_false c3
    clear c3
    obtain rfl := Option.some.inj H
    go_wp2
    go_ret
    exact ⟨by first | rfl | (simp [errW_none, errW_some] <;> rfl) | (simp [*, errW_none, errW_some] <;> rfl), bl_ HB⟩

/-! ### slices_ContainsFunc_int16_int16_70_at_92: function 70 -/
def slices_ContainsFunc_int16_int16_70_at_92.f (k : Nat) (l0 : List Int) (a1_0 : Int) : Option (Bool) := (slices_IndexFunc_int16_int16_93_at_92.f k l0 a1_0).bind fun t278 => (some (decide (t278 ≥ 0)))
theorem slices_ContainsFunc_int16_int16_70_at_92.mono : ∀ a0 a1 k, LeO (slices_ContainsFunc_int16_int16_70_at_92.f k a0 a1) (slices_ContainsFunc_int16_int16_70_at_92.f (k + 1) a0 a1) := by
 intro a0 a1 k
 unfold slices_ContainsFunc_int16_int16_70_at_92.f
 repeat' first
   | (with_reducible exact slices_IndexFunc_int16_int16_93_at_92.mono _ _ _)
   | (with_reducible exact LeO.refl _)
   | (with_reducible exact LeO.none _)
   | (with_reducible refine LeO.ite ?_ ?_)
   | (with_reducible refine LeO.bind ?_ (fun _ => ?_))
   | exact slices_IndexFunc_int16_int16_93_at_92.mono _ _ _
   | exact LeO.none _
   | refine LeO.ite ?_ ?_
   | refine LeO.bind ?_ (fun _ => ?_)
set_option maxHeartbeats 8000000 in
set_option maxRecDepth 100000 in
theorem slices_ContainsFunc_int16_int16_70_at_92.calls (k : Nat) (A0 : Option Addr) (c0 : Nat) (l0 : List Int) (gp1_0 : Nat) (a1_0 : Int) (r : Bool) (w : World) (hr0 : Kd.C (Kd.int .i16) w A0 l0.length l0) (hc0 : l0.length ≤ c0) (hb1_0 : w.heap[gp1_0]? = some (.cells #[.int .i64 a1_0] 2 (0, 0))) (h : slices_ContainsFunc_int16_int16_70_at_92.f k l0 a1_0 = some r) :
  Calls Try.prog 70 #[.slice A0 l0.length c0, .func (.func 92) #[] #[.pointer (some ⟨gp1_0, 0, none⟩)]] w fun e w' => e = .returned (.bool r) ∧ Below w.heap.size w w' := by
 have HR0 := Aside0.mk hr0
 have HC0 := Aside0.mk hc0
 clear hr0 hc0
 have BK277 := Aside0.mk hb1_0
 clear hb1_0
 have HB := A_ (Below.refl w.heap.size w)
 have H : ((slices_IndexFunc_int16_int16_93_at_92.f k l0 a1_0).bind fun t278 => (some (decide (t278 ≥ 0)))) = some r := h
 clear h
 replace H := Option.bind_eq_some_iff.mp H
 obtain ⟨t278, A30, H⟩ := H
 replace H : (some (decide (t278 ≥ 0))) = some r := H
 have A3 := Aside0.mk A30
 clear A30
 obtain rfl := Option.some.inj H
 go_enter Try.func70, Try.ntmps70
 go_wp2_with (first | ((with_reducible refine gate_callee (f := 93) rfl ?_); refine goesL_ (some 7) rfl rfl Try.func93 (by kernel_rfl) rfl #[.slice A0 l0.length c0, .func (.func 92) #[] #[.pointer (some ⟨gp1_0, 0, none⟩)]] rfl arg_ ?_; (with_reducible refine (slices_IndexFunc_int16_int16_93_at_92.calls k _ _ l0 gp1_0 a1_0 t278 _ ?side1 ?side2 ?side3 A3.out).mono ?_); (case side1 => repeat (first | exact HR0.out | (with_reducible refine Kd.C_alloc ?_ _) | (with_reducible refine Kd.C_drewN ?_ _) | (with_reducible refine Kd.C_drew ?_))); (case side2 => exact HC0.out); (case side3 => exact (pl_ BK277)); rintro e w4 ⟨rfl, hb⟩; refine ⟨_, rfl, ?_⟩; have n0_ := A_ (blk_below (pl_ BK277) hb); have n1_ := A_ (below_step (bl_ HB) hb); clear BK277; clear HB; have BK277 := n0_; have HB := n1_; clear n0_ n1_; (try clear hb); (try clear hb2); (try clear hk); (try clear hi)))
 go_ret
 exact ⟨by first | rfl | (simp [errW_none, errW_some] <;> rfl) | (simp [*, errW_none, errW_some] <;> rfl), bl_ HB⟩

/-! ### impl_Puzzle_hasAmount: function 66 -/
def impl_Puzzle_hasAmount.f (k : Nat) (l0_0 : List Int) (a0_1 : Int) (a0_2 : Int) (a0_3 : Int) (a0_4 : Int) (a0_5 : Bool) (a1_0 : Int) (a1_1 : Int) (a1_2 : Int) (a1_3 : Int) (a2 : Int) : Option (Bool) := if 0 ≤ (l0_0.length : Int) then (if (l0_0.length : Int) ≤ 4 then ((slices_ContainsFunc_int16_int16_70_at_92.f k ([a1_0, a1_1, a1_2, a1_3].take ((l0_0.length : Int) : Int).toNat) a2).bind fun t286 => (some t286)) else (none)) else (none)
theorem impl_Puzzle_hasAmount.mono : ∀ a0 a1 a2 a3 a4 a5 a6 a7 a8 a9 a10 k, LeO (impl_Puzzle_hasAmount.f k a0 a1 a2 a3 a4 a5 a6 a7 a8 a9 a10) (impl_Puzzle_hasAmount.f (k + 1) a0 a1 a2 a3 a4 a5 a6 a7 a8 a9 a10) := by
 intro a0 a1 a2 a3 a4 a5 a6 a7 a8 a9 a10 k
 unfold impl_Puzzle_hasAmount.f
 repeat' first
   | (with_reducible exact slices_ContainsFunc_int16_int16_70_at_92.mono _ _ _)
   | (with_reducible exact LeO.refl _)
   | (with_reducible exact LeO.none _)
   | (with_reducible refine LeO.ite ?_ ?_)
   | (with_reducible refine LeO.bind ?_ (fun _ => ?_))
   | exact slices_ContainsFunc_int16_int16_70_at_92.mono _ _ _
   | exact LeO.none _
   | refine LeO.ite ?_ ?_
   | refine LeO.bind ?_ (fun _ => ?_)
set_option maxHeartbeats 8000000 in
set_option maxRecDepth 100000 in
theorem impl_Puzzle_hasAmount.calls (k : Nat) (A0_0 : Option Addr) (c0_0 : Nat) (l0_0 : List Int) (a0_1 : Int) (a0_2 : Int) (a0_3 : Int) (a0_4 : Int) (a0_5 : Bool) (a1_0 : Int) (a1_1 : Int) (a1_2 : Int) (a1_3 : Int) (a2 : Int) (r : Bool) (w : World) (hr0_0 : Kd.C (Kd.int .i16) w A0_0 l0_0.length l0_0) (hc0_0 : l0_0.length ≤ c0_0) (h : impl_Puzzle_hasAmount.f k l0_0 a0_1 a0_2 a0_3 a0_4 a0_5 a1_0 a1_1 a1_2 a1_3 a2 = some r) :
  Calls Try.prog 66 #[.agg #[.slice A0_0 l0_0.length c0_0, .int .i16 a0_1, .int .i16 a0_2, .int .i16 a0_3, .int .i16 a0_4, .bool a0_5], .agg #[.int .i16 a1_0, .int .i16 a1_1, .int .i16 a1_2, .int .i16 a1_3], .int .i64 a2] w fun e w' => e = .returned (.bool r) ∧ Below w.heap.size w w' := by
 have hu32 := Try.underlying32
 have hu30 := Try.underlying30
 have HR0_0 := Aside0.mk hr0_0
 have HC0_0 := Aside0.mk hc0_0
 clear hr0_0 hc0_0
 have HB := A_ (Below.refl w.heap.size w)
 have H : (if 0 ≤ (l0_0.length : Int) then (if (l0_0.length : Int) ≤ 4 then ((slices_ContainsFunc_int16_int16_70_at_92.f k ([a1_0, a1_1, a1_2, a1_3].take ((l0_0.length : Int) : Int).toNat) a2).bind fun t286 => (some t286)) else (none)) else (none)) = some r := h
 clear h
 by_cases c4 : 0 ≤ (l0_0.length : Int)
 ·rw [if_pos c4] at H
  have c4b0 := eq_true c4
  have c4b1 : decide (0 ≤ (l0_0.length : Int)) = true := decide_eq_true c4
  clear c4
  by_cases c5 : (l0_0.length : Int) ≤ 4
  ·rw [if_pos c5] at H
   have c5b0 := eq_true c5
   have c5b1 : decide ((l0_0.length : Int) ≤ 4) = true := decide_eq_true c5
   clear c5
   obtain ⟨y282, hy282⟩ : ∃ y_ : List Int, y_ = ([a1_0, a1_1, a1_2, a1_3].take ((l0_0.length : Int) : Int).toNat) := ⟨_, rfl⟩
   replace H : ((slices_ContainsFunc_int16_int16_70_at_92.f k y282 a2).bind fun t286 => (some t286)) = some r := by first | (rw [hy282]; with_reducible exact H) | (have H2_ := (Option.bind_some _ _).symm.trans H; rw [hy282]; with_reducible exact H2_) | (have H2_ := (Option.bind_some _ _).symm.trans H; with_reducible exact H2_) | with_reducible exact H | (rw [hy282]; exact H) | exact H
   have Ny282 := Aside0.mk hy282
   clear hy282
   replace H := Option.bind_eq_some_iff.mp H
   obtain ⟨t286, A60, H⟩ := H
   replace H : (some t286) = some r := H
   have A6 := Aside0.mk A60
   clear A60
   obtain rfl := Option.some.inj H
   go_enter Try.func66, Try.ntmps66
   go_wp2_with (first | ((with_reducible refine gate_dst (N := 3) rfl ?_); refine box_event ?hg (N := 3) ?hd (cs := #[.slice A0_0 l0_0.length c0_0, .int .i16 a0_1, .int .i16 a0_2, .int .i16 a0_3, .int .i16 a0_4, .bool a0_5]) (t := 32) ?hr ?_; (case hd => rfl); (case hg => rfl); (case hr => first | (go_simp; done) | (go_simp; rfl)); intro gb279 hg w7 hbox hb; have n0_ := A_ (below_step (bl_ HB) hb); have n1_ := A_ (hbox); have n2_ := A_ ((by rw [hg]; exact (below_size (bl_ HB)) : w.heap.size ≤ gb279)); have n3_ := n2_; clear HB; have HB := n0_; have BK279 := n1_; have GW279 := n2_; have GE279 := n3_; clear n0_ n1_ n2_ n3_; clear hb hbox hg) | ((with_reducible refine gate_dst (N := 4) rfl ?_); refine box_event ?hg (N := 4) ?hd (cs := #[.int .i16 a1_0, .int .i16 a1_1, .int .i16 a1_2, .int .i16 a1_3]) (t := 30) ?hr ?_; (case hd => rfl); (case hg => rfl); (case hr => first | (go_simp; done) | (go_simp; rfl)); intro gb280 hg w8 hbox hb; have n0_ := A_ (blk_below (pl_ BK279) hb); have n1_ := A_ (below_step (bl_ HB) hb); have n2_ := A_ (hbox); have n3_ := A_ ((by rw [hg]; exact (below_size (bl_ HB)) : w.heap.size ≤ gb280)); have n4_ := n3_; have n5_ := A_ ((by rw [hg]; exact Nat.ne_of_lt (blk_lt (pl_ BK279)) : gb279 ≠ gb280)); have n6_ := Aside0.mk n5_.out.symm; clear BK279; clear HB; have BK279 := n0_; have HB := n1_; have BK280 := n2_; have GW280 := n3_; have GE280 := n4_; have NB279_280 := n5_; have NB280_279 := n6_; clear n0_ n1_ n2_ n3_ n4_ n5_ n6_; clear hb hbox hg) | ((with_reducible refine gate_dst (N := 5) rfl ?_); refine box_event ?hg (N := 5) ?hd (cs := #[.int .i64 a2]) (t := 2) ?hr ?_; (case hd => rfl); (case hg => rfl); (case hr => first | (go_simp; done) | (go_simp; rfl)); intro gb281 hg w9 hbox hb; have n0_ := A_ (blk_below (pl_ BK279) hb); have n1_ := A_ (blk_below (pl_ BK280) hb); have n2_ := A_ (below_step (bl_ HB) hb); have n3_ := A_ (hbox); have n4_ := A_ ((by rw [hg]; exact (below_size (bl_ HB)) : w.heap.size ≤ gb281)); have n5_ := n4_; have n6_ := A_ ((by rw [hg]; exact Nat.ne_of_lt (blk_lt (pl_ BK279)) : gb279 ≠ gb281)); have n7_ := Aside0.mk n6_.out.symm; have n8_ := A_ ((by rw [hg]; exact Nat.ne_of_lt (blk_lt (pl_ BK280)) : gb280 ≠ gb281)); have n9_ := Aside0.mk n8_.out.symm; clear BK279; clear BK280; clear HB; have BK279 := n0_; have BK280 := n1_; have HB := n2_; have BK281 := n3_; have GW281 := n4_; have GE281 := n5_; have NB279_281 := n6_; have NB281_279 := n7_; have NB280_281 := n8_; have NB281_280 := n9_; clear n0_ n1_ n2_ n3_ n4_ n5_ n6_ n7_ n8_ n9_; clear hb hbox hg; have hnb10 := NB279_280.out; have hnc10 := NB280_279.out; have hnb11 := NB279_281.out; have hnc11 := NB281_279.out; obtain ⟨hcz12_0, hcz12_1, hcz12_2, hcz12_3, hcz12_4, hcz12_5, hfz12_0, hfz12_1, hfz12_2, hfz12_3, hfz12_4, hfz12_5⟩ := cl6_ BK279; have p13 : (0 : Int) ≤ ((l0_0.length : Int) : Int) := asm_; have q13 : ((l0_0.length : Int) : Int) ≤ 4 := asm_; have hcut13 := arr_cut (P := Try.prog) (t := 30) (e := 23) Try.underlying30 (by kernel_rfl) ⟨gb280, 0, none⟩ .i64 ((l0_0.length : Int) : Int) p13 q13; have hr13 := arr_C (k := .i16) (l := [a1_0, a1_1, a1_2, a1_3]) (o := 0) BK280.out rfl (by simp) ((l0_0.length : Int) : Int).toNat (by simp; omega); have hy13 : y282.length = ((l0_0.length : Int) : Int).toNat := (by rw [Ny282.out]; simp; omega); rw [← Ny282.out] at hr13; rw [← hy13] at hcut13; have HR285 := Aside0.mk hr13; have HC285 := A_ (show y282.length ≤ 4 from by omega); clear hr13 hy13; replace p13 := eq_true p13; replace q13 := eq_true q13) | ((with_reducible refine gate_callee (f := 70) rfl ?_); refine goesL_ (some 12) rfl rfl Try.func70 (by kernel_rfl) rfl #[.slice (some ⟨gb280, 0, none⟩) y282.length 4, .func (.func 92) #[] #[.pointer (some ⟨gb281, 0, none⟩)]] rfl arg_ ?_; (with_reducible refine (slices_ContainsFunc_int16_int16_70_at_92.calls k _ _ y282 gb281 a2 t286 _ ?side1 ?side2 ?side3 A6.out).mono ?_); (case side1 => repeat (first | exact (by repeat (first | (with_reducible exact HR285.out) | (with_reducible refine Kd.C_alloc ?_ _) | (with_reducible refine Kd.C_drewN ?_ _) | (with_reducible refine Kd.C_drew ?_) | exact HR285.out)) | (with_reducible refine Kd.C_alloc ?_ _) | (with_reducible refine Kd.C_drewN ?_ _) | (with_reducible refine Kd.C_drew ?_))); (case side2 => exact HC285.out); (case side3 => exact (pl_ BK281)); rintro e w14 ⟨rfl, hb⟩; refine ⟨_, rfl, ?_⟩; have n0_ := A_ (blk_below (pl_ BK279) hb); have n1_ := A_ (blk_below (pl_ BK280) hb); have n2_ := A_ (blk_below (pl_ BK281) hb); have n3_ := A_ (Kd.C_below (by repeat (first | (with_reducible exact HR285.out) | (with_reducible refine Kd.C_alloc ?_ _) | (with_reducible refine Kd.C_drewN ?_ _) | (with_reducible refine Kd.C_drew ?_) | exact HR285.out)) hb); have n4_ := A_ (below_step (bl_ HB) hb); clear BK279; clear BK280; clear BK281; clear HR285; clear HB; have BK279 := n0_; have BK280 := n1_; have BK281 := n2_; have HR285 := n3_; have HB := n4_; clear n0_ n1_ n2_ n3_ n4_; (try clear hb); (try clear hb2); (try clear hk); (try clear hi)))
   go_ret
   exact ⟨by first | rfl | (simp [errW_none, errW_some] <;> rfl) | (simp [*, errW_none, errW_some] <;> rfl), bl_ HB⟩
  ·rw [if_neg c5] at H
   exact absurd H (by simp)
 ·rw [if_neg c4] at H
  exact absurd H (by simp)

end Go.Proofs.Ytodmfjophjhbeaa.M
