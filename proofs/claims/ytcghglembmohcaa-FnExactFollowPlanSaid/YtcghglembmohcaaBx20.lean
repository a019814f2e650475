-- By this seat's own program over the kit's printer (arrays, functions told by hand); nothing of it is trusted: the kernel checks it.
import Derived.Test.YtcghglembmohcaaBx0
namespace Go.Proofs.Ytcghglembmohcaa.B
open Go.RowKit Go.Proofs.YtcghglembmohcaaW.PrintWords Go.Proofs.YtcghglembmohcaaW.PrintLast Go.Proofs.YtcghglembmohcaaW.PrintMore
attribute [local go_sem] max2_int min2_int max_two min_two max_three min_three max_four min_four   -- for this text's walks alone
set_option linter.unusedVariables false
set_option linter.unusedSimpArgs false

/-! ### impl_Node: function 33 -/
def impl_Node.f (l0 : List (S58)) : Option (Int) := some (l0.length : Int)
set_option maxHeartbeats 8000000 in
set_option maxRecDepth 100000 in
theorem impl_Node.calls (A0 : Option Addr) (c0 : Nat) (l0 : List (S58)) (r : Int) (w : World) (hr0 : Kd.C k58 w A0 l0.length l0) (hc0 : l0.length ≤ c0) (h : impl_Node.f l0 = some r) :
  Calls Try.prog 33 #[.slice A0 l0.length c0] w fun e w' => e = .returned (.int .i64 r) ∧ Drawn0 w w' := by
 have HR0 := Aside0.mk hr0
 have HC0 := Aside0.mk hc0
 clear hr0 hc0
 have H : (some (l0.length : Int)) = some r := h
 clear h
 obtain rfl := Option.some.inj H
 go_enter Try.func33, Try.ntmps33
 go_wp2
 go_ret
 exact ⟨by first | rfl | (simp; done) | (simp [*]; done), by repeat (first | exact Drawn0.refl _ | apply Drawn0.step)⟩

/-! ### impl_casesOf: function 46 -/
mutual
def impl_casesOf.j0 : Nat → Int → Int → List (S43) → Option ((List (S43)))
 | 0, _, _, _ => none
 | k + 1, x0, x1, x7 => impl_casesOf.l0 k x1 x7 x0 0
def impl_casesOf.l0 : Nat → Int → List (S43) → Int → Int → Option ((List (S43)))
 | 0, _, _, _, _ => none
 | k + 1, x1, x7, x15, x16 => if x16 < x15 then (if x1 = 1 then (if x1 = 0 then (impl_casesOf.l0 k x1 x7 x15 (wrap64 (x16 + 1))) else (if x7.length < 70368744177664 then (impl_casesOf.l0 k x1 (x7 ++ [(⟨IntKind.i8.wrap (x16), false⟩ : S43)]) x15 (wrap64 (x16 + 1))) else (none))) else (if x7.length < 70368744177664 then ((some (x7 ++ [(⟨IntKind.i8.wrap (x16), true⟩ : S43)] : List (S43))).bind fun y238 => (if x1 = 0 then (impl_casesOf.l0 k x1 y238 x15 (wrap64 (x16 + 1))) else (if y238.length < 70368744177664 then (impl_casesOf.l0 k x1 (y238 ++ [(⟨IntKind.i8.wrap (x16), false⟩ : S43)]) x15 (wrap64 (x16 + 1))) else (none)))) else (none))) else (some x7)
end
def impl_casesOf.f (k : Nat) (a0 : Int) (a1 : Int) (a2 : Bool) : Option ((List (S43))) := (some (([] : List (S43)) : List (S43))).bind fun y229 => (if a2 = true then (if y229.length < 70368744177664 then (impl_casesOf.j0 k a0 a1 (y229 ++ [(⟨(-1), false⟩ : S43)])) else (none)) else (impl_casesOf.j0 k a0 a1 y229))
theorem impl_casesOf.mono_l : ∀ k, (∀ y0 y1 y2, LeO (impl_casesOf.j0 k y0 y1 y2) (impl_casesOf.j0 (k + 1) y0 y1 y2)) ∧ (∀ y0 y1 y2 y3, LeO (impl_casesOf.l0 k y0 y1 y2 y3) (impl_casesOf.l0 (k + 1) y0 y1 y2 y3))
 | 0 => ⟨fun _ _ _ r h => by simp [impl_casesOf.j0] at h, fun _ _ _ _ r h => by simp [impl_casesOf.l0] at h⟩
 | k + 1 => by
  obtain ⟨ih0, ih1⟩ := impl_casesOf.mono_l k
  refine ⟨?_, ?_⟩
  ·intro y0 y1 y2
   unfold impl_casesOf.j0
   repeat' first
   | (with_reducible exact ih0 _ _ _)
   | (with_reducible exact ih1 _ _ _ _)
   | (with_reducible exact LeO.refl _)
   | (with_reducible exact LeO.none _)
   | (with_reducible refine LeO.ite ?_ ?_)
   | (with_reducible refine LeO.bind ?_ (fun _ => ?_))
   | exact ih0 _ _ _
   | exact ih1 _ _ _ _
   | exact LeO.none _
   | refine LeO.ite ?_ ?_
   | refine LeO.bind ?_ (fun _ => ?_)
  ·intro y0 y1 y2 y3
   unfold impl_casesOf.l0
   repeat' first
   | (with_reducible exact ih0 _ _ _)
   | (with_reducible exact ih1 _ _ _ _)
   | (with_reducible exact LeO.refl _)
   | (with_reducible exact LeO.none _)
   | (with_reducible refine LeO.ite ?_ ?_)
   | (with_reducible refine LeO.bind ?_ (fun _ => ?_))
   | exact ih0 _ _ _
   | exact ih1 _ _ _ _
   | exact LeO.none _
   | refine LeO.ite ?_ ?_
   | refine LeO.bind ?_ (fun _ => ?_)
theorem impl_casesOf.mono : ∀ a0 a1 a2 k, LeO (impl_casesOf.f k a0 a1 a2) (impl_casesOf.f (k + 1) a0 a1 a2) := by
 intro a0 a1 a2 k
 obtain ⟨ih0, ih1⟩ := impl_casesOf.mono_l k
 unfold impl_casesOf.f
 repeat' first
   | (with_reducible exact ih0 _ _ _)
   | (with_reducible exact ih1 _ _ _ _)
   | (with_reducible exact LeO.refl _)
   | (with_reducible exact LeO.none _)
   | (with_reducible refine LeO.ite ?_ ?_)
   | (with_reducible refine LeO.bind ?_ (fun _ => ?_))
   | exact ih0 _ _ _
   | exact ih1 _ _ _ _
   | exact LeO.none _
   | refine LeO.ite ?_ ?_
   | refine LeO.bind ?_ (fun _ => ?_)
set_option maxHeartbeats 8000000 in
set_option maxRecDepth 100000 in
theorem impl_casesOf.calls (k : Nat) (a0 : Int) (a1 : Int) (a2 : Bool) (r : List (S43)) (w : World) (h : impl_casesOf.f k a0 a1 a2 = some r) :
  Calls Try.prog 46 #[.int .i64 a0, .int .i8 a1, .bool a2] w fun e w' => ∃ v0_ : Value, e = .returned (v0_) ∧ Kd.R k43 43 w' w.heap.size (fun _ => True) v0_ r ∧ Below w.heap.size w w' := by
 have hu43 := Try.underlying43
 have HB := A_ (Below.refl w.heap.size w)
 have H : ((some (([] : List (S43)) : List (S43))).bind fun y229 => (if a2 = true then (if y229.length < 70368744177664 then (impl_casesOf.j0 k a0 a1 (y229 ++ [(⟨(-1), false⟩ : S43)])) else (none)) else (impl_casesOf.j0 k a0 a1 y229))) = some r := h
 clear h
 obtain ⟨y229, hy229⟩ : ∃ y_ : List (S43), y_ = (([] : List (S43))) := ⟨_, rfl⟩
 replace H : (if a2 = true then (if y229.length < 70368744177664 then (impl_casesOf.j0 k a0 a1 (y229 ++ [(⟨(-1), false⟩ : S43)])) else (none)) else (impl_casesOf.j0 k a0 a1 y229)) = some r := by first | (rw [hy229]; with_reducible exact H) | (have H2_ := (Option.bind_some _ _).symm.trans H; rw [hy229]; with_reducible exact H2_) | (have H2_ := (Option.bind_some _ _).symm.trans H; with_reducible exact H2_) | with_reducible exact H | (rw [hy229]; exact H) | exact H
 have Ny229 := Aside0.mk hy229
 clear hy229
 have HC4 := Aside0.mk H
 clear H
 go_enter Try.func46, Try.ntmps46
 go_upto_if 10 with (first | ((with_reducible refine gate_dst (N := 9) rfl ?_); refine Kd.R_lit k43 _ 43 ?hg (N := 9) ?hd (xs := ([] : List (S43))) (inner := []) (ok := fun _ => True) (okp := fun _ => True) ?hr ?hp (fun _ hk => hk) trivial (Below.refl _ _) (Nat.le_refl _) (by simp) ?_; (case hd => rfl); (case hg => rfl); (case hr => first | (go_simp; done) | (go_simp; rfl)); (case hp => exact (Reps.none _ _)); intro v230 w5 ho6 hb hg_ hnew_; clear hg_ hnew_; (first | rw [← Ny229.out] at ho6 | (simp only [Int.reduceToNat] at ho6; rw [← Ny229.out] at ho6)); have n0_ := A_ (Kd.R_lower ho6 (below_size (bl_ HB))); have n1_ := A_ (below_step (bl_ HB) hb); clear HB; have HO231 := n0_; have HB := n1_; clear n0_ n1_; clear hb ho6))
 (try simp only [Act.put, List.setIfInBounds_toArray, List.set_cons_zero, List.set_cons_succ])
 go_cut [7] (fun v7 wc => ∃ (kq : Nat) (x7_3 : List (S43)), Aside0 (impl_casesOf.j0 kq a0 a1 x7_3 = some r) ∧ Aside0 (kq ≤ k) ∧ Aside0 (Kd.R k43 43 wc w.heap.size (fun _ => True) v7 x7_3) ∧ Aside0 (Below w.heap.size w wc))
 case first =>
  have H := HC4.out
  clear HC4
  by_cases c7 : a2 = true
  ·subst c7
   have H1 : (if y229.length < 70368744177664 then (impl_casesOf.j0 k a0 a1 (y229 ++ [(⟨(-1), false⟩ : S43)])) else (none)) = some r := by rw [if_pos rfl] at H; exact H
   clear H
   have H := H1
   clear H1
   by_cases c8 : y229.length < 70368744177664
   ·rw [if_pos c8] at H
    have LMc8 := Aside0.mk c8
    clear c8
    obtain ⟨y232, hy232⟩ : ∃ y_ : List (S43), y_ = (y229 ++ [(⟨(-1), false⟩ : S43)]) := ⟨_, rfl⟩
    replace H : (impl_casesOf.j0 k a0 a1 y232) = some r := by first | (rw [hy232]; with_reducible exact H) | (have H2_ := (Option.bind_some _ _).symm.trans H; rw [hy232]; with_reducible exact H2_) | (have H2_ := (Option.bind_some _ _).symm.trans H; with_reducible exact H2_) | with_reducible exact H | (rw [hy232]; exact H) | exact H
    have Ny232 := Aside0.mk hy232
    clear hy232
    have H' := Aside0.mk H
    clear H
    go_wp2_with (first | ((with_reducible refine gate_builtin (b := .append) (xs := #[.tmp 11, .tmp 13]) rfl ?_); at_builtin; refine Kd.R_append k43 (w0 := w) w.heap.size rfl (.tmp 11) (.tmp 13) 65 43 (.agg #[(.int .i8 0), (.bool false)]) 2 rfl Try.underlying65 info43 rfl (by decide) (by omega) v230 y229 (⟨(-1), false⟩ : S43) [.int .i8 (-1), .bool false] (fun _ => True) (fun _ => False) rfl rfl ?aP (fun _ hk => hk.elim) ?aF ?aO ?aB ?aS ?aL ?_; (case aP => exact k43_mkM _ _ _ (⟨(-1), false⟩ : S43)); (case aB => exact (bl_ HB)); (case aF => exact (fun _ _ => trivial)); (case aO => exact (pr_ HO231)); (case aS => exact (below_size (bl_ HB))); (case aL => have := LMc8.out; omega); intro v233 w9 ho hb hg hat; rw [← Ny232.out] at ho; have n0_ := A_ (hb); have n1_ := A_ (ho); clear HB; clear HO231; have HB := n0_; have HO234 := n1_; clear n0_ n1_; clear ho hb hg hat))
    go_meet
    case rel => exact ⟨_, (y232), H', ⟨by first | omega | exact Nat.le_refl _⟩, ⟨pr_ HO234⟩, ⟨bl_ HB⟩⟩
   ·rw [if_neg c8] at H
    exact absurd H (by simp)
  ·replace c7 := Bool.eq_false_iff.mpr c7
   subst c7
   have H1 : (impl_casesOf.j0 k a0 a1 y229) = some r := by rw [if_neg (show ¬ (false = true) by decide)] at H; exact H
   clear H
   have H := H1
   clear H1
   have H' := Aside0.mk H
   clear H
   go_wp2
   go_meet
   case rel => exact ⟨_, (y229), H', ⟨by first | omega | exact Nat.le_refl _⟩, ⟨pr_ HO231⟩, ⟨bl_ HB⟩⟩
 case rest =>
  clear HC4
  try clear p2
  try clear c4
  try clear c7
  try clear c8
  obtain ⟨kq, x7_3, HA, HJ3, HO_7, HB⟩ := hcut
  cases kq with
  | zero => exact absurd HA.out (by simp [impl_casesOf.j0])
  | succ kj3 =>
   have H := HA.out
   clear HA
   simp only [impl_casesOf.j0] at H
   have H' := Aside0.mk H
   clear H
   go_wp2
   go_loopg [7, 16] kj3 (fun kq v7 v16 w' => ∃ (x7_2 : List (S43)) (x16_2 : Int), v16 = .int .i64 x16_2 ∧ Aside0 (impl_casesOf.l0 kq a1 x7_2 a0 x16_2 = some r) ∧ Aside0 (kq ≤ kj3) ∧ Aside0 (Kd.R k43 43 w' w.heap.size (fun _ => True) v7 x7_2) ∧ Aside0 (Below w.heap.size w w'))
   case atStart => exact ⟨(x7_3), (0), rs_, H', ⟨Nat.le_refl _⟩, ⟨pr_ HO_7⟩, ⟨bl_ HB⟩⟩
   case round =>
    clear H'
    try clear p2
    try clear c4
    try clear c7
    try clear c8
    try clear p2
    obtain ⟨x7_2, x16_2, rfl, HA, HK2, HO_7, HB⟩ := hrel
    cases gk with
    | zero => exact absurd HA.out (by simp [impl_casesOf.l0])
    | succ k2 =>
     have H := HA.out
     clear HA
     simp only [impl_casesOf.l0] at H
     by_cases c10 : x16_2 < a0
     ·rw [if_pos c10] at H
      have c10b0 : decide (x16_2 < a0) = true := decide_eq_true c10
      clear c10
      by_cases c11 : a1 = 1
      ·rw [if_pos c11] at H
       have c11b0 : (a1 == 1) = true := beq_iff_eq.mpr c11
       have c11b1 : (a1 != 1) = false := bne_eq_false_iff_eq.mpr c11
       clear c11
       by_cases c12 : a1 = 0
       ·rw [if_pos c12] at H
        have c12b0 : (a1 == 0) = true := beq_iff_eq.mpr c12
        have c12b1 : (a1 != 0) = false := bne_eq_false_iff_eq.mpr c12
        clear c12
        have H' := Aside0.mk H
        clear H
        go_wp2
        go_roundg k2
        case measure => have := HJ3.out; have := HK2.out; omega
        case rel => exact ⟨(x7_2), (wrap64 (x16_2 + 1)), rs_, H', ⟨by have := HJ3.out; have := HK2.out; omega⟩, ⟨pr_ HO_7⟩, ⟨bl_ HB⟩⟩
       ·rw [if_neg c12] at H
        have c12b0 : (a1 == 0) = false := beq_eq_false_iff_ne.mpr c12
        have c12b1 : (a1 != 0) = true := bne_iff_ne.mpr c12
        by_cases c13 : x7_2.length < 70368744177664
        ·rw [if_pos c13] at H
         have LMc13 := Aside0.mk c13
         clear c13
         obtain ⟨y235, hy235⟩ : ∃ y_ : List (S43), y_ = (x7_2 ++ [(⟨IntKind.i8.wrap (x16_2), false⟩ : S43)]) := ⟨_, rfl⟩
         replace H : (impl_casesOf.l0 k2 a1 y235 a0 (wrap64 (x16_2 + 1))) = some r := by first | (rw [hy235]; with_reducible exact H) | (have H2_ := (Option.bind_some _ _).symm.trans H; rw [hy235]; with_reducible exact H2_) | (have H2_ := (Option.bind_some _ _).symm.trans H; with_reducible exact H2_) | with_reducible exact H | (rw [hy235]; exact H) | exact H
         have Ny235 := Aside0.mk hy235
         clear hy235
         have H' := Aside0.mk H
         clear H
         go_wp2_with (first | ((with_reducible refine gate_builtin (b := .append) (xs := #[.tmp 29, .tmp 33]) rfl ?_); at_builtin; refine Kd.R_append k43 (w0 := w) w.heap.size rfl (.tmp 29) (.tmp 33) 65 43 (.agg #[(.int .i8 0), (.bool false)]) 2 rfl Try.underlying65 info43 rfl (by decide) (by omega) u7 x7_2 (⟨IntKind.i8.wrap (x16_2), false⟩ : S43) [.int .i8 (IntKind.i8.wrap (x16_2)), .bool false] (fun _ => True) (fun _ => False) rfl rfl ?aP (fun _ hk => hk.elim) ?aF ?aO ?aB ?aS ?aL ?_; (case aP => exact k43_mkM _ _ _ (⟨IntKind.i8.wrap (x16_2), false⟩ : S43)); (case aB => exact (bl_ HB)); (case aF => exact (fun _ _ => trivial)); (case aO => exact (pr_ HO_7)); (case aS => exact (below_size (bl_ HB))); (case aL => have := LMc13.out; omega); intro v236 w14 ho hb hg hat; rw [← Ny235.out] at ho; have n0_ := A_ (hb); have n1_ := A_ (ho); clear HB; clear HO_7; have HB := n0_; have HO237 := n1_; clear n0_ n1_; clear ho hb hg hat))
         go_roundg k2
         case measure => have := HJ3.out; have := HK2.out; omega
         case rel => exact ⟨(y235), (wrap64 (x16_2 + 1)), rs_, H', ⟨by have := HJ3.out; have := HK2.out; omega⟩, ⟨pr_ HO237⟩, ⟨bl_ HB⟩⟩
        ·rw [if_neg c13] at H
         exact absurd H (by simp)
      ·rw [if_neg c11] at H
       have c11b0 : (a1 == 1) = false := beq_eq_false_iff_ne.mpr c11
       have c11b1 : (a1 != 1) = true := bne_iff_ne.mpr c11
       by_cases c15 : x7_2.length < 70368744177664
       ·rw [if_pos c15] at H
        have LMc15 := Aside0.mk c15
        clear c15
        obtain ⟨y238, hy238⟩ : ∃ y_ : List (S43), y_ = (x7_2 ++ [(⟨IntKind.i8.wrap (x16_2), true⟩ : S43)]) := ⟨_, rfl⟩
        replace H : (if a1 = 0 then (impl_casesOf.l0 k2 a1 y238 a0 (wrap64 (x16_2 + 1))) else (if y238.length < 70368744177664 then (impl_casesOf.l0 k2 a1 (y238 ++ [(⟨IntKind.i8.wrap (x16_2), false⟩ : S43)]) a0 (wrap64 (x16_2 + 1))) else (none))) = some r := by first | (rw [hy238]; with_reducible exact H) | (have H2_ := (Option.bind_some _ _).symm.trans H; rw [hy238]; with_reducible exact H2_) | (have H2_ := (Option.bind_some _ _).symm.trans H; with_reducible exact H2_) | with_reducible exact H | (rw [hy238]; exact H) | exact H
        have Ny238 := Aside0.mk hy238
        clear hy238
        by_cases c16 : a1 = 0
        ·rw [if_pos c16] at H
         have c16b0 : (a1 == 0) = true := beq_iff_eq.mpr c16
         have c16b1 : (a1 != 0) = false := bne_eq_false_iff_eq.mpr c16
         clear c16
         have H' := Aside0.mk H
         clear H
         go_wp2_with (first | ((with_reducible refine gate_builtin (b := .append) (xs := #[.tmp 21, .tmp 25]) rfl ?_); at_builtin; refine Kd.R_append k43 (w0 := w) w.heap.size rfl (.tmp 21) (.tmp 25) 65 43 (.agg #[(.int .i8 0), (.bool false)]) 2 rfl Try.underlying65 info43 rfl (by decide) (by omega) u7 x7_2 (⟨IntKind.i8.wrap (x16_2), true⟩ : S43) [.int .i8 (IntKind.i8.wrap (x16_2)), .bool true] (fun _ => True) (fun _ => False) rfl rfl ?aP (fun _ hk => hk.elim) ?aF ?aO ?aB ?aS ?aL ?_; (case aP => exact k43_mkM _ _ _ (⟨IntKind.i8.wrap (x16_2), true⟩ : S43)); (case aB => exact (bl_ HB)); (case aF => exact (fun _ _ => trivial)); (case aO => exact (pr_ HO_7)); (case aS => exact (below_size (bl_ HB))); (case aL => have := LMc15.out; omega); intro v239 w17 ho hb hg hat; rw [← Ny238.out] at ho; have n0_ := A_ (hb); have n1_ := A_ (ho); clear HB; clear HO_7; have HB := n0_; have HO240 := n1_; clear n0_ n1_; clear ho hb hg hat))
         go_roundg k2
         case measure => have := HJ3.out; have := HK2.out; omega
         case rel => exact ⟨(y238), (wrap64 (x16_2 + 1)), rs_, H', ⟨by have := HJ3.out; have := HK2.out; omega⟩, ⟨pr_ HO240⟩, ⟨bl_ HB⟩⟩
        ·rw [if_neg c16] at H
         have c16b0 : (a1 == 0) = false := beq_eq_false_iff_ne.mpr c16
         have c16b1 : (a1 != 0) = true := bne_iff_ne.mpr c16
         by_cases c18 : y238.length < 70368744177664
         ·rw [if_pos c18] at H
          have LMc18 := Aside0.mk c18
          clear c18
          obtain ⟨y241, hy241⟩ : ∃ y_ : List (S43), y_ = (y238 ++ [(⟨IntKind.i8.wrap (x16_2), false⟩ : S43)]) := ⟨_, rfl⟩
          replace H : (impl_casesOf.l0 k2 a1 y241 a0 (wrap64 (x16_2 + 1))) = some r := by first | (rw [hy241]; with_reducible exact H) | (have H2_ := (Option.bind_some _ _).symm.trans H; rw [hy241]; with_reducible exact H2_) | (have H2_ := (Option.bind_some _ _).symm.trans H; with_reducible exact H2_) | with_reducible exact H | (rw [hy241]; exact H) | exact H
          have Ny241 := Aside0.mk hy241
          clear hy241
          have H' := Aside0.mk H
          clear H
          go_wp2_with (first | ((with_reducible refine gate_builtin (b := .append) (xs := #[.tmp 21, .tmp 25]) rfl ?_); at_builtin; refine Kd.R_append k43 (w0 := w) w.heap.size rfl (.tmp 21) (.tmp 25) 65 43 (.agg #[(.int .i8 0), (.bool false)]) 2 rfl Try.underlying65 info43 rfl (by decide) (by omega) u7 x7_2 (⟨IntKind.i8.wrap (x16_2), true⟩ : S43) [.int .i8 (IntKind.i8.wrap (x16_2)), .bool true] (fun _ => True) (fun _ => False) rfl rfl ?aP (fun _ hk => hk.elim) ?aF ?aO ?aB ?aS ?aL ?_; (case aP => exact k43_mkM _ _ _ (⟨IntKind.i8.wrap (x16_2), true⟩ : S43)); (case aB => exact (bl_ HB)); (case aF => exact (fun _ _ => trivial)); (case aO => exact (pr_ HO_7)); (case aS => exact (below_size (bl_ HB))); (case aL => have := LMc15.out; omega); intro v239 w19 ho hb hg hat; rw [← Ny238.out] at ho; have n0_ := A_ (hb); have n1_ := A_ (ho); clear HB; clear HO_7; have HB := n0_; have HO240 := n1_; clear n0_ n1_; clear ho hb hg hat) | ((with_reducible refine gate_builtin (b := .append) (xs := #[.tmp 29, .tmp 33]) rfl ?_); at_builtin; refine Kd.R_append k43 (w0 := w) w.heap.size rfl (.tmp 29) (.tmp 33) 65 43 (.agg #[(.int .i8 0), (.bool false)]) 2 rfl Try.underlying65 info43 rfl (by decide) (by omega) v239 y238 (⟨IntKind.i8.wrap (x16_2), false⟩ : S43) [.int .i8 (IntKind.i8.wrap (x16_2)), .bool false] (fun _ => True) (fun _ => False) rfl rfl ?aP (fun _ hk => hk.elim) ?aF ?aO ?aB ?aS ?aL ?_; (case aP => exact k43_mkM _ _ _ (⟨IntKind.i8.wrap (x16_2), false⟩ : S43)); (case aB => exact (bl_ HB)); (case aF => exact (fun _ _ => trivial)); (case aO => exact (pr_ HO240)); (case aS => exact (below_size (bl_ HB))); (case aL => have := LMc18.out; omega); intro v242 w20 ho hb hg hat; rw [← Ny241.out] at ho; have n0_ := A_ (hb); have n1_ := A_ (ho); clear HB; clear HO240; have HB := n0_; have HO243 := n1_; clear n0_ n1_; clear ho hb hg hat))
          go_roundg k2
          case measure => have := HJ3.out; have := HK2.out; omega
          case rel => exact ⟨(y241), (wrap64 (x16_2 + 1)), rs_, H', ⟨by have := HJ3.out; have := HK2.out; omega⟩, ⟨pr_ HO243⟩, ⟨bl_ HB⟩⟩
         ·rw [if_neg c18] at H
          exact absurd H (by simp)
       ·rw [if_neg c15] at H
        exact absurd H (by simp)
     ·rw [if_neg c10] at H
      have c10b0 : decide (x16_2 < a0) = false := decide_eq_false c10
      clear c10
      obtain rfl := Option.some.inj H
      go_wp2
      go_ret
      exact ⟨_, by first | rfl | (simp [errW_none, errW_some] <;> rfl) | (simp [*, errW_none, errW_some] <;> rfl), pr_ HO_7, bl_ HB⟩

end Go.Proofs.Ytcghglembmohcaa.B
