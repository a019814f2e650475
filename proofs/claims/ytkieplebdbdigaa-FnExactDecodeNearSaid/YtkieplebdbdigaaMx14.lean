-- By this seat's own program over the kit's printer (arrays, functions told by hand); nothing of it is trusted: the kernel checks it.
import Derived.Test.YtkieplebdbdigaaMx0
import Derived.Test.YtkieplebdbdigaaMx12
namespace Go.Proofs.Ytkieplebdbdigaa.M
open Go.RowKit Go.Proofs.YtkieplebdbdigaaW.PrintWords Go.Proofs.YtkieplebdbdigaaW.PrintLast Go.Proofs.YtkieplebdbdigaaW.PrintMore
attribute [local go_sem] max2_int min2_int max_two min_two max_three min_three max_four min_four   -- for this text's walks alone
set_option linter.unusedVariables false
set_option linter.unusedSimpArgs false

/-! ### impl_casesOf: function 48 -/
mutual
def impl_casesOf.j0 : Nat → Int → Int → List (S38) → Option ((List (S38)))
 | 0, _, _, _ => none
 | k + 1, x0, x1, x7 => impl_casesOf.l0 k x1 x7 x0 0
def impl_casesOf.l0 : Nat → Int → List (S38) → Int → Int → Option ((List (S38)))
 | 0, _, _, _, _ => none
 | k + 1, x1, x7, x15, x16 => if x16 < x15 then (if x1 = 1 then (if x1 = 0 then (impl_casesOf.l0 k x1 x7 x15 (wrap64 (x16 + 1))) else (if x7.length < 70368744177664 then (impl_casesOf.l0 k x1 (x7 ++ [(⟨IntKind.i8.wrap (x16), false⟩ : S38)]) x15 (wrap64 (x16 + 1))) else (none))) else (if x7.length < 70368744177664 then ((some (x7 ++ [(⟨IntKind.i8.wrap (x16), true⟩ : S38)] : List (S38))).bind fun y223 => (if x1 = 0 then (impl_casesOf.l0 k x1 y223 x15 (wrap64 (x16 + 1))) else (if y223.length < 70368744177664 then (impl_casesOf.l0 k x1 (y223 ++ [(⟨IntKind.i8.wrap (x16), false⟩ : S38)]) x15 (wrap64 (x16 + 1))) else (none)))) else (none))) else (some x7)
end
def impl_casesOf.f (k : Nat) (a0 : Int) (a1 : Int) (a2 : Bool) : Option ((List (S38))) := (some (([] : List (S38)) : List (S38))).bind fun y214 => (if a2 = true then (if y214.length < 70368744177664 then (impl_casesOf.j0 k a0 a1 (y214 ++ [(⟨(-1), false⟩ : S38)])) else (none)) else (impl_casesOf.j0 k a0 a1 y214))
theorem impl_casesOf.mono_l : ∀ k, (∀ y0 y1 y2, LeO (impl_casesOf.j0 k y0 y1 y2) (impl_casesOf.j0 (k + 1) y0 y1 y2)) ∧ (∀ y0 y1 y2 y3, LeO (impl_casesOf.l0 k y0 y1 y2 y3) (impl_casesOf.l0 (k + 1) y0 y1 y2 y3))
 | 0 => ⟨fun _ _ _ r h => by simp [impl_casesOf.j0] at h, fun _ _ _ _ r h => by simp [impl_casesOf.l0] at h⟩
 | k + 1 => by
  obtain ⟨ih0, ih1⟩ := impl_casesOf.mono_l k
  refine ⟨?_, ?_⟩
  ·intro y0 y1 y2
   unfold impl_casesOf.j0
   repeat' first
   | (with_reducible exact ih0 _ _ _)
   | (with_reducible exact ih1 _ _ _ _)
   | (with_reducible exact LeO.refl _)
   | (with_reducible exact LeO.none _)
   | (with_reducible refine LeO.ite ?_ ?_)
   | (with_reducible refine LeO.bind ?_ (fun _ => ?_))
   | exact ih0 _ _ _
   | exact ih1 _ _ _ _
   | exact LeO.none _
   | refine LeO.ite ?_ ?_
   | refine LeO.bind ?_ (fun _ => ?_)
  ·intro y0 y1 y2 y3
   unfold impl_casesOf.l0
   repeat' first
   | (with_reducible exact ih0 _ _ _)
   | (with_reducible exact ih1 _ _ _ _)
   | (with_reducible exact LeO.refl _)
   | (with_reducible exact LeO.none _)
   | (with_reducible refine LeO.ite ?_ ?_)
   | (with_reducible refine LeO.bind ?_ (fun _ => ?_))
   | exact ih0 _ _ _
   | exact ih1 _ _ _ _
   | exact LeO.none _
   | refine LeO.ite ?_ ?_
   | refine LeO.bind ?_ (fun _ => ?_)
theorem impl_casesOf.mono : ∀ a0 a1 a2 k, LeO (impl_casesOf.f k a0 a1 a2) (impl_casesOf.f (k + 1) a0 a1 a2) := by
 intro a0 a1 a2 k
 obtain ⟨ih0, ih1⟩ := impl_casesOf.mono_l k
 unfold impl_casesOf.f
 repeat' first
   | (with_reducible exact ih0 _ _ _)
   | (with_reducible exact ih1 _ _ _ _)
   | (with_reducible exact LeO.refl _)
   | (with_reducible exact LeO.none _)
   | (with_reducible refine LeO.ite ?_ ?_)
   | (with_reducible refine LeO.bind ?_ (fun _ => ?_))
   | exact ih0 _ _ _
   | exact ih1 _ _ _ _
   | exact LeO.none _
   | refine LeO.ite ?_ ?_
   | refine LeO.bind ?_ (fun _ => ?_)
set_option maxHeartbeats 8000000 in
set_option maxRecDepth 100000 in
theorem impl_casesOf.calls (k : Nat) (a0 : Int) (a1 : Int) (a2 : Bool) (r : List (S38)) (w : World) (h : impl_casesOf.f k a0 a1 a2 = some r) :
  Calls Try.prog 48 #[.int .i64 a0, .int .i8 a1, .bool a2] w fun e w' => ∃ v0_ : Value, e = .returned (v0_) ∧ Kd.R k38 38 w' w.heap.size (fun _ => True) v0_ r ∧ Below w.heap.size w w' := by
 have hu38 := Try.underlying38
 have HB := A_ (Below.refl w.heap.size w)
 have H : ((some (([] : List (S38)) : List (S38))).bind fun y214 => (if a2 = true then (if y214.length < 70368744177664 then (impl_casesOf.j0 k a0 a1 (y214 ++ [(⟨(-1), false⟩ : S38)])) else (none)) else (impl_casesOf.j0 k a0 a1 y214))) = some r := h
 clear h
 obtain ⟨y214, hy214⟩ : ∃ y_ : List (S38), y_ = (([] : List (S38))) := ⟨_, rfl⟩
 replace H : (if a2 = true then (if y214.length < 70368744177664 then (impl_casesOf.j0 k a0 a1 (y214 ++ [(⟨(-1), false⟩ : S38)])) else (none)) else (impl_casesOf.j0 k a0 a1 y214)) = some r := by first | (rw [hy214]; with_reducible exact H) | (have H2_ := (Option.bind_some _ _).symm.trans H; rw [hy214]; with_reducible exact H2_) | (have H2_ := (Option.bind_some _ _).symm.trans H; with_reducible exact H2_) | with_reducible exact H | (rw [hy214]; exact H) | exact H
 have Ny214 := Aside0.mk hy214
 clear hy214
 have HC4 := Aside0.mk H
 clear H
 go_enter Try.func48, Try.ntmps48
 go_upto_if 10 with (first | ((with_reducible refine gate_dst (N := 9) rfl ?_); refine Kd.R_lit k38 _ 38 ?hg (N := 9) ?hd (xs := ([] : List (S38))) (inner := []) (ok := fun _ => True) (okp := fun _ => True) ?hr ?hp (fun _ hk => hk) trivial (Below.refl _ _) (Nat.le_refl _) (by simp) ?_; (case hd => rfl); (case hg => rfl); (case hr => first | (go_simp; done) | (go_simp; rfl)); (case hp => exact (Reps.none _ _)); intro v215 w5 ho6 hb hg_ hnew_; clear hg_ hnew_; (first | rw [← Ny214.out] at ho6 | (simp only [Int.reduceToNat] at ho6; rw [← Ny214.out] at ho6)); have n0_ := A_ (Kd.R_lower ho6 (below_size (bl_ HB))); have n1_ := A_ (below_step (bl_ HB) hb); clear HB; have HO216 := n0_; have HB := n1_; clear n0_ n1_; clear hb ho6))
 (try simp only [Act.put, List.setIfInBounds_toArray, List.set_cons_zero, List.set_cons_succ])
 go_cut [7] (fun v7 wc => ∃ (kq : Nat) (x7_3 : List (S38)), Aside0 (impl_casesOf.j0 kq a0 a1 x7_3 = some r) ∧ Aside0 (kq ≤ k) ∧ Aside0 (Kd.R k38 38 wc w.heap.size (fun _ => True) v7 x7_3) ∧ Aside0 (Below w.heap.size w wc))
 case first =>
  have H := HC4.out
  clear HC4
  by_cases c7 : a2 = true
  ·subst c7
   have H1 : (if y214.length < 70368744177664 then (impl_casesOf.j0 k a0 a1 (y214 ++ [(⟨(-1), false⟩ : S38)])) else (none)) = some r := by rw [if_pos rfl] at H; exact H
   clear H
   have H := H1
   clear H1
   by_cases c8 : y214.length < 70368744177664
   ·rw [if_pos c8] at H
    have LMc8 := Aside0.mk c8
    clear c8
    obtain ⟨y217, hy217⟩ : ∃ y_ : List (S38), y_ = (y214 ++ [(⟨(-1), false⟩ : S38)]) := ⟨_, rfl⟩
    replace H : (impl_casesOf.j0 k a0 a1 y217) = some r := by first | (rw [hy217]; with_reducible exact H) | (have H2_ := (Option.bind_some _ _).symm.trans H; rw [hy217]; with_reducible exact H2_) | (have H2_ := (Option.bind_some _ _).symm.trans H; with_reducible exact H2_) | with_reducible exact H | (rw [hy217]; exact H) | exact H
    have Ny217 := Aside0.mk hy217
    clear hy217
    have H' := Aside0.mk H
    clear H
    go_wp2_with (first | ((with_reducible refine gate_builtin (b := .append) (xs := #[.tmp 11, .tmp 13]) rfl ?_); at_builtin; refine Kd.R_append k38 (w0 := w) w.heap.size rfl (.tmp 11) (.tmp 13) 57 38 (.agg #[(.int .i8 0), (.bool false)]) 2 rfl Try.underlying57 info38 rfl (by decide) (by omega) v215 y214 (⟨(-1), false⟩ : S38) [.int .i8 (-1), .bool false] (fun _ => True) (fun _ => False) rfl rfl ?aP (fun _ hk => hk.elim) ?aF ?aO ?aB ?aS ?aL ?_; (case aP => exact k38_mkM _ _ _ (⟨(-1), false⟩ : S38)); (case aB => exact (bl_ HB)); (case aF => exact (fun _ _ => trivial)); (case aO => exact (pr_ HO216)); (case aS => exact (below_size (bl_ HB))); (case aL => have := LMc8.out; omega); intro v218 w9 ho hb hg hat; rw [← Ny217.out] at ho; have n0_ := A_ (hb); have n1_ := A_ (ho); clear HB; clear HO216; have HB := n0_; have HO219 := n1_; clear n0_ n1_; clear ho hb hg hat))
    go_meet
    case rel => exact ⟨_, (y217), H', ⟨by first | omega | exact Nat.le_refl _⟩, ⟨pr_ HO219⟩, ⟨bl_ HB⟩⟩
   ·rw [if_neg c8] at H
    exact absurd H (by simp)
  ·replace c7 := Bool.eq_false_iff.mpr c7
   subst c7
   have H1 : (impl_casesOf.j0 k a0 a1 y214) = some r := by rw [if_neg (show ¬ (false = true) by decide)] at H; exact H
   clear H
   have H := H1
   clear H1
   have H' := Aside0.mk H
   clear H
   go_wp2
   go_meet
   case rel => exact ⟨_, (y214), H', ⟨by first | omega | exact Nat.le_refl _⟩, ⟨pr_ HO216⟩, ⟨bl_ HB⟩⟩
 case rest =>
  clear HC4
  try clear p2
  try clear c4
  try clear c7
  try clear c8
  obtain ⟨kq, x7_3, HA, HJ3, HO_7, HB⟩ := hcut
  cases kq with
  | zero => exact absurd HA.out (by simp [impl_casesOf.j0])
  | succ kj3 =>
   have H := HA.out
   clear HA
   simp only [impl_casesOf.j0] at H
   have H' := Aside0.mk H
   clear H
   go_wp2
   go_loopg [7, 16] kj3 (fun kq v7 v16 w' => ∃ (x7_2 : List (S38)) (x16_2 : Int), v16 = .int .i64 x16_2 ∧ Aside0 (impl_casesOf.l0 kq a1 x7_2 a0 x16_2 = some r) ∧ Aside0 (kq ≤ kj3) ∧ Aside0 (Kd.R k38 38 w' w.heap.size (fun _ => True) v7 x7_2) ∧ Aside0 (Below w.heap.size w w'))
   case atStart => exact ⟨(x7_3), (0), rs_, H', ⟨Nat.le_refl _⟩, ⟨pr_ HO_7⟩, ⟨bl_ HB⟩⟩
   case round =>
    clear H'
    try clear p2
    try clear c4
    try clear c7
    try clear c8
    try clear p2
    obtain ⟨x7_2, x16_2, rfl, HA, HK2, HO_7, HB⟩ := hrel
    cases gk with
    | zero => exact absurd HA.out (by simp [impl_casesOf.l0])
    | succ k2 =>
     have H := HA.out
     clear HA
     simp only [impl_casesOf.l0] at H
     by_cases c10 : x16_2 < a0
     ·rw [if_pos c10] at H
      have c10b0 : decide (x16_2 < a0) = true := decide_eq_true c10
      clear c10
      by_cases c11 : a1 = 1
      ·rw [if_pos c11] at H
       have c11b0 : (a1 == 1) = true := beq_iff_eq.mpr c11
       have c11b1 : (a1 != 1) = false := bne_eq_false_iff_eq.mpr c11
       clear c11
       by_cases c12 : a1 = 0
       ·rw [if_pos c12] at H
        have c12b0 : (a1 == 0) = true := beq_iff_eq.mpr c12
        have c12b1 : (a1 != 0) = false := bne_eq_false_iff_eq.mpr c12
        clear c12
        have H' := Aside0.mk H
        clear H
        go_wp2
        go_roundg k2
        case measure => have := HJ3.out; have := HK2.out; omega
        case rel => exact ⟨(x7_2), (wrap64 (x16_2 + 1)), rs_, H', ⟨by have := HJ3.out; have := HK2.out; omega⟩, ⟨pr_ HO_7⟩, ⟨bl_ HB⟩⟩
       ·rw [if_neg c12] at H
        have c12b0 : (a1 == 0) = false := beq_eq_false_iff_ne.mpr c12
        have c12b1 : (a1 != 0) = true := bne_iff_ne.mpr c12
        by_cases c13 : x7_2.length < 70368744177664
        ·rw [if_pos c13] at H
         have LMc13 := Aside0.mk c13
         clear c13
         obtain ⟨y220, hy220⟩ : ∃ y_ : List (S38), y_ = (x7_2 ++ [(⟨IntKind.i8.wrap (x16_2), false⟩ : S38)]) := ⟨_, rfl⟩
         replace H : (impl_casesOf.l0 k2 a1 y220 a0 (wrap64 (x16_2 + 1))) = some r := by first | (rw [hy220]; with_reducible exact H) | (have H2_ := (Option.bind_some _ _).symm.trans H; rw [hy220]; with_reducible exact H2_) | (have H2_ := (Option.bind_some _ _).symm.trans H; with_reducible exact H2_) | with_reducible exact H | (rw [hy220]; exact H) | exact H
         have Ny220 := Aside0.mk hy220
         clear hy220
         have H' := Aside0.mk H
         clear H
         go_wp2_with (first | ((with_reducible refine gate_builtin (b := .append) (xs := #[.tmp 29, .tmp 33]) rfl ?_); at_builtin; refine Kd.R_append k38 (w0 := w) w.heap.size rfl (.tmp 29) (.tmp 33) 57 38 (.agg #[(.int .i8 0), (.bool false)]) 2 rfl Try.underlying57 info38 rfl (by decide) (by omega) u7 x7_2 (⟨IntKind.i8.wrap (x16_2), false⟩ : S38) [.int .i8 (IntKind.i8.wrap (x16_2)), .bool false] (fun _ => True) (fun _ => False) rfl rfl ?aP (fun _ hk => hk.elim) ?aF ?aO ?aB ?aS ?aL ?_; (case aP => exact k38_mkM _ _ _ (⟨IntKind.i8.wrap (x16_2), false⟩ : S38)); (case aB => exact (bl_ HB)); (case aF => exact (fun _ _ => trivial)); (case aO => exact (pr_ HO_7)); (case aS => exact (below_size (bl_ HB))); (case aL => have := LMc13.out; omega); intro v221 w14 ho hb hg hat; rw [← Ny220.out] at ho; have n0_ := A_ (hb); have n1_ := A_ (ho); clear HB; clear HO_7; have HB := n0_; have HO222 := n1_; clear n0_ n1_; clear ho hb hg hat))
         go_roundg k2
         case measure => have := HJ3.out; have := HK2.out; omega
         case rel => exact ⟨(y220), (wrap64 (x16_2 + 1)), rs_, H', ⟨by have := HJ3.out; have := HK2.out; omega⟩, ⟨pr_ HO222⟩, ⟨bl_ HB⟩⟩
        ·rw [if_neg c13] at H
         exact absurd H (by simp)
      ·rw [if_neg c11] at H
       have c11b0 : (a1 == 1) = false := beq_eq_false_iff_ne.mpr c11
       have c11b1 : (a1 != 1) = true := bne_iff_ne.mpr c11
       by_cases c15 : x7_2.length < 70368744177664
       ·rw [if_pos c15] at H
        have LMc15 := Aside0.mk c15
        clear c15
        obtain ⟨y223, hy223⟩ : ∃ y_ : List (S38), y_ = (x7_2 ++ [(⟨IntKind.i8.wrap (x16_2), true⟩ : S38)]) := ⟨_, rfl⟩
        replace H : (if a1 = 0 then (impl_casesOf.l0 k2 a1 y223 a0 (wrap64 (x16_2 + 1))) else (if y223.length < 70368744177664 then (impl_casesOf.l0 k2 a1 (y223 ++ [(⟨IntKind.i8.wrap (x16_2), false⟩ : S38)]) a0 (wrap64 (x16_2 + 1))) else (none))) = some r := by first | (rw [hy223]; with_reducible exact H) | (have H2_ := (Option.bind_some _ _).symm.trans H; rw [hy223]; with_reducible exact H2_) | (have H2_ := (Option.bind_some _ _).symm.trans H; with_reducible exact H2_) | with_reducible exact H | (rw [hy223]; exact H) | exact H
        have Ny223 := Aside0.mk hy223
        clear hy223
        by_cases c16 : a1 = 0
        ·rw [if_pos c16] at H
         have c16b0 : (a1 == 0) = true := beq_iff_eq.mpr c16
         have c16b1 : (a1 != 0) = false := bne_eq_false_iff_eq.mpr c16
         clear c16
         have H' := Aside0.mk H
         clear H
         go_wp2_with (first | ((with_reducible refine gate_builtin (b := .append) (xs := #[.tmp 21, .tmp 25]) rfl ?_); at_builtin; refine Kd.R_append k38 (w0 := w) w.heap.size rfl (.tmp 21) (.tmp 25) 57 38 (.agg #[(.int .i8 0), (.bool false)]) 2 rfl Try.underlying57 info38 rfl (by decide) (by omega) u7 x7_2 (⟨IntKind.i8.wrap (x16_2), true⟩ : S38) [.int .i8 (IntKind.i8.wrap (x16_2)), .bool true] (fun _ => True) (fun _ => False) rfl rfl ?aP (fun _ hk => hk.elim) ?aF ?aO ?aB ?aS ?aL ?_; (case aP => exact k38_mkM _ _ _ (⟨IntKind.i8.wrap (x16_2), true⟩ : S38)); (case aB => exact (bl_ HB)); (case aF => exact (fun _ _ => trivial)); (case aO => exact (pr_ HO_7)); (case aS => exact (below_size (bl_ HB))); (case aL => have := LMc15.out; omega); intro v224 w17 ho hb hg hat; rw [← Ny223.out] at ho; have n0_ := A_ (hb); have n1_ := A_ (ho); clear HB; clear HO_7; have HB := n0_; have HO225 := n1_; clear n0_ n1_; clear ho hb hg hat))
         go_roundg k2
         case measure => have := HJ3.out; have := HK2.out; omega
         case rel => exact ⟨(y223), (wrap64 (x16_2 + 1)), rs_, H', ⟨by have := HJ3.out; have := HK2.out; omega⟩, ⟨pr_ HO225⟩, ⟨bl_ HB⟩⟩
        ·rw [if_neg c16] at H
         have c16b0 : (a1 == 0) = false := beq_eq_false_iff_ne.mpr c16
         have c16b1 : (a1 != 0) = true := bne_iff_ne.mpr c16
         by_cases c18 : y223.length < 70368744177664
         ·rw [if_pos c18] at H
          have LMc18 := Aside0.mk c18
          clear c18
          obtain ⟨y226, hy226⟩ : ∃ y_ : List (S38), y_ = (y223 ++ [(⟨IntKind.i8.wrap (x16_2), false⟩ : S38)]) := ⟨_, rfl⟩
          replace H : (impl_casesOf.l0 k2 a1 y226 a0 (wrap64 (x16_2 + 1))) = some r := by first | (rw [hy226]; with_reducible exact H) | (have H2_ := (Option.bind_some _ _).symm.trans H; rw [hy226]; with_reducible exact H2_) | (have H2_ := (Option.bind_some _ _).symm.trans H; with_reducible exact H2_) | with_reducible exact H | (rw [hy226]; exact H) | exact H
          have Ny226 := Aside0.mk hy226
          clear hy226
          have H' := Aside0.mk H
          clear H
          go_wp2_with (first | ((with_reducible refine gate_builtin (b := .append) (xs := #[.tmp 21, .tmp 25]) rfl ?_); at_builtin; refine Kd.R_append k38 (w0 := w) w.heap.size rfl (.tmp 21) (.tmp 25) 57 38 (.agg #[(.int .i8 0), (.bool false)]) 2 rfl Try.underlying57 info38 rfl (by decide) (by omega) u7 x7_2 (⟨IntKind.i8.wrap (x16_2), true⟩ : S38) [.int .i8 (IntKind.i8.wrap (x16_2)), .bool true] (fun _ => True) (fun _ => False) rfl rfl ?aP (fun _ hk => hk.elim) ?aF ?aO ?aB ?aS ?aL ?_; (case aP => exact k38_mkM _ _ _ (⟨IntKind.i8.wrap (x16_2), true⟩ : S38)); (case aB => exact (bl_ HB)); (case aF => exact (fun _ _ => trivial)); (case aO => exact (pr_ HO_7)); (case aS => exact (below_size (bl_ HB))); (case aL => have := LMc15.out; omega); intro v224 w19 ho hb hg hat; rw [← Ny223.out] at ho; have n0_ := A_ (hb); have n1_ := A_ (ho); clear HB; clear HO_7; have HB := n0_; have HO225 := n1_; clear n0_ n1_; clear ho hb hg hat) | ((with_reducible refine gate_builtin (b := .append) (xs := #[.tmp 29, .tmp 33]) rfl ?_); at_builtin; refine Kd.R_append k38 (w0 := w) w.heap.size rfl (.tmp 29) (.tmp 33) 57 38 (.agg #[(.int .i8 0), (.bool false)]) 2 rfl Try.underlying57 info38 rfl (by decide) (by omega) v224 y223 (⟨IntKind.i8.wrap (x16_2), false⟩ : S38) [.int .i8 (IntKind.i8.wrap (x16_2)), .bool false] (fun _ => True) (fun _ => False) rfl rfl ?aP (fun _ hk => hk.elim) ?aF ?aO ?aB ?aS ?aL ?_; (case aP => exact k38_mkM _ _ _ (⟨IntKind.i8.wrap (x16_2), false⟩ : S38)); (case aB => exact (bl_ HB)); (case aF => exact (fun _ _ => trivial)); (case aO => exact (pr_ HO225)); (case aS => exact (below_size (bl_ HB))); (case aL => have := LMc18.out; omega); intro v227 w20 ho hb hg hat; rw [← Ny226.out] at ho; have n0_ := A_ (hb); have n1_ := A_ (ho); clear HB; clear HO225; have HB := n0_; have HO228 := n1_; clear n0_ n1_; clear ho hb hg hat))
          go_roundg k2
          case measure => have := HJ3.out; have := HK2.out; omega
          case rel => exact ⟨(y226), (wrap64 (x16_2 + 1)), rs_, H', ⟨by have := HJ3.out; have := HK2.out; omega⟩, ⟨pr_ HO228⟩, ⟨bl_ HB⟩⟩
         ·rw [if_neg c18] at H
          exact absurd H (by simp)
       ·rw [if_neg c15] at H
        exact absurd H (by simp)
     ·rw [if_neg c10] at H
      have c10b0 : decide (x16_2 < a0) = false := decide_eq_false c10
      clear c10
      obtain rfl := Option.some.inj H
      go_wp2
      go_ret
      exact ⟨_, by first | rfl | (simp [errW_none, errW_some] <;> rfl) | (simp [*, errW_none, errW_some] <;> rfl), pr_ HO_7, bl_ HB⟩

/-! ### impl_Fixed_cases: function 34 -/
def impl_Fixed_cases.f (k : Nat) (a0_0 : Int) (a0_1 : Int) (l0_2 : List (S41)) : Option ((List (S38))) := (impl_Word_22.f l0_2).bind fun t230 => ((impl_casesOf.f k t230 a0_1 true).bind fun t231 => (some t231))
theorem impl_Fixed_cases.mono : ∀ a0 a1 a2 k, LeO (impl_Fixed_cases.f k a0 a1 a2) (impl_Fixed_cases.f (k + 1) a0 a1 a2) := by
 intro a0 a1 a2 k
 unfold impl_Fixed_cases.f
 repeat' first
   | (with_reducible exact impl_casesOf.mono _ _ _ _)
   | (with_reducible exact LeO.refl _)
   | (with_reducible exact LeO.none _)
   | (with_reducible refine LeO.ite ?_ ?_)
   | (with_reducible refine LeO.bind ?_ (fun _ => ?_))
   | exact impl_casesOf.mono _ _ _ _
   | exact LeO.none _
   | refine LeO.ite ?_ ?_
   | refine LeO.bind ?_ (fun _ => ?_)
set_option maxHeartbeats 8000000 in
set_option maxRecDepth 100000 in
theorem impl_Fixed_cases.calls (k : Nat) (a0_0 : Int) (a0_1 : Int) (A0_2 : Option Addr) (c0_2 : Nat) (l0_2 : List (S41)) (r : List (S38)) (w : World) (hr0_2 : Kd.C k41 w A0_2 l0_2.length l0_2) (hc0_2 : l0_2.length ≤ c0_2) (h : impl_Fixed_cases.f k a0_0 a0_1 l0_2 = some r) :
  Calls Try.prog 34 #[.agg #[.int .i8 a0_0, .int .i8 a0_1, .slice A0_2 l0_2.length c0_2]] w fun e w' => ∃ v0_ : Value, e = .returned (v0_) ∧ Kd.R k38 38 w' w.heap.size (fun _ => True) v0_ r ∧ Below w.heap.size w w' := by
 have hu29 := Try.underlying29
 have HR0_2 := Aside0.mk hr0_2
 have HC0_2 := Aside0.mk hc0_2
 clear hr0_2 hc0_2
 have HB := A_ (Below.refl w.heap.size w)
 have H : ((impl_Word_22.f l0_2).bind fun t230 => ((impl_casesOf.f k t230 a0_1 true).bind fun t231 => (some t231))) = some r := h
 clear h
 replace H := Option.bind_eq_some_iff.mp H
 obtain ⟨t230, A20, H⟩ := H
 replace H : ((impl_casesOf.f k t230 a0_1 true).bind fun t231 => (some t231)) = some r := H
 have A2 := Aside0.mk A20
 clear A20
 replace H := Option.bind_eq_some_iff.mp H
 obtain ⟨t231, A30, H⟩ := H
 replace H : (some t231) = some r := H
 have A3 := Aside0.mk A30
 clear A30
 obtain rfl := Option.some.inj H
 go_enter Try.func34, Try.ntmps34
 try go_wp2_with (first | ((with_reducible refine gate_dst (N := 1) rfl ?_); refine box_event ?hg (N := 1) ?hd (cs := #[.int .i8 a0_0, .int .i8 a0_1, .slice A0_2 l0_2.length c0_2]) (t := 29) ?hr ?_; (case hd => rfl); (case hg => rfl); (case hr => first | (go_simp; done) | (go_simp; rfl)); intro gb229 hg w4 hbox hb; have n0_ := A_ (below_step (bl_ HB) hb); have n1_ := A_ (hbox); have n2_ := A_ ((by rw [hg]; exact (below_size (bl_ HB)) : w.heap.size ≤ gb229)); have n3_ := n2_; clear HB; have HB := n0_; have BK229 := n1_; have GW229 := n2_; have GE229 := n3_; clear n0_ n1_ n2_ n3_; clear hb hbox hg))
 have n0_ := A_ (blk_drew BK229.out)
 have n1_ := A_ (below_drew1 HB.out)
 clear BK229
 clear HB
 have BK229 := n0_
 have HB := n1_
 clear n0_ n1_
 refine start_ (n := 7) (S := fun w' => w'.cell? ⟨gb229, 0, none⟩ = some (.int .i8 a0_0) ∧ w'.cell? ⟨gb229, 1, none⟩ = some (.int .i8 a0_1) ∧ w'.cell? ⟨gb229, 2, none⟩ = some (.slice A0_2 l0_2.length c0_2)) (ds := []) #[false, false, false, false, false, false, false] (by kernel_rfl) rfl rfl ⟨(blk_cell BK229.out 0).trans rfl, (blk_cell BK229.out 1).trans rfl, (blk_cell BK229.out 2).trans rfl⟩ (fun hHeld => ?_)
 generalize w4.drew = w5 at BK229 HB hHeld ⊢
 refine pure_ (i := 0) (N := some 3) (v := ?_) (a' := ?_) #[true, false, false, false, false, false, false] rfl rfl (by kernel_rfl) (fun _ _ _ h => h) (Or.inl ⟨by rfl, ?_⟩) ?_ ?_
 rotate_left
 ·intro w'
  go_simp
  with_reducible rfl
 rotate_left
 ·simp only [Act.put, sp_]
  rfl
 refine pure_ (i := 3) (N := some 6) (v := ?_) (a' := ?_) #[true, false, false, true, false, false, false] rfl rfl (by kernel_rfl) (fun _ _ _ h => h) (Or.inl ⟨by rfl, ?_⟩) ?_ ?_
 rotate_left
 ·intro w'
  go_simp
  with_reducible rfl
 rotate_left
 ·simp only [Act.put, sp_]
  rfl
 refine take_ (i := 1) (N := some 4) (v := ?_) (a' := ?_) #[true, true, false, true, false, false, false] rfl rfl (by kernel_rfl) (fun _ _ _ h => h) (Or.inl ⟨by rfl, ?_⟩) hHeld ?_ ?_
 rotate_left
 ·rintro w' ⟨s0, s1, s2⟩
  go_simp
  with_reducible rfl
 rotate_left
 ·simp only [Act.put, sp_]
  rfl
 refine take_ (i := 4) (N := some 7) (v := ?_) (a' := ?_) #[true, true, false, true, true, false, false] rfl rfl (by kernel_rfl) (fun _ _ _ h => h) (Or.inl ⟨by rfl, ?_⟩) hHeld ?_ ?_
 rotate_left
 ·rintro w' ⟨s0, s1, s2⟩
  go_simp
  with_reducible rfl
 rotate_left
 ·simp only [Act.put, sp_]
  rfl
 refine one_ (i := 2) (N := some 5) #[true, true, true, true, true, false, false] rfl rfl (by kernel_rfl) (by decide) (fun K hK => ?_)
 refine goes_ Try.func22 (by kernel_rfl) rfl #[.slice A0_2 l0_2.length c0_2] (by rfl) rfl rfl arg_ ?_
 with_reducible refine (impl_Word_22.calls _ _ l0_2 t230 _ ?side1 ?side2 A2.out).mono ?_
 (case side1 => exact Kd.C_below HR0_2.out (bl_ HB))
 (case side2 => exact HC0_2.out)
 rintro e w' ⟨rfl, ⟨nd, rfl⟩⟩
 refine ⟨_, rfl, ?_⟩
 refine hK.out _ _ ⟨(blk_cell BK229.out 0).trans rfl, (blk_cell BK229.out 1).trans rfl, (blk_cell BK229.out 2).trans rfl⟩ (fun hHeld => ?_)
 clear hK K
 refine norm_ (a' := ?_) ?_ ?_
 rotate_left
 ·show Act.put _ (some 5) _ = _
  simp only [Act.put, sp_]
  rfl
 refine one_ (i := 5) (N := some 8) #[true, true, true, true, true, true, false] rfl rfl (by kernel_rfl) (by decide) (fun K hK => ?_)
 refine goes_ Try.func48 (by kernel_rfl) rfl #[.int .i64 t230, .int .i8 a0_1, .bool true] (by rfl) rfl rfl arg_ ?_
 with_reducible refine (impl_casesOf.calls k t230 a0_1 true t231 _ A3.out).mono ?_
 rintro e w6 ⟨v232, rfl, ho0, hb⟩
 refine ⟨_, rfl, ?_⟩
 have n0_ := A_ (Kd.R_lower ho0 (below_size (bl_ HB)))
 have n1_ := A_ (blk_below (pl_ BK229) hb)
 have n2_ := A_ (below_step (bl_ HB) hb)
 clear BK229
 clear HB
 have HO233 := n0_
 have BK229 := n1_
 have HB := n2_
 clear n0_ n1_ n2_
 (try clear hb)
 (try clear hb2)
 (try clear hk)
 (try clear hi)
 (try clear ho0)
 refine hK.out _ _ ⟨(blk_cell BK229.out 0).trans rfl, (blk_cell BK229.out 1).trans rfl, (blk_cell BK229.out 2).trans rfl⟩ (fun hHeld => ?_)
 clear hK K
 refine norm_ (a' := ?_) ?_ ?_
 rotate_left
 ·show Act.put _ (some 8) _ = _
  simp only [Act.put, sp_]
  rfl
 refine pure_ (i := 6) (N := some 2) (v := ?_) (a' := ?_) #[true, true, true, true, true, true, true] rfl rfl (by kernel_rfl) (fun _ _ _ h => h) (Or.inl ⟨by rfl, ?_⟩) ?_ ?_
 rotate_left
 ·intro w'
  go_simp
  with_reducible rfl
 rotate_left
 ·simp only [Act.put, sp_]
  rfl
 refine done_ (by kernel_rfl) ?_
 try go_wp2
 go_ret
 exact ⟨_, by first | rfl | (simp [errW_none, errW_some] <;> rfl) | (simp [*, errW_none, errW_some] <;> rfl), pr_ HO233, bl_ HB⟩

end Go.Proofs.Ytkieplebdbdigaa.M
