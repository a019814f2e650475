-- By this seat's own program over the kit's printer (arrays, functions told by hand); nothing of it is trusted: the kernel checks it.
import Derived.Test.YtegnpgagboccpaaMx0
import Derived.Test.YtegnpgagboccpaaMx1
namespace Go.Proofs.Ytegnpgagboccpaa.M
open Go.RowKit Go.Proofs.YtegnpgagboccpaaW.PrintWords Go.Proofs.YtegnpgagboccpaaW.PrintLast Go.Proofs.YtegnpgagboccpaaW.PrintMore
attribute [local go_sem] max2_int min2_int max_two min_two max_three min_three max_four min_four   -- for this text's walks alone
set_option linter.unusedVariables false
set_option linter.unusedSimpArgs false

/-! ### spec_LeastWeights: function 6 -/
mutual
def spec_LeastWeights.j0 : Nat → Int → Int → Int → Option (List Int × Int)
 | 0, _, _, _ => none
 | k + 1, x0, x6, x7 => spec_LeastWeights.l0 k x6 x7 (([] : List Int)) x0 1
def spec_LeastWeights.l0 : Nat → Int → Int → List Int → Int → Int → Option (List Int × Int)
 | 0, _, _, _, _, _ => none
 | k + 1, x6, x7, x8, x9, x10 => if (wrap64 (x10 * x6)) ≤ x7 then (if x8.length < 70368744177664 then (spec_LeastWeights.l0 k x6 x7 (x8 ++ [IntKind.i16.wrap (x10)]) (wrap64 (x9 - x10)) (wrap64 (x10 * x6))) else (none)) else (if x8.length < 70368744177664 then ((some (x8 ++ [IntKind.i16.wrap (x9)] : List Int)).bind fun y156 => (spec_LeastWeights.l1 k y156 (wrap64 ((y156.length : Int) - 1)))) else (none))
def spec_LeastWeights.l1 : Nat → List Int → Int → Option (List Int × Int)
 | 0, _, _ => none
 | k + 1, x8, x11 => if x11 > 0 then (if 0 ≤ x11 then (if x11 < (x8.length : Int) then (if 0 ≤ (wrap64 (x11 - 1)) then (if (wrap64 (x11 - 1)) < (x8.length : Int) then (if (rd x8 x11) < (rd x8 (wrap64 (x11 - 1))) then (spec_LeastWeights.l1 k ((x8.set (x11 : Int).toNat (rd x8 (wrap64 (x11 - 1)))).set ((wrap64 (x11 - 1)) : Int).toNat (rd x8 x11)) (wrap64 (x11 - 1))) else (some (x8, 0))) else (none)) else (none)) else (none)) else (none)) else (some (x8, 0))
end
def spec_LeastWeights.f (k : Nat) (a0 : Int) (a1 : Bool) : Option (List Int × Int) := (spec_l00In.f a0 1 2000).bind fun t146 => (if t146 = true then (if a1 = true then (spec_LeastWeights.j0 k a0 3 (wrap64 (2 * a0))) else (spec_LeastWeights.j0 k a0 2 a0)) else (some ((([] : List Int)), 2)))
theorem spec_LeastWeights.mono_l : ∀ k, (∀ y0 y1 y2, LeO (spec_LeastWeights.j0 k y0 y1 y2) (spec_LeastWeights.j0 (k + 1) y0 y1 y2)) ∧ (∀ y0 y1 y2 y3 y4, LeO (spec_LeastWeights.l0 k y0 y1 y2 y3 y4) (spec_LeastWeights.l0 (k + 1) y0 y1 y2 y3 y4)) ∧ (∀ y0 y1, LeO (spec_LeastWeights.l1 k y0 y1) (spec_LeastWeights.l1 (k + 1) y0 y1))
 | 0 => ⟨fun _ _ _ r h => by simp [spec_LeastWeights.j0] at h, fun _ _ _ _ _ r h => by simp [spec_LeastWeights.l0] at h, fun _ _ r h => by simp [spec_LeastWeights.l1] at h⟩
 | k + 1 => by
  obtain ⟨ih0, ih1, ih2⟩ := spec_LeastWeights.mono_l k
  refine ⟨?_, ?_, ?_⟩
  ·intro y0 y1 y2
   unfold spec_LeastWeights.j0
   repeat' first
   | (with_reducible exact ih0 _ _ _)
   | (with_reducible exact ih1 _ _ _ _ _)
   | (with_reducible exact ih2 _ _)
   | (with_reducible exact LeO.refl _)
   | (with_reducible exact LeO.none _)
   | (with_reducible refine LeO.ite ?_ ?_)
   | (with_reducible refine LeO.bind ?_ (fun _ => ?_))
   | exact ih0 _ _ _
   | exact ih1 _ _ _ _ _
   | exact ih2 _ _
   | exact LeO.none _
   | refine LeO.ite ?_ ?_
   | refine LeO.bind ?_ (fun _ => ?_)
  ·intro y0 y1 y2 y3 y4
   unfold spec_LeastWeights.l0
   repeat' first
   | (with_reducible exact ih0 _ _ _)
   | (with_reducible exact ih1 _ _ _ _ _)
   | (with_reducible exact ih2 _ _)
   | (with_reducible exact LeO.refl _)
   | (with_reducible exact LeO.none _)
   | (with_reducible refine LeO.ite ?_ ?_)
   | (with_reducible refine LeO.bind ?_ (fun _ => ?_))
   | exact ih0 _ _ _
   | exact ih1 _ _ _ _ _
   | exact ih2 _ _
   | exact LeO.none _
   | refine LeO.ite ?_ ?_
   | refine LeO.bind ?_ (fun _ => ?_)
  ·intro y0 y1
   unfold spec_LeastWeights.l1
   repeat' first
   | (with_reducible exact ih0 _ _ _)
   | (with_reducible exact ih1 _ _ _ _ _)
   | (with_reducible exact ih2 _ _)
   | (with_reducible exact LeO.refl _)
   | (with_reducible exact LeO.none _)
   | (with_reducible refine LeO.ite ?_ ?_)
   | (with_reducible refine LeO.bind ?_ (fun _ => ?_))
   | exact ih0 _ _ _
   | exact ih1 _ _ _ _ _
   | exact ih2 _ _
   | exact LeO.none _
   | refine LeO.ite ?_ ?_
   | refine LeO.bind ?_ (fun _ => ?_)
theorem spec_LeastWeights.mono : ∀ a0 a1 k, LeO (spec_LeastWeights.f k a0 a1) (spec_LeastWeights.f (k + 1) a0 a1) := by
 intro a0 a1 k
 obtain ⟨ih0, ih1, ih2⟩ := spec_LeastWeights.mono_l k
 unfold spec_LeastWeights.f
 repeat' first
   | (with_reducible exact ih0 _ _ _)
   | (with_reducible exact ih1 _ _ _ _ _)
   | (with_reducible exact ih2 _ _)
   | (with_reducible exact LeO.refl _)
   | (with_reducible exact LeO.none _)
   | (with_reducible refine LeO.ite ?_ ?_)
   | (with_reducible refine LeO.bind ?_ (fun _ => ?_))
   | exact ih0 _ _ _
   | exact ih1 _ _ _ _ _
   | exact ih2 _ _
   | exact LeO.none _
   | refine LeO.ite ?_ ?_
   | refine LeO.bind ?_ (fun _ => ?_)
set_option maxHeartbeats 8000000 in
set_option maxRecDepth 100000 in
theorem spec_LeastWeights.calls (k : Nat) (a0 : Int) (a1 : Bool) (r1 : List Int) (r2 : Int) (w : World) (h : spec_LeastWeights.f k a0 a1 = some (r1, r2)) :
  Calls Try.prog 6 #[.int .i64 a0, .bool a1] w fun e w' => ∃ v0_ : Value, e = .returned (.tuple #[v0_, .int .i64 r2]) ∧ Kd.R (Kd.int .i16) 42 w' w.heap.size (fun _ => True) v0_ r1 ∧ Below w.heap.size w w' := by
 have HB := A_ (Below.refl w.heap.size w)
 have H : ((spec_l00In.f a0 1 2000).bind fun t146 => (if t146 = true then (if a1 = true then (spec_LeastWeights.j0 k a0 3 (wrap64 (2 * a0))) else (spec_LeastWeights.j0 k a0 2 a0)) else (some ((([] : List Int)), 2)))) = some (r1, r2) := h
 clear h
 replace H := Option.bind_eq_some_iff.mp H
 obtain ⟨t146, A30, H⟩ := H
 replace H : (if t146 = true then (if a1 = true then (spec_LeastWeights.j0 k a0 3 (wrap64 (2 * a0))) else (spec_LeastWeights.j0 k a0 2 a0)) else (some ((([] : List Int)), 2))) = some (r1, r2) := H
 have A3 := Aside0.mk A30
 clear A30
 by_cases c4 : t146 = true
 ·subst c4
  have H1 : (if a1 = true then (spec_LeastWeights.j0 k a0 3 (wrap64 (2 * a0))) else (spec_LeastWeights.j0 k a0 2 a0)) = some (r1, r2) := by rw [if_pos rfl] at H; exact H
  clear H
  have H := H1
  clear H1
  have HC5 := Aside0.mk H
  clear H
  go_enter Try.func6, Try.ntmps6
  go_upto_if 18 with (first | (go_at_call 20; (with_reducible refine (spec_l00In.calls a0 1 2000 true _ A3.out).mono ?_); rintro e w' ⟨rfl, ⟨nd, rfl⟩⟩; (try first | exact ⟨rfl, _, World.drewN_drewN _ _ _⟩ | exact ⟨rfl, _, Eq.trans (World.drewN_drewN _ _ _) (congrArg (World.drewN _) (Nat.add_assoc _ _ _))⟩)))
  repeat (go_quiet (first | (go_at_call 20; (with_reducible refine (spec_l00In.calls a0 1 2000 true _ A3.out).mono ?_); rintro e w' ⟨rfl, ⟨nd, rfl⟩⟩; (try first | exact ⟨rfl, _, World.drewN_drewN _ _ _⟩ | exact ⟨rfl, _, Eq.trans (World.drewN_drewN _ _ _) (congrArg (World.drewN _) (Nat.add_assoc _ _ _))⟩))); go_upto_if 18 with (first | (go_at_call 20; (with_reducible refine (spec_l00In.calls a0 1 2000 true _ A3.out).mono ?_); rintro e w' ⟨rfl, ⟨nd, rfl⟩⟩; (try first | exact ⟨rfl, _, World.drewN_drewN _ _ _⟩ | exact ⟨rfl, _, Eq.trans (World.drewN_drewN _ _ _) (congrArg (World.drewN _) (Nat.add_assoc _ _ _))⟩))))
  (try simp only [Act.put, List.setIfInBounds_toArray, List.set_cons_zero, List.set_cons_succ])
  go_cut [6, 7] (fun v6 v7 wc => ∃ (kq : Nat) (x6_4 : Int) (x7_4 : Int), v6 = .int .i64 x6_4 ∧ v7 = .int .i64 x7_4 ∧ Aside0 (spec_LeastWeights.j0 kq a0 x6_4 x7_4 = some (r1, r2)) ∧ Aside0 (kq ≤ k) ∧ Aside0 (Below w.heap.size w wc))
  case first =>
   have H := HC5.out
   clear HC5
   by_cases c6 : a1 = true
   ·subst c6
    have H1 : (spec_LeastWeights.j0 k a0 3 (wrap64 (2 * a0))) = some (r1, r2) := by rw [if_pos rfl] at H; exact H
    clear H
    have H := H1
    clear H1
    have H' := Aside0.mk H
    clear H
    go_wp2
    repeat (go_quiet (fail); try go_wp2)
    go_meet
    case rel => exact ⟨_, (3), (wrap64 (2 * a0)), rs_, rs_, H', ⟨by first | omega | exact Nat.le_refl _⟩, ⟨bl_ HB⟩⟩
   ·replace c6 := Bool.eq_false_iff.mpr c6
    subst c6
    have H1 : (spec_LeastWeights.j0 k a0 2 a0) = some (r1, r2) := by rw [if_neg (show ¬ (false = true) by decide)] at H; exact H
    clear H
    have H := H1
    clear H1
    have H' := Aside0.mk H
    clear H
    go_wp2
    repeat (go_quiet (fail); try go_wp2)
    go_meet
    case rel => exact ⟨_, (2), (a0), rs_, rs_, H', ⟨by first | omega | exact Nat.le_refl _⟩, ⟨bl_ HB⟩⟩
  case rest =>
   clear HC5
   try clear p2
   try clear c4
   try clear c6
   try clear p6
   obtain ⟨kq, x6_4, x7_4, rfl, rfl, HA, HJ4, HB⟩ := hcut
   cases kq with
   | zero => exact absurd HA.out (by simp [spec_LeastWeights.j0])
   | succ kj4 =>
    have H := HA.out
    clear HA
    simp only [spec_LeastWeights.j0] at H
    obtain ⟨y150, hy150⟩ : ∃ y_ : List Int, y_ = (([] : List Int)) := ⟨_, rfl⟩
    replace H : (spec_LeastWeights.l0 kj4 x6_4 x7_4 y150 a0 1) = some (r1, r2) := by first | (rw [hy150]; with_reducible exact H) | (have H2_ := (Option.bind_some _ _).symm.trans H; rw [hy150]; with_reducible exact H2_) | (have H2_ := (Option.bind_some _ _).symm.trans H; with_reducible exact H2_) | with_reducible exact H | (rw [hy150]; exact H) | exact H
    have Ny150 := Aside0.mk hy150
    clear hy150
    have H' := Aside0.mk H
    clear H
    have o_ : True := trivial
    repeat ((first | go_quiet (first | ((with_reducible refine gate_dst (N := 21) rfl ?_); refine Kd.R_lit (Kd.int .i16) _ 42 ?hg (N := 21) ?hd (xs := ([] : List Int)) (inner := []) (ok := fun _ => True) (okp := fun _ => True) ?hr ?hp (fun _ hk => hk) trivial (Below.refl _ _) (Nat.le_refl _) (by simp) ?_; (case hd => rfl); (case hg => rfl); (case hr => first | (go_simp; done) | (go_simp; rfl)); (case hp => exact (Reps.none _ _)); intro v151 w7 ho8 hb hg_ hnew_; clear hg_ hnew_; (first | rw [← Ny150.out] at ho8 | (simp only [Int.reduceToNat] at ho8; rw [← Ny150.out] at ho8)); have n0_ := A_ (Kd.R_lower ho8 (below_size (bl_ HB))); have n1_ := A_ (below_step (bl_ HB) hb); clear HB; have HO152 := n0_; have HB := n1_; clear n0_ n1_; clear hb ho8)) | clear o_); go_wp2_with (first | ((with_reducible refine gate_dst (N := 21) rfl ?_); refine Kd.R_lit (Kd.int .i16) _ 42 ?hg (N := 21) ?hd (xs := ([] : List Int)) (inner := []) (ok := fun _ => True) (okp := fun _ => True) ?hr ?hp (fun _ hk => hk) trivial (Below.refl _ _) (Nat.le_refl _) (by simp) ?_; (case hd => rfl); (case hg => rfl); (case hr => first | (go_simp; done) | (go_simp; rfl)); (case hp => exact (Reps.none _ _)); intro v151 w7 ho8 hb hg_ hnew_; clear hg_ hnew_; (first | rw [← Ny150.out] at ho8 | (simp only [Int.reduceToNat] at ho8; rw [← Ny150.out] at ho8)); have n0_ := A_ (Kd.R_lower ho8 (below_size (bl_ HB))); have n1_ := A_ (below_step (bl_ HB) hb); clear HB; have HO152 := n0_; have HB := n1_; clear n0_ n1_; clear hb ho8)))
    go_loopg [8, 9, 10] kj4 (fun kq v8 v9 v10 w' => ∃ (x8_2 : List Int) (x9_2 : Int) (x10_2 : Int), v9 = .int .i64 x9_2 ∧ v10 = .int .i64 x10_2 ∧ Aside0 (spec_LeastWeights.l0 kq x6_4 x7_4 x8_2 x9_2 x10_2 = some (r1, r2)) ∧ Aside0 (kq ≤ kj4) ∧ Aside0 (Kd.R (Kd.int .i16) 42 w' w.heap.size (fun _ => True) v8 x8_2) ∧ Aside0 (Below w.heap.size w w'))
    case atStart => exact ⟨(y150), (a0), (1), rs_, rs_, H', ⟨Nat.le_refl _⟩, ⟨pr_ HO152⟩, ⟨bl_ HB⟩⟩
    case round =>
     clear H'
     try clear p2
     try clear c4
     try clear c6
     try clear p6
     try clear p2
     try clear p6
     obtain ⟨x8_2, x9_2, x10_2, rfl, rfl, HA, HK2, HO_8, HB⟩ := hrel
     cases gk with
     | zero => exact absurd HA.out (by simp [spec_LeastWeights.l0])
     | succ k2 =>
      have H := HA.out
      clear HA
      simp only [spec_LeastWeights.l0] at H
      by_cases c9 : (wrap64 (x10_2 * x6_4)) ≤ x7_4
      ·rw [if_pos c9] at H
       have c9b0 : decide ((wrap64 (x10_2 * x6_4)) ≤ x7_4) = true := decide_eq_true c9
       clear c9
       by_cases c10 : x8_2.length < 70368744177664
       ·rw [if_pos c10] at H
        have LMc10 := Aside0.mk c10
        clear c10
        obtain ⟨y153, hy153⟩ : ∃ y_ : List Int, y_ = (x8_2 ++ [IntKind.i16.wrap (x10_2)]) := ⟨_, rfl⟩
        replace H : (spec_LeastWeights.l0 k2 x6_4 x7_4 y153 (wrap64 (x9_2 - x10_2)) (wrap64 (x10_2 * x6_4))) = some (r1, r2) := by first | (rw [hy153]; with_reducible exact H) | (have H2_ := (Option.bind_some _ _).symm.trans H; rw [hy153]; with_reducible exact H2_) | (have H2_ := (Option.bind_some _ _).symm.trans H; with_reducible exact H2_) | with_reducible exact H | (rw [hy153]; exact H) | exact H
        have Ny153 := Aside0.mk hy153
        clear hy153
        have H' := Aside0.mk H
        clear H
        have o_ : True := trivial
        repeat ((first | go_quiet (first | ((with_reducible refine gate_builtin (b := .append) (xs := #[.tmp 28, .tmp 31]) rfl ?_); at_builtin; refine Kd.R_append (Kd.int .i16) (w0 := w) w.heap.size rfl (.tmp 28) (.tmp 31) 23 42 (.int .i16 0) 2 rfl Try.underlying23 info42 rfl (by decide) (by omega) u8 x8_2 (IntKind.i16.wrap (x10_2)) [.int .i16 (IntKind.i16.wrap (x10_2))] (fun _ => True) (fun _ => False) rfl rfl ?aP (fun _ hk => hk.elim) ?aF ?aO ?aB ?aS ?aL ?_; (case aP => exact rfl); (case aB => exact (bl_ HB)); (case aF => exact (fun _ _ => trivial)); (case aO => exact (pr_ HO_8)); (case aS => exact (below_size (bl_ HB))); (case aL => have := LMc10.out; omega); intro v154 w11 ho hb hg hat; rw [← Ny153.out] at ho; have n0_ := A_ (hb); have n1_ := A_ (ho); clear HB; clear HO_8; have HB := n0_; have HO155 := n1_; clear n0_ n1_; clear ho hb hg hat)) | clear o_); go_wp2_with (first | ((with_reducible refine gate_builtin (b := .append) (xs := #[.tmp 28, .tmp 31]) rfl ?_); at_builtin; refine Kd.R_append (Kd.int .i16) (w0 := w) w.heap.size rfl (.tmp 28) (.tmp 31) 23 42 (.int .i16 0) 2 rfl Try.underlying23 info42 rfl (by decide) (by omega) u8 x8_2 (IntKind.i16.wrap (x10_2)) [.int .i16 (IntKind.i16.wrap (x10_2))] (fun _ => True) (fun _ => False) rfl rfl ?aP (fun _ hk => hk.elim) ?aF ?aO ?aB ?aS ?aL ?_; (case aP => exact rfl); (case aB => exact (bl_ HB)); (case aF => exact (fun _ _ => trivial)); (case aO => exact (pr_ HO_8)); (case aS => exact (below_size (bl_ HB))); (case aL => have := LMc10.out; omega); intro v154 w11 ho hb hg hat; rw [← Ny153.out] at ho; have n0_ := A_ (hb); have n1_ := A_ (ho); clear HB; clear HO_8; have HB := n0_; have HO155 := n1_; clear n0_ n1_; clear ho hb hg hat)))
        go_roundg k2
        case measure => have := HJ4.out; have := HK2.out; omega
        case rel => exact ⟨(y153), (wrap64 (x9_2 - x10_2)), (wrap64 (x10_2 * x6_4)), rs_, rs_, H', ⟨by have := HJ4.out; have := HK2.out; omega⟩, ⟨pr_ HO155⟩, ⟨bl_ HB⟩⟩
       ·rw [if_neg c10] at H
        exact absurd H (by simp)
      ·rw [if_neg c9] at H
       have c9b0 : decide ((wrap64 (x10_2 * x6_4)) ≤ x7_4) = false := decide_eq_false c9
       clear c9
       by_cases c12 : x8_2.length < 70368744177664
       ·rw [if_pos c12] at H
        have LMc12 := Aside0.mk c12
        clear c12
        obtain ⟨y156, hy156⟩ : ∃ y_ : List Int, y_ = (x8_2 ++ [IntKind.i16.wrap (x9_2)]) := ⟨_, rfl⟩
        replace H : (spec_LeastWeights.l1 k2 y156 (wrap64 ((y156.length : Int) - 1))) = some (r1, r2) := by first | (rw [hy156]; with_reducible exact H) | (have H2_ := (Option.bind_some _ _).symm.trans H; rw [hy156]; with_reducible exact H2_) | (have H2_ := (Option.bind_some _ _).symm.trans H; with_reducible exact H2_) | with_reducible exact H | (rw [hy156]; exact H) | exact H
        have Ny156 := Aside0.mk hy156
        clear hy156
        have H' := Aside0.mk H
        clear H
        have o_ : True := trivial
        repeat ((first | go_quiet (first | ((with_reducible refine gate_builtin (b := .append) (xs := #[.tmp 39, .tmp 42]) rfl ?_); at_builtin; refine Kd.R_append (Kd.int .i16) (w0 := w) w.heap.size rfl (.tmp 39) (.tmp 42) 23 42 (.int .i16 0) 2 rfl Try.underlying23 info42 rfl (by decide) (by omega) u8 x8_2 (IntKind.i16.wrap (x9_2)) [.int .i16 (IntKind.i16.wrap (x9_2))] (fun _ => True) (fun _ => False) rfl rfl ?aP (fun _ hk => hk.elim) ?aF ?aO ?aB ?aS ?aL ?_; (case aP => exact rfl); (case aB => exact (bl_ HB)); (case aF => exact (fun _ _ => trivial)); (case aO => exact (pr_ HO_8)); (case aS => exact (below_size (bl_ HB))); (case aL => have := LMc12.out; omega); intro v157 w13 ho hb hg hat; rw [← Ny156.out] at ho; have n0_ := A_ (hb); have n1_ := A_ (ho); clear HB; clear HO_8; have HB := n0_; have HO158 := n1_; clear n0_ n1_; clear ho hb hg hat; obtain ⟨Ao14, co14, eo14⟩ := Kd.R_slice HO158.out; subst eo14)) | clear o_); go_wp2_with (first | ((with_reducible refine gate_builtin (b := .append) (xs := #[.tmp 39, .tmp 42]) rfl ?_); at_builtin; refine Kd.R_append (Kd.int .i16) (w0 := w) w.heap.size rfl (.tmp 39) (.tmp 42) 23 42 (.int .i16 0) 2 rfl Try.underlying23 info42 rfl (by decide) (by omega) u8 x8_2 (IntKind.i16.wrap (x9_2)) [.int .i16 (IntKind.i16.wrap (x9_2))] (fun _ => True) (fun _ => False) rfl rfl ?aP (fun _ hk => hk.elim) ?aF ?aO ?aB ?aS ?aL ?_; (case aP => exact rfl); (case aB => exact (bl_ HB)); (case aF => exact (fun _ _ => trivial)); (case aO => exact (pr_ HO_8)); (case aS => exact (below_size (bl_ HB))); (case aL => have := LMc12.out; omega); intro v157 w13 ho hb hg hat; rw [← Ny156.out] at ho; have n0_ := A_ (hb); have n1_ := A_ (ho); clear HB; clear HO_8; have HB := n0_; have HO158 := n1_; clear n0_ n1_; clear ho hb hg hat; obtain ⟨Ao14, co14, eo14⟩ := Kd.R_slice HO158.out; subst eo14)))
        go_loopg [11] k2 (fun kq v11 w' => ∃ (x8_3 : List Int) (x11_3 : Int), v11 = .int .i64 x11_3 ∧ Aside0 (spec_LeastWeights.l1 kq x8_3 x11_3 = some (r1, r2)) ∧ Aside0 (kq ≤ k2) ∧ Aside0 (Kd.R (Kd.int .i16) 42 w' w.heap.size (fun _ => True) (.slice Ao14 y156.length co14) x8_3) ∧ Aside0 (Below w.heap.size w w'))
        case atStart => exact ⟨(y156), (wrap64 ((y156.length : Int) - 1)), rs_, H', ⟨Nat.le_refl _⟩, ⟨pr_ HO158⟩, ⟨bl_ HB⟩⟩
        case round =>
         clear H'
         try clear c1
         try clear p2
         try clear c4
         try clear c6
         try clear p6
         try clear c9
         try clear c9b0
         try clear c10
         try clear c12
         try clear p2
         try clear p6
         obtain ⟨x8_3, x11_3, rfl, HA, HK3, HO_8, HB⟩ := hrel
         have hl8_3 := (Kd.R_reads' HO_8.out).1
         rw [hl8_3] at HO_8
         (try simp only [hl8_3])
         cases gk with
         | zero => exact absurd HA.out (by simp [spec_LeastWeights.l1])
         | succ k3 =>
          have H := HA.out
          clear HA
          simp only [spec_LeastWeights.l1] at H
          by_cases c15 : x11_3 > 0
          ·rw [if_pos c15] at H
           have c15b0 : decide (0 < x11_3) = true := decide_eq_true c15
           clear c15
           by_cases c16 : 0 ≤ x11_3
           ·rw [if_pos c16] at H
            have c16b0 : decide (0 ≤ x11_3) = true := decide_eq_true c16
            clear c16
            by_cases c17 : x11_3 < (x8_3.length : Int)
            ·rw [if_pos c17] at H
             have c17b0 : decide (x11_3 < (x8_3.length : Int)) = true := decide_eq_true c17
             clear c17
             obtain ⟨ji18, hji18⟩ : ∃ j_ : Int, (wrap64 (x11_3 - 1)) = j_ := ⟨_, rfl⟩
             replace H : (if 0 ≤ (ji18) then (if (ji18) < (x8_3.length : Int) then (if (rd x8_3 x11_3) < (rd x8_3 (ji18)) then (spec_LeastWeights.l1 k3 ((x8_3.set (x11_3 : Int).toNat (rd x8_3 (ji18))).set ((ji18) : Int).toNat (rd x8_3 x11_3)) ji18) else (some (x8_3, 0))) else (none)) else (none)) = some (r1, r2) := by first | (rw [hji18] at H; exact H) | (simp only [hji18] at H ⊢; exact H)
             have hji18w : (IntKind.i64.wrap (x11_3 - 1)) = ji18 := (i64_w _).trans hji18
             by_cases c19 : 0 ≤ (ji18)
             ·rw [if_pos c19] at H
              have c19b0 : decide (0 ≤ (ji18)) = true := decide_eq_true c19
              clear c19
              by_cases c20 : (ji18) < (x8_3.length : Int)
              ·rw [if_pos c20] at H
               have c20b0 : decide ((ji18) < (x8_3.length : Int)) = true := decide_eq_true c20
               clear c20
               by_cases c21 : (rd x8_3 x11_3) < (rd x8_3 (ji18))
               ·rw [if_pos c21] at H
                have c21b0 : decide ((rd x8_3 x11_3) < (rd x8_3 (ji18))) = true := decide_eq_true c21
                clear c21
                obtain ⟨y163, hy163⟩ : ∃ y_ : List Int, y_ = (x8_3.set (x11_3 : Int).toNat (rd x8_3 (ji18))) := ⟨_, rfl⟩
                replace H : (spec_LeastWeights.l1 k3 (y163.set ((ji18) : Int).toNat (rd x8_3 x11_3)) ji18) = some (r1, r2) := by first | (rw [hy163]; with_reducible exact H) | (have H2_ := (Option.bind_some _ _).symm.trans H; rw [hy163]; with_reducible exact H2_) | (have H2_ := (Option.bind_some _ _).symm.trans H; with_reducible exact H2_) | with_reducible exact H | (rw [hy163]; exact H) | exact H
                have Ny163 := Aside0.mk hy163
                clear hy163
                obtain ⟨y164, hy164⟩ : ∃ y_ : List Int, y_ = (y163.set ((ji18) : Int).toNat (rd x8_3 x11_3)) := ⟨_, rfl⟩
                replace H : (spec_LeastWeights.l1 k3 y164 ji18) = some (r1, r2) := by first | (rw [hy164]; with_reducible exact H) | (have H2_ := (Option.bind_some _ _).symm.trans H; rw [hy164]; with_reducible exact H2_) | (have H2_ := (Option.bind_some _ _).symm.trans H; with_reducible exact H2_) | with_reducible exact H | (rw [hy164]; exact H) | exact H
                have Ny164 := Aside0.mk hy164
                clear hy164
                have H' := Aside0.mk H
                clear H
                have p159 : 0 ≤ (x11_3 : Int) := asm_
                have q159 : x11_3 < (x8_3.length : Int) := asm_
                obtain ⟨ad159, e159, hx159_0⟩ := Kd.at_int (Kd.R_reads' HO_8.out).2.2 x11_3 p159 q159
                cases e159
                replace p159 := eq_true p159
                replace q159 := eq_true q159
                have p160 : 0 ≤ ((ji18) : Int) := asm_
                have q160 : (ji18) < (x8_3.length : Int) := asm_
                obtain ⟨ad160, e160, hx160_0⟩ := Kd.at_int (Kd.R_reads' HO_8.out).2.2 (ji18) p160 q160
                obtain rfl : ad159 = ad160 := (by injection e160)
                replace p160 := eq_true p160
                replace q160 := eq_true q160
                have p161 : 0 ≤ (x11_3 : Int) := asm_
                have q161 : x11_3 < (x8_3.length : Int) := asm_
                obtain ⟨ad161, e161, hx161_0⟩ := Kd.at_int (Kd.R_reads' HO_8.out).2.2 x11_3 p161 q161
                obtain rfl : ad159 = ad161 := (by injection e161)
                replace p161 := eq_true p161
                replace q161 := eq_true q161
                have p162 : 0 ≤ ((ji18) : Int) := asm_
                have q162 : (ji18) < (x8_3.length : Int) := asm_
                obtain ⟨ad162, e162, hx162_0⟩ := Kd.at_int (Kd.R_reads' HO_8.out).2.2 (ji18) p162 q162
                obtain rfl : ad159 = ad162 := (by injection e162)
                replace p162 := eq_true p162
                replace q162 := eq_true q162
                have p22 : 0 ≤ (x11_3 : Int) := asm_
                have q22 : (x11_3 : Int) < ((x8_3.length : Int) : Int) := asm_
                obtain ⟨go22, co22, eo22, gb22, gl22, cl22, HG22⟩ := Kd.R_form HO_8.out (by omega)
                (first | cases eo22 | (injection eo22 with ea_ en_ ec_; (first | subst ea_ | (injection ea_ with ea_; subst ea_)); subst ec_; clear en_))
                have GB22 := Aside0.mk gb22
                have GG22 := Aside0.mk HG22
                clear gb22 gl22 HG22
                (first | simp only [add_plain] at hx159_0 | skip)
                (first | simp only [add_plain] at hx160_0 | skip)
                (first | simp only [add_plain] at hx161_0 | skip)
                (first | simp only [add_plain] at hx162_0 | skip)
                obtain ⟨hx22_0, hf22_0⟩ := Kd.R_celln 0 HO_8.out (x11_3 : Int) p22 q22
                replace p22 := eq_true p22
                replace q22 := eq_true q22
                have HP24 := Kd.R_putg HO_8.out (x11_3 : Int) (rd x8_3 (ji18))
                have o_ : True := trivial
                repeat ((first | go_quiet (first | ((with_reducible refine gate_store (t := 42) (p := 74) rfl ?_); (try (rw [drewN_self wr]; generalize hq_ : World.drewN wr _ = wr; have n0_ := A_ (Kd.R_at hq_ HO_8.out); have n1_ := A_ (below_at hq_ HB.out); clear hq_ HO_8 HB; have HO_8 := n0_; have HB := n1_; clear n0_ n1_; (try (obtain ⟨hy24_, hz24_⟩ := Kd.R_celln 0 HO_8.out (x11_3 : Int) (asm_) (asm_))); (try (have HP24 := Kd.R_putg HO_8.out (x11_3 : Int) (rd x8_3 (ji18)))))); refine store_event (t := 42) (p := 74) (v := ?vo_w25) (w1 := (wr.setCell ⟨go22, (x11_3 : Int).toNat, none⟩ (.int .i16 (rd x8_3 (ji18))))) ?hg ?ho ?hn ?hr ?_; (case ho => rfl); (case hg => rfl); (case hn => rfl); (case hr => first | (go_simp; done) | (go_simp; rfl)); intro w25 hw; have hg : wr.grownBy w25 (some go22) := (by rw [hw]; exact HP24.2); have hp_ : Kd.R (Kd.int .i16) 42 w25 w.heap.size (fun _ => True) (.slice (some ⟨go22, 0, none⟩) x8_3.length co14) y163 := (by rw [hw, Ny163.out]; exact HP24.1); clear HP24; have n0_ := A_ (hp_); have n1_ := A_ ((by rw [hw]; exact below_set (HB.out) GB22.out : Below w.heap.size w w25)); clear HO_8; clear HB; have HO_8 := n0_; have HB := n1_; clear n0_ n1_; clear hg hw hp_; have p23 : 0 ≤ ((ji18) : Int) := asm_; have q23 : ((ji18) : Int) < ((x8_3.length : Int) : Int) := asm_; obtain ⟨hx23_0, hf23_0⟩ := Kd.R_celln 0 HO_8.out ((ji18) : Int) p23 q23; replace p23 := eq_true p23; replace q23 := eq_true q23; obtain ⟨hy26_, hz26_⟩ := Kd.R_celln 0 HO_8.out ((ji18) : Int) (asm_) (asm_); have HP26 := Kd.R_putg HO_8.out ((ji18) : Int) (rd x8_3 x11_3)) | ((with_reducible refine gate_store (t := 42) (p := 79) rfl ?_); (try (rw [drewN_self w25]; generalize hq_ : World.drewN w25 _ = w25; have n0_ := A_ (Kd.R_at hq_ HO_8.out); have n1_ := A_ (below_at hq_ HB.out); clear hq_ HO_8 HB; have HO_8 := n0_; have HB := n1_; clear n0_ n1_; (try (obtain ⟨hy26_, hz26_⟩ := Kd.R_celln 0 HO_8.out ((ji18) : Int) (asm_) (asm_))); (try (have HP26 := Kd.R_putg HO_8.out ((ji18) : Int) (rd x8_3 x11_3))))); refine store_event (t := 42) (p := 79) (v := ?vo_w27) (w1 := (w25.setCell ⟨go22, ((ji18) : Int).toNat, none⟩ (.int .i16 (rd x8_3 x11_3)))) ?hg ?ho ?hn ?hr ?_; (case ho => rfl); (case hg => rfl); (case hn => rfl); (case hr => first | (go_simp; done) | (go_simp; rfl)); intro w27 hw; have hg : w25.grownBy w27 (some go22) := (by rw [hw]; exact HP26.2); have hp_ : Kd.R (Kd.int .i16) 42 w27 w.heap.size (fun _ => True) (.slice (some ⟨go22, 0, none⟩) x8_3.length co14) y164 := (by rw [hw, Ny164.out]; exact HP26.1); clear HP26; have n0_ := A_ (hp_); have n1_ := A_ ((by rw [hw]; exact below_set (HB.out) GB22.out : Below w.heap.size w w27)); clear HO_8; clear HB; have HO_8 := n0_; have HB := n1_; clear n0_ n1_; clear hg hw hp_)) | clear o_); go_wp2_with (first | ((with_reducible refine gate_store (t := 42) (p := 74) rfl ?_); (try (rw [drewN_self wr]; generalize hq_ : World.drewN wr _ = wr; have n0_ := A_ (Kd.R_at hq_ HO_8.out); have n1_ := A_ (below_at hq_ HB.out); clear hq_ HO_8 HB; have HO_8 := n0_; have HB := n1_; clear n0_ n1_; (try (obtain ⟨hy24_, hz24_⟩ := Kd.R_celln 0 HO_8.out (x11_3 : Int) (asm_) (asm_))); (try (have HP24 := Kd.R_putg HO_8.out (x11_3 : Int) (rd x8_3 (ji18)))))); refine store_event (t := 42) (p := 74) (v := ?vo_w25) (w1 := (wr.setCell ⟨go22, (x11_3 : Int).toNat, none⟩ (.int .i16 (rd x8_3 (ji18))))) ?hg ?ho ?hn ?hr ?_; (case ho => rfl); (case hg => rfl); (case hn => rfl); (case hr => first | (go_simp; done) | (go_simp; rfl)); intro w25 hw; have hg : wr.grownBy w25 (some go22) := (by rw [hw]; exact HP24.2); have hp_ : Kd.R (Kd.int .i16) 42 w25 w.heap.size (fun _ => True) (.slice (some ⟨go22, 0, none⟩) x8_3.length co14) y163 := (by rw [hw, Ny163.out]; exact HP24.1); clear HP24; have n0_ := A_ (hp_); have n1_ := A_ ((by rw [hw]; exact below_set (HB.out) GB22.out : Below w.heap.size w w25)); clear HO_8; clear HB; have HO_8 := n0_; have HB := n1_; clear n0_ n1_; clear hg hw hp_; have p23 : 0 ≤ ((ji18) : Int) := asm_; have q23 : ((ji18) : Int) < ((x8_3.length : Int) : Int) := asm_; obtain ⟨hx23_0, hf23_0⟩ := Kd.R_celln 0 HO_8.out ((ji18) : Int) p23 q23; replace p23 := eq_true p23; replace q23 := eq_true q23; obtain ⟨hy26_, hz26_⟩ := Kd.R_celln 0 HO_8.out ((ji18) : Int) (asm_) (asm_); have HP26 := Kd.R_putg HO_8.out ((ji18) : Int) (rd x8_3 x11_3)) | ((with_reducible refine gate_store (t := 42) (p := 79) rfl ?_); (try (rw [drewN_self w25]; generalize hq_ : World.drewN w25 _ = w25; have n0_ := A_ (Kd.R_at hq_ HO_8.out); have n1_ := A_ (below_at hq_ HB.out); clear hq_ HO_8 HB; have HO_8 := n0_; have HB := n1_; clear n0_ n1_; (try (obtain ⟨hy26_, hz26_⟩ := Kd.R_celln 0 HO_8.out ((ji18) : Int) (asm_) (asm_))); (try (have HP26 := Kd.R_putg HO_8.out ((ji18) : Int) (rd x8_3 x11_3))))); refine store_event (t := 42) (p := 79) (v := ?vo_w27) (w1 := (w25.setCell ⟨go22, ((ji18) : Int).toNat, none⟩ (.int .i16 (rd x8_3 x11_3)))) ?hg ?ho ?hn ?hr ?_; (case ho => rfl); (case hg => rfl); (case hn => rfl); (case hr => first | (go_simp; done) | (go_simp; rfl)); intro w27 hw; have hg : w25.grownBy w27 (some go22) := (by rw [hw]; exact HP26.2); have hp_ : Kd.R (Kd.int .i16) 42 w27 w.heap.size (fun _ => True) (.slice (some ⟨go22, 0, none⟩) x8_3.length co14) y164 := (by rw [hw, Ny164.out]; exact HP26.1); clear HP26; have n0_ := A_ (hp_); have n1_ := A_ ((by rw [hw]; exact below_set (HB.out) GB22.out : Below w.heap.size w w27)); clear HO_8; clear HB; have HO_8 := n0_; have HB := n1_; clear n0_ n1_; clear hg hw hp_)))
                (try simp only [← hl8_3])
                go_roundg k3
                case measure => have := HJ4.out; have := HK2.out; have := HK3.out; omega
                case rel => exact ⟨(y164), (ji18), (by first | rfl | (simp; done) | (simp only [← hji18] <;> (first | rfl | simp)) | (simp [*]; done)), H', ⟨by have := HJ4.out; have := HK2.out; have := HK3.out; omega⟩, ⟨by (try simp only [hl8_3]); (with_reducible repeat (first | apply Kd.R_alloc | apply Kd.R_drewN | apply Kd.R_drew)); exact HO_8.out⟩, ⟨bl_ HB⟩⟩
               ·rw [if_neg c21] at H
                have c21b0 : decide ((rd x8_3 x11_3) < (rd x8_3 (ji18))) = false := decide_eq_false c21
                clear c21
                simp only [Option.some.injEq, Prod.mk.injEq] at H
                obtain ⟨rfl, rfl⟩ := H
                have p159 : 0 ≤ (x11_3 : Int) := asm_
                have q159 : x11_3 < (x8_3.length : Int) := asm_
                obtain ⟨ad159, e159, hx159_0⟩ := Kd.at_int (Kd.R_reads' HO_8.out).2.2 x11_3 p159 q159
                cases e159
                replace p159 := eq_true p159
                replace q159 := eq_true q159
                have p160 : 0 ≤ ((ji18) : Int) := asm_
                have q160 : (ji18) < (x8_3.length : Int) := asm_
                obtain ⟨ad160, e160, hx160_0⟩ := Kd.at_int (Kd.R_reads' HO_8.out).2.2 (ji18) p160 q160
                obtain rfl : ad159 = ad160 := (by injection e160)
                replace p160 := eq_true p160
                replace q160 := eq_true q160
                go_wp2
                repeat (go_quiet (fail); try go_wp2)
                go_ret2
                exact ⟨_, by first | rfl | (simp [errW_none, errW_some] <;> rfl) | (simp only [← hji18]; first | rfl | (simp [errW_none, errW_some] <;> rfl)) | (simp [*, errW_none, errW_some] <;> rfl), pr_ HO_8, bl_ HB⟩
              ·rw [if_neg c20] at H
               exact absurd H (by simp)
             ·rw [if_neg c19] at H
              exact absurd H (by simp)
            ·rw [if_neg c17] at H
             exact absurd H (by simp)
           ·rw [if_neg c16] at H
            exact absurd H (by simp)
          ·rw [if_neg c15] at H
           have c15b0 : decide (0 < x11_3) = false := decide_eq_false c15
           clear c15
           simp only [Option.some.injEq, Prod.mk.injEq] at H
           obtain ⟨rfl, rfl⟩ := H
           go_wp2
           repeat (go_quiet (fail); try go_wp2)
           go_ret2
           exact ⟨_, by first | rfl | (simp [errW_none, errW_some] <;> rfl) | (simp [*, errW_none, errW_some] <;> rfl), pr_ HO_8, bl_ HB⟩
       ·rw [if_neg c12] at H
        exact absurd H (by simp)
 ·replace c4 := Bool.eq_false_iff.mpr c4
  subst c4
  have H1 : (some ((([] : List Int)), 2)) = some (r1, r2) := by rw [if_neg (show ¬ (false = true) by decide)] at H; exact H
  clear H
  have H := H1
  clear H1
  obtain ⟨y147, hy147⟩ : ∃ y_ : List Int, y_ = (([] : List Int)) := ⟨_, rfl⟩
  replace H : (some (y147, 2)) = some (r1, r2) := by first | (rw [hy147]; with_reducible exact H) | (have H2_ := (Option.bind_some _ _).symm.trans H; rw [hy147]; with_reducible exact H2_) | (have H2_ := (Option.bind_some _ _).symm.trans H; with_reducible exact H2_) | with_reducible exact H | (rw [hy147]; exact H) | exact H
  have Ny147 := Aside0.mk hy147
  clear hy147
  simp only [Option.some.injEq, Prod.mk.injEq] at H
  obtain ⟨rfl, rfl⟩ := H
  go_enter Try.func6, Try.ntmps6
  have o_ : True := trivial
  repeat ((first | go_quiet (first | (go_at_call 20; (with_reducible refine (spec_l00In.calls a0 1 2000 false _ A3.out).mono ?_); rintro e w' ⟨rfl, ⟨nd, rfl⟩⟩; (try first | exact ⟨rfl, _, World.drewN_drewN _ _ _⟩ | exact ⟨rfl, _, Eq.trans (World.drewN_drewN _ _ _) (congrArg (World.drewN _) (Nat.add_assoc _ _ _))⟩)) | ((with_reducible refine gate_dst (N := 16) rfl ?_); refine Kd.R_lit (Kd.int .i16) _ 42 ?hg (N := 16) ?hd (xs := ([] : List Int)) (inner := []) (ok := fun _ => True) (okp := fun _ => True) ?hr ?hp (fun _ hk => hk) trivial (Below.refl _ _) (Nat.le_refl _) (by simp) ?_; (case hd => rfl); (case hg => rfl); (case hr => first | (go_simp; done) | (go_simp; rfl)); (case hp => exact (Reps.none _ _)); intro v148 w28 ho29 hb hg_ hnew_; clear hg_ hnew_; (first | rw [← Ny147.out] at ho29 | (simp only [Int.reduceToNat] at ho29; rw [← Ny147.out] at ho29)); have n0_ := A_ (Kd.R_lower ho29 (below_size (bl_ HB))); have n1_ := A_ (below_step (bl_ HB) hb); clear HB; have HO149 := n0_; have HB := n1_; clear n0_ n1_; clear hb ho29)) | clear o_); go_wp2_with (first | (go_at_call 20; (with_reducible refine (spec_l00In.calls a0 1 2000 false _ A3.out).mono ?_); rintro e w' ⟨rfl, ⟨nd, rfl⟩⟩; (try first | exact ⟨rfl, _, World.drewN_drewN _ _ _⟩ | exact ⟨rfl, _, Eq.trans (World.drewN_drewN _ _ _) (congrArg (World.drewN _) (Nat.add_assoc _ _ _))⟩)) | ((with_reducible refine gate_dst (N := 16) rfl ?_); refine Kd.R_lit (Kd.int .i16) _ 42 ?hg (N := 16) ?hd (xs := ([] : List Int)) (inner := []) (ok := fun _ => True) (okp := fun _ => True) ?hr ?hp (fun _ hk => hk) trivial (Below.refl _ _) (Nat.le_refl _) (by simp) ?_; (case hd => rfl); (case hg => rfl); (case hr => first | (go_simp; done) | (go_simp; rfl)); (case hp => exact (Reps.none _ _)); intro v148 w28 ho29 hb hg_ hnew_; clear hg_ hnew_; (first | rw [← Ny147.out] at ho29 | (simp only [Int.reduceToNat] at ho29; rw [← Ny147.out] at ho29)); have n0_ := A_ (Kd.R_lower ho29 (below_size (bl_ HB))); have n1_ := A_ (below_step (bl_ HB) hb); clear HB; have HO149 := n0_; have HB := n1_; clear n0_ n1_; clear hb ho29)))
  go_ret2
  exact ⟨_, by first | rfl | (simp [errW_none, errW_some] <;> rfl) | (simp [*, errW_none, errW_some] <;> rfl), pr_ HO149, bl_ HB⟩

/-! ### cmp_isNaN_int16: function 51 -/
def cmp_isNaN_int16.f (a0 : Int) : Option (Bool) := some (a0 != a0)
set_option maxHeartbeats 8000000 in
set_option maxRecDepth 100000 in
theorem cmp_isNaN_int16.calls (a0 : Int) (r : Bool) (w : World) (h : cmp_isNaN_int16.f a0 = some r) :
  Calls Try.prog 51 #[.int .i16 a0] w fun e w' => e = .returned (.bool r) ∧ Drawn0 w w' := by
 have H : (some (a0 != a0)) = some r := h
 clear h
 obtain rfl := Option.some.inj H
 go_enter Try.func51, Try.ntmps51
 go_wp2
 go_ret
 exact ⟨by first | rfl | (simp; done) | (simp [*]; done), by repeat (first | exact Drawn0.refl _ | apply Drawn0.step)⟩

end Go.Proofs.Ytegnpgagboccpaa.M
