-- By this seat's own program over the kit's printer (arrays, functions told by hand); nothing of it is trusted: the kernel checks it.
import Derived.Test.YtodmfjophjhbeaaDoorMx0
import Derived.Test.YtodmfjophjhbeaaDoorMx9
import Derived.Test.YtodmfjophjhbeaaDoorHJoin
namespace Go.Proofs.YtodmfjophjhbeaaDoor.M
open Go.RowKit Go.Proofs.YtodmfjophjhbeaaDoorW.PrintWords Go.Proofs.YtodmfjophjhbeaaDoorW.PrintLast Go.Proofs.YtodmfjophjhbeaaDoorW.PrintMore
attribute [local go_sem] max2_int min2_int max_two min_two max_three min_three max_four min_four   -- for this text's walks alone
set_option linter.unusedVariables false
set_option linter.unusedSimpArgs false

/-! ### impl_levelsText: function 21 -/
def impl_levelsText.l0 : Nat → List Int → List ByteArray → List Int → Int → Int → Option (List ByteArray)
 | 0, _, _, _, _, _ => none
 | k + 1, x0, x5, x9, x10, x11 => if x11 < x10 then (if 0 ≤ x11 then (if x11 < (x9.length : Int) then (if x11 < (x0.length : Int) then ((impl_decimal.f (wrap64 (rd x0 x11))).bind fun t167 => (if t167.size + 1 ≤ 9223372036854775807 then ((impl_decimal.f (wrap64 (rd x9 x11))).bind fun t168 => (if t167.size + 1 + t168.size ≤ 9223372036854775807 then (if x5.length < 8796093022208 then (impl_levelsText.l0 k x0 (x5 ++ [(t167 ++ (⟨#[47]⟩ : ByteArray)) ++ t168]) x9 x10 (wrap64 (x11 + 1))) else (none)) else (none))) else (none))) else (none)) else (none)) else (none)) else (some x5)
def impl_levelsText.f (k : Nat) (l0 : List Int) (l1 : List Int) : Option (List ByteArray) := impl_levelsText.l0 k l0 (([] : List ByteArray)) l1 (l1.length : Int) 0
theorem impl_levelsText.mono_l : ∀ k, (∀ y0 y1 y2 y3 y4, LeO (impl_levelsText.l0 k y0 y1 y2 y3 y4) (impl_levelsText.l0 (k + 1) y0 y1 y2 y3 y4))
 | 0 => fun _ _ _ _ _ r h => by simp [impl_levelsText.l0] at h
 | k + 1 => by
  have ih0 := impl_levelsText.mono_l k
  ·intro y0 y1 y2 y3 y4
   unfold impl_levelsText.l0
   repeat' first
   | (with_reducible exact ih0 _ _ _ _ _)
   | (with_reducible exact LeO.refl _)
   | (with_reducible exact LeO.none _)
   | (with_reducible refine LeO.ite ?_ ?_)
   | (with_reducible refine LeO.bind ?_ (fun _ => ?_))
   | exact ih0 _ _ _ _ _
   | exact LeO.none _
   | refine LeO.ite ?_ ?_
   | refine LeO.bind ?_ (fun _ => ?_)
theorem impl_levelsText.mono : ∀ a0 a1 k, LeO (impl_levelsText.f k a0 a1) (impl_levelsText.f (k + 1) a0 a1) := by
 intro a0 a1 k
 have ih0 := impl_levelsText.mono_l k
 unfold impl_levelsText.f
 repeat' first
   | (with_reducible exact ih0 _ _ _ _ _)
   | (with_reducible exact LeO.refl _)
   | (with_reducible exact LeO.none _)
   | (with_reducible refine LeO.ite ?_ ?_)
   | (with_reducible refine LeO.bind ?_ (fun _ => ?_))
   | exact ih0 _ _ _ _ _
   | exact LeO.none _
   | refine LeO.ite ?_ ?_
   | refine LeO.bind ?_ (fun _ => ?_)
set_option maxHeartbeats 8000000 in
set_option maxRecDepth 100000 in
theorem impl_levelsText.calls (k : Nat) (A0 : Option Addr) (c0 : Nat) (l0 : List Int) (A1 : Option Addr) (c1 : Nat) (l1 : List Int) (r : List ByteArray) (w : World) (hr0 : Kd.C (Kd.int .i16) w A0 l0.length l0) (hc0 : l0.length ≤ c0) (hr1 : Kd.C (Kd.int .i16) w A1 l1.length l1) (hc1 : l1.length ≤ c1) (h : impl_levelsText.f k l0 l1 = some r) :
  Calls Tryd.prog 21 #[.slice A0 l0.length c0, .slice A1 l1.length c1] w fun e w' => ∃ v0_ : Value, e = .returned (v0_) ∧ Kd.R Kd.string 9 w' w.heap.size (fun _ => True) v0_ r ∧ Below w.heap.size w w' := by
 have HR0 := Aside0.mk hr0
 have HC0 := Aside0.mk hc0
 clear hr0 hc0
 have HR1 := Aside0.mk hr1
 have HC1 := Aside0.mk hc1
 clear hr1 hc1
 have HB := A_ (Below.refl w.heap.size w)
 have H : (impl_levelsText.l0 k l0 (([] : List ByteArray)) l1 (l1.length : Int) 0) = some r := h
 clear h
 obtain ⟨y162, hy162⟩ : ∃ y_ : List ByteArray, y_ = (([] : List ByteArray)) := ⟨_, rfl⟩
 replace H : (impl_levelsText.l0 k l0 y162 l1 (l1.length : Int) 0) = some r := by first | (rw [hy162]; with_reducible exact H) | (have H2_ := (Option.bind_some _ _).symm.trans H; rw [hy162]; with_reducible exact H2_) | (have H2_ := (Option.bind_some _ _).symm.trans H; with_reducible exact H2_) | with_reducible exact H | (rw [hy162]; exact H) | exact H
 have Ny162 := Aside0.mk hy162
 clear hy162
 have H' := Aside0.mk H
 clear H
 go_enter Tryd.func21, Tryd.ntmps21
 go_wp2_with (first | ((with_reducible refine gate_dst (N := 8) rfl ?_); refine Kd.R_lit Kd.string _ 9 ?hg (N := 8) ?hd (xs := ([] : List ByteArray)) (inner := []) (ok := fun _ => True) (okp := fun _ => True) ?hr ?hp (fun _ hk => hk) trivial (Below.refl _ _) (Nat.le_refl _) (by simp) ?_; (case hd => rfl); (case hg => rfl); (case hr => first | (go_simp; done) | (go_simp; rfl)); (case hp => exact (Reps.none _ _)); intro v163 w3 ho4 hb hg_ hnew_; clear hg_ hnew_; (first | rw [← Ny162.out] at ho4 | (simp only [Int.reduceToNat] at ho4; rw [← Ny162.out] at ho4)); have n0_ := A_ (Kd.R_lower ho4 (below_size (bl_ HB))); have n1_ := A_ (below_step (bl_ HB) hb); clear HB; have HO164 := n0_; have HB := n1_; clear n0_ n1_; clear hb ho4))
 go_loopg [5, 11] k (fun kq v5 v11 w' => ∃ (x5_1 : List ByteArray) (x11_1 : Int), v11 = .int .i64 x11_1 ∧ Aside0 (impl_levelsText.l0 kq l0 x5_1 l1 (l1.length : Int) x11_1 = some r) ∧ Aside0 (kq ≤ k) ∧ Aside0 (Kd.R Kd.string 9 w' w.heap.size (fun _ => True) v5 x5_1) ∧ Aside0 (Below w.heap.size w w'))
 case atStart => exact ⟨(y162), (0), rs_, H', ⟨Nat.le_refl _⟩, ⟨pr_ HO164⟩, ⟨bl_ HB⟩⟩
 case round =>
  clear H'
  try clear c1
  try clear c2
  try clear p2
  obtain ⟨x5_1, x11_1, rfl, HA, HK1, HO_5, HB⟩ := hrel
  cases gk with
  | zero => exact absurd HA.out (by simp [impl_levelsText.l0])
  | succ k1 =>
   have H := HA.out
   clear HA
   simp only [impl_levelsText.l0] at H
   by_cases c5 : x11_1 < (l1.length : Int)
   ·rw [if_pos c5] at H
    have c5b0 : decide (x11_1 < (l1.length : Int)) = true := decide_eq_true c5
    clear c5
    by_cases c6 : 0 ≤ x11_1
    ·rw [if_pos c6] at H
     have c6b0 : decide (0 ≤ x11_1) = true := decide_eq_true c6
     clear c6
     by_cases c7 : x11_1 < (l1.length : Int)
     ·rw [if_pos c7] at H
      have c7b0 : decide (x11_1 < (l1.length : Int)) = true := decide_eq_true c7
      clear c7
      by_cases c8 : x11_1 < (l0.length : Int)
      ·rw [if_pos c8] at H
       have c8b0 : decide (x11_1 < (l0.length : Int)) = true := decide_eq_true c8
       clear c8
       replace H := Option.bind_eq_some_iff.mp H
       obtain ⟨t167, A90, H⟩ := H
       replace H : (if t167.size + 1 ≤ 9223372036854775807 then ((impl_decimal.f (wrap64 (rd l1 x11_1))).bind fun t168 => (if t167.size + 1 + t168.size ≤ 9223372036854775807 then (if x5_1.length < 8796093022208 then (impl_levelsText.l0 k1 l0 (x5_1 ++ [(t167 ++ (⟨#[47]⟩ : ByteArray)) ++ t168]) l1 (l1.length : Int) (wrap64 (x11_1 + 1))) else (none)) else (none))) else (none)) = some r := H
       have A9 := Aside0.mk A90
       clear A90
       by_cases c10 : t167.size + 1 ≤ 9223372036854775807
       ·rw [if_pos c10] at H
        have c10b0 := eq_true c10
        have c10b1 : decide (t167.size + 1 ≤ 9223372036854775807) = true := decide_eq_true c10
        try have c10b2 : (9223372036854775807 < t167.size + 1) = False := eq_false (Nat.not_lt.2 c10)
        replace H := Option.bind_eq_some_iff.mp H
        obtain ⟨t168, A110, H⟩ := H
        replace H : (if t167.size + 1 + t168.size ≤ 9223372036854775807 then (if x5_1.length < 8796093022208 then (impl_levelsText.l0 k1 l0 (x5_1 ++ [(t167 ++ (⟨#[47]⟩ : ByteArray)) ++ t168]) l1 (l1.length : Int) (wrap64 (x11_1 + 1))) else (none)) else (none)) = some r := H
        have A11 := Aside0.mk A110
        clear A110
        by_cases c12 : t167.size + 1 + t168.size ≤ 9223372036854775807
        ·rw [if_pos c12] at H
         have c12b0 := eq_true c12
         have c12b1 : decide (t167.size + 1 + t168.size ≤ 9223372036854775807) = true := decide_eq_true c12
         try have c12b2 : (9223372036854775807 < t167.size + 1 + t168.size) = False := eq_false (Nat.not_lt.2 c12)
         by_cases c13 : x5_1.length < 8796093022208
         ·rw [if_pos c13] at H
          have LMc13 := Aside0.mk c13
          clear c13
          obtain ⟨y169, hy169⟩ : ∃ y_ : List ByteArray, y_ = (x5_1 ++ [(t167 ++ (⟨#[47]⟩ : ByteArray)) ++ t168]) := ⟨_, rfl⟩
          replace H : (impl_levelsText.l0 k1 l0 y169 l1 (l1.length : Int) (wrap64 (x11_1 + 1))) = some r := by first | (rw [hy169]; with_reducible exact H) | (have H2_ := (Option.bind_some _ _).symm.trans H; rw [hy169]; with_reducible exact H2_) | (have H2_ := (Option.bind_some _ _).symm.trans H; with_reducible exact H2_) | with_reducible exact H | (rw [hy169]; exact H) | exact H
          have Ny169 := Aside0.mk hy169
          clear hy169
          have H' := Aside0.mk H
          clear H
          have p165 : 0 ≤ (x11_1 : Int) := asm_
          have q165 : x11_1 < (l1.length : Int) := asm_
          obtain ⟨ad165, e165, hx165_0⟩ := Kd.at_int HR1.out x11_1 p165 q165
          cases e165
          (try replace hx165_0 := (HB.out.cell (World.block_lt_of_cell? w _ hx165_0)).trans hx165_0)
          replace p165 := eq_true p165
          replace q165 := eq_true q165
          have p166 : 0 ≤ (x11_1 : Int) := asm_
          have q166 : x11_1 < (l0.length : Int) := asm_
          obtain ⟨ad166, e166, hx166_0⟩ := Kd.at_int HR0.out x11_1 p166 q166
          cases e166
          (try replace hx166_0 := (HB.out.cell (World.block_lt_of_cell? w _ hx166_0)).trans hx166_0)
          replace p166 := eq_true p166
          replace q166 := eq_true q166
          go_wp2_with (first | ((with_reducible refine gate_callee (f := 40) rfl ?_); refine goesL_ (some 22) rfl rfl Tryd.func40 (by kernel_rfl) rfl #[.int .i64 (wrap64 (rd l0 x11_1))] rfl arg_ ?_; (with_reducible refine (impl_decimal.calls (wrap64 (rd l0 x11_1)) t167 _ A9.out).mono ?_); rintro e w14 ⟨rfl, hb⟩; refine ⟨_, rfl, ?_⟩; have n0_ := A_ (Kd.R_below (pr_ HO_5) hb); have n1_ := A_ (below_step (bl_ HB) hb); clear HO_5; clear HB; have HO_5 := n0_; have HB := n1_; clear n0_ n1_; (try clear hb); (try clear hb2); (try clear hk); (try clear hi)) | ((with_reducible refine gate_callee (f := 40) rfl ?_); refine goesL_ (some 26) rfl rfl Tryd.func40 (by kernel_rfl) rfl #[.int .i64 (wrap64 (rd l1 x11_1))] rfl arg_ ?_; (with_reducible refine (impl_decimal.calls (wrap64 (rd l1 x11_1)) t168 _ A11.out).mono ?_); rintro e w15 ⟨rfl, hb⟩; refine ⟨_, rfl, ?_⟩; have n0_ := A_ (Kd.R_below (pr_ HO_5) hb); have n1_ := A_ (below_step (bl_ HB) hb); clear HO_5; clear HB; have HO_5 := n0_; have HB := n1_; clear n0_ n1_; (try clear hb); (try clear hb2); (try clear hk); (try clear hi)) | ((with_reducible refine gate_builtin (b := .append) (xs := #[.tmp 16, .tmp 28]) rfl ?_); at_builtin; refine Kd.R_append Kd.string (w0 := w) w.heap.size rfl (.tmp 16) (.tmp 28) 48 9 (.string ⟨#[]⟩) 16 rfl Tryd.underlying48 info9 rfl (by decide) (by omega) u5 x5_1 ((t167 ++ (⟨#[47]⟩ : ByteArray)) ++ t168) [.string ((t167 ++ (⟨#[47]⟩ : ByteArray)) ++ t168)] (fun _ => True) (fun _ => False) rfl rfl ?aP (fun _ hk => hk.elim) ?aF ?aO ?aB ?aS ?aL ?_; (case aP => exact rfl); (case aB => exact (bl_ HB)); (case aF => exact (fun _ _ => trivial)); (case aO => exact (pr_ HO_5)); (case aS => exact (below_size (bl_ HB))); (case aL => have := LMc13.out; omega); intro v170 w16 ho hb hg hat; rw [← Ny169.out] at ho; have n0_ := A_ (hb); have n1_ := A_ (ho); clear HB; clear HO_5; have HB := n0_; have HO171 := n1_; clear n0_ n1_; clear ho hb hg hat))
          go_roundg k1
          case measure => have := HK1.out; omega
          case rel => exact ⟨(y169), (wrap64 (x11_1 + 1)), rs_, H', ⟨by have := HK1.out; omega⟩, ⟨pr_ HO171⟩, ⟨bl_ HB⟩⟩
         ·rw [if_neg c13] at H
          exact absurd H (by simp)
        ·rw [if_neg c12] at H
         exact absurd H (by simp)
       ·rw [if_neg c10] at H
        exact absurd H (by simp)
      ·rw [if_neg c8] at H
       exact absurd H (by simp)
     ·rw [if_neg c7] at H
      exact absurd H (by simp)
    ·rw [if_neg c6] at H
     exact absurd H (by simp)
   ·rw [if_neg c5] at H
    have c5b0 : decide (x11_1 < (l1.length : Int)) = false := decide_eq_false c5
    clear c5
    obtain rfl := Option.some.inj H
    go_wp2
    go_ret
    exact ⟨_, by first | rfl | (simp [errW_none, errW_some] <;> rfl) | (simp [*, errW_none, errW_some] <;> rfl), pr_ HO_5, bl_ HB⟩

/-! ### impl_PuzzleText: function 8 -/
def impl_PuzzleText.f (k : Nat) (l0_0 : List Int) (a0_1 : Int) (a0_2 : Int) (a0_3 : Int) (a0_4 : Int) (a0_5 : Bool) : Option (ByteArray) := (impl_ValidPuzzle.f k l0_0 a0_1 a0_2 a0_3 a0_4 a0_5).bind fun t173 => (if t173 = true then ((impl_levelsText.f k ([a0_1, a0_2, a0_3, a0_4]) l0_0).bind fun t178 => (if a0_5 = true then (if t178.length < 8796093022208 then ((strings_Join.f (t178 ++ [(⟨#[116, 97, 112]⟩ : ByteArray)]) (⟨#[32]⟩ : ByteArray)).bind fun t184 => (some t184)) else (none)) else ((strings_Join.f t178 (⟨#[32]⟩ : ByteArray)).bind fun t185 => (some t185)))) else (some (⟨#[]⟩ : ByteArray)))
theorem impl_PuzzleText.mono : ∀ a0 a1 a2 a3 a4 a5 k, LeO (impl_PuzzleText.f k a0 a1 a2 a3 a4 a5) (impl_PuzzleText.f (k + 1) a0 a1 a2 a3 a4 a5) := by
 intro a0 a1 a2 a3 a4 a5 k
 unfold impl_PuzzleText.f
 repeat' first
   | (with_reducible exact impl_ValidPuzzle.mono _ _ _ _ _ _ _)
   | (with_reducible exact impl_levelsText.mono _ _ _)
   | (with_reducible exact LeO.refl _)
   | (with_reducible exact LeO.none _)
   | (with_reducible refine LeO.ite ?_ ?_)
   | (with_reducible refine LeO.bind ?_ (fun _ => ?_))
   | exact impl_ValidPuzzle.mono _ _ _ _ _ _ _
   | exact impl_levelsText.mono _ _ _
   | exact LeO.none _
   | refine LeO.ite ?_ ?_
   | refine LeO.bind ?_ (fun _ => ?_)
set_option maxHeartbeats 8000000 in
set_option maxRecDepth 100000 in
theorem impl_PuzzleText.calls (k : Nat) (A0_0 : Option Addr) (c0_0 : Nat) (l0_0 : List Int) (a0_1 : Int) (a0_2 : Int) (a0_3 : Int) (a0_4 : Int) (a0_5 : Bool) (r : ByteArray) (w : World) (hr0_0 : Kd.C (Kd.int .i16) w A0_0 l0_0.length l0_0) (hc0_0 : l0_0.length ≤ c0_0) (h : impl_PuzzleText.f k l0_0 a0_1 a0_2 a0_3 a0_4 a0_5 = some r) :
  Calls Tryd.prog 8 #[.agg #[.slice A0_0 l0_0.length c0_0, .int .i16 a0_1, .int .i16 a0_2, .int .i16 a0_3, .int .i16 a0_4, .bool a0_5]] w fun e w' => e = .returned (.string r) ∧ Below w.heap.size w w' := by
 have hu31 := Tryd.underlying31
 have HR0_0 := Aside0.mk hr0_0
 have HC0_0 := Aside0.mk hc0_0
 clear hr0_0 hc0_0
 have HB := A_ (Below.refl w.heap.size w)
 have H : ((impl_ValidPuzzle.f k l0_0 a0_1 a0_2 a0_3 a0_4 a0_5).bind fun t173 => (if t173 = true then ((impl_levelsText.f k ([a0_1, a0_2, a0_3, a0_4]) l0_0).bind fun t178 => (if a0_5 = true then (if t178.length < 8796093022208 then ((strings_Join.f (t178 ++ [(⟨#[116, 97, 112]⟩ : ByteArray)]) (⟨#[32]⟩ : ByteArray)).bind fun t184 => (some t184)) else (none)) else ((strings_Join.f t178 (⟨#[32]⟩ : ByteArray)).bind fun t185 => (some t185)))) else (some (⟨#[]⟩ : ByteArray)))) = some r := h
 clear h
 replace H := Option.bind_eq_some_iff.mp H
 obtain ⟨t173, A20, H⟩ := H
 replace H : (if t173 = true then ((impl_levelsText.f k ([a0_1, a0_2, a0_3, a0_4]) l0_0).bind fun t178 => (if a0_5 = true then (if t178.length < 8796093022208 then ((strings_Join.f (t178 ++ [(⟨#[116, 97, 112]⟩ : ByteArray)]) (⟨#[32]⟩ : ByteArray)).bind fun t184 => (some t184)) else (none)) else ((strings_Join.f t178 (⟨#[32]⟩ : ByteArray)).bind fun t185 => (some t185)))) else (some (⟨#[]⟩ : ByteArray))) = some r := H
 have A2 := Aside0.mk A20
 clear A20
 by_cases c3 : t173 = true
 ·subst c3
  have H1 : ((impl_levelsText.f k ([a0_1, a0_2, a0_3, a0_4]) l0_0).bind fun t178 => (if a0_5 = true then (if t178.length < 8796093022208 then ((strings_Join.f (t178 ++ [(⟨#[116, 97, 112]⟩ : ByteArray)]) (⟨#[32]⟩ : ByteArray)).bind fun t184 => (some t184)) else (none)) else ((strings_Join.f t178 (⟨#[32]⟩ : ByteArray)).bind fun t185 => (some t185)))) = some r := by rw [if_pos rfl] at H; exact H
  clear H
  have H := H1
  clear H1
  obtain ⟨y174, hy174⟩ : ∃ y_ : List Int, y_ = ([a0_1, a0_2, a0_3, a0_4]) := ⟨_, rfl⟩
  replace H : ((impl_levelsText.f k y174 l0_0).bind fun t178 => (if a0_5 = true then (if t178.length < 8796093022208 then ((strings_Join.f (t178 ++ [(⟨#[116, 97, 112]⟩ : ByteArray)]) (⟨#[32]⟩ : ByteArray)).bind fun t184 => (some t184)) else (none)) else ((strings_Join.f t178 (⟨#[32]⟩ : ByteArray)).bind fun t185 => (some t185)))) = some r := by first | (rw [hy174]; with_reducible exact H) | (have H2_ := (Option.bind_some _ _).symm.trans H; rw [hy174]; with_reducible exact H2_) | (have H2_ := (Option.bind_some _ _).symm.trans H; with_reducible exact H2_) | with_reducible exact H | (rw [hy174]; exact H) | exact H
  have Ny174 := Aside0.mk hy174
  clear hy174
  replace H := Option.bind_eq_some_iff.mp H
  obtain ⟨t178, A50, H⟩ := H
  replace H : (if a0_5 = true then (if t178.length < 8796093022208 then ((strings_Join.f (t178 ++ [(⟨#[116, 97, 112]⟩ : ByteArray)]) (⟨#[32]⟩ : ByteArray)).bind fun t184 => (some t184)) else (none)) else ((strings_Join.f t178 (⟨#[32]⟩ : ByteArray)).bind fun t185 => (some t185))) = some r := H
  have A5 := Aside0.mk A50
  clear A50
  by_cases c6 : a0_5 = true
  ·subst c6
   have H1 : (if t178.length < 8796093022208 then ((strings_Join.f (t178 ++ [(⟨#[116, 97, 112]⟩ : ByteArray)]) (⟨#[32]⟩ : ByteArray)).bind fun t184 => (some t184)) else (none)) = some r := by rw [if_pos rfl] at H; exact H
   clear H
   have H := H1
   clear H1
   by_cases c7 : t178.length < 8796093022208
   ·rw [if_pos c7] at H
    have LMc7 := Aside0.mk c7
    clear c7
    obtain ⟨y181, hy181⟩ : ∃ y_ : List ByteArray, y_ = (t178 ++ [(⟨#[116, 97, 112]⟩ : ByteArray)]) := ⟨_, rfl⟩
    replace H : ((strings_Join.f y181 (⟨#[32]⟩ : ByteArray)).bind fun t184 => (some t184)) = some r := by first | (rw [hy181]; with_reducible exact H) | (have H2_ := (Option.bind_some _ _).symm.trans H; rw [hy181]; with_reducible exact H2_) | (have H2_ := (Option.bind_some _ _).symm.trans H; with_reducible exact H2_) | with_reducible exact H | (rw [hy181]; exact H) | exact H
    have Ny181 := Aside0.mk hy181
    clear hy181
    replace H := Option.bind_eq_some_iff.mp H
    obtain ⟨t184, A80, H⟩ := H
    replace H : (some t184) = some r := H
    have A8 := Aside0.mk A80
    clear A80
    obtain rfl := Option.some.inj H
    go_enter Tryd.func8, Tryd.ntmps8
    try go_wp2_with (first | ((with_reducible refine gate_dst (N := 1) rfl ?_); refine box_event ?hg (N := 1) ?hd (cs := #[.slice A0_0 l0_0.length c0_0, .int .i16 a0_1, .int .i16 a0_2, .int .i16 a0_3, .int .i16 a0_4, .bool true]) (t := 31) ?hr ?_; (case hd => rfl); (case hg => rfl); (case hr => first | (go_simp; done) | (go_simp; rfl)); intro gb172 hg w9 hbox hb; have n0_ := A_ (below_step (bl_ HB) hb); have n1_ := A_ (hbox); have n2_ := A_ ((by rw [hg]; exact (below_size (bl_ HB)) : w.heap.size ≤ gb172)); have n3_ := n2_; clear HB; have HB := n0_; have BK172 := n1_; have GW172 := n2_; have GE172 := n3_; clear n0_ n1_ n2_ n3_; clear hb hbox hg; obtain ⟨hcz10_0, hcz10_1, hcz10_2, hcz10_3, hcz10_4, hcz10_5, hfz10_0, hfz10_1, hfz10_2, hfz10_3, hfz10_4, hfz10_5⟩ := cl6_ BK172) | ((with_reducible refine gate_callee (f := 20) rfl ?_); refine goesL_ (some 5) rfl rfl Tryd.func20 (by kernel_rfl) rfl #[.agg #[.slice A0_0 l0_0.length c0_0, .int .i16 a0_1, .int .i16 a0_2, .int .i16 a0_3, .int .i16 a0_4, .bool true]] rfl arg_ ?_; (with_reducible refine (impl_ValidPuzzle.calls k _ _ l0_0 a0_1 a0_2 a0_3 a0_4 true true _ ?side1 ?side2 A2.out).mono ?_); (case side1 => exact Kd.C_below HR0_0.out (bl_ HB)); (case side2 => exact HC0_0.out); rintro e w11 ⟨rfl, hb⟩; refine ⟨_, rfl, ?_⟩; have n0_ := A_ (blk_below (pl_ BK172) hb); have n1_ := A_ (below_step (bl_ HB) hb); clear BK172; clear HB; have BK172 := n0_; have HB := n1_; clear n0_ n1_; (try clear hb); (try clear hb2); (try clear hk); (try clear hi)))
    refine wp_region_still_tail 4 (by kernel_rfl) (by kernel_rfl) ?_
    simp only [List.take_succ_cons, List.take_zero, List.drop_succ_cons, List.drop_zero]
    refine tail_shown ?_
    have n0_ := A_ (blk_drew BK172.out)
    have n1_ := A_ (below_drew1 HB.out)
    clear BK172
    clear HB
    have BK172 := n0_
    have HB := n1_
    clear n0_ n1_
    generalize w11.drew = w12 at BK172 HB ⊢
    have hcut13 := arr_cut0 (P := Tryd.prog) (t := 29) (e := 23) Tryd.underlying29 (by kernel_rfl) ⟨gb172, 1, none⟩
    have hr13 := arr_C (k := .i16) (l := [a0_1, a0_2, a0_3, a0_4]) (o := 1) BK172.out rfl (by simp) 4 (by simp)
    have hy13 : y174.length = 4 := (by rw [Ny174.out]; simp)
    rw [List.take_of_length_le (by simp), ← Ny174.out] at hr13
    rw [← hy13] at hcut13
    have HR177 := Aside0.mk hr13
    have HC177 := A_ (Nat.le_refl y174.length)
    clear hr13 hy13
    obtain ⟨hcz14_0, hcz14_1, hcz14_2, hcz14_3, hcz14_4, hcz14_5, hfz14_0, hfz14_1, hfz14_2, hfz14_3, hfz14_4, hfz14_5⟩ := cl6_ BK172
    repeat still_step
    (try refine wpStill_nil ?_)
    (try simp only [i64_w, i32_w])
    try go_wp2_with (first | ((with_reducible refine gate_callee (f := 21) rfl ?_); refine goesL_ (some 11) rfl rfl Tryd.func21 (by kernel_rfl) rfl #[.slice (some ⟨gb172, 1, none⟩) y174.length y174.length, .slice A0_0 l0_0.length c0_0] rfl arg_ ?_; (with_reducible refine (impl_levelsText.calls k _ _ y174 _ _ l0_0 t178 _ ?side1 ?side2 ?side3 ?side4 A5.out).mono ?_); (case side1 => repeat (first | exact (by repeat (first | (with_reducible exact HR177.out) | (with_reducible refine Kd.C_alloc ?_ _) | (with_reducible refine Kd.C_drewN ?_ _) | (with_reducible refine Kd.C_drew ?_) | exact HR177.out)) | (with_reducible refine Kd.C_alloc ?_ _) | (with_reducible refine Kd.C_drewN ?_ _) | (with_reducible refine Kd.C_drew ?_))); (case side2 => exact HC177.out); (case side3 => exact Kd.C_below HR0_0.out (bl_ HB)); (case side4 => exact HC0_0.out); rintro e w15 ⟨v179, rfl, ho0, hb⟩; refine ⟨_, rfl, ?_⟩; have n0_ := A_ (Kd.R_lower ho0 (below_size (bl_ HB))); have n1_ := A_ (blk_below (pl_ BK172) hb); have n2_ := A_ (Kd.C_below (by repeat (first | (with_reducible exact HR177.out) | (with_reducible refine Kd.C_alloc ?_ _) | (with_reducible refine Kd.C_drewN ?_ _) | (with_reducible refine Kd.C_drew ?_) | exact HR177.out)) hb); have n3_ := A_ (below_step (bl_ HB) hb); clear BK172; clear HR177; clear HB; have HO180 := n0_; have BK172 := n1_; have HR177 := n2_; have HB := n3_; clear n0_ n1_ n2_ n3_; (try clear hb); (try clear hb2); (try clear hk); (try clear hi); (try clear ho0); obtain ⟨hcz16_0, hcz16_1, hcz16_2, hcz16_3, hcz16_4, hcz16_5, hfz16_0, hfz16_1, hfz16_2, hfz16_3, hfz16_4, hfz16_5⟩ := cl6_ BK172) | ((with_reducible refine gate_builtin (b := .append) (xs := #[.tmp 14, .tmp 15]) rfl ?_); at_builtin; refine Kd.R_append Kd.string (w0 := w) w.heap.size rfl (.tmp 14) (.tmp 15) 48 9 (.string ⟨#[]⟩) 16 rfl Tryd.underlying48 info9 rfl (by decide) (by omega) v179 t178 (⟨#[116, 97, 112]⟩ : ByteArray) [.string (⟨#[116, 97, 112]⟩ : ByteArray)] (fun _ => True) (fun _ => False) rfl rfl ?aP (fun _ hk => hk.elim) ?aF ?aO ?aB ?aS ?aL ?_; (case aP => exact rfl); (case aB => exact (bl_ HB)); (case aF => exact (fun _ _ => trivial)); (case aO => exact (pr_ HO180)); (case aS => exact (below_size (bl_ HB))); (case aL => have := LMc7.out; omega); intro v182 w17 ho hb hg hat; rw [← Ny181.out] at ho; have n0_ := A_ (blk_grown (pl_ BK172) hg (Kd.R_ne HO180.out BK172.out (by decide))); have n1_ := A_ (hb); have n2_ := A_ (ho); clear BK172; clear HB; clear HO180; have BK172 := n0_; have HB := n1_; have HO183 := n2_; clear n0_ n1_ n2_; clear ho hb hg hat; obtain ⟨Ao18, co18, eo18⟩ := Kd.R_slice HO183.out; subst eo18) | ((with_reducible refine gate_callee (f := 22) rfl ?_); refine goesL_ (some 18) rfl rfl Tryd.func22 (by kernel_rfl) rfl #[.slice Ao18 y181.length co18, .string (⟨#[32]⟩ : ByteArray)] rfl arg_ ?_; (with_reducible refine (strings_Join.calls _ _ y181 (⟨#[32]⟩ : ByteArray) t184 _ ?side1 ?side2 A8.out).mono ?_); (case side1 => repeat (first | exact (Kd.R_reads' HO183.out).2.2 | (with_reducible refine Kd.C_alloc ?_ _) | (with_reducible refine Kd.C_drewN ?_ _) | (with_reducible refine Kd.C_drew ?_))); (case side2 => exact (Kd.R_reads' HO183.out).2.1); rintro e w19 ⟨rfl, hb⟩; refine ⟨_, rfl, ?_⟩; have n0_ := A_ (Kd.R_below (pr_ HO183) hb); have n1_ := A_ (blk_below (pl_ BK172) hb); have n2_ := A_ (below_step (bl_ HB) hb); clear HO183; clear BK172; clear HB; have HO183 := n0_; have BK172 := n1_; have HB := n2_; clear n0_ n1_ n2_; (try clear hb); (try clear hb2); (try clear hk); (try clear hi)))
    go_ret
    exact ⟨by first | rfl | (simp [errW_none, errW_some] <;> rfl) | (simp [*, errW_none, errW_some] <;> rfl), bl_ HB⟩
   ·rw [if_neg c7] at H
    exact absurd H (by simp)
  ·replace c6 := Bool.eq_false_iff.mpr c6
   subst c6
   have H1 : ((strings_Join.f t178 (⟨#[32]⟩ : ByteArray)).bind fun t185 => (some t185)) = some r := by rw [if_neg (show ¬ (false = true) by decide)] at H; exact H
   clear H
   have H := H1
   clear H1
   replace H := Option.bind_eq_some_iff.mp H
   obtain ⟨t185, A200, H⟩ := H
   replace H : (some t185) = some r := H
   have A20 := Aside0.mk A200
   clear A200
   obtain rfl := Option.some.inj H
   go_enter Tryd.func8, Tryd.ntmps8
   try go_wp2_with (first | ((with_reducible refine gate_dst (N := 1) rfl ?_); refine box_event ?hg (N := 1) ?hd (cs := #[.slice A0_0 l0_0.length c0_0, .int .i16 a0_1, .int .i16 a0_2, .int .i16 a0_3, .int .i16 a0_4, .bool false]) (t := 31) ?hr ?_; (case hd => rfl); (case hg => rfl); (case hr => first | (go_simp; done) | (go_simp; rfl)); intro gb172 hg w21 hbox hb; have n0_ := A_ (below_step (bl_ HB) hb); have n1_ := A_ (hbox); have n2_ := A_ ((by rw [hg]; exact (below_size (bl_ HB)) : w.heap.size ≤ gb172)); have n3_ := n2_; clear HB; have HB := n0_; have BK172 := n1_; have GW172 := n2_; have GE172 := n3_; clear n0_ n1_ n2_ n3_; clear hb hbox hg; obtain ⟨hcz22_0, hcz22_1, hcz22_2, hcz22_3, hcz22_4, hcz22_5, hfz22_0, hfz22_1, hfz22_2, hfz22_3, hfz22_4, hfz22_5⟩ := cl6_ BK172) | ((with_reducible refine gate_callee (f := 20) rfl ?_); refine goesL_ (some 5) rfl rfl Tryd.func20 (by kernel_rfl) rfl #[.agg #[.slice A0_0 l0_0.length c0_0, .int .i16 a0_1, .int .i16 a0_2, .int .i16 a0_3, .int .i16 a0_4, .bool false]] rfl arg_ ?_; (with_reducible refine (impl_ValidPuzzle.calls k _ _ l0_0 a0_1 a0_2 a0_3 a0_4 false true _ ?side1 ?side2 A2.out).mono ?_); (case side1 => exact Kd.C_below HR0_0.out (bl_ HB)); (case side2 => exact HC0_0.out); rintro e w23 ⟨rfl, hb⟩; refine ⟨_, rfl, ?_⟩; have n0_ := A_ (blk_below (pl_ BK172) hb); have n1_ := A_ (below_step (bl_ HB) hb); clear BK172; clear HB; have BK172 := n0_; have HB := n1_; clear n0_ n1_; (try clear hb); (try clear hb2); (try clear hk); (try clear hi)))
   refine wp_region_still_tail 4 (by kernel_rfl) (by kernel_rfl) ?_
   simp only [List.take_succ_cons, List.take_zero, List.drop_succ_cons, List.drop_zero]
   refine tail_shown ?_
   have n0_ := A_ (blk_drew BK172.out)
   have n1_ := A_ (below_drew1 HB.out)
   clear BK172
   clear HB
   have BK172 := n0_
   have HB := n1_
   clear n0_ n1_
   generalize w23.drew = w24 at BK172 HB ⊢
   have hcut25 := arr_cut0 (P := Tryd.prog) (t := 29) (e := 23) Tryd.underlying29 (by kernel_rfl) ⟨gb172, 1, none⟩
   have hr25 := arr_C (k := .i16) (l := [a0_1, a0_2, a0_3, a0_4]) (o := 1) BK172.out rfl (by simp) 4 (by simp)
   have hy25 : y174.length = 4 := (by rw [Ny174.out]; simp)
   rw [List.take_of_length_le (by simp), ← Ny174.out] at hr25
   rw [← hy25] at hcut25
   have HR177 := Aside0.mk hr25
   have HC177 := A_ (Nat.le_refl y174.length)
   clear hr25 hy25
   obtain ⟨hcz26_0, hcz26_1, hcz26_2, hcz26_3, hcz26_4, hcz26_5, hfz26_0, hfz26_1, hfz26_2, hfz26_3, hfz26_4, hfz26_5⟩ := cl6_ BK172
   repeat still_step
   (try refine wpStill_nil ?_)
   (try simp only [i64_w, i32_w])
   try go_wp2_with (first | ((with_reducible refine gate_callee (f := 21) rfl ?_); refine goesL_ (some 11) rfl rfl Tryd.func21 (by kernel_rfl) rfl #[.slice (some ⟨gb172, 1, none⟩) y174.length y174.length, .slice A0_0 l0_0.length c0_0] rfl arg_ ?_; (with_reducible refine (impl_levelsText.calls k _ _ y174 _ _ l0_0 t178 _ ?side1 ?side2 ?side3 ?side4 A5.out).mono ?_); (case side1 => repeat (first | exact (by repeat (first | (with_reducible exact HR177.out) | (with_reducible refine Kd.C_alloc ?_ _) | (with_reducible refine Kd.C_drewN ?_ _) | (with_reducible refine Kd.C_drew ?_) | exact HR177.out)) | (with_reducible refine Kd.C_alloc ?_ _) | (with_reducible refine Kd.C_drewN ?_ _) | (with_reducible refine Kd.C_drew ?_))); (case side2 => exact HC177.out); (case side3 => exact Kd.C_below HR0_0.out (bl_ HB)); (case side4 => exact HC0_0.out); rintro e w27 ⟨v179, rfl, ho0, hb⟩; refine ⟨_, rfl, ?_⟩; have n0_ := A_ (Kd.R_lower ho0 (below_size (bl_ HB))); have n1_ := A_ (blk_below (pl_ BK172) hb); have n2_ := A_ (Kd.C_below (by repeat (first | (with_reducible exact HR177.out) | (with_reducible refine Kd.C_alloc ?_ _) | (with_reducible refine Kd.C_drewN ?_ _) | (with_reducible refine Kd.C_drew ?_) | exact HR177.out)) hb); have n3_ := A_ (below_step (bl_ HB) hb); clear BK172; clear HR177; clear HB; have HO180 := n0_; have BK172 := n1_; have HR177 := n2_; have HB := n3_; clear n0_ n1_ n2_ n3_; (try clear hb); (try clear hb2); (try clear hk); (try clear hi); (try clear ho0); obtain ⟨hcz28_0, hcz28_1, hcz28_2, hcz28_3, hcz28_4, hcz28_5, hfz28_0, hfz28_1, hfz28_2, hfz28_3, hfz28_4, hfz28_5⟩ := cl6_ BK172; obtain ⟨Ao29, co29, eo29⟩ := Kd.R_slice HO180.out; subst eo29) | ((with_reducible refine gate_callee (f := 22) rfl ?_); refine goesL_ (some 18) rfl rfl Tryd.func22 (by kernel_rfl) rfl #[.slice Ao29 t178.length co29, .string (⟨#[32]⟩ : ByteArray)] rfl arg_ ?_; (with_reducible refine (strings_Join.calls _ _ t178 (⟨#[32]⟩ : ByteArray) t185 _ ?side1 ?side2 A20.out).mono ?_); (case side1 => repeat (first | exact (Kd.R_reads' HO180.out).2.2 | (with_reducible refine Kd.C_alloc ?_ _) | (with_reducible refine Kd.C_drewN ?_ _) | (with_reducible refine Kd.C_drew ?_))); (case side2 => exact (Kd.R_reads' HO180.out).2.1); rintro e w30 ⟨rfl, hb⟩; refine ⟨_, rfl, ?_⟩; have n0_ := A_ (Kd.R_below (pr_ HO180) hb); have n1_ := A_ (blk_below (pl_ BK172) hb); have n2_ := A_ (Kd.C_below (by repeat (first | (with_reducible exact HR177.out) | (with_reducible refine Kd.C_alloc ?_ _) | (with_reducible refine Kd.C_drewN ?_ _) | (with_reducible refine Kd.C_drew ?_) | exact HR177.out)) hb); have n3_ := A_ (below_step (bl_ HB) hb); clear HO180; clear BK172; clear HR177; clear HB; have HO180 := n0_; have BK172 := n1_; have HR177 := n2_; have HB := n3_; clear n0_ n1_ n2_ n3_; (try clear hb); (try clear hb2); (try clear hk); (try clear hi)))
   go_ret
   exact ⟨by first | rfl | (simp [errW_none, errW_some] <;> rfl) | (simp [*, errW_none, errW_some] <;> rfl), bl_ HB⟩
 ·replace c3 := Bool.eq_false_iff.mpr c3
  subst c3
  have H1 : (some (⟨#[]⟩ : ByteArray)) = some r := by rw [if_neg (show ¬ (false = true) by decide)] at H; exact H
  clear H
  have H := H1
  clear H1
  obtain rfl := Option.some.inj H
  go_enter Tryd.func8, Tryd.ntmps8
  go_wp2_with (first | ((with_reducible refine gate_dst (N := 1) rfl ?_); refine box_event ?hg (N := 1) ?hd (cs := #[.slice A0_0 l0_0.length c0_0, .int .i16 a0_1, .int .i16 a0_2, .int .i16 a0_3, .int .i16 a0_4, .bool a0_5]) (t := 31) ?hr ?_; (case hd => rfl); (case hg => rfl); (case hr => first | (go_simp; done) | (go_simp; rfl)); intro gb172 hg w31 hbox hb; have n0_ := A_ (below_step (bl_ HB) hb); have n1_ := A_ (hbox); have n2_ := A_ ((by rw [hg]; exact (below_size (bl_ HB)) : w.heap.size ≤ gb172)); have n3_ := n2_; clear HB; have HB := n0_; have BK172 := n1_; have GW172 := n2_; have GE172 := n3_; clear n0_ n1_ n2_ n3_; clear hb hbox hg; obtain ⟨hcz32_0, hcz32_1, hcz32_2, hcz32_3, hcz32_4, hcz32_5, hfz32_0, hfz32_1, hfz32_2, hfz32_3, hfz32_4, hfz32_5⟩ := cl6_ BK172) | ((with_reducible refine gate_callee (f := 20) rfl ?_); refine goesL_ (some 5) rfl rfl Tryd.func20 (by kernel_rfl) rfl #[.agg #[.slice A0_0 l0_0.length c0_0, .int .i16 a0_1, .int .i16 a0_2, .int .i16 a0_3, .int .i16 a0_4, .bool a0_5]] rfl arg_ ?_; (with_reducible refine (impl_ValidPuzzle.calls k _ _ l0_0 a0_1 a0_2 a0_3 a0_4 a0_5 false _ ?side1 ?side2 A2.out).mono ?_); (case side1 => exact Kd.C_below HR0_0.out (bl_ HB)); (case side2 => exact HC0_0.out); rintro e w33 ⟨rfl, hb⟩; refine ⟨_, rfl, ?_⟩; have n0_ := A_ (blk_below (pl_ BK172) hb); have n1_ := A_ (below_step (bl_ HB) hb); clear BK172; clear HB; have BK172 := n0_; have HB := n1_; clear n0_ n1_; (try clear hb); (try clear hb2); (try clear hk); (try clear hi)))
  go_ret
  exact ⟨by first | rfl | (simp [errW_none, errW_some] <;> rfl) | (simp [*, errW_none, errW_some] <;> rfl), bl_ HB⟩

end Go.Proofs.YtodmfjophjhbeaaDoor.M
