/- Plain law: one word read as a move, by the reference and by the program's search. -/
import Derived.Lib.SplitLaws
import Derived.Test.YtodmfjophjhbeaaDoorMPureC
-- IMPORTS
import Derived.Test.YtodmfjophjhbeaaDoorMx2
import Derived.Test.YtodmfjophjhbeaaDoorMx5
import Derived.Test.YtodmfjophjhbeaaDoorMx6
namespace Go.Proofs.YtodmfjophjhbeaaDoor.Pure
open Go.RowKit Go.Proofs.YtodmfjophjhbeaaDoor.M Go.Proofs.YtodmfjophjhbeaaDoorW.PrintWords Go.Proofs.YtodmfjophjhbeaaDoorW.PrintLast Go.Proofs.YtodmfjophjhbeaaDoorW.PrintMore
set_option linter.unusedVariables false
set_option linter.unusedSimpArgs false

theorem w8 {x : Int} (h0 : -128 ≤ x) (h1 : x ≤ 127) : IntKind.i8.wrap x = x := by
  simp only [IntKind.wrap, IntKind.bits, IntKind.signed]; simp; split <;> omega
theorem lett {x : Int} (h0 : 97 ≤ x) (h1 : x < 101) : IntKind.i8.wrap (IntKind.i8.wrap x - 97) = x - 97 := by
  rw [w8 (x := x) (by omega) (by omega), w8 (by omega) (by omega)]
/-- A move in its range, and the program's own text of it. -/
def Good (f j t : Int) (w : ByteArray) : Prop := (0 ≤ f ∧ f ≤ 2) ∧ (0 ≤ j ∧ j ≤ 3) ∧ (0 ≤ t ∧ t ≤ 3) ∧ impl_Move_text.f 2 f j t = some (w, true)
/-- The program's own text of a move, and whether it is one. -/
def T (f j t : Int) : ByteArray × Bool := (impl_Move_text.f 2 f j t).getD ((⟨#[]⟩ : ByteArray), false)
theorem tabS : ∀ f < 3, ∀ j < 4, ∀ t < 4, (impl_Move_text.f 2 (f : Nat) (j : Nat) (t : Nat)).isSome = true := by decide +kernel
def tabP (f j t : Nat) : Prop := (T (f : Int) (j : Int) (t : Int)).2 = false ∨ (spec_l02ReadMove.f 3 (T (f : Int) (j : Int) (t : Int)).1 = some ((f : Int), (j : Int), (t : Int), true) ∧ ((f : Int) = 0 ∨ (t : Int) = 0))
instance (f j t : Nat) : Decidable (tabP f j t) := by unfold tabP; infer_instance
theorem tabC : ∀ f < 3, ∀ j < 4, ∀ t < 4, tabP f j t := by decide +kernel
theorem nat_of {x n : Int} (h0 : 0 ≤ x) (h1 : x ≤ n) : ∃ m : Nat, x = (m : Int) ∧ (m : Int) ≤ n := ⟨x.toNat, by omega, by omega⟩
theorem T_of {f j t : Int} {x : ByteArray × Bool} (h : impl_Move_text.f 2 f j t = some x) : T f j t = x := by unfold T; rw [h]; rfl
theorem tab_use {f j t : Int} {w : ByteArray} (h : Good f j t w) : spec_l02ReadMove.f 3 w = some (f, j, t, true) ∧ (f = 0 ∨ t = 0) := by
  obtain ⟨⟨f0, f1⟩, ⟨j0, j1⟩, ⟨t0, t1⟩, ht⟩ := h
  have e := T_of ht
  clear ht
  obtain ⟨f, rfl, f2⟩ := nat_of f0 f1
  obtain ⟨j, rfl, j2⟩ := nat_of j0 j1
  obtain ⟨t, rfl, t2⟩ := nat_of t0 t1
  have h : (T (f : Int) (j : Int) (t : Int)).2 = false ∨ (spec_l02ReadMove.f 3 (T (f : Int) (j : Int) (t : Int)).1 = some ((f : Int), (j : Int), (t : Int), true) ∧ ((f : Int) = 0 ∨ (t : Int) = 0)) := tabC f (by omega) j (by omega) t (by omega)
  rw [e] at h
  exact h.resolve_left (by simp)
theorem text_tot {f j t : Int} (hf : 0 ≤ f ∧ f ≤ 2) (hj : 0 ≤ j ∧ j ≤ 3) (ht : 0 ≤ t ∧ t ≤ 3) : ∃ w z, impl_Move_text.f 2 f j t = some (w, z) := by
  obtain ⟨f, rfl, f2⟩ := nat_of hf.1 hf.2
  obtain ⟨j, rfl, j2⟩ := nat_of hj.1 hj.2
  obtain ⟨t, rfl, t2⟩ := nat_of ht.1 ht.2
  obtain ⟨x, hx⟩ := Option.isSome_iff_exists.1 (tabS f (by omega) j (by omega) t (by omega))
  exact ⟨x.1, x.2, hx⟩
theorem tab3 : ∀ n < 4, ∀ m < 4, impl_Move_text.f 2 0 (n : Nat) (m : Nat) = some ((⟨#[UInt8.ofNat (97 + n), 62, UInt8.ofNat (97 + m)]⟩ : ByteArray), true) := by decide +kernel
theorem tab1 : ∀ n < 4, impl_Move_text.f 2 1 (n : Nat) 0 = some ((⟨#[43, UInt8.ofNat (97 + n)]⟩ : ByteArray), true) := by decide +kernel
theorem tab2 : ∀ n < 4, impl_Move_text.f 2 2 (n : Nat) 0 = some ((⟨#[45, UInt8.ofNat (97 + n)]⟩ : ByteArray), true) := by decide +kernel
theorem byte_of {a : UInt8} {n : Nat} (h : a.toNat = n) (hn : n < 256) : a = UInt8.ofNat n := by
  apply UInt8.toNat_inj.mp
  rw [h]
  simp; omega
theorem three {w : ByteArray} (h : (w.size : Int) = 3) : ∃ a b c : UInt8, w = ⟨#[a, b, c]⟩ ∧ bt w 0 = (a.toNat : Int) ∧ bt w 1 = (b.toNat : Int) ∧ bt w 2 = (c.toNat : Int) := by
  obtain ⟨⟨l⟩⟩ := w
  match l, h with
  | [a, b, c], _ => exact ⟨a, b, c, rfl, rfl, rfl, rfl⟩
  | [], h => simp [ByteArray.size] at h
  | [_], h => simp [ByteArray.size] at h
  | [_, _], h => simp [ByteArray.size] at h
  | _ :: _ :: _ :: _ :: l, h => simp [ByteArray.size] at h; omega
theorem two {w : ByteArray} (h : (w.size : Int) = 2) : ∃ a b : UInt8, w = ⟨#[a, b]⟩ ∧ bt w 0 = (a.toNat : Int) ∧ bt w 1 = (b.toNat : Int) := by
  obtain ⟨⟨l⟩⟩ := w
  match l, h with
  | [a, b], _ => exact ⟨a, b, rfl, rfl, rfl⟩
  | [], h => simp [ByteArray.size] at h
  | [_], h => simp [ByteArray.size] at h
  | _ :: _ :: _ :: l, h => simp [ByteArray.size] at h; omega
theorem good0 {w : ByteArray} (h : (w.size : Int) = 3) (h1 : bt w 1 = 62) (a0 : bt w 0 ≥ 97) (a1 : bt w 0 < 101) (b0 : bt w 2 ≥ 97) (b1 : bt w 2 < 101) :
    Good 0 (IntKind.i8.wrap ((IntKind.i8.wrap (bt w 0)) - 97)) (IntKind.i8.wrap ((IntKind.i8.wrap (bt w 2)) - 97)) w := by
  rw [lett a0 a1, lett b0 b1]
  obtain ⟨a, b, c, rfl, e0, e1, e2⟩ := three h
  rw [e0] at a0 a1 ⊢
  rw [e1] at h1
  rw [e2] at b0 b1 ⊢
  refine ⟨by omega, by omega, by omega, ?_⟩
  have h3 := tab3 (a.toNat - 97) (by omega) (c.toNat - 97) (by omega)
  rw [show ((a.toNat - 97 : Nat) : Int) = (a.toNat : Int) - 97 by omega, show ((c.toNat - 97 : Nat) : Int) = (c.toNat : Int) - 97 by omega] at h3
  rw [h3, ← byte_of (a := a) (n := 97 + (a.toNat - 97)) (by omega) (by omega), ← byte_of (a := c) (n := 97 + (c.toNat - 97)) (by omega) (by omega), byte_of (a := b) (n := 62) (by omega) (by omega)]
  rfl
theorem good1 {w : ByteArray} (h : (w.size : Int) = 2) (h1 : bt w 0 = 43) (a0 : ¬ bt w 1 < 97) (a1 : ¬ bt w 1 ≥ 101) :
    Good 1 (IntKind.i8.wrap ((IntKind.i8.wrap (bt w 1)) - 97)) 0 w := by
  rw [lett (by omega) (by omega)]
  obtain ⟨a, b, rfl, e0, e1⟩ := two h
  rw [e0] at h1
  rw [e1] at a0 a1 ⊢
  refine ⟨by omega, by omega, by omega, ?_⟩
  have h3 := tab1 (b.toNat - 97) (by omega)
  rw [show ((b.toNat - 97 : Nat) : Int) = (b.toNat : Int) - 97 by omega] at h3
  rw [h3, ← byte_of (a := b) (n := 97 + (b.toNat - 97)) (by omega) (by omega), byte_of (a := a) (n := 43) (by omega) (by omega)]
  rfl
theorem good2 {w : ByteArray} (h : (w.size : Int) = 2) (h1 : bt w 0 = 45) (a0 : ¬ bt w 1 < 97) (a1 : ¬ bt w 1 ≥ 101) :
    Good 2 (IntKind.i8.wrap ((IntKind.i8.wrap (bt w 1)) - 97)) 0 w := by
  rw [lett (by omega) (by omega)]
  obtain ⟨a, b, rfl, e0, e1⟩ := two h
  rw [e0] at h1
  rw [e1] at a0 a1 ⊢
  refine ⟨by omega, by omega, by omega, ?_⟩
  have h3 := tab2 (b.toNat - 97) (by omega)
  rw [show ((b.toNat - 97 : Nat) : Int) = (b.toNat : Int) - 97 by omega] at h3
  rw [h3, ← byte_of (a := b) (n := 97 + (b.toNat - 97)) (by omega) (by omega), byte_of (a := a) (n := 45) (by omega) (by omega)]
  rfl
theorem spec_j1 (w : ByteArray) (x : Bool) (k : Nat) (hx : x = true ∨ ((w.size : Int) = 2 ∧ (bt w 0 = 43 ∨ bt w 0 = 45) ∧ ¬ bt w 1 < 97 ∧ ¬ bt w 1 ≥ 101)) :
    ∃ f j t z, spec_l02ReadMove.j1 (k + 1) w x = some (f, j, t, z) ∧ (z = true → Good f j t w) := by
  simp only [spec_l02ReadMove.j1]
  by_cases c : x = true
  · rw [if_pos c]
    exact ⟨_, _, _, _, rfl, fun h => by cases h⟩
  · rw [if_neg c]
    obtain ⟨h2, ha, hb, hc⟩ := hx.resolve_left c
    rw [if_pos (by omega), if_pos (by omega)]
    by_cases d : bt w 0 = 45
    · rw [if_pos d]
      exact ⟨_, _, _, _, rfl, fun _ => good2 h2 d hb hc⟩
    · rw [if_neg d]
      exact ⟨_, _, _, _, rfl, fun _ => good1 h2 (ha.resolve_right d) hb hc⟩
theorem spec_j0 (w : ByteArray) (x : Bool) (k : Nat) (hx : x = true → (w.size : Int) = 3 ∧ bt w 1 = 62) :
    ∃ f j t z, spec_l02ReadMove.j0 (k + 1 + 1) w x = some (f, j, t, z) ∧ (z = true → Good f j t w) := by
  rw [spec_l02ReadMove.j0]
  by_cases c : x = true
  · rw [if_pos c]
    obtain ⟨h3, h1⟩ := hx c
    rw [if_pos (by omega), if_pos (by omega)]
    by_cases c1 : bt w 0 ≥ 97
    · rw [if_pos c1]
      by_cases c2 : bt w 0 < 101
      · rw [if_pos c2]
        by_cases c3 : bt w 2 ≥ 97
        · rw [if_pos c3]
          exact ⟨_, _, _, _, rfl, fun h => good0 h3 h1 c1 c2 c3 (of_decide_eq_true h)⟩
        · rw [if_neg c3]; exact ⟨_, _, _, _, rfl, fun h => by cases h⟩
      · rw [if_neg c2]; exact ⟨_, _, _, _, rfl, fun h => by cases h⟩
    · rw [if_neg c1]; exact ⟨_, _, _, _, rfl, fun h => by cases h⟩
  · rw [if_neg c]
    by_cases h2 : (w.size : Int) = 2
    · rw [if_pos h2, if_pos (by omega)]
      have dd : ∀ (y : bt w 0 = 43 ∨ bt w 0 = 45), ∃ f j t z, (if 1 < (w.size : Int) then (if (bt w 1) < 97 then (spec_l02ReadMove.j1 (k + 1) w true) else (spec_l02ReadMove.j1 (k + 1) w (decide ((bt w 1) ≥ 101)))) else (none)) = some (f, j, t, z) ∧ (z = true → Good f j t w) := by
        intro y
        rw [if_pos (by omega)]
        by_cases c4 : bt w 1 < 97
        · rw [if_pos c4]; exact spec_j1 w true k (.inl rfl)
        · rw [if_neg c4]
          by_cases c5 : bt w 1 ≥ 101
          · rw [decide_eq_true c5]; exact spec_j1 w true k (.inl rfl)
          · exact spec_j1 w _ k (.inr ⟨h2, y, c4, c5⟩)
      by_cases c6 : bt w 0 = 43
      · rw [if_pos c6]; exact dd (.inl c6)
      · rw [if_neg c6]
        by_cases c7 : bt w 0 = 45
        · rw [if_pos c7]; exact dd (.inr c7)
        · rw [if_neg c7]; exact spec_j1 w true k (.inl rfl)
    · rw [if_neg h2]; exact spec_j1 w true k (.inl rfl)
theorem spec_tot (w : ByteArray) : ∃ f j t z, spec_l02ReadMove.f 3 w = some (f, j, t, z) ∧ (z = true → Good f j t w) := by
  unfold spec_l02ReadMove.f
  by_cases h3 : (w.size : Int) = 3
  · rw [if_pos h3, if_pos (by omega)]
    exact spec_j0 w _ 1 (fun h => ⟨h3, by simpa using h⟩)
  · rw [if_neg h3]
    exact spec_j0 w _ 1 (fun h => by cases h)

theorem wr1 {x : Int} (h0 : 0 ≤ x) (h1 : x ≤ 100) : IntKind.i8.wrap (x + 1) = x + 1 := w8 (by omega) (by omega)
theorem l2_val (w : ByteArray) (f j : Int) (hf : 0 ≤ f ∧ f ≤ 2) (hj : 0 ≤ j ∧ j ≤ 3) (k : Nat) (hk : 2 ≤ k) : ∀ (d : Nat) (t : Int), 0 ≤ t → t + d = 4 →
    (∃ t', impl_readMove.l2 (k + d + 1) w f j j t = some (f, j, t', true) ∧ Good f j t' w) ∨ (impl_readMove.l2 (k + d + 1) w f j j t = impl_readMove.l1 k w f (j + 1) ∧ ∀ t', t ≤ t' → ¬ Good f j t' w) := by
  intro d
  induction d with
  | zero =>
    intro t h0 h1
    refine .inr ⟨?_, fun t' ht hg => ?_⟩
    · rw [impl_readMove.l2]
      rw [if_neg (by omega), wr1 (by omega) (by omega)]
    · have := hg.2.2.1; omega
  | succ d ih =>
    intro t h0 h1
    obtain ⟨T, z, hT⟩ := text_tot hf hj (t := t) ⟨h0, by omega⟩
    have hT' : impl_Move_text.f (k + (d + 1)) f j t = some (T, z) := at_rounds (g := fun k => impl_Move_text.f k f j t) (fun k => impl_Move_text.mono _ _ _ k) (by omega) hT
    rw [impl_readMove.l2]
    rw [if_pos (by omega), hT']
    simp only [Option.bind_some]
    rw [wr1 (x := t) (by omega) (by omega)]
    have go : ¬ Good f j t w → (∃ t', impl_readMove.l2 (k + (d + 1)) w f j j (t + 1) = some (f, j, t', true) ∧ Good f j t' w) ∨ (impl_readMove.l2 (k + (d + 1)) w f j j (t + 1) = impl_readMove.l1 k w f (j + 1) ∧ ∀ t', t ≤ t' → ¬ Good f j t' w) := by
      intro hn
      rcases ih (t + 1) (by omega) (by omega) with h | ⟨h, h'⟩
      · exact .inl h
      · refine .inr ⟨h, fun t' ht hg => ?_⟩
        by_cases e : t' = t
        · subst e; exact hn hg
        · exact h' t' (by omega) hg
    cases z with
    | false =>
      rw [if_neg (by simp)]
      exact go (fun hg => by have := hg.2.2.2; rw [hT] at this; simp at this)
    | true =>
      rw [if_pos rfl]
      by_cases e : T.toList = w.toList
      · rw [if_pos e]
        have e2 : T = w := ba_ext (by rw [← Lib.toList_data, ← Lib.toList_data]; exact e)
        exact .inl ⟨t, rfl, hf, hj, ⟨h0, by omega⟩, by rw [hT, e2]⟩
      · rw [if_neg e]
        exact go (fun hg => by have := hg.2.2.2; rw [hT] at this; simp at this; rw [this] at e; exact e rfl)
theorem l1_val (w : ByteArray) (f : Int) (hf : 0 ≤ f ∧ f ≤ 2) (k : Nat) (hk : 2 ≤ k) : ∀ (d : Nat) (j : Int), 0 ≤ j → j + d = 4 →
    (∃ j' t', impl_readMove.l1 (k + 6 * d + 1) w f j = some (f, j', t', true) ∧ Good f j' t' w) ∨ (impl_readMove.l1 (k + 6 * d + 1) w f j = impl_readMove.l0 k w (f + 1) ∧ ∀ j' t', j ≤ j' → ¬ Good f j' t' w) := by
  intro d
  induction d with
  | zero =>
    intro j h0 h1
    refine .inr ⟨?_, fun j' t' ht hg => ?_⟩
    · rw [impl_readMove.l1]
      rw [if_neg (by omega), wr1 (by omega) (by omega)]
    · have := hg.2.1; omega
  | succ d ih =>
    intro j h0 h1
    rw [impl_readMove.l1]
    rw [if_pos (by omega), show k + 6 * (d + 1) = (k + 6 * d + 1) + 4 + 1 by omega]
    rcases l2_val w f j hf ⟨h0, by omega⟩ (k + 6 * d + 1) (by omega) 4 0 (by omega) (by omega) with ⟨t', h, hg⟩ | ⟨h, hn⟩
    · exact .inl ⟨j, t', h, hg⟩
    · rw [h]
      rcases ih (j + 1) (by omega) (by omega) with h | ⟨h, h'⟩
      · exact .inl h
      · refine .inr ⟨h, fun j' t' hj hg => ?_⟩
        by_cases e : j' = j
        · subst e; exact hn t' hg.2.2.1.1 hg
        · exact h' j' t' (by omega) hg
theorem l0_val (w : ByteArray) (k : Nat) (hk : 2 ≤ k) : ∀ (d : Nat) (f : Int), 0 ≤ f → f + d = 3 →
    (∃ f' j' t', impl_readMove.l0 (k + 26 * d + 1) w f = some (f', j', t', true) ∧ Good f' j' t' w) ∨ (impl_readMove.l0 (k + 26 * d + 1) w f = some (0, 0, 0, false) ∧ ∀ f' j' t', f ≤ f' → ¬ Good f' j' t' w) := by
  intro d
  induction d with
  | zero =>
    intro f h0 h1
    refine .inr ⟨?_, fun f' j' t' ht hg => ?_⟩
    · rw [impl_readMove.l0]
      rw [if_neg (by omega)]
    · have := hg.1; omega
  | succ d ih =>
    intro f h0 h1
    rw [impl_readMove.l0]
    rw [if_pos (by omega), show k + 26 * (d + 1) = (k + 26 * d + 1) + 6 * 4 + 1 by omega]
    rcases l1_val w f ⟨h0, by omega⟩ (k + 26 * d + 1) (by omega) 4 0 (by omega) (by omega) with ⟨j', t', h, hg⟩ | ⟨h, hn⟩
    · exact .inl ⟨f, j', t', h, hg⟩
    · rw [h]
      rcases ih (f + 1) (by omega) (by omega) with h | ⟨h, h'⟩
      · exact .inl h
      · refine .inr ⟨h, fun f' j' t' hj hg => ?_⟩
        by_cases e : f' = f
        · subst e; exact hn j' t' hg.2.1.1 hg
        · exact h' f' j' t' (by omega) hg
theorem read_same (w : ByteArray) {k : Nat} (hk : 100 ≤ k) :
    (∃ f j t, Good f j t w ∧ spec_l02ReadMove.f k w = some (f, j, t, true) ∧ impl_readMove.f k w = some (f, j, t, true)) ∨
    (∃ a b c d e g, spec_l02ReadMove.f k w = some (a, b, c, false) ∧ impl_readMove.f k w = some (d, e, g, false)) := by
  have sp : ∀ r, spec_l02ReadMove.f 3 w = some r → spec_l02ReadMove.f k w = some r := fun r h => at_rounds (g := fun k => spec_l02ReadMove.f k w) (fun k => spec_l02ReadMove.mono _ k) (by omega) h
  obtain ⟨m, rfl⟩ : ∃ m, k = m + 26 * 3 + 1 := ⟨k - 79, by omega⟩
  unfold impl_readMove.f
  rcases l0_val w m (by omega) 3 0 (by omega) (by omega) with ⟨f, j, t, h, hg⟩ | ⟨h, hn⟩
  · exact .inl ⟨f, j, t, hg, sp _ (tab_use hg).1, h⟩
  · obtain ⟨f, j, t, z, h3, hz⟩ := spec_tot w
    cases z with
    | true => exact absurd (hz rfl) (hn f j t (hz rfl).1.1)
    | false => exact .inr ⟨f, j, t, 0, 0, 0, sp _ h3, h⟩
end Go.Proofs.YtodmfjophjhbeaaDoor.Pure
