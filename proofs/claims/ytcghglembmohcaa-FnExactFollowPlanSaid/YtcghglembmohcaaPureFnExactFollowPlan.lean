/- The program's FollowPlan returns what the reference's returns, and leaves its arguments as they were. Conditions: none. -/
import Derived.Test.YtcghglembmohcaaMPureP
import Derived.Test.YtcghglembmohcaaBx15
-- IMPORTS
import Derived.Test.YtcghglembmohcaaMx0
import Derived.Test.YtcghglembmohcaaMx2
import Derived.Test.YtcghglembmohcaaMx4
import Derived.Test.YtcghglembmohcaaMx7
import Derived.Test.YtcghglembmohcaaMx10
import Derived.Test.YtcghglembmohcaaMx11
import Derived.Test.YtcghglembmohcaaMx12
import Derived.Test.YtcghglembmohcaaMx13
import Derived.Test.YtcghglembmohcaaMx14
import Derived.Test.YtcghglembmohcaaMx15
import Derived.Test.YtcghglembmohcaaHRun
import Derived.Test.YtcghglembmohcaaHPlan
namespace Go.Proofs.Ytcghglembmohcaa.Pure
open Go.RowKit Go.Proofs.Ytcghglembmohcaa.M Go.Proofs.YtcghglembmohcaaW.PrintWords Go.Proofs.YtcghglembmohcaaW.PrintLast Go.Proofs.YtcghglembmohcaaW.PrintMore
set_option linter.unusedVariables false
set_option linter.unusedSimpArgs false

theorem lists_allM : ∀ (c : Fin 13) (k : Fin 3) (n g : Bool), (spec_l03Cases.f 64 ((c.val : Int) + 1) (k.val : Int) n g).isSome = true ∧ (spec_l03Cases.f 64 ((c.val : Int) + 1) (k.val : Int) n g).map (fun l => l.map fun x => (x.f0, x.f1)) = (impl_Task_cases.f 64 ((c.val : Int) + 1) (k.val : Int) n g).map (fun l => l.map fun x => (x.f0, x.f1)) ∧ ((spec_l03Cases.f 64 ((c.val : Int) + 1) (k.val : Int) n g).getD []).length ≤ 27 ∧ (((spec_l03Cases.f 64 ((c.val : Int) + 1) (k.val : Int) n g).getD []).all fun x => decide (-1 ≤ x.f0 ∧ x.f0 ≤ 12)) = true := by decide +kernel

theorem eq_of_pairsM : ∀ (l m : List S43), l.map (fun x => (x.f0, x.f1)) = m.map (fun x => (x.f0, x.f1)) → l = m := by
  intro l
  induction l with
  | nil => intro m h; cases m <;> simp_all
  | cons x l ih =>
    intro m h
    cases m with
    | nil => simp at h
    | cons y m =>
      simp only [List.map_cons, List.cons.injEq, Prod.mk.injEq] at h
      obtain ⟨⟨h1, h2⟩, h3⟩ := h
      rw [ih m h3]
      cases x; cases y; simp_all

theorem lists_valM (a b : Int) (c d : Bool) (h : (1 ≤ a ∧ a ≤ 13) ∧ (0 ≤ b ∧ b ≤ 2)) : ∃ l, spec_l03Cases.f 64 a b c d = some l ∧ impl_Task_cases.f 64 a b c d = some l ∧ l.length ≤ 27 ∧ ∀ x ∈ l, -1 ≤ x.f0 ∧ x.f0 ≤ 12 := by
  obtain ⟨a1, a2, a3, a4⟩ := lists_allM ⟨(a - 1).toNat, by omega⟩ ⟨b.toNat, by omega⟩ c d
  simp only [] at a1 a2 a3 a4
  rw [show (((a - 1).toNat : Nat) : Int) + 1 = a by omega, show ((b.toNat : Nat) : Int) = b by omega] at a1 a2 a3 a4
  obtain ⟨l, hl⟩ := Option.isSome_iff_exists.1 a1
  rw [hl] at a2 a3 a4
  obtain ⟨m, hm, hm2⟩ := Option.map_eq_some_iff.1 a2.symm
  have e := eq_of_pairsM _ _ hm2
  subst e
  refine ⟨m, hl, hm, a3, ?_⟩
  intro x hx
  simpa using List.all_eq_true.1 a4 x hx

theorem rd_memM (l : List S43) {i : Int} (h0 : 0 ≤ i) (h1 : i < l.length) : rd_T43 l i ∈ l := by
  unfold rd_T43
  have hl : i.toNat < l.length := by omega
  simp [List.getD, hl]

theorem find_sameM (l : List S43) (hl : l.length ≤ 27) (c : Int) (b : Bool) : ∀ (d k : Nat) (i : Int), 0 ≤ i → (l.length : Int) - i ≤ d → d < k →
    ∃ r, spec_l03Find.l0 k l i c b = some r ∧ impl_Case_47.l0 k l l.length i c b = some r ∧ (r < 0 ∨ ∃ x ∈ l, x.f0 = c) := by
  intro d
  induction d with
  | zero =>
    intro k i h0 h1 h2
    obtain ⟨k, rfl⟩ : ∃ m, k = m + 1 := ⟨k - 1, by omega⟩
    refine ⟨-1, ?_, ?_, by omega⟩
    · simp only [spec_l03Find.l0]; rw [if_neg (by omega)]
    · simp only [impl_Case_47.l0]; rw [if_neg (by omega)]
  | succ d ih =>
    intro k i h0 h1 h2
    obtain ⟨k, rfl⟩ : ∃ m, k = m + 1 := ⟨k - 1, by omega⟩
    by_cases h : i < (l.length : Int)
    · have ew : wrap64 (i + 1) = i + 1 := by unfold wrap64; omega
      have ec : (c == (rd_T43 l i).f0 && (b == (rd_T43 l i).f1)) = ((rd_T43 l i).f0 == c && ((rd_T43 l i).f1 == b)) := by
        rw [Bool.eq_iff_iff]; simp only [Bool.and_eq_true, beq_iff_eq]; exact ⟨fun ⟨h1, h2⟩ => ⟨h1.symm, h2.symm⟩, fun ⟨h1, h2⟩ => ⟨h1.symm, h2.symm⟩⟩
      obtain ⟨r, hs, hi, hc⟩ := ih k (i + 1) (by omega) (by omega) (by omega)
      by_cases ht : ((rd_T43 l i).f0 == c && ((rd_T43 l i).f1 == b)) = true
      · refine ⟨i, ?_, ?_, Or.inr ⟨_, rd_memM l h0 h, ?_⟩⟩
        · simp only [spec_l03Find.l0]; rw [if_pos h, if_pos h0, if_pos ht]
        · simp only [impl_Case_47.l0]; rw [if_pos h, if_pos h0, if_pos h, ec, if_pos ht]
        · simp only [Bool.and_eq_true, beq_iff_eq] at ht; exact ht.1
      · refine ⟨r, ?_, ?_, hc⟩
        · simp only [spec_l03Find.l0]; rw [if_pos h, if_pos h0, if_neg ht, ew]; exact hs
        · simp only [impl_Case_47.l0]; rw [if_pos h, if_pos h0, if_pos h, ec, if_neg ht, ew]; exact hi
    · refine ⟨-1, ?_, ?_, by omega⟩
      · simp only [spec_l03Find.l0]; rw [if_neg h]
      · simp only [impl_Case_47.l0]; rw [if_neg h]

theorem find_valM (a b : Int) (c d : Bool) (h : (1 ≤ a ∧ a ≤ 13) ∧ (0 ≤ b ∧ b ≤ 2)) (e : Int) (f : Bool) : ∃ l r, spec_l03Find.f 64 a b c d e f = some r ∧ impl_Task_cases.f 64 a b c d = some l ∧ impl_Case_47.f 64 l e f = some r ∧ (r < 0 ∨ (-1 ≤ e ∧ e ≤ 12)) := by
  obtain ⟨l, hs, hi, hn, hb⟩ := lists_valM a b c d h
  obtain ⟨r, h1, h2, h3⟩ := find_sameM l hn e f 27 64 0 (by omega) (by omega) (by omega)
  refine ⟨l, r, ?_, hi, ?_, ?_⟩
  · unfold spec_l03Find.f; rw [hs]; exact h1
  · unfold impl_Case_47.f; exact h2
  · rcases h3 with h3 | ⟨x, hx, he⟩
    · exact Or.inl h3
    · rw [← he]; exact Or.inr (hb x hx)


theorem weigh_true (a b : Int) (c d : Bool) (w0 w1 w2 w3 w4 w5 w6 w7 w8 w9 w10 w11 w12 w13 : Int) : ∀ (k : Nat) (s i : Int), 0 ≤ i → B.spec_l03Weighing.l0 k s i a b c d w0 w1 w2 w3 w4 w5 w6 w7 w8 w9 w10 w11 w12 w13 = some true → ∀ m, i ≤ m → m < 14 → -1 ≤ rd [w0, w1, w2, w3, w4, w5, w6, w7, w8, w9, w10, w11, w12, w13] m ∧ rd [w0, w1, w2, w3, w4, w5, w6, w7, w8, w9, w10, w11, w12, w13] m ≤ 1 := by
  intro k
  induction k with
  | zero => intro s i h0 h; simp [B.spec_l03Weighing.l0] at h
  | succ k ih =>
    intro s i h0 h m hm hm14
    have hi : i < 14 := by omega
    simp only [B.spec_l03Weighing.l0] at h
    rw [if_pos hi, if_pos h0, wi h0 (by omega)] at h
    have go : ∀ s', B.spec_l03Weighing.l0 k s' (i + 1) a b c d w0 w1 w2 w3 w4 w5 w6 w7 w8 w9 w10 w11 w12 w13 = some true → (-1 ≤ rd [w0, w1, w2, w3, w4, w5, w6, w7, w8, w9, w10, w11, w12, w13] i ∧ rd [w0, w1, w2, w3, w4, w5, w6, w7, w8, w9, w10, w11, w12, w13] i ≤ 1) → -1 ≤ rd [w0, w1, w2, w3, w4, w5, w6, w7, w8, w9, w10, w11, w12, w13] m ∧ rd [w0, w1, w2, w3, w4, w5, w6, w7, w8, w9, w10, w11, w12, w13] m ≤ 1 := by
      intro s' hs hx
      by_cases e : m = i
      · rw [e]; exact hx
      · exact ih s' (i + 1) (by omega) hs m (by omega) hm14
    by_cases e1 : rd [w0, w1, w2, w3, w4, w5, w6, w7, w8, w9, w10, w11, w12, w13] i < -1
    · rw [if_pos e1] at h; simp at h
    · rw [if_neg e1] at h
      by_cases e2 : rd [w0, w1, w2, w3, w4, w5, w6, w7, w8, w9, w10, w11, w12, w13] i > 1
      · rw [if_pos e2] at h; simp at h
      · rw [if_neg e2] at h
        by_cases e3 : rd [w0, w1, w2, w3, w4, w5, w6, w7, w8, w9, w10, w11, w12, w13] i = 0
        · rw [if_pos e3] at h; exact go _ h (by omega)
        · rw [if_neg e3] at h
          obtain ⟨t, _, h⟩ := Option.bind_eq_some_iff.1 h
          cases t with
          | false => simp at h
          | true => rw [if_pos rfl] at h; exact go _ h (by omega)
theorem result_range (w0 w1 w2 w3 w4 w5 w6 w7 w8 w9 w10 w11 w12 w13 c0 : Int) (c1 : Bool) (h1 : -1 ≤ c0) (h2 : c0 ≤ 12) (hp : ∀ m, 0 ≤ m → m < 14 → -1 ≤ rd [w0, w1, w2, w3, w4, w5, w6, w7, w8, w9, w10, w11, w12, w13] m ∧ rd [w0, w1, w2, w3, w4, w5, w6, w7, w8, w9, w10, w11, w12, w13] m ≤ 1) : ∃ t, B.spec_l03Result.f w0 w1 w2 w3 w4 w5 w6 w7 w8 w9 w10 w11 w12 w13 c0 c1 = some t ∧ -1 ≤ t ∧ t ≤ 1 := by
  unfold B.spec_l03Result.f
  by_cases e : c0 < 0
  · rw [if_pos e]; exact ⟨0, rfl, by omega, by omega⟩
  · have hx := hp c0 (by omega) (by omega)
    generalize rd [w0, w1, w2, w3, w4, w5, w6, w7, w8, w9, w10, w11, w12, w13] c0 = x at hx ⊢
    have w1 : wrap64 x = x := by unfold wrap64; omega
    have w2 : wrap64 (-x) = -x := by unfold wrap64; omega
    rw [if_neg e, if_pos (show 0 ≤ c0 by omega), if_pos (show c0 < 14 by omega), w1, w2]
    cases c1
    · rw [if_neg (by simp), if_pos (show 0 ≤ c0 by omega), if_pos (show c0 < 14 by omega)]; exact ⟨-x, rfl, by omega, by omega⟩
    · rw [if_pos rfl]; exact ⟨x, rfl, by omega, by omega⟩
/-- A node that tells, or weighs and goes on behind itself. -/
def good (l : List S58) (j : Nat) : Prop := (rd_T58 l (j : Int)).f3 = true ∨ ((∀ m, 0 ≤ m → m < 14 → -1 ≤ rd [(rd_T58 l (j : Int)).f0.f0, (rd_T58 l (j : Int)).f0.f1, (rd_T58 l (j : Int)).f0.f2, (rd_T58 l (j : Int)).f0.f3, (rd_T58 l (j : Int)).f0.f4, (rd_T58 l (j : Int)).f0.f5, (rd_T58 l (j : Int)).f0.f6, (rd_T58 l (j : Int)).f0.f7, (rd_T58 l (j : Int)).f0.f8, (rd_T58 l (j : Int)).f0.f9, (rd_T58 l (j : Int)).f0.f10, (rd_T58 l (j : Int)).f0.f11, (rd_T58 l (j : Int)).f0.f12, (rd_T58 l (j : Int)).f0.f13] m ∧ rd [(rd_T58 l (j : Int)).f0.f0, (rd_T58 l (j : Int)).f0.f1, (rd_T58 l (j : Int)).f0.f2, (rd_T58 l (j : Int)).f0.f3, (rd_T58 l (j : Int)).f0.f4, (rd_T58 l (j : Int)).f0.f5, (rd_T58 l (j : Int)).f0.f6, (rd_T58 l (j : Int)).f0.f7, (rd_T58 l (j : Int)).f0.f8, (rd_T58 l (j : Int)).f0.f9, (rd_T58 l (j : Int)).f0.f10, (rd_T58 l (j : Int)).f0.f11, (rd_T58 l (j : Int)).f0.f12, (rd_T58 l (j : Int)).f0.f13] m ≤ 1) ∧ ∀ q : Int, 0 ≤ q → q < 3 → (j : Int) < wrap64 (rd [(rd_T58 l (j : Int)).f1.f0, (rd_T58 l (j : Int)).f1.f1, (rd_T58 l (j : Int)).f1.f2] q) ∧ wrap64 (rd [(rd_T58 l (j : Int)).f1.f0, (rd_T58 l (j : Int)).f1.f1, (rd_T58 l (j : Int)).f1.f2] q) < (l.length : Int))
theorem plan_good (a b : Int) (c d : Bool) (l : List S58) (hl : l.length ≤ 400) : ∀ (k : Nat), (∀ i : Nat, spec_l03Plan.l0 k l (i : Int) a b c d = some true → ∀ j, i ≤ j → j < l.length → good l j) ∧
    (∀ (i : Nat) (m : Int), i < l.length → 0 ≤ m → spec_l03Plan.l1 k l (i : Int) m a b c d = some true → (∀ q : Int, m ≤ q → q < 3 → (i : Int) < wrap64 (rd [(rd_T58 l (i : Int)).f1.f0, (rd_T58 l (i : Int)).f1.f1, (rd_T58 l (i : Int)).f1.f2] q) ∧ wrap64 (rd [(rd_T58 l (i : Int)).f1.f0, (rd_T58 l (i : Int)).f1.f1, (rd_T58 l (i : Int)).f1.f2] q) < (l.length : Int)) ∧ ∀ j, i + 1 ≤ j → j < l.length → good l j) := by
  intro k
  induction k with
  | zero => exact ⟨fun i h => by simp [spec_l03Plan.l0] at h, fun i m _ _ h => by simp [spec_l03Plan.l1] at h⟩
  | succ k ih =>
    obtain ⟨ih0, ih1⟩ := ih
    constructor
    · intro i h j hij hj
      have hi : i < l.length := by omega
      simp only [spec_l03Plan.l0] at h
      rw [if_pos (show (i : Int) < (l.length : Int) by omega), if_pos (show (0 : Int) ≤ (i : Int) by omega), wi (i := (i : Int)) (by omega) (by omega), show (i : Int) + 1 = ((i + 1 : Nat) : Int) by omega] at h
      by_cases c8 : (rd_T58 l (i : Int)).f3 = true
      · rw [if_pos c8] at h
        by_cases cP : ((rd_T58 l (i : Int)).f0.f0 == 0 && ((rd_T58 l (i : Int)).f0.f1 == 0 && ((rd_T58 l (i : Int)).f0.f2 == 0 && ((rd_T58 l (i : Int)).f0.f3 == 0 && ((rd_T58 l (i : Int)).f0.f4 == 0 && ((rd_T58 l (i : Int)).f0.f5 == 0 && ((rd_T58 l (i : Int)).f0.f6 == 0 && ((rd_T58 l (i : Int)).f0.f7 == 0 && ((rd_T58 l (i : Int)).f0.f8 == 0 && ((rd_T58 l (i : Int)).f0.f9 == 0 && ((rd_T58 l (i : Int)).f0.f10 == 0 && ((rd_T58 l (i : Int)).f0.f11 == 0 && ((rd_T58 l (i : Int)).f0.f12 == 0 && ((rd_T58 l (i : Int)).f0.f13 == 0)))))))))))))) = true
        · rw [if_pos cP] at h
          by_cases cN : ((rd_T58 l (i : Int)).f1.f0 == 0 && ((rd_T58 l (i : Int)).f1.f1 == 0 && ((rd_T58 l (i : Int)).f1.f2 == 0))) = true
          · rw [if_pos cN] at h
            obtain ⟨q, _, h⟩ := Option.bind_eq_some_iff.1 h
            by_cases cq : q < 0
            · rw [if_pos cq] at h; simp at h
            · rw [if_neg cq] at h
              by_cases e : j = i
              · rw [e]; exact Or.inl c8
              · exact ih0 (i + 1) h j (by omega) hj
          · rw [if_neg cN] at h; simp at h
        · rw [if_neg cP] at h; simp at h
      · rw [if_neg c8] at h
        by_cases cP : ((rd_T58 l (i : Int)).f0.f0 == 0 && ((rd_T58 l (i : Int)).f0.f1 == 0 && ((rd_T58 l (i : Int)).f0.f2 == 0 && ((rd_T58 l (i : Int)).f0.f3 == 0 && ((rd_T58 l (i : Int)).f0.f4 == 0 && ((rd_T58 l (i : Int)).f0.f5 == 0 && ((rd_T58 l (i : Int)).f0.f6 == 0 && ((rd_T58 l (i : Int)).f0.f7 == 0 && ((rd_T58 l (i : Int)).f0.f8 == 0 && ((rd_T58 l (i : Int)).f0.f9 == 0 && ((rd_T58 l (i : Int)).f0.f10 == 0 && ((rd_T58 l (i : Int)).f0.f11 == 0 && ((rd_T58 l (i : Int)).f0.f12 == 0 && ((rd_T58 l (i : Int)).f0.f13 == 0)))))))))))))) = true
        · rw [if_pos cP] at h; simp at h
        · rw [if_neg cP] at h
          obtain ⟨t, hw, h⟩ := Option.bind_eq_some_iff.1 h
          cases t with
          | false => simp at h
          | true =>
            rw [if_pos rfl] at h
            by_cases cT : ((rd_T58 l (i : Int)).f2.f0 == 0 && !(rd_T58 l (i : Int)).f2.f1) = true
            · rw [if_pos cT] at h
              obtain ⟨g1, g2⟩ := ih1 i 0 hi (by omega) h
              by_cases e : j = i
              · rw [e]
                exact Or.inr ⟨fun m h0 h14 => weigh_true a b c d _ _ _ _ _ _ _ _ _ _ _ _ _ _ k 0 0 (by omega) hw m h0 h14, fun q h0 h3 => g1 q h0 h3⟩
              · exact g2 j (by omega) hj
            · rw [if_neg cT] at h; simp at h
    · intro i m hi h0 h
      simp only [spec_l03Plan.l1] at h
      by_cases h3 : m < 3
      · rw [if_pos h3, if_pos h0, wi h0 (by omega)] at h
        by_cases cA : wrap64 (rd [(rd_T58 l (i : Int)).f1.f0, (rd_T58 l (i : Int)).f1.f1, (rd_T58 l (i : Int)).f1.f2] m) ≤ (i : Int)
        · rw [if_pos cA] at h; simp at h
        · rw [if_neg cA] at h
          by_cases cB : wrap64 (rd [(rd_T58 l (i : Int)).f1.f0, (rd_T58 l (i : Int)).f1.f1, (rd_T58 l (i : Int)).f1.f2] m) ≥ (l.length : Int)
          · rw [if_pos cB] at h; simp at h
          · rw [if_neg cB] at h
            obtain ⟨g1, g2⟩ := ih1 i (m + 1) hi (by omega) h
            refine ⟨fun q hq hq3 => ?_, g2⟩
            by_cases e : q = m
            · rw [e]; exact ⟨by omega, by omega⟩
            · exact g1 q (by omega) hq3
      · rw [if_neg h3, wi (i := (i : Int)) (by omega) (by omega), show (i : Int) + 1 = ((i + 1 : Nat) : Int) by omega] at h
        exact ⟨fun q hq hq3 => by omega, fun j hj hl' => ih0 (i + 1) h j hj hl'⟩
theorem run_same (l : List S58) (c0 : Int) (c1 : Bool) : ∀ (k : Nat) (x y : Int), spec_l03Run.l0 k l x y c0 c1 = impl_follow.l0 k l x y c0 c1 := by
  intro k
  induction k with
  | zero => intro x y; rfl
  | succ k ih =>
    intro x y
    simp only [spec_l03Run.l0, impl_follow.l0]
    simp only [ih]
    rfl
theorem run_ends (l : List S58) (hl : l.length ≤ 400) (hg : ∀ j, j < l.length → good l j) (hr : ∀ j, j < l.length → ∀ q : Int, 0 ≤ q → q < 3 → wrap64 (rd [(rd_T58 l (j : Int)).f1.f0, (rd_T58 l (j : Int)).f1.f1, (rd_T58 l (j : Int)).f1.f2] q) = rd [(rd_T58 l (j : Int)).f1.f0, (rd_T58 l (j : Int)).f1.f1, (rd_T58 l (j : Int)).f1.f2] q) (c0 : Int) (c1 : Bool) (h1 : -1 ≤ c0) (h2 : c0 ≤ 12) :
    ∀ (n k j : Nat) (y : Int), j < l.length → l.length ≤ j + n → n < k → ∃ r, spec_l03Run.l0 k l (j : Int) y c0 c1 = some r := by
  intro n
  induction n with
  | zero => intro k j y hj hn hk; omega
  | succ n ih =>
    intro k j y hj hn hk
    obtain ⟨k, rfl⟩ := fuel (show 1 ≤ k by omega)
    simp only [spec_l03Run.l0]
    rw [if_pos (show (0 : Int) ≤ (j : Int) by omega), if_pos (show (j : Int) < (l.length : Int) by omega)]
    by_cases c8 : (rd_T58 l (j : Int)).f3 = true
    · rw [if_pos c8]; exact ⟨_, rfl⟩
    · rw [if_neg c8]
      rcases hg j hj with e | ⟨g1, g2⟩
      · exact absurd e c8
      · obtain ⟨t, ht, t1, t2⟩ := result_range ((rd_T58 l (j : Int)).f0.f0) ((rd_T58 l (j : Int)).f0.f1) ((rd_T58 l (j : Int)).f0.f2) ((rd_T58 l (j : Int)).f0.f3) ((rd_T58 l (j : Int)).f0.f4) ((rd_T58 l (j : Int)).f0.f5) ((rd_T58 l (j : Int)).f0.f6) ((rd_T58 l (j : Int)).f0.f7) ((rd_T58 l (j : Int)).f0.f8) ((rd_T58 l (j : Int)).f0.f9) ((rd_T58 l (j : Int)).f0.f10) ((rd_T58 l (j : Int)).f0.f11) ((rd_T58 l (j : Int)).f0.f12) ((rd_T58 l (j : Int)).f0.f13) c0 c1 h1 h2 g1
        have w : wrap64 (t + 1) = t + 1 := by unfold wrap64; omega
        rw [ht]
        simp only [Option.bind_some]
        rw [w, if_pos (by omega), if_pos (by omega)]
        have h3 := g2 (t + 1) (by omega) (by omega)
        rw [hr j hj (t + 1) (by omega) (by omega)] at h3
        generalize rd [(rd_T58 l (j : Int)).f1.f0, (rd_T58 l (j : Int)).f1.f1, (rd_T58 l (j : Int)).f1.f2] (t + 1) = v at h3 ⊢
        obtain ⟨v, rfl⟩ : ∃ u : Nat, v = (u : Int) := ⟨v.toNat, by omega⟩
        exact ih k v _ (by omega) (by omega) (by omega)
theorem valid_true (a b : Int) (c d : Bool) (ha : (Lit.int .i8 a).wf = true) (hb : (Lit.int .i8 b).wf = true) (l : List S58) (k : Nat) (h : spec_ValidPlan.f k a b c d l = some true) : ((1 ≤ a ∧ a ≤ 13) ∧ (0 ≤ b ∧ b ≤ 2)) ∧ 1 ≤ l.length ∧ l.length ≤ 400 ∧ ∀ j, j < l.length → good l j := by
  unfold spec_ValidPlan.f at h
  rw [ok_val a b c d (wn8 ha) (wn8 hb)] at h
  simp only [Option.bind_some] at h
  by_cases ht : (1 ≤ a ∧ a ≤ 13) ∧ (0 ≤ b ∧ b ≤ 2)
  · rw [if_pos (by simpa using ht)] at h
    unfold spec_l03Plan.f at h
    rw [in_valB] at h
    simp only [Option.bind_some] at h
    by_cases hl : 1 ≤ (l.length : Int) ∧ (l.length : Int) ≤ 400
    · rw [decide_eq_true hl, if_pos rfl] at h
      obtain ⟨t, h1, h2⟩ := Option.bind_eq_some_iff.1 h
      obtain rfl := Option.some.inj h2
      exact ⟨ht, by omega, by omega, fun j hj => (plan_good a b c d l (by omega) k).1 0 h1 j (by omega) hj⟩
    · rw [decide_eq_false hl] at h; simp at h
  · rw [if_neg (by simpa using ht)] at h
    simp at h
theorem follow_both (a b : Int) (c d : Bool) (ha : (Lit.int .i8 a).wf = true) (hb : (Lit.int .i8 b).wf = true) (l : List S58) (hr : ∀ j, j < l.length → ∀ q : Int, 0 ≤ q → q < 3 → wrap64 (rd [(rd_T58 l (j : Int)).f1.f0, (rd_T58 l (j : Int)).f1.f1, (rd_T58 l (j : Int)).f1.f2] q) = rd [(rd_T58 l (j : Int)).f1.f0, (rd_T58 l (j : Int)).f1.f1, (rd_T58 l (j : Int)).f1.f2] q) (e : Int) (f : Bool) (k : Nat) (hk : 5 * l.length + 1000 ≤ k) :
    ∃ r, spec_FollowPlan.f k a b c d l e f = some r ∧ impl_FollowPlan.f k a b c d l e f = some r := by
  obtain ⟨v, hs, hi⟩ := valid_both a b c d ha hb l k (by omega)
  unfold spec_FollowPlan.f impl_FollowPlan.f
  rw [hi, hs]
  simp only [Option.bind_some]
  cases v with
  | false => exact ⟨(0, false, 0, 1), rfl, rfl⟩
  | true =>
    obtain ⟨ht, hl0, hl, hg⟩ := valid_true a b c d ha hb l k hs
    obtain ⟨cs, q, f1, f2, f3, f4⟩ := find_valM a b c d ht e f
    have g1 : spec_l03Find.f k a b c d e f = some q := up_ (F := fun k => spec_l03Find.f k a b c d e f) (fun k => spec_l03Find.mono _ _ _ _ _ _ k) (by omega) f1
    have g2 : impl_Task_cases.f k a b c d = some cs := up_ (F := fun k => impl_Task_cases.f k a b c d) (fun k => impl_Task_cases.mono _ _ _ _ k) (by omega) f2
    have g3 : impl_Case_47.f k cs e f = some q := up_ (F := fun k => impl_Case_47.f k cs e f) (fun k => impl_Case_47.mono _ _ _ k) (by omega) f3
    unfold impl_Case_35.f
    rw [if_pos rfl, if_pos rfl, g1, g2]
    simp only [Option.bind_some]
    rw [g3]
    simp only [Option.bind_some]
    by_cases cq : q < 0
    · rw [if_pos cq, if_neg (by simp; omega)]; exact ⟨_, rfl, rfl⟩
    · rw [if_neg cq, if_pos (by simp; omega)]
      obtain ⟨r, h1⟩ := run_ends l hl hg hr e f (by omega) (by omega) l.length k 0 0 (by omega) (by omega) (by omega)
      have h2 := run_same l e f k 0 0
      unfold spec_l03Run.f impl_follow.f
      rw [show ((0 : Nat) : Int) = 0 from rfl] at h1
      rw [← h2, h1]
      exact ⟨_, rfl, rfl⟩
theorem w16 {x : Int} (h : (Lit.int .i16 x).wf = true) : wrap64 x = x := by
  have h2 : IntKind.i16.min ≤ x ∧ x ≤ IntKind.i16.max := by simpa [Lit.wf] using h
  have h3 : -32768 ≤ x ∧ x ≤ 32767 := h2
  unfold wrap64; omega
theorem FnExactFollowPlan (x0_0 : Int) (x0_1 : Int) (x0_2 : Bool) (x0_3 : Bool) (x1_0 : (List S61)) (x2_0 : Int) (x2_1 : Bool) (w0_0 : (fun x : Int => (Lit.int .i8 x).wf = true) x0_0) (w0_1 : (fun x : Int => (Lit.int .i8 x).wf = true) x0_1) (w1_0 : (fun xs : List S61 => xs.length ≤ maxLen ∧ ∀ x ∈ xs, (fun x : S61 => (fun x : S25 => (fun x : Int => (Lit.int .i8 x).wf = true) x.f0 ∧ (fun x : Int => (Lit.int .i8 x).wf = true) x.f1 ∧ (fun x : Int => (Lit.int .i8 x).wf = true) x.f2 ∧ (fun x : Int => (Lit.int .i8 x).wf = true) x.f3 ∧ (fun x : Int => (Lit.int .i8 x).wf = true) x.f4 ∧ (fun x : Int => (Lit.int .i8 x).wf = true) x.f5 ∧ (fun x : Int => (Lit.int .i8 x).wf = true) x.f6 ∧ (fun x : Int => (Lit.int .i8 x).wf = true) x.f7 ∧ (fun x : Int => (Lit.int .i8 x).wf = true) x.f8 ∧ (fun x : Int => (Lit.int .i8 x).wf = true) x.f9 ∧ (fun x : Int => (Lit.int .i8 x).wf = true) x.f10 ∧ (fun x : Int => (Lit.int .i8 x).wf = true) x.f11 ∧ (fun x : Int => (Lit.int .i8 x).wf = true) x.f12 ∧ (fun x : Int => (Lit.int .i8 x).wf = true) x.f13) x.f0 ∧ (fun x : S56 => (fun x : Int => (Lit.int .i16 x).wf = true) x.f0 ∧ (fun x : Int => (Lit.int .i16 x).wf = true) x.f1 ∧ (fun x : Int => (Lit.int .i16 x).wf = true) x.f2) x.f1 ∧ (fun x : S42 => (fun x : Int => (Lit.int .i8 x).wf = true) x.f0 ∧ (fun _ : Bool => True) x.f1) x.f2 ∧ (fun _ : Bool => True) x.f3) x) x1_0) (w2_0 : (fun x : Int => (Lit.int .i8 x).wf = true) x2_0) : ∃ k, laws_FnExactFollowPlan.f k x0_0 x0_1 x0_2 x0_3 x1_0 x2_0 x2_1 = some true := by
  obtain ⟨k, hk⟩ : ∃ k, k = 6 * x1_0.length + 1200 := ⟨_, rfl⟩
  refine ⟨k + 1, ?_⟩
  unfold laws_FnExactFollowPlan.f laws_toTask.f laws_toCase.f
  rw [szNodeS_val x1_0 w1_0.1 1048576 (by omega) (by omega)]
  simp only [Option.bind_some]
  by_cases e0 : (1048576 : Int) - (x1_0.length : Int) < 0
  · rw [if_pos e0]; rfl
  · rw [if_neg e0, if_neg e0, toNodeS_val x1_0 (by omega) (by omega)]
    simp only [Option.bind_some]
    have hr : ∀ j, j < (x1_0.map cv).length → ∀ q : Int, 0 ≤ q → q < 3 → wrap64 (rd [(rd_T58 (x1_0.map cv) (j : Int)).f1.f0, (rd_T58 (x1_0.map cv) (j : Int)).f1.f1, (rd_T58 (x1_0.map cv) (j : Int)).f1.f2] q) = rd [(rd_T58 (x1_0.map cv) (j : Int)).f1.f0, (rd_T58 (x1_0.map cv) (j : Int)).f1.f1, (rd_T58 (x1_0.map cv) (j : Int)).f1.f2] q := by
      intro j hj q h0 h3
      have hj' : j < x1_0.length := by simpa using hj
      have e : rd_T58 (x1_0.map cv) (j : Int) = cv (x1_0[j]) := by
        unfold rd_T58
        simp [List.getD, hj']
      obtain ⟨_, ⟨n0, n1, n2⟩, _⟩ := w1_0.2 _ (List.getElem_mem hj')
      rw [e]
      have hq : q = 0 ∨ q = 1 ∨ q = 2 := by omega
      rcases hq with rfl | rfl | rfl
      · exact w16 n0
      · exact w16 n1
      · exact w16 n2
    obtain ⟨r, hs, hi⟩ := follow_both x0_0 x0_1 x0_2 x0_3 w0_0 w0_1 (x1_0.map cv) hr x2_0 x2_1 (k + 1) (by simp; omega)
    rw [hs]
    simp only [Option.bind_some]
    rw [hi]
    simp only [Option.bind_some, laws_eqCase.f, if_true, bne_self_eq_false]
    simp only [laws_FnExactFollowPlan.j0]
    rw [toNodeS_val x1_0 (by omega) (by omega)]
    simp only [Option.bind_some]
    rw [eqNodeS_self (x1_0.map cv) (by simp; omega) (by simp; omega)]
    simp

end Go.Proofs.Ytcghglembmohcaa.Pure
