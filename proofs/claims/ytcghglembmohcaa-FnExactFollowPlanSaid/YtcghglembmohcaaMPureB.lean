/- Plain laws of weighings and cases, as the hand texts call them. -/
import Derived.Test.YtcghglembmohcaaMPureN
import Derived.Test.YtcghglembmohcaaBx14
import Derived.Test.YtcghglembmohcaaBx15
import Derived.Test.YtcghglembmohcaaBx16
import Derived.Test.YtcghglembmohcaaBx17
import Derived.Test.YtcghglembmohcaaBx18
import Derived.Test.YtcghglembmohcaaBx19
import Derived.Test.YtcghglembmohcaaBx20
import Derived.Test.YtcghglembmohcaaBx21
import Derived.Test.YtcghglembmohcaaBx23
namespace Go.Proofs.Ytcghglembmohcaa.Pure
open Go.RowKit Go.Proofs.Ytcghglembmohcaa.B Go.Proofs.YtcghglembmohcaaW.PrintWords Go.Proofs.YtcghglembmohcaaW.PrintLast Go.Proofs.YtcghglembmohcaaW.PrintMore
set_option linter.unusedVariables false
set_option linter.unusedSimpArgs false

theorem up_ {α : Type} {F : Nat → Option α} (hm : ∀ k, LeO (F k) (F (k + 1))) {k m : Nat} {r : α} (h : k ≤ m) (hr : F k = some r) : F m = some r := by
  obtain ⟨d, rfl⟩ : ∃ d, m = k + d := ⟨m - k, by omega⟩
  clear h
  induction d with
  | zero => exact hr
  | succ d ih => exact hm (k + d) r ih
theorem wf8 {a : Int} (h : (Lit.int .i8 a).wf = true) : -128 ≤ a ∧ a ≤ 127 := by
  have h' : IntKind.i8.min ≤ a ∧ a ≤ IntKind.i8.max := by simpa [Lit.wf] using h
  exact h'
theorem wn8 {a : Int} (h : (Lit.int .i8 a).wf = true) : wrap64 a = a := by
  have := wf8 h
  unfold wrap64; omega
theorem within_valB (a b c : Int) : impl_within.f a b c = some (decide (b ≤ a ∧ a ≤ c)) := by
  unfold impl_within.f
  by_cases h : b ≤ a
  · rw [if_pos h]; simp [h]
  · rw [if_neg h]; simp [h]
theorem in_valB (a b c : Int) : spec_l00In.f a b c = some (decide (b ≤ a ∧ a ≤ c)) := by
  unfold spec_l00In.f
  by_cases h : a ≥ b
  · rw [if_pos h]; simp [show b ≤ a from h]
  · rw [if_neg h]; simp [show ¬ b ≤ a from h]
theorem task_specB (a b : Int) (c d : Bool) (ha : wrap64 a = a) (hb : wrap64 b = b) : spec_l03Ok.f a b c d = some (decide ((1 ≤ a ∧ a ≤ 13) ∧ (0 ≤ b ∧ b ≤ 2))) := by
  unfold spec_l03Ok.f
  simp only [in_valB, ha, hb, Option.bind_some]
  by_cases h : 1 ≤ a ∧ a ≤ 13 <;> simp [h]
theorem task_implB (a b : Int) (c d : Bool) (ha : wrap64 a = a) (hb : wrap64 b = b) : impl_ValidTask.f a b c d = some (decide ((1 ≤ a ∧ a ≤ 13) ∧ (0 ≤ b ∧ b ≤ 2))) := by
  unfold impl_ValidTask.f impl_isKind.f
  simp only [within_valB, ha, hb, Option.bind_some]
  by_cases h : 1 ≤ a ∧ a ≤ 13 <;> simp [h]

theorem there_valB (a b i : Int) (c d : Bool) (ha : wrap64 a = a) : spec_l03There.f a b c d i = some (decide (i < a ∨ (i = a ∧ d = true))) := by
  unfold spec_l03There.f
  rw [ha]
  by_cases h : i < a
  · rw [if_pos h]; simp [h]
  · rw [if_neg h]
    by_cases h2 : i = a
    · rw [if_pos h2]; simp [h2]
    · rw [if_neg h2]; simp [h, h2]
theorem places_valB (a b : Int) (c d : Bool) (ha : wrap64 a = a) (h1 : 0 ≤ a) (h2 : a ≤ 1000) : impl_Task_places.f a b c d = some (if d = true then a + 1 else a) := by
  unfold impl_Task_places.f
  rw [ha, wi h1 (by omega)]
  cases d <;> simp

theorem weigh_sameB (a b : Int) (c d : Bool) (ha : wrap64 a = a) (h1 : 0 ≤ a) (h2 : a ≤ 1000) (w0 w1 w2 w3 w4 w5 w6 w7 w8 w9 w10 w11 w12 w13 : Int) : ∀ (n k : Nat) (s i : Int), 0 ≤ i → 14 - i ≤ n → n < k →
    ∃ r, spec_l03Weighing.l0 k s i a b c d w0 w1 w2 w3 w4 w5 w6 w7 w8 w9 w10 w11 w12 w13 = some r ∧ impl_ValidWeighing.l0 k s i w0 w1 w2 w3 w4 w5 w6 w7 w8 w9 w10 w11 w12 w13 a b c d = some r := by
  intro n
  induction n with
  | zero =>
    intro k s i h0 hn hk
    obtain ⟨k, rfl⟩ : ∃ m, k = m + 1 := ⟨k - 1, by omega⟩
    refine ⟨(s == 0), ?_, ?_⟩
    · simp only [spec_l03Weighing.l0]; rw [if_neg (by omega)]
    · simp only [impl_ValidWeighing.l0]; rw [if_neg (by omega)]
  | succ n ih =>
    intro k s i h0 hn hk
    obtain ⟨k, rfl⟩ : ∃ m, k = m + 1 := ⟨k - 1, by omega⟩
    by_cases hi : i < 14
    · simp only [spec_l03Weighing.l0, impl_ValidWeighing.l0]
      generalize rd [w0, w1, w2, w3, w4, w5, w6, w7, w8, w9, w10, w11, w12, w13] i = x
      rw [if_pos hi, if_pos h0, if_pos hi, if_pos h0, wi h0 (by omega), there_valB a b i c d ha, places_valB a b c d ha h1 h2]
      simp only [Option.bind_some]
      obtain ⟨r, hs, hm⟩ := ih k (wrap64 (s + wrap64 x)) (i + 1) (by omega) (by omega) (by omega)
      rw [hs, hm]
      by_cases e1 : x < -1
      · rw [if_pos e1, if_pos e1]; exact ⟨_, rfl, rfl⟩
      · rw [if_neg e1, if_neg e1]
        by_cases e2 : x > 1
        · rw [if_pos e2, if_pos e2]; exact ⟨_, rfl, rfl⟩
        · rw [if_neg e2, if_neg e2]
          by_cases e3 : x = 0
          · rw [if_pos e3, if_pos e3]; exact ⟨_, rfl, rfl⟩
          · rw [if_neg e3, if_neg e3]
            cases d with
            | true =>
              by_cases e4 : i ≥ a + 1
              · rw [if_neg (by simp; omega), if_pos (by simpa using e4)]; exact ⟨_, rfl, rfl⟩
              · rw [if_pos (by simp; omega), if_neg (by simpa using e4)]; exact ⟨_, rfl, rfl⟩
            | false =>
              by_cases e4 : i ≥ a
              · rw [if_neg (by simp; omega), if_pos (by simpa using e4)]; exact ⟨_, rfl, rfl⟩
              · rw [if_pos (by simp; omega), if_neg (by simpa using e4)]; exact ⟨_, rfl, rfl⟩
    · refine ⟨(s == 0), ?_, ?_⟩
      · simp only [spec_l03Weighing.l0]; rw [if_neg hi]
      · simp only [impl_ValidWeighing.l0]; rw [if_neg hi]

theorem lists_allB : ∀ (c : Fin 13) (k : Fin 3) (n g : Bool), (spec_l03Cases.f 64 ((c.val : Int) + 1) (k.val : Int) n g).isSome = true ∧ (spec_l03Cases.f 64 ((c.val : Int) + 1) (k.val : Int) n g).map (fun l => l.map fun x => (x.f0, x.f1)) = (impl_Task_cases.f 64 ((c.val : Int) + 1) (k.val : Int) n g).map (fun l => l.map fun x => (x.f0, x.f1)) ∧ ((spec_l03Cases.f 64 ((c.val : Int) + 1) (k.val : Int) n g).getD []).length ≤ 27 ∧ (((spec_l03Cases.f 64 ((c.val : Int) + 1) (k.val : Int) n g).getD []).all fun x => decide (-1 ≤ x.f0 ∧ x.f0 ≤ 12)) = true := by decide +kernel

theorem eq_of_pairsB : ∀ (l m : List S43), l.map (fun x => (x.f0, x.f1)) = m.map (fun x => (x.f0, x.f1)) → l = m := by
  intro l
  induction l with
  | nil => intro m h; cases m <;> simp_all
  | cons x l ih =>
    intro m h
    cases m with
    | nil => simp at h
    | cons y m =>
      simp only [List.map_cons, List.cons.injEq, Prod.mk.injEq] at h
      obtain ⟨⟨h1, h2⟩, h3⟩ := h
      rw [ih m h3]
      cases x; cases y; simp_all

theorem lists_valB (a b : Int) (c d : Bool) (h : (1 ≤ a ∧ a ≤ 13) ∧ (0 ≤ b ∧ b ≤ 2)) : ∃ l, spec_l03Cases.f 64 a b c d = some l ∧ impl_Task_cases.f 64 a b c d = some l ∧ l.length ≤ 27 ∧ ∀ x ∈ l, -1 ≤ x.f0 ∧ x.f0 ≤ 12 := by
  obtain ⟨a1, a2, a3, a4⟩ := lists_allB ⟨(a - 1).toNat, by omega⟩ ⟨b.toNat, by omega⟩ c d
  simp only [] at a1 a2 a3 a4
  rw [show (((a - 1).toNat : Nat) : Int) + 1 = a by omega, show ((b.toNat : Nat) : Int) = b by omega] at a1 a2 a3 a4
  obtain ⟨l, hl⟩ := Option.isSome_iff_exists.1 a1
  rw [hl] at a2 a3 a4
  obtain ⟨m, hm, hm2⟩ := Option.map_eq_some_iff.1 a2.symm
  have e := eq_of_pairsB _ _ hm2
  subst e
  refine ⟨m, hl, hm, a3, ?_⟩
  intro x hx
  simpa using List.all_eq_true.1 a4 x hx

theorem rd_memB (l : List S43) {i : Int} (h0 : 0 ≤ i) (h1 : i < l.length) : rd_T43 l i ∈ l := by
  unfold rd_T43
  have hl : i.toNat < l.length := by omega
  simp [List.getD, hl]

theorem find_sameB (l : List S43) (hl : l.length ≤ 27) (c : Int) (b : Bool) : ∀ (d k : Nat) (i : Int), 0 ≤ i → (l.length : Int) - i ≤ d → d < k →
    ∃ r, spec_l03Find.l0 k l i c b = some r ∧ impl_Case_47.l0 k l l.length i c b = some r ∧ (r < 0 ∨ ∃ x ∈ l, x.f0 = c) := by
  intro d
  induction d with
  | zero =>
    intro k i h0 h1 h2
    obtain ⟨k, rfl⟩ : ∃ m, k = m + 1 := ⟨k - 1, by omega⟩
    refine ⟨-1, ?_, ?_, by omega⟩
    · simp only [spec_l03Find.l0]; rw [if_neg (by omega)]
    · simp only [impl_Case_47.l0]; rw [if_neg (by omega)]
  | succ d ih =>
    intro k i h0 h1 h2
    obtain ⟨k, rfl⟩ : ∃ m, k = m + 1 := ⟨k - 1, by omega⟩
    by_cases h : i < (l.length : Int)
    · have ew : wrap64 (i + 1) = i + 1 := by unfold wrap64; omega
      have ec : (c == (rd_T43 l i).f0 && (b == (rd_T43 l i).f1)) = ((rd_T43 l i).f0 == c && ((rd_T43 l i).f1 == b)) := by
        rw [Bool.eq_iff_iff]; simp only [Bool.and_eq_true, beq_iff_eq]; exact ⟨fun ⟨h1, h2⟩ => ⟨h1.symm, h2.symm⟩, fun ⟨h1, h2⟩ => ⟨h1.symm, h2.symm⟩⟩
      obtain ⟨r, hs, hi, hc⟩ := ih k (i + 1) (by omega) (by omega) (by omega)
      by_cases ht : ((rd_T43 l i).f0 == c && ((rd_T43 l i).f1 == b)) = true
      · refine ⟨i, ?_, ?_, Or.inr ⟨_, rd_memB l h0 h, ?_⟩⟩
        · simp only [spec_l03Find.l0]; rw [if_pos h, if_pos h0, if_pos ht]
        · simp only [impl_Case_47.l0]; rw [if_pos h, if_pos h0, if_pos h, ec, if_pos ht]
        · simp only [Bool.and_eq_true, beq_iff_eq] at ht; exact ht.1
      · refine ⟨r, ?_, ?_, hc⟩
        · simp only [spec_l03Find.l0]; rw [if_pos h, if_pos h0, if_neg ht, ew]; exact hs
        · simp only [impl_Case_47.l0]; rw [if_pos h, if_pos h0, if_pos h, ec, if_neg ht, ew]; exact hi
    · refine ⟨-1, ?_, ?_, by omega⟩
      · simp only [spec_l03Find.l0]; rw [if_neg h]
      · simp only [impl_Case_47.l0]; rw [if_neg h]

theorem find_valB (a b : Int) (c d : Bool) (h : (1 ≤ a ∧ a ≤ 13) ∧ (0 ≤ b ∧ b ≤ 2)) (e : Int) (f : Bool) : ∃ l r, spec_l03Find.f 64 a b c d e f = some r ∧ impl_Task_cases.f 64 a b c d = some l ∧ impl_Case_47.f 64 l e f = some r ∧ (r < 0 ∨ (-1 ≤ e ∧ e ≤ 12)) := by
  obtain ⟨l, hs, hi, hn, hb⟩ := lists_valB a b c d h
  obtain ⟨r, h1, h2, h3⟩ := find_sameB l hn e f 27 64 0 (by omega) (by omega) (by omega)
  refine ⟨l, r, ?_, hi, ?_, ?_⟩
  · unfold spec_l03Find.f; rw [hs]; exact h1
  · unfold impl_Case_47.f; exact h2
  · rcases h3 with h3 | ⟨x, hx, he⟩
    · exact Or.inl h3
    · rw [← he]; exact Or.inr (hb x hx)


theorem weigh_both {k : Nat} (h : 15 ≤ k) (a b : Int) (c d : Bool) (ha : (Lit.int .i8 a).wf = true) (hb : (Lit.int .i8 b).wf = true) (ht : (1 ≤ a ∧ a ≤ 13) ∧ (0 ≤ b ∧ b ≤ 2)) (w0 w1 w2 w3 w4 w5 w6 w7 w8 w9 w10 w11 w12 w13 : Int) :
    ∃ r, spec_l03Weighing.f k a b c d w0 w1 w2 w3 w4 w5 w6 w7 w8 w9 w10 w11 w12 w13 = some r ∧ impl_ValidWeighing.f k a b c d w0 w1 w2 w3 w4 w5 w6 w7 w8 w9 w10 w11 w12 w13 = some r := by
  have wa := wf8 ha
  unfold impl_ValidWeighing.f spec_l03Weighing.f
  rw [task_implB a b c d (wn8 ha) (wn8 hb)]
  simp only [Option.bind_some]
  obtain ⟨r, hs, hi⟩ := weigh_sameB a b c d (wn8 ha) (by omega) (by omega) w0 w1 w2 w3 w4 w5 w6 w7 w8 w9 w10 w11 w12 w13 14 k 0 0 (by omega) (by omega) (by omega)
  rw [if_pos (by simpa using ht), hs, hi]
  exact ⟨r, rfl, rfl⟩
end Go.Proofs.Ytcghglembmohcaa.Pure
