/- Plain laws of the cases of a task: found by both in the same place. -/
import Derived.Test.YtajbeamkjoeifaaMPureC
-- IMPORTS
import Derived.Test.YtajbeamkjoeifaaMx0
import Derived.Test.YtajbeamkjoeifaaMx8
import Derived.Test.YtajbeamkjoeifaaMx10
import Derived.Test.YtajbeamkjoeifaaMx12
namespace Go.Proofs.Ytajbeamkjoeifaa.Pure
open Go.RowKit Go.Proofs.Ytajbeamkjoeifaa.M Go.Proofs.YtajbeamkjoeifaaW.PrintWords Go.Proofs.YtajbeamkjoeifaaW.PrintLast Go.Proofs.YtajbeamkjoeifaaW.PrintMore
set_option linter.unusedVariables false
set_option linter.unusedSimpArgs false

theorem lists_all : ∀ (c : Fin 13) (k : Fin 3) (n g : Bool), (spec_l03Cases.f 64 ((c.val : Int) + 1) (k.val : Int) n g).isSome = true ∧ (spec_l03Cases.f 64 ((c.val : Int) + 1) (k.val : Int) n g).map (fun l => l.map fun x => (x.f0, x.f1)) = (impl_Task_cases.f 64 ((c.val : Int) + 1) (k.val : Int) n g).map (fun l => l.map fun x => (x.f0, x.f1)) ∧ ((spec_l03Cases.f 64 ((c.val : Int) + 1) (k.val : Int) n g).getD []).length ≤ 27 ∧ (((spec_l03Cases.f 64 ((c.val : Int) + 1) (k.val : Int) n g).getD []).all fun x => decide (-1 ≤ x.f0 ∧ x.f0 ≤ 12)) = true := by decide +kernel

theorem eq_of_pairs : ∀ (l m : List S40), l.map (fun x => (x.f0, x.f1)) = m.map (fun x => (x.f0, x.f1)) → l = m := by
  intro l
  induction l with
  | nil => intro m h; cases m <;> simp_all
  | cons x l ih =>
    intro m h
    cases m with
    | nil => simp at h
    | cons y m =>
      simp only [List.map_cons, List.cons.injEq, Prod.mk.injEq] at h
      obtain ⟨⟨h1, h2⟩, h3⟩ := h
      rw [ih m h3]
      cases x; cases y; simp_all

theorem lists_val (a b : Int) (c d : Bool) (h : (1 ≤ a ∧ a ≤ 13) ∧ (0 ≤ b ∧ b ≤ 2)) : ∃ l, spec_l03Cases.f 64 a b c d = some l ∧ impl_Task_cases.f 64 a b c d = some l ∧ l.length ≤ 27 ∧ ∀ x ∈ l, -1 ≤ x.f0 ∧ x.f0 ≤ 12 := by
  obtain ⟨a1, a2, a3, a4⟩ := lists_all ⟨(a - 1).toNat, by omega⟩ ⟨b.toNat, by omega⟩ c d
  simp only [] at a1 a2 a3 a4
  rw [show (((a - 1).toNat : Nat) : Int) + 1 = a by omega, show ((b.toNat : Nat) : Int) = b by omega] at a1 a2 a3 a4
  obtain ⟨l, hl⟩ := Option.isSome_iff_exists.1 a1
  rw [hl] at a2 a3 a4
  obtain ⟨m, hm, hm2⟩ := Option.map_eq_some_iff.1 a2.symm
  have e := eq_of_pairs _ _ hm2
  subst e
  refine ⟨m, hl, hm, a3, ?_⟩
  intro x hx
  simpa using List.all_eq_true.1 a4 x hx

theorem rd_mem (l : List S40) {i : Int} (h0 : 0 ≤ i) (h1 : i < l.length) : rd_T40 l i ∈ l := by
  unfold rd_T40
  have hl : i.toNat < l.length := by omega
  simp [List.getD, hl]

theorem find_same (l : List S40) (hl : l.length ≤ 27) (c : Int) (b : Bool) : ∀ (d k : Nat) (i : Int), 0 ≤ i → (l.length : Int) - i ≤ d → d < k →
    ∃ r, spec_l03Find.l0 k l i c b = some r ∧ impl_Case_59.l0 k l l.length i c b = some r ∧ (r < 0 ∨ ∃ x ∈ l, x.f0 = c) := by
  intro d
  induction d with
  | zero =>
    intro k i h0 h1 h2
    obtain ⟨k, rfl⟩ : ∃ m, k = m + 1 := ⟨k - 1, by omega⟩
    refine ⟨-1, ?_, ?_, by omega⟩
    · simp only [spec_l03Find.l0]; rw [if_neg (by omega)]
    · simp only [impl_Case_59.l0]; rw [if_neg (by omega)]
  | succ d ih =>
    intro k i h0 h1 h2
    obtain ⟨k, rfl⟩ : ∃ m, k = m + 1 := ⟨k - 1, by omega⟩
    by_cases h : i < (l.length : Int)
    · have ew : wrap64 (i + 1) = i + 1 := by unfold wrap64; omega
      have ec : (c == (rd_T40 l i).f0 && (b == (rd_T40 l i).f1)) = ((rd_T40 l i).f0 == c && ((rd_T40 l i).f1 == b)) := by
        rw [Bool.eq_iff_iff]; simp only [Bool.and_eq_true, beq_iff_eq]; exact ⟨fun ⟨h1, h2⟩ => ⟨h1.symm, h2.symm⟩, fun ⟨h1, h2⟩ => ⟨h1.symm, h2.symm⟩⟩
      obtain ⟨r, hs, hi, hc⟩ := ih k (i + 1) (by omega) (by omega) (by omega)
      by_cases ht : ((rd_T40 l i).f0 == c && ((rd_T40 l i).f1 == b)) = true
      · refine ⟨i, ?_, ?_, Or.inr ⟨_, rd_mem l h0 h, ?_⟩⟩
        · simp only [spec_l03Find.l0]; rw [if_pos h, if_pos h0, if_pos ht]
        · simp only [impl_Case_59.l0]; rw [if_pos h, if_pos h0, if_pos h, ec, if_pos ht]
        · simp only [Bool.and_eq_true, beq_iff_eq] at ht; exact ht.1
      · refine ⟨r, ?_, ?_, hc⟩
        · simp only [spec_l03Find.l0]; rw [if_pos h, if_pos h0, if_neg ht, ew]; exact hs
        · simp only [impl_Case_59.l0]; rw [if_pos h, if_pos h0, if_pos h, ec, if_neg ht, ew]; exact hi
    · refine ⟨-1, ?_, ?_, by omega⟩
      · simp only [spec_l03Find.l0]; rw [if_neg h]
      · simp only [impl_Case_59.l0]; rw [if_neg h]

theorem find_val (a b : Int) (c d : Bool) (h : (1 ≤ a ∧ a ≤ 13) ∧ (0 ≤ b ∧ b ≤ 2)) (e : Int) (f : Bool) : ∃ l r, spec_l03Find.f 64 a b c d e f = some r ∧ impl_Task_cases.f 64 a b c d = some l ∧ impl_Case_59.f 64 l e f = some r ∧ (r < 0 ∨ (-1 ≤ e ∧ e ≤ 12)) := by
  obtain ⟨l, hs, hi, hn, hb⟩ := lists_val a b c d h
  obtain ⟨r, h1, h2, h3⟩ := find_same l hn e f 27 64 0 (by omega) (by omega) (by omega)
  refine ⟨l, r, ?_, hi, ?_, ?_⟩
  · unfold spec_l03Find.f; rw [hs]; exact h1
  · unfold impl_Case_59.f; exact h2
  · rcases h3 with h3 | ⟨x, hx, he⟩
    · exact Or.inl h3
    · rw [← he]; exact Or.inr (hb x hx)

end Go.Proofs.Ytajbeamkjoeifaa.Pure
