/- The program's FindCase answers as the reference's. Conditions: none. -/
import Derived.Test.YtajbeamkjoeifaaPFnExactFindCasex4
namespace Go.Proofs.Ytajbeamkjoeifaa.Pure
open Go.RowKit Go.Proofs.Ytajbeamkjoeifaa.PFnExactFindCase Go.Proofs.YtajbeamkjoeifaaW.PrintWords Go.Proofs.YtajbeamkjoeifaaW.PrintLast
set_option linter.unusedVariables false

theorem within_same (a b c : Int) : impl_within.f a b c = spec_l00In.f a b c := by
  unfold impl_within.f spec_l00In.f
  simp only [ge_iff_le]

theorem in_some (a b c : Int) : spec_l00In.f a b c = some (decide (b ≤ a ∧ a ≤ c)) := by
  unfold spec_l00In.f
  by_cases h : a ≥ b
  · rw [if_pos h]; simp [show b ≤ a from h]
  · rw [if_neg h]; simp [show ¬ b ≤ a from h]

theorem w8 {a : Int} (h : (Lit.int .i8 a).wf = true) : wrap64 a = a := by
  have h' : IntKind.i8.min ≤ a ∧ a ≤ IntKind.i8.max := by simpa [Lit.wf] using h
  have : -128 ≤ a ∧ a ≤ 127 := h'
  unfold wrap64; omega

theorem task_val (a b : Int) (c d : Bool) (ha : wrap64 a = a) (hb : wrap64 b = b) : spec_l03Ok.f a b c d = some (decide ((1 ≤ a ∧ a ≤ 13) ∧ (0 ≤ b ∧ b ≤ 2))) ∧ impl_ValidTask.f a b c d = some (decide ((1 ≤ a ∧ a ≤ 13) ∧ (0 ≤ b ∧ b ≤ 2))) := by
  unfold spec_l03Ok.f impl_ValidTask.f impl_isKind.f
  simp only [within_same, in_some, ha, hb, Option.bind_some]
  by_cases h : 1 ≤ a ∧ a ≤ 13 <;> simp [h]

theorem lists_all : ∀ (c : Fin 13) (k : Fin 3) (n g : Bool), (spec_l03Cases.f 64 ((c.val : Int) + 1) (k.val : Int) n g).isSome = true ∧ (spec_l03Cases.f 64 ((c.val : Int) + 1) (k.val : Int) n g).map (fun l => l.map fun x => (x.f0, x.f1)) = (impl_Task_cases.f 64 ((c.val : Int) + 1) (k.val : Int) n g).map (fun l => l.map fun x => (x.f0, x.f1)) ∧ ((spec_l03Cases.f 64 ((c.val : Int) + 1) (k.val : Int) n g).getD []).length ≤ 27 := by decide +kernel

theorem eq_of_pairs : ∀ (l m : List S40), l.map (fun x => (x.f0, x.f1)) = m.map (fun x => (x.f0, x.f1)) → l = m := by
  intro l
  induction l with
  | nil => intro m h; cases m <;> simp_all
  | cons x l ih =>
    intro m h
    cases m with
    | nil => simp at h
    | cons y m =>
      simp only [List.map_cons, List.cons.injEq, Prod.mk.injEq] at h
      obtain ⟨⟨h1, h2⟩, h3⟩ := h
      rw [ih m h3]
      cases x; cases y; simp_all

theorem find_same (l : List S40) (hl : l.length ≤ 27) (c : Int) (b : Bool) : ∀ (d k : Nat) (i : Int), 0 ≤ i → (l.length : Int) - i ≤ d → d < k →
    ∃ r, spec_l03Find.l0 k l i c b = some r ∧ impl_Case.l0 k l l.length i c b = some r := by
  intro d
  induction d with
  | zero =>
    intro k i h0 h1 h2
    obtain ⟨k, rfl⟩ : ∃ m, k = m + 1 := ⟨k - 1, by omega⟩
    refine ⟨-1, ?_, ?_⟩
    · simp only [spec_l03Find.l0]; rw [if_neg (by omega)]
    · simp only [impl_Case.l0]; rw [if_neg (by omega)]
  | succ d ih =>
    intro k i h0 h1 h2
    obtain ⟨k, rfl⟩ : ∃ m, k = m + 1 := ⟨k - 1, by omega⟩
    by_cases h : i < (l.length : Int)
    · have ew : wrap64 (i + 1) = i + 1 := by unfold wrap64; omega
      have ec : (c == (rd_T40 l i).f0 && (b == (rd_T40 l i).f1)) = ((rd_T40 l i).f0 == c && ((rd_T40 l i).f1 == b)) := by
        rw [Bool.eq_iff_iff]; simp only [Bool.and_eq_true, beq_iff_eq]; exact ⟨fun ⟨h1, h2⟩ => ⟨h1.symm, h2.symm⟩, fun ⟨h1, h2⟩ => ⟨h1.symm, h2.symm⟩⟩
      obtain ⟨r, hs, hi⟩ := ih k (i + 1) (by omega) (by omega) (by omega)
      by_cases ht : ((rd_T40 l i).f0 == c && ((rd_T40 l i).f1 == b)) = true
      · refine ⟨i, ?_, ?_⟩
        · simp only [spec_l03Find.l0]; rw [if_pos h, if_pos h0, if_pos ht]
        · simp only [impl_Case.l0]; rw [if_pos h, if_pos h0, if_pos h, ec, if_pos ht]
      · refine ⟨r, ?_, ?_⟩
        · simp only [spec_l03Find.l0]; rw [if_pos h, if_pos h0, if_neg ht, ew]; exact hs
        · simp only [impl_Case.l0]; rw [if_pos h, if_pos h0, if_pos h, ec, if_neg ht, ew]; exact hi
    · refine ⟨-1, ?_, ?_⟩
      · simp only [spec_l03Find.l0]; rw [if_neg h]
      · simp only [impl_Case.l0]; rw [if_neg h]

theorem FnExactFindCase (x0_0 : Int) (x0_1 : Int) (x0_2 : Bool) (x0_3 : Bool) (x1_0 : Int) (x1_1 : Bool) (w0_0 : (fun x : Int => (Lit.int .i8 x).wf = true) x0_0) (w0_1 : (fun x : Int => (Lit.int .i8 x).wf = true) x0_1) (w1_0 : (fun x : Int => (Lit.int .i8 x).wf = true) x1_0) : ∃ k, laws_FnExactFindCase.f k x0_0 x0_1 x0_2 x0_3 x1_0 x1_1 = some true := by
  refine ⟨64, ?_⟩
  obtain ⟨h1, h2⟩ := task_val x0_0 x0_1 x0_2 x0_3 (w8 w0_0) (w8 w0_1)
  have hsame : ∃ r, spec_FindCase.f 64 x0_0 x0_1 x0_2 x0_3 x1_0 x1_1 = some r ∧ impl_FindCase.f 64 x0_0 x0_1 x0_2 x0_3 x1_0 x1_1 = some r := by
    by_cases h : (1 ≤ x0_0 ∧ x0_0 ≤ 13) ∧ (0 ≤ x0_1 ∧ x0_1 ≤ 2)
    · rw [decide_eq_true h] at h1 h2
      obtain ⟨a1, a2, a3⟩ := lists_all ⟨(x0_0 - 1).toNat, by omega⟩ ⟨x0_1.toNat, by omega⟩ x0_2 x0_3
      rw [show (((x0_0 - 1).toNat : Nat) : Int) + 1 = x0_0 by omega, show ((x0_1.toNat : Nat) : Int) = x0_1 by omega] at a1 a2 a3
      obtain ⟨l, hl⟩ := Option.isSome_iff_exists.1 a1
      rw [hl] at a2 a3
      obtain ⟨m, hm, hm2⟩ := Option.map_eq_some_iff.1 a2.symm
      have e := eq_of_pairs _ _ hm2
      subst e
      obtain ⟨r, hs, hi⟩ := find_same m a3 x1_0 x1_1 27 64 0 (by omega) (by simp at a3; omega) (by omega)
      have hs' : spec_l03Find.f 64 x0_0 x0_1 x0_2 x0_3 x1_0 x1_1 = some r := by
        unfold spec_l03Find.f; rw [hl]; exact hs
      have hi' : impl_Case.f 64 m x1_0 x1_1 = some r := hi
      by_cases hr : r < 0
      · refine ⟨(0, 6), ?_, ?_⟩
        · unfold spec_FindCase.f; rw [h1]; simp only [Option.bind_some, if_true]; rw [hs']; simp only [Option.bind_some]; rw [if_pos hr]
        · unfold impl_FindCase.f; rw [h2]; simp only [Option.bind_some, if_true]; rw [hm]; simp only [Option.bind_some]; rw [hi']; simp only [Option.bind_some]; rw [if_pos hr]
      · refine ⟨(r, 0), ?_, ?_⟩
        · unfold spec_FindCase.f; rw [h1]; simp only [Option.bind_some, if_true]; rw [hs']; simp only [Option.bind_some]; rw [if_neg hr]
        · unfold impl_FindCase.f; rw [h2]; simp only [Option.bind_some, if_true]; rw [hm]; simp only [Option.bind_some]; rw [hi']; simp only [Option.bind_some]; rw [if_neg hr]
    · rw [decide_eq_false h] at h1 h2
      refine ⟨(0, 1), ?_, ?_⟩
      · unfold spec_FindCase.f; rw [h1]; simp
      · unfold impl_FindCase.f; rw [h2]; simp
  obtain ⟨r, hs, hi⟩ := hsame
  unfold laws_FnExactFindCase.f laws_toTask.f laws_toCase.f
  simp only [Option.bind_some]
  rw [hs, hi]
  simp

end Go.Proofs.Ytajbeamkjoeifaa.Pure
