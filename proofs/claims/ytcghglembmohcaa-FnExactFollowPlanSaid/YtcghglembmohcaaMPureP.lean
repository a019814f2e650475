/- Plain laws: a plan is valid for the one as for the other. -/
import Derived.Test.YtcghglembmohcaaMPureB
-- IMPORTS
import Derived.Test.YtcghglembmohcaaMx0
import Derived.Test.YtcghglembmohcaaMx7
import Derived.Test.YtcghglembmohcaaHPlan
import Derived.Test.YtcghglembmohcaaHVPlan
namespace Go.Proofs.Ytcghglembmohcaa.Pure
open Go.RowKit Go.Proofs.Ytcghglembmohcaa.M Go.Proofs.YtcghglembmohcaaW.PrintWords Go.Proofs.YtcghglembmohcaaW.PrintLast Go.Proofs.YtcghglembmohcaaW.PrintMore
set_option linter.unusedVariables false
set_option linter.unusedSimpArgs false

theorem plan_l1 (a b : Int) (c d : Bool) (l : List S58) (hl : l.length ≤ 400) (cs : List B.S43) (i : Nat) (hi : i < l.length) (D : Nat)
    (ih : ∀ k, D ≤ k → ∃ r, spec_l03Plan.l0 k l ((i + 1 : Nat) : Int) a b c d = some r ∧ impl_ValidPlan.l0 k l cs ((i + 1 : Nat) : Int) a b c d = some r) :
    ∀ (e k : Nat) (j : Int), 0 ≤ j → 3 - j ≤ e → D + e + 1 ≤ k → ∃ r, spec_l03Plan.l1 k l (i : Int) j a b c d = some r ∧ impl_ValidPlan.l1 k l cs (i : Int) j a b c d = some r := by
  intro e
  induction e with
  | zero =>
    intro k j h0 h1 h2
    obtain ⟨k, rfl⟩ := fuel (show 1 ≤ k by omega)
    simp only [spec_l03Plan.l1, impl_ValidPlan.l1]
    rw [if_neg (by omega), if_neg (by omega), wi (i := (i : Int)) (by omega) (by omega)]
    exact ih k (by omega)
  | succ e ihe =>
    intro k j h0 h1 h2
    obtain ⟨k, rfl⟩ := fuel (show 1 ≤ k by omega)
    simp only [spec_l03Plan.l1, impl_ValidPlan.l1]
    by_cases h : j < 3
    · have wl : wrap64 ((l.length : Int) - 1) = l.length - 1 := by unfold wrap64; omega
      rw [if_pos h, if_pos h0, if_pos h, if_pos h0, wi (i := (i : Int)) (by omega) (by omega), wi h0 (by omega), wl, within_valB]
      generalize wrap64 (rd [(rd_T58 l (i : Int)).f1.f0, (rd_T58 l (i : Int)).f1.f1, (rd_T58 l (i : Int)).f1.f2] j) = v
      simp only [Option.bind_some]
      obtain ⟨r, hs, hm⟩ := ihe k (j + 1) (by omega) (by omega) (by omega)
      rw [hs, hm]
      by_cases cA : v ≤ (i : Int)
      · rw [if_pos cA, decide_eq_false (by omega), if_neg (by simp)]; exact ⟨_, rfl, rfl⟩
      · rw [if_neg cA]
        by_cases cB : v ≥ (l.length : Int)
        · rw [if_pos cB, decide_eq_false (by omega), if_neg (by simp)]; exact ⟨_, rfl, rfl⟩
        · rw [if_neg cB, decide_eq_true (by omega), if_pos rfl]; exact ⟨_, rfl, rfl⟩
    · rw [if_neg h, if_neg h, wi (i := (i : Int)) (by omega) (by omega)]
      exact ih k (by omega)
theorem plan_l0 (a b : Int) (c d : Bool) (ha : (Lit.int .i8 a).wf = true) (hb : (Lit.int .i8 b).wf = true) (ht : (1 ≤ a ∧ a ≤ 13) ∧ (0 ≤ b ∧ b ≤ 2)) (l : List S58) (hl : l.length ≤ 400) (cs : List B.S43) (hcs : B.impl_Task_cases.f 64 a b c d = some cs) :
    ∀ (n i k : Nat), i + n = l.length → 5 * n + 70 ≤ k → ∃ r, spec_l03Plan.l0 k l (i : Int) a b c d = some r ∧ impl_ValidPlan.l0 k l cs (i : Int) a b c d = some r := by
  intro n
  induction n with
  | zero =>
    intro i k h hk
    obtain ⟨k, rfl⟩ := fuel (show 1 ≤ k by omega)
    simp only [spec_l03Plan.l0, impl_ValidPlan.l0]
    rw [if_neg (by omega), if_neg (by omega)]
    exact ⟨_, rfl, rfl⟩
  | succ n ih =>
    intro i k h hk
    obtain ⟨k, rfl⟩ := fuel (show 1 ≤ k by omega)
    have hi : i < l.length := by omega
    simp only [spec_l03Plan.l0, impl_ValidPlan.l0]
    rw [if_pos (show (i : Int) < (l.length : Int) by omega), if_pos (show (0 : Int) ≤ (i : Int) by omega), if_pos (show (i : Int) < (l.length : Int) by omega), if_pos (show (0 : Int) ≤ (i : Int) by omega), wi (i := (i : Int)) (by omega) (by omega)]
    obtain ⟨r0, hs0, hm0⟩ := ih (i + 1) k (by omega) (by omega)
    rw [show ((i + 1 : Nat) : Int) = (i : Int) + 1 by omega] at hs0 hm0
    by_cases c8 : (rd_T58 l (i : Int)).f3 = true
    · rw [if_pos c8, if_pos c8]
      by_cases cP : ((rd_T58 l (i : Int)).f0.f0 == 0 && ((rd_T58 l (i : Int)).f0.f1 == 0 && ((rd_T58 l (i : Int)).f0.f2 == 0 && ((rd_T58 l (i : Int)).f0.f3 == 0 && ((rd_T58 l (i : Int)).f0.f4 == 0 && ((rd_T58 l (i : Int)).f0.f5 == 0 && ((rd_T58 l (i : Int)).f0.f6 == 0 && ((rd_T58 l (i : Int)).f0.f7 == 0 && ((rd_T58 l (i : Int)).f0.f8 == 0 && ((rd_T58 l (i : Int)).f0.f9 == 0 && ((rd_T58 l (i : Int)).f0.f10 == 0 && ((rd_T58 l (i : Int)).f0.f11 == 0 && ((rd_T58 l (i : Int)).f0.f12 == 0 && ((rd_T58 l (i : Int)).f0.f13 == 0)))))))))))))) = true
      · rw [if_pos cP, if_pos cP]
        by_cases cN : ((rd_T58 l (i : Int)).f1.f0 == 0 && ((rd_T58 l (i : Int)).f1.f1 == 0 && ((rd_T58 l (i : Int)).f1.f2 == 0))) = true
        · rw [if_pos cN, if_pos cN]
          obtain ⟨l', q, f1, f2, f3, _⟩ := find_valB a b c d ht (rd_T58 l (i : Int)).f2.f0 (rd_T58 l (i : Int)).f2.f1
          rw [hcs] at f2
          obtain rfl := Option.some.inj f2
          have g1 : B.spec_l03Find.f k a b c d (rd_T58 l (i : Int)).f2.f0 (rd_T58 l (i : Int)).f2.f1 = some q := up_ (F := fun k => B.spec_l03Find.f k a b c d (rd_T58 l (i : Int)).f2.f0 (rd_T58 l (i : Int)).f2.f1) (fun k => B.spec_l03Find.mono _ _ _ _ _ _ k) (by omega) f1
          have g3 : B.impl_Case_47.f k cs (rd_T58 l (i : Int)).f2.f0 (rd_T58 l (i : Int)).f2.f1 = some q := up_ (F := fun k => B.impl_Case_47.f k cs (rd_T58 l (i : Int)).f2.f0 (rd_T58 l (i : Int)).f2.f1) (fun k => B.impl_Case_47.mono _ _ _ k) (by omega) f3
          unfold B.impl_Case_35.f
          rw [g1, g3]
          simp only [Option.bind_some]
          by_cases cq : q < 0
          · rw [if_pos cq, if_neg (by simp; omega)]; exact ⟨_, rfl, rfl⟩
          · rw [if_neg cq, if_pos (by simp; omega)]; exact ⟨_, hs0, hm0⟩
        · rw [if_neg cN, if_neg cN]; exact ⟨_, rfl, rfl⟩
      · rw [if_neg cP, if_neg cP]; exact ⟨_, rfl, rfl⟩
    · rw [if_neg c8, if_neg c8]
      obtain ⟨w, g1, g2⟩ := weigh_both (k := k) (by omega) a b c d ha hb ht ((rd_T58 l (i : Int)).f0.f0) ((rd_T58 l (i : Int)).f0.f1) ((rd_T58 l (i : Int)).f0.f2) ((rd_T58 l (i : Int)).f0.f3) ((rd_T58 l (i : Int)).f0.f4) ((rd_T58 l (i : Int)).f0.f5) ((rd_T58 l (i : Int)).f0.f6) ((rd_T58 l (i : Int)).f0.f7) ((rd_T58 l (i : Int)).f0.f8) ((rd_T58 l (i : Int)).f0.f9) ((rd_T58 l (i : Int)).f0.f10) ((rd_T58 l (i : Int)).f0.f11) ((rd_T58 l (i : Int)).f0.f12) ((rd_T58 l (i : Int)).f0.f13)
      obtain ⟨r, hs, hm⟩ := plan_l1 a b c d l hl cs i hi (5 * n + 70) (fun k hk => ih (i + 1) k (by omega) hk) 3 k 0 (by omega) (by omega) (by omega)
      by_cases cP : ((rd_T58 l (i : Int)).f0.f0 == 0 && ((rd_T58 l (i : Int)).f0.f1 == 0 && ((rd_T58 l (i : Int)).f0.f2 == 0 && ((rd_T58 l (i : Int)).f0.f3 == 0 && ((rd_T58 l (i : Int)).f0.f4 == 0 && ((rd_T58 l (i : Int)).f0.f5 == 0 && ((rd_T58 l (i : Int)).f0.f6 == 0 && ((rd_T58 l (i : Int)).f0.f7 == 0 && ((rd_T58 l (i : Int)).f0.f8 == 0 && ((rd_T58 l (i : Int)).f0.f9 == 0 && ((rd_T58 l (i : Int)).f0.f10 == 0 && ((rd_T58 l (i : Int)).f0.f11 == 0 && ((rd_T58 l (i : Int)).f0.f12 == 0 && ((rd_T58 l (i : Int)).f0.f13 == 0)))))))))))))) = true
      · rw [if_pos cP, if_pos cP]
        by_cases cT : ((rd_T58 l (i : Int)).f2.f0 == 0 && !(rd_T58 l (i : Int)).f2.f1) = true
        · rw [if_pos cT]; exact ⟨_, rfl, rfl⟩
        · rw [if_neg cT]; exact ⟨_, rfl, rfl⟩
      · rw [if_neg cP, if_neg cP, g1, g2]
        simp only [Option.bind_some]
        by_cases cT : ((rd_T58 l (i : Int)).f2.f0 == 0 && !(rd_T58 l (i : Int)).f2.f1) = true
        · rw [if_pos cT, if_pos cT]
          cases w with
          | false => exact ⟨_, rfl, rfl⟩
          | true => rw [if_pos rfl, if_pos rfl]; exact ⟨_, hs, hm⟩
        · rw [if_neg cT, if_neg cT]
          cases w with
          | false => exact ⟨_, rfl, rfl⟩
          | true => exact ⟨_, rfl, rfl⟩
theorem in_val (a b c : Int) : spec_l00In.f a b c = some (decide (b ≤ a ∧ a ≤ c)) := by
  unfold spec_l00In.f
  by_cases h : a ≥ b
  · rw [if_pos h]; simp [show b ≤ a from h]
  · rw [if_neg h]; simp [show ¬ b ≤ a from h]
theorem ok_val (a b : Int) (c d : Bool) (ha : wrap64 a = a) (hb : wrap64 b = b) : spec_l03Ok.f a b c d = some (decide ((1 ≤ a ∧ a ≤ 13) ∧ (0 ≤ b ∧ b ≤ 2))) := by
  unfold spec_l03Ok.f
  rw [ha, hb, in_val, in_val]
  by_cases h : 1 ≤ a ∧ a ≤ 13 <;> simp [h]
theorem valid_both (a b : Int) (c d : Bool) (ha : (Lit.int .i8 a).wf = true) (hb : (Lit.int .i8 b).wf = true) (l : List S58) (k : Nat) (hk : 5 * l.length + 90 ≤ k) :
    ∃ r, spec_ValidPlan.f k a b c d l = some r ∧ impl_ValidPlan.f k a b c d l = some r := by
  unfold spec_ValidPlan.f impl_ValidPlan.f
  rw [ok_val a b c d (wn8 ha) (wn8 hb), task_implB a b c d (wn8 ha) (wn8 hb)]
  simp only [Option.bind_some]
  by_cases ht : (1 ≤ a ∧ a ≤ 13) ∧ (0 ≤ b ∧ b ≤ 2)
  · rw [if_pos (by simpa using ht), if_pos (by simpa using ht)]
    unfold spec_l03Plan.f
    rw [in_valB, within_valB]
    simp only [Option.bind_some]
    by_cases hl : 1 ≤ (l.length : Int) ∧ (l.length : Int) ≤ 400
    · rw [decide_eq_true hl, if_pos rfl, if_pos rfl]
      obtain ⟨cs, _, f2, _⟩ := lists_valB a b c d ht
      have g2 : B.impl_Task_cases.f k a b c d = some cs := up_ (F := fun k => B.impl_Task_cases.f k a b c d) (fun k => B.impl_Task_cases.mono _ _ _ _ k) (by omega) f2
      rw [g2]
      simp only [Option.bind_some]
      obtain ⟨r, hs, hm⟩ := plan_l0 a b c d ha hb ht l (by omega) cs f2 l.length 0 k (by omega) (by omega)
      rw [show ((0 : Nat) : Int) = 0 from rfl] at hs hm
      rw [hs, hm]
      exact ⟨_, rfl, rfl⟩
    · rw [decide_eq_false hl]; exact ⟨false, rfl, rfl⟩
  · rw [if_neg (by simpa using ht), if_neg (by simpa using ht)]
    exact ⟨false, rfl, rfl⟩
end Go.Proofs.Ytcghglembmohcaa.Pure
