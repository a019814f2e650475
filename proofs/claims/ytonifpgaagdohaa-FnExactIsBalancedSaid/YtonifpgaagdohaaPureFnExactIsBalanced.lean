/- The program's IsBalanced returns what the reference's returns. Conditions: none. -/
import Derived.Test.YtonifpgaagdohaaMPureV
-- IMPORTS
import Derived.Test.YtonifpgaagdohaaMx0
import Derived.Test.YtonifpgaagdohaaMx13
import Derived.Test.YtonifpgaagdohaaMx14
import Derived.Test.YtonifpgaagdohaaMx15
namespace Go.Proofs.Ytonifpgaagdohaa.Pure
open Go.RowKit Go.Proofs.Ytonifpgaagdohaa.M Go.Proofs.YtonifpgaagdohaaW.PrintWords Go.Proofs.YtonifpgaagdohaaW.PrintLast Go.Proofs.YtonifpgaagdohaaW.PrintMore
set_option linter.unusedVariables false
set_option linter.unusedSimpArgs false

/-- The sum of the letters at place i, as both compute it. -/
def gl (i : Int) (x : S40) : Int := rd [x.f0, x.f1, x.f2, x.f3] i
def sumL (i : Int) (s : Int) (l : List S40) : Int := l.foldl (fun s x => wrap64 (s + wrap64 (gl i x))) s
theorem sumL_cons (i s : Int) (x : S40) (l : List S40) : sumL i s (x :: l) = sumL i (wrap64 (s + wrap64 (gl i x))) l := rfl
theorem sumL_zero (i : Int) (l : List S40) (h : ∀ x ∈ l, gl i x = 0) : sumL i 0 l = 0 := by
  induction l with
  | nil => rfl
  | cons x l ih =>
    rw [sumL_cons, h x (by simp), show wrap64 (0 + wrap64 0) = 0 by decide +kernel]
    exact ih fun y hy => h y (by simp [hy])

theorem bal_l1 (p q i : Int) (h0 : 0 ≤ i) (h4 : i < 4) (l : List S40) (hl : l.length ≤ 1048576) : ∀ (suf pre : List S40) (m : Nat) (s : Int), l = pre ++ suf →
    spec_l04Balanced.l1 (m + suf.length + 1) i s (pre.length : Int) p q l = if sumL i s suf = 0 then spec_l04Balanced.l0 m (IntKind.i8.wrap (i + 1)) p q l else some false := by
  intro suf
  induction suf with
  | nil =>
    intro pre m s h
    simp only [List.append_nil] at h
    simp only [spec_l04Balanced.l1, List.length_nil, Nat.add_zero]
    rw [h, if_neg (by omega)]; rfl
  | cons x suf ih =>
    intro pre m s h
    have hn : l.length = pre.length + (suf.length + 1) := by rw [h]; simp
    have e : rd_T40 l (pre.length : Int) = x := by rw [h]; exact rdw_pre pre x suf
    have := ih (pre ++ [x]) m (wrap64 (s + wrap64 (gl i x))) (by simp [h])
    rw [sumL_cons, ← this, show m + (x :: suf).length + 1 = (m + suf.length + 1) + 1 by simp; omega]
    conv => lhs; unfold spec_l04Balanced.l1
    rw [if_pos (by omega), if_pos (by omega), if_pos h0, if_pos h4, e, wi (i := (pre.length : Int)) (by omega) (by omega), show (pre.length : Int) + 1 = ((pre ++ [x]).length : Int) by simp]
    rfl
theorem bal_l0 (p q i : Int) (h0 : 0 ≤ i) (h4 : i < 4) (l : List S40) (hl : l.length ≤ 1048576) (m : Nat) :
    spec_l04Balanced.l0 (m + l.length + 2) i p q l = if i < p then (if sumL i 0 l = 0 then spec_l04Balanced.l0 m (IntKind.i8.wrap (i + 1)) p q l else some false) else some true := by
  have := bal_l1 p q i h0 h4 l hl l [] m 0 rfl
  rw [show (([] : List S40).length : Int) = 0 from rfl] at this
  rw [show m + l.length + 2 = (m + l.length + 1) + 1 from rfl]
  conv => lhs; unfold spec_l04Balanced.l0
  rw [this]
theorem bal_end (p q i : Int) (h : ¬ i < p) (l : List S40) (m : Nat) : spec_l04Balanced.l0 (m + 1) i p q l = some true := by
  simp only [spec_l04Balanced.l0]; rw [if_neg h]

theorem bali_l1 (l : List S40) (n j a b c d s0 s1 s2 s3 : Int) (m : Nat) :
    impl_Fixed_isBalanced.l1 (m + 5) l n j 0 a b c d s0 s1 s2 s3 = impl_Fixed_isBalanced.l0 m l n (wrap64 (j + 1)) (wrap64 (s0 + wrap64 a)) (wrap64 (s1 + wrap64 b)) (wrap64 (s2 + wrap64 c)) (wrap64 (s3 + wrap64 d)) := by
  simp [impl_Fixed_isBalanced.l1, aup, rd, show wrap64 1 = 1 by decide +kernel, show wrap64 2 = 2 by decide +kernel, show wrap64 3 = 3 by decide +kernel, show wrap64 4 = 4 by decide +kernel]
theorem bali_l0 (l : List S40) (hl : l.length ≤ 1048576) : ∀ (suf pre : List S40) (m : Nat) (s0 s1 s2 s3 : Int), l = pre ++ suf →
    impl_Fixed_isBalanced.l0 (m + 6 * suf.length + 1) l (l.length : Int) (pre.length : Int) s0 s1 s2 s3 = some (sumL 0 s0 suf == 0 && (sumL 1 s1 suf == 0 && (sumL 2 s2 suf == 0 && (sumL 3 s3 suf == 0)))) := by
  intro suf
  induction suf with
  | nil =>
    intro pre m s0 s1 s2 s3 h
    simp only [List.append_nil] at h
    simp only [impl_Fixed_isBalanced.l0]
    rw [h, if_neg (by omega)]; rfl
  | cons x suf ih =>
    intro pre m s0 s1 s2 s3 h
    have hn : l.length = pre.length + (suf.length + 1) := by rw [h]; simp
    have e : rd_T40 l (pre.length : Int) = x := by rw [h]; exact rdw_pre pre x suf
    have := ih (pre ++ [x]) m (wrap64 (s0 + wrap64 (gl 0 x))) (wrap64 (s1 + wrap64 (gl 1 x))) (wrap64 (s2 + wrap64 (gl 2 x))) (wrap64 (s3 + wrap64 (gl 3 x))) (by simp [h])
    rw [sumL_cons, sumL_cons, sumL_cons, sumL_cons, ← this, show m + 6 * (x :: suf).length + 1 = ((m + 6 * suf.length + 1) + 5) + 1 by simp; omega]
    conv => lhs; unfold impl_Fixed_isBalanced.l0
    rw [if_pos (by omega), if_pos (by omega), if_pos (by omega), e, bali_l1, wi (i := (pre.length : Int)) (by omega) (by omega), show (pre.length : Int) + 1 = ((pre ++ [x]).length : Int) by simp]
    rfl

theorem far_zero (p i : Int) (l : List S40) (h : okL p l = true) (hi : i = 0 ∨ i = 1 ∨ i = 2 ∨ i = 3) (hp : p ≤ i) : sumL i 0 l = 0 := by
  refine sumL_zero i l fun x hx => ?_
  have hw : okW p x.f0 x.f1 x.f2 x.f3 = true := List.all_eq_true.1 h x hx
  simp only [okW, gW, Bool.and_eq_true, decide_eq_true_eq] at hw
  obtain ⟨⟨_, _, g0⟩, ⟨_, _, g1⟩, ⟨_, _, g2⟩, ⟨_, _, g3⟩⟩ := hw
  rcases hi with rfl | rfl | rfl | rfl
  · exact g0 hp
  · exact g1 hp
  · exact g2 hp
  · exact g3 hp

theorem bal_val {k : Nat} (p q : Int) (l : List S40) (hl : l.length ≤ 1048576) (hp : 1 ≤ p ∧ p ≤ 4) (h : okL p l = true) (hk : 6 * l.length + 20 ≤ k) :
    ∃ r, spec_l04Balanced.f k p q l = some r ∧ impl_Fixed_isBalanced.f k p q l = some r := by
  have w1 : IntKind.i8.wrap (0 + 1) = 1 := by decide +kernel
  have w2 : IntKind.i8.wrap (1 + 1) = 2 := by decide +kernel
  have w3 : IntKind.i8.wrap (2 + 1) = 3 := by decide +kernel
  have w4 : IntKind.i8.wrap (3 + 1) = 4 := by decide +kernel
  have z := fun i hi hp => far_zero p i l h hi hp
  refine ⟨(sumL 0 0 l == 0 && (sumL 1 0 l == 0 && (sumL 2 0 l == 0 && (sumL 3 0 l == 0)))), ?_, ?_⟩
  · unfold spec_l04Balanced.f
    obtain ⟨m, rfl⟩ : ∃ m, k = (((m + 1 + l.length + 2) + l.length + 2) + l.length + 2) + l.length + 2 := ⟨k - (4 * l.length + 9), by omega⟩
    rw [bal_l0 p q 0 (by omega) (by omega) l hl, w1, bal_l0 p q 1 (by omega) (by omega) l hl, w2, bal_l0 p q 2 (by omega) (by omega) l hl, w3, bal_l0 p q 3 (by omega) (by omega) l hl, w4, bal_end p q 4 (by omega)]
    rw [if_pos (show (0 : Int) < p by omega)]
    by_cases e0 : sumL 0 0 l = 0
    · rw [if_pos e0]
      by_cases h1 : (1 : Int) < p
      · rw [if_pos h1]
        by_cases e1 : sumL 1 0 l = 0
        · rw [if_pos e1]
          by_cases h2 : (2 : Int) < p
          · rw [if_pos h2]
            by_cases e2 : sumL 2 0 l = 0
            · rw [if_pos e2]
              by_cases h3 : (3 : Int) < p
              · rw [if_pos h3]
                by_cases e3 : sumL 3 0 l = 0
                · rw [if_pos e3]; simp [e0, e1, e2, e3]
                · rw [if_neg e3]; simp [e3]
              · rw [if_neg h3]; simp [e0, e1, e2, z 3 (by simp) (by omega)]
            · rw [if_neg e2]; simp [e2]
          · rw [if_neg h2]; simp [e0, e1, z 2 (by simp) (by omega), z 3 (by simp) (by omega)]
        · rw [if_neg e1]; simp [e1]
      · rw [if_neg h1]; simp [e0, z 1 (by simp) (by omega), z 2 (by simp) (by omega), z 3 (by simp) (by omega)]
    · rw [if_neg e0]; simp [e0]
  · unfold impl_Fixed_isBalanced.f
    obtain ⟨m, rfl⟩ : ∃ m, k = m + 6 * l.length + 1 := ⟨k - (6 * l.length + 1), by omega⟩
    exact bali_l0 l hl l [] m 0 0 0 0 rfl

theorem FnExactIsBalanced (x0_0 : Int) (x0_1 : Int) (x0_2 : (List S37)) (w0_0 : (fun x : Int => (Lit.int .i8 x).wf = true) x0_0) (w0_1 : (fun x : Int => (Lit.int .i8 x).wf = true) x0_1) (w0_2 : (fun xs : List S37 => xs.length ≤ maxLen ∧ ∀ x ∈ xs, (fun x : S37 => (fun x : Int => (Lit.int .i8 x).wf = true) x.f0 ∧ (fun x : Int => (Lit.int .i8 x).wf = true) x.f1 ∧ (fun x : Int => (Lit.int .i8 x).wf = true) x.f2 ∧ (fun x : Int => (Lit.int .i8 x).wf = true) x.f3) x) x0_2) : ∃ k, laws_FnExactIsBalanced.f k x0_0 x0_1 x0_2 = some true := by
  refine ⟨6 * x0_2.length + 30, ?_⟩
  have hk : ∃ k, k = 6 * x0_2.length + 30 := ⟨_, rfl⟩
  obtain ⟨k, hk⟩ := hk
  rw [← hk]
  unfold laws_FnExactIsBalanced.f
  rw [szFixed_val x0_0 x0_1 x0_2 w0_2.1 1048576 (by omega) (by omega)]
  simp only [Option.bind_some]
  by_cases e0 : (1048576 : Int) - (x0_2.length : Int) < 0
  · rw [if_pos e0]; rfl
  · rw [if_neg e0, if_neg e0, toFixed_val x0_0 x0_1 x0_2 (by omega) (by omega)]
    simp only [Option.bind_some]
    have h1 : ∃ t, spec_IsBalanced.f k x0_0 x0_1 (x0_2.map cv) = some t ∧ impl_IsBalanced.f k x0_0 x0_1 (x0_2.map cv) = some t := by
      unfold spec_IsBalanced.f impl_IsBalanced.f
      rw [valid_spec x0_0 x0_1 (x0_2.map cv) (wn8 w0_0) (wn8 w0_1) (by simp; omega) (by simp; omega), valid_impl x0_0 x0_1 (x0_2.map cv) (wn8 w0_0) (wn8 w0_1) (by simp; omega) (by simp; omega)]
      simp only [Option.bind_some]
      cases hf : okF x0_0 x0_1 (x0_2.map cv)
      · exact ⟨(false, 1), rfl, rfl⟩
      · simp only [okF, Bool.and_eq_true, decide_eq_true_eq] at hf
        obtain ⟨r, g1, g2⟩ := bal_val (k := k) x0_0 x0_1 (x0_2.map cv) (by simp; omega) hf.1 hf.2.2.2 (by simp; omega)
        rw [g1, g2]
        exact ⟨(r, 0), rfl, rfl⟩
    obtain ⟨t, h2, h3⟩ := h1
    rw [h2, h3]
    obtain ⟨k, rfl⟩ : ∃ m, k = m + 1 := ⟨k - 1, by omega⟩
    simp only [Option.bind_some, laws_FnExactIsBalanced.j0]
    rw [toFixed_val x0_0 x0_1 x0_2 (by omega) (by omega)]
    simp only [Option.bind_some]
    rw [eqFixed_self x0_0 x0_1 (x0_2.map cv) (by simp; omega) (by simp; omega)]
    simp

end Go.Proofs.Ytonifpgaagdohaa.Pure
