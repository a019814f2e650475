/- The program's AddWord returns what the reference's returns, and what it returns is of its own. Conditions: none. -/
import Derived.Test.YtonifpgaagdohaaMPureV
import Derived.Test.YtonifpgaagdohaaMPureM
-- IMPORTS
import Derived.Test.YtonifpgaagdohaaMx0
import Derived.Test.YtonifpgaagdohaaMx2
import Derived.Test.YtonifpgaagdohaaMx11
import Derived.Test.YtonifpgaagdohaaMx12
import Derived.Test.YtonifpgaagdohaaMx13
import Derived.Test.YtonifpgaagdohaaMx15
namespace Go.Proofs.Ytonifpgaagdohaa.Pure
open Go.RowKit Go.Proofs.Ytonifpgaagdohaa.M Go.Proofs.YtonifpgaagdohaaW.PrintWords Go.Proofs.YtonifpgaagdohaaW.PrintLast Go.Proofs.YtonifpgaagdohaaW.PrintMore
set_option linter.unusedVariables false
set_option linter.unusedSimpArgs false

theorem okF_len {p q : Int} {l : List S40} (h : okF p q l = true) : (l.length : Int) ≤ 80 := by
  simp [okF] at h; omega
theorem add_same {k : Nat} (p q : Int) (l : List S40) (a b c d : Int) (hp : wrap64 p = p) (hq : wrap64 q = q) (hl : l.length ≤ 1048576) (h : l.length + 20 ≤ k) :
    ∃ r, spec_AddWord.f k p q l a b c d = some r ∧ impl_AddWord.f k p q l a b c d = some r ∧ r.2.2.1.length ≤ 100 := by
  obtain ⟨k, rfl⟩ := fuel (show 1 ≤ k by omega)
  unfold spec_AddWord.f impl_AddWord.f
  rw [valid_spec p q l hp hq hl (by omega), valid_impl p q l hp hq hl (by omega), hp, word_spec (by omega), word_impl (by omega)]
  simp only [Option.bind_some]
  have bad : ∃ r, spec_AddWord.j0 (k + 1) true p q l a b c d = some r ∧ impl_AddWord.j0 (k + 1) true p q l a b c d = some r ∧ r.2.2.1.length ≤ 100 := by
    refine ⟨(0, 0, [], 1), ?_, ?_, by simp⟩
    · rw [spec_AddWord.j0, if_pos rfl]
    · rw [impl_AddWord.j0, if_pos rfl]
  cases hv : okF p q l with
  | false => rw [if_neg (by simp), if_neg (by simp)]; exact bad
  | true =>
    have h80 := okF_len hv
    rw [if_pos rfl, if_pos rfl]
    cases hw : (okW p a b c d && decide (1 ≤ p ∧ p ≤ 4)) with
    | false => exact bad
    | true =>
      rw [Bool.not_true]
      rw [spec_AddWord.j0, impl_AddWord.j0, if_neg (show ¬ false = true by simp), if_neg (show ¬ false = true by simp)]
      by_cases he : (l.length : Int) = 80
      · rw [if_pos (by omega), if_pos he]
        exact ⟨(0, 0, [], 3), rfl, rfl, by simp⟩
      · rw [if_neg (by omega), if_neg he]
        unfold spec_l04Copy.f impl_Word_46.f
        have h1 : l.length < 35184372088832 := by omega
        have h2 : l.length + ([(⟨a, b, c, d⟩ : S40)] : List S40).length < 35184372088832 := by simp; omega
        simp only [Option.bind_some, List.nil_append, List.length_nil, Nat.zero_add, h1, h2, if_true]
        exact ⟨_, rfl, rfl, by simp; omega⟩
theorem FnExactAddWord (x0_0 : Int) (x0_1 : Int) (x0_2 : (List S37)) (x1_0 : Int) (x1_1 : Int) (x1_2 : Int) (x1_3 : Int) (w0_0 : (fun x : Int => (Lit.int .i8 x).wf = true) x0_0) (w0_1 : (fun x : Int => (Lit.int .i8 x).wf = true) x0_1) (w0_2 : (fun xs : List S37 => xs.length ≤ maxLen ∧ ∀ x ∈ xs, (fun x : S37 => (fun x : Int => (Lit.int .i8 x).wf = true) x.f0 ∧ (fun x : Int => (Lit.int .i8 x).wf = true) x.f1 ∧ (fun x : Int => (Lit.int .i8 x).wf = true) x.f2 ∧ (fun x : Int => (Lit.int .i8 x).wf = true) x.f3) x) x0_2) (w1_0 : (fun x : Int => (Lit.int .i8 x).wf = true) x1_0) (w1_1 : (fun x : Int => (Lit.int .i8 x).wf = true) x1_1) (w1_2 : (fun x : Int => (Lit.int .i8 x).wf = true) x1_2) (w1_3 : (fun x : Int => (Lit.int .i8 x).wf = true) x1_3) : ∃ k, laws_FnExactAddWord.f k x0_0 x0_1 x0_2 x1_0 x1_1 x1_2 x1_3 = some true := by
  have hz := szFixed_val x0_0 x0_1 x0_2 w0_2.1 1048576 (by omega) (by omega)
  by_cases hl : x0_2.length ≤ 1048576
  case neg =>
    refine ⟨0, ?_⟩
    unfold laws_FnExactAddWord.f
    rw [hz]
    simp only [Option.bind_some, if_true]
    rw [if_pos (show (1048576 : Int) - x0_2.length < 0 by omega), if_pos (by omega)]
  rw [if_neg (by omega)] at hz
  have hL : (x0_2.map cv).length ≤ 1048576 := by simpa using hl
  have hLe : (x0_2.map cv).length = x0_2.length := by simp
  generalize hm : x0_2.length = m at *
  have h0 : ∀ k, m + 20 ≤ k → laws_toFixed.f k x0_0 x0_1 x0_2 = some (x0_0, x0_1, x0_2.map cv) := fun k hk => toFixed_val x0_0 x0_1 x0_2 (by omega) (by omega)
  obtain ⟨⟨p, q, l, e⟩, _, _, hlen⟩ := add_same (k := m + 20) x0_0 x0_1 (x0_2.map cv) x1_0 x1_1 x1_2 x1_3 (wn8 w0_0) (wn8 w0_1) hL (by omega)
  obtain ⟨K, hK⟩ : ∃ K, K = 7 * m + 800 := ⟨_, rfl⟩
  obtain ⟨⟨p, q, l, e⟩, hs, hi, hlen⟩ := add_same (k := K + 3) x0_0 x0_1 (x0_2.map cv) x1_0 x1_1 x1_2 x1_3 (wn8 w0_0) (wn8 w0_1) hL (by omega)
  obtain ⟨r1, hs1, hi1, hlen1⟩ := add_same (k := K + 1) x0_0 x0_1 (x0_2.map cv) x1_0 x1_1 x1_2 x1_3 (wn8 w0_0) (wn8 w0_1) hL (by omega)
  have hr : r1 = (p, q, l, e) := by
    have := impl_AddWord.mono x0_0 x0_1 (x0_2.map cv) x1_0 x1_1 x1_2 x1_3 (K + 1) _ hi1
    have t2 := impl_AddWord.mono x0_0 x0_1 (x0_2.map cv) x1_0 x1_1 x1_2 x1_3 (K + 2) _ this
    rw [hi] at t2; injection t2 with t2; exact t2.symm
  subst hr
  simp only at hlen
  refine ⟨K + 3, ?_⟩
  unfold laws_FnExactAddWord.f
  rw [hz]
  simp only [Option.bind_some, if_true]
  rw [if_neg (by omega), h0 _ (by omega)]
  simp only [Option.bind_some, if_true]
  rw [toWord_val (by omega)]
  simp only [Option.bind_some, if_true]
  rw [hs, hi]
  simp only [Option.bind_some, if_true]
  rw [eqFixed_self p q l (by omega) (by omega)]
  simp only [Option.bind_some, if_true]
  rw [bne_self_eq_false, show K + 3 = (K + 2) + 1 from rfl, laws_FnExactAddWord.j0, if_neg (by simp), h0 _ (by omega)]
  simp only [Option.bind_some, if_true]
  rw [eqFixed_self x0_0 x0_1 (x0_2.map cv) (by omega) (by omega)]
  simp only [Option.bind_some, if_true]
  rw [markF_val x0_0 x0_1 (x0_2.map cv) 1 (by omega) (by omega) (by omega) (by omega)]
  simp only [Option.bind_some, if_true]
  rw [if_neg (by omega), eqFixed_self p q l (by omega) (by omega)]
  simp only [Option.bind_some, if_true]
  rw [bne_self_eq_false, show K + 2 = (K + 1) + 1 from rfl, laws_FnExactAddWord.j1, if_neg (by simp), markF_val p q l 1 (by omega) (by omega) (by omega) (by omega)]
  simp only [Option.bind_some, if_true]
  rw [heldF_val p q l 1 (by omega) (by omega) (by omega) (by omega)]
  simp only [Option.bind_some, if_true]
  rw [if_neg (by omega), h0 _ (by omega)]
  simp only [Option.bind_some, if_true]
  rw [toWord_val (by omega)]
  simp only [Option.bind_some, if_true]
  rw [hi1]
  simp only [Option.bind_some, if_true]
  rw [eqFixed_self p q l (by omega) (by omega)]
  simp only [Option.bind_some, if_true]
  rw [bne_self_eq_false, laws_FnExactAddWord.j2, if_neg (by simp), heldF_val p q l 1 (by omega) (by omega) (by omega) (by omega)]
  simp only [Option.bind_some, if_true]
  rw [if_neg (by omega)]

end Go.Proofs.Ytonifpgaagdohaa.Pure
