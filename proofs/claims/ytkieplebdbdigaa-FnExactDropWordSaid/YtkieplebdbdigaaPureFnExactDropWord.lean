/- The program's DropWord returns what the reference's returns, and what it returns is of its own. Conditions: none. -/
import Derived.Test.YtkieplebdbdigaaMPureV
import Derived.Test.YtkieplebdbdigaaMPureM
-- IMPORTS
import Derived.Test.YtkieplebdbdigaaMx0
import Derived.Test.YtkieplebdbdigaaMx3
import Derived.Test.YtkieplebdbdigaaMx4
import Derived.Test.YtkieplebdbdigaaMx6
import Derived.Test.YtkieplebdbdigaaMx7
import Derived.Test.YtkieplebdbdigaaMx12
import Derived.Test.YtkieplebdbdigaaHDelete
namespace Go.Proofs.Ytkieplebdbdigaa.Pure
open Go.RowKit Go.Proofs.Ytkieplebdbdigaa.M Go.Proofs.YtkieplebdbdigaaW.PrintWords Go.Proofs.YtkieplebdbdigaaW.PrintLast Go.Proofs.YtkieplebdbdigaaW.PrintMore
set_option linter.unusedVariables false
set_option linter.unusedSimpArgs false

theorem okF_len {p q : Int} {l : List S41} (h : okF p q l = true) : (l.length : Int) ≤ 80 := by
  simp [okF] at h; omega
theorem drop_same {k : Nat} (p q : Int) (l : List S41) (i : Int) (hp : wrap64 p = p) (hq : wrap64 q = q) (hl : l.length ≤ 1048576) (h : l.length + 20 ≤ k) :
    ∃ r, spec_DropWord.f k p q l i = some r ∧ impl_DropWord.f k p q l i = some r ∧ r.2.2.1.length ≤ 100 := by
  unfold spec_DropWord.f impl_DropWord.f
  rw [valid_spec p q l hp hq hl (by omega), valid_impl p q l hp hq hl (by omega)]
  simp only [Option.bind_some]
  cases hv : okF p q l with
  | false => rw [if_neg (by simp), if_neg (by simp)]; exact ⟨(0, 0, [], 1), rfl, rfl, by simp⟩
  | true =>
    have h80 := okF_len hv
    have w1 : wrap64 ((l.length : Int) - 1) = l.length - 1 := by unfold wrap64; omega
    rw [if_pos rfl, if_pos rfl]
    unfold impl_Word_22.f
    simp only [Option.bind_some]
    rw [w1, in_val, within_val]
    simp only [Option.bind_some]
    by_cases hi : 0 ≤ i ∧ i ≤ (l.length : Int) - 1
    · rw [decide_eq_true hi, if_pos rfl, if_pos rfl]
      by_cases h1 : (l.length : Int) = 1
      · rw [if_pos h1, if_pos h1]; exact ⟨(0, 0, [], 4), rfl, rfl, by simp⟩
      · rw [if_neg h1, if_neg h1]
        have w2 : wrap64 (i + 1) = i + 1 := wi hi.1 (by omega)
        unfold impl_Word_24.f
        simp only [Option.bind_some, w2]
        have e1 : l.length < 35184372088832 := by omega
        obtain ⟨n, rfl⟩ : ∃ n : Nat, i = n := ⟨i.toNat, by omega⟩
        have hn : n < l.length := by omega
        have e2 : ((n : Int) + 1).toNat = n + 1 := by omega
        have e3 : (n : Int).toNat = n := by omega
        have ht : (l.take n).length = n := by simp; omega
        rw [if_pos hi.1, if_pos (by omega), e3, if_pos (by rw [ht, List.length_nil]; omega)]
        rw [if_pos (show (0 : Int) ≤ (n : Int) + 1 by omega), if_pos (by omega), e2]
        rw [if_pos (by simp; omega)]
        unfold impl_Word_23.f
        simp only [List.nil_append, List.length_nil, Nat.zero_add, e1, if_true, Option.bind_some]
        rw [if_pos hi.1, if_pos (by omega), e3]
        simp only [Option.bind_some]
        rw [List.eraseIdx_eq_take_drop_succ]
        exact ⟨_, rfl, rfl, by simp; omega⟩
    · rw [decide_eq_false hi, if_neg (by simp), if_neg (by simp)]; exact ⟨(0, 0, [], 2), rfl, rfl, by simp⟩
theorem FnExactDropWord (x0_0 : Int) (x0_1 : Int) (x0_2 : (List S36)) (x1_0 : Int) (w0_0 : (fun x : Int => (Lit.int .i8 x).wf = true) x0_0) (w0_1 : (fun x : Int => (Lit.int .i8 x).wf = true) x0_1) (w0_2 : (fun xs : List S36 => xs.length ≤ maxLen ∧ ∀ x ∈ xs, (fun x : S36 => (fun x : Int => (Lit.int .i8 x).wf = true) x.f0 ∧ (fun x : Int => (Lit.int .i8 x).wf = true) x.f1 ∧ (fun x : Int => (Lit.int .i8 x).wf = true) x.f2 ∧ (fun x : Int => (Lit.int .i8 x).wf = true) x.f3) x) x0_2) (w1_0 : (fun x : Int => (Lit.int .i64 x).wf = true) x1_0) : ∃ k, laws_FnExactDropWord.f k x0_0 x0_1 x0_2 x1_0 = some true := by
  have hz := szFixed_val x0_0 x0_1 x0_2 w0_2.1 1048576 (by omega) (by omega)
  by_cases hl : x0_2.length ≤ 1048576
  case neg =>
    refine ⟨0, ?_⟩
    unfold laws_FnExactDropWord.f
    rw [hz]
    simp only [Option.bind_some, if_true]
    rw [if_pos (show (1048576 : Int) - x0_2.length < 0 by omega), if_pos (by omega)]
  rw [if_neg (by omega)] at hz
  have hL : (x0_2.map cv).length ≤ 1048576 := by simpa using hl
  have hLe : (x0_2.map cv).length = x0_2.length := by simp
  generalize hm : x0_2.length = m at *
  have h0 : ∀ k, m + 20 ≤ k → laws_toFixed.f k x0_0 x0_1 x0_2 = some (x0_0, x0_1, x0_2.map cv) := fun k hk => toFixed_val x0_0 x0_1 x0_2 (by omega) (by omega)
  obtain ⟨⟨p, q, l, e⟩, _, _, hlen⟩ := drop_same (k := m + 20) x0_0 x0_1 (x0_2.map cv) x1_0 (wn8 w0_0) (wn8 w0_1) hL (by omega)
  obtain ⟨K, hK⟩ : ∃ K, K = 7 * m + 800 := ⟨_, rfl⟩
  obtain ⟨⟨p, q, l, e⟩, hs, hi, hlen⟩ := drop_same (k := K + 3) x0_0 x0_1 (x0_2.map cv) x1_0 (wn8 w0_0) (wn8 w0_1) hL (by omega)
  obtain ⟨r1, hs1, hi1, hlen1⟩ := drop_same (k := K + 1) x0_0 x0_1 (x0_2.map cv) x1_0 (wn8 w0_0) (wn8 w0_1) hL (by omega)
  have hr : r1 = (p, q, l, e) := by
    have := impl_DropWord.mono x0_0 x0_1 (x0_2.map cv) x1_0 (K + 1) _ hi1
    have t2 := impl_DropWord.mono x0_0 x0_1 (x0_2.map cv) x1_0 (K + 2) _ this
    rw [hi] at t2; injection t2 with t2; exact t2.symm
  subst hr
  simp only at hlen
  refine ⟨K + 3, ?_⟩
  unfold laws_FnExactDropWord.f
  rw [hz]
  simp only [Option.bind_some, if_true]
  rw [if_neg (by omega), h0 _ (by omega)]
  simp only [Option.bind_some, if_true]
  rw [hs, hi]
  simp only [Option.bind_some, if_true]
  rw [eqFixed_self p q l (by omega) (by omega)]
  simp only [Option.bind_some, if_true]
  rw [bne_self_eq_false, show K + 3 = (K + 2) + 1 from rfl, laws_FnExactDropWord.j0, if_neg (by simp), h0 _ (by omega)]
  simp only [Option.bind_some, if_true]
  rw [eqFixed_self x0_0 x0_1 (x0_2.map cv) (by omega) (by omega)]
  simp only [Option.bind_some, if_true]
  rw [markF_val x0_0 x0_1 (x0_2.map cv) 1 (by omega) (by omega) (by omega) (by omega)]
  simp only [Option.bind_some, if_true]
  rw [if_neg (by omega), eqFixed_self p q l (by omega) (by omega)]
  simp only [Option.bind_some, if_true]
  rw [bne_self_eq_false, show K + 2 = (K + 1) + 1 from rfl, laws_FnExactDropWord.j1, if_neg (by simp), markF_val p q l 1 (by omega) (by omega) (by omega) (by omega)]
  simp only [Option.bind_some, if_true]
  rw [heldF_val p q l 1 (by omega) (by omega) (by omega) (by omega)]
  simp only [Option.bind_some, if_true]
  rw [if_neg (by omega), h0 _ (by omega)]
  simp only [Option.bind_some, if_true]
  rw [hi1]
  simp only [Option.bind_some, if_true]
  rw [eqFixed_self p q l (by omega) (by omega)]
  simp only [Option.bind_some, if_true]
  rw [bne_self_eq_false, laws_FnExactDropWord.j2, if_neg (by simp), heldF_val p q l 1 (by omega) (by omega) (by omega) (by omega)]
  simp only [Option.bind_some, if_true]
  rw [if_neg (by omega)]

end Go.Proofs.Ytkieplebdbdigaa.Pure
