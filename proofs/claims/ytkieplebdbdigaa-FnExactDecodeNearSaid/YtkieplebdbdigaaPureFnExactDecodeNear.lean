/- The program's DecodeNear returns what the reference's returns, and leaves its arguments as they were. Conditions: none. -/
import Derived.Test.YtkieplebdbdigaaMPureS
-- IMPORTS
import Derived.Test.YtkieplebdbdigaaMx0
import Derived.Test.YtkieplebdbdigaaMx8
import Derived.Test.YtkieplebdbdigaaMx11
import Derived.Test.YtkieplebdbdigaaMx15
import Derived.Test.YtkieplebdbdigaaMx16
import Derived.Test.YtkieplebdbdigaaMx17
import Derived.Test.YtkieplebdbdigaaMx18
import Derived.Test.YtkieplebdbdigaaMx19
namespace Go.Proofs.Ytkieplebdbdigaa.Pure
open Go.RowKit Go.Proofs.Ytkieplebdbdigaa.M Go.Proofs.YtkieplebdbdigaaW.PrintWords Go.Proofs.YtkieplebdbdigaaW.PrintLast Go.Proofs.YtkieplebdbdigaaW.PrintMore
set_option linter.unusedVariables false
set_option linter.unusedSimpArgs false

theorem cases_lt (q : Int) (n : Nat) (hn : 0 < n) : ∀ x ∈ casesL q n, x.f0 < n := by
  intro x hx
  rw [mem_cases] at hx
  rcases hx with rfl | ⟨i, hi, h⟩
  · show (-1 : Int) < n; omega
  · unfold one at h
    by_cases h1 : q = 1 <;> by_cases h2 : q = 0 <;> simp [h1, h2] at h
    · omega
    · rw [h]; show (i : Int) < n; omega
    · rw [h]; show (i : Int) < n; omega
    · rcases h with h | h <;> rw [h] <;> show (i : Int) < n <;> omega
theorem rd_at (l : List S38) {i : Nat} (h : i < l.length) : rd_T38 l (i : Int) = l[i] := by
  unfold rd_T38; simp [List.getD, h]

def dv (a b c d e f g h : Int) : Int := (if a = e then 0 else 1) + (if b = f then 0 else 1) + (if c = g then 0 else 1) + (if d = h then 0 else 1)
theorem dist_impl {k : Nat} (hk : 6 ≤ k) (a b c d e f g h : Int) : impl_distance_36.f k a b c d e f g h = some (dv a b c d e f g h) := by
  obtain ⟨m, rfl⟩ := fuel hk
  by_cases h1 : a = e <;> by_cases h2 : b = f <;> by_cases h3 : c = g <;> by_cases h4 : d = h <;> simp [impl_distance_36.f, impl_distance_36.l0, rd, wrap64, dv, h1, h2, h3, h4]
theorem dist_spec {k : Nat} (hk : 6 ≤ k) (a b c d e f g h : Int) : spec_l04Distance.f k a b c d e f g h = some (dv a b c d e f g h) := by
  obtain ⟨m, rfl⟩ := fuel hk
  by_cases h1 : a = e <;> by_cases h2 : b = f <;> by_cases h3 : c = g <;> by_cases h4 : d = h <;> simp [spec_l04Distance.f, spec_l04Distance.l0, rd, wrap64, dv, h1, h2, h3, h4]
/-- How far what is seen of a case is from a word. -/
def far (l : List S41) (a b c d : Int) (x : S38) : Int := dv (seenL l x.f0 x.f1).1 (seenL l x.f0 x.f1).2.1 (seenL l x.f0 x.f1).2.2.1 (seenL l x.f0 x.f1).2.2.2 a b c d
def near (l : List S41) (a b c d w : Int) (x : S38) : Bool := decide (far l a b c d x ≤ w)
theorem lit_val {k : Nat} (hk : 6 ≤ k) (p q : Int) (l : List S41) (a b c d w : Int) (x : S38) (hx : x.f0 < l.length) : impl_DecodeNear_1_35.f k x.f0 x.f1 p q l a b c d w = some (!near l a b c d w x) := by
  unfold impl_DecodeNear_1_35.f
  rw [seen_impl (by omega) p q l _ _ hx]
  simp only [Option.bind_some]
  rw [dist_impl hk]
  simp only [Option.bind_some]
  unfold near far
  by_cases h : dv (seenL l x.f0 x.f1).1 (seenL l x.f0 x.f1).2.1 (seenL l x.f0 x.f1).2.2.1 (seenL l x.f0 x.f1).2.2.2 a b c d ≤ w
  · rw [decide_eq_true h, decide_eq_false (by omega)]; rfl
  · rw [decide_eq_false h, decide_eq_true (by omega)]; rfl
theorem drop_at {α : Type} (cs : List α) {i : Nat} (hi : i < cs.length) : cs.drop i = cs[i] :: cs.drop (i + 1) := List.drop_eq_getElem_cons hi
theorem ix_val (p q : Int) (l : List S41) (a b c d w : Int) (cs : List S38) (hcs : ∀ x ∈ cs, x.f0 < l.length) (hn : cs.length ≤ 1000) :
    ∀ (dd i k : Nat), i + dd = cs.length → dd + 8 ≤ k → ∃ r : Int, impl_Case_47_at_35.l0 k cs (cs.length : Int) (i : Int) p q l a b c d w = some r ∧
      ((r = -1 ∧ (cs.drop i).filter (near l a b c d w) = cs.drop i) ∨ ∃ j : Nat, r = j ∧ i ≤ j ∧ j < cs.length ∧ (cs.drop i).filter (near l a b c d w) = (cs.drop i).take (j - i) ++ (cs.drop (j + 1)).filter (near l a b c d w)) := by
  intro dd
  induction dd with
  | zero =>
    intro i k h hk
    obtain ⟨k, rfl⟩ := fuel (show 1 ≤ k by omega)
    refine ⟨-1, ?_, .inl ⟨rfl, ?_⟩⟩
    · simp only [impl_Case_47_at_35.l0]; rw [if_neg (by omega)]
    · rw [List.drop_eq_nil_of_le (by omega)]; rfl
  | succ dd ih =>
    intro i k h hk
    obtain ⟨k, rfl⟩ := fuel (show 1 ≤ k by omega)
    have hi : i < cs.length := by omega
    have hb := hcs _ (List.getElem_mem hi)
    simp only [impl_Case_47_at_35.l0]
    rw [if_pos (show (i : Int) < (cs.length : Int) by omega), if_pos (show (0 : Int) ≤ (i : Int) by omega), if_pos (show (i : Int) < (cs.length : Int) by omega), rd_at cs hi, lit_val (by omega) p q l a b c d w _ hb]
    simp only [Option.bind_some]
    rw [wi (i := (i : Int)) (by omega) (by omega), show (i : Int) + 1 = ((i + 1 : Nat) : Int) by omega, drop_at cs hi]
    cases hg : near l a b c d w cs[i] with
    | false =>
      refine ⟨(i : Int), by simp, .inr ⟨i, rfl, Nat.le_refl _, hi, ?_⟩⟩
      rw [List.filter_cons_of_neg (by simp [hg]), Nat.sub_self, List.take_zero, List.nil_append]
    | true =>
      obtain ⟨r, h1, h2⟩ := ih (i + 1) k (by omega) (by omega)
      refine ⟨r, by simpa using h1, ?_⟩
      rw [List.filter_cons_of_pos (by simp [hg])]
      rcases h2 with ⟨e1, e2⟩ | ⟨j, e1, e2, e3, e4⟩
      · exact .inl ⟨e1, by rw [e2]⟩
      · refine .inr ⟨j, e1, by omega, e3, ?_⟩
        rw [e4, show j - i = (j - (i + 1)) + 1 by omega, List.take_succ_cons, List.cons_append]
theorem del_val (p q : Int) (l : List S41) (a b c d w : Int) (cs : List S38) (hcs : ∀ x ∈ cs, x.f0 < l.length) (hn : cs.length ≤ 1000) :
    ∀ (dd i j k : Nat) (xs : List S38), i + dd = cs.length → dd + 8 ≤ k → xs.length = cs.length → j < i → xs.drop i = cs.drop i →
      impl_Case_33_at_35.l0 k xs (j : Int) (i : Int) p q l a b c d w = some (xs.take j ++ (cs.drop i).filter (near l a b c d w)) := by
  intro dd
  induction dd with
  | zero =>
    intro i j k xs h hk hx hj hd
    obtain ⟨k, rfl⟩ := fuel (show 1 ≤ k by omega)
    simp only [impl_Case_33_at_35.l0]
    rw [if_neg (by omega), if_pos (by omega), if_pos (by omega), List.drop_eq_nil_of_le (show cs.length ≤ i by omega), show ((j : Int)).toNat = j by omega]
    rw [List.take_left' (by rw [List.length_take]; omega)]
    simp
  | succ dd ih =>
    intro i j k xs h hk hx hj hd
    obtain ⟨k, rfl⟩ := fuel (show 1 ≤ k by omega)
    have hi : i < cs.length := by omega
    have hix : i < xs.length := by omega
    have hb := hcs _ (List.getElem_mem hi)
    rw [drop_at cs hi, drop_at xs hix] at hd
    injection hd with hd1 hd2
    simp only [impl_Case_33_at_35.l0]
    rw [if_pos (by omega), if_pos (by omega), rd_at xs hix, hd1, lit_val (by omega) p q l a b c d w _ hb]
    simp only [Option.bind_some]
    rw [wi (i := (i : Int)) (by omega) (by omega), show (i : Int) + 1 = ((i + 1 : Nat) : Int) by omega, drop_at cs hi]
    cases hg : near l a b c d w cs[i] with
    | false =>
      rw [if_pos (by simp), List.filter_cons_of_neg (by simp [hg])]
      exact ih (i + 1) j k xs (by omega) (by omega) hx (by omega) hd2
    | true =>
      rw [if_neg (by simp), List.filter_cons_of_pos (by simp [hg]), if_pos (by omega), if_pos (by omega), wi (i := (j : Int)) (by omega) (by omega), show (j : Int) + 1 = ((j + 1 : Nat) : Int) by omega, show ((j : Int)).toNat = j by omega]
      rw [ih (i + 1) (j + 1) k _ (by omega) (by omega) (by simp; omega) (by omega) (by rw [List.drop_set_of_lt (by omega)]; exact hd2)]
      congr 1
      rw [List.take_add_one, List.take_set_of_le (Nat.le_refl _), List.getElem?_set_self (by omega)]
      simp
theorem func_val {k : Nat} (p q : Int) (l : List S41) (a b c d w : Int) (cs : List S38) (hcs : ∀ x ∈ cs, x.f0 < l.length) (hn : cs.length ≤ 1000) (hk : 1010 ≤ k) :
    impl_Case_33_at_35.f k cs p q l a b c d w = some (cs.filter (near l a b c d w)) := by
  unfold impl_Case_33_at_35.f impl_Case_47_at_35.f
  obtain ⟨r, h1, h2⟩ := ix_val p q l a b c d w cs hcs hn cs.length 0 k (by omega) (by omega)
  rw [show ((0 : Nat) : Int) = 0 from rfl] at h1
  rw [h1]
  simp only [Option.bind_some]
  rw [List.drop_zero] at h2
  rcases h2 with ⟨rfl, e2⟩ | ⟨j, rfl, _, e3, e4⟩
  · rw [if_pos rfl, e2]
  · rw [if_neg (by omega), wi (by omega) (by omega), show (j : Int) + 1 = ((j + 1 : Nat) : Int) by omega, del_val p q l a b c d w cs hcs hn (cs.length - (j + 1)) (j + 1) j k cs (by omega) (by omega) rfl (by omega) rfl, e4]
    simp
/-- What is told of the cases that are near. -/
def told (y : List S38) : Option (Int × Bool × Int) := if (y.length : Int) = 0 then some (0, false, 6) else if (y.length : Int) > 1 then some (0, false, 8) else if 0 < (y.length : Int) then some ((rd_T38 y 0).f0, (rd_T38 y 0).f1, 0) else none
theorem spec_near_l0 (p q : Int) (l : List S41) (a b c d w : Int) (cs : List S38) (hcs : ∀ x ∈ cs, x.f0 < l.length) (hn : cs.length ≤ 1000) :
    ∀ (dd i k : Nat) (acc : List S38), i + dd = cs.length → dd + 8 ≤ k → acc.length ≤ i → spec_DecodeNear.l0 k w cs acc (i : Int) p q l a b c d = told (acc ++ (cs.drop i).filter (near l a b c d w)) := by
  intro dd
  induction dd with
  | zero =>
    intro i k acc h hk ha
    obtain ⟨k, rfl⟩ := fuel (show 1 ≤ k by omega)
    simp only [spec_DecodeNear.l0]
    rw [if_neg (by omega), List.drop_eq_nil_of_le (show cs.length ≤ i by omega), List.filter_nil, List.append_nil]
    rfl
  | succ dd ih =>
    intro i k acc h hk ha
    obtain ⟨k, rfl⟩ := fuel (show 1 ≤ k by omega)
    have hi : i < cs.length := by omega
    have hb := hcs _ (List.getElem_mem hi)
    simp only [spec_DecodeNear.l0]
    rw [if_pos (by omega), if_pos (by omega), rd_at cs hi, seen_spec (by omega) p q l _ _ hb]
    simp only [Option.bind_some]
    rw [dist_spec (by omega)]
    simp only [Option.bind_some]
    rw [wi (i := (i : Int)) (by omega) (by omega), show (i : Int) + 1 = ((i + 1 : Nat) : Int) by omega, drop_at cs hi]
    by_cases hg : far l a b c d cs[i] ≤ w
    · rw [if_pos (show dv _ _ _ _ a b c d ≤ w from hg), if_pos (by omega), List.filter_cons_of_pos (by simp [near, hg]), ih (i + 1) k _ (by omega) (by omega) (by simp; omega)]
      simp
    · rw [if_neg (show ¬ dv _ _ _ _ a b c d ≤ w from hg), List.filter_cons_of_neg (by simp [near, hg]), ih (i + 1) k _ (by omega) (by omega) (by omega)]
theorem near_same {k : Nat} (p q : Int) (l : List S41) (a b c d w : Int) (hp : wrap64 p = p) (hq : wrap64 q = q) (hl : l.length ≤ 1048576) (hk : l.length + 2000 ≤ k) :
    ∃ t, spec_DecodeNear.f k p q l a b c d w = some t ∧ impl_DecodeNear.f k p q l a b c d w = some t := by
  obtain ⟨k, rfl⟩ := fuel (show 1 ≤ k by omega)
  unfold spec_DecodeNear.f impl_DecodeNear.f
  rw [valid_spec p q l hp hq hl (by omega), valid_impl p q l hp hq hl (by omega), hp, word_spec (by omega), word_impl (by omega)]
  simp only [Option.bind_some]
  have bad : ∃ t, spec_DecodeNear.j0 (k + 1) w true p q l a b c d = some t ∧ impl_DecodeNear.j0 (k + 1) true p q l a b c d w = some t := by
    refine ⟨(0, false, 1), ?_, ?_⟩
    · rw [spec_DecodeNear.j0, if_pos rfl]
    · rw [impl_DecodeNear.j0, if_pos rfl]
  cases hv : okF p q l with
  | false => rw [if_neg (by simp), if_neg (by simp)]; exact bad
  | true =>
    rw [if_pos rfl, if_pos rfl]
    cases hw : (okW p a b c d && decide (1 ≤ p ∧ p ≤ 4)) with
    | false => exact bad
    | true =>
      rw [Bool.not_true, spec_DecodeNear.j0, impl_DecodeNear.j0, if_neg (by simp), if_neg (by simp), in_val, within_val]
      simp only [Option.bind_some]
      by_cases hr : 0 ≤ w ∧ w ≤ 4
      · rw [decide_eq_true hr, if_pos rfl, if_pos rfl]
        simp only [okF, Bool.and_eq_true, decide_eq_true_eq] at hv
        obtain ⟨_, _, h3, _⟩ := hv
        have hc := casesL_len q l.length
        rw [cases_spec p q l (by omega) (by omega), cases_impl p q l (by omega) (by omega)]
        simp only [Option.bind_some]
        have hs := spec_near_l0 p q l a b c d w (casesL q l.length) (cases_lt q l.length (by omega)) (by omega) (casesL q l.length).length 0 k [] (by omega) (by omega) (by simp)
        rw [show ((0 : Nat) : Int) = 0 from rfl, List.drop_zero, List.nil_append] at hs
        rw [hs, func_val p q l a b c d w (casesL q l.length) (cases_lt q l.length (by omega)) (by omega) (by omega)]
        simp only [Option.bind_some]
        generalize (casesL q l.length).filter (near l a b c d w) = y
        unfold told
        by_cases y0 : (y.length : Int) = 0
        · rw [if_pos y0, if_pos y0]; exact ⟨_, rfl, rfl⟩
        · rw [if_neg y0, if_neg y0]
          by_cases y1 : (y.length : Int) = 1
          · rw [if_neg (by omega), if_pos (by omega), if_pos y1]; exact ⟨_, rfl, rfl⟩
          · rw [if_pos (by omega), if_neg y1]; exact ⟨_, rfl, rfl⟩
      · rw [decide_eq_false hr, if_neg (by simp), if_neg (by simp)]; exact ⟨_, rfl, rfl⟩
theorem FnExactDecodeNear (x0_0 : Int) (x0_1 : Int) (x0_2 : (List S36)) (x1_0 : Int) (x1_1 : Int) (x1_2 : Int) (x1_3 : Int) (x2_0 : Int) (w0_0 : (fun x : Int => (Lit.int .i8 x).wf = true) x0_0) (w0_1 : (fun x : Int => (Lit.int .i8 x).wf = true) x0_1) (w0_2 : (fun xs : List S36 => xs.length ≤ maxLen ∧ ∀ x ∈ xs, (fun x : S36 => (fun x : Int => (Lit.int .i8 x).wf = true) x.f0 ∧ (fun x : Int => (Lit.int .i8 x).wf = true) x.f1 ∧ (fun x : Int => (Lit.int .i8 x).wf = true) x.f2 ∧ (fun x : Int => (Lit.int .i8 x).wf = true) x.f3) x) x0_2) (w1_0 : (fun x : Int => (Lit.int .i8 x).wf = true) x1_0) (w1_1 : (fun x : Int => (Lit.int .i8 x).wf = true) x1_1) (w1_2 : (fun x : Int => (Lit.int .i8 x).wf = true) x1_2) (w1_3 : (fun x : Int => (Lit.int .i8 x).wf = true) x1_3) (w2_0 : (fun x : Int => (Lit.int .i64 x).wf = true) x2_0) : ∃ k, laws_FnExactDecodeNear.f k x0_0 x0_1 x0_2 x1_0 x1_1 x1_2 x1_3 x2_0 = some true := by
  refine ⟨x0_2.length + 3000, ?_⟩
  have hk : ∃ k, k = x0_2.length + 3000 := ⟨_, rfl⟩
  obtain ⟨k, hk⟩ := hk
  rw [← hk]
  unfold laws_FnExactDecodeNear.f
  rw [szFixed_val x0_0 x0_1 x0_2 w0_2.1 1048576 (by omega) (by omega)]
  simp only [Option.bind_some]
  by_cases e0 : (1048576 : Int) - (x0_2.length : Int) < 0
  · rw [if_pos e0]; rfl
  · rw [if_neg e0, if_neg e0, toFixed_val x0_0 x0_1 x0_2 (by omega) (by omega)]
    simp only [Option.bind_some]
    rw [toWord_val (by omega)]
    simp only [Option.bind_some]
    obtain ⟨t, h2, h3⟩ := near_same (k := k) x0_0 x0_1 (x0_2.map cv) x1_0 x1_1 x1_2 x1_3 x2_0 (wn8 w0_0) (wn8 w0_1) (by simp; omega) (by simp; omega)
    rw [h2, h3]
    obtain ⟨k, rfl⟩ : ∃ m, k = m + 1 := ⟨k - 1, by omega⟩
    simp only [Option.bind_some, laws_eqCase.f, bne_self_eq_false, if_true]
    simp only [laws_FnExactDecodeNear.j0, bne_self_eq_false]
    rw [toFixed_val x0_0 x0_1 x0_2 (by omega) (by omega)]
    simp only [Option.bind_some]
    rw [eqFixed_self x0_0 x0_1 (x0_2.map cv) (by simp; omega) (by simp; omega)]
    simp

end Go.Proofs.Ytkieplebdbdigaa.Pure
