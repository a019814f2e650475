/- Plain laws: a valid word, a valid fixed plan. -/
import Derived.Test.YtkieplebdbdigaaMPureF
-- IMPORTS
import Derived.Test.YtkieplebdbdigaaMx0
import Derived.Test.YtkieplebdbdigaaMx4
import Derived.Test.YtkieplebdbdigaaMx5
import Derived.Test.YtkieplebdbdigaaMx6
import Derived.Test.YtkieplebdbdigaaMx12
import Derived.Test.YtkieplebdbdigaaMx13
namespace Go.Proofs.Ytkieplebdbdigaa.Pure
open Go.RowKit Go.Proofs.Ytkieplebdbdigaa.M Go.Proofs.YtkieplebdbdigaaW.PrintWords Go.Proofs.YtkieplebdbdigaaW.PrintLast Go.Proofs.YtkieplebdbdigaaW.PrintMore
set_option linter.unusedVariables false
set_option linter.unusedSimpArgs false

theorem within_val (a b c : Int) : impl_within.f a b c = some (decide (b ≤ a ∧ a ≤ c)) := by
  unfold impl_within.f
  by_cases h : b ≤ a
  · rw [if_pos h]; simp [h]
  · rw [if_neg h]; simp [h]
theorem in_val (a b c : Int) : spec_l00In.f a b c = some (decide (b ≤ a ∧ a ≤ c)) := by
  unfold spec_l00In.f
  by_cases h : a ≥ b
  · rw [if_pos h]; simp [show b ≤ a from h]
  · rw [if_neg h]; simp [show ¬ b ≤ a from h]
theorem letters_spec (l : Int) : spec_l04Letters.f l = some (decide (1 ≤ l ∧ l ≤ 4)) := by
  unfold spec_l04Letters.f; rw [in_val]; rfl
theorem letters_impl (l : Int) : impl_areLetters.f l = some (decide (1 ≤ l ∧ l ≤ 4)) := by
  unfold impl_areLetters.f; rw [within_val]; rfl

/-- A letter at place i of a word of l letters. -/
def gW (l i x : Int) : Bool := decide (-1 ≤ x ∧ x ≤ 1 ∧ (l ≤ i → x = 0))
def okW (l a b c d : Int) : Bool := gW l 0 a && (gW l 1 b && (gW l 2 c && gW l 3 d))
theorem step_spec (k : Nat) (l i a b c d x : Int) (h0 : 0 ≤ i) (h4 : i < 4) (hx : rd [a, b, c, d] i = x) :
    spec_l04Word.l0 (k + 1) l i a b c d = if gW l i x = true then spec_l04Word.l0 k l (i + 1) a b c d else some false := by
  simp only [spec_l04Word.l0, hx]
  rw [if_pos h4, if_pos h0, wi h0 (by omega)]
  unfold gW
  by_cases h1 : x < -1
  · rw [if_pos h1, if_neg (by simp; omega)]
  · by_cases h2 : x > 1
    · rw [if_neg h1, if_pos h2, if_neg (by simp; omega)]
    · by_cases h3 : i ≥ l
      · by_cases h5 : x = 0
        · rw [if_neg h1, if_neg h2, if_pos h3, if_pos h5, if_pos (by simp; omega)]
        · rw [if_neg h1, if_neg h2, if_pos h3, if_neg h5, if_neg (by simp; omega)]
      · rw [if_neg h1, if_neg h2, if_neg h3, if_pos (by simp; omega)]
theorem step_impl (k : Nat) (l i a b c d x : Int) (h0 : 0 ≤ i) (h4 : i < 4) (hx : rd [a, b, c, d] i = x) :
    impl_ValidWord.l0 (k + 1) l i a b c d = if gW l i x = true then impl_ValidWord.l0 k l (i + 1) a b c d else some false := by
  simp only [impl_ValidWord.l0, hx]
  rw [if_pos h4, if_pos h0, wi h0 (by omega)]
  unfold gW
  by_cases h1 : x < -1
  · rw [if_pos h1, if_neg (by simp; omega)]
  · by_cases h2 : x > 1
    · rw [if_neg h1, if_pos h2, if_neg (by simp; omega)]
    · by_cases h3 : i ≥ l
      · by_cases h5 : x = 0
        · rw [if_neg h1, if_neg h2, if_pos h3, if_pos h5, if_pos (by simp; omega)]
        · rw [if_neg h1, if_neg h2, if_pos h3, if_neg h5, if_neg (by simp; omega)]
      · rw [if_neg h1, if_neg h2, if_neg h3, if_pos (by simp; omega)]
theorem word_spec {k : Nat} (h : 5 ≤ k) (l a b c d : Int) : spec_l04Word.f k l a b c d = some (okW l a b c d && decide (1 ≤ l ∧ l ≤ 4)) := by
  obtain ⟨m, rfl⟩ := fuel h
  unfold spec_l04Word.f okW
  rw [step_spec (m + 4) l 0 a b c d a (by omega) (by omega) rfl, show (0 : Int) + 1 = 1 from rfl, step_spec (m + 3) l 1 a b c d b (by omega) (by omega) rfl, show (1 : Int) + 1 = 2 from rfl, step_spec (m + 2) l 2 a b c d c (by omega) (by omega) rfl, show (2 : Int) + 1 = 3 from rfl, step_spec (m + 1) l 3 a b c d d (by omega) (by omega) rfl, show (3 : Int) + 1 = 4 from rfl]
  simp only [spec_l04Word.l0, letters_spec]
  cases gW l 0 a <;> cases gW l 1 b <;> cases gW l 2 c <;> cases gW l 3 d <;> simp
theorem word_impl {k : Nat} (h : 5 ≤ k) (l a b c d : Int) : impl_ValidWord.f k l a b c d = some (okW l a b c d && decide (1 ≤ l ∧ l ≤ 4)) := by
  obtain ⟨m, rfl⟩ := fuel h
  unfold impl_ValidWord.f okW
  rw [letters_impl]
  simp only [Option.bind_some]
  rw [step_impl (m + 4) l 0 a b c d a (by omega) (by omega) rfl, show (0 : Int) + 1 = 1 from rfl, step_impl (m + 3) l 1 a b c d b (by omega) (by omega) rfl, show (1 : Int) + 1 = 2 from rfl, step_impl (m + 2) l 2 a b c d c (by omega) (by omega) rfl, show (2 : Int) + 1 = 3 from rfl, step_impl (m + 1) l 3 a b c d d (by omega) (by omega) rfl, show (3 : Int) + 1 = 4 from rfl]
  simp only [impl_ValidWord.l0]
  by_cases hl : 1 ≤ l ∧ l ≤ 4
  · cases gW l 0 a <;> cases gW l 1 b <;> cases gW l 2 c <;> cases gW l 3 d <;> simp [hl]
  · simp [hl]


theorem kind_spec (q : Int) : spec_l04Kind.f q = some (decide (0 ≤ q ∧ q ≤ 2)) := by
  unfold spec_l04Kind.f; rw [in_val]; rfl
theorem kind_impl (q : Int) : impl_isKind.f q = some (decide (0 ≤ q ∧ q ≤ 2)) := by
  unfold impl_isKind.f; rw [within_val]; rfl
def okL (p : Int) (l : List S41) : Bool := l.all fun x => okW p x.f0 x.f1 x.f2 x.f3
def okF (p q : Int) (l : List S41) : Bool := decide (1 ≤ p ∧ p ≤ 4) && (decide (0 ≤ q ∧ q ≤ 2) && (decide (1 ≤ (l.length : Int) ∧ (l.length : Int) ≤ 80) && okL p l))
theorem rdw_pre (pre : List S41) (x : S41) (suf : List S41) : rd_T41 (pre ++ x :: suf) (pre.length : Int) = x := by
  unfold rd_T41; simp [List.getD]

theorem ok_l0 (p q : Int) (hp : 1 ≤ p ∧ p ≤ 4) (l : List S41) (hl : l.length ≤ 1048576) : ∀ (suf pre : List S41) (k : Nat), l = pre ++ suf → suf.length + 6 ≤ k → spec_l04Ok.l0 k (pre.length : Int) p q l = some (okL p suf) := by
  intro suf
  induction suf with
  | nil =>
    intro pre k h hk
    obtain ⟨k, rfl⟩ := fuel (show 1 ≤ k by omega)
    simp only [List.append_nil] at h
    simp only [spec_l04Ok.l0]; rw [h, if_neg (by omega)]; rfl
  | cons x suf ih =>
    intro pre k h hk
    simp only [List.length_cons] at hk
    obtain ⟨k, rfl⟩ := fuel (show 1 ≤ k by omega)
    have hn : l.length = pre.length + (suf.length + 1) := by rw [h]; simp
    have e : rd_T41 l (pre.length : Int) = x := by rw [h]; exact rdw_pre pre x suf
    simp only [spec_l04Ok.l0]
    rw [if_pos (by omega), if_pos (by omega), e, show wrap64 p = p by unfold wrap64; omega, word_spec (by omega)]
    simp only [Option.bind_some]
    rw [wi (by omega) (by omega), show (pre.length : Int) + 1 = ((pre ++ [x]).length : Int) by simp, ih (pre ++ [x]) k (by simp [h]) (by omega)]
    cases hx : okW p x.f0 x.f1 x.f2 x.f3 <;> simp [okL, hx, hp]
theorem ix_l0 (p : Int) (hp : 1 ≤ p ∧ p ≤ 4) (l : List S41) (hl : l.length ≤ 1048576) : ∀ (suf pre : List S41) (k : Nat), l = pre ++ suf → suf.length + 6 ≤ k → ∃ r, impl_Word_50_at_43.l0 k l (l.length : Int) (pre.length : Int) p = some r ∧ decide (r ≥ 0) = !okL p suf := by
  intro suf
  induction suf with
  | nil =>
    intro pre k h hk
    obtain ⟨k, rfl⟩ := fuel (show 1 ≤ k by omega)
    simp only [List.append_nil] at h
    refine ⟨-1, ?_, rfl⟩
    simp only [impl_Word_50_at_43.l0]; rw [h, if_neg (by omega)]
  | cons x suf ih =>
    intro pre k h hk
    simp only [List.length_cons] at hk
    obtain ⟨k, rfl⟩ := fuel (show 1 ≤ k by omega)
    have hn : l.length = pre.length + (suf.length + 1) := by rw [h]; simp
    have e : rd_T41 l (pre.length : Int) = x := by rw [h]; exact rdw_pre pre x suf
    obtain ⟨r, hr, hr2⟩ := ih (pre ++ [x]) k (by simp [h]) (by omega)
    simp only [impl_Word_50_at_43.l0, impl_ValidFixed_1_43.f]
    rw [if_pos (by omega), if_pos (by omega), if_pos (by omega), e, word_impl (by omega)]
    simp only [Option.bind_some]
    rw [wi (by omega) (by omega), show (pre.length : Int) + 1 = ((pre ++ [x]).length : Int) by simp]
    cases hx : okW p x.f0 x.f1 x.f2 x.f3
    · refine ⟨(pre.length : Int), ?_, ?_⟩
      · simp
      · simp [okL, hx]
    · refine ⟨r, ?_, ?_⟩
      · rw [if_neg (by simp [hp])]; exact hr
      · rw [hr2]; simp [okL, hx]
theorem valid_spec {k : Nat} (p q : Int) (l : List S41) (hp : wrap64 p = p) (hq : wrap64 q = q) (hl : l.length ≤ 1048576) (h : l.length + 7 ≤ k) : spec_l04Ok.f k p q l = some (okF p q l) := by
  obtain ⟨k, rfl⟩ := fuel (show 1 ≤ k by omega)
  unfold spec_l04Ok.f
  rw [hp, hq, letters_spec, kind_spec, in_val]
  simp only [Option.bind_some, spec_l04Ok.j0]
  by_cases h1 : 1 ≤ p ∧ p ≤ 4
  · by_cases h2 : 0 ≤ q ∧ q ≤ 2
    · by_cases h3 : 1 ≤ (l.length : Int) ∧ (l.length : Int) ≤ 80
      · have := ok_l0 p q h1 l hl l [] k rfl (by omega)
        simp only [List.length_nil, Int.natCast_zero] at this
        simp [okF, h1, h2, h3, this]
      · simp [okF, h1, h2, h3]
    · simp [okF, h1, h2]
  · simp [okF, h1]
theorem valid_impl {k : Nat} (p q : Int) (l : List S41) (hp : wrap64 p = p) (hq : wrap64 q = q) (hl : l.length ≤ 1048576) (h : l.length + 7 ≤ k) : impl_ValidFixed.f k p q l = some (okF p q l) := by
  unfold impl_ValidFixed.f impl_Word_42_at_43.f impl_Word_50_at_43.f impl_Word_22.f
  rw [hp, hq, letters_impl, kind_impl]
  simp only [Option.bind_some]
  rw [within_val]
  simp only [Option.bind_some]
  by_cases h1 : 1 ≤ p ∧ p ≤ 4
  · by_cases h2 : 0 ≤ q ∧ q ≤ 2
    · by_cases h3 : 1 ≤ (l.length : Int) ∧ (l.length : Int) ≤ 80
      · obtain ⟨r, hr, hr2⟩ := ix_l0 p h1 l hl l [] k rfl (by omega)
        rw [show (([] : List S41).length : Int) = 0 from rfl] at hr
        rw [hr]
        simp only [Option.bind_some, hr2]
        simp [okF, h1, h2, h3]
      · simp [okF, h1, h2, h3]
    · simp [okF, h1, h2]
  · simp [okF, h1]

end Go.Proofs.Ytkieplebdbdigaa.Pure
