/- Plain laws of words: what the functions on words come to. -/
-- IMPORTS
import Derived.Test.YteohhkfeeeifaaaMx0
import Derived.Test.YteohhkfeeeifaaaMx1
import Derived.Test.YteohhkfeeeifaaaMx2
import Derived.Test.YteohhkfeeeifaaaMx3
import Derived.Test.YteohhkfeeeifaaaMx5
import Derived.Test.YteohhkfeeeifaaaMx15
import Derived.Test.YteohhkfeeeifaaaMx16
import Derived.Test.YteohhkfeeeifaaaMx17
namespace Go.Proofs.Yteohhkfeeeifaaa.Pure
open Go.RowKit Go.Proofs.Yteohhkfeeeifaaa.M Go.Proofs.YteohhkfeeeifaaaW.PrintWords Go.Proofs.YteohhkfeeeifaaaW.PrintLast Go.Proofs.YteohhkfeeeifaaaW.PrintMore
set_option linter.unusedVariables false
set_option linter.unusedSimpArgs false

theorem wi {i : Int} (h0 : 0 ≤ i) (h1 : i ≤ 2000000000) : wrap64 (i + 1) = i + 1 := by unfold wrap64; omega
theorem rd0 (a b c d : Int) : rd [a, b, c, d] 0 = a := rfl
theorem rd1 (a b c d : Int) : rd [a, b, c, d] 1 = b := rfl
theorem rd2 (a b c d : Int) : rd [a, b, c, d] 2 = c := rfl
theorem rd3 (a b c d : Int) : rd [a, b, c, d] 3 = d := rfl
theorem fuel {k n : Nat} (h : n ≤ k) : ∃ m, k = m + n := ⟨k - n, by omega⟩
theorem wf8 {a : Int} (h : (Lit.int .i8 a).wf = true) : -128 ≤ a ∧ a ≤ 127 := by
  have h' : IntKind.i8.min ≤ a ∧ a ≤ IntKind.i8.max := by simpa [Lit.wf] using h
  exact h'
theorem w8in {x : Int} (h0 : -128 ≤ x) (h1 : x ≤ 127) : IntKind.i8.wrap x = x := by
  simp only [IntKind.wrap, IntKind.bits, IntKind.signed]; simp; split <;> omega

theorem toWord_val {k : Nat} (h : 5 ≤ k) (a b c d : Int) : laws_toWord.f k a b c d = some (a, b, c, d) := by
  obtain ⟨m, rfl⟩ := fuel h
  simp [laws_toWord.f, laws_toWord.l0, aup, rd, wrap64]

theorem eqWord_self {k : Nat} (h : 5 ≤ k) (a b c d : Int) : laws_eqWord.f k a b c d a b c d = some true := by
  obtain ⟨m, rfl⟩ := fuel h
  simp [laws_eqWord.f, laws_eqWord.l0, rd, wrap64]

theorem within_val (a b c : Int) : impl_within.f a b c = some (decide (b ≤ a ∧ a ≤ c)) := by
  unfold impl_within.f
  by_cases h : b ≤ a
  · rw [if_pos h]; simp [h]
  · rw [if_neg h]; simp [h]
theorem in_val (a b c : Int) : spec_l00In.f a b c = some (decide (b ≤ a ∧ a ≤ c)) := by
  unfold spec_l00In.f
  by_cases h : a ≥ b
  · rw [if_pos h]; simp [show b ≤ a from h]
  · rw [if_neg h]; simp [show ¬ b ≤ a from h]
theorem letters_spec (l : Int) : spec_l04Letters.f l = some (decide (1 ≤ l ∧ l ≤ 4)) := by
  unfold spec_l04Letters.f; rw [in_val]; rfl
theorem letters_impl (l : Int) : impl_areLetters.f l = some (decide (1 ≤ l ∧ l ≤ 4)) := by
  unfold impl_areLetters.f; rw [within_val]; rfl

/-- A letter at place i of a word of l letters. -/
def gW (l i x : Int) : Bool := decide (-1 ≤ x ∧ x ≤ 1 ∧ (l ≤ i → x = 0))
def okW (l a b c d : Int) : Bool := gW l 0 a && (gW l 1 b && (gW l 2 c && gW l 3 d))
theorem step_spec (k : Nat) (l i a b c d x : Int) (h0 : 0 ≤ i) (h4 : i < 4) (hx : rd [a, b, c, d] i = x) :
    spec_l04Word.l0 (k + 1) l i a b c d = if gW l i x = true then spec_l04Word.l0 k l (i + 1) a b c d else some false := by
  simp only [spec_l04Word.l0, hx]
  rw [if_pos h4, if_pos h0, wi h0 (by omega)]
  unfold gW
  by_cases h1 : x < -1
  · rw [if_pos h1, if_neg (by simp; omega)]
  · by_cases h2 : x > 1
    · rw [if_neg h1, if_pos h2, if_neg (by simp; omega)]
    · by_cases h3 : i ≥ l
      · by_cases h5 : x = 0
        · rw [if_neg h1, if_neg h2, if_pos h3, if_pos h5, if_pos (by simp; omega)]
        · rw [if_neg h1, if_neg h2, if_pos h3, if_neg h5, if_neg (by simp; omega)]
      · rw [if_neg h1, if_neg h2, if_neg h3, if_pos (by simp; omega)]
theorem step_impl (k : Nat) (l i a b c d x : Int) (h0 : 0 ≤ i) (h4 : i < 4) (hx : rd [a, b, c, d] i = x) :
    impl_ValidWord.l0 (k + 1) l i a b c d = if gW l i x = true then impl_ValidWord.l0 k l (i + 1) a b c d else some false := by
  simp only [impl_ValidWord.l0, hx]
  rw [if_pos h4, if_pos h0, wi h0 (by omega)]
  unfold gW
  by_cases h1 : x < -1
  · rw [if_pos h1, if_neg (by simp; omega)]
  · by_cases h2 : x > 1
    · rw [if_neg h1, if_pos h2, if_neg (by simp; omega)]
    · by_cases h3 : i ≥ l
      · by_cases h5 : x = 0
        · rw [if_neg h1, if_neg h2, if_pos h3, if_pos h5, if_pos (by simp; omega)]
        · rw [if_neg h1, if_neg h2, if_pos h3, if_neg h5, if_neg (by simp; omega)]
      · rw [if_neg h1, if_neg h2, if_neg h3, if_pos (by simp; omega)]
theorem word_spec {k : Nat} (h : 5 ≤ k) (l a b c d : Int) : spec_l04Word.f k l a b c d = some (okW l a b c d && decide (1 ≤ l ∧ l ≤ 4)) := by
  obtain ⟨m, rfl⟩ := fuel h
  unfold spec_l04Word.f okW
  rw [step_spec (m + 4) l 0 a b c d a (by omega) (by omega) rfl, show (0 : Int) + 1 = 1 from rfl, step_spec (m + 3) l 1 a b c d b (by omega) (by omega) rfl, show (1 : Int) + 1 = 2 from rfl, step_spec (m + 2) l 2 a b c d c (by omega) (by omega) rfl, show (2 : Int) + 1 = 3 from rfl, step_spec (m + 1) l 3 a b c d d (by omega) (by omega) rfl, show (3 : Int) + 1 = 4 from rfl]
  simp only [spec_l04Word.l0, letters_spec]
  cases gW l 0 a <;> cases gW l 1 b <;> cases gW l 2 c <;> cases gW l 3 d <;> simp
theorem word_impl {k : Nat} (h : 5 ≤ k) (l a b c d : Int) : impl_ValidWord.f k l a b c d = some (okW l a b c d && decide (1 ≤ l ∧ l ≤ 4)) := by
  obtain ⟨m, rfl⟩ := fuel h
  unfold impl_ValidWord.f okW
  rw [letters_impl]
  simp only [Option.bind_some]
  rw [step_impl (m + 4) l 0 a b c d a (by omega) (by omega) rfl, show (0 : Int) + 1 = 1 from rfl, step_impl (m + 3) l 1 a b c d b (by omega) (by omega) rfl, show (1 : Int) + 1 = 2 from rfl, step_impl (m + 2) l 2 a b c d c (by omega) (by omega) rfl, show (2 : Int) + 1 = 3 from rfl, step_impl (m + 1) l 3 a b c d d (by omega) (by omega) rfl, show (3 : Int) + 1 = 4 from rfl]
  simp only [impl_ValidWord.l0]
  by_cases hl : 1 ≤ l ∧ l ≤ 4
  · cases gW l 0 a <;> cases gW l 1 b <;> cases gW l 2 c <;> cases gW l 3 d <;> simp [hl]
  · simp [hl]

theorem eqWordS_l0 (l : List S24) (hl : l.length ≤ 1048576) : ∀ (d k : Nat) (i : Int), 0 ≤ i → (l.length : Int) - i ≤ d → d + 6 ≤ k → laws_eqWordS.l0 k l l i = some true := by
  intro d
  induction d with
  | zero =>
    intro k i h0 h1 h2
    obtain ⟨k, rfl⟩ := fuel (show 1 ≤ k by omega)
    simp only [laws_eqWordS.l0]; rw [if_neg (by omega)]
  | succ d ih =>
    intro k i h0 h1 h2
    obtain ⟨k, rfl⟩ := fuel (show 1 ≤ k by omega)
    simp only [laws_eqWordS.l0]
    by_cases h : i < (l.length : Int)
    · rw [if_pos h, if_pos h0, if_pos h, eqWord_self (by omega)]
      simp only [Option.bind_some]
      rw [if_pos trivial, wi h0 (by omega)]
      exact ih k (i + 1) (by omega) (by omega) (by omega)
    · rw [if_neg h]
theorem eqFixed_self {k : Nat} (p q : Int) (l : List S24) (hl : l.length ≤ 1048576) (h : l.length + 6 ≤ k) : laws_eqFixed.f k p q l p q l = some true := by
  unfold laws_eqFixed.f laws_eqWordS.f
  rw [if_pos rfl, if_pos rfl, if_pos rfl, eqWordS_l0 l hl l.length k 0 (by omega) (by omega) h]
  rfl

end Go.Proofs.Yteohhkfeeeifaaa.Pure
