/- Plain laws: the cases of a fixed plan; what is seen of a case. -/
import Derived.Test.YtkieplebdbdigaaMPureV
-- IMPORTS
import Derived.Test.YtkieplebdbdigaaMx0
import Derived.Test.YtkieplebdbdigaaMx7
import Derived.Test.YtkieplebdbdigaaMx8
import Derived.Test.YtkieplebdbdigaaMx9
import Derived.Test.YtkieplebdbdigaaMx10
import Derived.Test.YtkieplebdbdigaaMx12
import Derived.Test.YtkieplebdbdigaaMx14
import Derived.Test.YtkieplebdbdigaaMx15
namespace Go.Proofs.Ytkieplebdbdigaa.Pure
open Go.RowKit Go.Proofs.Ytkieplebdbdigaa.M Go.Proofs.YtkieplebdbdigaaW.PrintWords Go.Proofs.YtkieplebdbdigaaW.PrintLast Go.Proofs.YtkieplebdbdigaaW.PrintMore
set_option linter.unusedVariables false
set_option linter.unusedSimpArgs false

theorem w8in {x : Int} (h0 : -128 ≤ x) (h1 : x ≤ 127) : IntKind.i8.wrap x = x := by
  simp only [IntKind.wrap, IntKind.bits, IntKind.signed]; simp; split <;> omega
/-- The cases of one coin. -/
def one (q : Int) (i : Nat) : List S38 := (if q = 1 then [] else [⟨(i : Int), true⟩]) ++ (if q = 0 then [] else [⟨(i : Int), false⟩])
def casesL (q : Int) (n : Nat) : List S38 := (⟨-1, false⟩ : S38) :: (List.range' 0 n).flatMap (one q)
theorem one_len (q : Int) (i : Nat) : (one q i).length ≤ 2 := by
  unfold one; split <;> split <;> simp
theorem impl_cases_l0 (q : Int) (n : Nat) (hn : n ≤ 80) : ∀ (d i k : Nat) (acc : List S38), i + d = n → d < k → acc.length + 2 * d ≤ 1000 → impl_casesOf.l0 k q acc (n : Int) (i : Int) = some (acc ++ (List.range' i d).flatMap (one q)) := by
  intro d
  induction d with
  | zero =>
    intro i k acc h hk ha
    obtain ⟨k, rfl⟩ := fuel (show 1 ≤ k by omega)
    simp only [impl_casesOf.l0]; rw [if_neg (by omega)]; simp
  | succ d ih =>
    intro i k acc h hk ha
    obtain ⟨k, rfl⟩ := fuel (show 1 ≤ k by omega)
    have e8 : IntKind.i8.wrap (i : Int) = (i : Int) := w8in (by omega) (by omega)
    have key : ∀ acc' : List S38, acc' = acc ++ one q i → impl_casesOf.l0 k q acc' (n : Int) (wrap64 ((i : Int) + 1)) = some (acc ++ (List.range' i (d + 1)).flatMap (one q)) := by
      intro acc' e
      have hl := one_len q i
      rw [wi (by omega) (by omega), show (i : Int) + 1 = ((i + 1 : Nat) : Int) by omega, ih (i + 1) k acc' (by omega) (by omega) (by rw [e]; simp; omega), e]
      simp [List.range'_succ]
    simp only [impl_casesOf.l0, e8]
    rw [if_pos (show (i : Int) < (n : Int) by omega)]
    by_cases h1 : q = 1
    · rw [if_pos h1, if_neg (show ¬ q = 0 by omega), if_pos (by omega)]
      exact key _ (by simp [one, h1])
    · rw [if_neg h1, if_pos (by omega)]
      simp only [Option.bind_some]
      by_cases h2 : q = 0
      · rw [if_pos h2]
        exact key _ (by simp [one, h2])
      · rw [if_neg h2, if_pos (by simp; omega)]
        exact key _ (by simp [one, h1, h2])
theorem spec_cases_l0 (q : Int) (g : Bool) (z : Bool) (n : Nat) (hn : n ≤ 80) : ∀ (d i k : Nat) (acc : List S38), i + d = n → d < k → acc.length + 2 * d ≤ 1000 → spec_l03Cases.l0 k acc (i : Int) (n : Int) q g z = some (acc ++ (List.range' i d).flatMap (one q)) := by
  intro d
  induction d with
  | zero =>
    intro i k acc h hk ha
    obtain ⟨k, rfl⟩ := fuel (show 1 ≤ k by omega)
    simp only [spec_l03Cases.l0]; rw [if_neg (by omega)]; simp
  | succ d ih =>
    intro i k acc h hk ha
    obtain ⟨k, rfl⟩ := fuel (show 1 ≤ k by omega)
    have key : ∀ acc' : List S38, acc' = acc ++ one q i → spec_l03Cases.l0 k acc' (IntKind.i8.wrap ((i : Int) + 1)) (n : Int) q g z = some (acc ++ (List.range' i (d + 1)).flatMap (one q)) := by
      intro acc' e
      have hl := one_len q i
      rw [w8in (by omega) (by omega), show (i : Int) + 1 = ((i + 1 : Nat) : Int) by omega, ih (i + 1) k acc' (by omega) (by omega) (by rw [e]; simp; omega), e]
      simp [List.range'_succ]
    simp only [spec_l03Cases.l0]
    rw [if_pos (show (i : Int) < (n : Int) by omega)]
    by_cases h1 : q = 1
    · rw [if_pos h1, if_neg (show ¬ q = 0 by omega), if_pos (by omega)]
      exact key _ (by simp [one, h1])
    · rw [if_neg h1, if_pos (by omega)]
      simp only [Option.bind_some]
      by_cases h2 : q = 0
      · rw [if_pos h2]
        exact key _ (by simp [one, h2])
      · rw [if_neg h2, if_pos (by simp; omega)]
        exact key _ (by simp [one, h1, h2])
theorem cases_impl {k : Nat} (p q : Int) (l : List S41) (hl : l.length ≤ 80) (hk : l.length + 3 ≤ k) : impl_Fixed_cases.f k p q l = some (casesL q l.length) := by
  obtain ⟨k, rfl⟩ := fuel (show 1 ≤ k by omega)
  unfold impl_Fixed_cases.f impl_Word_22.f impl_casesOf.f
  have := impl_cases_l0 q l.length hl l.length 0 k [⟨-1, false⟩] (by omega) (by omega) (by simp; omega)
  simp only [Int.natCast_zero] at this
  simp [impl_casesOf.j0, this, casesL]
theorem cases_spec {k : Nat} (p q : Int) (l : List S41) (hl : l.length ≤ 80) (hk : l.length + 3 ≤ k) : spec_l04Cases.f k p q l = some (casesL q l.length) := by
  obtain ⟨k, rfl⟩ := fuel (show 1 ≤ k by omega)
  unfold spec_l04Cases.f spec_l03Cases.f
  have := spec_cases_l0 q true false l.length hl l.length 0 k [⟨-1, false⟩] (by omega) (by omega) (by simp; omega)
  simp only [Int.natCast_zero] at this
  rw [w8in (by omega) (by omega)]
  simp [spec_l03Cases.j0, this, casesL]
theorem casesL_len (q : Int) (n : Nat) : (casesL q n).length ≤ 2 * n + 1 := by
  have : ∀ (d i : Nat), ((List.range' i d).flatMap (one q)).length ≤ 2 * d := by
    intro d
    induction d with
    | zero => intro i; simp
    | succ d ih => intro i; have := ih (i + 1); have h2 := one_len q i; simp only [List.range'_succ, List.flatMap_cons, List.length_append]; omega
  have := this n 0
  simp only [casesL, List.length_cons]; omega
theorem mem_cases (q : Int) (n : Nat) (x : S38) : x ∈ casesL q n ↔ x = ⟨-1, false⟩ ∨ ∃ i < n, x ∈ one q i := by
  simp [casesL, List.mem_flatMap]

def n8 (a : Int) : Int := IntKind.i8.wrap (-a)
theorem opp_spec {k : Nat} (h : 5 ≤ k) (a b c d : Int) : spec_l04Opposite.f k a b c d = some (n8 a, n8 b, n8 c, n8 d) := by
  obtain ⟨m, rfl⟩ := fuel h
  simp [spec_l04Opposite.f, spec_l04Opposite.l0, aup, rd, wrap64, n8]
theorem opp_impl {k : Nat} (h : 5 ≤ k) (a b c d : Int) : impl_OppositeWord_49.f k a b c d = some (n8 a, n8 b, n8 c, n8 d) := by
  obtain ⟨m, rfl⟩ := fuel h
  simp [impl_OppositeWord_49.f, impl_OppositeWord_49.l0, aup, rd, wrap64, n8]
/-- What is seen of a case. -/
def seenL (l : List S41) (e : Int) (f : Bool) : Int × Int × Int × Int :=
  if e < 0 then (0, 0, 0, 0) else if f = true then ((rd_T41 l e).f0, (rd_T41 l e).f1, (rd_T41 l e).f2, (rd_T41 l e).f3) else (n8 (rd_T41 l e).f0, n8 (rd_T41 l e).f1, n8 (rd_T41 l e).f2, n8 (rd_T41 l e).f3)
theorem seen_spec {k : Nat} (h : 5 ≤ k) (p q : Int) (l : List S41) (e : Int) (f : Bool) (he : e < l.length) : spec_l04Seen.f k p q l e f = some (seenL l e f) := by
  unfold spec_l04Seen.f seenL
  by_cases h0 : e < 0
  · rw [if_pos h0, if_pos h0]
  · rw [if_neg h0, if_neg h0, opp_spec h]
    cases f <;> simp [he, show 0 ≤ e by omega]
theorem seen_impl {k : Nat} (h : 5 ≤ k) (p q : Int) (l : List S41) (e : Int) (f : Bool) (he : e < l.length) : impl_Fixed_seen_37.f k p q l e f = some (seenL l e f) := by
  unfold impl_Fixed_seen_37.f seenL
  by_cases h0 : e < 0
  · rw [if_pos h0, if_pos h0]
  · rw [if_neg h0, if_neg h0, opp_impl h]
    cases f <;> simp [he, show 0 ≤ e by omega]

end Go.Proofs.Ytkieplebdbdigaa.Pure
