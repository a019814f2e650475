/- Plain laws: the distance of words, and the least of all pairs of cases, told by both at once. -/
import Derived.Test.YtkllpdekkhhhnaaMPureQ
-- IMPORTS
import Derived.Test.YtkllpdekkhhhnaaMx0
import Derived.Test.YtkllpdekkhhhnaaMx31
import Derived.Test.YtkllpdekkhhhnaaMx32
import Derived.Test.YtkllpdekkhhhnaaMx33
import Derived.Test.YtkllpdekkhhhnaaMx34
namespace Go.Proofs.Ytkllpdekkhhhnaa.Pure
open Go.RowKit Go.Proofs.Ytkllpdekkhhhnaa.M Go.Proofs.YtkllpdekkhhhnaaW.PrintWords Go.Proofs.YtkllpdekkhhhnaaW.PrintLast Go.Proofs.YtkllpdekkhhhnaaW.PrintMore
set_option linter.unusedVariables false
set_option linter.unusedSimpArgs false

theorem dist_eq (a b c d e f g h : Int) : ∀ (k : Nat) (x i : Int), spec_l04Distance.l0 k x i a b c d e f g h = impl_distance.l0 k x i a b c d e f g h := by
  intro k
  induction k with
  | zero => intro x i; simp only [spec_l04Distance.l0, impl_distance.l0]
  | succ k ih => intro x i; simp only [spec_l04Distance.l0, impl_distance.l0, ih]
theorem dist_l0 (a b c d e f g h : Int) : ∀ (n k : Nat) (x i : Int), 0 ≤ i → 4 - i ≤ n → n < k → ∃ v, impl_distance.l0 k x i a b c d e f g h = some v := by
  intro n
  induction n with
  | zero =>
    intro k x i h0 h1 h2
    obtain ⟨k, rfl⟩ := fuel (show 1 ≤ k by omega)
    refine ⟨x, ?_⟩
    simp only [impl_distance.l0]; rw [if_neg (by omega)]
  | succ n ih =>
    intro k x i h0 h1 h2
    obtain ⟨k, rfl⟩ := fuel (show 1 ≤ k by omega)
    simp only [impl_distance.l0]
    by_cases h4 : i < 4
    · rw [if_pos h4, if_pos h0, wi h0 (by omega)]
      split
      · exact ih k _ _ (by omega) (by omega) (by omega)
      · exact ih k _ _ (by omega) (by omega) (by omega)
    · rw [if_neg h4]; exact ⟨x, rfl⟩
theorem dist_val {k : Nat} (hk : 6 ≤ k) (a b c d e f g h : Int) : ∃ v, spec_l04Distance.f k a b c d e f g h = some v ∧ impl_distance.f k a b c d e f g h = some v := by
  obtain ⟨v, hv⟩ := dist_l0 a b c d e f g h 4 k 0 0 (by omega) (by omega) (by omega)
  refine ⟨v, ?_, ?_⟩
  · unfold spec_l04Distance.f; rw [dist_eq, hv]
  · unfold impl_distance.f; exact hv
theorem min_val (a b : Int) : spec_l00Min.f a b = some (mn a b) := by
  unfold spec_l00Min.f mn
  by_cases h : a < b
  · rw [if_pos h, if_neg (by omega)]
  · rw [if_neg h]
    by_cases h2 : b < a
    · rw [if_pos h2]
    · rw [if_neg h2, show a = b by omega]
theorem ld_l1 (p q : Int) (l : List S30) (cs : List S37) (hcs : ∀ x ∈ cs, x.f0 < l.length) (hn : cs.length ≤ 1000) (i : Nat) (hi : i < cs.length) (M : Nat)
    (next : ∀ k x, M + 8 ≤ k → ∃ v, spec_LeastDistance.l0 k cs x ((i + 1 : Nat) : Int) p q l = some (v, 0) ∧ impl_LeastDistance.l0 k cs x cs (cs.length : Int) ((i + 1 : Nat) : Int) p q l = some (v, 0)) :
    ∀ (e j k : Nat) (x : Int), j + e = i → M + 8 + e + 1 ≤ k → ∃ v, spec_LeastDistance.l1 k cs x (i : Int) (j : Int) p q l = some (v, 0) ∧ impl_LeastDistance.l1 k cs x cs (cs.length : Int) (i : Int) (cs.take i) (i : Int) (j : Int) p q l (rd_T37 cs (i : Int)).f0 (rd_T37 cs (i : Int)).f1 = some (v, 0) := by
  intro e
  induction e with
  | zero =>
    intro j k x h hk
    obtain ⟨k, rfl⟩ := fuel (show 1 ≤ k by omega)
    simp only [spec_LeastDistance.l1, impl_LeastDistance.l1]
    rw [if_neg (show ¬ (j : Int) < (i : Int) by omega), if_neg (show ¬ (j : Int) < (i : Int) by omega), wi (i := (i : Int)) (by omega) (by omega)]
    exact next k x (by omega)
  | succ e ih =>
    intro j k x h hk
    obtain ⟨k, rfl⟩ := fuel (show 1 ≤ k by omega)
    have hj : j < cs.length := by omega
    have et : rd_T37 (cs.take i) (j : Int) = cs[j] := by rw [rd_at _ (by simp; omega)]; simp
    have hb1 := hcs _ (List.getElem_mem hj)
    have hb2 := hcs _ (List.getElem_mem hi)
    obtain ⟨v, hv1, hv2⟩ := dist_val (k := k) (by omega) (seenL l cs[j].f0 cs[j].f1).1 (seenL l cs[j].f0 cs[j].f1).2.1 (seenL l cs[j].f0 cs[j].f1).2.2.1 (seenL l cs[j].f0 cs[j].f1).2.2.2 (seenL l cs[i].f0 cs[i].f1).1 (seenL l cs[i].f0 cs[i].f1).2.1 (seenL l cs[i].f0 cs[i].f1).2.2.1 (seenL l cs[i].f0 cs[i].f1).2.2.2
    have := ih (j + 1) k (mn x v) (by omega) (by omega)
    simp only [spec_LeastDistance.l1, impl_LeastDistance.l1]
    rw [rd_at cs hi] at this ⊢
    rw [rd_at cs hj, et]
    rw [if_pos (show (j : Int) < (i : Int) by omega), if_pos (show (0 : Int) ≤ (j : Int) by omega), if_pos (show (j : Int) < (cs.length : Int) by omega), seen_spec (by omega) p q l _ _ hb1, if_pos (show (j : Int) < (i : Int) by omega), if_pos (show (0 : Int) ≤ (j : Int) by omega), if_pos (show (j : Int) < ((cs.take i).length : Int) by simp; omega), seen_impl (by omega) p q l _ _ hb1]
    simp only [Option.bind_some]
    rw [if_pos (show (0 : Int) ≤ (i : Int) by omega), if_pos (show (i : Int) < (cs.length : Int) by omega), seen_spec (by omega) p q l _ _ hb2, seen_impl (by omega) p q l _ _ hb2]
    simp only [Option.bind_some]
    rw [hv1, hv2]
    simp only [Option.bind_some, min_val]
    rw [wi (i := (j : Int)) (by omega) (by omega), show (j : Int) + 1 = ((j + 1 : Nat) : Int) by omega]
    exact this
theorem ld_l0 (p q : Int) (l : List S30) (cs : List S37) (hcs : ∀ x ∈ cs, x.f0 < l.length) (hn : cs.length ≤ 1000) :
    ∀ (d i k : Nat) (x : Int), i + d = cs.length → d * (cs.length + 2) + 8 ≤ k → ∃ v, spec_LeastDistance.l0 k cs x (i : Int) p q l = some (v, 0) ∧ impl_LeastDistance.l0 k cs x cs (cs.length : Int) (i : Int) p q l = some (v, 0) := by
  intro d
  induction d with
  | zero =>
    intro i k x h hk
    obtain ⟨k, rfl⟩ := fuel (show 1 ≤ k by omega)
    simp only [spec_LeastDistance.l0, impl_LeastDistance.l0]
    rw [if_neg (show ¬ (i : Int) < (cs.length : Int) by omega), if_neg (show ¬ (i : Int) < (cs.length : Int) by omega)]
    exact ⟨x, rfl, rfl⟩
  | succ d ih =>
    intro i k x h hk
    rw [Nat.succ_mul] at hk
    obtain ⟨k, rfl⟩ := fuel (show 1 ≤ k by omega)
    have hi : i < cs.length := by omega
    have := ld_l1 p q l cs hcs hn i hi (d * (cs.length + 2)) (fun k x hk => ih (i + 1) k x (by omega) hk) i 0 k x (by omega) (by omega)
    simp only [spec_LeastDistance.l0, impl_LeastDistance.l0]
    rw [if_pos (show (i : Int) < (cs.length : Int) by omega), if_pos (show (i : Int) < (cs.length : Int) by omega), if_pos (show (0 : Int) ≤ (i : Int) by omega), if_pos (show (i : Int) < (cs.length : Int) by omega), if_pos (show (i : Int) ≤ (cs.length : Int) by omega)]
    simp only [Option.bind_some, Int.toNat_natCast, List.length_take]
    rw [show ((min i cs.length : Nat) : Int) = (i : Int) by omega]
    exact this
theorem ld_first (p q : Int) (l : List S30) (cs : List S37) (hn : 1 ≤ cs.length ∧ cs.length ≤ 1000) (k : Nat) (x : Int) : impl_LeastDistance.l0 (k + 2) cs x cs (cs.length : Int) 0 p q l = impl_LeastDistance.l0 k cs x cs (cs.length : Int) 1 p q l := by
  simp only [impl_LeastDistance.l0]
  rw [if_pos (show (0 : Int) < (cs.length : Int) by omega), if_pos (show (0 : Int) ≤ 0 by omega), if_pos (show (0 : Int) < (cs.length : Int) by omega), if_pos (show (0 : Int) ≤ (cs.length : Int) by omega)]
  simp only [Option.bind_some, Int.toNat_zero, List.take_zero, impl_LeastDistance.l1]
  rw [if_neg (by simp), wi (by omega) (by omega)]
  rfl
theorem ld_val {k : Nat} (p q : Int) (l : List S30) (hl : 1 ≤ l.length ∧ l.length ≤ 80) (hk : 100000 ≤ k) : ∃ v, spec_LeastDistance.l0 k (casesL q l.length) 4 1 p q l = some (v, 0) ∧ impl_LeastDistance.l0 (k + 2) (casesL q l.length) 4 (casesL q l.length) ((casesL q l.length).length : Int) 0 p q l = some (v, 0) := by
  have hc := casesL_len q l.length
  have h1 : 1 ≤ (casesL q l.length).length := by simp [casesL]
  have hm : ((casesL q l.length).length - 1) * ((casesL q l.length).length + 2) ≤ 161 * 163 := Nat.mul_le_mul (by omega) (by omega)
  obtain ⟨v, h2, h3⟩ := ld_l0 p q l (casesL q l.length) (cases_lt q l.length (by omega)) (by omega) ((casesL q l.length).length - 1) 1 k 4 (by omega) (by omega)
  exact ⟨v, h2, (ld_first p q l _ ⟨h1, by omega⟩ k 4).trans h3⟩
theorem spec_ld_up {k : Nat} {r : Int × Int} (p q : Int) (l : List S30) {cs : List S37} (h : spec_LeastDistance.l0 k cs 4 1 p q l = some r) : spec_LeastDistance.l0 (k + 2) cs 4 1 p q l = some r :=
  (spec_LeastDistance.mono_l (k + 1)).1 _ _ _ _ _ _ r ((spec_LeastDistance.mono_l k).1 _ _ _ _ _ _ r h)

end Go.Proofs.Ytkllpdekkhhhnaa.Pure
