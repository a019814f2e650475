/- Plain laws: two cases that are seen alike, found by both at once. -/
import Derived.Test.YtkllpdekkhhhnaaMPureS
-- IMPORTS
import Derived.Test.YtkllpdekkhhhnaaMx0
import Derived.Test.YtkllpdekkhhhnaaMx18
import Derived.Test.YtkllpdekkhhhnaaMx19
namespace Go.Proofs.Ytkllpdekkhhhnaa.Pure
open Go.RowKit Go.Proofs.Ytkllpdekkhhhnaa.M Go.Proofs.YtkllpdekkhhhnaaW.PrintWords Go.Proofs.YtkllpdekkhhhnaaW.PrintLast Go.Proofs.YtkllpdekkhhhnaaW.PrintMore
set_option linter.unusedVariables false
set_option linter.unusedSimpArgs false


theorem cases_lt (q : Int) (n : Nat) (hn : 0 < n) : ∀ x ∈ casesL q n, x.f0 < n := by
  intro x hx
  rw [mem_cases] at hx
  rcases hx with rfl | ⟨i, hi, h⟩
  · show (-1 : Int) < n; omega
  · unfold one at h
    by_cases h1 : q = 1 <;> by_cases h2 : q = 0 <;> simp [h1, h2] at h
    · omega
    · rw [h]; show (i : Int) < n; omega
    · rw [h]; show (i : Int) < n; omega
    · rcases h with h | h <;> rw [h] <;> show (i : Int) < n <;> omega
def Rel (s : Option (Int × Bool × Int × Bool × Bool)) (t : Option (Int × Bool × Int × Bool × Int)) : Prop := ∃ a b c d e, s = some (a, b, c, d, e) ∧ t = some (a, b, c, d, if e = true then 0 else 6) ∧ (e = false → a = 0 ∧ b = false ∧ c = 0 ∧ d = false)
theorem rd_at (l : List S37) {i : Nat} (h : i < l.length) : rd_T37 l (i : Int) = l[i] := by
  unfold rd_T37; simp [List.getD, h]
theorem conf_l1 (p q : Int) (l : List S30) (cs : List S37) (hcs : ∀ x ∈ cs, x.f0 < l.length) (hn : cs.length ≤ 1000) (i : Nat) (hi : i < cs.length) (M : Nat)
    (next : ∀ k, M + 8 ≤ k → Rel (spec_l04Confused.l0 k cs ((i + 1 : Nat) : Int) p q l) (impl_Confused.l0 k cs cs (cs.length : Int) ((i + 1 : Nat) : Int) p q l)) :
    ∀ (e j k : Nat), j + e = i → M + 8 + e + 1 ≤ k → Rel (spec_l04Confused.l1 k cs (i : Int) (j : Int) p q l) (impl_Confused.l1 k cs cs (cs.length : Int) (i : Int) (cs.take i) (i : Int) (j : Int) p q l (rd_T37 cs (i : Int)).f0 (rd_T37 cs (i : Int)).f1) := by
  intro e
  induction e with
  | zero =>
    intro j k h hk
    obtain ⟨k, rfl⟩ := fuel (show 1 ≤ k by omega)
    simp only [spec_l04Confused.l1, impl_Confused.l1]
    rw [if_neg (show ¬ (j : Int) < (i : Int) by omega), if_neg (show ¬ (j : Int) < (i : Int) by omega), wi (i := (i : Int)) (by omega) (by omega)]
    exact next k (by omega)
  | succ e ih =>
    intro j k h hk
    obtain ⟨k, rfl⟩ := fuel (show 1 ≤ k by omega)
    have hj : j < cs.length := by omega
    have et : rd_T37 (cs.take i) (j : Int) = cs[j] := by rw [rd_at _ (by simp; omega)]; simp
    have hb1 := hcs _ (List.getElem_mem hj)
    have hb2 := hcs _ (List.getElem_mem hi)
    have := ih (j + 1) k (by omega) (by omega)
    simp only [spec_l04Confused.l1, impl_Confused.l1]
    rw [rd_at cs hi] at this ⊢
    rw [rd_at cs hj, et]
    rw [if_pos (show (j : Int) < (i : Int) by omega), if_pos (show (0 : Int) ≤ (j : Int) by omega), if_pos (show (j : Int) < (cs.length : Int) by omega), seen_spec (by omega) p q l _ _ hb1, if_pos (show (j : Int) < (i : Int) by omega), if_pos (show (0 : Int) ≤ (j : Int) by omega), if_pos (show (j : Int) < ((cs.take i).length : Int) by simp; omega), seen_impl (by omega) p q l _ _ hb1]
    simp only [Option.bind_some]
    rw [if_pos (show (0 : Int) ≤ (i : Int) by omega), if_pos (show (i : Int) < (cs.length : Int) by omega), seen_spec (by omega) p q l _ _ hb2, seen_impl (by omega) p q l _ _ hb2]
    simp only [Option.bind_some]
    rw [wi (i := (j : Int)) (by omega) (by omega), show (j : Int) + 1 = ((j + 1 : Nat) : Int) by omega]
    by_cases hs : ((seenL l cs[j].f0 cs[j].f1).1 == (seenL l cs[i].f0 cs[i].f1).1 && ((seenL l cs[j].f0 cs[j].f1).2.1 == (seenL l cs[i].f0 cs[i].f1).2.1 && ((seenL l cs[j].f0 cs[j].f1).2.2.1 == (seenL l cs[i].f0 cs[i].f1).2.2.1 && ((seenL l cs[j].f0 cs[j].f1).2.2.2 == (seenL l cs[i].f0 cs[i].f1).2.2.2)))) = true
    · rw [if_pos hs, if_pos hs]; exact ⟨_, _, _, _, true, rfl, rfl, fun h => by cases h⟩
    · rw [if_neg hs, if_neg hs]; exact this
theorem conf_l0 (p q : Int) (l : List S30) (cs : List S37) (hcs : ∀ x ∈ cs, x.f0 < l.length) (hn : cs.length ≤ 1000) :
    ∀ (d i k : Nat), i + d = cs.length → d * (cs.length + 2) + 8 ≤ k → Rel (spec_l04Confused.l0 k cs (i : Int) p q l) (impl_Confused.l0 k cs cs (cs.length : Int) (i : Int) p q l) := by
  intro d
  induction d with
  | zero =>
    intro i k h hk
    obtain ⟨k, rfl⟩ := fuel (show 1 ≤ k by omega)
    simp only [spec_l04Confused.l0, impl_Confused.l0]
    rw [if_neg (show ¬ (i : Int) < (cs.length : Int) by omega), if_neg (show ¬ (i : Int) < (cs.length : Int) by omega)]
    exact ⟨_, _, _, _, false, rfl, rfl, fun _ => ⟨rfl, rfl, rfl, rfl⟩⟩
  | succ d ih =>
    intro i k h hk
    rw [Nat.succ_mul] at hk
    obtain ⟨k, rfl⟩ := fuel (show 1 ≤ k by omega)
    have hi : i < cs.length := by omega
    have := conf_l1 p q l cs hcs hn i hi (d * (cs.length + 2)) (fun k hk => ih (i + 1) k (by omega) hk) i 0 k (by omega) (by omega)
    simp only [spec_l04Confused.l0, impl_Confused.l0]
    rw [if_pos (show (i : Int) < (cs.length : Int) by omega), if_pos (show (i : Int) < (cs.length : Int) by omega), if_pos (show (0 : Int) ≤ (i : Int) by omega), if_pos (show (i : Int) < (cs.length : Int) by omega), if_pos (show (i : Int) ≤ (cs.length : Int) by omega)]
    simp only [Option.bind_some, Int.toNat_natCast, List.length_take]
    rw [show ((min i cs.length : Nat) : Int) = (i : Int) by omega]
    exact this
theorem conf_first (p q : Int) (l : List S30) (cs : List S37) (hn : 1 ≤ cs.length ∧ cs.length ≤ 1000) (k : Nat) : impl_Confused.l0 (k + 2) cs cs (cs.length : Int) 0 p q l = impl_Confused.l0 k cs cs (cs.length : Int) 1 p q l := by
  simp only [impl_Confused.l0]
  rw [if_pos (show (0 : Int) < (cs.length : Int) by omega), if_pos (show (0 : Int) ≤ 0 by omega), if_pos (show (0 : Int) < (cs.length : Int) by omega), if_pos (show (0 : Int) ≤ (cs.length : Int) by omega)]
  simp only [Option.bind_some, Int.toNat_zero, List.take_zero, impl_Confused.l1]
  rw [if_neg (by simp), wi (by omega) (by omega)]
  rfl
theorem conf_val {k : Nat} (p q : Int) (l : List S30) (hl : 1 ≤ l.length ∧ l.length ≤ 80) (hk : 100000 ≤ k) : ∃ a b c d e, spec_l04Confused.f k p q l = some (a, b, c, d, e) ∧ impl_Confused.l0 k (casesL q l.length) (casesL q l.length) ((casesL q l.length).length : Int) 0 p q l = some (a, b, c, d, if e = true then 0 else 6) ∧ (e = false → a = 0 ∧ b = false ∧ c = 0 ∧ d = false) := by
  have hc := casesL_len q l.length
  have h1 : 1 ≤ (casesL q l.length).length := by simp [casesL]
  obtain ⟨k, rfl⟩ := fuel (show 2 ≤ k by omega)
  have hm : ((casesL q l.length).length - 1) * ((casesL q l.length).length + 2) ≤ 161 * 163 := Nat.mul_le_mul (by omega) (by omega)
  obtain ⟨a, b, c, d, e, g1, g2, g3⟩ := conf_l0 p q l (casesL q l.length) (cases_lt q l.length (by omega)) (by omega) ((casesL q l.length).length - 1) 1 k (by omega) (by omega)
  refine ⟨a, b, c, d, e, ?_, ?_, g3⟩
  · unfold spec_l04Confused.f
    rw [cases_spec p q l hl.2 (by omega)]
    exact (spec_l04Confused.mono_l (k + 1)).1 _ _ _ _ _ _ ((spec_l04Confused.mono_l k).1 _ _ _ _ _ _ g1)
  · rw [conf_first p q l _ ⟨h1, by omega⟩ k]
    exact g2

end Go.Proofs.Ytkllpdekkhhhnaa.Pure
