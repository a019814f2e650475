/- Plain laws: the water with a number, as both come to it. -/
import Derived.Test.YtodmfjophjhbeaaMPureS
-- IMPORTS
import Derived.Test.YtodmfjophjhbeaaMx6
import Derived.Test.YtodmfjophjhbeaaMx17
namespace Go.Proofs.Ytodmfjophjhbeaa.Pure
open Go.RowKit Go.Proofs.Ytodmfjophjhbeaa.M Go.Proofs.YtodmfjophjhbeaaW.PrintWords Go.Proofs.YtodmfjophjhbeaaW.PrintLast Go.Proofs.YtodmfjophjhbeaaW.PrintMore
set_option linter.unusedVariables false
set_option linter.unusedSimpArgs false

theorem at_num {y x : Int} (y0 : 0 ≤ y) (y1 : y ≤ 10000000) (hx : 1 ≤ x ∧ x ≤ 60) :
    ¬ wrap64 (wrap64 x + 1) = 0 ∧ wrap64 (Int.tdiv y (wrap64 (wrap64 x + 1))) = y / (x + 1) ∧ IntKind.i16.wrap (Int.tmod y (wrap64 (wrap64 x + 1))) = y % (x + 1) ∧ 0 ≤ y / (x + 1) ∧ y / (x + 1) ≤ 10000000 := by
  have e1 : wrap64 x = x := by unfold wrap64; omega
  have e2 : wrap64 (x + 1) = x + 1 := by unfold wrap64; omega
  rw [e1, e2, Int.tdiv_eq_ediv_of_nonneg y0, Int.tmod_eq_emod_of_nonneg y0]
  have d0 : 0 ≤ y / (x + 1) := Int.ediv_nonneg y0 (by omega)
  have d1 : y / (x + 1) ≤ y := Int.ediv_le_self _ y0
  have m0 : 0 ≤ y % (x + 1) := Int.emod_nonneg _ (by omega)
  have m1 : y % (x + 1) < x + 1 := Int.emod_lt_of_pos y (by omega)
  exact ⟨by omega, by unfold wrap64; omega, wrap16_in (by omega) (by omega), d0, by omega⟩
theorem sat_step (k : Nat) (l : List Int) (x : Int) (p q s t : Int) (z : Bool) (a b c d y i : Int) (h0 : 0 ≤ i) (h1 : i < (l.length : Int)) (h4 : i < 4) (y0 : 0 ≤ y) (y1 : y ≤ 10000000) (ex : rd l i = x) (hx : 1 ≤ x ∧ x ≤ 60) :
    spec_l02At.l0 (k + 1) y i l p q s t z a b c d = spec_l02At.l0 k (y / (x + 1)) (i + 1) l p q s t z (aup i 0 (y % (x + 1)) a) (aup i 1 (y % (x + 1)) b) (aup i 2 (y % (x + 1)) c) (aup i 3 (y % (x + 1)) d) := by
  obtain ⟨n0, n1, n2, _, _⟩ := at_num y0 y1 hx
  simp only [spec_l02At.l0, ex]
  rw [if_pos h1, if_pos h0, if_neg n0, if_pos h4, n1, n2, wi h0 (by omega)]
theorem iat_step (k : Nat) (l : List Int) (x : Int) (a b c d y i : Int) (h0 : 0 ≤ i) (h1 : i < (l.length : Int)) (h4 : i < 4) (y0 : 0 ≤ y) (y1 : y ≤ 10000000) (ex : rd l i = x) (hx : 1 ≤ x ∧ x ≤ 60) :
    impl_Puzzle_at.l0 (k + 1) y l (l.length : Int) i a b c d = impl_Puzzle_at.l0 k (y / (x + 1)) l (l.length : Int) (i + 1) (aup i 0 (y % (x + 1)) a) (aup i 1 (y % (x + 1)) b) (aup i 2 (y % (x + 1)) c) (aup i 3 (y % (x + 1)) d) := by
  obtain ⟨n0, n1, n2, _, _⟩ := at_num y0 y1 hx
  simp only [impl_Puzzle_at.l0, ex]
  rw [if_pos h1, if_pos h0, if_pos h1, if_neg n0, if_pos h4, n1, n2, wi h0 (by omega)]
theorem sat_end (k : Nat) (l : List Int) (p q s t : Int) (z : Bool) (a b c d y i : Int) (h1 : ¬ i < (l.length : Int)) : spec_l02At.l0 (k + 1) y i l p q s t z a b c d = some (a, b, c, d) := by
  simp only [spec_l02At.l0]
  rw [if_neg h1]
theorem iat_end (k : Nat) (l : List Int) (a b c d y i : Int) (h1 : ¬ i < (l.length : Int)) : impl_Puzzle_at.l0 (k + 1) y l (l.length : Int) i a b c d = some (a, b, c, d) := by
  simp only [impl_Puzzle_at.l0]
  rw [if_neg h1]
/-- Both waters with a number. -/
theorem at_val {k : Nat} (hk : 10 ≤ k) (l : List Int) (h1 : 1 ≤ (l.length : Int)) (h4 : (l.length : Int) ≤ 4) (hj : okJ l = true) (p q s t : Int) (z : Bool) (y : Int) (y0 : 0 ≤ y) (y1 : y ≤ 10000000) :
    spec_l02At.f k l p q s t z y = some (rd (atR l y) 0, rd (atR l y) 1, rd (atR l y) 2, rd (atR l y) 3) ∧ impl_Puzzle_at.f k l p q s t z y = some (rd (atR l y) 0, rd (atR l y) 1, rd (atR l y) 2, rd (atR l y) 3) := by
  obtain ⟨k, rfl⟩ := fuel hk
  have A := fun (y x : Int) (y0 : 0 ≤ y) (y1 : y ≤ 10000000) (hx : 1 ≤ x ∧ x ≤ 60) => (at_num y0 y1 hx).2.2.2
  revert hj
  refine four (P := fun l => okJ l = true → spec_l02At.f (k + 10) l p q s t z y = some (rd (atR l y) 0, rd (atR l y) 1, rd (atR l y) 2, rd (atR l y) 3) ∧ impl_Puzzle_at.f (k + 10) l p q s t z y = some (rd (atR l y) 0, rd (atR l y) 1, rd (atR l y) 2, rd (atR l y) 3)) l h1 h4 ?_ ?_ ?_ ?_
  · intro x0 hj
    have hb := okJ_mem hj
    have b0 := hb x0 (by simp)
    unfold spec_l02At.f impl_Puzzle_at.f
    rw [sat_step _ [x0] x0 _ _ _ _ _ _ _ _ _ _ 0 (by omega) (by simp) (by omega) y0 y1 rfl b0, sat_end _ _ _ _ _ _ _ _ _ _ _ _ _ (by simp)]
    rw [iat_step _ [x0] x0 _ _ _ _ _ 0 (by omega) (by simp) (by omega) y0 y1 rfl b0, iat_end _ _ _ _ _ _ _ _ (by simp)]
    simp [rd, atR, aup]
  · intro x0 x1 hj
    have hb := okJ_mem hj
    have b0 := hb x0 (by simp)
    have b1 := hb x1 (by simp)
    obtain ⟨u0, u1⟩ := A y x0 y0 y1 b0
    unfold spec_l02At.f impl_Puzzle_at.f
    rw [sat_step _ [x0, x1] x0 _ _ _ _ _ _ _ _ _ _ 0 (by omega) (by simp) (by omega) y0 y1 rfl b0, sat_step _ [x0, x1] x1 _ _ _ _ _ _ _ _ _ _ (0 + 1) (by omega) (by simp) (by omega) u0 u1 rfl b1, sat_end _ _ _ _ _ _ _ _ _ _ _ _ _ (by simp)]
    rw [iat_step _ [x0, x1] x0 _ _ _ _ _ 0 (by omega) (by simp) (by omega) y0 y1 rfl b0, iat_step _ [x0, x1] x1 _ _ _ _ _ (0 + 1) (by omega) (by simp) (by omega) u0 u1 rfl b1, iat_end _ _ _ _ _ _ _ _ (by simp)]
    simp [rd, atR, aup]
  · intro x0 x1 x2 hj
    have hb := okJ_mem hj
    have b0 := hb x0 (by simp)
    have b1 := hb x1 (by simp)
    have b2 := hb x2 (by simp)
    obtain ⟨u0, u1⟩ := A y x0 y0 y1 b0
    obtain ⟨v0, v1⟩ := A (y / (x0 + 1)) x1 u0 u1 b1
    unfold spec_l02At.f impl_Puzzle_at.f
    rw [sat_step _ [x0, x1, x2] x0 _ _ _ _ _ _ _ _ _ _ 0 (by omega) (by simp) (by omega) y0 y1 rfl b0, sat_step _ [x0, x1, x2] x1 _ _ _ _ _ _ _ _ _ _ (0 + 1) (by omega) (by simp) (by omega) u0 u1 rfl b1, sat_step _ [x0, x1, x2] x2 _ _ _ _ _ _ _ _ _ _ (0 + 1 + 1) (by omega) (by simp) (by omega) v0 v1 rfl b2, sat_end _ _ _ _ _ _ _ _ _ _ _ _ _ (by simp)]
    rw [iat_step _ [x0, x1, x2] x0 _ _ _ _ _ 0 (by omega) (by simp) (by omega) y0 y1 rfl b0, iat_step _ [x0, x1, x2] x1 _ _ _ _ _ (0 + 1) (by omega) (by simp) (by omega) u0 u1 rfl b1, iat_step _ [x0, x1, x2] x2 _ _ _ _ _ (0 + 1 + 1) (by omega) (by simp) (by omega) v0 v1 rfl b2, iat_end _ _ _ _ _ _ _ _ (by simp)]
    simp [rd, atR, aup]
  · intro x0 x1 x2 x3 hj
    have hb := okJ_mem hj
    have b0 := hb x0 (by simp)
    have b1 := hb x1 (by simp)
    have b2 := hb x2 (by simp)
    have b3 := hb x3 (by simp)
    obtain ⟨u0, u1⟩ := A y x0 y0 y1 b0
    obtain ⟨v0, v1⟩ := A (y / (x0 + 1)) x1 u0 u1 b1
    obtain ⟨w0, w1⟩ := A (y / (x0 + 1) / (x1 + 1)) x2 v0 v1 b2
    unfold spec_l02At.f impl_Puzzle_at.f
    rw [sat_step _ [x0, x1, x2, x3] x0 _ _ _ _ _ _ _ _ _ _ 0 (by omega) (by simp) (by omega) y0 y1 rfl b0, sat_step _ [x0, x1, x2, x3] x1 _ _ _ _ _ _ _ _ _ _ (0 + 1) (by omega) (by simp) (by omega) u0 u1 rfl b1, sat_step _ [x0, x1, x2, x3] x2 _ _ _ _ _ _ _ _ _ _ (0 + 1 + 1) (by omega) (by simp) (by omega) v0 v1 rfl b2, sat_step _ [x0, x1, x2, x3] x3 _ _ _ _ _ _ _ _ _ _ (0 + 1 + 1 + 1) (by omega) (by simp) (by omega) w0 w1 rfl b3, sat_end _ _ _ _ _ _ _ _ _ _ _ _ _ (by simp)]
    rw [iat_step _ [x0, x1, x2, x3] x0 _ _ _ _ _ 0 (by omega) (by simp) (by omega) y0 y1 rfl b0, iat_step _ [x0, x1, x2, x3] x1 _ _ _ _ _ (0 + 1) (by omega) (by simp) (by omega) u0 u1 rfl b1, iat_step _ [x0, x1, x2, x3] x2 _ _ _ _ _ (0 + 1 + 1) (by omega) (by simp) (by omega) v0 v1 rfl b2, iat_step _ [x0, x1, x2, x3] x3 _ _ _ _ _ (0 + 1 + 1 + 1) (by omega) (by simp) (by omega) w0 w1 rfl b3, iat_end _ _ _ _ _ _ _ _ (by simp)]
    simp [rd, atR, aup]

end Go.Proofs.Ytodmfjophjhbeaa.Pure
