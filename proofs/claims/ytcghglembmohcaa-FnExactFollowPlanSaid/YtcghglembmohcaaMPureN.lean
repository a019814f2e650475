/- Plain laws: nodes copied and compared. -/
-- IMPORTS
import Derived.Test.YtcghglembmohcaaMx0
import Derived.Test.YtcghglembmohcaaMx2
import Derived.Test.YtcghglembmohcaaMx3
import Derived.Test.YtcghglembmohcaaMx4
import Derived.Test.YtcghglembmohcaaMx5
import Derived.Test.YtcghglembmohcaaMx6
namespace Go.Proofs.Ytcghglembmohcaa.Pure
open Go.RowKit Go.Proofs.Ytcghglembmohcaa.M Go.Proofs.YtcghglembmohcaaW.PrintWords Go.Proofs.YtcghglembmohcaaW.PrintLast Go.Proofs.YtcghglembmohcaaW.PrintMore
set_option linter.unusedVariables false
set_option linter.unusedSimpArgs false

theorem wi {i : Int} (h0 : 0 ≤ i) (h1 : i ≤ 2000000000) : wrap64 (i + 1) = i + 1 := by unfold wrap64; omega
theorem fuel {k n : Nat} (h : n ≤ k) : ∃ m, k = m + n := ⟨k - n, by omega⟩
theorem toW_step (k : Nat) (i x : Int) (w0 w1 w2 w3 w4 w5 w6 w7 w8 w9 w10 w11 w12 w13 v0 v1 v2 v3 v4 v5 v6 v7 v8 v9 v10 v11 v12 v13 : Int) (h0 : 0 ≤ i) (h4 : i < 14) (hx : rd [w0, w1, w2, w3, w4, w5, w6, w7, w8, w9, w10, w11, w12, w13] i = x) :
    laws_toWeighing.l0 (k + 1) i w0 w1 w2 w3 w4 w5 w6 w7 w8 w9 w10 w11 w12 w13 v0 v1 v2 v3 v4 v5 v6 v7 v8 v9 v10 v11 v12 v13 = laws_toWeighing.l0 k (i + 1) w0 w1 w2 w3 w4 w5 w6 w7 w8 w9 w10 w11 w12 w13 (aup i 0 x v0) (aup i 1 x v1) (aup i 2 x v2) (aup i 3 x v3) (aup i 4 x v4) (aup i 5 x v5) (aup i 6 x v6) (aup i 7 x v7) (aup i 8 x v8) (aup i 9 x v9) (aup i 10 x v10) (aup i 11 x v11) (aup i 12 x v12) (aup i 13 x v13) := by
  simp only [laws_toWeighing.l0, hx]
  rw [if_pos h4, if_pos h0, wi h0 (by omega)]
theorem aup_ne {i n v a : Int} (h : i ≠ n) : aup i n v a = a := by unfold aup; rw [if_neg h]
theorem aup_eq {i v a : Int} : aup i i v a = v := by unfold aup; rw [if_pos rfl]
theorem toW_end (k : Nat) (w0 w1 w2 w3 w4 w5 w6 w7 w8 w9 w10 w11 w12 w13 v0 v1 v2 v3 v4 v5 v6 v7 v8 v9 v10 v11 v12 v13 : Int) : laws_toWeighing.l0 (k + 1) 14 w0 w1 w2 w3 w4 w5 w6 w7 w8 w9 w10 w11 w12 w13 v0 v1 v2 v3 v4 v5 v6 v7 v8 v9 v10 v11 v12 v13 = some (v0, v1, v2, v3, v4, v5, v6, v7, v8, v9, v10, v11, v12, v13) := by
  simp only [laws_toWeighing.l0]; rw [if_neg (by omega)]
theorem toW_at13 (k : Nat) (h : 2 ≤ k) (w0 w1 w2 w3 w4 w5 w6 w7 w8 w9 w10 w11 w12 w13 : Int) : laws_toWeighing.l0 k 13 w0 w1 w2 w3 w4 w5 w6 w7 w8 w9 w10 w11 w12 w13 w0 w1 w2 w3 w4 w5 w6 w7 w8 w9 w10 w11 w12 0 = some (w0, w1, w2, w3, w4, w5, w6, w7, w8, w9, w10, w11, w12, w13) := by
  obtain ⟨m, rfl⟩ := fuel h
  rw [show m + 2 = (m + 1) + 1 from rfl, toW_step (m + 1) 13 w13 w0 w1 w2 w3 w4 w5 w6 w7 w8 w9 w10 w11 w12 w13 w0 w1 w2 w3 w4 w5 w6 w7 w8 w9 w10 w11 w12 0 (by omega) (by omega) rfl, show (13 : Int) + 1 = 14 from rfl]
  rw [@aup_ne 13 0 w13 w0 (by omega), @aup_ne 13 1 w13 w1 (by omega), @aup_ne 13 2 w13 w2 (by omega), @aup_ne 13 3 w13 w3 (by omega), @aup_ne 13 4 w13 w4 (by omega), @aup_ne 13 5 w13 w5 (by omega), @aup_ne 13 6 w13 w6 (by omega), @aup_ne 13 7 w13 w7 (by omega), @aup_ne 13 8 w13 w8 (by omega), @aup_ne 13 9 w13 w9 (by omega), @aup_ne 13 10 w13 w10 (by omega), @aup_ne 13 11 w13 w11 (by omega), @aup_ne 13 12 w13 w12 (by omega), @aup_eq 13 w13 0]
  exact toW_end m w0 w1 w2 w3 w4 w5 w6 w7 w8 w9 w10 w11 w12 w13 w0 w1 w2 w3 w4 w5 w6 w7 w8 w9 w10 w11 w12 w13
theorem toW_at12 (k : Nat) (h : 3 ≤ k) (w0 w1 w2 w3 w4 w5 w6 w7 w8 w9 w10 w11 w12 w13 : Int) : laws_toWeighing.l0 k 12 w0 w1 w2 w3 w4 w5 w6 w7 w8 w9 w10 w11 w12 w13 w0 w1 w2 w3 w4 w5 w6 w7 w8 w9 w10 w11 0 0 = some (w0, w1, w2, w3, w4, w5, w6, w7, w8, w9, w10, w11, w12, w13) := by
  obtain ⟨m, rfl⟩ := fuel h
  rw [show m + 3 = (m + 2) + 1 from rfl, toW_step (m + 2) 12 w12 w0 w1 w2 w3 w4 w5 w6 w7 w8 w9 w10 w11 w12 w13 w0 w1 w2 w3 w4 w5 w6 w7 w8 w9 w10 w11 0 0 (by omega) (by omega) rfl, show (12 : Int) + 1 = 13 from rfl]
  rw [@aup_ne 12 0 w12 w0 (by omega), @aup_ne 12 1 w12 w1 (by omega), @aup_ne 12 2 w12 w2 (by omega), @aup_ne 12 3 w12 w3 (by omega), @aup_ne 12 4 w12 w4 (by omega), @aup_ne 12 5 w12 w5 (by omega), @aup_ne 12 6 w12 w6 (by omega), @aup_ne 12 7 w12 w7 (by omega), @aup_ne 12 8 w12 w8 (by omega), @aup_ne 12 9 w12 w9 (by omega), @aup_ne 12 10 w12 w10 (by omega), @aup_ne 12 11 w12 w11 (by omega), @aup_eq 12 w12 0, @aup_ne 12 13 w12 0 (by omega)]
  exact toW_at13 (m + 2) (by omega) w0 w1 w2 w3 w4 w5 w6 w7 w8 w9 w10 w11 w12 w13
theorem toW_at11 (k : Nat) (h : 4 ≤ k) (w0 w1 w2 w3 w4 w5 w6 w7 w8 w9 w10 w11 w12 w13 : Int) : laws_toWeighing.l0 k 11 w0 w1 w2 w3 w4 w5 w6 w7 w8 w9 w10 w11 w12 w13 w0 w1 w2 w3 w4 w5 w6 w7 w8 w9 w10 0 0 0 = some (w0, w1, w2, w3, w4, w5, w6, w7, w8, w9, w10, w11, w12, w13) := by
  obtain ⟨m, rfl⟩ := fuel h
  rw [show m + 4 = (m + 3) + 1 from rfl, toW_step (m + 3) 11 w11 w0 w1 w2 w3 w4 w5 w6 w7 w8 w9 w10 w11 w12 w13 w0 w1 w2 w3 w4 w5 w6 w7 w8 w9 w10 0 0 0 (by omega) (by omega) rfl, show (11 : Int) + 1 = 12 from rfl]
  rw [@aup_ne 11 0 w11 w0 (by omega), @aup_ne 11 1 w11 w1 (by omega), @aup_ne 11 2 w11 w2 (by omega), @aup_ne 11 3 w11 w3 (by omega), @aup_ne 11 4 w11 w4 (by omega), @aup_ne 11 5 w11 w5 (by omega), @aup_ne 11 6 w11 w6 (by omega), @aup_ne 11 7 w11 w7 (by omega), @aup_ne 11 8 w11 w8 (by omega), @aup_ne 11 9 w11 w9 (by omega), @aup_ne 11 10 w11 w10 (by omega), @aup_eq 11 w11 0, @aup_ne 11 12 w11 0 (by omega), @aup_ne 11 13 w11 0 (by omega)]
  exact toW_at12 (m + 3) (by omega) w0 w1 w2 w3 w4 w5 w6 w7 w8 w9 w10 w11 w12 w13
theorem toW_at10 (k : Nat) (h : 5 ≤ k) (w0 w1 w2 w3 w4 w5 w6 w7 w8 w9 w10 w11 w12 w13 : Int) : laws_toWeighing.l0 k 10 w0 w1 w2 w3 w4 w5 w6 w7 w8 w9 w10 w11 w12 w13 w0 w1 w2 w3 w4 w5 w6 w7 w8 w9 0 0 0 0 = some (w0, w1, w2, w3, w4, w5, w6, w7, w8, w9, w10, w11, w12, w13) := by
  obtain ⟨m, rfl⟩ := fuel h
  rw [show m + 5 = (m + 4) + 1 from rfl, toW_step (m + 4) 10 w10 w0 w1 w2 w3 w4 w5 w6 w7 w8 w9 w10 w11 w12 w13 w0 w1 w2 w3 w4 w5 w6 w7 w8 w9 0 0 0 0 (by omega) (by omega) rfl, show (10 : Int) + 1 = 11 from rfl]
  rw [@aup_ne 10 0 w10 w0 (by omega), @aup_ne 10 1 w10 w1 (by omega), @aup_ne 10 2 w10 w2 (by omega), @aup_ne 10 3 w10 w3 (by omega), @aup_ne 10 4 w10 w4 (by omega), @aup_ne 10 5 w10 w5 (by omega), @aup_ne 10 6 w10 w6 (by omega), @aup_ne 10 7 w10 w7 (by omega), @aup_ne 10 8 w10 w8 (by omega), @aup_ne 10 9 w10 w9 (by omega), @aup_eq 10 w10 0, @aup_ne 10 11 w10 0 (by omega), @aup_ne 10 12 w10 0 (by omega), @aup_ne 10 13 w10 0 (by omega)]
  exact toW_at11 (m + 4) (by omega) w0 w1 w2 w3 w4 w5 w6 w7 w8 w9 w10 w11 w12 w13
theorem toW_at9 (k : Nat) (h : 6 ≤ k) (w0 w1 w2 w3 w4 w5 w6 w7 w8 w9 w10 w11 w12 w13 : Int) : laws_toWeighing.l0 k 9 w0 w1 w2 w3 w4 w5 w6 w7 w8 w9 w10 w11 w12 w13 w0 w1 w2 w3 w4 w5 w6 w7 w8 0 0 0 0 0 = some (w0, w1, w2, w3, w4, w5, w6, w7, w8, w9, w10, w11, w12, w13) := by
  obtain ⟨m, rfl⟩ := fuel h
  rw [show m + 6 = (m + 5) + 1 from rfl, toW_step (m + 5) 9 w9 w0 w1 w2 w3 w4 w5 w6 w7 w8 w9 w10 w11 w12 w13 w0 w1 w2 w3 w4 w5 w6 w7 w8 0 0 0 0 0 (by omega) (by omega) rfl, show (9 : Int) + 1 = 10 from rfl]
  rw [@aup_ne 9 0 w9 w0 (by omega), @aup_ne 9 1 w9 w1 (by omega), @aup_ne 9 2 w9 w2 (by omega), @aup_ne 9 3 w9 w3 (by omega), @aup_ne 9 4 w9 w4 (by omega), @aup_ne 9 5 w9 w5 (by omega), @aup_ne 9 6 w9 w6 (by omega), @aup_ne 9 7 w9 w7 (by omega), @aup_ne 9 8 w9 w8 (by omega), @aup_eq 9 w9 0, @aup_ne 9 10 w9 0 (by omega), @aup_ne 9 11 w9 0 (by omega), @aup_ne 9 12 w9 0 (by omega), @aup_ne 9 13 w9 0 (by omega)]
  exact toW_at10 (m + 5) (by omega) w0 w1 w2 w3 w4 w5 w6 w7 w8 w9 w10 w11 w12 w13
theorem toW_at8 (k : Nat) (h : 7 ≤ k) (w0 w1 w2 w3 w4 w5 w6 w7 w8 w9 w10 w11 w12 w13 : Int) : laws_toWeighing.l0 k 8 w0 w1 w2 w3 w4 w5 w6 w7 w8 w9 w10 w11 w12 w13 w0 w1 w2 w3 w4 w5 w6 w7 0 0 0 0 0 0 = some (w0, w1, w2, w3, w4, w5, w6, w7, w8, w9, w10, w11, w12, w13) := by
  obtain ⟨m, rfl⟩ := fuel h
  rw [show m + 7 = (m + 6) + 1 from rfl, toW_step (m + 6) 8 w8 w0 w1 w2 w3 w4 w5 w6 w7 w8 w9 w10 w11 w12 w13 w0 w1 w2 w3 w4 w5 w6 w7 0 0 0 0 0 0 (by omega) (by omega) rfl, show (8 : Int) + 1 = 9 from rfl]
  rw [@aup_ne 8 0 w8 w0 (by omega), @aup_ne 8 1 w8 w1 (by omega), @aup_ne 8 2 w8 w2 (by omega), @aup_ne 8 3 w8 w3 (by omega), @aup_ne 8 4 w8 w4 (by omega), @aup_ne 8 5 w8 w5 (by omega), @aup_ne 8 6 w8 w6 (by omega), @aup_ne 8 7 w8 w7 (by omega), @aup_eq 8 w8 0, @aup_ne 8 9 w8 0 (by omega), @aup_ne 8 10 w8 0 (by omega), @aup_ne 8 11 w8 0 (by omega), @aup_ne 8 12 w8 0 (by omega), @aup_ne 8 13 w8 0 (by omega)]
  exact toW_at9 (m + 6) (by omega) w0 w1 w2 w3 w4 w5 w6 w7 w8 w9 w10 w11 w12 w13
theorem toW_at7 (k : Nat) (h : 8 ≤ k) (w0 w1 w2 w3 w4 w5 w6 w7 w8 w9 w10 w11 w12 w13 : Int) : laws_toWeighing.l0 k 7 w0 w1 w2 w3 w4 w5 w6 w7 w8 w9 w10 w11 w12 w13 w0 w1 w2 w3 w4 w5 w6 0 0 0 0 0 0 0 = some (w0, w1, w2, w3, w4, w5, w6, w7, w8, w9, w10, w11, w12, w13) := by
  obtain ⟨m, rfl⟩ := fuel h
  rw [show m + 8 = (m + 7) + 1 from rfl, toW_step (m + 7) 7 w7 w0 w1 w2 w3 w4 w5 w6 w7 w8 w9 w10 w11 w12 w13 w0 w1 w2 w3 w4 w5 w6 0 0 0 0 0 0 0 (by omega) (by omega) rfl, show (7 : Int) + 1 = 8 from rfl]
  rw [@aup_ne 7 0 w7 w0 (by omega), @aup_ne 7 1 w7 w1 (by omega), @aup_ne 7 2 w7 w2 (by omega), @aup_ne 7 3 w7 w3 (by omega), @aup_ne 7 4 w7 w4 (by omega), @aup_ne 7 5 w7 w5 (by omega), @aup_ne 7 6 w7 w6 (by omega), @aup_eq 7 w7 0, @aup_ne 7 8 w7 0 (by omega), @aup_ne 7 9 w7 0 (by omega), @aup_ne 7 10 w7 0 (by omega), @aup_ne 7 11 w7 0 (by omega), @aup_ne 7 12 w7 0 (by omega), @aup_ne 7 13 w7 0 (by omega)]
  exact toW_at8 (m + 7) (by omega) w0 w1 w2 w3 w4 w5 w6 w7 w8 w9 w10 w11 w12 w13
theorem toW_at6 (k : Nat) (h : 9 ≤ k) (w0 w1 w2 w3 w4 w5 w6 w7 w8 w9 w10 w11 w12 w13 : Int) : laws_toWeighing.l0 k 6 w0 w1 w2 w3 w4 w5 w6 w7 w8 w9 w10 w11 w12 w13 w0 w1 w2 w3 w4 w5 0 0 0 0 0 0 0 0 = some (w0, w1, w2, w3, w4, w5, w6, w7, w8, w9, w10, w11, w12, w13) := by
  obtain ⟨m, rfl⟩ := fuel h
  rw [show m + 9 = (m + 8) + 1 from rfl, toW_step (m + 8) 6 w6 w0 w1 w2 w3 w4 w5 w6 w7 w8 w9 w10 w11 w12 w13 w0 w1 w2 w3 w4 w5 0 0 0 0 0 0 0 0 (by omega) (by omega) rfl, show (6 : Int) + 1 = 7 from rfl]
  rw [@aup_ne 6 0 w6 w0 (by omega), @aup_ne 6 1 w6 w1 (by omega), @aup_ne 6 2 w6 w2 (by omega), @aup_ne 6 3 w6 w3 (by omega), @aup_ne 6 4 w6 w4 (by omega), @aup_ne 6 5 w6 w5 (by omega), @aup_eq 6 w6 0, @aup_ne 6 7 w6 0 (by omega), @aup_ne 6 8 w6 0 (by omega), @aup_ne 6 9 w6 0 (by omega), @aup_ne 6 10 w6 0 (by omega), @aup_ne 6 11 w6 0 (by omega), @aup_ne 6 12 w6 0 (by omega), @aup_ne 6 13 w6 0 (by omega)]
  exact toW_at7 (m + 8) (by omega) w0 w1 w2 w3 w4 w5 w6 w7 w8 w9 w10 w11 w12 w13
theorem toW_at5 (k : Nat) (h : 10 ≤ k) (w0 w1 w2 w3 w4 w5 w6 w7 w8 w9 w10 w11 w12 w13 : Int) : laws_toWeighing.l0 k 5 w0 w1 w2 w3 w4 w5 w6 w7 w8 w9 w10 w11 w12 w13 w0 w1 w2 w3 w4 0 0 0 0 0 0 0 0 0 = some (w0, w1, w2, w3, w4, w5, w6, w7, w8, w9, w10, w11, w12, w13) := by
  obtain ⟨m, rfl⟩ := fuel h
  rw [show m + 10 = (m + 9) + 1 from rfl, toW_step (m + 9) 5 w5 w0 w1 w2 w3 w4 w5 w6 w7 w8 w9 w10 w11 w12 w13 w0 w1 w2 w3 w4 0 0 0 0 0 0 0 0 0 (by omega) (by omega) rfl, show (5 : Int) + 1 = 6 from rfl]
  rw [@aup_ne 5 0 w5 w0 (by omega), @aup_ne 5 1 w5 w1 (by omega), @aup_ne 5 2 w5 w2 (by omega), @aup_ne 5 3 w5 w3 (by omega), @aup_ne 5 4 w5 w4 (by omega), @aup_eq 5 w5 0, @aup_ne 5 6 w5 0 (by omega), @aup_ne 5 7 w5 0 (by omega), @aup_ne 5 8 w5 0 (by omega), @aup_ne 5 9 w5 0 (by omega), @aup_ne 5 10 w5 0 (by omega), @aup_ne 5 11 w5 0 (by omega), @aup_ne 5 12 w5 0 (by omega), @aup_ne 5 13 w5 0 (by omega)]
  exact toW_at6 (m + 9) (by omega) w0 w1 w2 w3 w4 w5 w6 w7 w8 w9 w10 w11 w12 w13
theorem toW_at4 (k : Nat) (h : 11 ≤ k) (w0 w1 w2 w3 w4 w5 w6 w7 w8 w9 w10 w11 w12 w13 : Int) : laws_toWeighing.l0 k 4 w0 w1 w2 w3 w4 w5 w6 w7 w8 w9 w10 w11 w12 w13 w0 w1 w2 w3 0 0 0 0 0 0 0 0 0 0 = some (w0, w1, w2, w3, w4, w5, w6, w7, w8, w9, w10, w11, w12, w13) := by
  obtain ⟨m, rfl⟩ := fuel h
  rw [show m + 11 = (m + 10) + 1 from rfl, toW_step (m + 10) 4 w4 w0 w1 w2 w3 w4 w5 w6 w7 w8 w9 w10 w11 w12 w13 w0 w1 w2 w3 0 0 0 0 0 0 0 0 0 0 (by omega) (by omega) rfl, show (4 : Int) + 1 = 5 from rfl]
  rw [@aup_ne 4 0 w4 w0 (by omega), @aup_ne 4 1 w4 w1 (by omega), @aup_ne 4 2 w4 w2 (by omega), @aup_ne 4 3 w4 w3 (by omega), @aup_eq 4 w4 0, @aup_ne 4 5 w4 0 (by omega), @aup_ne 4 6 w4 0 (by omega), @aup_ne 4 7 w4 0 (by omega), @aup_ne 4 8 w4 0 (by omega), @aup_ne 4 9 w4 0 (by omega), @aup_ne 4 10 w4 0 (by omega), @aup_ne 4 11 w4 0 (by omega), @aup_ne 4 12 w4 0 (by omega), @aup_ne 4 13 w4 0 (by omega)]
  exact toW_at5 (m + 10) (by omega) w0 w1 w2 w3 w4 w5 w6 w7 w8 w9 w10 w11 w12 w13
theorem toW_at3 (k : Nat) (h : 12 ≤ k) (w0 w1 w2 w3 w4 w5 w6 w7 w8 w9 w10 w11 w12 w13 : Int) : laws_toWeighing.l0 k 3 w0 w1 w2 w3 w4 w5 w6 w7 w8 w9 w10 w11 w12 w13 w0 w1 w2 0 0 0 0 0 0 0 0 0 0 0 = some (w0, w1, w2, w3, w4, w5, w6, w7, w8, w9, w10, w11, w12, w13) := by
  obtain ⟨m, rfl⟩ := fuel h
  rw [show m + 12 = (m + 11) + 1 from rfl, toW_step (m + 11) 3 w3 w0 w1 w2 w3 w4 w5 w6 w7 w8 w9 w10 w11 w12 w13 w0 w1 w2 0 0 0 0 0 0 0 0 0 0 0 (by omega) (by omega) rfl, show (3 : Int) + 1 = 4 from rfl]
  rw [@aup_ne 3 0 w3 w0 (by omega), @aup_ne 3 1 w3 w1 (by omega), @aup_ne 3 2 w3 w2 (by omega), @aup_eq 3 w3 0, @aup_ne 3 4 w3 0 (by omega), @aup_ne 3 5 w3 0 (by omega), @aup_ne 3 6 w3 0 (by omega), @aup_ne 3 7 w3 0 (by omega), @aup_ne 3 8 w3 0 (by omega), @aup_ne 3 9 w3 0 (by omega), @aup_ne 3 10 w3 0 (by omega), @aup_ne 3 11 w3 0 (by omega), @aup_ne 3 12 w3 0 (by omega), @aup_ne 3 13 w3 0 (by omega)]
  exact toW_at4 (m + 11) (by omega) w0 w1 w2 w3 w4 w5 w6 w7 w8 w9 w10 w11 w12 w13
theorem toW_at2 (k : Nat) (h : 13 ≤ k) (w0 w1 w2 w3 w4 w5 w6 w7 w8 w9 w10 w11 w12 w13 : Int) : laws_toWeighing.l0 k 2 w0 w1 w2 w3 w4 w5 w6 w7 w8 w9 w10 w11 w12 w13 w0 w1 0 0 0 0 0 0 0 0 0 0 0 0 = some (w0, w1, w2, w3, w4, w5, w6, w7, w8, w9, w10, w11, w12, w13) := by
  obtain ⟨m, rfl⟩ := fuel h
  rw [show m + 13 = (m + 12) + 1 from rfl, toW_step (m + 12) 2 w2 w0 w1 w2 w3 w4 w5 w6 w7 w8 w9 w10 w11 w12 w13 w0 w1 0 0 0 0 0 0 0 0 0 0 0 0 (by omega) (by omega) rfl, show (2 : Int) + 1 = 3 from rfl]
  rw [@aup_ne 2 0 w2 w0 (by omega), @aup_ne 2 1 w2 w1 (by omega), @aup_eq 2 w2 0, @aup_ne 2 3 w2 0 (by omega), @aup_ne 2 4 w2 0 (by omega), @aup_ne 2 5 w2 0 (by omega), @aup_ne 2 6 w2 0 (by omega), @aup_ne 2 7 w2 0 (by omega), @aup_ne 2 8 w2 0 (by omega), @aup_ne 2 9 w2 0 (by omega), @aup_ne 2 10 w2 0 (by omega), @aup_ne 2 11 w2 0 (by omega), @aup_ne 2 12 w2 0 (by omega), @aup_ne 2 13 w2 0 (by omega)]
  exact toW_at3 (m + 12) (by omega) w0 w1 w2 w3 w4 w5 w6 w7 w8 w9 w10 w11 w12 w13
theorem toW_at1 (k : Nat) (h : 14 ≤ k) (w0 w1 w2 w3 w4 w5 w6 w7 w8 w9 w10 w11 w12 w13 : Int) : laws_toWeighing.l0 k 1 w0 w1 w2 w3 w4 w5 w6 w7 w8 w9 w10 w11 w12 w13 w0 0 0 0 0 0 0 0 0 0 0 0 0 0 = some (w0, w1, w2, w3, w4, w5, w6, w7, w8, w9, w10, w11, w12, w13) := by
  obtain ⟨m, rfl⟩ := fuel h
  rw [show m + 14 = (m + 13) + 1 from rfl, toW_step (m + 13) 1 w1 w0 w1 w2 w3 w4 w5 w6 w7 w8 w9 w10 w11 w12 w13 w0 0 0 0 0 0 0 0 0 0 0 0 0 0 (by omega) (by omega) rfl, show (1 : Int) + 1 = 2 from rfl]
  rw [@aup_ne 1 0 w1 w0 (by omega), @aup_eq 1 w1 0, @aup_ne 1 2 w1 0 (by omega), @aup_ne 1 3 w1 0 (by omega), @aup_ne 1 4 w1 0 (by omega), @aup_ne 1 5 w1 0 (by omega), @aup_ne 1 6 w1 0 (by omega), @aup_ne 1 7 w1 0 (by omega), @aup_ne 1 8 w1 0 (by omega), @aup_ne 1 9 w1 0 (by omega), @aup_ne 1 10 w1 0 (by omega), @aup_ne 1 11 w1 0 (by omega), @aup_ne 1 12 w1 0 (by omega), @aup_ne 1 13 w1 0 (by omega)]
  exact toW_at2 (m + 13) (by omega) w0 w1 w2 w3 w4 w5 w6 w7 w8 w9 w10 w11 w12 w13
theorem toW_at0 (k : Nat) (h : 15 ≤ k) (w0 w1 w2 w3 w4 w5 w6 w7 w8 w9 w10 w11 w12 w13 : Int) : laws_toWeighing.l0 k 0 w0 w1 w2 w3 w4 w5 w6 w7 w8 w9 w10 w11 w12 w13 0 0 0 0 0 0 0 0 0 0 0 0 0 0 = some (w0, w1, w2, w3, w4, w5, w6, w7, w8, w9, w10, w11, w12, w13) := by
  obtain ⟨m, rfl⟩ := fuel h
  rw [show m + 15 = (m + 14) + 1 from rfl, toW_step (m + 14) 0 w0 w0 w1 w2 w3 w4 w5 w6 w7 w8 w9 w10 w11 w12 w13 0 0 0 0 0 0 0 0 0 0 0 0 0 0 (by omega) (by omega) rfl, show (0 : Int) + 1 = 1 from rfl]
  rw [@aup_eq 0 w0 0, @aup_ne 0 1 w0 0 (by omega), @aup_ne 0 2 w0 0 (by omega), @aup_ne 0 3 w0 0 (by omega), @aup_ne 0 4 w0 0 (by omega), @aup_ne 0 5 w0 0 (by omega), @aup_ne 0 6 w0 0 (by omega), @aup_ne 0 7 w0 0 (by omega), @aup_ne 0 8 w0 0 (by omega), @aup_ne 0 9 w0 0 (by omega), @aup_ne 0 10 w0 0 (by omega), @aup_ne 0 11 w0 0 (by omega), @aup_ne 0 12 w0 0 (by omega), @aup_ne 0 13 w0 0 (by omega)]
  exact toW_at1 (m + 14) (by omega) w0 w1 w2 w3 w4 w5 w6 w7 w8 w9 w10 w11 w12 w13
theorem toW_val {k : Nat} (h : 15 ≤ k) (w0 w1 w2 w3 w4 w5 w6 w7 w8 w9 w10 w11 w12 w13 : Int) : laws_toWeighing.f k w0 w1 w2 w3 w4 w5 w6 w7 w8 w9 w10 w11 w12 w13 = some (w0, w1, w2, w3, w4, w5, w6, w7, w8, w9, w10, w11, w12, w13) := by
  unfold laws_toWeighing.f; exact toW_at0 k h w0 w1 w2 w3 w4 w5 w6 w7 w8 w9 w10 w11 w12 w13


theorem toI_val {k : Nat} (h : 4 ≤ k) (a b c : Int) : laws_toInt16A3.f k a b c = some (a, b, c) := by
  obtain ⟨m, rfl⟩ := fuel h
  simp [laws_toInt16A3.f, laws_toInt16A3.l0, aup, rd, wrap64]
theorem eqI_self {k : Nat} (h : 4 ≤ k) (a b c : Int) : laws_eqInt16A3.f k a b c a b c = some true := by
  obtain ⟨m, rfl⟩ := fuel h
  simp [laws_eqInt16A3.f, laws_eqInt16A3.l0, rd, wrap64]
theorem eqW_self (k : Nat) : ∀ (m : Nat) (i : Int) (w0 w1 w2 w3 w4 w5 w6 w7 w8 w9 w10 w11 w12 w13 : Int), 0 ≤ i → 14 - i ≤ m → m < k → laws_eqWeighing.l0 k i w0 w1 w2 w3 w4 w5 w6 w7 w8 w9 w10 w11 w12 w13 w0 w1 w2 w3 w4 w5 w6 w7 w8 w9 w10 w11 w12 w13 = some true := by
  induction k with
  | zero => intro m i w0 w1 w2 w3 w4 w5 w6 w7 w8 w9 w10 w11 w12 w13 h0 h1 h2; omega
  | succ k ih =>
    intro m i w0 w1 w2 w3 w4 w5 w6 w7 w8 w9 w10 w11 w12 w13 h0 h1 h2
    simp only [laws_eqWeighing.l0]
    by_cases h : i < 14
    · rw [if_pos h, if_pos h0, if_pos trivial, wi h0 (by omega)]
      exact ih (m - 1) (i + 1) w0 w1 w2 w3 w4 w5 w6 w7 w8 w9 w10 w11 w12 w13 (by omega) (by omega) (by omega)
    · rw [if_neg h]
theorem toNode_val {k : Nat} (h : 15 ≤ k) (a0 a1 a2 a3 a4 a5 a6 a7 a8 a9 a10 a11 a12 a13 a14 a15 a16 a17 : Int) (b0 b1 : Bool) : laws_toNode.f k a0 a1 a2 a3 a4 a5 a6 a7 a8 a9 a10 a11 a12 a13 a14 a15 a16 a17 b0 b1 = some (a0, a1, a2, a3, a4, a5, a6, a7, a8, a9, a10, a11, a12, a13, a14, a15, a16, a17, b0, b1) := by
  unfold laws_toNode.f laws_toCase.f
  rw [toW_val h, toI_val (by omega)]
  rfl
theorem eqNode_self {k : Nat} (h : 15 ≤ k) (a0 a1 a2 a3 a4 a5 a6 a7 a8 a9 a10 a11 a12 a13 a14 a15 a16 a17 : Int) (b0 b1 : Bool) : laws_eqNode.f k a0 a1 a2 a3 a4 a5 a6 a7 a8 a9 a10 a11 a12 a13 a14 a15 a16 a17 b0 b1 a0 a1 a2 a3 a4 a5 a6 a7 a8 a9 a10 a11 a12 a13 a14 a15 a16 a17 b0 b1 = some true := by
  unfold laws_eqNode.f laws_eqWeighing.f laws_eqCase.f
  rw [eqW_self k 14 0 _ _ _ _ _ _ _ _ _ _ _ _ _ _ (by omega) (by omega) (by omega), eqI_self (by omega)]
  simp
/-- The law's node as the program's. -/
def cv (x : S61) : S58 := ⟨⟨x.f0.f0, x.f0.f1, x.f0.f2, x.f0.f3, x.f0.f4, x.f0.f5, x.f0.f6, x.f0.f7, x.f0.f8, x.f0.f9, x.f0.f10, x.f0.f11, x.f0.f12, x.f0.f13⟩, ⟨x.f1.f0, x.f1.f1, x.f1.f2⟩, ⟨x.f2.f0, x.f2.f1⟩, x.f3⟩
theorem rd_pre (pre : List S61) (x : S61) (suf : List S61) : rd_T61 (pre ++ x :: suf) (pre.length : Int) = x := by
  unfold rd_T61; simp [List.getD]
theorem toNodeS_l0 (l : List S61) (hl : l.length ≤ 1048576) : ∀ (suf pre : List S61) (r : List S58) (k : Nat), l = pre ++ suf → r.length = suf.length → suf.length + 20 ≤ k → laws_toNodeS.l0 k l (pre.map cv ++ r) (pre.length : Int) = some (l.map cv) := by
  intro suf
  induction suf with
  | nil =>
    intro pre r k h hr hk
    obtain ⟨k, rfl⟩ := fuel (show 1 ≤ k by omega)
    obtain rfl : r = [] := List.length_eq_zero_iff.1 hr
    simp only [List.append_nil] at h
    subst h
    simp [laws_toNodeS.l0]
  | cons x suf ih =>
    intro pre r k h hr hk
    cases r with
    | nil => simp at hr
    | cons y r =>
      simp only [List.length_cons] at hr hk
      obtain ⟨k, rfl⟩ := fuel (show 1 ≤ k by omega)
      have hn : l.length = pre.length + (suf.length + 1) := by rw [h]; simp
      simp only [laws_toNodeS.l0]
      rw [if_pos (by omega), if_pos (by omega)]
      have e : rd_T61 l (pre.length : Int) = x := by rw [h]; exact rd_pre pre x suf
      rw [e, toNode_val (by omega)]
      simp only [Option.bind_some]
      rw [if_pos (by simp; omega), wi (by omega) (by omega)]
      have es : (pre.map cv ++ y :: r).set ((pre.length : Int)).toNat (cv x) = (pre ++ [x]).map cv ++ r := by
        rw [List.set_append_right _ _ (by simp)]
        simp
      rw [show (⟨⟨x.f0.f0, x.f0.f1, x.f0.f2, x.f0.f3, x.f0.f4, x.f0.f5, x.f0.f6, x.f0.f7, x.f0.f8, x.f0.f9, x.f0.f10, x.f0.f11, x.f0.f12, x.f0.f13⟩, ⟨x.f1.f0, x.f1.f1, x.f1.f2⟩, ⟨x.f2.f0, x.f2.f1⟩, x.f3⟩ : S58) = cv x from rfl, es, show (pre.length : Int) + 1 = ((pre ++ [x]).length : Int) by simp]
      exact ih (pre ++ [x]) r k (by simp [h]) (by omega) (by omega)
theorem toNodeS_val {k : Nat} (l : List S61) (hl : l.length ≤ 1048576) (h : l.length + 20 ≤ k) : laws_toNodeS.f k l = some (l.map cv) := by
  unfold laws_toNodeS.f
  rw [if_pos (by omega), if_pos (by simp; omega)]
  exact toNodeS_l0 l hl l [] _ k rfl (by simp) h

theorem eqNodeS_l0 (l : List S58) (hl : l.length ≤ 1048576) : ∀ (d k : Nat) (i : Int), 0 ≤ i → (l.length : Int) - i ≤ d → d + 20 ≤ k → laws_eqNodeS.l0 k l l i = some true := by
  intro d
  induction d with
  | zero =>
    intro k i h0 h1 h2
    obtain ⟨k, rfl⟩ := fuel (show 1 ≤ k by omega)
    simp only [laws_eqNodeS.l0]; rw [if_neg (by omega)]
  | succ d ih =>
    intro k i h0 h1 h2
    obtain ⟨k, rfl⟩ := fuel (show 1 ≤ k by omega)
    simp only [laws_eqNodeS.l0]
    by_cases h : i < (l.length : Int)
    · rw [if_pos h, if_pos h0, if_pos h, eqNode_self (by omega)]
      simp only [Option.bind_some]
      rw [if_pos trivial, wi h0 (by omega)]
      exact ih k (i + 1) (by omega) (by omega) (by omega)
    · rw [if_neg h]
theorem eqNodeS_self {k : Nat} (l : List S58) (hl : l.length ≤ 1048576) (h : l.length + 20 ≤ k) : laws_eqNodeS.f k l l = some true := by
  unfold laws_eqNodeS.f
  rw [if_pos rfl]
  exact eqNodeS_l0 l hl l.length k 0 (by omega) (by omega) h


theorem szNodeS_val (l : List S61) (hl : l.length ≤ maxLen) (s : Int) (h0 : 0 ≤ s) (h1 : s ≤ 1048576) : laws_szNodeS.f l s = some (if s - l.length < 0 then -1 else s - l.length) := by
  unfold laws_szNodeS.f
  have hm : (l.length : Int) ≤ maxLen := by exact_mod_cast hl
  have e : wrap64 (s - (l.length : Int)) = s - l.length := by
    have hm2 : (maxLen : Int) = 9223372036854775807 := by decide
    unfold wrap64; omega
  rw [e]
  by_cases h : s - (l.length : Int) < 0
  · rw [if_pos h, if_pos h]
  · rw [if_neg h, if_neg h]

end Go.Proofs.Ytcghglembmohcaa.Pure
