/- Plain laws: all moves from a water, in the order of the program and in that of the reference: one list. -/
import Derived.Test.YtodmfjophjhbeaaMPureK
-- IMPORTS
import Derived.Test.YtodmfjophjhbeaaMx0
import Derived.Test.YtodmfjophjhbeaaMx8
import Derived.Test.YtodmfjophjhbeaaMx9
import Derived.Test.YtodmfjophjhbeaaMx18
import Derived.Test.YtodmfjophjhbeaaMx20
namespace Go.Proofs.Ytodmfjophjhbeaa.Pure
open Go.RowKit Go.Proofs.Ytodmfjophjhbeaa.M Go.Proofs.YtodmfjophjhbeaaW.PrintWords Go.Proofs.YtodmfjophjhbeaaW.PrintLast Go.Proofs.YtodmfjophjhbeaaW.PrintMore
set_option linter.unusedVariables false
set_option linter.unusedSimpArgs false

theorem w8 {x : Int} (h0 : -128 ≤ x) (h1 : x ≤ 127) : IntKind.i8.wrap x = x := by
  simp only [IntKind.wrap, IntKind.bits, IntKind.signed]; simp; split <;> omega
theorem wf8_of {a : Int} (h0 : -128 ≤ a) (h1 : a ≤ 127) : (Lit.int .i8 a).wf = true := by
  have h' : IntKind.i8.min ≤ a ∧ a ≤ IntKind.i8.max := ⟨h0, h1⟩
  simpa [Lit.wf] using h'
/-- Does the program's moved say that a move can be made? -/
def flag (l : List Int) (p q s t : Int) (z : Bool) (a b c d : Int) (m : S60) : Bool :=
  match impl_Puzzle_moved.f 3 l p q s t z a b c d m.f0 m.f1 m.f2 with
  | some (_, _, _, _, f) => f
  | none => false
def okS (n : Int) (m : S60) : Bool := okM n m.f0 m.f1 m.f2
/-- One more move, where it is told rightly and can be made. -/
def stepM (l : List Int) (p q s t : Int) (z : Bool) (a b c d : Int) (out : List S60) (m : S60) : List S60 :=
  if (okS (l.length : Int) m && flag l p q s t z a b c d m) = true then out ++ [m] else out
theorem moved_any {k : Nat} (hk : 3 ≤ k) (l : List Int) (h1 : 1 ≤ (l.length : Int)) (h4 : (l.length : Int) ≤ 4) (p q s t : Int) (z : Bool) (hj : okJ l = true) (a b c d : Int) (hw : WF l a b c d) (m : S60)
    (k0 : 0 ≤ m.f0) (k2 : m.f0 ≤ 2) (i0 : 0 ≤ m.f1) (i1 : m.f1 < (l.length : Int)) (j0 : 0 ≤ m.f2) (j1 : m.f2 < (l.length : Int)) :
    ∃ x y z' u, impl_Puzzle_moved.f k l p q s t z a b c d m.f0 m.f1 m.f2 = some (x, y, z', u, flag l p q s t z a b c d m) ∧
      (okS (l.length : Int) m = true → spec_l02Move.j0 k false l p q s t z a b c d m.f0 m.f1 m.f2 = some (if flag l p q s t z a b c d m = true then (x, y, z', u, 0) else (0, 0, 0, 0, 4))) := by
  obtain ⟨ra, rb, rc, rd'⟩ := wf_cells l hj hw
  have hwf : ∀ j : Int, 0 ≤ j → j < 4 → 0 ≤ rd [a, b, c, d] j ∧ (j < (l.length : Int) → rd [a, b, c, d] j ≤ rd l j) := by
    intro j j0 j4
    have := hw j j0 j4
    refine ⟨this.1, fun e => ?_⟩
    have h2 := this.2
    unfold capL at h2
    rwa [if_pos e] at h2
  have hlr : ∀ j : Int, 0 ≤ j → j < (l.length : Int) → rd l j ≤ 32767 := by
    intro j j0 j1
    have := okJ_rd l hj j j0 j1
    omega
  have key : ∀ m2, okM (l.length : Int) m.f0 m.f1 m2 = true → ∃ x y z' u f, impl_Puzzle_moved.f (0 + 3) l p q s t z a b c d m.f0 m.f1 m2 = some (x, y, z', u, f) ∧ spec_l02Move.j0 (0 + 3) false l p q s t z a b c d m.f0 m.f1 m2 = some (if f = true then (x, y, z', u, 0) else (0, 0, 0, 0, 4)) :=
    fun m2 hm => kmoved_same (k := 0) l h1 h4 p q s t z a b c d m.f0 m.f1 m2 (wf16_of (by omega) (by omega)) (wf16_of (by omega) (by omega)) (wf16_of (by omega) (by omega)) (wf16_of (by omega) (by omega)) hwf hlr hm
  have up : ∀ m2 r, impl_Puzzle_moved.f 3 l p q s t z a b c d m.f0 m.f1 m2 = some r → impl_Puzzle_moved.f k l p q s t z a b c d m.f0 m.f1 m2 = some r :=
    fun m2 r h => at_rounds (g := fun k => impl_Puzzle_moved.f k l p q s t z a b c d m.f0 m.f1 m2) (fun k => impl_Puzzle_moved.mono _ _ _ _ _ _ _ _ _ _ _ _ _ k) hk h
  have ups : ∀ m2 r, spec_l02Move.j0 3 false l p q s t z a b c d m.f0 m.f1 m2 = some r → spec_l02Move.j0 k false l p q s t z a b c d m.f0 m.f1 m2 = some r :=
    fun m2 r h => at_rounds (g := fun k => spec_l02Move.j0 k false l p q s t z a b c d m.f0 m.f1 m2) (fun k => (spec_l02Move.mono_l k).1 _ _ _ _ _ _ _ _ _ _ _ _ _ _) hk h
  by_cases hok : okM (l.length : Int) m.f0 m.f1 m.f2 = true
  · obtain ⟨x, y, z', u, f, e1, e2⟩ := key m.f2 hok
    have ef : flag l p q s t z a b c d m = f := by
      unfold flag; rw [show impl_Puzzle_moved.f 3 l p q s t z a b c d m.f0 m.f1 m.f2 = some (x, y, z', u, f) from e1]
    rw [ef]
    exact ⟨x, y, z', u, up _ _ e1, fun _ => ups _ _ e2⟩
  · have e0 : m.f0 ≠ 0 := by
      intro e0
      apply hok
      simp [okM, e0]; omega
    have hok2 : okM (l.length : Int) m.f0 m.f1 0 = true := by
      have : m.f0 = 1 ∨ m.f0 = 2 := by omega
      rcases this with e | e <;> simp [okM, e] <;> omega
    obtain ⟨x, y, z', u, f, e1, e2⟩ := key 0 hok2
    have e3 : impl_Puzzle_moved.f 3 l p q s t z a b c d m.f0 m.f1 m.f2 = some (x, y, z', u, f) := by
      rw [← e1]
      unfold impl_Puzzle_moved.f
      rw [if_neg e0, if_neg e0]
    have ef : flag l p q s t z a b c d m = f := by unfold flag; rw [e3]
    rw [ef]
    exact ⟨x, y, z', u, up _ _ e3, fun h => absurd h hok⟩
theorem stepM_len (l : List Int) (p q s t : Int) (z : Bool) (a b c d : Int) : ∀ (ms out : List S60), (ms.foldl (stepM l p q s t z a b c d) out).length ≤ out.length + ms.length := by
  intro ms
  induction ms with
  | nil => intro out; simp
  | cons m ms ih =>
    intro out
    simp only [List.foldl_cons, List.length_cons]
    have := ih (stepM l p q s t z a b c d out m)
    have h2 : (stepM l p q s t z a b c d out m).length ≤ out.length + 1 := by
      unfold stepM; split <;> simp
    omega
theorem stepM_filter (l : List Int) (p q s t : Int) (z : Bool) (a b c d : Int) : ∀ (ms out : List S60), ms.foldl (stepM l p q s t z a b c d) out = (ms.filter (okS (l.length : Int))).foldl (stepM l p q s t z a b c d) out := by
  intro ms
  induction ms with
  | nil => intro out; rfl
  | cons m ms ih =>
    intro out
    simp only [List.foldl_cons]
    cases h : okS (l.length : Int) m with
    | true => rw [List.filter_cons_of_pos h, List.foldl_cons]; exact ih _
    | false =>
      rw [List.filter_cons_of_neg (by simp [h])]
      have : stepM l p q s t z a b c d out m = out := by unfold stepM; rw [h]; simp
      rw [this]; exact ih _
/-- The moves of one kind from one jug, in the program's order; of one kind; all. -/
def rowL (kd i : Int) : Nat → Int → List S60
  | 0, _ => []
  | d + 1, j => ⟨kd, i, j⟩ :: rowL kd i d (j + 1)
def rowsL (kd : Int) (n : Nat) : Nat → Int → List S60
  | 0, _ => []
  | e + 1, i => rowL kd i n 0 ++ rowsL kd n e (i + 1)
def pairsL (n : Nat) : List S60 := rowsL 0 n n 0 ++ (rowsL 1 n n 0 ++ rowsL 2 n n 0)
theorem rowL_len (kd i : Int) : ∀ (d : Nat) (j : Int), (rowL kd i d j).length = d := by
  intro d
  induction d with
  | zero => intro j; rfl
  | succ d ih => intro j; simp [rowL, ih]
theorem rowsL_len (kd : Int) (n : Nat) : ∀ (e : Nat) (i : Int), (rowsL kd n e i).length = e * n := by
  intro e
  induction e with
  | zero => intro i; simp [rowsL]
  | succ e ih => intro i; simp only [rowsL, List.length_append, rowL_len, ih, Nat.add_mul]; omega
theorem l2_row (l : List Int) (h1 : 1 ≤ (l.length : Int)) (h4 : (l.length : Int) ≤ 4) (p q s t : Int) (z : Bool) (hj : okJ l = true) (a b c d : Int) (hw : WF l a b c d)
    (kd i : Int) (k0 : 0 ≤ kd) (k2 : kd ≤ 2) (i0 : 0 ≤ i) (i1 : i < (l.length : Int)) (r : List S60) (k : Nat) (hk : 3 ≤ k) :
    ∀ (n : Nat) (out : List S60) (j : Int), 0 ≤ j → j + n = (l.length : Int) → out.length + n ≤ 1000 →
    (∀ k', k ≤ k' → impl_Puzzle_moves.l1 k' ((rowL kd i n j).foldl (stepM l p q s t z a b c d) out) kd (l.length : Int) (i + 1) l p q s t z a b c d = some r) →
    ∀ k', k + n + 1 ≤ k' → impl_Puzzle_moves.l2 k' out kd i (l.length : Int) i (l.length : Int) j l p q s t z a b c d = some r := by
  intro n
  induction n with
  | zero =>
    intro out j j0 jn ho H k' hk'
    obtain ⟨k', rfl⟩ := fuel (show 1 ≤ k' by omega)
    simp only [impl_Puzzle_moves.l2]
    rw [if_neg (by omega), wi i0 (by omega)]
    exact H k' (by omega)
  | succ n ih =>
    intro out j j0 jn ho H k' hk'
    obtain ⟨k', rfl⟩ := fuel (show 1 ≤ k' by omega)
    simp only [impl_Puzzle_moves.l2]
    rw [if_pos (by omega), w8 (x := i) (by omega) (by omega), w8 (x := j) (by omega) (by omega), wi j0 (by omega)]
    obtain ⟨x, y, z', u, e1, _⟩ := moved_any (k := k') (by omega) l h1 h4 p q s t z hj a b c d hw (⟨kd, i, j⟩ : S60) k0 k2 i0 i1 j0 (by show j < _; omega)
    rw [show impl_Puzzle_moved.f k' l p q s t z a b c d kd i j = _ from e1]
    simp only [Option.bind_some]
    simp only [rowL, List.foldl_cons] at H
    have hn := ih (stepM l p q s t z a b c d out ⟨kd, i, j⟩) (j + 1) (by omega) (by omega) (by
      have : (stepM l p q s t z a b c d out ⟨kd, i, j⟩).length ≤ out.length + 1 := by unfold stepM; split <;> simp
      omega) H k' (by omega)
    rw [isMove_val l h1 h4 p q s t z kd i j (wf8_of (by omega) (by omega)) (wf8_of (by omega) (by omega))]
    simp only [Option.bind_some]
    unfold stepM okS at hn
    cases hf : flag l p q s t z a b c d ⟨kd, i, j⟩ with
    | false =>
      rw [hf] at hn
      simp only [Bool.and_false] at hn
      rw [if_neg (by simp)] at hn
      rw [if_neg (by simp)]
      exact hn
    | true =>
      rw [hf] at hn
      simp only [Bool.and_true] at hn
      rw [if_pos rfl]
      cases hm : okM (l.length : Int) kd i j with
      | true =>
        rw [hm, if_pos rfl] at hn
        rw [if_pos rfl, if_pos (by omega)]
        exact hn
      | false =>
        rw [hm, if_neg (by simp)] at hn
        rw [if_neg (by simp)]
        exact hn
theorem l1_rows (l : List Int) (h1 : 1 ≤ (l.length : Int)) (h4 : (l.length : Int) ≤ 4) (p q s t : Int) (z : Bool) (hj : okJ l = true) (a b c d : Int) (hw : WF l a b c d)
    (kd : Int) (k0 : 0 ≤ kd) (k2 : kd ≤ 2) (r : List S60) (k : Nat) (hk : 3 ≤ k) :
    ∀ (e : Nat) (out : List S60) (i : Int), 0 ≤ i → i + e = (l.length : Int) → out.length + e * l.length ≤ 900 →
    (∀ k', k ≤ k' → impl_Puzzle_moves.l0 k' ((rowsL kd l.length e i).foldl (stepM l p q s t z a b c d) out) (kd + 1) l p q s t z a b c d = some r) →
    ∀ k', k + e * 7 + 1 ≤ k' → impl_Puzzle_moves.l1 k' out kd (l.length : Int) i l p q s t z a b c d = some r := by
  intro e
  induction e with
  | zero =>
    intro out i i0 hi ho H k' hk'
    obtain ⟨k', rfl⟩ := fuel (show 1 ≤ k' by omega)
    simp only [impl_Puzzle_moves.l1]
    rw [if_neg (by omega), w8 (x := kd + 1) (by omega) (by omega)]
    exact H k' (by omega)
  | succ e ih =>
    intro out i i0 hi ho H k' hk'
    obtain ⟨k', rfl⟩ := fuel (show 1 ≤ k' by omega)
    simp only [impl_Puzzle_moves.l1]
    rw [if_pos (by omega)]
    simp only [rowsL, List.foldl_append] at H
    rw [Nat.add_mul] at ho
    have hb := stepM_len l p q s t z a b c d (rowL kd i l.length 0) out
    rw [rowL_len] at hb
    exact l2_row l h1 h4 p q s t z hj a b c d hw kd i k0 k2 i0 (by omega) r (k + e * 7 + 1) (by omega) l.length out 0 (by omega) (by omega) (by omega)
      (ih _ (i + 1) (by omega) (by omega) (by omega) H) k' (by omega)
theorem impl_moves_val (l : List Int) (h1 : 1 ≤ (l.length : Int)) (h4 : (l.length : Int) ≤ 4) (p q s t : Int) (z : Bool) (hj : okJ l = true) (a b c d : Int) (hw : WF l a b c d) :
    ∀ k, 120 ≤ k → impl_Puzzle_moves.f k l p q s t z a b c d = some ((pairsL l.length).foldl (stepM l p q s t z a b c d) []) := by
  have hsq : l.length * l.length ≤ 16 := Nat.mul_le_mul (show l.length ≤ 4 by omega) (show l.length ≤ 4 by omega)
  intro k hk
  unfold impl_Puzzle_moves.f pairsL
  rw [List.foldl_append, List.foldl_append]
  have b0 := stepM_len l p q s t z a b c d (rowsL 0 l.length l.length 0) []
  have b1 := stepM_len l p q s t z a b c d (rowsL 1 l.length l.length 0) ((rowsL 0 l.length l.length 0).foldl (stepM l p q s t z a b c d) [])
  rw [rowsL_len] at b0 b1
  simp only [List.length_nil] at b0
  have s3 : ∀ out k, 4 ≤ k → impl_Puzzle_moves.l0 k out (2 + 1) l p q s t z a b c d = some out := by
    intro out k hk
    obtain ⟨k, rfl⟩ := fuel (show 1 ≤ k by omega)
    simp only [impl_Puzzle_moves.l0]
    rw [if_neg (by omega)]
  have s2 : ∀ out, out.length ≤ 100 → ∀ k, 40 ≤ k → impl_Puzzle_moves.l0 k out (1 + 1) l p q s t z a b c d = some ((rowsL 2 l.length l.length 0).foldl (stepM l p q s t z a b c d) out) := by
    intro out ho k hk
    obtain ⟨k, rfl⟩ := fuel (show 1 ≤ k by omega)
    simp only [impl_Puzzle_moves.l0]
    rw [if_pos (by omega)]
    exact l1_rows l h1 h4 p q s t z hj a b c d hw 2 (by omega) (by omega) _ 4 (by omega) l.length out 0 (by omega) (by omega) (by omega) (fun k' hk' => s3 _ k' (by omega)) k (by omega)
  have s1 : ∀ out, out.length ≤ 60 → ∀ k, 80 ≤ k → impl_Puzzle_moves.l0 k out (0 + 1) l p q s t z a b c d = some ((rowsL 2 l.length l.length 0).foldl (stepM l p q s t z a b c d) ((rowsL 1 l.length l.length 0).foldl (stepM l p q s t z a b c d) out)) := by
    intro out ho k hk
    have hb := stepM_len l p q s t z a b c d (rowsL 1 l.length l.length 0) out
    rw [rowsL_len] at hb
    obtain ⟨k, rfl⟩ := fuel (show 1 ≤ k by omega)
    simp only [impl_Puzzle_moves.l0]
    rw [if_pos (by omega)]
    exact l1_rows l h1 h4 p q s t z hj a b c d hw 1 (by omega) (by omega) _ 40 (by omega) l.length out 0 (by omega) (by omega) (by omega) (fun k' hk' => s2 _ (by omega) k' (by omega)) k (by omega)
  obtain ⟨k, rfl⟩ := fuel (show 1 ≤ k by omega)
  simp only [impl_Puzzle_moves.l0]
  rw [if_pos (by omega)]
  exact l1_rows l h1 h4 p q s t z hj a b c d hw 0 (by omega) (by omega) _ 80 (by omega) l.length [] 0 (by omega) (by omega) (by simp; omega) (fun k' hk' => s1 _ (by omega) k' (by omega)) k (by omega)
theorem all1 : spec_l02All.l0 100 [] (IntKind.i8.wrap ((1 : Nat) : Int)) 0 = some ((pairsL 1).filter (okS ((1 : Nat) : Int))) := by kernel_rfl
theorem all2 : spec_l02All.l0 100 [] (IntKind.i8.wrap ((2 : Nat) : Int)) 0 = some ((pairsL 2).filter (okS ((2 : Nat) : Int))) := by kernel_rfl
theorem all3 : spec_l02All.l0 100 [] (IntKind.i8.wrap ((3 : Nat) : Int)) 0 = some ((pairsL 3).filter (okS ((3 : Nat) : Int))) := by kernel_rfl
theorem all4 : spec_l02All.l0 100 [] (IntKind.i8.wrap ((4 : Nat) : Int)) 0 = some ((pairsL 4).filter (okS ((4 : Nat) : Int))) := by kernel_rfl
theorem all_val (l : List Int) (h1 : 1 ≤ (l.length : Int)) (h4 : (l.length : Int) ≤ 4) (p q s t : Int) (z : Bool) : ∀ k, 100 ≤ k → spec_l02All.f k l p q s t z = some ((pairsL l.length).filter (okS (l.length : Int))) := by
  intro k hk
  refine at_rounds (g := fun k => spec_l02All.f k l p q s t z) (fun k => spec_l02All.mono _ _ _ _ _ _ k) hk ?_
  show spec_l02All.f 100 l p q s t z = _
  unfold spec_l02All.f
  have : l.length = 1 ∨ l.length = 2 ∨ l.length = 3 ∨ l.length = 4 := by omega
  rcases this with e | e | e | e <;> rw [e]
  · exact all1
  · exact all2
  · exact all3
  · exact all4
theorem okM_in {n m0 m1 m2 : Int} (h1 : 1 ≤ n) (h : okM n m0 m1 m2 = true) : (0 ≤ m0 ∧ m0 ≤ 2) ∧ (0 ≤ m1 ∧ m1 < n) ∧ (0 ≤ m2 ∧ m2 < n) := by
  unfold okM at h
  by_cases e0 : m0 = 0
  · simp [e0] at h; omega
  · by_cases e1 : m0 = 1
    · simp [e1] at h; omega
    · by_cases e2 : m0 = 2
      · simp [e2] at h; omega
      · simp [e0, e1, e2] at h

end Go.Proofs.Ytodmfjophjhbeaa.Pure
