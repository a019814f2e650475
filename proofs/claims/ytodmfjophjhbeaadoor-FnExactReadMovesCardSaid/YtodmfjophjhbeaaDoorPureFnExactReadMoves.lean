/- The program's ReadMoves returns what the reference's returns. Conditions: none. -/
import Derived.Test.YtodmfjophjhbeaaDoorMPureA
-- IMPORTS
import Derived.Test.YtodmfjophjhbeaaDoorMx0
import Derived.Test.YtodmfjophjhbeaaDoorMx3
import Derived.Test.YtodmfjophjhbeaaDoorMx4
import Derived.Test.YtodmfjophjhbeaaDoorMx7
import Derived.Test.YtodmfjophjhbeaaDoorMx8
import Derived.Test.YtodmfjophjhbeaaDoorMx9
import Derived.Test.YtodmfjophjhbeaaDoorMx10
namespace Go.Proofs.YtodmfjophjhbeaaDoor.Pure
open Go.RowKit Go.Proofs.YtodmfjophjhbeaaDoor.M Go.Proofs.YtodmfjophjhbeaaDoorW.PrintWords Go.Proofs.YtodmfjophjhbeaaDoorW.PrintLast Go.Proofs.YtodmfjophjhbeaaDoorW.PrintMore
set_option linter.unusedVariables false
set_option linter.unusedSimpArgs false

def m8 (k : Int) : Int := IntKind.i8.wrap k
/-- Moves with marks from k on. -/
def markedM : Int → List S56 → List S56
  | _, [] => []
  | k, _ :: r => ⟨m8 k, m8 (k + 1), m8 (k + 2)⟩ :: markedM (k + 3) r
theorem markedM_len : ∀ (l : List S56) (k : Int), (markedM k l).length = l.length := by
  intro l
  induction l with
  | nil => intro k; rfl
  | cons x r ih => intro k; simp [markedM, ih]
theorem rdm60_pre (pre : List S56) (x : S56) (suf : List S56) : rd_T56 (pre ++ x :: suf) (pre.length : Int) = x := by
  unfold rd_T56; simp [List.getD]
theorem set60_pre (pre : List S56) (x y : S56) (suf : List S56) : (pre ++ x :: suf).set ((pre.length : Int)).toNat y = pre ++ y :: suf := by
  rw [List.set_append_right _ _ (by simp)]; simp
theorem markM_l0 : ∀ (suf pre : List S56) (k : Int) (f : Nat), pre.length + suf.length ≤ 1048576 → 0 ≤ k → k + 3 * suf.length ≤ 9000000 → suf.length + 1 ≤ f →
    laws_markMoveS.l0 f (pre ++ suf) k (pre.length : Int) = some (k + 3 * suf.length, pre ++ markedM k suf) := by
  intro suf
  induction suf with
  | nil =>
    intro pre k f hl h0 h1 hf
    obtain ⟨f, rfl⟩ := fuel (show 1 ≤ f by omega)
    simp only [laws_markMoveS.l0]
    rw [if_neg (by simp)]
    simp [markedM]
  | cons x suf ih =>
    intro pre k f hl h0 h1 hf
    simp only [List.length_cons] at hl h1 hf
    obtain ⟨f, rfl⟩ := fuel (show 1 ≤ f by omega)
    have w1 : wrap64 (k + 1) = k + 1 := wi h0 (by omega)
    have w2 : wrap64 (k + 1 + 1) = k + 2 := by rw [wi (by omega) (by omega)]; omega
    have w3 : wrap64 (k + 2 + 1) = k + 3 := by rw [wi (by omega) (by omega)]; omega
    simp only [laws_markMoveS.l0, Option.bind_some, set60_pre, rdm60_pre, w1, w2, w3]
    rw [if_pos (by simp; omega), if_pos (by omega), wi (by omega) (by omega)]
    have h := ih (pre ++ [(⟨m8 k, m8 (k + 1), m8 (k + 2)⟩ : S56)]) (k + 3) f (by simp; omega) (by omega) (by omega) (by omega)
    simp only [List.append_assoc, List.cons_append, List.nil_append, List.length_append, List.length_cons, List.length_nil] at h
    rw [show ((pre.length + (0 + 1) : Nat) : Int) = (pre.length : Int) + 1 by omega] at h
    simp only [m8] at h
    rw [h]
    simp only [markedM, List.length_cons, m8]
    congr 2
    push_cast; omega
theorem heldM_l0 : ∀ (suf pre : List S56) (k : Int) (f : Nat), pre.length + suf.length ≤ 1048576 → 0 ≤ k → k + 3 * suf.length ≤ 9000000 → suf.length + 1 ≤ f →
    laws_heldMoveS.l0 f (pre ++ markedM k suf) k (pre.length : Int) = some (k + 3 * suf.length) := by
  intro suf
  induction suf with
  | nil =>
    intro pre k f hl h0 h1 hf
    obtain ⟨f, rfl⟩ := fuel (show 1 ≤ f by omega)
    simp only [laws_heldMoveS.l0]
    rw [if_neg (by simp [markedM])]
    simp
  | cons x suf ih =>
    intro pre k f hl h0 h1 hf
    simp only [List.length_cons] at hl h1 hf
    obtain ⟨f, rfl⟩ := fuel (show 1 ≤ f by omega)
    have w1 : wrap64 (k + 1) = k + 1 := wi h0 (by omega)
    have w2 : wrap64 (k + 1 + 1) = k + 2 := by rw [wi (by omega) (by omega)]; omega
    have w3 : wrap64 (k + 2 + 1) = k + 3 := by rw [wi (by omega) (by omega)]; omega
    have h := ih (pre ++ [(⟨m8 k, m8 (k + 1), m8 (k + 2)⟩ : S56)]) (k + 3) f (by simp; omega) (by omega) (by omega) (by omega)
    simp only [List.append_assoc, List.cons_append, List.nil_append, List.length_append, List.length_cons, List.length_nil] at h
    rw [show ((pre.length + (0 + 1) : Nat) : Int) = (pre.length : Int) + 1 by omega] at h
    simp only [laws_heldMoveS.l0, markedM, rdm60_pre, w1, w2, w3]
    rw [if_pos (by simp; omega), if_pos (by omega), if_pos (show m8 k = IntKind.i8.wrap k from rfl), if_pos (show m8 (k + 1) = IntKind.i8.wrap (k + 1) from rfl), if_pos (show m8 (k + 2) = IntKind.i8.wrap (k + 2) from rfl), wi (by omega) (by omega), h]
    simp only [List.length_cons]
    congr 1
    push_cast; omega
theorem markM_val {f : Nat} (l : List S56) (hl : l.length ≤ 1048576) (hf : l.length + 1 ≤ f) : laws_markMoveS.f f l 1 = some (1 + 3 * (l.length : Int), markedM 1 l) := by
  unfold laws_markMoveS.f
  exact markM_l0 l [] 1 f (by simpa using hl) (by omega) (by omega) hf
theorem heldM_val {f : Nat} (l : List S56) (hl : l.length ≤ 1048576) (hf : l.length + 1 ≤ f) : laws_heldMoveS.f f (markedM 1 l) 1 = some (1 + 3 * (l.length : Int)) := by
  unfold laws_heldMoveS.f
  exact heldM_l0 l [] 1 f (by simpa using hl) (by omega) (by omega) hf

theorem eqMove_self (a b c : Int) : laws_eqMove.f a b c a b c = some true := by
  unfold laws_eqMove.f; simp
theorem eqMoveS_l0 (l : List S56) (hl : l.length ≤ 1048576) : ∀ (d k : Nat) (i : Int), 0 ≤ i → (l.length : Int) - i ≤ d → d + 6 ≤ k → laws_eqMoveS.l0 k l l i = some true := by
  intro d
  induction d with
  | zero =>
    intro k i h0 h1 h2
    obtain ⟨k, rfl⟩ := fuel (show 1 ≤ k by omega)
    simp only [laws_eqMoveS.l0]; rw [if_neg (by omega)]
  | succ d ih =>
    intro k i h0 h1 h2
    obtain ⟨k, rfl⟩ := fuel (show 1 ≤ k by omega)
    simp only [laws_eqMoveS.l0]
    by_cases h : i < (l.length : Int)
    · rw [if_pos h, if_pos h0, if_pos h, eqMove_self]
      simp only [Option.bind_some]
      rw [if_pos trivial, wi h0 (by omega)]
      exact ih k (i + 1) (by omega) (by omega) (by omega)
    · rw [if_neg h]
theorem eqMoveS_self {k : Nat} (l : List S56) (hl : l.length ≤ 1048576) (h : l.length + 6 ≤ k) : laws_eqMoveS.f k l l = some true := by
  unfold laws_eqMoveS.f
  rw [if_pos rfl]
  exact eqMoveS_l0 l hl l.length k 0 (by omega) (by omega) h


theorem in_val (a b c : Int) : spec_l00In.f a b c = some (decide (b ≤ a ∧ a ≤ c)) := by
  unfold spec_l00In.f
  by_cases h : a ≥ b
  · rw [if_pos h]; simp [show b ≤ a from h]
  · rw [if_neg h]; simp [show ¬ b ≤ a from h]
/-- A move in its range. -/
def Val (m : S56) : Prop := (0 ≤ m.f0 ∧ m.f0 ≤ 2) ∧ (0 ≤ m.f1 ∧ m.f1 ≤ 3) ∧ (0 ≤ m.f2 ∧ m.f2 ≤ 3) ∧ (m.f0 = 0 ∨ m.f2 = 0)
theorem ww {x : Int} (h0 : -1000 ≤ x) (h1 : x ≤ 1000) : wrap64 x = x := by unfold wrap64; omega
theorem jug_val {x : Int} (h : 0 ≤ x ∧ x ≤ 3) : spec_l02Jug.f x = some true := by
  unfold spec_l02Jug.f
  rw [ww (by omega) (by omega), in_val, decide_eq_true h]
  rfl
theorem moves_l0 : ∀ (suf pre : List S56) (k : Nat), (∀ m ∈ suf, Val m) → pre.length + suf.length ≤ 1048600 → suf.length + 1 ≤ k →
    spec_l02Moves.l0 k (pre ++ suf) (pre.length : Int) = some (decide (pre.length + suf.length ≤ 200)) := by
  intro suf
  induction suf with
  | nil =>
    intro pre k hv hl hk
    obtain ⟨k, rfl⟩ := fuel (show 1 ≤ k by omega)
    simp only [spec_l02Moves.l0]
    rw [if_neg (by simp)]
    congr 1
    simp only [List.append_nil, List.length_nil, Nat.add_zero]
    exact decide_eq_decide.2 (by omega)
  | cons m suf ih =>
    intro pre k hv hl hk
    simp only [List.length_cons] at hl hk
    obtain ⟨k, rfl⟩ := fuel (show 1 ≤ k by omega)
    obtain ⟨h0, h1, h2, h3⟩ := hv m List.mem_cons_self
    have hh := ih (pre ++ [m]) k (fun x hx => hv x (List.mem_cons_of_mem _ hx)) (by simp; omega) (by omega)
    rw [show (((pre ++ [m]).length : Nat) : Int) = (pre.length : Int) + 1 by simp, List.append_assoc, List.singleton_append, show (pre ++ [m]).length + suf.length = pre.length + (m :: suf).length by simp; omega] at hh
    simp only [spec_l02Moves.l0, rdm60_pre]
    rw [if_pos (by simp; omega), if_pos (by omega), ww (by omega) (by omega), in_val, decide_eq_true h0, jug_val h1, jug_val h2, wi (by omega) (by omega), hh]
    simp only [Option.bind_some]
    rw [if_pos trivial, if_pos trivial, if_pos trivial]
    by_cases c : m.f0 = 0
    · rw [if_pos c]
    · rw [if_neg c, if_pos (h3.resolve_left c)]
theorem moves_val (l : List S56) {k : Nat} (hv : ∀ m ∈ l, Val m) (hl : l.length ≤ 1048600) (hk : l.length + 1 ≤ k) : spec_l02Moves.f k l = some (decide (l.length ≤ 200)) := by
  unfold spec_l02Moves.f
  have := moves_l0 l [] k hv (by simpa using hl) hk
  simpa using this
theorem rdb_pre (pre : List ByteArray) (x : ByteArray) (suf : List ByteArray) : rdOf ByteArray.empty (pre ++ x :: suf) (pre.length : Int) = x := by
  unfold rdOf; simp [List.getD]
theorem val_of {f j t : Int} {w : ByteArray} (h : Good f j t w) : Val ⟨f, j, t⟩ := ⟨h.1, h.2.1, h.2.2.1, (tab_use h).2⟩
theorem val_app {acc : List S56} (h : ∀ m ∈ acc, Val m) {m : S56} (hm : Val m) : ∀ x ∈ acc ++ [m], Val x := by
  intro x hx
  rcases List.mem_append.1 hx with hx | hx
  · exact h x hx
  · rw [List.mem_singleton.1 hx]; exact hm
/-- Past two hundred moves the reference answers with the error, whatever follows. -/
theorem spec_over : ∀ (suf pre : List ByteArray) (acc : List S56) (k : Nat), (∀ m ∈ acc, Val m) → 200 < acc.length → acc.length ≤ pre.length → pre.length + suf.length ≤ 1048577 → pre.length + 2 * suf.length + 400 ≤ k →
    spec_ReadMoves.l0 k acc (pre ++ suf) (pre.length : Int) = some (([] : List S56), 5) := by
  intro suf
  induction suf with
  | nil =>
    intro pre acc k hv h2 ha hl hk
    obtain ⟨k, rfl⟩ := fuel (show 1 ≤ k by omega)
    simp only [spec_ReadMoves.l0]
    simp only [List.length_nil] at hl hk
    rw [if_neg (by simp), moves_val acc hv (by omega) (by omega), decide_eq_false (by omega)]
    simp only [Option.bind_some]
    rw [if_neg (by simp)]
  | cons w suf ih =>
    intro pre acc k hv h2 ha hl hk
    simp only [List.length_cons] at hl hk
    obtain ⟨k, rfl⟩ := fuel (show 1 ≤ k by omega)
    simp only [spec_ReadMoves.l0, rdb_pre]
    rw [if_pos (by simp; omega), if_pos (by omega), wi (by omega) (by omega)]
    rcases read_same w (k := k) (by omega) with ⟨f, j, t, hg, hs, _⟩ | ⟨a, b, c, d, e, g, hs, _⟩
    · rw [hs]
      simp only [Option.bind_some]
      rw [if_pos trivial, if_pos (by omega)]
      have hh := ih (pre ++ [w]) (acc ++ [⟨f, j, t⟩]) k (val_app hv (val_of hg)) (by simp; omega) (by simp; omega) (by simp; omega) (by simp; omega)
      rw [show (((pre ++ [w]).length : Nat) : Int) = (pre.length : Int) + 1 by simp, List.append_assoc, List.singleton_append] at hh
      exact hh
    · rw [hs]
      simp only [Option.bind_some]
      rw [if_neg (by simp)]
theorem both_l0 : ∀ (suf pre : List ByteArray) (acc : List S56) (k : Nat), (∀ m ∈ acc, Val m) → acc.length ≤ 200 → acc.length ≤ pre.length → pre.length + suf.length ≤ 1048577 → pre.length + 2 * suf.length + 400 ≤ k →
    ∃ ms e, ms.length ≤ 200 ∧ spec_ReadMoves.l0 k acc (pre ++ suf) (pre.length : Int) = some (ms, e) ∧ impl_ReadMoves.l0 k acc (pre ++ suf) ((pre ++ suf).length : Int) (pre.length : Int) = some (ms, e) := by
  intro suf
  induction suf with
  | nil =>
    intro pre acc k hv h2 ha hl hk
    obtain ⟨k, rfl⟩ := fuel (show 1 ≤ k by omega)
    simp only [List.length_nil] at hl hk
    refine ⟨acc, 0, h2, ?_, ?_⟩
    · simp only [spec_ReadMoves.l0]
      rw [if_neg (by simp), moves_val acc hv (by omega) (by omega), decide_eq_true h2]
      simp only [Option.bind_some]
      rw [if_pos trivial]
    · simp only [impl_ReadMoves.l0]
      rw [if_neg (by simp)]
  | cons w suf ih =>
    intro pre acc k hv h2 ha hl hk
    simp only [List.length_cons] at hl hk
    obtain ⟨k, rfl⟩ := fuel (show 1 ≤ k by omega)
    have hlt : (pre.length : Int) < (((pre ++ w :: suf).length : Nat) : Int) := by simp; omega
    simp only [spec_ReadMoves.l0, impl_ReadMoves.l0, rdb_pre]
    rw [if_pos hlt, if_pos (by omega), if_pos hlt, if_pos (by omega), if_pos hlt, wi (by omega) (by omega)]
    rcases read_same w (k := k) (by omega) with ⟨f, j, t, hg, hs, hi⟩ | ⟨a, b, c, d, e, g, hs, hi⟩
    · rw [hs, hi]
      simp only [Option.bind_some]
      rw [if_pos trivial, if_pos trivial, if_pos (by omega)]
      by_cases c : (acc.length : Int) = 200
      · rw [if_pos c]
        refine ⟨[], 5, by simp, ?_, rfl⟩
        have hh := spec_over suf (pre ++ [w]) (acc ++ [⟨f, j, t⟩]) k (val_app hv (val_of hg)) (by simp; omega) (by simp; omega) (by simp; omega) (by simp; omega)
        rw [show (((pre ++ [w]).length : Nat) : Int) = (pre.length : Int) + 1 by simp, List.append_assoc, List.singleton_append] at hh
        exact hh
      · rw [if_neg c, if_pos (by omega)]
        have hh := ih (pre ++ [w]) (acc ++ [⟨f, j, t⟩]) k (val_app hv (val_of hg)) (by simp; omega) (by simp; omega) (by simp; omega) (by simp; omega)
        rw [show (((pre ++ [w]).length : Nat) : Int) = (pre.length : Int) + 1 by simp, List.append_assoc, List.singleton_append] at hh
        exact hh
    · rw [hs, hi]
      simp only [Option.bind_some]
      rw [if_neg (by simp), if_neg (by simp)]
      exact ⟨[], 5, by simp, rfl, rfl⟩
theorem read_all (x : ByteArray) (hx : x.size ≤ 1048576) {k : Nat} (hk : 3000000 ≤ k) : ∃ ms e, ms.length ≤ 200 ∧ spec_ReadMoves.f k x = some (ms, e) ∧ impl_ReadMoves.f k x = some (ms, e) := by
  unfold spec_ReadMoves.f impl_ReadMoves.f
  simp only [Option.bind_some]
  by_cases c : x.toList = ([] : List UInt8)
  · rw [if_pos c, if_pos c]
    exact ⟨[], 0, by simp, rfl, rfl⟩
  · rw [if_neg c, if_neg c, split_val x hx (by omega), split_lib x hx]
    simp only [Option.bind_some]
    have hl := pieces_len x
    have hh := both_l0 (pieces x) [] [] k (by simp) (by simp) (by simp) (by simp; omega) (by simp; omega)
    simpa using hh
theorem FnExactReadMoves (x0_0 : ByteArray) (w0_0 : (fun s : ByteArray => s.size ≤ maxLen) x0_0) : ∃ k, laws_FnExactReadMoves.f k x0_0 = some true := by
  refine ⟨3000000 + 10, ?_⟩
  obtain ⟨k, hk⟩ : ∃ k, k = 3000000 := ⟨_, rfl⟩
  rw [← hk]
  unfold laws_FnExactReadMoves.f
  by_cases e0 : (x0_0.size : Int) > 1048576
  · rw [if_pos e0]
  · rw [if_neg e0]
    obtain ⟨ms, e, hm, h2, h3⟩ := read_all x0_0 (by omega) (k := k) (by omega)
    have hs : ∀ j, spec_ReadMoves.f (k + j) x0_0 = some (ms, e) := fun j => at_rounds (g := fun k => spec_ReadMoves.f k x0_0) (fun k => spec_ReadMoves.mono _ k) (Nat.le_add_right k j) h2
    have hi : ∀ j, impl_ReadMoves.f (k + j) x0_0 = some (ms, e) := fun j => at_rounds (g := fun k => impl_ReadMoves.f k x0_0) (fun k => impl_ReadMoves.mono _ k) (Nat.le_add_right k j) h3
    have he : ∀ j, laws_eqMoveS.f (k + j) ms ms = some true := fun j => eqMoveS_self ms (by omega) (by omega)
    have hmm : ∀ j, laws_markMoveS.f (k + j) ms 1 = some (1 + 3 * (ms.length : Int), markedM 1 ms) := fun j => markM_val ms (by omega) (by omega)
    have hh : ∀ j, laws_heldMoveS.f (k + j) (markedM 1 ms) 1 = some (1 + 3 * (ms.length : Int)) := fun j => heldM_val ms (by omega) (by omega)
    rw [hs, hi]
    simp only [Option.bind_some]
    rw [he]
    simp only [Option.bind_some]
    rw [if_pos trivial, bne_self_eq_false, show k + 10 = (k + 9) + 1 from rfl]
    simp only [laws_FnExactReadMoves.j0]
    rw [if_neg (by simp), hmm]
    simp only [Option.bind_some]
    rw [hh]
    simp only [Option.bind_some]
    rw [if_neg (by omega), if_pos trivial, hi]
    simp only [Option.bind_some]
    rw [he]
    simp only [Option.bind_some]
    rw [if_pos trivial, bne_self_eq_false, show k + 9 = (k + 8) + 1 from rfl]
    simp only [laws_FnExactReadMoves.j1]
    rw [if_neg (by simp), hh]
    simp only [Option.bind_some]
    rw [if_neg (by omega), if_pos trivial]

end Go.Proofs.YtodmfjophjhbeaaDoor.Pure
