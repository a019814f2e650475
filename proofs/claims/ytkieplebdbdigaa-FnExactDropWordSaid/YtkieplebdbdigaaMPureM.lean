/- Plain laws: marks laid into words, and found again. -/
import Derived.Test.YtkieplebdbdigaaMPureF
-- IMPORTS
import Derived.Test.YtkieplebdbdigaaMx0
import Derived.Test.YtkieplebdbdigaaMx10
import Derived.Test.YtkieplebdbdigaaMx11
namespace Go.Proofs.Ytkieplebdbdigaa.Pure
open Go.RowKit Go.Proofs.Ytkieplebdbdigaa.M Go.Proofs.YtkieplebdbdigaaW.PrintWords Go.Proofs.YtkieplebdbdigaaW.PrintLast Go.Proofs.YtkieplebdbdigaaW.PrintMore
set_option linter.unusedVariables false
set_option linter.unusedSimpArgs false

def m8 (k : Int) : Int := IntKind.i8.wrap k
/-- Words with marks from k on. -/
def marked : Int → List S41 → List S41
  | _, [] => []
  | k, _ :: r => ⟨m8 k, m8 (k + 1), m8 (k + 2), m8 (k + 3)⟩ :: marked (k + 4) r
theorem marked_len : ∀ (l : List S41) (k : Int), (marked k l).length = l.length := by
  intro l
  induction l with
  | nil => intro k; rfl
  | cons x r ih => intro k; simp [marked, ih]
theorem rdm_pre (pre : List S41) (x : S41) (suf : List S41) : rd_T41 (pre ++ x :: suf) (pre.length : Int) = x := by
  unfold rd_T41; simp [List.getD]
theorem set_pre (pre : List S41) (x y : S41) (suf : List S41) : (pre ++ x :: suf).set ((pre.length : Int)).toNat y = pre ++ y :: suf := by
  rw [List.set_append_right _ _ (by simp)]; simp
theorem mark_l1 (pre : List S41) (x : S41) (suf : List S41) (hl : pre.length + suf.length ≤ 1048576) (k : Int) (h0 : 0 ≤ k) (h1 : k ≤ 10000000) (f : Nat) :
    laws_markWordS.l1 (f + 5) (pre ++ x :: suf) k (pre.length : Int) 0 = laws_markWordS.l0 f ((pre ++ [(⟨m8 k, m8 (k + 1), m8 (k + 2), m8 (k + 3)⟩ : S41)]) ++ suf) (k + 4) ((pre ++ [(⟨m8 k, m8 (k + 1), m8 (k + 2), m8 (k + 3)⟩ : S41)]).length : Int) := by
  obtain ⟨x0, x1, x2, x3⟩ := x
  have w1 : wrap64 (k + 1) = k + 1 := wi h0 (by omega)
  have w2 : wrap64 (k + 1 + 1) = k + 2 := by rw [wi (by omega) (by omega)]; omega
  have w3 : wrap64 (k + 2 + 1) = k + 3 := by rw [wi (by omega) (by omega)]; omega
  have w4 : wrap64 (k + 3 + 1) = k + 4 := by rw [wi (by omega) (by omega)]; omega
  have v1 : wrap64 (0 + 1) = 1 := by rw [wi (by omega) (by omega)]; rfl
  have v2 : wrap64 (1 + 1) = 2 := by rw [wi (by omega) (by omega)]; rfl
  have v3 : wrap64 (2 + 1) = 3 := by rw [wi (by omega) (by omega)]; rfl
  have v4 : wrap64 (3 + 1) = 4 := by rw [wi (by omega) (by omega)]; rfl
  have p1 : (0 : Int) ≤ (pre.length : Int) := by omega
  have p2 : ∀ y : S41, (pre.length : Int) < ((pre ++ y :: suf).length : Int) := by intro y; simp; omega
  simp only [laws_markWordS.l1]
  rw [if_pos (show (0 : Int) < 4 by decide), if_pos p1, if_pos (p2 _), if_pos (show (0 : Int) ≤ 0 by decide), v1, w1, rdm_pre, set_pre]
  rw [if_pos (show (1 : Int) < 4 by decide), if_pos (p2 _), if_pos (show (0 : Int) ≤ 1 by decide), v2, w2, rdm_pre, set_pre]
  rw [if_pos (show (2 : Int) < 4 by decide), if_pos (p2 _), if_pos (show (0 : Int) ≤ 2 by decide), v3, w3, rdm_pre, set_pre]
  rw [if_pos (show (3 : Int) < 4 by decide), if_pos (p2 _), if_pos (show (0 : Int) ≤ 3 by decide), v4, w4, rdm_pre, set_pre]
  rw [if_neg (show ¬ (4 : Int) < 4 by decide), wi p1 (by omega)]
  simp [aup, m8]
theorem mark_l0 : ∀ (suf pre : List S41) (k : Int) (f : Nat), pre.length + suf.length ≤ 1048576 → 0 ≤ k → k + 4 * suf.length ≤ 9000000 → 6 * suf.length + 6 ≤ f →
    laws_markWordS.l0 f (pre ++ suf) k (pre.length : Int) = some (k + 4 * suf.length, pre ++ marked k suf) := by
  intro suf
  induction suf with
  | nil =>
    intro pre k f hl h0 h1 hf
    obtain ⟨f, rfl⟩ := fuel (show 1 ≤ f by omega)
    simp only [laws_markWordS.l0]
    rw [if_neg (by simp)]
    simp [marked]
  | cons x suf ih =>
    intro pre k f hl h0 h1 hf
    simp only [List.length_cons] at hl h1 hf
    obtain ⟨f, rfl⟩ := fuel (show 6 ≤ f by omega)
    have e : f + 6 = (f + 5) + 1 := rfl
    rw [e, laws_markWordS.l0, if_pos (by simp; omega), mark_l1 pre x suf (by omega) k h0 (by omega) f, ih _ (k + 4) f (by simp; omega) (by omega) (by omega) (by omega)]
    simp only [marked, List.length_cons, List.append_assoc, List.cons_append, List.nil_append]
    congr 2
    push_cast; omega
theorem held_l1 (pre : List S41) (suf : List S41) (hl : pre.length + suf.length ≤ 1048576) (k : Int) (h0 : 0 ≤ k) (h1 : k ≤ 10000000) (f : Nat) :
    laws_heldWordS.l1 (f + 5) (pre ++ (⟨m8 k, m8 (k + 1), m8 (k + 2), m8 (k + 3)⟩ : S41) :: suf) k (pre.length : Int) 0 = laws_heldWordS.l0 f (pre ++ (⟨m8 k, m8 (k + 1), m8 (k + 2), m8 (k + 3)⟩ : S41) :: suf) (k + 4) ((pre.length : Int) + 1) := by
  have w1 : wrap64 (k + 1) = k + 1 := wi h0 (by omega)
  have w2 : wrap64 (k + 1 + 1) = k + 2 := by rw [wi (by omega) (by omega)]; omega
  have w3 : wrap64 (k + 2 + 1) = k + 3 := by rw [wi (by omega) (by omega)]; omega
  have w4 : wrap64 (k + 3 + 1) = k + 4 := by rw [wi (by omega) (by omega)]; omega
  have v1 : wrap64 (0 + 1) = 1 := by rw [wi (by omega) (by omega)]; rfl
  have v2 : wrap64 (1 + 1) = 2 := by rw [wi (by omega) (by omega)]; rfl
  have v3 : wrap64 (2 + 1) = 3 := by rw [wi (by omega) (by omega)]; rfl
  have v4 : wrap64 (3 + 1) = 4 := by rw [wi (by omega) (by omega)]; rfl
  have p1 : (0 : Int) ≤ (pre.length : Int) := by omega
  have p2 : ∀ y : S41, (pre.length : Int) < ((pre ++ y :: suf).length : Int) := by intro y; simp; omega
  simp only [laws_heldWordS.l1, rdm_pre]
  rw [if_pos (show (0 : Int) < 4 by decide), if_pos p1, if_pos (p2 _), if_pos (show (0 : Int) ≤ 0 by decide), if_pos (show rd [m8 k, m8 (k + 1), m8 (k + 2), m8 (k + 3)] 0 = IntKind.i8.wrap k from rfl), v1, w1]
  rw [if_pos (show (1 : Int) < 4 by decide), if_pos (show (0 : Int) ≤ 1 by decide), if_pos (show rd [m8 k, m8 (k + 1), m8 (k + 2), m8 (k + 3)] 1 = IntKind.i8.wrap (k + 1) from rfl), v2, w2]
  rw [if_pos (show (2 : Int) < 4 by decide), if_pos (show (0 : Int) ≤ 2 by decide), if_pos (show rd [m8 k, m8 (k + 1), m8 (k + 2), m8 (k + 3)] 2 = IntKind.i8.wrap (k + 2) from rfl), v3, w3]
  rw [if_pos (show (3 : Int) < 4 by decide), if_pos (show (0 : Int) ≤ 3 by decide), if_pos (show rd [m8 k, m8 (k + 1), m8 (k + 2), m8 (k + 3)] 3 = IntKind.i8.wrap (k + 3) from rfl), v4, w4]
  rw [if_neg (show ¬ (4 : Int) < 4 by decide), wi p1 (by omega)]
  simp only [p1, p2, if_true]
theorem held_l0 : ∀ (suf pre : List S41) (k : Int) (f : Nat), pre.length + suf.length ≤ 1048576 → 0 ≤ k → k + 4 * suf.length ≤ 9000000 → 6 * suf.length + 6 ≤ f →
    laws_heldWordS.l0 f (pre ++ marked k suf) k (pre.length : Int) = some (k + 4 * suf.length) := by
  intro suf
  induction suf with
  | nil =>
    intro pre k f hl h0 h1 hf
    obtain ⟨f, rfl⟩ := fuel (show 1 ≤ f by omega)
    simp only [laws_heldWordS.l0]
    rw [if_neg (by simp [marked])]
    simp
  | cons x suf ih =>
    intro pre k f hl h0 h1 hf
    simp only [List.length_cons] at hl h1 hf
    obtain ⟨f, rfl⟩ := fuel (show 6 ≤ f by omega)
    have e : f + 6 = (f + 5) + 1 := rfl
    have := ih (pre ++ [(⟨m8 k, m8 (k + 1), m8 (k + 2), m8 (k + 3)⟩ : S41)]) (k + 4) f (by simp; omega) (by omega) (by omega) (by omega)
    simp only [List.append_assoc, List.cons_append, List.nil_append, List.length_append, List.length_cons, List.length_nil] at this
    simp only [marked]
    rw [e, laws_heldWordS.l0, if_pos (by simp; omega), held_l1 pre (marked (k + 4) suf) (by rw [marked_len]; omega) k h0 (by omega) f]
    rw [show ((pre.length + (0 + 1) : Nat) : Int) = (pre.length : Int) + 1 by omega] at this
    rw [this]
    simp only [List.length_cons]
    congr 1
    push_cast; omega
theorem mark_val {f : Nat} (l : List S41) (k : Int) (hl : l.length ≤ 1048576) (h0 : 0 ≤ k) (h1 : k + 4 * l.length ≤ 9000000) (hf : 6 * l.length + 6 ≤ f) : laws_markWordS.f f l k = some (k + 4 * l.length, marked k l) := by
  unfold laws_markWordS.f
  exact mark_l0 l [] k f (by simpa using hl) h0 h1 hf
theorem held_val {f : Nat} (l : List S41) (k : Int) (hl : l.length ≤ 1048576) (h0 : 0 ≤ k) (h1 : k + 4 * l.length ≤ 9000000) (hf : 6 * l.length + 6 ≤ f) : laws_heldWordS.f f (marked k l) k = some (k + 4 * l.length) := by
  unfold laws_heldWordS.f
  exact held_l0 l [] k f (by simpa using hl) h0 h1 hf
theorem markF_val {f : Nat} (p q : Int) (l : List S41) (k : Int) (hl : l.length ≤ 1048576) (h0 : 0 ≤ k) (h1 : k + 4 * l.length ≤ 9000000) (hf : 6 * l.length + 6 ≤ f) : laws_markFixed.f f p q l k = some (k + 4 * l.length, marked k l) := by
  unfold laws_markFixed.f
  rw [mark_val l k hl h0 h1 hf]; rfl
theorem heldF_val {f : Nat} (p q : Int) (l : List S41) (k : Int) (hl : l.length ≤ 1048576) (h0 : 0 ≤ k) (h1 : k + 4 * l.length ≤ 9000000) (hf : 6 * l.length + 6 ≤ f) : laws_heldFixed.f f p q (marked k l) k = some (k + 4 * l.length) := by
  unfold laws_heldFixed.f
  rw [held_val l k hl h0 h1 hf]
  simp only [Option.bind_some]
  rw [if_neg (by omega)]
end Go.Proofs.Ytkieplebdbdigaa.Pure
