/- Plain laws: the number of a water, and the water with a number. -/
import Derived.Test.YtodmfjophjhbeaaMPureK
-- IMPORTS
import Derived.Test.YtodmfjophjhbeaaMx0
namespace Go.Proofs.Ytodmfjophjhbeaa.Pure
open Go.RowKit Go.Proofs.Ytodmfjophjhbeaa.M Go.Proofs.YtodmfjophjhbeaaW.PrintWords Go.Proofs.YtodmfjophjhbeaaW.PrintLast Go.Proofs.YtodmfjophjhbeaaW.PrintMore
set_option linter.unusedVariables false
set_option linter.unusedSimpArgs false

/-- The number of a water, the water with a number, how many numbers there are; a water that is right for jugs. -/
def idxR : List Int → List Int → Int
  | x :: l, w :: ws => idxR l ws * (x + 1) + w
  | _, _ => 0
def atR : List Int → Int → List Int
  | x :: l, y => (y % (x + 1)) :: atR l (y / (x + 1))
  | [], _ => []
def prodL : List Int → Int
  | x :: l => prodL l * (x + 1)
  | [] => 1
def inR : List Int → List Int → Prop
  | x :: l, w :: ws => (0 ≤ w ∧ w ≤ x) ∧ inR l ws
  | [], _ => True
  | _ :: _, [] => False
theorem prodL_pos : ∀ (l : List Int), (∀ x ∈ l, 1 ≤ x) → 1 ≤ prodL l
  | [], _ => Int.le_refl _
  | x :: l, h => by
    have ih := prodL_pos l (fun y hy => h y (List.mem_cons_of_mem _ hy))
    have hx := h x List.mem_cons_self
    have := Int.mul_le_mul ih (show 1 ≤ x + 1 by omega) (by omega) (by omega)
    simpa [prodL] using this
theorem idx_lt : ∀ (l ws : List Int), (∀ x ∈ l, 1 ≤ x) → inR l ws → 0 ≤ idxR l ws ∧ idxR l ws < prodL l
  | [], _, _, _ => by simp [idxR, prodL]
  | x :: l, [], _, h => h.elim
  | x :: l, w :: ws, hl, h => by
    obtain ⟨i0, i1⟩ := idx_lt l ws (fun y hy => hl y (List.mem_cons_of_mem _ hy)) h.2
    have hx := hl x List.mem_cons_self
    have hw := h.1
    simp only [idxR, prodL]
    have h1 : 0 ≤ idxR l ws * (x + 1) := Int.mul_nonneg i0 (by omega)
    have h2 : (idxR l ws + 1) * (x + 1) ≤ prodL l * (x + 1) := Int.mul_le_mul_of_nonneg_right (by omega) (by omega)
    rw [Int.add_mul, Int.one_mul] at h2
    omega
theorem idx_at : ∀ (l : List Int) (y : Int), (∀ x ∈ l, 1 ≤ x) → 0 ≤ y → y < prodL l → idxR l (atR l y) = y
  | [], y, _, h0, h1 => by simp only [prodL] at h1; simp only [idxR]; omega
  | x :: l, y, hl, h0, h1 => by
    have hx := hl x List.mem_cons_self
    simp only [prodL] at h1
    have ih := idx_at l (y / (x + 1)) (fun y hy => hl y (List.mem_cons_of_mem _ hy)) (Int.ediv_nonneg h0 (by omega)) (Int.ediv_lt_of_lt_mul (by omega) h1)
    simp only [idxR, atR, ih]
    have := Int.emod_add_mul_ediv y (x + 1)
    rw [Int.mul_comm] at this
    omega
theorem at_idx : ∀ (l ws : List Int), (∀ x ∈ l, 1 ≤ x) → inR l ws → atR l (idxR l ws) = ws.take l.length
  | [], _, _, _ => by simp [atR]
  | x :: l, [], _, h => h.elim
  | x :: l, w :: ws, hl, h => by
    have ih := at_idx l ws (fun y hy => hl y (List.mem_cons_of_mem _ hy)) h.2
    have hx := hl x List.mem_cons_self
    have hw := h.1
    have e1 : (idxR l ws * (x + 1) + w) % (x + 1) = w := by
      rw [Int.add_comm, Int.add_mul_emod_self_right, Int.emod_eq_of_lt hw.1 (by omega)]
    have e2 : (idxR l ws * (x + 1) + w) / (x + 1) = idxR l ws := by
      rw [Int.add_comm, Int.add_mul_ediv_right _ _ (by omega), Int.ediv_eq_zero_of_lt hw.1 (by omega), Int.zero_add]
    simp only [idxR, atR, e1, e2, ih, List.length_cons, List.take_succ_cons]
theorem at_in : ∀ (l : List Int) (y : Int), (∀ x ∈ l, 1 ≤ x) → inR l (atR l y)
  | [], _, _ => trivial
  | x :: l, y, hl => by
    have hx := hl x List.mem_cons_self
    refine ⟨⟨Int.emod_nonneg _ (by omega), ?_⟩, at_in l _ (fun y hy => hl y (List.mem_cons_of_mem _ hy))⟩
    have := Int.emod_lt_of_pos y (show 0 < x + 1 by omega)
    omega
theorem at_len : ∀ (l : List Int) (y : Int), (atR l y).length = l.length
  | [], _ => rfl
  | x :: l, y => by simp [atR, at_len l]

theorem okJ_mem {l : List Int} (h : okJ l = true) : ∀ x ∈ l, 1 ≤ x ∧ x ≤ 60 := fun x hx => by simpa using List.all_eq_true.1 h x hx
/-- Jugs of one to four: what is to be shown for each number of them. -/
theorem four {P : List Int → Prop} (l : List Int) (h1 : 1 ≤ (l.length : Int)) (h4 : (l.length : Int) ≤ 4) (p1 : ∀ x, P [x]) (p2 : ∀ x y, P [x, y]) (p3 : ∀ x y z, P [x, y, z]) (p4 : ∀ x y z u, P [x, y, z, u]) : P l := by
  match l, h1, h4 with
  | [], h, _ => simp at h
  | [x], _, _ => exact p1 x
  | [x, y], _, _ => exact p2 x y
  | [x, y, z], _, _ => exact p3 x y z
  | [x, y, z, u], _, _ => exact p4 x y z u
  | _ :: _ :: _ :: _ :: _ :: _, _, h => simp at h; omega
theorem wf_in (l : List Int) (h1 : 1 ≤ (l.length : Int)) (h4 : (l.length : Int) ≤ 4) (a b c d : Int) (hw : WF l a b c d) : inR l [a, b, c, d] := by
  revert hw
  refine four (P := fun l => WF l a b c d → inR l [a, b, c, d]) l h1 h4 ?_ ?_ ?_ ?_
  all_goals
    intros
    rename_i hw
    have h0 := hw 0 (by omega) (by omega)
    have h1 := hw 1 (by omega) (by omega)
    have h2 := hw 2 (by omega) (by omega)
    have h3 := hw 3 (by omega) (by omega)
    simp [rd, capL] at h0 h1 h2 h3
    simp [inR]
    omega
/-- Water in the cells behind the jugs is 0; in the jugs it is right. -/
theorem in_wf (l ws : List Int) (h1 : 1 ≤ (l.length : Int)) (h4 : (l.length : Int) ≤ 4) (hn : ws.length = l.length) (h : inR l ws) : WF l (rd ws 0) (rd ws 1) (rd ws 2) (rd ws 3) := by
  revert ws
  refine four (P := fun l => ∀ ws, ws.length = l.length → inR l ws → WF l (rd ws 0) (rd ws 1) (rd ws 2) (rd ws 3)) l h1 h4 ?_ ?_ ?_ ?_
  · intro x ws hn h
    match ws, hn with
    | [a], _ =>
      intro j j0 j4
      have : j = 0 ∨ j = 1 ∨ j = 2 ∨ j = 3 := by omega
      simp [inR] at h
      rcases this with rfl | rfl | rfl | rfl <;> simp [rd, capL] <;> omega
  · intro x y ws hn h
    match ws, hn with
    | [a, b], _ =>
      intro j j0 j4
      have : j = 0 ∨ j = 1 ∨ j = 2 ∨ j = 3 := by omega
      simp [inR] at h
      rcases this with rfl | rfl | rfl | rfl <;> simp [rd, capL] <;> omega
  · intro x y z ws hn h
    match ws, hn with
    | [a, b, c], _ =>
      intro j j0 j4
      have : j = 0 ∨ j = 1 ∨ j = 2 ∨ j = 3 := by omega
      simp [inR] at h
      rcases this with rfl | rfl | rfl | rfl <;> simp [rd, capL] <;> omega
  · intro x y z u ws hn h
    match ws, hn with
    | [a, b, c, d], _ =>
      intro j j0 j4
      have : j = 0 ∨ j = 1 ∨ j = 2 ∨ j = 3 := by omega
      simp [inR] at h
      rcases this with rfl | rfl | rfl | rfl <;> simp [rd, capL] <;> omega
theorem prod_same (l : List Int) (h1 : 1 ≤ (l.length : Int)) (h4 : (l.length : Int) ≤ 4) (hj : okJ l = true) : prodP 1 l = prodL l := by
  have s := @step_pos
  revert hj
  refine four (P := fun l => okJ l = true → prodP 1 l = prodL l) l h1 h4 ?_ ?_ ?_ ?_
  · intro x hj
    have hb := okJ_mem hj
    obtain ⟨e1, p1, q1⟩ := s (a := 1) (x := x) (B := 1) (by omega) (by omega) (hb x (by simp)) (by omega)
    simp only [prodP, List.foldl_cons, List.foldl_nil, e1, prodL]
  · intro x y hj
    have hb := okJ_mem hj
    obtain ⟨e1, p1, q1⟩ := s (a := 1) (x := x) (B := 1) (by omega) (by omega) (hb x (by simp)) (by omega)
    obtain ⟨e2, p2, q2⟩ := s (x := y) p1 q1 (hb y (by simp)) (by omega)
    simp only [prodP, List.foldl_cons, List.foldl_nil]
    rw [e1, e2]
    simp only [prodL, Int.one_mul]
    ac_rfl
  · intro x y z hj
    have hb := okJ_mem hj
    obtain ⟨e1, p1, q1⟩ := s (a := 1) (x := x) (B := 1) (by omega) (by omega) (hb x (by simp)) (by omega)
    obtain ⟨e2, p2, q2⟩ := s (x := y) p1 q1 (hb y (by simp)) (by omega)
    obtain ⟨e3, p3, q3⟩ := s (x := z) p2 q2 (hb z (by simp)) (by omega)
    simp only [prodP, List.foldl_cons, List.foldl_nil]
    rw [e1, e2, e3]
    simp only [prodL, Int.one_mul]
    ac_rfl
  · intro x y z u hj
    have hb := okJ_mem hj
    obtain ⟨e1, p1, q1⟩ := s (a := 1) (x := x) (B := 1) (by omega) (by omega) (hb x (by simp)) (by omega)
    obtain ⟨e2, p2, q2⟩ := s (x := y) p1 q1 (hb y (by simp)) (by omega)
    obtain ⟨e3, p3, q3⟩ := s (x := z) p2 q2 (hb z (by simp)) (by omega)
    obtain ⟨e4, p4, q4⟩ := s (x := u) p3 q3 (hb u (by simp)) (by omega)
    simp only [prodP, List.foldl_cons, List.foldl_nil]
    rw [e1, e2, e3, e4]
    simp only [prodL, Int.one_mul]
    ac_rfl

end Go.Proofs.Ytodmfjophjhbeaa.Pure
