/- The program's MovesText returns what the reference's returns. Conditions: none. -/
import Derived.Test.YtodmfjophjhbeaaMPureL
-- IMPORTS
import Derived.Test.YtodmfjophjhbeaaMx0
import Derived.Test.YtodmfjophjhbeaaMx27
import Derived.Test.YtodmfjophjhbeaaMx28
import Derived.Test.YtodmfjophjhbeaaMx29
import Derived.Test.YtodmfjophjhbeaaMx30
import Derived.Test.YtodmfjophjhbeaaMx31
import Derived.Test.YtodmfjophjhbeaaMx33
import Derived.Test.YtodmfjophjhbeaaHJoin
namespace Go.Proofs.Ytodmfjophjhbeaa.Pure
open Go.RowKit Go.Proofs.Ytodmfjophjhbeaa.M Go.Proofs.YtodmfjophjhbeaaW.PrintWords Go.Proofs.YtodmfjophjhbeaaW.PrintLast Go.Proofs.YtodmfjophjhbeaaW.PrintMore
set_option linter.unusedVariables false
set_option linter.unusedSimpArgs false

theorem wf8c {a : Int} (h : (Lit.int .i8 a).wf = true) : -128 ≤ a ∧ a ≤ 127 := by
  have h' : IntKind.i8.min ≤ a ∧ a ≤ IntKind.i8.max := by simpa [Lit.wf] using h
  exact h'
/-- The letter of a jug, the text of a move, whether a move has one. -/
def letB (a : Int) : ByteArray := strOfNums (([(IntKind.i8.wrap (97 + a)) % 256] : List Int))
def wordB (m : S60) : ByteArray :=
  if m.f0 = 0 then (letB m.f1 ++ (⟨#[62]⟩ : ByteArray)) ++ letB m.f2 else if m.f0 = 1 then (⟨#[43]⟩ : ByteArray) ++ letB m.f1 else (⟨#[45]⟩ : ByteArray) ++ letB m.f1
def okB (m : S60) : Bool := (decide (0 ≤ m.f0 ∧ m.f0 ≤ 2) && (decide (0 ≤ m.f1 ∧ m.f1 ≤ 3) && decide (0 ≤ m.f2 ∧ m.f2 ≤ 3))) && (m.f0 == 0 || m.f2 == 0)
theorem letB_size (a : Int) : (letB a).size = 1 := by
  simp [letB, strOfNums, ByteArray.size]
theorem wordB_size (m : S60) : (wordB m).size ≤ 3 := by
  unfold wordB
  split
  · simp [ByteArray.size_append, letB_size]
    decide
  · split <;> (simp [ByteArray.size_append, letB_size]; decide)
theorem jug_val (a : Int) (h : -128 ≤ a ∧ a ≤ 127) : spec_l02Jug.f a = some (decide (0 ≤ a ∧ a ≤ 3)) ∧ impl_Move_text_1_97.f a = some (decide (0 ≤ a ∧ a ≤ 3)) := by
  have e : wrap64 a = a := by unfold wrap64; omega
  unfold spec_l02Jug.f impl_Move_text_1_97.f
  rw [e, in_val, within_val]
  exact ⟨rfl, rfl⟩
theorem spec_moves_ok (ms : List S60) (hms : ∀ x ∈ ms, (Lit.int .i8 x.f0).wf = true ∧ (Lit.int .i8 x.f1).wf = true ∧ (Lit.int .i8 x.f2).wf = true) (hl : ms.length ≤ 1048576) :
    ∀ (suf pre : List S60) (k : Nat), ms = pre ++ suf → suf.length + 1 ≤ k → spec_l02Moves.l0 k ms (pre.length : Int) = some (suf.all okB && decide ((ms.length : Int) ≤ 200)) := by
  intro suf
  induction suf with
  | nil =>
    intro pre k h hk
    obtain ⟨k, rfl⟩ := fuel (show 1 ≤ k by omega)
    simp only [List.append_nil] at h
    simp only [spec_l02Moves.l0]
    rw [if_neg (by rw [h]; omega)]
    simp
  | cons x suf ih =>
    intro pre k h hk
    simp only [List.length_cons] at hk
    obtain ⟨k, rfl⟩ := fuel (show 1 ≤ k by omega)
    have hn : ms.length = pre.length + (suf.length + 1) := by rw [h]; simp
    have e : rd_T60 ms (pre.length : Int) = x := by rw [h]; unfold rd_T60; simp [List.getD]
    obtain ⟨w0, w1, w2⟩ := hms x (by rw [h]; simp)
    have r0 := wf8c w0
    have r1 := wf8c w1
    have r2 := wf8c w2
    have hnx := ih (pre ++ [x]) k (by simp [h]) (by omega)
    rw [show (((pre ++ [x]).length : Nat) : Int) = (pre.length : Int) + 1 by simp] at hnx
    simp only [spec_l02Moves.l0, e]
    rw [if_pos (by omega), if_pos (by omega), show wrap64 x.f0 = x.f0 by unfold wrap64; omega, in_val, (jug_val x.f1 r1).1, (jug_val x.f2 r2).1, wi (by omega) (by omega), hnx]
    simp only [Option.bind_some, List.all_cons]
    unfold okB
    by_cases c0 : 0 ≤ x.f0 ∧ x.f0 ≤ 2
    · rw [decide_eq_true c0, if_pos rfl]
      by_cases c1 : 0 ≤ x.f1 ∧ x.f1 ≤ 3
      · rw [decide_eq_true c1, if_pos rfl]
        by_cases c2 : 0 ≤ x.f2 ∧ x.f2 ≤ 3
        · rw [decide_eq_true c2, if_pos rfl]
          by_cases e0 : x.f0 = 0
          · rw [if_pos e0]; simp [e0]
          · rw [if_neg e0]
            by_cases e2 : x.f2 = 0
            · rw [if_pos e2]; simp [e2]
            · rw [if_neg e2]; simp [e0, e2]
        · rw [decide_eq_false c2, if_neg (by simp)]; simp
      · rw [decide_eq_false c1, if_neg (by simp)]; simp
    · rw [decide_eq_false c0, if_neg (by simp)]; simp
/-- The program's text of a move. -/
theorem text_val {k : Nat} (hk : 1 ≤ k) (m : S60) (w : (Lit.int .i8 m.f0).wf = true ∧ (Lit.int .i8 m.f1).wf = true ∧ (Lit.int .i8 m.f2).wf = true) :
    ∃ t, impl_Move_text.f k m.f0 m.f1 m.f2 = some (t, okB m) ∧ (okB m = true → t = wordB m) := by
  obtain ⟨w0, w1, w2⟩ := w
  have r1 := wf8c w1
  have r2 := wf8c w2
  obtain ⟨k, rfl⟩ := fuel hk
  unfold impl_Move_text.f
  rw [(jug_val m.f1 r1).2, (jug_val m.f2 r2).2]
  simp only [Option.bind_some]
  have bad : impl_Move_text.j0 (k + 1) true m.f0 m.f1 m.f2 = some ((⟨#[]⟩ : ByteArray), false) := by
    simp only [impl_Move_text.j0]
    rw [if_pos trivial]
  by_cases c1 : 0 ≤ m.f1 ∧ m.f1 ≤ 3
  · rw [decide_eq_true c1, if_pos rfl]
    by_cases c2 : 0 ≤ m.f2 ∧ m.f2 ≤ 3
    · rw [decide_eq_true c2, Bool.not_true]
      simp only [impl_Move_text.j0, impl_letter.f]
      rw [if_neg (by simp)]
      simp only [Option.bind_some]
      have hs : ∀ a, (strOfNums (([(IntKind.i8.wrap (97 + a)) % 256] : List Int))).size = 1 := letB_size
      by_cases e0 : m.f0 = 0
      · rw [if_pos e0, hs, hs, if_pos (by omega), if_pos (by omega)]
        have ho : okB m = true := by unfold okB; simp [c1, c2, e0]
        rw [ho]
        exact ⟨_, rfl, fun _ => by unfold wordB; rw [if_pos e0]; rfl⟩
      · rw [if_neg e0]
        by_cases e2 : m.f2 = 0
        · rw [if_pos e2]
          by_cases e1 : m.f0 = 1
          · rw [if_pos e1, hs, if_pos (by omega)]
            have ho : okB m = true := by unfold okB; simp [c1, e2, e1]
            rw [ho]
            exact ⟨_, rfl, fun _ => by unfold wordB; rw [if_neg e0, if_pos e1]; rfl⟩
          · rw [if_neg e1]
            by_cases e3 : m.f0 = 2
            · rw [if_pos e3, hs, if_pos (by omega)]
              have ho : okB m = true := by unfold okB; simp [c1, e2, e3]
              rw [ho]
              exact ⟨_, rfl, fun _ => by unfold wordB; rw [if_neg e0, if_neg e1]; rfl⟩
            · rw [if_neg e3]
              have ho : okB m = false := by
                unfold okB
                have : ¬ (0 ≤ m.f0 ∧ m.f0 ≤ 2) := by omega
                simp [this]
              rw [ho]
              exact ⟨_, rfl, fun h => by cases h⟩
        · rw [if_neg e2]
          have ho : okB m = false := by unfold okB; simp [e0, e2]
          rw [ho]
          exact ⟨_, rfl, fun h => by cases h⟩
    · rw [decide_eq_false c2, Bool.not_false, bad]
      have ho : okB m = false := by unfold okB; simp [c2]
      rw [ho]
      exact ⟨_, rfl, fun h => by cases h⟩
  · rw [decide_eq_false c1, if_neg (by simp), bad]
    have ho : okB m = false := by unfold okB; simp [c1]
    rw [ho]
    exact ⟨_, rfl, fun h => by cases h⟩
/-- The reference's text, written on: each further word behind a space. -/
def catT : List ByteArray → ByteArray
  | [] => ⟨#[]⟩
  | w :: ws => ((⟨#[32]⟩ : ByteArray) ++ w) ++ catT ws
theorem catT_data : ∀ ws : List ByteArray, (catT ws).data.toList = Lib.joinTail [32] (ws.map (·.data.toList)) := by
  intro ws
  induction ws with
  | nil => rfl
  | cons w ws ih =>
    simp only [catT, ByteArray.data_append, Array.toList_append, ih, Lib.joinTail, List.map_cons, List.flatten_cons]
theorem join_cat (w : ByteArray) (ws : List ByteArray) : joinB (w :: ws) (⟨#[32]⟩ : ByteArray) = w ++ catT ws := by
  apply ByteArray.ext
  unfold joinB
  simp only [List.map_cons]
  rw [Lib.join_cons]
  apply Array.ext'
  simp only [ByteArray.data_append, Array.toList_append, catT_data]
theorem assoc3 (a b c : ByteArray) : (a ++ b) ++ c = a ++ (b ++ c) := by
  apply ByteArray.ext
  simp only [ByteArray.data_append, Array.append_assoc]
theorem cat_empty (a : ByteArray) : a ++ (⟨#[]⟩ : ByteArray) = a := by
  apply ByteArray.ext
  simp [ByteArray.data_append]
theorem empty_cat (a : ByteArray) : (⟨#[]⟩ : ByteArray) ++ a = a := by
  apply ByteArray.ext
  simp [ByteArray.data_append]
/-- One move written on. -/
theorem spec_word (ms pre suf : List S60) (x : S60) (h : ms = pre ++ x :: suf) (hx : okB x = true) (hl : ms.length ≤ 200) (acc : ByteArray) (ha : acc.size ≤ 4 * (pre.length + 1)) (k : Nat) :
    spec_l02MovesText.j1 (k + 1) ms acc (pre.length : Int) = spec_l02MovesText.l0 k ms (acc ++ wordB x) ((pre.length : Int) + 1) := by
  have hn : ms.length = pre.length + (suf.length + 1) := by rw [h]; simp
  have e : rd_T60 ms (pre.length : Int) = x := by rw [h]; unfold rd_T60; simp [List.getD]
  have hs : ∀ a, (strOfNums (([(IntKind.i8.wrap (97 + a)) % 256] : List Int))).size = 1 := letB_size
  simp only [spec_l02MovesText.j1, e, spec_l02Letter.f]
  rw [if_pos (by omega), if_pos (by omega), wi (by omega) (by omega)]
  simp only [Option.bind_some, hs]
  have hk : x.f0 = 0 ∨ x.f0 = 1 ∨ x.f0 = 2 := by
    unfold okB at hx
    simp at hx
    omega
  unfold wordB
  by_cases e0 : x.f0 = 0
  · rw [if_pos e0, if_pos e0, if_pos (by omega), if_pos (by omega), if_pos (by omega)]
    rfl
  · rw [if_neg e0, if_neg e0]
    by_cases e1 : x.f0 = 1
    · rw [if_pos e1, if_pos e1, if_pos (by omega), if_pos (by omega)]
      rfl
    · rw [if_neg e1, if_neg e1, if_pos (by omega), if_pos (by omega), if_pos (by omega)]
      rfl
theorem spec_text_l0 (ms : List S60) (hok : ∀ m ∈ ms, okB m = true) (hl : ms.length ≤ 200) : ∀ (suf pre : List S60) (acc : ByteArray) (k : Nat), ms = pre ++ suf → 1 ≤ pre.length → acc.size ≤ 4 * pre.length → 2 * suf.length + 2 ≤ k →
    spec_l02MovesText.l0 k ms acc (pre.length : Int) = some (acc ++ catT (suf.map wordB)) := by
  intro suf
  induction suf with
  | nil =>
    intro pre acc k h hp ha hk
    obtain ⟨k, rfl⟩ := fuel (show 1 ≤ k by omega)
    simp only [List.append_nil] at h
    simp only [spec_l02MovesText.l0]
    rw [if_neg (by rw [h]; omega)]
    rw [List.map_nil, catT, cat_empty]
  | cons x suf ih =>
    intro pre acc k h hp ha hk
    simp only [List.length_cons] at hk
    obtain ⟨k, rfl⟩ := fuel (show 2 ≤ k by omega)
    have hn : ms.length = pre.length + (suf.length + 1) := by rw [h]; simp
    have hx := hok x (by rw [h]; simp)
    have hz : (acc ++ (⟨#[32]⟩ : ByteArray)).size = acc.size + 1 := by rw [ByteArray.size_append]; rfl
    have hw := wordB_size x
    rw [show k + 2 = (k + 1) + 1 from rfl]
    simp only [spec_l02MovesText.l0]
    rw [if_pos (by omega), if_pos (by omega), if_pos (by omega), spec_word ms pre suf x h hx hl _ (by omega) k]
    have := ih (pre ++ [x]) ((acc ++ (⟨#[32]⟩ : ByteArray)) ++ wordB x) k (by simp [h]) (by simp) (by rw [ByteArray.size_append, hz]; simp; omega) (by omega)
    rw [show (((pre ++ [x]).length : Nat) : Int) = (pre.length : Int) + 1 by simp] at this
    rw [this, List.map_cons, catT]
    simp only [assoc3]
theorem spec_text {k : Nat} (ms : List S60) (hok : ∀ m ∈ ms, okB m = true) (hl : ms.length ≤ 200) (hk : 2 * ms.length + 10 ≤ k) : spec_l02MovesText.f k ms = some (joinB (ms.map wordB) (⟨#[32]⟩ : ByteArray)) := by
  unfold spec_l02MovesText.f
  cases ms with
  | nil =>
    obtain ⟨k, rfl⟩ := fuel (show 1 ≤ k by omega)
    simp only [spec_l02MovesText.l0]
    rw [if_neg (by simp)]
    rfl
  | cons x suf =>
    simp only [List.length_cons] at hk
    obtain ⟨k, rfl⟩ := fuel (show 2 ≤ k by omega)
    have hx := hok x (by simp)
    have hw := wordB_size x
    rw [show k + 2 = (k + 1) + 1 from rfl]
    simp only [spec_l02MovesText.l0]
    rw [if_pos (by simp), if_neg (by omega)]
    have h1 := spec_word (x :: suf) [] suf x rfl hx hl (⟨#[]⟩ : ByteArray) (by decide) k
    rw [show ((([] : List S60).length : Nat) : Int) = 0 from rfl] at h1
    rw [h1, empty_cat]
    have := spec_text_l0 (x :: suf) hok hl suf [x] (wordB x) k rfl (by simp) (by simp; omega) (by omega)
    rw [show ((([x] : List S60).length : Nat) : Int) = 0 + 1 from rfl] at this
    rw [this, List.map_cons, join_cat]
theorem join_size : ∀ (ws : List ByteArray), (∀ w ∈ ws, w.size ≤ 3) → (Lib.joinTail [32] (ws.map (·.data.toList))).length ≤ 4 * ws.length := by
  intro ws
  induction ws with
  | nil => intro _; simp [Lib.joinTail]
  | cons w ws ih =>
    intro h
    have h1 := ih (fun u hu => h u (List.mem_cons_of_mem _ hu))
    have h2 : w.data.toList.length ≤ 3 := by
      have := h w List.mem_cons_self
      rw [Array.length_toList]
      exact this
    simp only [Lib.joinTail, List.map_cons, List.flatten_cons, List.length_append, List.length_cons] at h1 ⊢
    simp only [List.length_nil] at *
    omega
theorem join_val (ws : List ByteArray) (h : ∀ w ∈ ws, w.size ≤ 3) (hl : ws.length ≤ 200) : strings_Join.f ws (⟨#[32]⟩ : ByteArray) = some (joinB ws (⟨#[32]⟩ : ByteArray)) := by
  unfold strings_Join.f
  rw [if_pos]
  refine ⟨?_, by omega⟩
  cases ws with
  | nil => simp [Lib.join_nil]
  | cons w ws =>
    rw [List.map_cons, Lib.join_cons, List.length_append]
    have h1 := join_size ws (fun u hu => h u (List.mem_cons_of_mem _ hu))
    have h2 : w.data.toList.length ≤ 3 := by
      have := h w List.mem_cons_self
      rw [Array.length_toList]
      exact this
    simp only [List.length_cons] at hl
    have h3 : (⟨#[32]⟩ : ByteArray).data.toList = [32] := rfl
    rw [h3]
    omega
theorem impl_text_l0 (ms : List S60) (hms : ∀ x ∈ ms, (Lit.int .i8 x.f0).wf = true ∧ (Lit.int .i8 x.f1).wf = true ∧ (Lit.int .i8 x.f2).wf = true) (hl : ms.length ≤ 1048576) :
    ∀ (suf pre : List S60) (k : Nat), ms = pre ++ suf → (pre = [] ∨ ms.length ≤ 200) → suf.length + 2 ≤ k →
    impl_MovesText.l0 k ms (pre.map wordB) ms (ms.length : Int) (pre.length : Int) = some (if (suf.all okB && (suf.isEmpty || decide ((ms.length : Int) ≤ 200))) = true then joinB (ms.map wordB) (⟨#[32]⟩ : ByteArray) else (⟨#[]⟩ : ByteArray)) := by
  intro suf
  induction suf with
  | nil =>
    intro pre k h hp hk
    obtain ⟨k, rfl⟩ := fuel (show 1 ≤ k by omega)
    simp only [List.append_nil] at h
    simp only [impl_MovesText.l0]
    rw [if_neg (by rw [h]; omega), ← h, join_val _ (fun w hw => by
      obtain ⟨m, _, rfl⟩ := List.mem_map.1 hw
      exact wordB_size m) (by
      rcases hp with hp | hp
      · rw [h, hp]; simp
      · simpa using hp)]
    rfl
  | cons x suf ih =>
    intro pre k h hp hk
    simp only [List.length_cons] at hk
    obtain ⟨k, rfl⟩ := fuel (show 1 ≤ k by omega)
    have hn : ms.length = pre.length + (suf.length + 1) := by rw [h]; simp
    have e : rd_T60 ms (pre.length : Int) = x := by rw [h]; unfold rd_T60; simp [List.getD]
    obtain ⟨t, t1, t2⟩ := text_val (k := k) (by omega) x (hms x (by rw [h]; simp))
    simp only [impl_MovesText.l0, e]
    rw [if_pos (by omega), if_pos (by omega), if_pos (by omega), t1, wi (by omega) (by omega)]
    simp only [Option.bind_some, List.all_cons, List.isEmpty_cons, Bool.false_or]
    cases ho : okB x with
    | false => rw [if_neg (by simp), if_neg (by simp)]
    | true =>
      rw [if_pos rfl, t2 ho, Bool.true_and]
      by_cases c : (ms.length : Int) > 200
      · rw [if_pos c, if_neg (by simp; omega)]
      · rw [if_neg c, if_pos (by simp; omega)]
        have := ih (pre ++ [x]) k (by simp [h]) (.inr (by omega)) (by omega)
        rw [show (((pre ++ [x]).length : Nat) : Int) = (pre.length : Int) + 1 by simp, List.map_append, List.map_cons, List.map_nil] at this
        rw [this, show decide ((ms.length : Int) ≤ 200) = true by simp; omega, Bool.or_true, Bool.and_true]
theorem movesText_same {k : Nat} (ms : List S60) (hms : ∀ x ∈ ms, (Lit.int .i8 x.f0).wf = true ∧ (Lit.int .i8 x.f1).wf = true ∧ (Lit.int .i8 x.f2).wf = true) (hl : ms.length ≤ 1048576) (hk : 2 * ms.length + 20 ≤ k) :
    ∃ r, spec_MovesText.f k ms = some r ∧ impl_MovesText.f k ms = some r := by
  have hS := spec_moves_ok ms hms hl ms [] k rfl (by omega)
  have hI := impl_text_l0 ms hms hl ms [] k rfl (.inl rfl) (by omega)
  unfold spec_MovesText.f impl_MovesText.f spec_l02Moves.f
  rw [show spec_l02Moves.l0 k ms 0 = _ from hS, show impl_MovesText.l0 k ms [] ms (ms.length : Int) 0 = _ from hI]
  simp only [Option.bind_some]
  refine ⟨_, ?_, rfl⟩
  cases hb : (ms.all okB && decide ((ms.length : Int) ≤ 200)) with
  | true =>
    rw [if_pos rfl]
    simp only [Bool.and_eq_true] at hb
    have h200 : ms.length ≤ 200 := by have := of_decide_eq_true hb.2; omega
    rw [spec_text ms (fun m hm => List.all_eq_true.1 hb.1 m hm) h200 (by omega), hb.1, hb.2]
    simp
  | false =>
    rw [if_neg (by simp)]
    cases ms with
    | nil => simp at hb
    | cons x suf =>
      simp only [List.isEmpty_cons, Bool.false_or]
      rw [hb, if_neg (by simp)]
theorem FnExactMovesText (x0_0 : (List S58)) (w0_0 : (fun xs : List S58 => xs.length ≤ maxLen ∧ ∀ x ∈ xs, (fun x : S58 => (fun x : Int => (Lit.int .i8 x).wf = true) x.f0 ∧ (fun x : Int => (Lit.int .i8 x).wf = true) x.f1 ∧ (fun x : Int => (Lit.int .i8 x).wf = true) x.f2) x) x0_0) : ∃ k, laws_FnExactMovesText.f k x0_0 = some true := by
  refine ⟨2 * x0_0.length + 30, ?_⟩
  unfold laws_FnExactMovesText.f
  rw [szMoveS_val x0_0 w0_0.1 1048576 (by omega) (by omega)]
  simp only [Option.bind_some]
  by_cases e0 : (1048576 : Int) - (x0_0.length : Int) < 0
  · rw [if_pos e0]; rfl
  · rw [if_neg e0, if_neg e0, toMoveS_val x0_0 (by omega) (by omega)]
    simp only [Option.bind_some]
    have hms : ∀ x ∈ x0_0.map cvm, (Lit.int .i8 x.f0).wf = true ∧ (Lit.int .i8 x.f1).wf = true ∧ (Lit.int .i8 x.f2).wf = true := by
      intro x hx
      obtain ⟨y, hy, rfl⟩ := List.mem_map.1 hx
      exact w0_0.2 y hy
    obtain ⟨r, r1, r2⟩ := movesText_same (k := 2 * x0_0.length + 30) (x0_0.map cvm) hms (by simp; omega) (by simp)
    rw [r1, r2]
    simp only [Option.bind_some]
    rw [if_pos trivial, eqMoveS_self _ (by simp; omega) (by simp; omega)]
    simp

end Go.Proofs.Ytodmfjophjhbeaa.Pure
