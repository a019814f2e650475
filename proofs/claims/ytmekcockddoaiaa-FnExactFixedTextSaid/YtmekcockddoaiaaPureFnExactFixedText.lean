/- The program's FixedText returns what the reference's returns, and leaves its argument as it was. Conditions: none. -/
import Derived.Test.YtmekcockddoaiaaMPureV
-- IMPORTS
import Derived.Test.YtmekcockddoaiaaMx0
import Derived.Test.YtmekcockddoaiaaMx3
import Derived.Test.YtmekcockddoaiaaMx4
import Derived.Test.YtmekcockddoaiaaMx5
import Derived.Test.YtmekcockddoaiaaMx7
import Derived.Test.YtmekcockddoaiaaMx8
import Derived.Test.YtmekcockddoaiaaMx9
import Derived.Test.YtmekcockddoaiaaMx13
import Derived.Test.YtmekcockddoaiaaHJoin
namespace Go.Proofs.Ytmekcockddoaiaa.Pure
open Go.RowKit Go.Proofs.Ytmekcockddoaiaa.M Go.Proofs.YtmekcockddoaiaaW.PrintWords Go.Proofs.YtmekcockddoaiaaW.PrintLast Go.Proofs.YtmekcockddoaiaaW.PrintMore
set_option linter.unusedVariables false
set_option linter.unusedSimpArgs false

/-- Whether all numbers are signs. -/
def okP (xs : List Int) : Prop := ∀ j : Nat, j < xs.length → -1 ≤ rd xs j ∧ rd xs j ≤ 1
def sg (x : Int) : Int := if x = -1 then 45 else if x = 0 then 48 else 43
theorem bt_sg {x : Int} (h0 : -1 ≤ x) (h1 : x ≤ 1) : bt (⟨#[45, 48, 43]⟩ : ByteArray) (x + 1) = sg x := by
  have : x = -1 ∨ x = 0 ∨ x = 1 := by omega
  rcases this with rfl | rfl | rfl <;> decide
theorem str_app (a b : List Int) : strOfNums a ++ strOfNums b = strOfNums (a ++ b) := by
  apply ByteArray.ext
  simp [strOfNums, ByteArray.data_append]
theorem str_size (a : List Int) : (strOfNums a).size = a.length := by simp [strOfNums, ByteArray.size]
theorem wrap8_in {x : Int} (h0 : -128 ≤ x) (h1 : x ≤ 127) : IntKind.i8.wrap x = x := by
  simp only [IntKind.wrap, IntKind.bits, IntKind.signed]; simp; split <;> omega
theorem dropI (xs : List Int) (i : Int) (h0 : 0 ≤ i) (h : i < (xs.length : Int)) : xs.drop i.toNat = rd xs i :: xs.drop (i + 1).toNat := by
  have e3 : (i + 1).toNat = i.toNat + 1 := by omega
  rw [e3, List.drop_eq_getElem_cons (show i.toNat < xs.length by omega)]
  unfold rd
  simp [List.getD, show i.toNat < xs.length by omega]
theorem signs_l0 (xs : List Int) (hl : xs.length ≤ 1048576) (ho : okP xs) : ∀ (d k : Nat) (i : Int) (acc : List Int), 0 ≤ i → (xs.length : Int) - i ≤ d → d < k → acc.length ≤ i →
    impl_signs.l0 k acc xs xs.length i = some (strOfNums (acc ++ (xs.drop i.toNat).map sg), true) := by
  intro d
  induction d with
  | zero =>
    intro k i acc h0 h1 h2 ha
    obtain ⟨k, rfl⟩ : ∃ m, k = m + 1 := ⟨k - 1, by omega⟩
    have e : xs.drop i.toNat = [] := List.drop_eq_nil_of_le (by omega)
    simp only [impl_signs.l0]
    rw [if_neg (by omega), e]
    simp
  | succ d ih =>
    intro k i acc h0 h1 h2 ha
    obtain ⟨k, rfl⟩ : ∃ m, k = m + 1 := ⟨k - 1, by omega⟩
    by_cases h : i < (xs.length : Int)
    · obtain ⟨o0, o1⟩ := ho i.toNat (by omega)
      rw [show ((i.toNat : Nat) : Int) = i by omega] at o0 o1
      have e1 : IntKind.i8.wrap (rd xs i + 1) = rd xs i + 1 := wrap8_in (by omega) (by omega)
      have hi := ih k (i + 1) (acc ++ [sg (rd xs i)]) (by omega) (by omega) (by omega) (by simp; omega)
      simp only [impl_signs.l0]
      rw [if_pos h, if_pos h0, if_pos h, if_neg (by omega), if_neg (by omega), e1, if_pos (by omega), if_pos (by omega), if_pos (by omega), bt_sg o0 o1, show wrap64 (i + 1) = i + 1 by unfold wrap64; omega, hi, dropI xs i h0 h]
      simp
    · have e : xs.drop i.toNat = [] := List.drop_eq_nil_of_le (by omega)
      simp only [impl_signs.l0]
      rw [if_neg (by omega), e]
      simp
theorem signs_val {k : Nat} (xs : List Int) (hl : xs.length ≤ 1048576) (ho : okP xs) (hk : xs.length < k) : impl_signs.f k xs = some (strOfNums (xs.map sg), true) := by
  have := signs_l0 xs hl ho xs.length k 0 [] (by omega) (by omega) hk (by simp)
  unfold impl_signs.f
  rw [this]
  simp
/-- The places of a word of p letters; its text. -/
def pw (p : Int) (x : S43) : List Int := [x.f0, x.f1, x.f2, x.f3].take p.toNat
def wB (p : Int) (x : S43) : ByteArray := strOfNums ((pw p x).map sg)
theorem pw_len (p : Int) (x : S43) (hp : 1 ≤ p ∧ p ≤ 4) : ((pw p x).length : Int) = p := by
  unfold pw; simp; omega
theorem wB_size (p : Int) (x : S43) (hp : 1 ≤ p ∧ p ≤ 4) : (wB p x).size ≤ 4 := by
  unfold wB; rw [str_size, List.length_map]; have := pw_len p x hp; omega
theorem pw_rd (p i : Int) (x : S43) (hp : 1 ≤ p ∧ p ≤ 4) (h0 : 0 ≤ i) (h1 : i < p) : rd [x.f0, x.f1, x.f2, x.f3] i = rd (pw p x) i := by
  unfold pw rd
  simp only [List.getD_eq_getElem?_getD]
  rw [List.getElem?_take, if_pos (by omega)]
theorem pw_ok (p : Int) (x : S43) (hp : 1 ≤ p ∧ p ≤ 4) (h : okW p x.f0 x.f1 x.f2 x.f3 = true) : okP (pw p x) := by
  intro j hj
  have hl := pw_len p x hp
  rw [← pw_rd p j x hp (by omega) (by omega)]
  unfold okW gW at h
  simp only [Bool.and_eq_true, decide_eq_true_eq] at h
  obtain ⟨a, b, c, d⟩ := h
  have : j = 0 ∨ j = 1 ∨ j = 2 ∨ j = 3 := by omega
  rcases this with rfl | rfl | rfl | rfl
  · exact ⟨a.1, a.2.1⟩
  · exact ⟨b.1, b.2.1⟩
  · exact ⟨c.1, c.2.1⟩
  · exact ⟨d.1, d.2.1⟩
/-- The reference's text, written on: each further word behind a space. -/
def catT : List ByteArray → ByteArray
  | [] => ⟨#[]⟩
  | w :: ws => ((⟨#[32]⟩ : ByteArray) ++ w) ++ catT ws
theorem catT_data : ∀ ws : List ByteArray, (catT ws).data.toList = Lib.joinTail [32] (ws.map (·.data.toList)) := by
  intro ws
  induction ws with
  | nil => rfl
  | cons w ws ih =>
    simp only [catT, ByteArray.data_append, Array.toList_append, ih, Lib.joinTail, List.map_cons, List.flatten_cons]
theorem join_cat (w : ByteArray) (ws : List ByteArray) : joinB (w :: ws) (⟨#[32]⟩ : ByteArray) = w ++ catT ws := by
  apply ByteArray.ext
  unfold joinB
  simp only [List.map_cons]
  rw [Lib.join_cons]
  apply Array.ext'
  simp only [ByteArray.data_append, Array.toList_append, catT_data]
theorem assoc3 (a b c : ByteArray) : (a ++ b) ++ c = a ++ (b ++ c) := by
  apply ByteArray.ext
  simp only [ByteArray.data_append, Array.append_assoc]
theorem cat_empty (a : ByteArray) : a ++ (⟨#[]⟩ : ByteArray) = a := by
  apply ByteArray.ext
  simp [ByteArray.data_append]
theorem join_size : ∀ (ws : List ByteArray), (∀ w ∈ ws, w.size ≤ 6) → (Lib.joinTail [32] (ws.map (·.data.toList))).length ≤ 7 * ws.length := by
  intro ws
  induction ws with
  | nil => intro _; simp [Lib.joinTail]
  | cons w ws ih =>
    intro h
    have h1 := ih (fun u hu => h u (List.mem_cons_of_mem _ hu))
    have h2 : w.data.toList.length ≤ 6 := by
      have := h w List.mem_cons_self
      rw [Array.length_toList]
      exact this
    simp only [Lib.joinTail, List.map_cons, List.flatten_cons, List.length_append, List.length_cons] at h1 ⊢
    simp only [List.length_nil] at *
    omega
theorem join_val (ws : List ByteArray) (h : ∀ w ∈ ws, w.size ≤ 6) (hl : ws.length ≤ 200) : strings_Join.f ws (⟨#[32]⟩ : ByteArray) = some (joinB ws (⟨#[32]⟩ : ByteArray)) := by
  unfold strings_Join.f
  rw [if_pos]
  refine ⟨?_, by omega⟩
  cases ws with
  | nil => simp [Lib.join_nil]
  | cons w ws =>
    rw [List.map_cons, Lib.join_cons, List.length_append]
    have h1 := join_size ws (fun u hu => h u (List.mem_cons_of_mem _ hu))
    have h2 : w.data.toList.length ≤ 6 := by
      have := h w List.mem_cons_self
      rw [Array.length_toList]
      exact this
    simp only [List.length_cons] at hl
    have h3 : (⟨#[32]⟩ : ByteArray).data.toList = [32] := rfl
    rw [h3]
    omega
/-- One word written on by the reference. -/
theorem spec_l1 (p q : Int) (hp : 1 ≤ p ∧ p ≤ 4) (l : List S43) (i : Int) (h0 : 0 ≤ i) (h1 : i < (l.length : Int)) (x : S43) (hx : rd_T43 l i = x) (ho : okP (pw p x)) (hl : l.length ≤ 1048576) :
    ∀ (d m : Nat) (j : Int) (acc : ByteArray), 0 ≤ j → j ≤ p → p - j = d → acc.size ≤ 1000 + j →
    spec_l04Text.l1 (m + d + 1) acc i j p q l = spec_l04Text.l0 m (acc ++ strOfNums (((pw p x).drop j.toNat).map sg)) (i + 1) p q l := by
  have hn := pw_len p x hp
  intro d
  induction d with
  | zero =>
    intro m j acc hj hjp hd ha
    have e : (pw p x).drop j.toNat = [] := List.drop_eq_nil_of_le (by omega)
    simp only [spec_l04Text.l1, Nat.add_zero]
    rw [if_neg (by omega), e, wi (by omega) (by omega)]
    have : strOfNums (([] : List Int).map sg) = (⟨#[]⟩ : ByteArray) := rfl
    rw [this, cat_empty]
  | succ d ih =>
    intro m j acc hj hjp hd ha
    have hjl : j < ((pw p x).length : Int) := by omega
    obtain ⟨o0, o1⟩ := ho j.toNat (by omega)
    rw [show ((j.toNat : Nat) : Int) = j by omega] at o0 o1
    have e1 : IntKind.i8.wrap (rd (pw p x) j + 1) = rd (pw p x) j + 1 := wrap8_in (by omega) (by omega)
    obtain ⟨e, he⟩ : ∃ e, e = m + d + 1 := ⟨_, rfl⟩
    rw [show m + (d + 1) + 1 = e + 1 by omega]
    simp only [spec_l04Text.l1, hx]
    rw [if_pos (by omega), if_pos h0, if_pos h1, if_pos hj, if_pos (by omega), pw_rd p j x hp hj (by omega), e1, if_pos (by omega), if_pos (by omega), bt_sg o0 o1]
    simp only [Option.bind_some]
    rw [if_pos (by rw [str_size]; simp; omega), show IntKind.i8.wrap (j + 1) = j + 1 from wrap8_in (by omega) (by omega), he, ih m (j + 1) _ (by omega) (by omega) (by omega) (by rw [ByteArray.size_append, str_size]; simp; omega), dropI _ j hj hjl, assoc3, str_app]
    rfl
theorem spec_l0 (p q : Int) (hp : 1 ≤ p ∧ p ≤ 4) (l : List S43) (hok : ∀ x ∈ l, okP (pw p x)) (hl : l.length ≤ 80) : ∀ (suf pre : List S43) (acc : ByteArray) (k : Nat), l = pre ++ suf → acc.size ≤ 6 + 5 * pre.length → 6 * suf.length + 1 ≤ k →
    spec_l04Text.l0 k acc (pre.length : Int) p q l = some (acc ++ catT (suf.map (wB p))) := by
  intro suf
  induction suf with
  | nil =>
    intro pre acc k h ha hk
    obtain ⟨k, rfl⟩ := fuel (show 1 ≤ k by omega)
    simp only [List.append_nil] at h
    simp only [spec_l04Text.l0]
    rw [if_neg (by rw [h]; omega)]
    rw [List.map_nil, catT, cat_empty]
  | cons x suf ih =>
    intro pre acc k h ha hk
    simp only [List.length_cons] at hk
    obtain ⟨d, hd⟩ : ∃ d : Nat, p - 0 = d := ⟨p.toNat, by omega⟩
    obtain ⟨k, rfl⟩ : ∃ m, k = (m + d + 1) + 1 := ⟨k - d - 2, by omega⟩
    have hn : l.length = pre.length + (suf.length + 1) := by rw [h]; simp
    have e : rd_T43 l (pre.length : Int) = x := by rw [h]; exact rdw_pre pre x suf
    have hz : (acc ++ (⟨#[32]⟩ : ByteArray)).size = acc.size + 1 := by rw [ByteArray.size_append]; rfl
    have hw := wB_size p x hp
    simp only [spec_l04Text.l0]
    rw [if_pos (by omega), if_pos (by omega), spec_l1 p q hp l (pre.length : Int) (by omega) (by omega) x e (hok x (by rw [h]; simp)) (by omega) d k 0 _ (by omega) (by omega) hd (by omega)]
    have := ih (pre ++ [x]) ((acc ++ (⟨#[32]⟩ : ByteArray)) ++ wB p x) k (by simp [h]) (by rw [ByteArray.size_append, hz]; simp; omega) (by omega)
    rw [show (((pre ++ [x]).length : Nat) : Int) = (pre.length : Int) + 1 by simp] at this
    rw [show (0 : Int).toNat = 0 from rfl, List.drop_zero, show strOfNums ((pw p x).map sg) = wB p x from rfl, this, List.map_cons, catT]
    simp only [assoc3]
theorem impl_l0 (p q : Int) (hp : 1 ≤ p ∧ p ≤ 4) (l : List S43) (hok : ∀ x ∈ l, okP (pw p x)) (hl : l.length ≤ 80) (kd : ByteArray) (hkd : kd.size ≤ 6) : ∀ (suf pre : List S43) (k : Nat), l = pre ++ suf → suf.length + 6 ≤ k →
    impl_FixedText.l0 k (kd :: pre.map (wB p)) l (l.length : Int) (pre.length : Int) p q l = some (joinB (kd :: l.map (wB p)) (⟨#[32]⟩ : ByteArray)) := by
  intro suf
  induction suf with
  | nil =>
    intro pre k h hk
    obtain ⟨k, rfl⟩ := fuel (show 1 ≤ k by omega)
    simp only [List.append_nil] at h
    simp only [impl_FixedText.l0]
    rw [if_neg (by rw [h]; omega), ← h, join_val _ (fun w hw => by
      rcases List.mem_cons.1 hw with rfl | hw
      · exact hkd
      · obtain ⟨m, _, rfl⟩ := List.mem_map.1 hw
        have := wB_size p m hp; omega) (by simp; omega)]
    rfl
  | cons x suf ih =>
    intro pre k h hk
    simp only [List.length_cons] at hk
    obtain ⟨k, rfl⟩ := fuel (show 1 ≤ k by omega)
    have hn : l.length = pre.length + (suf.length + 1) := by rw [h]; simp
    have e : rd_T43 l (pre.length : Int) = x := by rw [h]; exact rdw_pre pre x suf
    have hpl := pw_len p x hp
    simp only [impl_FixedText.l0, e]
    rw [if_pos (by omega), if_pos (by omega), if_pos (by omega), if_pos (by omega), if_pos (by omega), show [x.f0, x.f1, x.f2, x.f3].take p.toNat = pw p x from rfl, signs_val (pw p x) (by omega) (hok x (by rw [h]; simp)) (by omega)]
    simp only [Option.bind_some]
    rw [if_pos (by simp; omega), wi (by omega) (by omega)]
    have := ih (pre ++ [x]) k (by simp [h]) (by omega)
    rw [show (((pre ++ [x]).length : Nat) : Int) = (pre.length : Int) + 1 by simp, List.map_append, List.map_cons, List.map_nil] at this
    exact this
theorem kinds_size (q : Int) (h : 0 ≤ q ∧ q ≤ 2) : (rdOf ByteArray.empty ([(⟨#[104, 101, 97, 118, 121]⟩ : ByteArray), (⟨#[108, 105, 103, 104, 116]⟩ : ByteArray), (⟨#[101, 105, 116, 104, 101, 114]⟩ : ByteArray)] : List ByteArray) q).size ≤ 6 := by
  have : q = 0 ∨ q = 1 ∨ q = 2 := by omega
  rcases this with rfl | rfl | rfl <;> decide
theorem fixedText_same {k : Nat} (p q : Int) (l : List S43) (hp : wrap64 p = p) (hq : wrap64 q = q) (hl : l.length ≤ 1048576) (hk : 6 * l.length + 20 ≤ k) :
    ∃ r, spec_FixedText.f k p q l = some r ∧ impl_FixedText.f k p q l = some r := by
  unfold spec_FixedText.f impl_FixedText.f
  rw [valid_spec p q l hp hq hl (by omega), valid_impl p q l hp hq hl (by omega)]
  simp only [Option.bind_some]
  cases ho : okF p q l with
  | false => exact ⟨_, by rw [if_neg (by simp)], by rw [if_neg (by simp)]⟩
  | true =>
    unfold okF at ho
    simp only [Bool.and_eq_true, decide_eq_true_eq] at ho
    obtain ⟨h1, h2, h3, h4⟩ := ho
    have hok : ∀ x ∈ l, okP (pw p x) := fun x hx => pw_ok p x h1 (by
      have := List.all_eq_true.1 h4 x hx
      exact this)
    rw [if_pos rfl, if_pos rfl]
    unfold spec_l04Text.f spec_l04Kinds.f impl_kindWords.f
    simp only [Option.bind_some]
    have hks := kinds_size q h2
    rw [if_pos (by omega), if_pos (by simp; omega)]
    rw [show spec_l04Text.l0 k _ 0 p q l = _ from spec_l0 p q h1 l hok (by omega) l [] _ k rfl (by simp; omega) (by omega)]
    rw [show impl_FixedText.l0 k [_] l (l.length : Int) 0 p q l = _ from impl_l0 p q h1 l hok (by omega) _ hks l [] k rfl (by omega)]
    refine ⟨joinB (rdOf ByteArray.empty ([(⟨#[104, 101, 97, 118, 121]⟩ : ByteArray), (⟨#[108, 105, 103, 104, 116]⟩ : ByteArray), (⟨#[101, 105, 116, 104, 101, 114]⟩ : ByteArray)] : List ByteArray) q :: l.map (wB p)) (⟨#[32]⟩ : ByteArray), ?_, ?_⟩
    · rw [join_cat]
      rfl
    · rw [if_pos (by omega), if_pos (by simp; omega)]
theorem FnExactFixedText (x0_0 : Int) (x0_1 : Int) (x0_2 : (List S42)) (w0_0 : (fun x : Int => (Lit.int .i8 x).wf = true) x0_0) (w0_1 : (fun x : Int => (Lit.int .i8 x).wf = true) x0_1) (w0_2 : (fun xs : List S42 => xs.length ≤ maxLen ∧ ∀ x ∈ xs, (fun x : S42 => (fun x : Int => (Lit.int .i8 x).wf = true) x.f0 ∧ (fun x : Int => (Lit.int .i8 x).wf = true) x.f1 ∧ (fun x : Int => (Lit.int .i8 x).wf = true) x.f2 ∧ (fun x : Int => (Lit.int .i8 x).wf = true) x.f3) x) x0_2) : ∃ k, laws_FnExactFixedText.f k x0_0 x0_1 x0_2 = some true := by
  refine ⟨6 * x0_2.length + 30, ?_⟩
  have hk : ∃ k, k = 6 * x0_2.length + 30 := ⟨_, rfl⟩
  obtain ⟨k, hk⟩ := hk
  rw [← hk]
  unfold laws_FnExactFixedText.f
  rw [szFixed_val x0_0 x0_1 x0_2 w0_2.1 1048576 (by omega) (by omega)]
  simp only [Option.bind_some]
  by_cases e0 : (1048576 : Int) - (x0_2.length : Int) < 0
  · rw [if_pos e0]; rfl
  · rw [if_neg e0, if_neg e0, toFixed_val x0_0 x0_1 x0_2 (by omega) (by omega)]
    simp only [Option.bind_some]
    obtain ⟨r, r1, r2⟩ := fixedText_same (k := k) x0_0 x0_1 (x0_2.map cv) (wn8 w0_0) (wn8 w0_1) (by simp; omega) (by simp; omega)
    rw [r1, r2]
    simp only [Option.bind_some]
    rw [if_pos trivial, eqFixed_self x0_0 x0_1 (x0_2.map cv) (by simp; omega) (by simp; omega)]
    simp

end Go.Proofs.Ytmekcockddoaiaa.Pure
