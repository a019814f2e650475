/- The program's PuzzleText returns what the reference's returns, and leaves its argument as it was. Conditions: none. -/
import Derived.Test.YtodmfjophjhbeaaDoorMPureB
-- IMPORTS
import Derived.Test.YtodmfjophjhbeaaDoorMx2
import Derived.Test.YtodmfjophjhbeaaDoorMx3
import Derived.Test.YtodmfjophjhbeaaDoorMx4
import Derived.Test.YtodmfjophjhbeaaDoorMx5
import Derived.Test.YtodmfjophjhbeaaDoorMx6
import Derived.Test.YtodmfjophjhbeaaDoorMx9
import Derived.Test.YtodmfjophjhbeaaDoorMx10
import Derived.Test.YtodmfjophjhbeaaDoorMx13
import Derived.Test.YtodmfjophjhbeaaDoorHFormat
import Derived.Test.YtodmfjophjhbeaaDoorHJoin
namespace Go.Proofs.YtodmfjophjhbeaaDoor.Pure
open Go.RowKit Go.Proofs.YtodmfjophjhbeaaDoor.M Go.Proofs.YtodmfjophjhbeaaDoorW.PrintWords Go.Proofs.YtodmfjophjhbeaaDoorW.PrintLast Go.Proofs.YtodmfjophjhbeaaDoorW.PrintMore
set_option linter.unusedVariables false
set_option linter.unusedSimpArgs false

/-- The reference's text, written on: each further word behind a space. -/
def catT : List ByteArray → ByteArray
  | [] => ⟨#[]⟩
  | w :: ws => ((⟨#[32]⟩ : ByteArray) ++ w) ++ catT ws
theorem catT_data : ∀ ws : List ByteArray, (catT ws).data.toList = Lib.joinTail [32] (ws.map (·.data.toList)) := by
  intro ws
  induction ws with
  | nil => rfl
  | cons w ws ih =>
    simp only [catT, ByteArray.data_append, Array.toList_append, ih, Lib.joinTail, List.map_cons, List.flatten_cons]
theorem join_cat (w : ByteArray) (ws : List ByteArray) : joinB (w :: ws) (⟨#[32]⟩ : ByteArray) = w ++ catT ws := by
  apply ByteArray.ext
  unfold joinB
  simp only [List.map_cons]
  rw [Lib.join_cons]
  apply Array.ext'
  simp only [ByteArray.data_append, Array.toList_append, catT_data]
theorem assoc3 (a b c : ByteArray) : (a ++ b) ++ c = a ++ (b ++ c) := by
  apply ByteArray.ext
  simp only [ByteArray.data_append, Array.append_assoc]
theorem cat_empty (a : ByteArray) : a ++ (⟨#[]⟩ : ByteArray) = a := by
  apply ByteArray.ext
  simp [ByteArray.data_append]
theorem join_size : ∀ (ws : List ByteArray), (∀ w ∈ ws, w.size ≤ 6) → (Lib.joinTail [32] (ws.map (·.data.toList))).length ≤ 7 * ws.length := by
  intro ws
  induction ws with
  | nil => intro _; simp [Lib.joinTail]
  | cons w ws ih =>
    intro h
    have h1 := ih (fun u hu => h u (List.mem_cons_of_mem _ hu))
    have h2 : w.data.toList.length ≤ 6 := by
      have := h w List.mem_cons_self
      rw [Array.length_toList]
      exact this
    simp only [Lib.joinTail, List.map_cons, List.flatten_cons, List.length_append, List.length_cons] at h1 ⊢
    simp only [List.length_nil] at *
    omega
theorem join_val (ws : List ByteArray) (h : ∀ w ∈ ws, w.size ≤ 6) (hl : ws.length ≤ 200) : strings_Join.f ws (⟨#[32]⟩ : ByteArray) = some (joinB ws (⟨#[32]⟩ : ByteArray)) := by
  unfold strings_Join.f
  rw [if_pos]
  refine ⟨?_, by omega⟩
  cases ws with
  | nil => simp [Lib.join_nil]
  | cons w ws =>
    rw [List.map_cons, Lib.join_cons, List.length_append]
    have h1 := join_size ws (fun u hu => h u (List.mem_cons_of_mem _ hu))
    have h2 : w.data.toList.length ≤ 6 := by
      have := h w List.mem_cons_self
      rw [Array.length_toList]
      exact this
    simp only [List.length_cons] at hl
    have h3 : (⟨#[32]⟩ : ByteArray).data.toList = [32] := rfl
    rw [h3]
    omega

theorem empty_cat (a : ByteArray) : (⟨#[]⟩ : ByteArray) ++ a = a := by
  apply ByteArray.ext
  simp [ByteArray.data_append]
/-- The digits of a number. -/
def D (x : Int) : ByteArray := ⟨(Lib.decDigits x.toNat).toArray⟩
def D2 (n : Nat) : ByteArray := if n < 10 then ⟨#[UInt8.ofNat (48 + n)]⟩ else ⟨#[UInt8.ofNat (48 + n / 10), UInt8.ofNat (48 + n % 10)]⟩
theorem D_two (n : Nat) (h : n < 100) : D (n : Int) = D2 n := by
  unfold D D2
  rw [Int.toNat_natCast, Lib.decDigits]
  by_cases c : n < 10
  · rw [dif_pos c, if_pos c]
  · rw [dif_neg c, if_neg c, Lib.decDigits, dif_pos (by omega)]
    rfl
theorem D_size (x : Int) (h0 : 0 ≤ x) (h1 : x < 100) : (D x).size ≤ 2 := by
  obtain ⟨n, rfl⟩ : ∃ n : Nat, x = (n : Int) := ⟨x.toNat, by omega⟩
  rw [D_two n (by omega)]
  unfold D2
  split <;> simp [ByteArray.size]
theorem dec_two : ∀ n : Nat, n < 100 → spec_Decimal.f 2 (n : Int) = some (D2 n) := by decide +kernel
theorem dec_spec {k : Nat} (h : 2 ≤ k) (x : Int) (h0 : 0 ≤ x) (h1 : x < 100) : spec_Decimal.f k x = some (D x) := by
  obtain ⟨m, rfl⟩ := fuel h
  obtain ⟨n, rfl⟩ : ∃ n : Nat, x = (n : Int) := ⟨x.toNat, by omega⟩
  rw [D_two n (by omega)]
  induction m with
  | zero => exact dec_two n (by omega)
  | succ m ih => rw [show m + 1 + 2 = m + 2 + 1 by omega]; exact spec_Decimal.mono (n : Int) (m + 2) _ (ih (by omega))
theorem dec_impl (x : Int) (h0 : 0 ≤ x) (h1 : x < 100) : impl_decimal.f x = some (D x) := by
  unfold impl_decimal.f strconv_FormatInt.f
  rw [if_pos ⟨⟨h0, h1⟩, rfl⟩]
  rfl
/-- A word: the start of jug i, and the jug. -/
def wd (S : List Int) (i x : Int) : ByteArray := (D (rd S i) ++ (⟨#[47]⟩ : ByteArray)) ++ D x
def wds (S : List Int) : Int → List Int → List ByteArray
  | _, [] => []
  | i, x :: xs => wd S i x :: wds S (i + 1) xs
theorem wds_len (S : List Int) : ∀ (xs : List Int) (i : Int), (wds S i xs).length = xs.length := by
  intro xs
  induction xs with
  | nil => intro i; rfl
  | cons x xs ih => intro i; simp [wds, ih]
theorem wd_size (S : List Int) (i x : Int) (h : 0 ≤ rd S i ∧ rd S i < 100) (hx : 0 ≤ x ∧ x < 100) : (wd S i x).size ≤ 5 := by
  have := D_size _ h.1 h.2
  have := D_size _ hx.1 hx.2
  unfold wd
  rw [ByteArray.size_append, ByteArray.size_append]
  have : (⟨#[47]⟩ : ByteArray).size = 1 := rfl
  omega
theorem wds_size (S : List Int) : ∀ (xs : List Int) (i : Int), (∀ j, i ≤ j → j < i + xs.length → 0 ≤ rd S j ∧ rd S j < 100) → (∀ x ∈ xs, 0 ≤ x ∧ x < 100) → ∀ w ∈ wds S i xs, w.size ≤ 6 := by
  intro xs
  induction xs with
  | nil => intro i h1 h2 w hw; cases hw
  | cons x xs ih =>
    intro i h1 h2 w hw
    simp only [List.length_cons] at h1
    rcases List.mem_cons.1 hw with rfl | hw
    · have := wd_size S i x (h1 i (by omega) (by omega)) (h2 x List.mem_cons_self); omega
    · exact ih (i + 1) (fun j a b => h1 j (by omega) (by omega)) (fun y hy => h2 y (List.mem_cons_of_mem _ hy)) w hw
theorem water_in (l : List Int) (hl : l.length ≤ 4) (a b c d : Int) : ∀ (n k : Nat) (i : Int), 0 ≤ i → 4 - i ≤ n → n < k → spec_l02Water.l0 k l i a b c d = some true → ∀ j, i ≤ j → j < (l.length : Int) → 0 ≤ rd [a, b, c, d] j ∧ rd [a, b, c, d] j ≤ rd l j := by
  intro n
  induction n with
  | zero => intro k i h0 h1 h2 h j hj hjl; omega
  | succ n ih =>
    intro k i h0 h1 h2 h j hj hjl
    obtain ⟨k, rfl⟩ := fuel (show 1 ≤ k by omega)
    simp only [spec_l02Water.l0] at h
    rw [if_pos (show i < 4 by omega), if_pos (show i < (l.length : Int) by omega), if_pos h0] at h
    by_cases e1 : rd [a, b, c, d] i < 0
    · rw [if_pos e1] at h; cases h
    · rw [if_neg e1] at h
      by_cases e2 : rd [a, b, c, d] i > rd l i
      · rw [if_pos e2] at h; cases h
      · rw [if_neg e2, wi h0 (by omega)] at h
        by_cases e : j = i
        · subst e; omega
        · exact ih k (i + 1) (by omega) (by omega) (by omega) h j (by omega) hjl
def tapB (z : Bool) : ByteArray := if z = true then (⟨#[32, 116, 97, 112]⟩ : ByteArray) else ⟨#[]⟩
theorem spec_l0 (l : List Int) (hl : l.length ≤ 4) (a b c d : Int) (z : Bool) (hx : ∀ x ∈ l, 0 ≤ x ∧ x < 100) (hS : ∀ j, 0 ≤ j → j < (l.length : Int) → 0 ≤ rd [a, b, c, d] j ∧ rd [a, b, c, d] j < 100) :
    ∀ (suf pre : List Int) (acc : ByteArray) (k : Nat), l = pre ++ suf → 1 ≤ pre.length → acc.size ≤ 6 * pre.length → suf.length + 4 ≤ k →
    spec_l02Text.l0 k acc (pre.length : Int) l a b c d z = some ((acc ++ catT (wds [a, b, c, d] (pre.length : Int) suf)) ++ tapB z) := by
  intro suf
  induction suf with
  | nil =>
    intro pre acc k h hp ha hk
    obtain ⟨k, rfl⟩ := fuel (show 1 ≤ k by omega)
    simp only [List.append_nil] at h
    simp only [spec_l02Text.l0]
    rw [if_neg (by rw [h]; omega)]
    unfold tapB
    rw [wds, catT, cat_empty]
    cases z with
    | true => rw [if_pos rfl, if_pos rfl, if_pos (by have : pre.length ≤ 4 := by rw [← h]; exact hl
                                                     omega)]
    | false => rw [if_neg (by simp), if_neg (by simp), cat_empty]
  | cons x suf ih =>
    intro pre acc k h hp ha hk
    simp only [List.length_cons] at hk
    obtain ⟨k, rfl⟩ := fuel (show 1 ≤ k by omega)
    have hn : l.length = pre.length + (suf.length + 1) := by rw [h]; simp
    have e : rd l (pre.length : Int) = x := by rw [h]; exact rd_pre pre x suf
    have hxx := hx x (by rw [h]; simp)
    have hSS := hS (pre.length : Int) (by omega) (by omega)
    have s1 := D_size _ hxx.1 hxx.2
    have s2 := D_size _ hSS.1 hSS.2
    simp only [spec_l02Text.l0, e]
    rw [if_pos (by omega), if_pos (by omega), if_pos (by omega), if_pos (by omega), if_pos (by omega), show wrap64 (rd [a, b, c, d] (pre.length : Int)) = rd [a, b, c, d] (pre.length : Int) by unfold wrap64; omega, show wrap64 x = x by unfold wrap64; omega, dec_spec (by omega) _ hSS.1 hSS.2, dec_spec (by omega) _ hxx.1 hxx.2, wi (by omega) (by omega)]
    simp only [Option.bind_some]
    rw [if_pos (by omega), if_pos (by omega), if_pos (by omega)]
    have := ih (pre ++ [x]) ((acc ++ (⟨#[32]⟩ : ByteArray)) ++ wd [a, b, c, d] (pre.length : Int) x) k (by simp [h]) (by simp) (by
      have := wd_size [a, b, c, d] (pre.length : Int) x hSS hxx
      rw [ByteArray.size_append, ByteArray.size_append]
      have : (⟨#[32]⟩ : ByteArray).size = 1 := rfl
      simp
      omega) (by omega)
    rw [show (((pre ++ [x]).length : Nat) : Int) = (pre.length : Int) + 1 by simp] at this
    rw [wds, catT]
    refine this.trans ?_
    simp only [assoc3]
theorem impl_l0 (S l : List Int) (hl : l.length ≤ 4) (hSl : S.length = 4) (hx : ∀ x ∈ l, 0 ≤ x ∧ x < 100) (hS : ∀ j, 0 ≤ j → j < (l.length : Int) → 0 ≤ rd S j ∧ rd S j < 100) :
    ∀ (suf pre : List Int) (acc : List ByteArray) (k : Nat), l = pre ++ suf → acc.length = pre.length → suf.length + 1 ≤ k →
    impl_levelsText.l0 k S acc l (l.length : Int) (pre.length : Int) = some (acc ++ wds S (pre.length : Int) suf) := by
  intro suf
  induction suf with
  | nil =>
    intro pre acc k h ha hk
    obtain ⟨k, rfl⟩ := fuel (show 1 ≤ k by omega)
    simp only [List.append_nil] at h
    simp only [impl_levelsText.l0]
    rw [if_neg (by rw [h]; omega), wds, List.append_nil]
  | cons x suf ih =>
    intro pre acc k h ha hk
    simp only [List.length_cons] at hk
    obtain ⟨k, rfl⟩ := fuel (show 1 ≤ k by omega)
    have hn : l.length = pre.length + (suf.length + 1) := by rw [h]; simp
    have e : rd l (pre.length : Int) = x := by rw [h]; exact rd_pre pre x suf
    have hxx := hx x (by rw [h]; simp)
    have hSS := hS (pre.length : Int) (by omega) (by omega)
    have s1 := D_size _ hxx.1 hxx.2
    have s2 := D_size _ hSS.1 hSS.2
    simp only [impl_levelsText.l0, e]
    rw [if_pos (by omega), if_pos (by omega), if_pos (by omega), if_pos (by omega), show wrap64 (rd S (pre.length : Int)) = rd S (pre.length : Int) by unfold wrap64; omega, show wrap64 x = x by unfold wrap64; omega, dec_impl _ hSS.1 hSS.2, dec_impl _ hxx.1 hxx.2, wi (by omega) (by omega)]
    simp only [Option.bind_some]
    rw [if_pos (by omega), if_pos (by omega), if_pos (by omega)]
    have := ih (pre ++ [x]) (acc ++ [wd S (pre.length : Int) x]) k (by simp [h]) (by simp [ha]) (by omega)
    rw [show (((pre ++ [x]).length : Nat) : Int) = (pre.length : Int) + 1 by simp] at this
    rw [wds]
    refine Eq.trans this ?_
    simp
theorem puzzleText_same {k : Nat} (l : List Int) (a b c d : Int) (z : Bool) (hl : l.length ≤ 1048576) (hk : l.length + 40 ≤ k) :
    ∃ r, spec_PuzzleText.f k l a b c d z = some r ∧ impl_PuzzleText.f k l a b c d z = some r := by
  obtain ⟨r, hs, hi, hr⟩ := valid_val (k := k) l a b c d z hl (by omega)
  unfold spec_PuzzleText.f impl_PuzzleText.f
  rw [hs, hi]
  simp only [Option.bind_some]
  cases r with
  | false => exact ⟨_, by rw [if_neg (by simp)], by rw [if_neg (by simp)]⟩
  | true =>
    obtain ⟨hc, hj, hp, _, hst, _⟩ := hr rfl
    have hx : ∀ x ∈ l, 1 ≤ x ∧ x ≤ 60 := fun x h => of_decide_eq_true (List.all_eq_true.1 hj x h)
    have hw : spec_l02Water.f k l a b c d = some true := by
      unfold spec_l02Ok.f at hs
      rw [hst] at hs
      simp only [Option.bind_some] at hs
      rw [if_pos (show prodP 1 l > 0 by omega)] at hs
      cases hq : spec_l02Water.f k l a b c d with
      | none => rw [hq] at hs; cases hs
      | some t => rw [hq] at hs; simpa using hs
    have hin := water_in l (by omega) a b c d 4 k 0 (by omega) (by omega) (by omega) hw
    have hrd : ∀ j, 0 ≤ j → j < (l.length : Int) → rd l j ∈ l := by
      intro j h0 h1
      unfold rd
      rw [List.getD_eq_getElem?_getD, List.getElem?_eq_getElem (show j.toNat < l.length by omega)]
      exact List.getElem_mem _
    have hS : ∀ j, 0 ≤ j → j < (l.length : Int) → 0 ≤ rd [a, b, c, d] j ∧ rd [a, b, c, d] j < 100 := by
      intro j h0 h1
      have := hin j h0 h1
      have := hx _ (hrd j h0 h1)
      omega
    have hx' : ∀ x ∈ l, 0 ≤ x ∧ x < 100 := fun x h => by have := hx x h; omega
    rw [if_pos rfl, if_pos rfl]
    have hI := impl_l0 [a, b, c, d] l (by omega) rfl hx' hS l [] [] k rfl rfl (by omega)
    have hI' : impl_levelsText.f k [a, b, c, d] l = some (wds [a, b, c, d] 0 l) := hI
    rw [hI']
    simp only [Option.bind_some]
    have hsz := wds_size [a, b, c, d] l 0 (fun j h0 h1 => hS j h0 (by omega)) hx'
    have hln := wds_len [a, b, c, d] l 0
    cases l with
    | nil => simp at hc
    | cons x suf =>
      simp only [List.length_cons] at hc hk hl hln
      have hxx := hx' x List.mem_cons_self
      have hSS := hS 0 (by omega) (by simp only [List.length_cons]; omega)
      have s1 := D_size _ hxx.1 hxx.2
      have s2 := D_size _ hSS.1 hSS.2
      have hT : spec_l02Text.f k (x :: suf) a b c d z = some ((wd [a, b, c, d] 0 x ++ catT (wds [a, b, c, d] 1 suf)) ++ tapB z) := by
        unfold spec_l02Text.f
        obtain ⟨k, rfl⟩ := fuel (show 1 ≤ k by omega)
        have := spec_l0 (x :: suf) (by simp; omega) a b c d z hx' hS suf [x] (wd [a, b, c, d] 0 x) k rfl (by simp) (by have := wd_size [a, b, c, d] 0 x hSS hxx; simp; omega) (by omega)
        rw [show ((([x] : List Int).length : Nat) : Int) = 1 from rfl] at this
        rw [← this]
        simp only [spec_l02Text.l0]
        rw [show rd (x :: suf) 0 = x from rfl]
        rw [if_pos (by simp only [List.length_cons]; omega), if_neg (by omega), if_pos (by omega), if_pos (by omega), show wrap64 (rd [a, b, c, d] 0) = rd [a, b, c, d] 0 by unfold wrap64; omega, show wrap64 x = x by unfold wrap64; omega, dec_spec (by omega) _ hSS.1 hSS.2, dec_spec (by omega) _ hxx.1 hxx.2, wi (by omega) (by omega)]
        simp only [Option.bind_some]
        rw [if_pos (by omega), if_pos (by omega), if_pos (by rw [show (⟨#[]⟩ : ByteArray).size = 0 from rfl]; omega), empty_cat]
        rfl
      rw [hT]
      simp only [Option.bind_some]
      refine ⟨_, rfl, ?_⟩
      rw [wds] at hsz hln ⊢
      cases z with
      | true =>
        rw [if_pos rfl, if_pos (by omega), join_val _ (fun w hw => by
          rcases List.mem_append.1 hw with hw | hw
          · exact hsz w hw
          · obtain rfl := List.mem_singleton.1 hw
            decide) (by simp; simp at hln; omega)]
        simp only [Option.bind_some]
        rw [List.cons_append, join_cat]
        have app : ∀ ws : List ByteArray, catT (ws ++ [(⟨#[116, 97, 112]⟩ : ByteArray)]) = catT ws ++ tapB true := by
          intro ws
          induction ws with
          | nil => rfl
          | cons w ws ih => rw [List.cons_append, catT, catT, ih]; simp only [assoc3]
        rw [app, ← assoc3]
        rfl
      | false =>
        rw [if_neg (by simp), join_val _ hsz (by omega)]
        simp only [Option.bind_some]
        rw [join_cat]
        unfold tapB
        rw [if_neg (by simp), cat_empty]
        rfl
theorem FnExactPuzzleText (x0_0 : (List Int)) (x0_1 : Int) (x0_2 : Int) (x0_3 : Int) (x0_4 : Int) (x0_5 : Bool) (w0_0 : (fun xs : List Int => xs.length ≤ maxLen ∧ ∀ x ∈ xs, (fun x : Int => (Lit.int .i16 x).wf = true) x) x0_0) (w0_1 : (fun x : Int => (Lit.int .i16 x).wf = true) x0_1) (w0_2 : (fun x : Int => (Lit.int .i16 x).wf = true) x0_2) (w0_3 : (fun x : Int => (Lit.int .i16 x).wf = true) x0_3) (w0_4 : (fun x : Int => (Lit.int .i16 x).wf = true) x0_4) : ∃ k, laws_FnExactPuzzleText.f k x0_0 x0_1 x0_2 x0_3 x0_4 x0_5 = some true := by
  obtain ⟨k, hk⟩ : ∃ k, k = x0_0.length + 60 := ⟨_, rfl⟩
  refine ⟨k, ?_⟩
  unfold laws_FnExactPuzzleText.f
  rw [szPuzzle_val x0_0 x0_1 x0_2 x0_3 x0_4 x0_5 w0_0.1 1048576 (by omega) (by omega)]
  simp only [Option.bind_some]
  by_cases e0 : (1048576 : Int) - (x0_0.length : Int) < 0
  · rw [if_pos e0]; rfl
  · rw [if_neg e0, if_neg e0, toPuzzle_val x0_0 x0_1 x0_2 x0_3 x0_4 x0_5 (by omega) (by omega)]
    simp only [Option.bind_some]
    obtain ⟨r, r1, r2⟩ := puzzleText_same (k := k) x0_0 x0_1 x0_2 x0_3 x0_4 x0_5 (by omega) (by omega)
    rw [r1, r2]
    simp only [Option.bind_some]
    rw [if_pos trivial, eqPuzzle_self x0_0 x0_1 x0_2 x0_3 x0_4 x0_5 (by omega) (by omega)]
    simp

end Go.Proofs.YtodmfjophjhbeaaDoor.Pure
