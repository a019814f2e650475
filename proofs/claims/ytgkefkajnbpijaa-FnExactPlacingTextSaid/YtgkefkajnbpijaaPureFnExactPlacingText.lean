/- The program's PlacingText returns what the reference's returns, and leaves its argument as it was. Conditions: none (each slice). -/
import Derived.Test.YtgkefkajnbpijaaPFnExactPlacingTextx2
import Derived.Test.YtgkefkajnbpijaaWSized
namespace Go.Proofs.Ytgkefkajnbpijaa.Pure
open Go.RowKit Go.Proofs.Ytgkefkajnbpijaa.PFnExactPlacingText Go.Proofs.YtgkefkajnbpijaaW.PrintWords Go.Proofs.YtgkefkajnbpijaaW.PrintLast
set_option linter.unusedVariables false
set_option linter.unusedSimpArgs false

/-- Whether all numbers from i on are signs. -/
def okP (xs : List Int) (i : Int) : Prop := ∀ j, i ≤ j → j < xs.length → -1 ≤ rd xs j ∧ rd xs j ≤ 1

theorem rd_one (xs : List Int) (n : Nat) (h : n < xs.length) : rd xs (n : Int) = xs[n] := by
  unfold rd; simp [List.getD, h]

def sg (x : Int) : Int := if x = -1 then 45 else if x = 0 then 48 else 43

theorem bt_sg {x : Int} (h0 : -1 ≤ x) (h1 : x ≤ 1) : bt (⟨#[45, 48, 43]⟩ : ByteArray) (x + 1) = sg x := by
  have : x = -1 ∨ x = 0 ∨ x = 1 := by omega
  rcases this with rfl | rfl | rfl <;> decide

theorem ext_sg {x : Int} (h0 : -1 ≤ x) (h1 : x ≤ 1) : (⟨#[45, 48, 43]⟩ : ByteArray).extract (x + 1).toNat (x + 2).toNat = strOfNums [sg x] := by
  have : x = -1 ∨ x = 0 ∨ x = 1 := by omega
  rcases this with rfl | rfl | rfl <;> rfl

theorem str_app (a b : List Int) : strOfNums a ++ strOfNums b = strOfNums (a ++ b) := by
  apply ByteArray.ext
  simp [strOfNums, ByteArray.data_append]

theorem wrap8_in {x : Int} (h0 : -128 ≤ x) (h1 : x ≤ 127) : IntKind.i8.wrap x = x := by
  simp only [IntKind.wrap, IntKind.bits, IntKind.signed]; simp; split <;> omega

theorem placed_does (xs : List Int) (hl : xs.length ≤ 1048576) : ∀ (d k : Nat) (i : Int), 0 ≤ i → (xs.length : Int) - i ≤ d → d < k →
    ∃ b, spec_l01Placed.l0 k xs i = some b ∧ (b = true → okP xs i) ∧ (okP xs i → b = true) := by
  intro d
  induction d with
  | zero =>
    intro k i h0 h1 h2
    obtain ⟨k, rfl⟩ : ∃ m, k = m + 1 := ⟨k - 1, by omega⟩
    refine ⟨true, ?_, fun _ j _ _ => by omega, fun _ => rfl⟩
    simp only [spec_l01Placed.l0]; rw [if_neg (by omega)]
  | succ d ih =>
    intro k i h0 h1 h2
    obtain ⟨k, rfl⟩ : ∃ m, k = m + 1 := ⟨k - 1, by omega⟩
    by_cases h : i < (xs.length : Int)
    · by_cases h3 : rd xs i < -1
      · refine ⟨false, ?_, fun h => (by cases h), fun ho => ?_⟩
        · simp only [spec_l01Placed.l0]; rw [if_pos h, if_pos h0, if_pos h3]
        · have := ho i (by omega) h; omega
      · by_cases h4 : rd xs i > 1
        · refine ⟨false, ?_, fun h => (by cases h), fun ho => ?_⟩
          · simp only [spec_l01Placed.l0]; rw [if_pos h, if_pos h0, if_neg h3, if_pos h4]
          · have := ho i (by omega) h; omega
        · obtain ⟨b, hb, hb1, hb2⟩ := ih k (i + 1) (by omega) (by omega) (by omega)
          refine ⟨b, ?_, fun e j hj hjl => ?_, fun ho => hb2 (fun j hj hjl => ho j (by omega) hjl)⟩
          · simp only [spec_l01Placed.l0]; rw [if_pos h, if_pos h0, if_neg h3, if_neg h4, show wrap64 (i + 1) = i + 1 by unfold wrap64; omega]; exact hb
          · by_cases e2 : j = i
            · subst e2; omega
            · exact hb1 e j (by omega) hjl
    · refine ⟨true, ?_, fun _ j _ _ => by omega, fun _ => rfl⟩
      simp only [spec_l01Placed.l0]; rw [if_neg h]

theorem text_does (xs : List Int) (hl : xs.length ≤ 1048576) : ∀ (d k : Nat) (i : Int) (acc : List Int), 0 ≤ i → (xs.length : Int) - i ≤ d → d < k → acc.length ≤ i → okP xs i →
    spec_l01PlacingText.l0 k xs (strOfNums acc) i = some (strOfNums (acc ++ (xs.drop i.toNat).map sg)) ∧ impl_signs.l0 k acc xs xs.length i = some (strOfNums (acc ++ (xs.drop i.toNat).map sg), true) := by
  intro d
  induction d with
  | zero =>
    intro k i acc h0 h1 h2 ha ho
    obtain ⟨k, rfl⟩ : ∃ m, k = m + 1 := ⟨k - 1, by omega⟩
    have e : xs.drop i.toNat = [] := List.drop_eq_nil_of_le (by omega)
    simp only [spec_l01PlacingText.l0, impl_signs.l0]
    rw [if_neg (by omega), if_neg (by omega), e]
    simp
  | succ d ih =>
    intro k i acc h0 h1 h2 ha ho
    obtain ⟨k, rfl⟩ : ∃ m, k = m + 1 := ⟨k - 1, by omega⟩
    by_cases h : i < (xs.length : Int)
    · obtain ⟨o0, o1⟩ := ho i (by omega) h
      have e1 : IntKind.i8.wrap (rd xs i + 1) = rd xs i + 1 := wrap8_in (by omega) (by omega)
      have e2 : IntKind.i8.wrap (rd xs i + 2) = rd xs i + 2 := wrap8_in (by omega) (by omega)
      have ed : xs.drop i.toNat = rd xs i :: xs.drop (i + 1).toNat := by
        have e3 : (i + 1).toNat = i.toNat + 1 := by omega
        rw [e3, List.drop_eq_getElem_cons (show i.toNat < xs.length by omega)]
        unfold rd
        simp [List.getD, show i.toNat < xs.length by omega]
      obtain ⟨hs, hi⟩ := ih k (i + 1) (acc ++ [sg (rd xs i)]) (by omega) (by omega) (by omega) (by simp; omega) (fun j hj hjl => ho j (by omega) hjl)
      have ew : wrap64 (i + 1) = i + 1 := by unfold wrap64; omega
      constructor
      · simp only [spec_l01PlacingText.l0]
        rw [if_pos h, if_pos h0, e1, e2, if_pos (by omega), if_pos (by omega), if_pos (by omega), ext_sg o0 o1, str_app, if_pos (by simp [strOfNums_size]; omega), ew, hs, ed]
        simp
      · simp only [impl_signs.l0]
        have ha2 : acc.length < 140737488355328 := by clear ew; omega
        rw [if_pos h, if_pos h0, if_pos h, if_neg (by omega), if_neg (by omega), e1, if_pos (by omega), if_pos (by omega), if_pos ha2, bt_sg o0 o1, ew, hi, ed]
        simp
    · have e : xs.drop i.toNat = [] := List.drop_eq_nil_of_le (by omega)
      simp only [spec_l01PlacingText.l0, impl_signs.l0]
      rw [if_neg (by omega), if_neg (by omega), e]
      simp

theorem signs_no (xs : List Int) (hl : xs.length ≤ 1048576) : ∀ (d k : Nat) (i : Int) (acc : List Int), 0 ≤ i → (xs.length : Int) - i ≤ d → d < k → acc.length ≤ i → ¬ okP xs i →
    impl_signs.l0 k acc xs xs.length i = some (⟨#[]⟩, false) := by
  intro d
  induction d with
  | zero =>
    intro k i acc h0 h1 h2 ha ho
    exact absurd (fun j _ _ => by omega) ho
  | succ d ih =>
    intro k i acc h0 h1 h2 ha ho
    obtain ⟨k, rfl⟩ : ∃ m, k = m + 1 := ⟨k - 1, by omega⟩
    by_cases h : i < (xs.length : Int)
    · have ew : wrap64 (i + 1) = i + 1 := by unfold wrap64; omega
      simp only [impl_signs.l0]
      rw [if_pos h, if_pos h0, if_pos h]
      by_cases h3 : rd xs i < -1
      · rw [if_pos h3]
      · rw [if_neg h3]
        by_cases h4 : rd xs i > 1
        · rw [if_pos h4]
        · have e1 : IntKind.i8.wrap (rd xs i + 1) = rd xs i + 1 := wrap8_in (by omega) (by omega)
          rw [if_neg h4, e1, if_pos (by omega), if_pos (by omega), if_pos (by omega), ew]
          refine ih k (i + 1) _ (by omega) (by omega) (by omega) (by simp; omega) (fun hok => ho (fun j hj hjl => ?_))
          by_cases e2 : j = i
          · subst e2; omega
          · exact hok j (by omega) hjl
    · exact absurd (fun j _ _ => by omega) ho

theorem copy_does (xs : List Int) (hl : xs.length ≤ 1048576) : ∀ (d k : Nat) (i : Int) (ys : List Int), 0 ≤ i → i ≤ xs.length → (xs.length : Int) - i ≤ d → d < k → ys.length = xs.length → (∀ j, 0 ≤ j → j < i → rd ys j = rd xs j) →
    laws_toPlacing.l0 k xs ys i = some xs := by
  have fin : ∀ ys : List Int, ys.length = xs.length → (∀ j, 0 ≤ j → j < (xs.length : Int) → rd ys j = rd xs j) → ys = xs := by
    intro ys hy hh
    apply List.ext_getElem hy
    intro n h1 h2
    have := hh n (by omega) (by omega)
    rwa [rd_one _ _ h1, rd_one _ _ h2] at this
  intro d
  induction d with
  | zero =>
    intro k i ys h0 hi h1 h2 hy hh
    obtain ⟨k, rfl⟩ : ∃ m, k = m + 1 := ⟨k - 1, by omega⟩
    simp only [laws_toPlacing.l0]; rw [if_neg (by omega), fin ys hy (fun j hj hjl => hh j hj (by omega))]
  | succ d ih =>
    intro k i ys h0 hi h1 h2 hy hh
    obtain ⟨k, rfl⟩ : ∃ m, k = m + 1 := ⟨k - 1, by omega⟩
    by_cases h : i < (xs.length : Int)
    · simp only [laws_toPlacing.l0]
      rw [if_pos h, if_pos h0, if_pos (by omega), show wrap64 (i + 1) = i + 1 by unfold wrap64; omega]
      refine ih k (i + 1) _ (by omega) (by omega) (by omega) (by omega) (by simp [hy]) (fun j hj hj2 => ?_)
      unfold rd
      by_cases e : j = i
      · subst e; simp [List.getD, show j.toNat < ys.length by omega]
      · have := hh j hj (by omega)
        unfold rd at this
        rw [← this]
        simp [List.getD, show i.toNat ≠ j.toNat by omega]
    · simp only [laws_toPlacing.l0]; rw [if_neg (by omega), fin ys hy (fun j hj hjl => hh j hj (by omega))]

theorem eqp_self (xs : List Int) (hl : xs.length ≤ 1048576) : ∀ (d k : Nat) (i : Int), 0 ≤ i → (xs.length : Int) - i ≤ d → d < k → laws_eqPlacing.l0 k xs xs i = some true := by
  intro d
  induction d with
  | zero =>
    intro k i h0 h1 h2
    obtain ⟨k, rfl⟩ : ∃ m, k = m + 1 := ⟨k - 1, by omega⟩
    simp only [laws_eqPlacing.l0]; rw [if_neg (by omega)]
  | succ d ih =>
    intro k i h0 h1 h2
    obtain ⟨k, rfl⟩ : ∃ m, k = m + 1 := ⟨k - 1, by omega⟩
    simp only [laws_eqPlacing.l0]
    by_cases h : i < (xs.length : Int)
    · simp only [if_true]; rw [if_pos h, if_pos h0, if_pos h, show wrap64 (i + 1) = i + 1 by unfold wrap64; omega]
      exact ih k _ (by omega) (by omega) (by omega)
    · rw [if_neg h]

theorem FnExactPlacingText : laws_FnExactPlacingText.Pure := by
  intro xs _ _ _
  obtain ⟨K, hK⟩ : ∃ K : Nat, 1048576 < K := ⟨1048577, Nat.lt_succ_self _⟩
  refine ⟨K, ?_⟩
  unfold laws_FnExactPlacingText.f
  by_cases hl : (xs.length : Int) > 1048576
  · rw [if_pos hl]
  · rw [if_neg hl]
    have hl' : xs.length ≤ 1048576 := by omega
    have hcopy : laws_toPlacing.f K xs = some xs := by
      unfold laws_toPlacing.f
      rw [if_pos (by omega), if_pos (by omega)]
      exact copy_does xs hl' 1048576 K 0 _ (by omega) (by omega) (by omega) hK (by simp) (fun j hj hj2 => by omega)
    have heq : laws_eqPlacing.f K xs xs = some true := by
      unfold laws_eqPlacing.f
      rw [if_pos rfl]; exact eqp_self xs hl' 1048576 K 0 (by omega) (by omega) hK
    obtain ⟨b, hb, hb1, hb2⟩ := placed_does xs hl' 1048576 K 0 (by omega) (by omega) hK
    have hsame : ∃ t, spec_PlacingText.f K xs = some t ∧ impl_PlacingText.f K xs = some t := by
      cases b with
      | true =>
        obtain ⟨hs, hi⟩ := text_does xs hl' 1048576 K 0 [] (by omega) (by omega) hK (by simp) (hb1 rfl)
        have hs' : spec_l01PlacingText.f K xs = some (strOfNums ([] ++ (xs.drop (0 : Int).toNat).map sg)) := hs
        have hi' : impl_signs.f K xs = some (strOfNums ([] ++ (xs.drop (0 : Int).toNat).map sg), true) := hi
        by_cases h16 : (xs.length : Int) > 16
        · refine ⟨⟨#[]⟩, ?_, ?_⟩
          · unfold spec_PlacingText.f spec_l01Placed.f; rw [hb]; simp only [Option.bind_some, if_true]; rw [if_pos h16]
          · unfold impl_PlacingText.f; rw [hi']; simp only [Option.bind_some, if_true]; rw [if_pos h16]
        · refine ⟨strOfNums ([] ++ (xs.drop (0 : Int).toNat).map sg), ?_, ?_⟩
          · unfold spec_PlacingText.f spec_l01Placed.f; rw [hb]; simp only [Option.bind_some, if_true]; rw [if_neg h16, hs']; rfl
          · unfold impl_PlacingText.f; rw [hi']; simp only [Option.bind_some, if_true]; rw [if_neg h16]
      | false =>
        have hi := signs_no xs hl' 1048576 K 0 [] (by omega) (by omega) hK (by simp) (fun ho => by cases hb2 ho)
        have hi' : impl_signs.f K xs = some (⟨#[]⟩, false) := hi
        refine ⟨⟨#[]⟩, ?_, ?_⟩
        · unfold spec_PlacingText.f spec_l01Placed.f; rw [hb]; simp
        · unfold impl_PlacingText.f; rw [hi']; simp
    obtain ⟨t, ht1, ht2⟩ := hsame
    rw [hcopy]; simp only [Option.bind_some]
    rw [ht1]; simp only [Option.bind_some]
    rw [ht2]; simp only [Option.bind_some, if_true]
    rw [heq]; simp

end Go.Proofs.Ytgkefkajnbpijaa.Pure
namespace Go.Proofs.Ytgkefkajnbpijaa.PrintWords
open Go.ChangeShapes Go.WideShapes
/-- The printed row names it so. -/
theorem sized_ints {H : Type} {enc : TypeId × Value → H} {P : Program} {W : World} {base : Nat} {spare : Nat → Bool} {held : Bool} {t e : TypeId} {k : IntKind} {a : Option Addr} {len cap : Nat} {d : DataW H} {ps : List MemPlace} {ts : List TypeId} {ds : List (DataW H)} {j : Nat}
    (hsz : (DataW.weightsEach P ts ds).all (· ≤ reachBytes) = true) (ht : ts[j]? = some t) (hd : ds[j]? = some d) (hu : P.underlying t = some (.slice e)) (he : P.underlying e = some (.int k)) (hc : P.cellsOf e = 1) {B : Nat} (hB : P.bytesOf e = B)
    (h : DataW.Trod enc P W base spare held t (.slice a len cap) d ps) : len * B ≤ 140737488351232 :=
  Go.Proofs.YtgkefkajnbpijaaW.PrintWords.sized_ints hsz ht hd hu he hc hB h
end Go.Proofs.Ytgkefkajnbpijaa.PrintWords
