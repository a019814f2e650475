/- The program's PanOf returns what the reference's returns, and what it returns is of its own. Conditions: none. -/
import Derived.Test.YtonifpgaagdohaaMPureV
import Derived.Test.YtonifpgaagdohaaMPureM
-- IMPORTS
import Derived.Test.YtonifpgaagdohaaMx0
import Derived.Test.YtonifpgaagdohaaMx2
import Derived.Test.YtonifpgaagdohaaMx9
import Derived.Test.YtonifpgaagdohaaMx12
import Derived.Test.YtonifpgaagdohaaMx13
import Derived.Test.YtonifpgaagdohaaMx14
import Derived.Test.YtonifpgaagdohaaMx15
import Derived.Test.YtonifpgaagdohaaMx16
namespace Go.Proofs.Ytonifpgaagdohaa.Pure
open Go.RowKit Go.Proofs.Ytonifpgaagdohaa.M Go.Proofs.YtonifpgaagdohaaW.PrintWords Go.Proofs.YtonifpgaagdohaaW.PrintLast Go.Proofs.YtonifpgaagdohaaW.PrintMore
set_option linter.unusedVariables false
set_option linter.unusedSimpArgs false

/-- Where letter i is v. -/
def sel (i v : Int) : Int → List S40 → List Int
  | _, [] => []
  | n, x :: r => if rd [x.f0, x.f1, x.f2, x.f3] i = v then n :: sel i v (n + 1) r else sel i v (n + 1) r
theorem sel_len (i v : Int) : ∀ (l : List S40) (n : Int), (sel i v n l).length ≤ l.length := by
  intro l
  induction l with
  | nil => intro n; simp [sel]
  | cons x r ih => intro n; have := ih (n + 1); simp only [sel]; split <;> simp <;> omega
theorem pan_spec (i : Int) (h0 : 0 ≤ i) (h4 : i < 4) (p q : Int) (l : List S40) (hl : l.length ≤ 1048576) : ∀ (suf pre : List S40) (u v : List Int) (k : Nat), l = pre ++ suf → u.length + suf.length ≤ 2000000 → v.length + suf.length ≤ 2000000 → suf.length < k →
    spec_PanOf.l0 k i u v (pre.length : Int) p q l = some (u ++ sel i (-1) (pre.length : Int) suf, v ++ sel i 1 (pre.length : Int) suf, 0) := by
  intro suf
  induction suf with
  | nil =>
    intro pre u v k e hu hv hk
    obtain ⟨k, rfl⟩ := fuel (show 1 ≤ k by simp at hk; omega)
    subst e
    simp only [spec_PanOf.l0]
    rw [if_neg (by simp)]
    simp [sel]
  | cons x r ih =>
    intro pre u v k e hu hv hk
    simp only [List.length_cons] at hu hv hk
    obtain ⟨k, rfl⟩ := fuel (show 1 ≤ k by omega)
    have hx : rd_T40 l (pre.length : Int) = x := by rw [e]; exact rdw_pre pre x r
    have hlen : l.length = pre.length + (r.length + 1) := by rw [e]; simp
    have hn : wrap64 ((pre.length : Int) + 1) = ((pre ++ [x]).length : Int) := by rw [wi (by omega) (by omega)]; simp
    have hc : (pre.length : Int) + 1 = ((pre ++ [x]).length : Int) := by simp
    have e2 : l = (pre ++ [x]) ++ r := by rw [e]; simp
    simp only [spec_PanOf.l0, hx, sel]
    rw [if_pos (by omega), if_pos (by omega), if_pos h0, if_pos h4, hn, hc]
    by_cases c1 : rd [x.f0, x.f1, x.f2, x.f3] i = -1
    · have c2 : ¬ rd [x.f0, x.f1, x.f2, x.f3] i = 1 := by omega
      rw [if_pos c1, if_pos c1, if_neg c2, if_pos (by omega), ih (pre ++ [x]) (u ++ [(pre.length : Int)]) v k e2 (by simp; omega) (by omega) (by omega)]
      simp
    · rw [if_neg c1, if_neg c1]
      by_cases c2 : rd [x.f0, x.f1, x.f2, x.f3] i = 1
      · rw [if_pos c2, if_pos c2, if_pos (by omega), ih (pre ++ [x]) u (v ++ [(pre.length : Int)]) k e2 (by omega) (by simp; omega) (by omega)]
        simp
      · rw [if_neg c2, if_neg c2]
        exact ih (pre ++ [x]) u v k e2 (by omega) (by omega) (by omega)
theorem on_l0 (i y : Int) (h0 : 0 ≤ i) (h4 : i < 4) (l : List S40) (hl : l.length ≤ 1048576) : ∀ (suf pre : List S40) (u : List Int) (k : Nat), l = pre ++ suf → u.length + suf.length ≤ 2000000 → suf.length < k →
    impl_Fixed_on.l0 k i y u l (l.length : Int) (pre.length : Int) = some (u ++ sel i y (pre.length : Int) suf) := by
  intro suf
  induction suf with
  | nil =>
    intro pre u k e hu hk
    obtain ⟨k, rfl⟩ := fuel (show 1 ≤ k by simp at hk; omega)
    subst e
    simp only [impl_Fixed_on.l0]
    rw [if_neg (by simp)]
    simp [sel]
  | cons x r ih =>
    intro pre u k e hu hk
    simp only [List.length_cons] at hu hk
    obtain ⟨k, rfl⟩ := fuel (show 1 ≤ k by omega)
    have hx : rd_T40 l (pre.length : Int) = x := by rw [e]; exact rdw_pre pre x r
    have hlen : l.length = pre.length + (r.length + 1) := by rw [e]; simp
    have hn : wrap64 ((pre.length : Int) + 1) = ((pre ++ [x]).length : Int) := by rw [wi (by omega) (by omega)]; simp
    have hc : (pre.length : Int) + 1 = ((pre ++ [x]).length : Int) := by simp
    have e2 : l = (pre ++ [x]) ++ r := by rw [e]; simp
    simp only [impl_Fixed_on.l0, hx, sel]
    rw [if_pos (by omega), if_pos (by omega), if_pos (by omega), if_pos h0, if_pos h4, hn, hc]
    by_cases c1 : rd [x.f0, x.f1, x.f2, x.f3] i = y
    · rw [if_pos c1, if_pos c1, if_pos (by omega), ih (pre ++ [x]) (u ++ [(pre.length : Int)]) k e2 (by simp; omega) (by omega)]
      simp
    · rw [if_neg c1, if_neg c1]
      exact ih (pre ++ [x]) u k e2 (by omega) (by omega)
theorem on_val {k : Nat} (p q i y : Int) (h0 : 0 ≤ i) (h4 : i < 4) (l : List S40) (hl : l.length ≤ 1048576) (hk : l.length + 1 ≤ k) : impl_Fixed_on.f k p q l i y = some (sel i y 0 l) := by
  unfold impl_Fixed_on.f
  have := on_l0 i y h0 h4 l hl l [] [] k rfl (by simp; omega) (by omega)
  simpa using this
theorem pan_same {k : Nat} (p q : Int) (l : List S40) (i : Int) (hp : wrap64 p = p) (hq : wrap64 q = q) (hl : l.length ≤ 1048576) (h : l.length + 20 ≤ k) :
    ∃ r, spec_PanOf.f k p q l i = some r ∧ impl_PanOf.f k p q l i = some r ∧ r.1.length ≤ 1048576 ∧ r.2.1.length ≤ 1048576 := by
  unfold spec_PanOf.f impl_PanOf.f
  rw [valid_spec p q l hp hq hl (by omega), valid_impl p q l hp hq hl (by omega), hp, in_val, within_val]
  simp only [Option.bind_some]
  cases hv : okF p q l with
  | false => exact ⟨([], [], 1), by simp, by simp, by simp, by simp⟩
  | true =>
    rw [if_pos rfl, if_pos rfl]
    by_cases hi : 0 ≤ i ∧ i ≤ wrap64 (p - 1)
    · have hp4 : 1 ≤ p ∧ p ≤ 4 := by simp [okF] at hv; omega
      have hw : wrap64 (p - 1) = p - 1 := by unfold wrap64; omega
      rw [if_pos (by simpa using hi), if_pos (by simpa using hi), on_val p q i (-1) hi.1 (by omega) l hl (by omega), on_val p q i 1 hi.1 (by omega) l hl (by omega)]
      have hs := pan_spec i hi.1 (by omega) p q l hl l [] [] [] k rfl (by simp; omega) (by simp; omega) (by omega)
      simp only [List.length_nil, Int.natCast_zero, List.nil_append] at hs
      rw [hs]
      exact ⟨_, rfl, rfl, Nat.le_trans (sel_len _ _ _ _) hl, Nat.le_trans (sel_len _ _ _ _) hl⟩
    · rw [if_neg (by simpa using hi), if_neg (by simpa using hi)]
      exact ⟨_, rfl, rfl, by simp, by simp⟩
theorem eqI_l0 (l : List Int) (hl : l.length ≤ 1048576) : ∀ (d k : Nat) (i : Int), 0 ≤ i → (l.length : Int) - i ≤ d → d < k → laws_eqInt64S.l0 k l l i = some true := by
  intro d
  induction d with
  | zero =>
    intro k i h0 hd hk
    obtain ⟨k, rfl⟩ := fuel (show 1 ≤ k by omega)
    simp only [laws_eqInt64S.l0]; rw [if_neg (by omega)]
  | succ d ih =>
    intro k i h0 hd hk
    obtain ⟨k, rfl⟩ := fuel (show 1 ≤ k by omega)
    simp only [laws_eqInt64S.l0]
    by_cases hi : i < (l.length : Int)
    · rw [if_pos hi, if_pos h0, if_pos hi, if_true, wi h0 (by omega)]
      exact ih k (i + 1) (by omega) (by omega) (by omega)
    · rw [if_neg hi]
theorem eqI_self {k : Nat} (l : List Int) (hl : l.length ≤ 1048576) (hk : l.length + 1 ≤ k) : laws_eqInt64S.f k l l = some true := by
  unfold laws_eqInt64S.f
  rw [if_pos rfl]
  exact eqI_l0 l hl l.length k 0 (by omega) (by omega) (by omega)
/-- Marks from k on. -/
def markedI : Int → List Int → List Int
  | _, [] => []
  | k, _ :: r => k :: markedI (k + 1) r
theorem markedI_len : ∀ (l : List Int) (k : Int), (markedI k l).length = l.length := by
  intro l
  induction l with
  | nil => intro k; rfl
  | cons x r ih => intro k; simp [markedI, ih]
theorem markI_l0 : ∀ (suf pre : List Int) (c : Int) (k : Nat), pre.length + suf.length ≤ 1048576 → 0 ≤ c → c + suf.length ≤ 9000000 → suf.length < k → laws_markInt64S.l0 k (pre ++ suf) c (pre.length : Int) = some (c + suf.length, pre ++ markedI c suf) := by
  intro suf
  induction suf with
  | nil =>
    intro pre c k hl h0 h1 hk
    obtain ⟨k, rfl⟩ := fuel (show 1 ≤ k by simp at hk; omega)
    simp only [laws_markInt64S.l0]; rw [if_neg (by simp)]
    simp [markedI]
  | cons x r ih =>
    intro pre c k hl h0 h1 hk
    simp only [List.length_cons] at hl h1 hk
    obtain ⟨k, rfl⟩ := fuel (show 1 ≤ k by omega)
    simp only [laws_markInt64S.l0]
    have hs : (pre ++ x :: r).set ((pre.length : Int)).toNat c = (pre ++ [c]) ++ r := by
      rw [List.set_append_right _ _ (by simp)]; simp
    have hn : wrap64 ((pre.length : Int) + 1) = ((pre ++ [c]).length : Int) := by rw [wi (by omega) (by omega)]; simp
    rw [if_pos (by simp; omega), if_pos (by omega), hs, hn, wi h0 (by omega), ih (pre ++ [c]) (c + 1) k (by simp; omega) (by omega) (by omega) (by omega)]
    simp [markedI]
    omega
theorem markI_val {k : Nat} (l : List Int) (c : Int) (hl : l.length ≤ 1048576) (h0 : 0 ≤ c) (h1 : c + l.length ≤ 9000000) (hk : l.length + 1 ≤ k) : laws_markInt64S.f k l c = some (c + l.length, markedI c l) := by
  have := markI_l0 l [] c k (by simpa using hl) h0 h1 (by omega)
  simpa [laws_markInt64S.f] using this
theorem heldI_l0 : ∀ (suf pre : List Int) (c : Int) (k : Nat), pre.length + suf.length ≤ 1048576 → 0 ≤ c → c + suf.length ≤ 9000000 → suf.length < k → laws_heldInt64S.l0 k (pre ++ markedI c suf) c (pre.length : Int) = some (c + suf.length) := by
  intro suf
  induction suf with
  | nil =>
    intro pre c k hl h0 h1 hk
    obtain ⟨k, rfl⟩ := fuel (show 1 ≤ k by simp at hk; omega)
    simp only [laws_heldInt64S.l0]; rw [if_neg (by simp [markedI])]
    simp
  | cons x r ih =>
    intro pre c k hl h0 h1 hk
    simp only [List.length_cons] at hl h1 hk
    obtain ⟨k, rfl⟩ := fuel (show 1 ≤ k by omega)
    have hr : rd (pre ++ c :: markedI (c + 1) r) (pre.length : Int) = c := by unfold rd; simp [List.getD]
    have hn : wrap64 ((pre.length : Int) + 1) = ((pre ++ [c]).length : Int) := by rw [wi (by omega) (by omega)]; simp
    have he : pre ++ c :: markedI (c + 1) r = (pre ++ [c]) ++ markedI (c + 1) r := by simp
    rw [show markedI c (x :: r) = c :: markedI (c + 1) r from rfl, laws_heldInt64S.l0, if_pos (by simp only [List.length_append, List.length_cons, markedI_len]; omega), if_pos (show (0 : Int) ≤ (pre.length : Int) by omega), if_pos hr, hn, wi h0 (by omega), he, ih (pre ++ [c]) (c + 1) k (by simp; omega) (by omega) (by omega) (by omega)]
    simp
    omega
theorem heldI_val {k : Nat} (l : List Int) (c : Int) (hl : l.length ≤ 1048576) (h0 : 0 ≤ c) (h1 : c + l.length ≤ 9000000) (hk : l.length + 1 ≤ k) : laws_heldInt64S.f k (markedI c l) c = some (c + l.length) := by
  have := heldI_l0 l [] c k (by simpa using hl) h0 h1 (by omega)
  simpa [laws_heldInt64S.f] using this
theorem FnExactPanOf (x0_0 : Int) (x0_1 : Int) (x0_2 : (List S37)) (x1_0 : Int) (w0_0 : (fun x : Int => (Lit.int .i8 x).wf = true) x0_0) (w0_1 : (fun x : Int => (Lit.int .i8 x).wf = true) x0_1) (w0_2 : (fun xs : List S37 => xs.length ≤ maxLen ∧ ∀ x ∈ xs, (fun x : S37 => (fun x : Int => (Lit.int .i8 x).wf = true) x.f0 ∧ (fun x : Int => (Lit.int .i8 x).wf = true) x.f1 ∧ (fun x : Int => (Lit.int .i8 x).wf = true) x.f2 ∧ (fun x : Int => (Lit.int .i8 x).wf = true) x.f3) x) x0_2) (w1_0 : (fun x : Int => (Lit.int .i64 x).wf = true) x1_0) : ∃ k, laws_FnExactPanOf.f k x0_0 x0_1 x0_2 x1_0 = some true := by
  have hz := szFixed_val x0_0 x0_1 x0_2 w0_2.1 1048576 (by omega) (by omega)
  by_cases hl : x0_2.length ≤ 1048576
  case neg =>
    refine ⟨0, ?_⟩
    unfold laws_FnExactPanOf.f
    rw [hz]
    simp only [Option.bind_some, if_true]
    rw [if_pos (show (1048576 : Int) - x0_2.length < 0 by omega), if_pos (by omega)]
  rw [if_neg (by omega)] at hz
  have hL : (x0_2.map cv).length ≤ 1048576 := by simpa using hl
  have hLe : (x0_2.map cv).length = x0_2.length := by simp
  generalize hm : x0_2.length = m at *
  have h0 : ∀ k, m + 20 ≤ k → laws_toFixed.f k x0_0 x0_1 x0_2 = some (x0_0, x0_1, x0_2.map cv) := fun k hk => toFixed_val x0_0 x0_1 x0_2 (by omega) (by omega)
  obtain ⟨K, hK⟩ : ∃ K, K = 7 * m + 7000000 := ⟨_, rfl⟩
  obtain ⟨⟨u, v, e⟩, hs, hi, hu, hv⟩ := pan_same (k := K + 3) x0_0 x0_1 (x0_2.map cv) x1_0 (wn8 w0_0) (wn8 w0_1) hL (by omega)
  obtain ⟨r1, hs1, hi1, _, _⟩ := pan_same (k := K + 1) x0_0 x0_1 (x0_2.map cv) x1_0 (wn8 w0_0) (wn8 w0_1) hL (by omega)
  have hr : r1 = (u, v, e) := by
    have := impl_PanOf.mono x0_0 x0_1 (x0_2.map cv) x1_0 (K + 1) _ hi1
    have t2 := impl_PanOf.mono x0_0 x0_1 (x0_2.map cv) x1_0 (K + 2) _ this
    rw [hi] at t2; injection t2 with t2; exact t2.symm
  subst hr
  simp only at hu hv
  refine ⟨K + 3, ?_⟩
  unfold laws_FnExactPanOf.f
  rw [hz]
  simp only [Option.bind_some, if_true]
  rw [if_neg (by omega), h0 _ (by omega)]
  simp only [Option.bind_some, if_true]
  rw [hs, hi]
  simp only [Option.bind_some, if_true]
  rw [eqI_self u hu (by omega)]
  simp only [Option.bind_some, if_true]
  rw [eqI_self v hv (by omega)]
  simp only [Option.bind_some, if_true]
  rw [bne_self_eq_false, show K + 3 = (K + 2) + 1 from rfl, laws_FnExactPanOf.j0, if_neg (by simp), h0 _ (by omega)]
  simp only [Option.bind_some, if_true]
  rw [eqFixed_self x0_0 x0_1 (x0_2.map cv) (by omega) (by omega)]
  simp only [Option.bind_some, if_true]
  rw [markF_val x0_0 x0_1 (x0_2.map cv) 1 (by omega) (by omega) (by omega) (by omega)]
  simp only [Option.bind_some, if_true]
  rw [if_neg (by omega), eqI_self u hu (by omega)]
  simp only [Option.bind_some, if_true]
  rw [eqI_self v hv (by omega)]
  simp only [Option.bind_some, if_true]
  rw [bne_self_eq_false, show K + 2 = (K + 1) + 1 from rfl, laws_FnExactPanOf.j1, if_neg (by simp), markI_val u 1 hu (by omega) (by omega) (by omega)]
  simp only [Option.bind_some, if_true]
  rw [markI_val v (1 + u.length) hv (by omega) (by omega) (by omega)]
  simp only [Option.bind_some, if_true]
  rw [heldI_val u 1 hu (by omega) (by omega) (by omega)]
  simp only [Option.bind_some, if_true]
  rw [if_neg (by omega), heldI_val v (1 + u.length) hv (by omega) (by omega) (by omega)]
  simp only [Option.bind_some, if_true]
  rw [if_neg (by omega), h0 _ (by omega)]
  simp only [Option.bind_some, if_true]
  rw [hi1]
  simp only [Option.bind_some, if_true]
  rw [eqI_self u hu (by omega)]
  simp only [Option.bind_some, if_true]
  rw [eqI_self v hv (by omega)]
  simp only [Option.bind_some, if_true]
  rw [bne_self_eq_false, laws_FnExactPanOf.j2, if_neg (by simp), heldI_val u 1 hu (by omega) (by omega) (by omega)]
  simp only [Option.bind_some, if_true]
  rw [if_neg (by omega), heldI_val v (1 + u.length) hv (by omega) (by omega) (by omega)]
  simp only [Option.bind_some, if_true]
  rw [if_neg (by omega)]

end Go.Proofs.Ytonifpgaagdohaa.Pure
