/- Arrays of whole numbers in memory, read and written at an index that is computed; compared; indexed as values. Whatever the program. -/
import Derived.Test.YtcghglembmohcaaWMore
import Derived.StillTailTactics
import Derived.WalkSpells
import Derived.Laws.PanicsMore
import Derived.Laws.StructEq
namespace Go.Proofs.YtcghglembmohcaaW.PrintMore
open Go.RowKit Go.Proofs.YtcghglembmohcaaW.PrintWords
set_option linter.unusedVariables false
set_option linter.unusedSimpArgs false

/-- What place n of an array holds when v was stored at place j. -/
def aup (j n v a : Int) : Int := if j = n then v else a
def ups (j v : Int) : Int → List Int → List Int
  | _, [] => []
  | n, a :: r => aup j n v a :: ups j v (n + 1) r
theorem ups_get (j v : Int) : ∀ (l : List Int) (n : Int) (i : Nat), (ups j v n l)[i]? = (l[i]?).map (aup j (n + i) v) := by
  intro l
  induction l with
  | nil => intro n i; simp [ups]
  | cons a r ih =>
    intro n i
    cases i with
    | zero => simp [ups]
    | succ i => simp only [ups, List.getElem?_cons_succ, ih]; rw [show n + 1 + (i : Int) = n + ((i + 1 : Nat) : Int) by omega]
theorem ups_set {k : IntKind} {l : List Int} {j v : Int} (h : 0 ≤ j) : ((l.map (Value.int k)).toArray).setIfInBounds j.toNat (.int k v) = ((ups j v 0 l).map (Value.int k)).toArray := by
  apply Array.ext'
  simp only [Array.toList_setIfInBounds]
  apply List.ext_getElem?
  intro i
  rw [List.getElem?_set]
  simp only [List.getElem?_map, ups_get, List.length_map, Option.map_map, Int.zero_add]
  by_cases hi : j.toNat = i
  · subst hi
    by_cases hl : j.toNat < l.length
    · rw [if_pos rfl, if_pos hl, List.getElem?_eq_getElem hl]
      simp only [Option.map_some, Function.comp_def, aup]
      rw [if_pos (by omega)]
    · rw [if_pos rfl, if_neg hl, List.getElem?_eq_none (by omega)]
      rfl
  · rw [if_neg hi]
    cases l[i]? with
    | none => rfl
    | some a =>
      simp only [Option.map_some, Function.comp_def, aup]
      rw [if_neg (by omega)]
theorem ard_cell {w : World} {g : Nat} {t : TypeId} {k : IntKind} {l : List Int} (h : w.heap[g]? = some (.cells (l.map (Value.int k)).toArray t (0, 0))) {j : Int} (h0 : 0 ≤ j) (h1 : j < l.length) :
    w.cell? ⟨g, j.toNat, none⟩ = some (.int k (rd l j)) := by
  rw [blk_cell h]
  have hl : j.toNat < l.length := by omega
  unfold rd
  simp [List.getD, hl]
theorem ard_index {P : Program} {t e : TypeId} {n : Nat} {k ki : IntKind} {l : List Int} {j : Int} (hu : P.underlying t = some (.array n e)) (hc : P.cellsOf e = 1) (hi : (P.info? e).isSome = true) (hd : ∃ q, P.underlying e = some (.int q)) (hn : l.length = n) (h0 : 0 ≤ j) (h1 : j < n) (W : World) :
    (Instr.index t (.agg (l.map (Value.int k)).toArray) (.int ki j)).run P W = .ok (.int k (rd l j)) W := by
  have hl : j.toNat < l.length := by omega
  obtain ⟨i, hi⟩ := Option.isSome_iff_exists.1 hi
  have hs : i.size = 1 := by simpa [Program.cellsOf, hi] using hc
  obtain ⟨q, hq⟩ := hd
  have hx : l[j.toNat]? = some (rd l j) := by
    unfold rd
    simp [List.getD, hl]
  simp [Instr.index, run_underlying hu, asIntOf, h0, h1, go_sem, sizeOf, typeInfo, hi, hs, part, hx, hq, isAgg, run_underlying hq]
def eqL : List Int → List Int → Bool
  | [x], [y] => x == y
  | x :: r, y :: s => x == y && eqL r s
  | _, _ => true
theorem eqL_cons (x y : Int) (r s : List Int) (h : r.length = s.length) : eqL (x :: r) (y :: s) = (x == y && eqL r s) := by
  cases r with
  | nil => cases s with
    | nil => simp [eqL]
    | cons b s => simp at h
  | cons a r => cases s with
    | nil => simp at h
    | cons b s => simp [eqL]
theorem arr_equal {P : Program} {t e : TypeId} {n : Nat} {k : IntKind} {xs ys : List Int} (hu : P.underlying t = some (.array n e)) (he : P.underlying e = some (.int k)) (hc : P.cellsOf e = 1) (hi : (P.info? e).isSome = true) (hx : xs.length = n) (hy : ys.length = n) (d : Nat) (w : World) :
    (Op.equalIn (d + 2) t (.agg (xs.map (Value.int k)).toArray) (.agg (ys.map (Value.int k)).toArray)).run P w = .ok (eqL xs ys) w := by
  obtain ⟨i, hi⟩ := Option.isSome_iff_exists.1 hi
  have hs : i.size = 1 := by simpa [Program.cellsOf, hi] using hc
  have hel : ∀ (a b : Int) (w : World), (Op.equalIn (d + 1) e (.int k a) (.int k b)).run P w = .ok (a == b) w := by
    intro a b w
    simp [Op.equalIn, Sem.run_bind, run_underlying he]
  have hsz : ∀ w, (Go.sizeOf e).run P w = .ok 1 w := fun w => by simp [Go.sizeOf, Go.typeInfo, hi, hs]
  have hpt : ∀ (l : List Int) (j : Nat) (x : Int) (w : World), l[j]? = some x → (part e (l.map (Value.int k)).toArray (j * 1)).run P w = .ok (.int k x) w := by
    intro l j x w hl
    simp [part, isAgg, Sem.run_bind, run_underlying he, hl]
  have key : ∀ (m s : Nat) (w : World), s + m = n → (forIn (List.range' s m) ((none, ()) : Option Bool × Unit) fun i _ => (do
      let a ← part e (xs.map (Value.int k)).toArray (i * 1)
      let b ← part e (ys.map (Value.int k)).toArray (i * 1)
      let c ← Op.equalIn (d + 1) e a b
      if (!c) = true then pure (ForInStep.done (some false, ())) else pure (ForInStep.yield (none, ())) : Sem (ForInStep (Option Bool × Unit)))).run P w = .ok (if eqL (xs.drop s) (ys.drop s) then (none, ()) else (some false, ())) w := by
    intro m
    induction m with
    | zero =>
      intro s w hs
      rw [List.drop_eq_nil_of_le (by omega), List.drop_eq_nil_of_le (by omega)]
      simp [eqL]
    | succ m ih =>
      intro s w hs
      have hsx : s < xs.length := by omega
      have hsy : s < ys.length := by omega
      rw [List.drop_eq_getElem_cons hsx, List.drop_eq_getElem_cons hsy, eqL_cons _ _ _ _ (by simp; omega)]
      rw [show m + 1 = Nat.succ m from rfl, List.range'_succ, List.forIn_cons]
      simp only [Sem.run_bind, hpt xs s _ _ (List.getElem?_eq_getElem hsx), hpt ys s _ _ (List.getElem?_eq_getElem hsy), Result.andThen_ok, hel]
      cases hb : (xs[s] == ys[s]) with
      | false => simp
      | true =>
        simp only [Bool.not_true, Bool.false_eq_true, if_false, Sem.run_pure, Result.andThen_ok, Bool.true_and]
        exact ih (s + 1) w (by omega)
  rw [Op.equalIn]
  simp only [Sem.run_bind, run_underlying hu, Result.andThen_ok, hsz]
  rw [Std.Legacy.Range.forIn_eq_forIn_range']
  have h0 := key n 0 w (by omega)
  simp only [Std.Legacy.Range.size, Nat.sub_zero, Nat.add_sub_cancel, Nat.div_one]
  rw [h0]
  simp only [List.drop_zero, Result.andThen_ok]
  cases eqL xs ys <;> simp
section
variable {P : Program} {ops : Array Oper} {rest : List Oper} {o : Oper} {a : Act} {Q : Exit → Act → World → Prop}
end
section
open Go.Proofs.YtcghglembmohcaaW.PrintLast
variable {P : Program} {ops : Array Oper} {Q : Exit → Act → World → Prop}
theorem tail_shown {rest l : List Oper} {a : Act} {w : World} (h : wpStill P ops w.drew (fun a' => wpList P ops Q rest a' w.drew) l a) : wpStill P ops { w with drawn := w.drawn + 1 } (fun a' => wpList P ops Q rest a' { w with drawn := w.drawn + 1 }) l a := h
theorem still_shown {l : List Oper} {a : Act} {w : World} {Q : Exit → Act → World → Prop} (h : wpStill P ops w.drew (fun a' => Q .normal a' w.drew) l a) : wpStill P ops { w with drawn := w.drawn + 1 } (fun a' => Q .normal a' { w with drawn := w.drawn + 1 }) l a := h
end
open Go.Proofs.YtcghglembmohcaaW.PrintLast
/-- What the context decides. -/
theorem asm_ {p : Prop} [Decidable p] (h : decide p = true := by first | (with_reducible assumption) | assumption) : p := of_decide_eq_true h
/-- Facts at the world that stands, some plain steps behind. -/
theorem pl_ {P Q : Prop} (h : Aside0 P) (k : P → Q := by intro h_; (with_reducible repeat (first | refine blk_drewN ?_ _ | refine blk_drew ?_ | refine blk_alloc ?_ _)); exact h_) : Q := k h.out
theorem pr_ {P Q : Prop} (h : Aside0 P) (k : P → Q := by intro h_; (with_reducible repeat (first | apply Kd.R_alloc | apply Kd.R_drewN | apply Kd.R_drew)); exact h_) : Q := k h.out
theorem bl_ {P Q : Prop} (h : Aside0 P) (k : P → Q := by intro h_; repeat (first | (with_reducible first | exact h_ | apply below_alloc | apply pw_below_drewN | apply below_drew1) | exact h_)) : Q := k h.out
theorem pf_ {P N Q : Prop} (h : Aside0 P) (n : Aside0 N) (k : P → N → Q := by intro h_ n_; (with_reducible repeat (first | refine blk_drewN ?_ _ | refine blk_drew ?_ | refine blk_alloc ?_ _ | refine blk_far ?_ n_ _)); exact h_) : Q := k h.out n.out
theorem bs_ {P N Q : Prop} (h : Aside0 P) (n : Aside0 N) (k : P → N → Q := by intro h_ n_; repeat (first | (with_reducible first | exact h_ | apply below_alloc | apply pw_below_drewN | apply below_drew1 | refine below_set ?_ n_) | exact h_)) : Q := k h.out n.out
section
variable {α : Type} {d : Kd α} {e : Nat} {w : World} {base : Nat} {ok : Nat → Prop} {v : Value} {xs : List α} {g t : Nat} {cells : Array Value}
theorem rf2_ (h : Aside0 (d.R e w base ok v xs)) (b : Aside0 (w.heap[g]? = some (.cells cells t (0, 0)))) (ht : ∀ q, q ∈ e :: d.E → q ≠ t) {i0 i1 : Nat} {x0 x1 : Value} : d.R e ((w.setCell ⟨g, i0, none⟩ x0).setCell ⟨g, i1, none⟩ x1) base ok v xs := Kd.R_mono (Kd.R_far (p := ⟨g, i1, none⟩) (Kd.R_far (p := ⟨g, i0, none⟩) (Kd.R_types h.out b.out ht) (fun _ hk => hk.2) _) (fun _ hk => hk.2) _) (fun _ h_ => h_.1)
end
theorem A_ {p : Prop} (h : p) : Aside0 p := ⟨h⟩
theorem arg_ {α : Type} {a b : α} (h : a = b := by (try simp only [List.map_toArray, List.map_cons, List.map_nil]); first | done | rfl | (simp only [List.length_drop, List.length_take]; rfl)) : a = b := h
theorem rs_ {α : Type} {a b : α} (h : a = b := by first | rfl | (simp; done) | (simp [*]; done)) : a = b := h
theorem pa_ {α : Type} {a b : α} (h : a = b := by simp only [putAll, Act.put, List.setIfInBounds_toArray, List.set_cons_zero, List.set_cons_succ]) : a = b := h
theorem cl2_ {w : World} {g t : Nat} {a0 a1 : Value} (h : Aside0 (w.heap[g]? = some (.cells #[a0, a1] t (0, 0)))) : w.cell? ⟨g, 0, none⟩ = some a0 ∧ w.cell? ⟨g, 1, none⟩ = some a1 ∧ w.frozen? ⟨g, 0, none⟩ = false ∧ w.frozen? ⟨g, 1, none⟩ = false := ⟨(blk_cell h.out 0).trans rfl, (blk_cell h.out 1).trans rfl, blk_frozen h.out 0, blk_frozen h.out 1⟩
theorem cl3_ {w : World} {g t : Nat} {a0 a1 a2 : Value} (h : Aside0 (w.heap[g]? = some (.cells #[a0, a1, a2] t (0, 0)))) : w.cell? ⟨g, 0, none⟩ = some a0 ∧ w.cell? ⟨g, 1, none⟩ = some a1 ∧ w.cell? ⟨g, 2, none⟩ = some a2 ∧ w.frozen? ⟨g, 0, none⟩ = false ∧ w.frozen? ⟨g, 1, none⟩ = false ∧ w.frozen? ⟨g, 2, none⟩ = false := ⟨(blk_cell h.out 0).trans rfl, (blk_cell h.out 1).trans rfl, (blk_cell h.out 2).trans rfl, blk_frozen h.out 0, blk_frozen h.out 1, blk_frozen h.out 2⟩
theorem cl4_ {w : World} {g t : Nat} {a0 a1 a2 a3 : Value} (h : Aside0 (w.heap[g]? = some (.cells #[a0, a1, a2, a3] t (0, 0)))) : w.cell? ⟨g, 0, none⟩ = some a0 ∧ w.cell? ⟨g, 1, none⟩ = some a1 ∧ w.cell? ⟨g, 2, none⟩ = some a2 ∧ w.cell? ⟨g, 3, none⟩ = some a3 ∧ w.frozen? ⟨g, 0, none⟩ = false ∧ w.frozen? ⟨g, 1, none⟩ = false ∧ w.frozen? ⟨g, 2, none⟩ = false ∧ w.frozen? ⟨g, 3, none⟩ = false := ⟨(blk_cell h.out 0).trans rfl, (blk_cell h.out 1).trans rfl, (blk_cell h.out 2).trans rfl, (blk_cell h.out 3).trans rfl, blk_frozen h.out 0, blk_frozen h.out 1, blk_frozen h.out 2, blk_frozen h.out 3⟩
theorem cl14_ {w : World} {g t : Nat} {a0 a1 a2 a3 a4 a5 a6 a7 a8 a9 a10 a11 a12 a13 : Value} (h : Aside0 (w.heap[g]? = some (.cells #[a0, a1, a2, a3, a4, a5, a6, a7, a8, a9, a10, a11, a12, a13] t (0, 0)))) : w.cell? ⟨g, 0, none⟩ = some a0 ∧ w.cell? ⟨g, 1, none⟩ = some a1 ∧ w.cell? ⟨g, 2, none⟩ = some a2 ∧ w.cell? ⟨g, 3, none⟩ = some a3 ∧ w.cell? ⟨g, 4, none⟩ = some a4 ∧ w.cell? ⟨g, 5, none⟩ = some a5 ∧ w.cell? ⟨g, 6, none⟩ = some a6 ∧ w.cell? ⟨g, 7, none⟩ = some a7 ∧ w.cell? ⟨g, 8, none⟩ = some a8 ∧ w.cell? ⟨g, 9, none⟩ = some a9 ∧ w.cell? ⟨g, 10, none⟩ = some a10 ∧ w.cell? ⟨g, 11, none⟩ = some a11 ∧ w.cell? ⟨g, 12, none⟩ = some a12 ∧ w.cell? ⟨g, 13, none⟩ = some a13 ∧ w.frozen? ⟨g, 0, none⟩ = false ∧ w.frozen? ⟨g, 1, none⟩ = false ∧ w.frozen? ⟨g, 2, none⟩ = false ∧ w.frozen? ⟨g, 3, none⟩ = false ∧ w.frozen? ⟨g, 4, none⟩ = false ∧ w.frozen? ⟨g, 5, none⟩ = false ∧ w.frozen? ⟨g, 6, none⟩ = false ∧ w.frozen? ⟨g, 7, none⟩ = false ∧ w.frozen? ⟨g, 8, none⟩ = false ∧ w.frozen? ⟨g, 9, none⟩ = false ∧ w.frozen? ⟨g, 10, none⟩ = false ∧ w.frozen? ⟨g, 11, none⟩ = false ∧ w.frozen? ⟨g, 12, none⟩ = false ∧ w.frozen? ⟨g, 13, none⟩ = false := ⟨(blk_cell h.out 0).trans rfl, (blk_cell h.out 1).trans rfl, (blk_cell h.out 2).trans rfl, (blk_cell h.out 3).trans rfl, (blk_cell h.out 4).trans rfl, (blk_cell h.out 5).trans rfl, (blk_cell h.out 6).trans rfl, (blk_cell h.out 7).trans rfl, (blk_cell h.out 8).trans rfl, (blk_cell h.out 9).trans rfl, (blk_cell h.out 10).trans rfl, (blk_cell h.out 11).trans rfl, (blk_cell h.out 12).trans rfl, (blk_cell h.out 13).trans rfl, blk_frozen h.out 0, blk_frozen h.out 1, blk_frozen h.out 2, blk_frozen h.out 3, blk_frozen h.out 4, blk_frozen h.out 5, blk_frozen h.out 6, blk_frozen h.out 7, blk_frozen h.out 8, blk_frozen h.out 9, blk_frozen h.out 10, blk_frozen h.out 11, blk_frozen h.out 12, blk_frozen h.out 13⟩
theorem cl20_ {w : World} {g t : Nat} {a0 a1 a2 a3 a4 a5 a6 a7 a8 a9 a10 a11 a12 a13 a14 a15 a16 a17 a18 a19 : Value} (h : Aside0 (w.heap[g]? = some (.cells #[a0, a1, a2, a3, a4, a5, a6, a7, a8, a9, a10, a11, a12, a13, a14, a15, a16, a17, a18, a19] t (0, 0)))) : w.cell? ⟨g, 0, none⟩ = some a0 ∧ w.cell? ⟨g, 1, none⟩ = some a1 ∧ w.cell? ⟨g, 2, none⟩ = some a2 ∧ w.cell? ⟨g, 3, none⟩ = some a3 ∧ w.cell? ⟨g, 4, none⟩ = some a4 ∧ w.cell? ⟨g, 5, none⟩ = some a5 ∧ w.cell? ⟨g, 6, none⟩ = some a6 ∧ w.cell? ⟨g, 7, none⟩ = some a7 ∧ w.cell? ⟨g, 8, none⟩ = some a8 ∧ w.cell? ⟨g, 9, none⟩ = some a9 ∧ w.cell? ⟨g, 10, none⟩ = some a10 ∧ w.cell? ⟨g, 11, none⟩ = some a11 ∧ w.cell? ⟨g, 12, none⟩ = some a12 ∧ w.cell? ⟨g, 13, none⟩ = some a13 ∧ w.cell? ⟨g, 14, none⟩ = some a14 ∧ w.cell? ⟨g, 15, none⟩ = some a15 ∧ w.cell? ⟨g, 16, none⟩ = some a16 ∧ w.cell? ⟨g, 17, none⟩ = some a17 ∧ w.cell? ⟨g, 18, none⟩ = some a18 ∧ w.cell? ⟨g, 19, none⟩ = some a19 ∧ w.frozen? ⟨g, 0, none⟩ = false ∧ w.frozen? ⟨g, 1, none⟩ = false ∧ w.frozen? ⟨g, 2, none⟩ = false ∧ w.frozen? ⟨g, 3, none⟩ = false ∧ w.frozen? ⟨g, 4, none⟩ = false ∧ w.frozen? ⟨g, 5, none⟩ = false ∧ w.frozen? ⟨g, 6, none⟩ = false ∧ w.frozen? ⟨g, 7, none⟩ = false ∧ w.frozen? ⟨g, 8, none⟩ = false ∧ w.frozen? ⟨g, 9, none⟩ = false ∧ w.frozen? ⟨g, 10, none⟩ = false ∧ w.frozen? ⟨g, 11, none⟩ = false ∧ w.frozen? ⟨g, 12, none⟩ = false ∧ w.frozen? ⟨g, 13, none⟩ = false ∧ w.frozen? ⟨g, 14, none⟩ = false ∧ w.frozen? ⟨g, 15, none⟩ = false ∧ w.frozen? ⟨g, 16, none⟩ = false ∧ w.frozen? ⟨g, 17, none⟩ = false ∧ w.frozen? ⟨g, 18, none⟩ = false ∧ w.frozen? ⟨g, 19, none⟩ = false := ⟨(blk_cell h.out 0).trans rfl, (blk_cell h.out 1).trans rfl, (blk_cell h.out 2).trans rfl, (blk_cell h.out 3).trans rfl, (blk_cell h.out 4).trans rfl, (blk_cell h.out 5).trans rfl, (blk_cell h.out 6).trans rfl, (blk_cell h.out 7).trans rfl, (blk_cell h.out 8).trans rfl, (blk_cell h.out 9).trans rfl, (blk_cell h.out 10).trans rfl, (blk_cell h.out 11).trans rfl, (blk_cell h.out 12).trans rfl, (blk_cell h.out 13).trans rfl, (blk_cell h.out 14).trans rfl, (blk_cell h.out 15).trans rfl, (blk_cell h.out 16).trans rfl, (blk_cell h.out 17).trans rfl, (blk_cell h.out 18).trans rfl, (blk_cell h.out 19).trans rfl, blk_frozen h.out 0, blk_frozen h.out 1, blk_frozen h.out 2, blk_frozen h.out 3, blk_frozen h.out 4, blk_frozen h.out 5, blk_frozen h.out 6, blk_frozen h.out 7, blk_frozen h.out 8, blk_frozen h.out 9, blk_frozen h.out 10, blk_frozen h.out 11, blk_frozen h.out 12, blk_frozen h.out 13, blk_frozen h.out 14, blk_frozen h.out 15, blk_frozen h.out 16, blk_frozen h.out 17, blk_frozen h.out 18, blk_frozen h.out 19⟩
theorem sp_ : (∀ (l : List Value) (i : Nat) (a : Value), l.toArray.setIfInBounds i a = (l.set i a).toArray) ∧ (∀ (a b : Value) (l : List Value), (a :: l).set 0 b = b :: l) ∧ (∀ (a b : Value) (l : List Value) (n : Nat), (a :: l).set (n + 1) b = a :: l.set n b) ∧ (∀ n : Int, IntKind.i64.wrap n = Go.RowKit.wrap64 n) ∧ (∀ n : Int, IntKind.i32.wrap n = Go.RowKit.wrap32 n) :=
  ⟨fun _ _ _ => by simp, fun _ _ _ => rfl, fun _ _ _ _ => rfl, i64_w, i32_w⟩
end Go.Proofs.YtcghglembmohcaaW.PrintMore
