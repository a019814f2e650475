/- Arrays of whole numbers in memory, read and written at an index that is computed; compared; indexed as values. Whatever the program. -/
import Derived.Test.YtkieplebdbdigaaWMore
import Derived.StillTailTactics
import Derived.WalkSpells
import Derived.Laws.PanicsMore
import Derived.Laws.StructEq
namespace Go.Proofs.YtkieplebdbdigaaW.PrintMore
open Go.RowKit Go.Proofs.YtkieplebdbdigaaW.PrintWords
set_option linter.unusedVariables false
set_option linter.unusedSimpArgs false

/-- What place n of an array holds when v was stored at place j. -/
def aup (j n v a : Int) : Int := if j = n then v else a
def ups (j v : Int) : Int → List Int → List Int
  | _, [] => []
  | n, a :: r => aup j n v a :: ups j v (n + 1) r
theorem ups_get (j v : Int) : ∀ (l : List Int) (n : Int) (i : Nat), (ups j v n l)[i]? = (l[i]?).map (aup j (n + i) v) := by
  intro l
  induction l with
  | nil => intro n i; simp [ups]
  | cons a r ih =>
    intro n i
    cases i with
    | zero => simp [ups]
    | succ i => simp only [ups, List.getElem?_cons_succ, ih]; rw [show n + 1 + (i : Int) = n + ((i + 1 : Nat) : Int) by omega]
theorem ups_set {k : IntKind} {l : List Int} {j v : Int} (h : 0 ≤ j) : ((l.map (Value.int k)).toArray).setIfInBounds j.toNat (.int k v) = ((ups j v 0 l).map (Value.int k)).toArray := by
  apply Array.ext'
  simp only [Array.toList_setIfInBounds]
  apply List.ext_getElem?
  intro i
  rw [List.getElem?_set]
  simp only [List.getElem?_map, ups_get, List.length_map, Option.map_map, Int.zero_add]
  by_cases hi : j.toNat = i
  · subst hi
    by_cases hl : j.toNat < l.length
    · rw [if_pos rfl, if_pos hl, List.getElem?_eq_getElem hl]
      simp only [Option.map_some, Function.comp_def, aup]
      rw [if_pos (by omega)]
    · rw [if_pos rfl, if_neg hl, List.getElem?_eq_none (by omega)]
      rfl
  · rw [if_neg hi]
    cases l[i]? with
    | none => rfl
    | some a =>
      simp only [Option.map_some, Function.comp_def, aup]
      rw [if_neg (by omega)]
theorem ard_cell {w : World} {g : Nat} {t : TypeId} {k : IntKind} {l : List Int} (h : w.heap[g]? = some (.cells (l.map (Value.int k)).toArray t (0, 0))) {j : Int} (h0 : 0 ≤ j) (h1 : j < l.length) :
    w.cell? ⟨g, j.toNat, none⟩ = some (.int k (rd l j)) := by
  rw [blk_cell h]
  have hl : j.toNat < l.length := by omega
  unfold rd
  simp [List.getD, hl]
/-- The same cells, one by one. -/
theorem ard_at {w : World} {a : Addr} {k : IntKind} {l : List Int} (h : ∀ (n : Nat) (x : Int), l[n]? = some x → w.cell? (a.add n) = some (.int k x)) {j : Int} (h0 : 0 ≤ j) (h1 : j < l.length) :
    w.cell? (a.add j.toNat) = some (.int k (rd l j)) := by
  have hl : j.toNat < l.length := by omega
  have := h j.toNat l[j.toNat] (List.getElem?_eq_getElem hl)
  rw [this]
  unfold rd
  simp [List.getD, hl]
theorem ard_index {P : Program} {t e : TypeId} {n : Nat} {k ki : IntKind} {l : List Int} {j : Int} (hu : P.underlying t = some (.array n e)) (hc : P.cellsOf e = 1) (hi : (P.info? e).isSome = true) (hd : ∃ q, P.underlying e = some (.int q)) (hn : l.length = n) (h0 : 0 ≤ j) (h1 : j < n) (W : World) :
    (Instr.index t (.agg (l.map (Value.int k)).toArray) (.int ki j)).run P W = .ok (.int k (rd l j)) W := by
  have hl : j.toNat < l.length := by omega
  obtain ⟨i, hi⟩ := Option.isSome_iff_exists.1 hi
  have hs : i.size = 1 := by simpa [Program.cellsOf, hi] using hc
  obtain ⟨q, hq⟩ := hd
  have hx : l[j.toNat]? = some (rd l j) := by
    unfold rd
    simp [List.getD, hl]
  simp [Instr.index, run_underlying hu, asIntOf, h0, h1, go_sem, sizeOf, typeInfo, hi, hs, part, hx, hq, isAgg, run_underlying hq]
section
variable {P : Program} {ops : Array Oper} {rest : List Oper} {o : Oper} {a : Act} {Q : Exit → Act → World → Prop}
end
section
open Go.Proofs.YtkieplebdbdigaaW.PrintLast
variable {P : Program} {ops : Array Oper} {Q : Exit → Act → World → Prop}
end
open Go.Proofs.YtkieplebdbdigaaW.PrintLast
/-- What the context decides. -/
theorem asm_ {p : Prop} [Decidable p] (h : decide p = true := by first | (with_reducible assumption) | assumption) : p := of_decide_eq_true h
/-- Facts at the world that stands, some plain steps behind. -/
theorem pl_ {P Q : Prop} (h : Aside0 P) (k : P → Q := by intro h_; (with_reducible repeat (first | refine blk_drewN ?_ _ | refine blk_drew ?_ | refine blk_alloc ?_ _)); exact h_) : Q := k h.out
theorem pr_ {P Q : Prop} (h : Aside0 P) (k : P → Q := by intro h_; (with_reducible repeat (first | apply Kd.R_alloc | apply Kd.R_drewN | apply Kd.R_drew)); exact h_) : Q := k h.out
theorem bl_ {P Q : Prop} (h : Aside0 P) (k : P → Q := by intro h_; repeat (first | (with_reducible first | exact h_ | apply below_alloc | apply pw_below_drewN | apply below_drew1) | exact h_)) : Q := k h.out
theorem pf_ {P N Q : Prop} (h : Aside0 P) (n : Aside0 N) (k : P → N → Q := by intro h_ n_; (with_reducible repeat (first | refine blk_drewN ?_ _ | refine blk_drew ?_ | refine blk_alloc ?_ _ | refine blk_far ?_ n_ _)); exact h_) : Q := k h.out n.out
theorem bs_ {P N Q : Prop} (h : Aside0 P) (n : Aside0 N) (k : P → N → Q := by intro h_ n_; repeat (first | (with_reducible first | exact h_ | apply below_alloc | apply pw_below_drewN | apply below_drew1 | refine below_set ?_ n_) | exact h_)) : Q := k h.out n.out
section
variable {α : Type} {d : Kd α} {e : Nat} {w : World} {base : Nat} {ok : Nat → Prop} {v : Value} {xs : List α} {g t : Nat} {cells : Array Value}
theorem rf3_ (h : Aside0 (d.R e w base ok v xs)) (b : Aside0 (w.heap[g]? = some (.cells cells t (0, 0)))) (ht : ∀ q, q ∈ e :: d.E → q ≠ t) {i0 i1 i2 : Nat} {x0 x1 x2 : Value} : d.R e (((w.setCell ⟨g, i0, none⟩ x0).setCell ⟨g, i1, none⟩ x1).setCell ⟨g, i2, none⟩ x2) base ok v xs := Kd.R_mono (Kd.R_far (p := ⟨g, i2, none⟩) (Kd.R_far (p := ⟨g, i1, none⟩) (Kd.R_far (p := ⟨g, i0, none⟩) (Kd.R_types h.out b.out ht) (fun _ hk => hk.2) _) (fun _ hk => hk.2) _) (fun _ hk => hk.2) _) (fun _ h_ => h_.1)
end
theorem A_ {p : Prop} (h : p) : Aside0 p := ⟨h⟩
theorem arg_ {α : Type} {a b : α} (h : a = b := by (try simp only [List.map_toArray, List.map_cons, List.map_nil]); first | done | rfl | (simp only [List.length_drop, List.length_take]; rfl)) : a = b := h
theorem rs_ {α : Type} {a b : α} (h : a = b := by first | rfl | (simp; done) | (simp [*]; done)) : a = b := h
theorem pa_ {α : Type} {a b : α} (h : a = b := by simp only [putAll, Act.put, List.setIfInBounds_toArray, List.set_cons_zero, List.set_cons_succ]) : a = b := h
theorem cf3_ {W : World} {g g' i : Nat} {a b c : Nat} {x y z v : Value} (h : Aside0 (g ≠ g')) (hc : W.cell? ⟨g, i, none⟩ = some v) : (((W.setCell ⟨g', a, none⟩ x).setCell ⟨g', b, none⟩ y).setCell ⟨g', c, none⟩ z).cell? ⟨g, i, none⟩ = some v :=
  (cell_far (p := ⟨g', c, none⟩) h.out z).trans ((cell_far (p := ⟨g', b, none⟩) h.out y).trans ((cell_far (p := ⟨g', a, none⟩) h.out x).trans hc))
/-- The cells of a variable, all at once. -/
theorem cl1_ {w : World} {g t : Nat} {a0 : Value} (h : Aside0 (w.heap[g]? = some (.cells #[a0] t (0, 0)))) : w.cell? ⟨g, 0, none⟩ = some a0 ∧ w.frozen? ⟨g, 0, none⟩ = false := ⟨(blk_cell h.out 0).trans rfl, blk_frozen h.out 0⟩
theorem cl3_ {w : World} {g t : Nat} {a0 a1 a2 : Value} (h : Aside0 (w.heap[g]? = some (.cells #[a0, a1, a2] t (0, 0)))) : w.cell? ⟨g, 0, none⟩ = some a0 ∧ w.cell? ⟨g, 1, none⟩ = some a1 ∧ w.cell? ⟨g, 2, none⟩ = some a2 ∧ w.frozen? ⟨g, 0, none⟩ = false ∧ w.frozen? ⟨g, 1, none⟩ = false ∧ w.frozen? ⟨g, 2, none⟩ = false := ⟨(blk_cell h.out 0).trans rfl, (blk_cell h.out 1).trans rfl, (blk_cell h.out 2).trans rfl, blk_frozen h.out 0, blk_frozen h.out 1, blk_frozen h.out 2⟩
theorem cl4_ {w : World} {g t : Nat} {a0 a1 a2 a3 : Value} (h : Aside0 (w.heap[g]? = some (.cells #[a0, a1, a2, a3] t (0, 0)))) : w.cell? ⟨g, 0, none⟩ = some a0 ∧ w.cell? ⟨g, 1, none⟩ = some a1 ∧ w.cell? ⟨g, 2, none⟩ = some a2 ∧ w.cell? ⟨g, 3, none⟩ = some a3 ∧ w.frozen? ⟨g, 0, none⟩ = false ∧ w.frozen? ⟨g, 1, none⟩ = false ∧ w.frozen? ⟨g, 2, none⟩ = false ∧ w.frozen? ⟨g, 3, none⟩ = false := ⟨(blk_cell h.out 0).trans rfl, (blk_cell h.out 1).trans rfl, (blk_cell h.out 2).trans rfl, (blk_cell h.out 3).trans rfl, blk_frozen h.out 0, blk_frozen h.out 1, blk_frozen h.out 2, blk_frozen h.out 3⟩
theorem sp_ : (∀ (l : List Value) (i : Nat) (a : Value), l.toArray.setIfInBounds i a = (l.set i a).toArray) ∧ (∀ (a b : Value) (l : List Value), (a :: l).set 0 b = b :: l) ∧ (∀ (a b : Value) (l : List Value) (n : Nat), (a :: l).set (n + 1) b = a :: l.set n b) ∧ (∀ n : Int, IntKind.i64.wrap n = Go.RowKit.wrap64 n) ∧ (∀ n : Int, IntKind.i32.wrap n = Go.RowKit.wrap32 n) :=
  ⟨fun _ _ _ => by simp, fun _ _ _ => rfl, fun _ _ _ _ => rfl, i64_w, i32_w⟩
end Go.Proofs.YtkieplebdbdigaaW.PrintMore
