/- Arrays of whole numbers in memory, read and written at an index that is computed; compared; indexed as values. Whatever the program. -/
import Derived.Test.YtcghglembmohcaaWMore
import Derived.StillTailTactics
import Derived.WalkSpells
import Derived.Laws.PanicsMore
import Derived.Laws.StructEq
namespace Go.Proofs.YtcghglembmohcaaW.PrintMore
open Go.RowKit Go.Proofs.YtcghglembmohcaaW.PrintWords
set_option linter.unusedVariables false
set_option linter.unusedSimpArgs false

/-- What place n of an array holds when v was stored at place j. -/
def aup (j n v a : Int) : Int := if j = n then v else a
def ups (j v : Int) : Int → List Int → List Int
  | _, [] => []
  | n, a :: r => aup j n v a :: ups j v (n + 1) r
theorem ups_get (j v : Int) : ∀ (l : List Int) (n : Int) (i : Nat), (ups j v n l)[i]? = (l[i]?).map (aup j (n + i) v) := by
  intro l
  induction l with
  | nil => intro n i; simp [ups]
  | cons a r ih =>
    intro n i
    cases i with
    | zero => simp [ups]
    | succ i => simp only [ups, List.getElem?_cons_succ, ih]; rw [show n + 1 + (i : Int) = n + ((i + 1 : Nat) : Int) by omega]
theorem ups_set {k : IntKind} {l : List Int} {j v : Int} (h : 0 ≤ j) : ((l.map (Value.int k)).toArray).setIfInBounds j.toNat (.int k v) = ((ups j v 0 l).map (Value.int k)).toArray := by
  apply Array.ext'
  simp only [Array.toList_setIfInBounds]
  apply List.ext_getElem?
  intro i
  rw [List.getElem?_set]
  simp only [List.getElem?_map, ups_get, List.length_map, Option.map_map, Int.zero_add]
  by_cases hi : j.toNat = i
  · subst hi
    by_cases hl : j.toNat < l.length
    · rw [if_pos rfl, if_pos hl, List.getElem?_eq_getElem hl]
      simp only [Option.map_some, Function.comp_def, aup]
      rw [if_pos (by omega)]
    · rw [if_pos rfl, if_neg hl, List.getElem?_eq_none (by omega)]
      rfl
  · rw [if_neg hi]
    cases l[i]? with
    | none => rfl
    | some a =>
      simp only [Option.map_some, Function.comp_def, aup]
      rw [if_neg (by omega)]
theorem ard_cell {w : World} {g : Nat} {t : TypeId} {k : IntKind} {l : List Int} (h : w.heap[g]? = some (.cells (l.map (Value.int k)).toArray t (0, 0))) {j : Int} (h0 : 0 ≤ j) (h1 : j < l.length) :
    w.cell? ⟨g, j.toNat, none⟩ = some (.int k (rd l j)) := by
  rw [blk_cell h]
  have hl : j.toNat < l.length := by omega
  unfold rd
  simp [List.getD, hl]
theorem ard_index {P : Program} {t e : TypeId} {n : Nat} {k ki : IntKind} {l : List Int} {j : Int} (hu : P.underlying t = some (.array n e)) (hc : P.cellsOf e = 1) (hi : (P.info? e).isSome = true) (hd : ∃ q, P.underlying e = some (.int q)) (hn : l.length = n) (h0 : 0 ≤ j) (h1 : j < n) (W : World) :
    (Instr.index t (.agg (l.map (Value.int k)).toArray) (.int ki j)).run P W = .ok (.int k (rd l j)) W := by
  have hl : j.toNat < l.length := by omega
  obtain ⟨i, hi⟩ := Option.isSome_iff_exists.1 hi
  have hs : i.size = 1 := by simpa [Program.cellsOf, hi] using hc
  obtain ⟨q, hq⟩ := hd
  have hx : l[j.toNat]? = some (rd l j) := by
    unfold rd
    simp [List.getD, hl]
  simp [Instr.index, run_underlying hu, asIntOf, h0, h1, go_sem, sizeOf, typeInfo, hi, hs, part, hx, hq, isAgg, run_underlying hq]
section
variable {P : Program} {ops : Array Oper} {rest : List Oper} {o : Oper} {a : Act} {Q : Exit → Act → World → Prop}
end
section
open Go.Proofs.YtcghglembmohcaaW.PrintLast
variable {P : Program} {ops : Array Oper} {Q : Exit → Act → World → Prop}
end
open Go.Proofs.YtcghglembmohcaaW.PrintLast
/-- What the context decides. -/
theorem asm_ {p : Prop} [Decidable p] (h : decide p = true := by first | (with_reducible assumption) | assumption) : p := of_decide_eq_true h
/-- Facts at the world that stands, some plain steps behind. -/
theorem pl_ {P Q : Prop} (h : Aside0 P) (k : P → Q := by intro h_; (with_reducible repeat (first | refine blk_drewN ?_ _ | refine blk_drew ?_ | refine blk_alloc ?_ _)); exact h_) : Q := k h.out
theorem pr_ {P Q : Prop} (h : Aside0 P) (k : P → Q := by intro h_; (with_reducible repeat (first | apply Kd.R_alloc | apply Kd.R_drewN | apply Kd.R_drew)); exact h_) : Q := k h.out
theorem bl_ {P Q : Prop} (h : Aside0 P) (k : P → Q := by intro h_; repeat (first | (with_reducible first | exact h_ | apply below_alloc | apply pw_below_drewN | apply below_drew1) | exact h_)) : Q := k h.out
theorem pf_ {P N Q : Prop} (h : Aside0 P) (n : Aside0 N) (k : P → N → Q := by intro h_ n_; (with_reducible repeat (first | refine blk_drewN ?_ _ | refine blk_drew ?_ | refine blk_alloc ?_ _ | refine blk_far ?_ n_ _)); exact h_) : Q := k h.out n.out
theorem bs_ {P N Q : Prop} (h : Aside0 P) (n : Aside0 N) (k : P → N → Q := by intro h_ n_; repeat (first | (with_reducible first | exact h_ | apply below_alloc | apply pw_below_drewN | apply below_drew1 | refine below_set ?_ n_) | exact h_)) : Q := k h.out n.out
section
variable {α : Type} {d : Kd α} {e : Nat} {w : World} {base : Nat} {ok : Nat → Prop} {v : Value} {xs : List α} {g t : Nat} {cells : Array Value}
end
theorem A_ {p : Prop} (h : p) : Aside0 p := ⟨h⟩
theorem arg_ {α : Type} {a b : α} (h : a = b := by (try simp only [List.map_toArray, List.map_cons, List.map_nil]); first | done | rfl | (simp only [List.length_drop, List.length_take]; rfl)) : a = b := h
theorem rs_ {α : Type} {a b : α} (h : a = b := by first | rfl | (simp; done) | (simp [*]; done)) : a = b := h
theorem cl4_ {w : World} {g t : Nat} {a0 a1 a2 a3 : Value} (h : Aside0 (w.heap[g]? = some (.cells #[a0, a1, a2, a3] t (0, 0)))) : w.cell? ⟨g, 0, none⟩ = some a0 ∧ w.cell? ⟨g, 1, none⟩ = some a1 ∧ w.cell? ⟨g, 2, none⟩ = some a2 ∧ w.cell? ⟨g, 3, none⟩ = some a3 ∧ w.frozen? ⟨g, 0, none⟩ = false ∧ w.frozen? ⟨g, 1, none⟩ = false ∧ w.frozen? ⟨g, 2, none⟩ = false ∧ w.frozen? ⟨g, 3, none⟩ = false := ⟨(blk_cell h.out 0).trans rfl, (blk_cell h.out 1).trans rfl, (blk_cell h.out 2).trans rfl, (blk_cell h.out 3).trans rfl, blk_frozen h.out 0, blk_frozen h.out 1, blk_frozen h.out 2, blk_frozen h.out 3⟩
theorem cl14_ {w : World} {g t : Nat} {a0 a1 a2 a3 a4 a5 a6 a7 a8 a9 a10 a11 a12 a13 : Value} (h : Aside0 (w.heap[g]? = some (.cells #[a0, a1, a2, a3, a4, a5, a6, a7, a8, a9, a10, a11, a12, a13] t (0, 0)))) : w.cell? ⟨g, 0, none⟩ = some a0 ∧ w.cell? ⟨g, 1, none⟩ = some a1 ∧ w.cell? ⟨g, 2, none⟩ = some a2 ∧ w.cell? ⟨g, 3, none⟩ = some a3 ∧ w.cell? ⟨g, 4, none⟩ = some a4 ∧ w.cell? ⟨g, 5, none⟩ = some a5 ∧ w.cell? ⟨g, 6, none⟩ = some a6 ∧ w.cell? ⟨g, 7, none⟩ = some a7 ∧ w.cell? ⟨g, 8, none⟩ = some a8 ∧ w.cell? ⟨g, 9, none⟩ = some a9 ∧ w.cell? ⟨g, 10, none⟩ = some a10 ∧ w.cell? ⟨g, 11, none⟩ = some a11 ∧ w.cell? ⟨g, 12, none⟩ = some a12 ∧ w.cell? ⟨g, 13, none⟩ = some a13 ∧ w.frozen? ⟨g, 0, none⟩ = false ∧ w.frozen? ⟨g, 1, none⟩ = false ∧ w.frozen? ⟨g, 2, none⟩ = false ∧ w.frozen? ⟨g, 3, none⟩ = false ∧ w.frozen? ⟨g, 4, none⟩ = false ∧ w.frozen? ⟨g, 5, none⟩ = false ∧ w.frozen? ⟨g, 6, none⟩ = false ∧ w.frozen? ⟨g, 7, none⟩ = false ∧ w.frozen? ⟨g, 8, none⟩ = false ∧ w.frozen? ⟨g, 9, none⟩ = false ∧ w.frozen? ⟨g, 10, none⟩ = false ∧ w.frozen? ⟨g, 11, none⟩ = false ∧ w.frozen? ⟨g, 12, none⟩ = false ∧ w.frozen? ⟨g, 13, none⟩ = false := ⟨(blk_cell h.out 0).trans rfl, (blk_cell h.out 1).trans rfl, (blk_cell h.out 2).trans rfl, (blk_cell h.out 3).trans rfl, (blk_cell h.out 4).trans rfl, (blk_cell h.out 5).trans rfl, (blk_cell h.out 6).trans rfl, (blk_cell h.out 7).trans rfl, (blk_cell h.out 8).trans rfl, (blk_cell h.out 9).trans rfl, (blk_cell h.out 10).trans rfl, (blk_cell h.out 11).trans rfl, (blk_cell h.out 12).trans rfl, (blk_cell h.out 13).trans rfl, blk_frozen h.out 0, blk_frozen h.out 1, blk_frozen h.out 2, blk_frozen h.out 3, blk_frozen h.out 4, blk_frozen h.out 5, blk_frozen h.out 6, blk_frozen h.out 7, blk_frozen h.out 8, blk_frozen h.out 9, blk_frozen h.out 10, blk_frozen h.out 11, blk_frozen h.out 12, blk_frozen h.out 13⟩
end Go.Proofs.YtcghglembmohcaaW.PrintMore
