/- Arrays of whole numbers in memory, read and written at an index that is computed; compared; indexed as values. Whatever the program. -/
import Derived.Test.YtodmfjophjhbeaaDoorWMore
import Derived.StillTailTactics
import Derived.WalkSpells
import Derived.Laws.PanicsMore
import Derived.Laws.StructEq
namespace Go.Proofs.YtodmfjophjhbeaaDoorW.PrintMore
open Go.RowKit Go.Proofs.YtodmfjophjhbeaaDoorW.PrintWords
set_option linter.unusedVariables false
set_option linter.unusedSimpArgs false

/-- What place n of an array holds when v was stored at place j. -/
def aup (j n v a : Int) : Int := if j = n then v else a
def ups (j v : Int) : Int → List Int → List Int
  | _, [] => []
  | n, a :: r => aup j n v a :: ups j v (n + 1) r
theorem ups_get (j v : Int) : ∀ (l : List Int) (n : Int) (i : Nat), (ups j v n l)[i]? = (l[i]?).map (aup j (n + i) v) := by
  intro l
  induction l with
  | nil => intro n i; simp [ups]
  | cons a r ih =>
    intro n i
    cases i with
    | zero => simp [ups]
    | succ i => simp only [ups, List.getElem?_cons_succ, ih]; rw [show n + 1 + (i : Int) = n + ((i + 1 : Nat) : Int) by omega]
theorem ups_set {k : IntKind} {l : List Int} {j v : Int} (h : 0 ≤ j) : ((l.map (Value.int k)).toArray).setIfInBounds j.toNat (.int k v) = ((ups j v 0 l).map (Value.int k)).toArray := by
  apply Array.ext'
  simp only [Array.toList_setIfInBounds]
  apply List.ext_getElem?
  intro i
  rw [List.getElem?_set]
  simp only [List.getElem?_map, ups_get, List.length_map, Option.map_map, Int.zero_add]
  by_cases hi : j.toNat = i
  · subst hi
    by_cases hl : j.toNat < l.length
    · rw [if_pos rfl, if_pos hl, List.getElem?_eq_getElem hl]
      simp only [Option.map_some, Function.comp_def, aup]
      rw [if_pos (by omega)]
    · rw [if_pos rfl, if_neg hl, List.getElem?_eq_none (by omega)]
      rfl
  · rw [if_neg hi]
    cases l[i]? with
    | none => rfl
    | some a =>
      simp only [Option.map_some, Function.comp_def, aup]
      rw [if_neg (by omega)]
theorem ard_cell {w : World} {g : Nat} {t : TypeId} {k : IntKind} {l : List Int} (h : w.heap[g]? = some (.cells (l.map (Value.int k)).toArray t (0, 0))) {j : Int} (h0 : 0 ≤ j) (h1 : j < l.length) :
    w.cell? ⟨g, j.toNat, none⟩ = some (.int k (rd l j)) := by
  rw [blk_cell h]
  have hl : j.toNat < l.length := by omega
  unfold rd
  simp [List.getD, hl]
/-- Cells that lie within a struct. -/
theorem ard_in {w : World} {g : Nat} {t : TypeId} {cs : Array Value} {k : IntKind} {l : List Int} {o : Nat} (h : w.heap[g]? = some (.cells cs t (0, 0))) (hc : (cs.toList.drop o).take l.length = l.map (Value.int k)) {j : Int} (h0 : 0 ≤ j) (h1 : j < l.length) :
    w.cell? ⟨g, o + j.toNat, none⟩ = some (.int k (rd l j)) := by
  have hj' : j.toNat < l.length := by omega
  rw [blk_cell h]
  have h3 : (cs.toList.drop o)[j.toNat]? = some (.int k l[j.toNat]) := by
    have h2 := congrArg (fun z => z[j.toNat]?) hc
    simp only [List.getElem?_take] at h2
    rw [if_pos hj'] at h2
    rw [h2]; simp [hj']
  rw [List.getElem?_drop] at h3
  rw [← Array.getElem?_toList, h3]
  unfold rd
  simp [List.getD, hj']
theorem ard_index {P : Program} {t e : TypeId} {n : Nat} {k ki : IntKind} {l : List Int} {j : Int} (hu : P.underlying t = some (.array n e)) (hc : P.cellsOf e = 1) (hi : (P.info? e).isSome = true) (hd : ∃ q, P.underlying e = some (.int q)) (hn : l.length = n) (h0 : 0 ≤ j) (h1 : j < n) (W : World) :
    (Instr.index t (.agg (l.map (Value.int k)).toArray) (.int ki j)).run P W = .ok (.int k (rd l j)) W := by
  have hl : j.toNat < l.length := by omega
  obtain ⟨i, hi⟩ := Option.isSome_iff_exists.1 hi
  have hs : i.size = 1 := by simpa [Program.cellsOf, hi] using hc
  obtain ⟨q, hq⟩ := hd
  have hx : l[j.toNat]? = some (rd l j) := by
    unfold rd
    simp [List.getD, hl]
  simp [Instr.index, run_underlying hu, asIntOf, h0, h1, go_sem, sizeOf, typeInfo, hi, hs, part, hx, hq, isAgg, run_underlying hq]
theorem arr_cut0 {P : Program} {t e : TypeId} {n : Nat} (hu : P.underlying t = some (.array n e)) (hi : (P.info? e).isSome = true) (a : Addr) (W : World) :
    (Instr.sliceAt t (.pointer (some a)) none none none).run P W = .ok (.slice (some a) n n) W := by
  obtain ⟨i, hi⟩ := Option.isSome_iff_exists.1 hi
  have ha : P.arrayLen t = n := by simp [Program.arrayLen, hu]
  have he : P.elem t = e := by simp [Program.elem, hu]
  have hu' : P.underlying t = some (.array (P.arrayLen t) (P.elem t)) := by rw [ha, he]; exact hu
  rw [run_sliceAt_array_all W t a hu', he, ha]
  simp [sizeOf, typeInfo, hi, slicedAt, Result.andThen, Addr.add]
theorem arr_C {w : World} {g : Nat} {t : TypeId} {k : IntKind} {cs : Array Value} {l : List Int} {o : Nat} (h : w.heap[g]? = some (.cells cs t (0, 0))) (hc : (cs.toList.drop o).take l.length = l.map (Value.int k)) (hl : l.length ≤ 1000) (m : Nat) (hm : m ≤ l.length) :
    Kd.C (Kd.int k) w (some ⟨g, o, none⟩) (l.take m).length (l.take m) := by
  refine Kd.C_of_reads (d := (0 : Int)) (h1 := fun _ => rfl) ?_
  refine ⟨rfl, by rw [List.length_take]; omega, fun hp => ⟨_, rfl, fun j hj => ?_⟩⟩
  rw [List.length_take] at hj
  have hj' : j < l.length := by omega
  have e : (⟨g, o, none⟩ : Addr).add j = ⟨g, o + j, none⟩ := by unfold Addr.add; split <;> simp_all
  rw [e, blk_cell h]
  have h3 : (cs.toList.drop o)[j]? = some (.int k l[j]) := by
    have h2 := congrArg (fun z => z[j]?) hc
    simp only [List.getElem?_take] at h2
    rw [if_pos hj'] at h2
    rw [h2]; simp [hj']
  rw [List.getElem?_drop] at h3
  rw [← Array.getElem?_toList, h3]
  simp [List.getD, List.getElem?_take, show j < m by omega, hj']
section
variable {P : Program} {ops : Array Oper} {rest : List Oper} {o : Oper} {a : Act} {Q : Exit → Act → World → Prop}
end
section
open Go.Proofs.YtodmfjophjhbeaaDoorW.PrintLast
variable {P : Program} {ops : Array Oper} {Q : Exit → Act → World → Prop}
theorem tail_shown {rest l : List Oper} {a : Act} {w : World} (h : wpStill P ops w.drew (fun a' => wpList P ops Q rest a' w.drew) l a) : wpStill P ops { w with drawn := w.drawn + 1 } (fun a' => wpList P ops Q rest a' { w with drawn := w.drawn + 1 }) l a := h
end
open Go.Proofs.YtodmfjophjhbeaaDoorW.PrintLast
/-- What the context decides. -/
theorem asm_ {p : Prop} [Decidable p] (h : decide p = true := by first | (with_reducible assumption) | assumption) : p := of_decide_eq_true h
/-- Facts at the world that stands, some plain steps behind. -/
theorem pl_ {P Q : Prop} (h : Aside0 P) (k : P → Q := by intro h_; (with_reducible repeat (first | refine blk_drewN ?_ _ | refine blk_drew ?_ | refine blk_alloc ?_ _)); exact h_) : Q := k h.out
theorem pr_ {P Q : Prop} (h : Aside0 P) (k : P → Q := by intro h_; (with_reducible repeat (first | apply Kd.R_alloc | apply Kd.R_drewN | apply Kd.R_drew)); exact h_) : Q := k h.out
theorem bl_ {P Q : Prop} (h : Aside0 P) (k : P → Q := by intro h_; repeat (first | (with_reducible first | exact h_ | apply below_alloc | apply pw_below_drewN | apply below_drew1) | exact h_)) : Q := k h.out
theorem pf_ {P N Q : Prop} (h : Aside0 P) (n : Aside0 N) (k : P → N → Q := by intro h_ n_; (with_reducible repeat (first | refine blk_drewN ?_ _ | refine blk_drew ?_ | refine blk_alloc ?_ _ | refine blk_far ?_ n_ _)); exact h_) : Q := k h.out n.out
theorem bs_ {P N Q : Prop} (h : Aside0 P) (n : Aside0 N) (k : P → N → Q := by intro h_ n_; repeat (first | (with_reducible first | exact h_ | apply below_alloc | apply pw_below_drewN | apply below_drew1 | refine below_set ?_ n_) | exact h_)) : Q := k h.out n.out
section
variable {α : Type} {d : Kd α} {e : Nat} {w : World} {base : Nat} {ok : Nat → Prop} {v : Value} {xs : List α} {g t : Nat} {cells : Array Value}
theorem rf1_ (h : Aside0 (d.R e w base ok v xs)) (b : Aside0 (w.heap[g]? = some (.cells cells t (0, 0)))) (ht : ∀ q, q ∈ e :: d.E → q ≠ t) {i0 : Nat} {x0 : Value} : d.R e (w.setCell ⟨g, i0, none⟩ x0) base ok v xs := Kd.R_mono (Kd.R_far (p := ⟨g, i0, none⟩) (Kd.R_types h.out b.out ht) (fun _ hk => hk.2) _) (fun _ h_ => h_.1)
theorem rf6_ (h : Aside0 (d.R e w base ok v xs)) (b : Aside0 (w.heap[g]? = some (.cells cells t (0, 0)))) (ht : ∀ q, q ∈ e :: d.E → q ≠ t) {i0 i1 i2 i3 i4 i5 : Nat} {x0 x1 x2 x3 x4 x5 : Value} : d.R e ((((((w.setCell ⟨g, i0, none⟩ x0).setCell ⟨g, i1, none⟩ x1).setCell ⟨g, i2, none⟩ x2).setCell ⟨g, i3, none⟩ x3).setCell ⟨g, i4, none⟩ x4).setCell ⟨g, i5, none⟩ x5) base ok v xs := Kd.R_mono (Kd.R_far (p := ⟨g, i5, none⟩) (Kd.R_far (p := ⟨g, i4, none⟩) (Kd.R_far (p := ⟨g, i3, none⟩) (Kd.R_far (p := ⟨g, i2, none⟩) (Kd.R_far (p := ⟨g, i1, none⟩) (Kd.R_far (p := ⟨g, i0, none⟩) (Kd.R_types h.out b.out ht) (fun _ hk => hk.2) _) (fun _ hk => hk.2) _) (fun _ hk => hk.2) _) (fun _ hk => hk.2) _) (fun _ hk => hk.2) _) (fun _ hk => hk.2) _) (fun _ h_ => h_.1)
end
theorem A_ {p : Prop} (h : p) : Aside0 p := ⟨h⟩
theorem arg_ {α : Type} {a b : α} (h : a = b := by (try simp only [List.map_toArray, List.map_cons, List.map_nil]); first | done | rfl | (simp only [List.length_drop, List.length_take]; rfl)) : a = b := h
theorem rs_ {α : Type} {a b : α} (h : a = b := by first | rfl | (simp; done) | (simp [*]; done)) : a = b := h
theorem pa_ {α : Type} {a b : α} (h : a = b := by simp only [putAll, Act.put, List.setIfInBounds_toArray, List.set_cons_zero, List.set_cons_succ]) : a = b := h
theorem cl4_ {w : World} {g t : Nat} {a0 a1 a2 a3 : Value} (h : Aside0 (w.heap[g]? = some (.cells #[a0, a1, a2, a3] t (0, 0)))) : w.cell? ⟨g, 0, none⟩ = some a0 ∧ w.cell? ⟨g, 1, none⟩ = some a1 ∧ w.cell? ⟨g, 2, none⟩ = some a2 ∧ w.cell? ⟨g, 3, none⟩ = some a3 ∧ w.frozen? ⟨g, 0, none⟩ = false ∧ w.frozen? ⟨g, 1, none⟩ = false ∧ w.frozen? ⟨g, 2, none⟩ = false ∧ w.frozen? ⟨g, 3, none⟩ = false := ⟨(blk_cell h.out 0).trans rfl, (blk_cell h.out 1).trans rfl, (blk_cell h.out 2).trans rfl, (blk_cell h.out 3).trans rfl, blk_frozen h.out 0, blk_frozen h.out 1, blk_frozen h.out 2, blk_frozen h.out 3⟩
theorem cl6_ {w : World} {g t : Nat} {a0 a1 a2 a3 a4 a5 : Value} (h : Aside0 (w.heap[g]? = some (.cells #[a0, a1, a2, a3, a4, a5] t (0, 0)))) : w.cell? ⟨g, 0, none⟩ = some a0 ∧ w.cell? ⟨g, 1, none⟩ = some a1 ∧ w.cell? ⟨g, 2, none⟩ = some a2 ∧ w.cell? ⟨g, 3, none⟩ = some a3 ∧ w.cell? ⟨g, 4, none⟩ = some a4 ∧ w.cell? ⟨g, 5, none⟩ = some a5 ∧ w.frozen? ⟨g, 0, none⟩ = false ∧ w.frozen? ⟨g, 1, none⟩ = false ∧ w.frozen? ⟨g, 2, none⟩ = false ∧ w.frozen? ⟨g, 3, none⟩ = false ∧ w.frozen? ⟨g, 4, none⟩ = false ∧ w.frozen? ⟨g, 5, none⟩ = false := ⟨(blk_cell h.out 0).trans rfl, (blk_cell h.out 1).trans rfl, (blk_cell h.out 2).trans rfl, (blk_cell h.out 3).trans rfl, (blk_cell h.out 4).trans rfl, (blk_cell h.out 5).trans rfl, blk_frozen h.out 0, blk_frozen h.out 1, blk_frozen h.out 2, blk_frozen h.out 3, blk_frozen h.out 4, blk_frozen h.out 5⟩
theorem sp_ : (∀ (l : List Value) (i : Nat) (a : Value), l.toArray.setIfInBounds i a = (l.set i a).toArray) ∧ (∀ (a b : Value) (l : List Value), (a :: l).set 0 b = b :: l) ∧ (∀ (a b : Value) (l : List Value) (n : Nat), (a :: l).set (n + 1) b = a :: l.set n b) ∧ (∀ n : Int, IntKind.i64.wrap n = Go.RowKit.wrap64 n) ∧ (∀ n : Int, IntKind.i32.wrap n = Go.RowKit.wrap32 n) :=
  ⟨fun _ _ _ => by simp, fun _ _ _ => rfl, fun _ _ _ _ => rfl, i64_w, i32_w⟩
end Go.Proofs.YtodmfjophjhbeaaDoorW.PrintMore
