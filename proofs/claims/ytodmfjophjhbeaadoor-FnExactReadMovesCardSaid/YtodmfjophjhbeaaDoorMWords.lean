/- Arrays of whole numbers in memory, read and written at an index that is computed; compared; indexed as values. Whatever the program. -/
import Derived.Test.YtodmfjophjhbeaaDoorWMore
import Derived.StillTailTactics
import Derived.WalkSpells
import Derived.Laws.PanicsMore
import Derived.Laws.StructEq
namespace Go.Proofs.YtodmfjophjhbeaaDoorW.PrintMore
open Go.RowKit Go.Proofs.YtodmfjophjhbeaaDoorW.PrintWords
set_option linter.unusedVariables false
set_option linter.unusedSimpArgs false

section
variable {P : Program} {ops : Array Oper} {rest : List Oper} {o : Oper} {a : Act} {Q : Exit → Act → World → Prop}
end
section
open Go.Proofs.YtodmfjophjhbeaaDoorW.PrintLast
variable {P : Program} {ops : Array Oper} {Q : Exit → Act → World → Prop}
end
open Go.Proofs.YtodmfjophjhbeaaDoorW.PrintLast
/-- What the context decides. -/
theorem asm_ {p : Prop} [Decidable p] (h : decide p = true := by first | (with_reducible assumption) | assumption) : p := of_decide_eq_true h
/-- Facts at the world that stands, some plain steps behind. -/
theorem pl_ {P Q : Prop} (h : Aside0 P) (k : P → Q := by intro h_; (with_reducible repeat (first | refine blk_drewN ?_ _ | refine blk_drew ?_ | refine blk_alloc ?_ _)); exact h_) : Q := k h.out
theorem pr_ {P Q : Prop} (h : Aside0 P) (k : P → Q := by intro h_; (with_reducible repeat (first | apply Kd.R_alloc | apply Kd.R_drewN | apply Kd.R_drew)); exact h_) : Q := k h.out
theorem bl_ {P Q : Prop} (h : Aside0 P) (k : P → Q := by intro h_; repeat (first | (with_reducible first | exact h_ | apply below_alloc | apply pw_below_drewN | apply below_drew1) | exact h_)) : Q := k h.out
theorem pf_ {P N Q : Prop} (h : Aside0 P) (n : Aside0 N) (k : P → N → Q := by intro h_ n_; (with_reducible repeat (first | refine blk_drewN ?_ _ | refine blk_drew ?_ | refine blk_alloc ?_ _ | refine blk_far ?_ n_ _)); exact h_) : Q := k h.out n.out
theorem bs_ {P N Q : Prop} (h : Aside0 P) (n : Aside0 N) (k : P → N → Q := by intro h_ n_; repeat (first | (with_reducible first | exact h_ | apply below_alloc | apply pw_below_drewN | apply below_drew1 | refine below_set ?_ n_) | exact h_)) : Q := k h.out n.out
section
variable {α : Type} {d : Kd α} {e : Nat} {w : World} {base : Nat} {ok : Nat → Prop} {v : Value} {xs : List α} {g t : Nat} {cells : Array Value}
theorem rf3_ (h : Aside0 (d.R e w base ok v xs)) (b : Aside0 (w.heap[g]? = some (.cells cells t (0, 0)))) (ht : ∀ q, q ∈ e :: d.E → q ≠ t) {i0 i1 i2 : Nat} {x0 x1 x2 : Value} : d.R e (((w.setCell ⟨g, i0, none⟩ x0).setCell ⟨g, i1, none⟩ x1).setCell ⟨g, i2, none⟩ x2) base ok v xs := Kd.R_mono (Kd.R_far (p := ⟨g, i2, none⟩) (Kd.R_far (p := ⟨g, i1, none⟩) (Kd.R_far (p := ⟨g, i0, none⟩) (Kd.R_types h.out b.out ht) (fun _ hk => hk.2) _) (fun _ hk => hk.2) _) (fun _ hk => hk.2) _) (fun _ h_ => h_.1)
end
theorem A_ {p : Prop} (h : p) : Aside0 p := ⟨h⟩
theorem arg_ {α : Type} {a b : α} (h : a = b := by (try simp only [List.map_toArray, List.map_cons, List.map_nil]); first | done | rfl | (simp only [List.length_drop, List.length_take]; rfl)) : a = b := h
theorem rs_ {α : Type} {a b : α} (h : a = b := by first | rfl | (simp; done) | (simp [*]; done)) : a = b := h
theorem cf3_ {W : World} {g g' i : Nat} {a b c : Nat} {x y z v : Value} (h : Aside0 (g ≠ g')) (hc : W.cell? ⟨g, i, none⟩ = some v) : (((W.setCell ⟨g', a, none⟩ x).setCell ⟨g', b, none⟩ y).setCell ⟨g', c, none⟩ z).cell? ⟨g, i, none⟩ = some v :=
  (cell_far (p := ⟨g', c, none⟩) h.out z).trans ((cell_far (p := ⟨g', b, none⟩) h.out y).trans ((cell_far (p := ⟨g', a, none⟩) h.out x).trans hc))
theorem cl3_ {w : World} {g t : Nat} {a0 a1 a2 : Value} (h : Aside0 (w.heap[g]? = some (.cells #[a0, a1, a2] t (0, 0)))) : w.cell? ⟨g, 0, none⟩ = some a0 ∧ w.cell? ⟨g, 1, none⟩ = some a1 ∧ w.cell? ⟨g, 2, none⟩ = some a2 ∧ w.frozen? ⟨g, 0, none⟩ = false ∧ w.frozen? ⟨g, 1, none⟩ = false ∧ w.frozen? ⟨g, 2, none⟩ = false := ⟨(blk_cell h.out 0).trans rfl, (blk_cell h.out 1).trans rfl, (blk_cell h.out 2).trans rfl, blk_frozen h.out 0, blk_frozen h.out 1, blk_frozen h.out 2⟩
theorem sp_ : (∀ (l : List Value) (i : Nat) (a : Value), l.toArray.setIfInBounds i a = (l.set i a).toArray) ∧ (∀ (a b : Value) (l : List Value), (a :: l).set 0 b = b :: l) ∧ (∀ (a b : Value) (l : List Value) (n : Nat), (a :: l).set (n + 1) b = a :: l.set n b) ∧ (∀ n : Int, IntKind.i64.wrap n = Go.RowKit.wrap64 n) ∧ (∀ n : Int, IntKind.i32.wrap n = Go.RowKit.wrap32 n) :=
  ⟨fun _ _ _ => by simp, fun _ _ _ => rfl, fun _ _ _ _ => rfl, i64_w, i32_w⟩
end Go.Proofs.YtodmfjophjhbeaaDoorW.PrintMore
