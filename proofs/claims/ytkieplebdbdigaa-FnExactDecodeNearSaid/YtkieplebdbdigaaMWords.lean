/- Arrays of whole numbers in memory, read and written at an index that is computed; compared; indexed as values. Whatever the program. -/
import Derived.Test.YtkieplebdbdigaaWMore
import Derived.StillTailTactics
import Derived.WalkSpells
import Derived.Laws.PanicsMore
import Derived.Laws.StructEq
namespace Go.Proofs.YtkieplebdbdigaaW.PrintMore
open Go.RowKit Go.Proofs.YtkieplebdbdigaaW.PrintWords
set_option linter.unusedVariables false
set_option linter.unusedSimpArgs false

/-- What place n of an array holds when v was stored at place j. -/
def aup (j n v a : Int) : Int := if j = n then v else a
def ups (j v : Int) : Int → List Int → List Int
  | _, [] => []
  | n, a :: r => aup j n v a :: ups j v (n + 1) r
theorem ups_get (j v : Int) : ∀ (l : List Int) (n : Int) (i : Nat), (ups j v n l)[i]? = (l[i]?).map (aup j (n + i) v) := by
  intro l
  induction l with
  | nil => intro n i; simp [ups]
  | cons a r ih =>
    intro n i
    cases i with
    | zero => simp [ups]
    | succ i => simp only [ups, List.getElem?_cons_succ, ih]; rw [show n + 1 + (i : Int) = n + ((i + 1 : Nat) : Int) by omega]
theorem ups_set {k : IntKind} {l : List Int} {j v : Int} (h : 0 ≤ j) : ((l.map (Value.int k)).toArray).setIfInBounds j.toNat (.int k v) = ((ups j v 0 l).map (Value.int k)).toArray := by
  apply Array.ext'
  simp only [Array.toList_setIfInBounds]
  apply List.ext_getElem?
  intro i
  rw [List.getElem?_set]
  simp only [List.getElem?_map, ups_get, List.length_map, Option.map_map, Int.zero_add]
  by_cases hi : j.toNat = i
  · subst hi
    by_cases hl : j.toNat < l.length
    · rw [if_pos rfl, if_pos hl, List.getElem?_eq_getElem hl]
      simp only [Option.map_some, Function.comp_def, aup]
      rw [if_pos (by omega)]
    · rw [if_pos rfl, if_neg hl, List.getElem?_eq_none (by omega)]
      rfl
  · rw [if_neg hi]
    cases l[i]? with
    | none => rfl
    | some a =>
      simp only [Option.map_some, Function.comp_def, aup]
      rw [if_neg (by omega)]
theorem ard_cell {w : World} {g : Nat} {t : TypeId} {k : IntKind} {l : List Int} (h : w.heap[g]? = some (.cells (l.map (Value.int k)).toArray t (0, 0))) {j : Int} (h0 : 0 ≤ j) (h1 : j < l.length) :
    w.cell? ⟨g, j.toNat, none⟩ = some (.int k (rd l j)) := by
  rw [blk_cell h]
  have hl : j.toNat < l.length := by omega
  unfold rd
  simp [List.getD, hl]
theorem ard_index {P : Program} {t e : TypeId} {n : Nat} {k ki : IntKind} {l : List Int} {j : Int} (hu : P.underlying t = some (.array n e)) (hc : P.cellsOf e = 1) (hi : (P.info? e).isSome = true) (hd : ∃ q, P.underlying e = some (.int q)) (hn : l.length = n) (h0 : 0 ≤ j) (h1 : j < n) (W : World) :
    (Instr.index t (.agg (l.map (Value.int k)).toArray) (.int ki j)).run P W = .ok (.int k (rd l j)) W := by
  have hl : j.toNat < l.length := by omega
  obtain ⟨i, hi⟩ := Option.isSome_iff_exists.1 hi
  have hs : i.size = 1 := by simpa [Program.cellsOf, hi] using hc
  obtain ⟨q, hq⟩ := hd
  have hx : l[j.toNat]? = some (rd l j) := by
    unfold rd
    simp [List.getD, hl]
  simp [Instr.index, run_underlying hu, asIntOf, h0, h1, go_sem, sizeOf, typeInfo, hi, hs, part, hx, hq, isAgg, run_underlying hq]
section
variable {P : Program} {ops : Array Oper} {rest : List Oper} {o : Oper} {a : Act} {Q : Exit → Act → World → Prop}
end
section
open Go.Proofs.YtkieplebdbdigaaW.PrintLast
variable {P : Program} {ops : Array Oper} {Q : Exit → Act → World → Prop}
end
open Go.Proofs.YtkieplebdbdigaaW.PrintLast
/-- What the context decides. -/
theorem asm_ {p : Prop} [Decidable p] (h : decide p = true := by first | (with_reducible assumption) | assumption) : p := of_decide_eq_true h
/-- Facts at the world that stands, some plain steps behind. -/
theorem pl_ {P Q : Prop} (h : Aside0 P) (k : P → Q := by intro h_; (with_reducible repeat (first | refine blk_drewN ?_ _ | refine blk_drew ?_ | refine blk_alloc ?_ _)); exact h_) : Q := k h.out
theorem pr_ {P Q : Prop} (h : Aside0 P) (k : P → Q := by intro h_; (with_reducible repeat (first | apply Kd.R_alloc | apply Kd.R_drewN | apply Kd.R_drew)); exact h_) : Q := k h.out
theorem bl_ {P Q : Prop} (h : Aside0 P) (k : P → Q := by intro h_; repeat (first | (with_reducible first | exact h_ | apply below_alloc | apply pw_below_drewN | apply below_drew1) | exact h_)) : Q := k h.out
theorem pf_ {P N Q : Prop} (h : Aside0 P) (n : Aside0 N) (k : P → N → Q := by intro h_ n_; (with_reducible repeat (first | refine blk_drewN ?_ _ | refine blk_drew ?_ | refine blk_alloc ?_ _ | refine blk_far ?_ n_ _)); exact h_) : Q := k h.out n.out
theorem bs_ {P N Q : Prop} (h : Aside0 P) (n : Aside0 N) (k : P → N → Q := by intro h_ n_; repeat (first | (with_reducible first | exact h_ | apply below_alloc | apply pw_below_drewN | apply below_drew1 | refine below_set ?_ n_) | exact h_)) : Q := k h.out n.out
section
variable {α : Type} {d : Kd α} {e : Nat} {w : World} {base : Nat} {ok : Nat → Prop} {v : Value} {xs : List α} {g t : Nat} {cells : Array Value}
theorem rf2_ (h : Aside0 (d.R e w base ok v xs)) (b : Aside0 (w.heap[g]? = some (.cells cells t (0, 0)))) (ht : ∀ q, q ∈ e :: d.E → q ≠ t) {i0 i1 : Nat} {x0 x1 : Value} : d.R e ((w.setCell ⟨g, i0, none⟩ x0).setCell ⟨g, i1, none⟩ x1) base ok v xs := Kd.R_mono (Kd.R_far (p := ⟨g, i1, none⟩) (Kd.R_far (p := ⟨g, i0, none⟩) (Kd.R_types h.out b.out ht) (fun _ hk => hk.2) _) (fun _ hk => hk.2) _) (fun _ h_ => h_.1)
end
theorem A_ {p : Prop} (h : p) : Aside0 p := ⟨h⟩
theorem arg_ {α : Type} {a b : α} (h : a = b := by (try simp only [List.map_toArray, List.map_cons, List.map_nil]); first | done | rfl | (simp only [List.length_drop, List.length_take]; rfl)) : a = b := h
theorem rs_ {α : Type} {a b : α} (h : a = b := by first | rfl | (simp; done) | (simp [*]; done)) : a = b := h
theorem pa_ {α : Type} {a b : α} (h : a = b := by simp only [putAll, Act.put, List.setIfInBounds_toArray, List.set_cons_zero, List.set_cons_succ]) : a = b := h
theorem cf3_ {W : World} {g g' i : Nat} {a b c : Nat} {x y z v : Value} (h : Aside0 (g ≠ g')) (hc : W.cell? ⟨g, i, none⟩ = some v) : (((W.setCell ⟨g', a, none⟩ x).setCell ⟨g', b, none⟩ y).setCell ⟨g', c, none⟩ z).cell? ⟨g, i, none⟩ = some v :=
  (cell_far (p := ⟨g', c, none⟩) h.out z).trans ((cell_far (p := ⟨g', b, none⟩) h.out y).trans ((cell_far (p := ⟨g', a, none⟩) h.out x).trans hc))
/-- The cells of a variable, all at once. -/
theorem cl1_ {w : World} {g t : Nat} {a0 : Value} (h : Aside0 (w.heap[g]? = some (.cells #[a0] t (0, 0)))) : w.cell? ⟨g, 0, none⟩ = some a0 ∧ w.frozen? ⟨g, 0, none⟩ = false := ⟨(blk_cell h.out 0).trans rfl, blk_frozen h.out 0⟩
theorem cl2_ {w : World} {g t : Nat} {a0 a1 : Value} (h : Aside0 (w.heap[g]? = some (.cells #[a0, a1] t (0, 0)))) : w.cell? ⟨g, 0, none⟩ = some a0 ∧ w.cell? ⟨g, 1, none⟩ = some a1 ∧ w.frozen? ⟨g, 0, none⟩ = false ∧ w.frozen? ⟨g, 1, none⟩ = false := ⟨(blk_cell h.out 0).trans rfl, (blk_cell h.out 1).trans rfl, blk_frozen h.out 0, blk_frozen h.out 1⟩
theorem cl3_ {w : World} {g t : Nat} {a0 a1 a2 : Value} (h : Aside0 (w.heap[g]? = some (.cells #[a0, a1, a2] t (0, 0)))) : w.cell? ⟨g, 0, none⟩ = some a0 ∧ w.cell? ⟨g, 1, none⟩ = some a1 ∧ w.cell? ⟨g, 2, none⟩ = some a2 ∧ w.frozen? ⟨g, 0, none⟩ = false ∧ w.frozen? ⟨g, 1, none⟩ = false ∧ w.frozen? ⟨g, 2, none⟩ = false := ⟨(blk_cell h.out 0).trans rfl, (blk_cell h.out 1).trans rfl, (blk_cell h.out 2).trans rfl, blk_frozen h.out 0, blk_frozen h.out 1, blk_frozen h.out 2⟩
theorem cl4_ {w : World} {g t : Nat} {a0 a1 a2 a3 : Value} (h : Aside0 (w.heap[g]? = some (.cells #[a0, a1, a2, a3] t (0, 0)))) : w.cell? ⟨g, 0, none⟩ = some a0 ∧ w.cell? ⟨g, 1, none⟩ = some a1 ∧ w.cell? ⟨g, 2, none⟩ = some a2 ∧ w.cell? ⟨g, 3, none⟩ = some a3 ∧ w.frozen? ⟨g, 0, none⟩ = false ∧ w.frozen? ⟨g, 1, none⟩ = false ∧ w.frozen? ⟨g, 2, none⟩ = false ∧ w.frozen? ⟨g, 3, none⟩ = false := ⟨(blk_cell h.out 0).trans rfl, (blk_cell h.out 1).trans rfl, (blk_cell h.out 2).trans rfl, (blk_cell h.out 3).trans rfl, blk_frozen h.out 0, blk_frozen h.out 1, blk_frozen h.out 2, blk_frozen h.out 3⟩
theorem cf4_ {W : World} {g g' i : Nat} {a b c e : Nat} {x y z u v : Value} (h : Aside0 (g ≠ g')) (hc : W.cell? ⟨g, i, none⟩ = some v) : ((((W.setCell ⟨g', a, none⟩ x).setCell ⟨g', b, none⟩ y).setCell ⟨g', c, none⟩ z).setCell ⟨g', e, none⟩ u).cell? ⟨g, i, none⟩ = some v :=
  (cell_far (p := ⟨g', _, none⟩) h.out _).trans (cf3_ h hc)
theorem sp_ : (∀ (l : List Value) (i : Nat) (a : Value), l.toArray.setIfInBounds i a = (l.set i a).toArray) ∧ (∀ (a b : Value) (l : List Value), (a :: l).set 0 b = b :: l) ∧ (∀ (a b : Value) (l : List Value) (n : Nat), (a :: l).set (n + 1) b = a :: l.set n b) ∧ (∀ n : Int, IntKind.i64.wrap n = Go.RowKit.wrap64 n) ∧ (∀ n : Int, IntKind.i32.wrap n = Go.RowKit.wrap32 n) :=
  ⟨fun _ _ _ => by simp, fun _ _ _ => rfl, fun _ _ _ _ => rfl, i64_w, i32_w⟩
/-- 'clear(xs[k:])' on a row of the call's own, behind 'at_builtin': the row holds zeros from k on. -/
theorem R_clearcut {P : Program} {ops : Array Oper} {rest : List Oper} {o : Oper} {a : Act} {Q : Exit → Act → World → Prop} {α : Type} (d : Kd α) {w0 W : World} (base : Nat) (hgd : o.guard = none) (s : Operand) (t e : TypeId) (ho : o.op = .call { callee := .builtin .clear, args := #[s], argTypes := #[t] })
    (ht : P.underlying t = some (.slice e)) {z0 : α} {z : Value} {bytes : Nat} (hinfo : (P.info? e).map (fun i => (i.zero, i.size, i.bytes)) = some (some z, d.sz, bytes)) (hz : z.cells.size = d.sz) (hs0 : 0 < d.sz) {ok : Nat → Prop} (hzero : ∀ (w : World) (ok' : Nat → Prop), d.M w base ok' z0 z.cells.toList)
    {A0 A : Option Addr} {n c k m c2 : Nat} {xs : List α} (hs : a.eval s = .slice A m c2) (hA : A = if c = k then A0 else A0.map (·.add (k * d.sz))) (hm : m = n - k)
    (HO : d.R e W base ok (.slice A0 n c) xs) (hk : k ≤ n) (HB : Below base w0 W) (hbase : base ≤ W.heap.size)
    (h : ∀ w1, d.R e w1 base ok (.slice A0 n c) (xs.take k ++ List.replicate (xs.length - k) z0) → Below base w0 w1 → W.grownBy w1 (Value.slice A0 n c).ownBlock → wpList P ops Q rest (a.put o.dst (.tuple #[])) w1) : wpList P ops Q (o :: rest) a W := by
  have hz1 : ∀ u ∈ z.cells.toList, u.oneCell' = true := d.K_one (d.K_of_M (hzero W (fun _ => True)))
  obtain ⟨hn, hnc, _⟩ := Kd.R_reads' HO
  have hrun : ∃ w1, (Builtin.clear_ #[t] o.type #[.slice A m c2]).run P W = .ok (.tuple #[]) w1 ∧ d.R e w1 base ok (.slice A0 n c) (xs.take k ++ List.replicate (n - k) z0) ∧ W.grownBy w1 (Value.slice A0 n c).ownBlock := by
    have same : n - k = 0 → (Builtin.clear_ #[t] o.type #[.slice A 0 c2]).run P W = .ok (.tuple #[]) W → ∃ w1, (Builtin.clear_ #[t] o.type #[.slice A m c2]).run P W = .ok (.tuple #[]) w1 ∧ d.R e w1 base ok (.slice A0 n c) (xs.take k ++ List.replicate (n - k) z0) ∧ W.grownBy w1 (Value.slice A0 n c).ownBlock := fun h0 hr => by
      rw [hm, h0]
      refine ⟨W, hr, ?_, World.grownBy.refl _ _⟩
      rw [List.replicate_zero, List.append_nil, List.take_of_length_le (by omega)]
      exact HO
    rcases Nat.eq_zero_or_pos (n - k) with h0 | hp
    · refine same h0 ?_
      cases A <;> simp [Builtin.clear_, run_underlying ht]
    · obtain ⟨hok, inner, hown, hr⟩ := HO
      rcases hown.2 with ⟨hv, _⟩ | ⟨g, cap', cur, hv, hb, hh, _, hcm, hcs, htake⟩
      · injection hv with _ h1 _
        omega
      injection hv with ha _ hc
      subst ha; subst hc
      have hne : c ≠ k := by omega
      rw [if_neg hne, Option.map_some, add_at, Nat.zero_add] at hA
      subst hA
      obtain ⟨news, hnews⟩ : ∃ news, news = (madeCells z.cells ((n - k) * d.sz)).toList := ⟨_, rfl⟩
      have hzc : (Builtin.zeroCells z.cells (n - k)).toList = news := by rw [hnews, ← hz]; rfl
      have hnl : news.length = (n - k) * d.sz := by rw [hnews]; simp [size_madeCells]
      have hrz : Reps (fun (x : α) (cs : List Value) => x = z0 ∧ cs = z.cells.toList) d.sz (List.replicate (n - k) z0) news := by rw [hnews]; exact Kd.reps_made hz hs0 ⟨rfl, rfl⟩ (n - k)
      have hone : ∀ u ∈ news, u.oneCell' = true := by
        intro u hu
        rw [← hzc] at hu
        simp only [Builtin.zeroCells, Array.toList_map, List.mem_map] at hu
        obtain ⟨i, hi, rfl⟩ := hu
        have h0 : 0 < z.cells.size := by omega
        refine hz1 _ ?_
        rw [getElem!_pos z.cells _ (Nat.mod_lt _ h0)]
        simp
      have hks : k * d.sz + (n - k) * d.sz = n * d.sz := by rw [← Nat.add_mul, Nat.add_sub_cancel' hk]
      have hle : n * d.sz ≤ c * d.sz := Nat.mul_le_mul_right _ hnc
      have hfit : k * d.sz + news.length ≤ cur.size := by rw [hnl, hcs, hks]; exact hle
      have hst := run_storeCells_cells (P := P) g (k * d.sz) news 0 W
        (by intro j hj; rw [cell_of_row W g _ cur e (0, 0) hh]; simp; omega)
        (by intro j hj; exact blk_frozen hh _) hone
      simp only [Nat.add_zero] at hst
      obtain ⟨q', hq⟩ : ∃ q', n - k = q' + 1 := ⟨n - k - 1, by omega⟩
      obtain ⟨cur', h3, h4, h5⟩ := setCells_row news (k * d.sz) W cur hh hfit
      obtain ⟨s1, s2, s3, s4⟩ := setCells_same g news (k * d.sz) W
      have hfar : ∀ k', k' ≠ g → (W.setCells g (k * d.sz) news).heap[k']? = W.heap[k']? := fun k' hk' => setCells_far news _ k' hk'
      have hgo : some g = (Value.slice (some ⟨g, 0, none⟩) n c).ownBlock := by simp [Value.ownBlock]
      have hel : (xs.take k ++ List.replicate (n - k) z0).length = n := by rw [List.length_append, List.length_take, List.length_replicate]; omega
      have hin : inner.length = n * d.sz := by rw [hr.1, hn]
      have hmv : ∀ p q, d.M W base (fun k' => ok k' ∧ some k' ≠ (Value.slice (some ⟨g, 0, none⟩) n c).ownBlock) p q → d.M (W.setCells g (k * d.sz) news) base (fun k' => ok k' ∧ some k' ≠ (Value.slice (some ⟨g, 0, none⟩) n c).ownBlock) p q := fun p q hp => d.M_move (fun k' hk' => hfar k' (fun he => hk'.2 (by rw [← hgo, he]))) hp
      refine ⟨W.setCells g (k * d.sz) news, ?_, ⟨hok, inner.take (k * d.sz) ++ news, ⟨?_, .inr ⟨g, c, cur', by rw [hel], hb, h3, by rw [hel]; exact hnc, hcm, by rw [h4, hcs], ?_⟩⟩, ?_⟩, ⟨s1, s2, s3, by rw [s4]; exact Nat.le_refl _, fun k' _ hk' => hfar k' (fun he => hk' (by rw [he, ← hgo]))⟩⟩
      · have hzv : ∀ w, (zeroValue e).run P w = .ok z w := by
          intro w
          cases hqi : P.info? e with
          | none => rw [hqi] at hinfo; cases hinfo
          | some i =>
            rw [hqi] at hinfo
            simp only [Option.map_some, Option.some.injEq, Prod.mk.injEq] at hinfo
            simp [zeroValue, typeInfo, hqi, hinfo.1]
        rw [hm]
        rw [hq] at hzc ⊢
        simp [Builtin.clear_, run_underlying ht, hzv, hzc, hst]
      · rw [hel, List.length_append, List.length_take, hnl, hin, Nat.min_eq_left (by omega), hks]
      · rw [hel, h5]
        have h7 : cur.toList.take (k * d.sz) = inner.take (k * d.sz) := by
          rw [← htake, List.take_take, Nat.min_eq_left (by rw [← hn]; exact Nat.mul_le_mul_right _ hk)]
        rw [h7]
        exact List.take_left' (by rw [List.length_append, List.length_take, hnl, hin, Nat.min_eq_left (by omega), hks])
      · exact Kd.reps_append ((Kd.reps_take hr (by omega)).imp_ hmv) (hrz.imp_ (fun p q hp => by rw [hp.1, hp.2]; exact hzero _ _))
  obtain ⟨w1, hr, h1, h2⟩ := hrun
  rw [show n - k = xs.length - k by rw [hn]] at h1
  refine wpList_plain hgd fun K hK => ?_
  unfold Oper.wp execOp
  simp only [ho, resolve, invoke, builtin, Sem.run_bind, Sem.run_pure, Result.andThen_ok, List.map_toArray, List.map_cons, List.map_nil, hs, hr]
  exact hK _ _ (h w1 h1 (HB.grown h2 hbase (fun k hk => Kd.R_base HO _ hk)) h2)
end Go.Proofs.YtkieplebdbdigaaW.PrintMore
