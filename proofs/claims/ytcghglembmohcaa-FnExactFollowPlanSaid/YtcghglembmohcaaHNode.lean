/- Nodes of a plan as values of 20 cells: loaded, stored and compared at once. -/
import Derived.Deep.MidRow
import Derived.StillTailTactics
import Derived.OrdersHeld
import Derived.Test.YtcghglembmohcaaMx0
import Derived.Test.YtcghglembmohcaaBx1
import Derived.Test.YtcghglembmohcaaBx2
import Derived.Test.YtcghglembmohcaaBx3
namespace Go.Proofs.Ytcghglembmohcaa.M
open Go.RowKit Go.Proofs.YtcghglembmohcaaW.PrintWords Go.Proofs.YtcghglembmohcaaW.PrintLast Go.Proofs.YtcghglembmohcaaW.PrintMore
set_option linter.unusedVariables false
set_option linter.unusedSimpArgs false

theorem run_load_list {P : Program} (w : World) (ad : Addr) (T : TypeId) (cs : List Value) (d : TypeDesc) (h : ∀ j u, cs[j]? = some u → w.cell? (ad.add j) = some u) (hu : P.underlying T = some d) (hd : d.isRow = true) (hi : (P.info? T).map (·.size) = some cs.length) :
    (Instr.loadAt T (.pointer (some ad))).run P w = .ok (.agg cs.toArray) w := by
  have hl : (loadCells ad cs.length).run P w = .ok cs.toArray w := run_loadCells_list (P := P) w ad cs h
  cases hq : P.info? T with
  | none => simp [hq] at hi
  | some i =>
    have hs : i.size = cs.length := by simpa [hq] using hi
    have hagg : (isAgg T).run P w = .ok true w := by
      unfold isAgg
      rw [Sem.run_bind, run_underlying hu w]
      cases d <;> simp_all
    simp [Instr.loadAt, Instr.sureAddr, loadVar, Sem.run_bind, hagg, sizeOf, typeInfo, hq, hs, hl]
theorem event_load {P : Program} {ops : Array Oper} {rest : List Oper} {o : Oper} {a : Act} {Q : Exit → Act → World → Prop} {W : World} {v : Value} (hgd : o.guard = none) (T : TypeId) (x : Operand) (ho : o.op = .load T x) {ad : Addr} (hx : a.eval x = .pointer (some ad))
    (hl : (Instr.loadAt T (.pointer (some ad))).run P W = .ok v W) (h : wpList P ops Q rest (a.put o.dst v) W) : wpList P ops Q (o :: rest) a W := by
  refine wpList_plain hgd fun K hK => ?_
  unfold Oper.wp execOp
  simp only [ho, hx, Sem.run_bind, Sem.run_map, hl, Result.andThen_ok]
  exact hK _ _ h
/-- A part of a variable, loaded at once. -/
theorem load_part {P : Program} {ops : Array Oper} {rest : List Oper} {o : Oper} {a : Act} {Q : Exit → Act → World → Prop} {W : World} (hgd : o.guard = none) (T : TypeId) (p : Tmp) (ho : o.op = .load T (.tmp p)) {g off : Nat} (hp : a.eval (.tmp p) = .pointer (some ⟨g, off, none⟩))
    {C : Array Value} {t : TypeId} (hg : W.heap[g]? = some (.cells C t (0, 0))) (cs : List Value) (hcs : (C.toList.drop off).take cs.length = cs) {d : TypeDesc} (hu : P.underlying T = some d) (hd : d.isRow = true) (hi : (P.info? T).map (·.size) = some cs.length)
    (h : wpList P ops Q rest (a.put o.dst (.agg cs.toArray)) W) : wpList P ops Q (o :: rest) a W :=
  event_load hgd T (.tmp p) ho hp (run_load_list W _ T cs d (fun j u hu => by
    rw [Addr.add_mid, cell_of_row W g _ C t (0, 0) hg, ← Array.getElem?_toList]
    rw [← hcs, List.getElem?_take] at hu
    split at hu
    · rwa [List.getElem?_drop] at hu
    · cases hu) hu hd hi) h
/-- A part of a variable, written at once. -/
theorem store_part {P : Program} {ops : Array Oper} {rest : List Oper} {o : Oper} {a : Act} {Q : Exit → Act → World → Prop} {W : World} (hgd : o.guard = none) {T : TypeId} {p : Tmp} {v : Operand} (ho : o.op = .store T (.tmp p) v) (hN : o.dst = none) {g off : Nat} (hp : a.eval (.tmp p) = .pointer (some ⟨g, off, none⟩))
    {cells : Array Value} (hv : a.eval v = .agg cells) {C : Array Value} {t : TypeId} (hg : W.heap[g]? = some (.cells C t (0, 0))) (C' : Array Value) (hfit : off + cells.size ≤ C.size) (hC : C.toList.take off ++ cells.toList ++ C.toList.drop (off + cells.toList.length) = C'.toList)
    (hi : (P.info? T).map (·.size) = some cells.size) (h1 : cells.all (·.oneCell') = true)
    (h : ∀ w', w'.heap[g]? = some (.cells C' t (0, 0)) → (∀ k, k ≠ g → w'.heap[k]? = W.heap[k]?) → (∀ {B w0}, Below B w0 W → B ≤ g → Below B w0 w') → wpList P ops Q rest a w') : wpList P ops Q (o :: rest) a W := by
  refine wpList_store_mid hgd T (.tmp p) v ho g off cells hp hv ?_ hi h1 ?_
  · intro j hj
    refine ⟨?_, blk_frozen hg _⟩
    rw [cell_of_row W g _ C t (0, 0) hg]
    simp; omega
  · obtain ⟨C2, h3, h4, h5⟩ := setCells_row cells.toList off W C hg (by simpa using hfit)
    obtain ⟨s1, s2, s3, s4⟩ := setCells_same g cells.toList off W
    have hfar : ∀ k, k ≠ g → (W.setCells g off cells.toList).heap[k]? = W.heap[k]? := fun k hk => setCells_far cells.toList off k hk
    have e : C2 = C' := by rw [← Array.toList_inj, h5, hC]
    rw [hN]
    refine h _ (by rw [← e]; exact h3) hfar (fun hb hB => ?_)
    exact Below.grown hb ⟨s1, s2, s3, by rw [s4]; exact Nat.le_refl _, fun k _ hk => hfar k (fun he => hk (by rw [he]))⟩ (Nat.le_trans hB (Nat.le_of_lt (blk_lt hg))) (fun k hk => by injection hk with hk; rw [← hk]; exact hB)

/-- A value's cells. -/
def cs61 (x : S61) : List Value := [.int .i8 x.f0.f0, .int .i8 x.f0.f1, .int .i8 x.f0.f2, .int .i8 x.f0.f3, .int .i8 x.f0.f4, .int .i8 x.f0.f5, .int .i8 x.f0.f6, .int .i8 x.f0.f7, .int .i8 x.f0.f8, .int .i8 x.f0.f9, .int .i8 x.f0.f10, .int .i8 x.f0.f11, .int .i8 x.f0.f12, .int .i8 x.f0.f13, .int .i16 x.f1.f0, .int .i16 x.f1.f1, .int .i16 x.f1.f2, .int .i8 x.f2.f0, .bool x.f2.f1, .bool x.f3]
theorem run_load61 (w : World) (ad : Addr) (x : S61) (h : ∀ j u, (cs61 x)[j]? = some u → w.cell? (ad.add j) = some u) : (Instr.loadAt 61 (.pointer (some ad))).run Try.prog w = .ok (.agg (cs61 x).toArray) w :=
  run_load_list w ad 61 (cs61 x) _ h Try.underlying61 rfl (by kernel_rfl)
/-- An element of a row that is read, loaded at once. -/
theorem load_row61 {ops : Array Oper} {rest : List Oper} {o : Oper} {a : Act} {Q : Exit → Act → World → Prop} {W : World} (hgd : o.guard = none) (p : Tmp) (ho : o.op = .load 61 (.tmp p)) {A : Option Addr} {n : Nat} {xs : List S61} (hC : Kd.C k61 W A n xs) (i : Int) (h0 : 0 ≤ i) (h1 : i < n)
    {ad : Addr} (hA : A = some ad) (hp : a.eval (.tmp p) = .pointer (some (ad.add (i.toNat * 20)))) (h : wpList Try.prog ops Q rest (a.put o.dst (.agg (cs61 (rd_T61 xs i)).toArray)) W) : wpList Try.prog ops Q (o :: rest) a W := by
  obtain ⟨ad', c, e, _, hK, hc⟩ := Kd.C_get hC z61 i h0 h1
  rw [hA] at e
  obtain rfl := Option.some.inj e
  obtain rfl : c = cs61 (rd_T61 xs i) := k61_open hK
  exact event_load hgd 61 (.tmp p) ho hp (run_load61 W _ _ (fun j u hu => by rw [add_add]; exact hc j u hu)) h

/-- A value's cells. -/
def cs58 (x : S58) : List Value := [.int .i8 x.f0.f0, .int .i8 x.f0.f1, .int .i8 x.f0.f2, .int .i8 x.f0.f3, .int .i8 x.f0.f4, .int .i8 x.f0.f5, .int .i8 x.f0.f6, .int .i8 x.f0.f7, .int .i8 x.f0.f8, .int .i8 x.f0.f9, .int .i8 x.f0.f10, .int .i8 x.f0.f11, .int .i8 x.f0.f12, .int .i8 x.f0.f13, .int .i16 x.f1.f0, .int .i16 x.f1.f1, .int .i16 x.f1.f2, .int .i8 x.f2.f0, .bool x.f2.f1, .bool x.f3]
theorem run_load58 (w : World) (ad : Addr) (x : S58) (h : ∀ j u, (cs58 x)[j]? = some u → w.cell? (ad.add j) = some u) : (Instr.loadAt 58 (.pointer (some ad))).run Try.prog w = .ok (.agg (cs58 x).toArray) w :=
  run_load_list w ad 58 (cs58 x) _ h Try.underlying58 rfl (by kernel_rfl)
/-- An element of a row that is read, loaded at once. -/
theorem load_row58 {ops : Array Oper} {rest : List Oper} {o : Oper} {a : Act} {Q : Exit → Act → World → Prop} {W : World} (hgd : o.guard = none) (p : Tmp) (ho : o.op = .load 58 (.tmp p)) {A : Option Addr} {n : Nat} {xs : List S58} (hC : Kd.C k58 W A n xs) (i : Int) (h0 : 0 ≤ i) (h1 : i < n)
    {ad : Addr} (hA : A = some ad) (hp : a.eval (.tmp p) = .pointer (some (ad.add (i.toNat * 20)))) (h : wpList Try.prog ops Q rest (a.put o.dst (.agg (cs58 (rd_T58 xs i)).toArray)) W) : wpList Try.prog ops Q (o :: rest) a W := by
  obtain ⟨ad', c, e, _, hK, hc⟩ := Kd.C_get hC z58 i h0 h1
  rw [hA] at e
  obtain rfl := Option.some.inj e
  obtain rfl : c = cs58 (rd_T58 xs i) := k58_open hK
  exact event_load hgd 58 (.tmp p) ho hp (run_load58 W _ _ (fun j u hu => by rw [add_add]; exact hc j u hu)) h

/-- An element of a row of the call's own is written. -/
theorem store_row58 {ops : Array Oper} {rest : List Oper} {o : Oper} {a : Act} {Q : Exit → Act → World → Prop} {W : World} (hgd : o.guard = none) {p : Tmp} {v : Operand} (ho : o.op = .store 58 (.tmp p) v) (hN : o.dst = none) {g n cap base : Nat} {ok : Nat → Prop} {xs : List S58}
    (HO : Kd.R k58 58 W base ok (.slice (some ⟨g, 0, none⟩) n cap) xs) (i : Int) (h0 : 0 ≤ i) (h1 : i < n) (x : S58) (hp : a.eval (.tmp p) = .pointer (some ⟨g, i.toNat * 20, none⟩)) (hv : a.eval v = .agg (cs58 x).toArray)
    (h : ∀ w', Kd.R k58 58 w' base ok (.slice (some ⟨g, 0, none⟩) n cap) (xs.set i.toNat x) → W.grownBy w' (some g) → wpList Try.prog ops Q rest a w') : wpList Try.prog ops Q (o :: rest) a W := by
  obtain ⟨c, hcl, hM, hcc, hfr⟩ := Kd.R_elem HO z58 i h0 h1
  have HP := Kd.R_seg HO i h0 h1 (seg := cs58 x) (j := 0) hcl hcc (show 0 + (cs58 x).length ≤ k58.sz from Nat.le_refl _) (x' := x) (okp := fun k => ok k ∧ k ≠ g) (by
    have e : c.take 0 ++ cs58 x ++ c.drop (0 + (cs58 x).length) = cs58 x := by
      rw [List.take_zero, List.nil_append, List.drop_eq_nil_of_le (by rw [hcl]; exact Nat.le_refl _), List.append_nil]
    rw [e]
    exact k58_mkM _ _ _ x) (fun _ hk => hk)
  have hcell : ∀ j, j < 20 → (W.cell? ⟨g, i.toNat * 20 + j, none⟩).isSome = true := fun j hj => by
    have h6 := hcc j _ (List.getElem?_eq_getElem (by rw [hcl]; exact hj))
    rw [show i.toNat * k58.sz = i.toNat * 20 from rfl] at h6
    rw [h6]; rfl
  refine wpList_store_mid hgd 58 (.tmp p) v ho g (i.toNat * 20) (cs58 x).toArray hp hv (fun j hj => ⟨hcell j hj, ?_⟩) (by kernel_rfl) (by kernel_rfl) ?_
  · have h7 := hfr j
    rwa [show i.toNat * k58.sz = i.toNat * 20 from rfl] at h7
  · rw [hN]
    exact h _ HP.1 HP.2

/-- Two nodes are the same. -/
def eq58 (x y : S58) : Bool := (x.f0.f0 == y.f0.f0 && (x.f0.f1 == y.f0.f1 && (x.f0.f2 == y.f0.f2 && (x.f0.f3 == y.f0.f3 && (x.f0.f4 == y.f0.f4 && (x.f0.f5 == y.f0.f5 && (x.f0.f6 == y.f0.f6 && (x.f0.f7 == y.f0.f7 && (x.f0.f8 == y.f0.f8 && (x.f0.f9 == y.f0.f9 && (x.f0.f10 == y.f0.f10 && (x.f0.f11 == y.f0.f11 && (x.f0.f12 == y.f0.f12 && (x.f0.f13 == y.f0.f13)))))))))))))) && ((x.f1.f0 == y.f1.f0 && (x.f1.f1 == y.f1.f1 && (x.f1.f2 == y.f1.f2))) && ((x.f2.f0 == y.f2.f0 && (x.f2.f1 == y.f2.f1)) && (x.f3 == y.f3)))
theorem eqA58 (d : Nat) (w : World) (x0 y0 : Int) (x1 y1 : Int) (x2 y2 : Int) (x3 y3 : Int) (x4 y4 : Int) (x5 y5 : Int) (x6 y6 : Int) (x7 y7 : Int) (x8 y8 : Int) (x9 y9 : Int) (x10 y10 : Int) (x11 y11 : Int) (x12 y12 : Int) (x13 y13 : Int) (x14 y14 : Int) (x15 y15 : Int) (x16 y16 : Int) (x17 y17 : Int) (x18 y18 : Bool) (x19 y19 : Bool) :
  (Op.equalIn (d + 3) 58 (.agg #[.int .i8 x0, .int .i8 x1, .int .i8 x2, .int .i8 x3, .int .i8 x4, .int .i8 x5, .int .i8 x6, .int .i8 x7, .int .i8 x8, .int .i8 x9, .int .i8 x10, .int .i8 x11, .int .i8 x12, .int .i8 x13, .int .i16 x14, .int .i16 x15, .int .i16 x16, .int .i8 x17, .bool x18, .bool x19]) (.agg #[.int .i8 y0, .int .i8 y1, .int .i8 y2, .int .i8 y3, .int .i8 y4, .int .i8 y5, .int .i8 y6, .int .i8 y7, .int .i8 y8, .int .i8 y9, .int .i8 y10, .int .i8 y11, .int .i8 y12, .int .i8 y13, .int .i16 y14, .int .i16 y15, .int .i16 y16, .int .i8 y17, .bool y18, .bool y19])).run Try.prog w = .ok ((x0 == y0 && (x1 == y1 && (x2 == y2 && (x3 == y3 && (x4 == y4 && (x5 == y5 && (x6 == y6 && (x7 == y7 && (x8 == y8 && (x9 == y9 && (x10 == y10 && (x11 == y11 && (x12 == y12 && (x13 == y13)))))))))))))) && ((x14 == y14 && (x15 == y15 && (x16 == y16))) && ((x17 == y17 && (x18 == y18)) && (x19 == y19)))) w := by
 refine eqA_of Try.underlying58 (by kernel_rfl) ?_
 refine eqf_cons (by rfl) (by go_simp) (by go_simp) (B.eqA26 (d + 0) w _ _ _ _ _ _ _ _ _ _ _ _ _ _ _ _ _ _ _ _ _ _ _ _ _ _ _ _) ?_
 refine eqf_cons (by rfl) (by go_simp) (by go_simp) (B.eqA56 (d + 0) w _ _ _ _ _ _) ?_
 refine eqf_cons (by rfl) (by go_simp) (by go_simp) (B.eqA43 (d + 0) w _ _ _ _) ?_
 exact eqf_last (by rfl) (by go_simp; rfl) (by go_simp; rfl) (by go_simp)

theorem neq58 (w : World) (x y : S58) : (binOp .neq 58 (.agg (cs58 x).toArray) (.agg (cs58 y).toArray)).run Try.prog w = .ok (.bool (!eq58 x y)) w := by
  simp only [binOp]
  simp only [Op.equal, Op.maxDepth, cs58, Sem.run_bind, Sem.run_map, eqA58 9997 w, Result.andThen_ok]
  first | rfl | done
theorem still_val {P : Program} {ops : Array Oper} {w : World} {Q : Act → Prop} {o : Oper} {rest : List Oper} {a : Act} (v : Value) (hw : Region.wanted o (yielded ops a.tmps) = true) (hr : (execOp a.eval o).run P w = .ok (.value v) w)
    (h : wpStill P ops w Q rest (a.put o.dst v)) : wpStill P ops w Q (o :: rest) a :=
  wpStill_step (fun K hK => by rw [if_pos hw]; unfold Oper.still; rw [hr]; exact ⟨rfl, hK _ h⟩)
theorem exec_load {P : Program} {w : World} {o : Oper} {a : Act} {v : Value} (t : TypeId) (x : Operand) {ad : Addr} (ho : o.op = .load t x) (hx : a.eval x = .pointer (some ad)) (hl : (Instr.loadAt t (.pointer (some ad))).run P w = .ok v w) : (execOp a.eval o).run P w = .ok (.value v) w := by
  unfold execOp
  simp only [ho, hx, Sem.run_bind, Sem.run_map, hl, Result.andThen_ok]
  first | rfl | simp [hl]
/-- A node of a row that is read. -/
theorem node_at {w : World} {A : Option Addr} {n : Nat} {xs : List S58} (h : Kd.C k58 w A n xs) (i : Int) (h0 : 0 ≤ i) (h1 : i < n) :
    ∃ ad, A = some ad ∧ ∀ j u, (cs58 (rd_T58 xs i))[j]? = some u → w.cell? ((ad.add (i.toNat * 20)).add j) = some u := by
  obtain ⟨ad, c, e, _, hK, hc⟩ := Kd.C_get h z58 i h0 h1
  obtain rfl : c = cs58 (rd_T58 xs i) := k58_open hK
  exact ⟨ad, e, fun j u hu => by rw [add_add]; exact hc j u hu⟩
end Go.Proofs.Ytcghglembmohcaa.M
