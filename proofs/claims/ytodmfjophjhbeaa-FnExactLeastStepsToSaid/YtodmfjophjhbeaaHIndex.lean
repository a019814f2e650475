import Derived.RangeFuncNested
import Derived.RangeFuncBound
import Derived.RangeFuncCalls
import Derived.RangeFuncLeaves
import Derived.RangeFuncBox
import Derived.Shelf.Abstract
import Derived.Shelf.RegionOpen
import Derived.WalkKit
import Derived.OwnWalkIn
import Derived.TacticsInMore
import Derived.LoopNIn
import Derived.LoopIn
import Derived.Test.YtodmfjophjhbeaaWMore
import Derived.Test.YtodmfjophjhbeaaMWords
import Derived.Test.YtodmfjophjhbeaaProg
namespace Go.Proofs.Ytodmfjophjhbeaa.M
open Go.RowKit Go.Shelf Go.Proofs.YtodmfjophjhbeaaW.PrintWords Go.Proofs.YtodmfjophjhbeaaW.PrintLast Go.Proofs.YtodmfjophjhbeaaW.PrintMore
attribute [local go_sem] Oper.semAt_some
set_option linter.unusedVariables false
set_option linter.unusedSimpArgs false

/-- A result that is a value, nothing, or a halt. -/
def PlainR : Result Next → Prop
  | .ok (.value _) _ => True
  | .ok .skip _ => True
  | .halt _ _ => True
  | _ => False
/-- An operation that makes no call and defers nothing. -/
def PlainO (P : Program) (o : Oper) : Prop := (∀ c, o.op ≠ .defer c) ∧ (∀ c, o.op ≠ .call c) ∧ ∀ ρ w, PlainR ((execOp ρ o).run P w)
theorem plain_value (P : Program) (s : Sem Value) (w : World) : PlainR (Sem.run P (do pure (Next.value (← s)) : Sem Next) w) := by
  simp only [Sem.run_bind]
  cases s.run P w <;> simp [Result.andThen, PlainR, Sem.run_pure]
theorem plain_skip (P : Program) (s : Sem Unit) (w : World) : PlainR (Sem.run P (do s; pure Next.skip : Sem Next) w) := by
  simp only [Sem.run_bind]
  cases s.run P w <;> simp [Result.andThen, PlainR, Sem.run_pure]
def plainB (o : Oper) : Bool :=
  match o.op with
  | .move _ | .assign _ | .load _ _ | .store _ _ _ | .binOp _ _ _ _ _ | .unOp _ _ _ | .convert _ _ _ | .fieldAddr _ _ _ | .indexAddr _ _ _ => true
  | _ => false
theorem plain_of {P : Program} {o : Oper} (h : plainB o = true) : PlainO P o := by
  unfold plainB at h
  refine ⟨?_, ?_, ?_⟩
  · intro c e
    rw [e] at h
    cases h
  · intro c e
    rw [e] at h
    cases h
  · intro ρ w
    unfold execOp
    split at h
    all_goals first | (cases h; done) | skip
    all_goals (rename_i e; rw [e]; dsimp only)
    all_goals first | exact plain_value P _ w | exact plain_skip P _ w | (simp [Sem.run_pure, PlainR]; done)
/-- What upon says of such a result holds inside a fence, too. -/
theorem in_of_plain {F : Fence} {n : Nat} {P : Program} {o : Oper} {a : Act} {K K' : Act → World → Prop} {Q : Exit → Act → World → Prop} (hk : ∀ a w, K a w → K' a w) : ∀ {r : Result Next}, PlainR r → o.upon P a K Q r → o.uponIn F n P a K' Q r
  | .ok (.value _) _, _, h => hk _ _ h
  | .ok .skip _, _, h => hk _ _ h
  | .halt (.panic _) _, _, h => h
theorem opsIn_of_ops {F : Fence} {n : Nat} {P : Program} {ops : Array Oper} {Q : Exit → Act → World → Prop} (hL : ¬ LetsOut Q) (hp : ∀ (i : Nat) o, ops[i]? = some o → PlainO P o) : ∀ (l : List Nat) (a : Act) (w : World), wpOps P ops Q l a w → wpOpsIn F n P ops Q l a w
  | [], _, _, h => h
  | i :: rest, a, w, h => by
    have ih := opsIn_of_ops (F := F) (n := n) hL hp rest
    unfold wpOps at h
    unfold wpOpsIn
    cases ho : ops[i]? with
    | none =>
      simp only [ho] at h ⊢
      exact ih _ _ h
    | some o =>
      simp only [ho] at h ⊢
      obtain ⟨h1, h2, h3⟩ := hp i o ho
      have hab : ∀ f, o.about P w a.eval = some f → F.fn f := by
        intro f hf
        unfold Oper.about at hf
        split at hf
        · rename_i c e
          exact absurd e (h2 c)
        · cases hf
      by_cases hw : Region.wanted o (yielded ops a.tmps) = true
      · rw [if_pos hw] at h ⊢
        rcases h with h | ⟨_, h⟩
        · refine ⟨hab, ?_⟩
          rw [Oper.semAt_eq _ _ _ h1]
          exact in_of_plain (fun a w h => ih a w h) (h3 a.eval w) h
        · exact absurd h hL
      · rw [if_neg hw] at h ⊢
        exact ⟨hab, ih _ _ h⟩

/-- A region of a round that draws its order, only reads, and ends in one operation that comes behind all: told in the text's order. -/
theorem round_region0 {F : Fence} {n : Nat} {P : Program} {id : Nat} {Q : Exit → Act → World → Prop} {a : Act} {w : World} {l : List Oper} {z : Oper} (hL : ¬ LetsOut Q) (hp : ((l ++ [z]).all plainB) = true) (hm : P.follows .mixedOrders = true)
    (hB : Region.lexTailB .any (l ++ [z]).toArray l.length = true)
    (h : wpStill P (l ++ [z]).toArray { w with drawn := w.drawn + 1 } (fun a' => wpList P (l ++ [z]).toArray Q [z] a' { w with drawn := w.drawn + 1 }) l a) : (Code.region id (l ++ [z]).toArray true).wpIn F n P Q a w := by
  have hplain : ∀ (i : Nat) o, (l ++ [z]).toArray[i]? = some o → PlainO P o := by
    intro i o ho
    have : o ∈ l ++ [z] := by
      rw [List.getElem?_toArray] at ho
      exact List.mem_of_getElem? ho
    exact plain_of (List.all_eq_true.1 hp o this)
  refine wpIn_region_draw fun t => ?_
  simp only [Region.schedule, hm, Bool.true_or, if_true]
  refine opsIn_of_ops hL hplain _ _ _ (wpAny_sound _ t _ a _ ?_)
  simp only [Region.lexTailB, Bool.and_eq_true, decide_eq_true_eq] at hB
  have hsz : (l ++ [z]).toArray.size = l.length + 1 := by simp
  have hlex := hB.2
  rw [hsz, Nat.add_sub_cancel_left] at hlex
  have empty : HeadInv .any (l ++ [z]).toArray l.length (Array.replicate (l.length + 1) false) := by
    refine ⟨by simp, fun j oj _ hl => ?_, fun u _ hu => getD_in ?_ (getD_replicate_false _ _)⟩
    · rw [getD_replicate_false] at hl
      cases hl
    · simp at hu ⊢
      exact hu
  have heads := wpAnyL_lex (md := .any) (g := 1) hB.1.1.1.1 hB.1.1.2 hB.1.2 (by rw [hsz]; omega) l 0 _ a (fun j hj => by rw [Nat.zero_add, List.getElem?_toArray, List.getElem?_append_left hj]) (by simp) empty hlex h
  rw [hsz]
  exact wpAny_of_head (g := 1) (fun listed a' hl => wpAny_of_seq (md := .any) (Q' := Q) [z] l.length listed a' _ (fun j => by cases j <;> simp) hl.1 hl.2) _ _ _ heads
theorem round_region {F : Fence} {n : Nat} {P : Program} {id : Nat} {Q : Exit → Act → World → Prop} {a : Act} {w : World} {l0 : List Oper} (m : Nat) (hlen : l0.length = m + 1) (hL : ¬ LetsOut Q) (hp : l0.all plainB = true) (hm : P.follows .mixedOrders = true)
    (hB : Region.lexTailB .any l0.toArray m = true)
    (h : wpStill P l0.toArray { w with drawn := w.drawn + 1 } (fun a' => wpList P l0.toArray Q (l0.drop m) a' { w with drawn := w.drawn + 1 }) (l0.take m) a) : (Code.region id l0.toArray true).wpIn F n P Q a w := by
  obtain ⟨l, z, rfl, rfl⟩ : ∃ l z, l0 = l ++ [z] ∧ m = l.length := by
    have hne : l0 ≠ [] := by
      intro e
      rw [e] at hlen
      simp at hlen
    exact ⟨l0.dropLast, l0.getLast hne, (List.dropLast_concat_getLast hne).symm, by simp [hlen]⟩
  rw [List.take_left, List.drop_left] at h
  exact round_region0 hL hp hm hB h

/-- What has come when k rounds are over: f 0, .., f (k - 1). -/
def upto {α : Type} (f : Nat → α) (k : Nat) : List α := (List.range k).map f
theorem upto_succ {α : Type} (f : Nat → α) (k : Nat) : upto f (k + 1) = upto f k ++ [f k] := by simp [upto, List.range_succ]
theorem upto_length {α : Type} (f : Nat → α) (k : Nat) : (upto f k).length = k := by simp [upto]

/-- What a round keeps: what lay below n₀, and the slice's box. -/
def KpB (n₀ Bs : Nat) (sv : Value) (A B : World) : Prop := Below n₀ A B ∧ (A.cell? ⟨Bs, 0, none⟩ = some sv → B.cell? ⟨Bs, 0, none⟩ = some sv)
theorem kpB_t {n₀ Bs : Nat} {sv : Value} {A B C : World} (h : KpB n₀ Bs sv A B) (k : KpB n₀ Bs sv B C) : KpB n₀ Bs sv A C := ⟨h.1.trans k.1, fun e => k.2 (h.2 e)⟩
theorem kpB_b {n₀ Bs : Nat} {sv : Value} {w : World} (hn : n₀ ≤ w.heap.size) (W : World) (l : Nat) (o o' : Obj) (hl : w.heap.size ≤ l) (h : W.heap[l]? = some o) (h1 : o.isCells = false) (h2 : o.isWalk = false) : KpB n₀ Bs sv W (W.putObj l o') :=
  ⟨belowK_b hn W l o o' hl h h1 h2, fun e => cell_kept e (grownBy_putObj' W l o') (fun r er => by cases er; exact ⟨o, h, h1⟩)⟩

set_option maxRecDepth 100000 in
set_option maxHeartbeats 2000000 in
theorem back1_in {α : Type} (f : Nat → α) (encs : α → Array Value) (F : Fence) (n : Nat) (h8 : F.fn 103) (hro : F.round = none) (hn : 1 ≤ n) (L Bs n₀ : Nat) (A : Option Addr) (cap : Nat) (l : List Int) (hl : l.length ≤ 1000)
    (hf : ∀ k, k < l.length → encs (f k) = #[.int .i64 ((l.length : Int) - 1 - k), .int .i16 (l[l.length - 1 - k]?.getD 0)]) (J Jx : List α → World → Prop)
    (hY : ∀ pre x W, J pre W → pre.length < l.length → YieldAt F (n - 1) Try.prog L (encs x) W fun e W' =>
      (e = .returned (.bool true) ∧ J (pre ++ [x]) W' ∧ KpB n₀ Bs (.slice A l.length cap) W W') ∨ (e = .returned (.bool false) ∧ Jx (pre ++ [x]) W'))
    (W : World) (hBs : W.cell? ⟨Bs, 0, none⟩ = some (.slice A l.length cap)) (hC : ∀ W', Below n₀ W W' → Kd.C (Kd.int .i16) W' A l.length l) (h0 : J [] W) :
    CallsIn F n Try.prog 103 #[.func (.yield L) #[] #[], .pointer (some ⟨Bs, 0, none⟩)] W fun e W' => (∃ v, e = .returned v) ∧
      ((∃ ys, ys = upto f l.length ∧ J ys W') ∨ (∃ pre, (∃ k, k ≤ l.length ∧ pre = upto f k) ∧ Jx pre W')) := by
  refine callsIn_of_wp Try.func103 rfl h8 ?_ hro
  simp only [Try.ntmps103, List.size_toArray, List.length_cons, List.length_nil, Nat.reduceAdd, Nat.reduceSub, Array.replicate_succ, Array.replicate_zero, List.push_toArray, List.append_toArray, List.nil_append, List.cons_append]
  gi_wp2
  gi_loopw [3] (fun i wr => ∃ k : Nat, k ≤ l.length ∧ i = .int .i64 ((l.length : Int) - 1 - k) ∧ J (upto f k) wr ∧ KpB n₀ Bs (.slice A l.length cap) W wr)
    (fun i _ => (intOf i + 1).toNat)
  case atStart =>
    exact ⟨0, Nat.zero_le _, by simp; try omega, h0, Below.refl _ _, fun h => h⟩
  case round =>
    obtain ⟨k, hk, rfl, hJs, hnx⟩ := hrel
    have hBs' := hnx.2 hBs
    by_cases hlt : k < l.length
    · obtain ⟨fn, tmps, assign, body, hy, hR⟩ := hY _ (f k) wr hJs (by rw [upto_length]; exact hlt)
      rw [hf k hlt] at hy
      obtain ⟨ad, c, rfl, hcl, hcK, hcx⟩ := Kd.C_get (hC wr hnx.1) 0 ((l.length : Int) - 1 - k) (by omega) (by omega)
      have hx : wr.cell? (ad.add (l.length - 1 - k)) = some (.int .i16 (l[l.length - 1 - k]?.getD 0)) := by
        obtain ⟨v, rfl⟩ : ∃ v, c = [v] := by
          match c, hcl with
          | [v], _ => exact ⟨v, rfl⟩
        have e1 : ((l.length : Int) - 1 - k).toNat = l.length - 1 - k := by omega
        have e2 := hcx 0 v rfl
        have e3 : v = .int .i16 (l[l.length - 1 - k]?.getD 0) := by
          rw [e1, List.getD_eq_getElem?_getD] at hcK
          exact (List.cons.inj hcK).1
        rw [e3] at e2
        rw [e1, show (Kd.int .i16).sz = 1 from rfl, Nat.mul_one, Nat.add_zero] at e2
        exact e2
      gi_wp2
      refine hR.mono ?_
      rintro e W3 (⟨rfl, hJ3, hk3⟩ | ⟨rfl, hJx3⟩)
      · gi_wp2
        go_roundw
        case rel => exact ⟨k + 1, by omega, by simp; omega, by rw [upto_succ]; exact hJ3, kpB_t hnx hk3⟩
        case measure => simp [intOf]; omega
      · gi_wp2
        refine bodyPost_ret (results_none rfl _ _ _) rfl ?_
        exact ⟨⟨_, rfl⟩, .inr ⟨_, ⟨k + 1, by omega, (upto_succ _ _).symm⟩, hJx3⟩⟩
    · obtain rfl : k = l.length := by omega
      gi_wp2
      go_end0
      exact ⟨⟨_, rfl⟩, .inl ⟨_, rfl, hJs⟩⟩

set_option maxHeartbeats 1000000 in
theorem back_in (F : Fence) (n : Nat) (h5 : F.fn 94) (hro : F.round = none) (A : Option Addr) (len cap : Nat) (w : World) :
    CallsIn F n Try.prog 94 #[.slice A len cap] w fun e w' => e = .returned (.func (.func 103) #[] #[.pointer (some ⟨w.heap.size, 0, none⟩)]) ∧ w' = w.alloc (.cells #[.slice A len cap] 22) := by
  refine callsIn_of_wp Try.func94 rfl h5 ?_ hro
  simp only [Try.ntmps94, List.size_toArray, List.length_cons, List.length_nil, Nat.reduceAdd, Nat.reduceSub, Array.replicate_succ, Array.replicate_zero, List.push_toArray, List.append_toArray, List.nil_append, List.cons_append]
  gi_wp2
  go_ret
  exact ⟨rfl, rfl⟩
theorem back_stops {α : Type} (f : Nat → α) (encs : α → Array Value) (F : Fence) (n : Nat) (h8 : F.fn 103) (hro : F.round = none) (hn : 1 ≤ n) (Bs n₀ : Nat) (A : Option Addr) (cap : Nat) (l : List Int) (hl : l.length ≤ 1000)
    (hf : ∀ k, k < l.length → encs (f k) = #[.int .i64 ((l.length : Int) - 1 - k), .int .i16 (l[l.length - 1 - k]?.getD 0)]) (w : World) (hBs : Bs < w.heap.size) (hn₀ : n₀ ≤ w.heap.size)
    (hc : w.cell? ⟨Bs, 0, none⟩ = some (.slice A l.length cap)) (hC : ∀ W', Below n₀ w W' → Kd.C (Kd.int .i16) W' A l.length l) :
    SeqStopsK F n Try.prog 103 #[.pointer (some ⟨Bs, 0, none⟩)] encs (KpB n₀ Bs (.slice A l.length cap)) (fun ys => ys = upto f l.length)
      (fun pre => ∃ k, k ≤ l.length ∧ pre = upto f k) l.length w := fun L J Jx W hW _ _ hY h0 => by
  have hc' := (hW.cell (p := ⟨Bs, 0, none⟩) hBs).trans hc
  exact back1_in f encs F n h8 hro hn L Bs n₀ A cap l hl hf J Jx hY W hc' (fun W' h => hC W' ((hW.mono hn₀).trans h)) h0

/-- What index comes to: a place and what a jug there holds; from the last place on. -/
abbrev I4 : Type := { x : Int × Int // 0 ≤ x.1 ∧ x.1 < 4 }
def bk (l : List Int) (k : Nat) : I4 := if h : 0 ≤ (l.length : Int) - 1 - k ∧ (l.length : Int) - 1 - k < 4 then ⟨((l.length : Int) - 1 - k, l[l.length - 1 - k]?.getD 0), h⟩ else ⟨(0, 0), by simp⟩
def idxS (a b c d s : Int) (x : I4) : Int := wrap64 (wrap64 (s * wrap64 (wrap64 x.1.2 + 1)) + wrap64 (rd [a, b, c, d] x.1.1))
def impl_Puzzle_index.f (l0_0 : List Int) (a0_1 : Int) (a0_2 : Int) (a0_3 : Int) (a0_4 : Int) (a0_5 : Bool) (a1_0 : Int) (a1_1 : Int) (a1_2 : Int) (a1_3 : Int) : Option (Int) :=
  if l0_0.length ≤ 4 then some ((upto (bk l0_0) l0_0.length).foldl (idxS a1_0 a1_1 a1_2 a1_3) 0) else none

set_option maxRecDepth 100000 in
set_option maxHeartbeats 2000000 in
theorem index_in (F : Fence) (n : Nat) (h3 : F.fn 79) (h5 : F.fn 94) (h7 : F.fn 103) (hro : F.round = none) (hn : 3 ≤ n) (A : Option Addr) (cap : Nat) (l : List Int) (p q s t : Int) (z : Bool) (a b c d : Int) (w : World) (hC : Kd.C (Kd.int .i16) w A l.length l) (h4 : l.length ≤ 4) :
    CallsIn F n Try.prog 79 #[.agg #[.slice A l.length cap, .int .i16 p, .int .i16 q, .int .i16 s, .int .i16 t, .bool z], .agg #[.int .i16 a, .int .i16 b, .int .i16 c, .int .i16 d]] w fun e W' => e = .returned (.int .i64 ((upto (bk l) l.length).foldl (idxS a b c d) 0)) ∧ Below w.heap.size w W' := by
  have h1 : 1 ≤ n := by omega
  refine callsIn_of_wp_marks Try.func79 rfl h3 ?_ hro
  simp only [Try.ntmps79, List.size_toArray, List.length_cons, List.length_nil, Nat.reduceAdd, Nat.reduceSub, Array.replicate_succ, Array.replicate_zero, List.push_toArray, List.append_toArray, List.nil_append, List.cons_append]
  gi_wp2_with (gi_at_call 94; refine (back_in F (n - 1) h5 hro _ _ _ _).mono ?_; rintro e w' ⟨rfl, rfl⟩)
  generalize ho1 : Obj.cells #[.slice A l.length cap, .int .i16 p, .int .i16 q, .int .i16 s, .int .i16 t, .bool z] 32 = o1
  have hb1 := blk_new (w.alloc o1) (.cells #[.int .i16 a, .int .i16 b, .int .i16 c, .int .i16 d] 30)
  have hb2 := blk_new ((w.alloc o1).alloc (.cells #[.int .i16 a, .int .i16 b, .int .i16 c, .int .i16 d] 30)) (.cells #[.int .i64 0] 2)
  have hb3 := blk_new (((w.alloc o1).alloc (.cells #[.int .i16 a, .int .i16 b, .int .i16 c, .int .i16 d] 30)).alloc (.cells #[.int .i64 0] 2)) (.cells #[.slice A l.length cap] 22)
  replace hb1 := blk_alloc (blk_alloc hb1 (.cells #[.int .i64 0] 2)) (.cells #[.slice A l.length cap] 22)
  replace hb2 := blk_alloc hb2 (.cells #[.slice A l.length cap] 22)
  have hB0 : Below w.heap.size w ((((w.alloc o1).alloc (.cells #[.int .i16 a, .int .i16 b, .int .i16 c, .int .i16 d] 30)).alloc (.cells #[.int .i64 0] 2)).alloc (.cells #[.slice A l.length cap] 22)) :=
    below_alloc (below_alloc (below_alloc (below_alloc (Below.refl _ _) _) _) _) _
  have hsz : ((((w.alloc o1).alloc (.cells #[.int .i16 a, .int .i16 b, .int .i16 c, .int .i16 d] 30)).alloc (.cells #[.int .i64 0] 2)).alloc (.cells #[.slice A l.length cap] 22)).heap.size = w.heap.size + 4 := by simp
  simp only [World.size_alloc] at hb1 hb2 hb3
  obtain ⟨W0, hW0⟩ : ∃ W0, ((((w.alloc o1).alloc (.cells #[.int .i16 a, .int .i16 b, .int .i16 c, .int .i16 d] 30)).alloc (.cells #[.int .i64 0] 2)).alloc (.cells #[.slice A l.length cap] 22)) = W0 := ⟨_, rfl⟩
  rw [hW0] at hb1 hb2 hb3 hB0 hsz ⊢
  refine wpIn_rangeFunc_ownG hro h1 (gf := 103) (lb := #[.pointer (some ⟨w.heap.size + 1 + 1 + 1, 0, none⟩)]) rfl h7 (enters_of Try.func103 (by kernel_rfl) rfl)
    (back_stops (bk l) (fun x : I4 => #[Value.int .i64 x.1.1, Value.int .i16 x.1.2]) F (n - 1) h7 hro (by omega) (w.heap.size + 1 + 1 + 1) w.heap.size A cap l (by omega) ?hf W0 (by omega) (by omega) (by rw [blk_cell hb3 0]; rfl) (fun W' h => Kd.C_below hC (hB0.trans h)))
    kpB_t (kpB_b (by omega)) (Below.refl _ _) (fun _ => rfl)
    (fun pre W => (W.heap[w.heap.size + 1]? = some (.cells #[.int .i16 a, .int .i16 b, .int .i16 c, .int .i16 d] 30 (0, 0)) ∧ W.heap[w.heap.size + 1 + 1]? = some (.cells #[.int .i64 (pre.foldl (idxS a b c d) 0)] 2 (0, 0))) ∧ Below w.heap.size w W)
    (fun _ _ _ => False)
    (OwnFrom.and (Own.from (fun s A B row hs hg hr => ⟨(grownBy_keeps_cells hg hr hs.1 rfl).trans hs.1, (grownBy_keeps_cells hg hr hs.2 rfl).trans hs.2⟩) _) (ownFrom_below (Nat.le_refl _) (by omega)))
    (fun _ _ _ _ _ hs _ _ => hs)
    ⟨⟨hb1, hb2⟩, hB0⟩
    (fun x => { tmps := #[.agg #[.slice A l.length cap, .int .i16 p, .int .i16 q, .int .i16 s, .int .i16 t, .bool z], .agg #[.int .i16 a, .int .i16 b, .int .i16 c, .int .i16 d], .pointer (some ⟨w.heap.size, 0, none⟩), .pointer (some ⟨w.heap.size + 1, 0, none⟩), .int .i64 0, .pointer (some ⟨w.heap.size + 1 + 1, 0, none⟩), .int .i64 x.1.1, .int .i16 x.1.2, .pointer (some ⟨w.heap.size, 0, none⟩), .slice A l.length cap, .func (.func 103) #[] #[.pointer (some ⟨w.heap.size + 1 + 1 + 1, 0, none⟩)], .int .i64 x.1.1, .int .i16 x.1.2, undef, undef, undef, undef, undef, undef, undef, undef, undef, undef, undef], defers := [] }) ?assign ?body ?done ?stop
  case hf =>
    intro k hk
    unfold bk
    rw [dif_pos (by omega)]
  case assign =>
    intro l_ x W K hK
    gi_wp2
    exact hK
  case body =>
    rintro l_ pre ⟨x, hx0, hx4⟩ W ⟨⟨h1c, h2c⟩, hB⟩ _
    have c5 : W.cell? ⟨w.heap.size + 1 + 1, 0, none⟩ = some (.int .i64 (pre.foldl (idxS a b c d) 0)) := blk_cell h2c 0
    have f5 := blk_frozen h2c 0
    have cw := ard_cell (k := .i16) (l := [a, b, c, d]) h1c hx0 hx4
    have hmx : Try.prog.follows .mixedOrders = true := by kernel_rfl
    gi_wp2
    refine round_region 10 rfl (by rintro ⟨_, _, h_⟩; exact h_) (by kernel_rfl) hmx (by kernel_rfl) ?_
    simp only [List.take_succ_cons, List.take_zero, List.drop_succ_cons, List.drop_zero]
    repeat still_step
    refine wpStill_nil ?_
    show wpList _ _ _ _ _ (W.drewN 1)
    go_wp2
    have hd : Below w.heap.size W (W.drewN 1) := pw_below_drewN (Below.refl _ _) 1
    refine ⟨KeepsOthers.from ((KeepsOthers.drew W).trans (KeepsOthers.setCell _ _ _)) _, ⟨hd.setCell (p := ⟨w.heap.size + 1 + 1, 0, none⟩) (by show w.heap.size ≤ w.heap.size + 1 + 1; omega) _, fun e_ => (World.cell?_setCell_far _ _ _ _ (by show w.heap.size + 1 + 1 ≠ w.heap.size + 1 + 1 + 1; omega)).trans e_⟩, ⟨blk_far (blk_drewN h1c 1) (p := ⟨w.heap.size + 1 + 1, 0, none⟩) (by show w.heap.size + 1 ≠ w.heap.size + 1 + 1; omega) _, ?_⟩, (hB.trans hd).setCell (p := ⟨w.heap.size + 1 + 1, 0, none⟩) (by show w.heap.size ≤ w.heap.size + 1 + 1; omega) _⟩
    refine blk_put (blk_drewN h2c 1) 0 _ ?_
    rw [List.foldl_append]
    rfl
  case done =>
    rintro D ys W hD rfl ⟨⟨_, h2c⟩, hB⟩ hK
    have c5 := blk_cell h2c 0
    gi_wp2
    refine ⟨by simp, .inl ⟨_, _, rfl, run_takeDeferred hK, ?_⟩⟩
    exact ⟨_, results_tmp rfl _ _ _, rfl, hB.trans (belowK_b (w := w) (Nat.le_refl _) W D _ _ (by omega) hK rfl rfl)⟩
  case stop =>
    rintro D c pre W _ _ h _
    exact h.elim
theorem impl_Puzzle_index.calls (A0_0 : Option Addr) (c0_0 : Nat) (l0_0 : List Int) (a0_1 : Int) (a0_2 : Int) (a0_3 : Int) (a0_4 : Int) (a0_5 : Bool) (a1_0 : Int) (a1_1 : Int) (a1_2 : Int) (a1_3 : Int) (r : Int) (w : World) (hr0_0 : Kd.C (Kd.int .i16) w A0_0 l0_0.length l0_0) (hc0_0 : l0_0.length ≤ c0_0) (h : impl_Puzzle_index.f l0_0 a0_1 a0_2 a0_3 a0_4 a0_5 a1_0 a1_1 a1_2 a1_3 = some r) :
  Calls Try.prog 79 #[.agg #[.slice A0_0 l0_0.length c0_0, .int .i16 a0_1, .int .i16 a0_2, .int .i16 a0_3, .int .i16 a0_4, .bool a0_5], .agg #[.int .i16 a1_0, .int .i16 a1_1, .int .i16 a1_2, .int .i16 a1_3]] w fun e w' => e = .returned (.int .i64 r) ∧ Below w.heap.size w w' := by
  unfold impl_Puzzle_index.f at h
  by_cases h4 : l0_0.length ≤ 4
  · rw [if_pos h4] at h
    obtain rfl := Option.some.inj h
    exact callsIn_wide.1 (index_in Fence.wide 6 trivial trivial trivial rfl (by omega) A0_0 c0_0 l0_0 a0_1 a0_2 a0_3 a0_4 a0_5 a1_0 a1_1 a1_2 a1_3 w hr0_0 h4)
  · rw [if_neg h4] at h; simp at h
end Go.Proofs.Ytodmfjophjhbeaa.M
