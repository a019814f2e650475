import Derived.RangeFuncNested
import Derived.RangeFuncBound
import Derived.RangeFuncCalls
import Derived.RangeFuncLeaves
import Derived.RangeFuncBox
import Derived.Shelf.Abstract
import Derived.Shelf.RegionOpen
import Derived.WalkKit
import Derived.OwnWalkIn
import Derived.TacticsInMore
import Derived.LoopNIn
import Derived.LoopIn
import Derived.Test.YtegnpgagboccpaaWMore
import Derived.Test.YtegnpgagboccpaaMWords
import Derived.Test.YtegnpgagboccpaaProg
import Derived.Test.YtegnpgagboccpaaBx3
import Derived.Test.YtegnpgagboccpaaBx2
namespace Go.Proofs.Ytegnpgagboccpaa.M
open Go.RowKit Go.Shelf Go.Proofs.YtegnpgagboccpaaW.PrintWords Go.Proofs.YtegnpgagboccpaaW.PrintLast Go.Proofs.YtegnpgagboccpaaW.PrintMore
attribute [local go_sem] Oper.semAt_some
set_option linter.unusedVariables false
set_option linter.unusedSimpArgs false

/-- What has come when k rounds are over: f 0, .., f (k - 1). -/
def upto {α : Type} (f : Nat → α) (k : Nat) : List α := (List.range k).map f
theorem upto_succ {α : Type} (f : Nat → α) (k : Nat) : upto f (k + 1) = upto f k ++ [f k] := by simp [upto, List.range_succ]
theorem upto_length {α : Type} (f : Nat → α) (k : Nat) : (upto f k).length = k := by simp [upto]

/-- What a round keeps: what lay below n₀, and the slice's box. -/
def KpB (n₀ Bs : Nat) (sv : Value) (A B : World) : Prop := Below n₀ A B ∧ (A.cell? ⟨Bs, 0, none⟩ = some sv → B.cell? ⟨Bs, 0, none⟩ = some sv)
theorem kpB_t {n₀ Bs : Nat} {sv : Value} {A B C : World} (h : KpB n₀ Bs sv A B) (k : KpB n₀ Bs sv B C) : KpB n₀ Bs sv A C := ⟨h.1.trans k.1, fun e => k.2 (h.2 e)⟩
theorem kpB_b {n₀ Bs : Nat} {sv : Value} {w : World} (hn : n₀ ≤ w.heap.size) (W : World) (l : Nat) (o o' : Obj) (hl : w.heap.size ≤ l) (h : W.heap[l]? = some o) (h1 : o.isCells = false) (h2 : o.isWalk = false) : KpB n₀ Bs sv W (W.putObj l o') :=
  ⟨belowK_b hn W l o o' hl h h1 h2, fun e => cell_kept e (grownBy_putObj' W l o') (fun r er => by cases er; exact ⟨o, h, h1⟩)⟩

set_option maxRecDepth 100000 in
set_option maxHeartbeats 2000000 in
theorem back1_in {α : Type} (f : Nat → α) (encs : α → Array Value) (F : Fence) (n : Nat) (h8 : F.fn 32) (hro : F.round = none) (hn : 1 ≤ n) (L Bs n₀ : Nat) (A : Option Addr) (cap : Nat) (l : List Int) (hl : l.length ≤ 1000)
    (hf : ∀ k, k < l.length → encs (f k) = #[.int .i64 ((l.length : Int) - 1 - k), .int .i8 (l[l.length - 1 - k]?.getD 0)]) (J Jx : List α → World → Prop)
    (hY : ∀ pre x W, J pre W → pre.length < l.length → YieldAt F (n - 1) Try.prog L (encs x) W fun e W' =>
      (e = .returned (.bool true) ∧ J (pre ++ [x]) W' ∧ KpB n₀ Bs (.slice A l.length cap) W W') ∨ (e = .returned (.bool false) ∧ Jx (pre ++ [x]) W'))
    (W : World) (hBs : W.cell? ⟨Bs, 0, none⟩ = some (.slice A l.length cap)) (hC : ∀ W', Below n₀ W W' → Kd.C (Kd.int .i8) W' A l.length l) (h0 : J [] W) :
    CallsIn F n Try.prog 32 #[.func (.yield L) #[] #[], .pointer (some ⟨Bs, 0, none⟩)] W fun e W' => (∃ v, e = .returned v) ∧
      ((∃ ys, ys = upto f l.length ∧ J ys W') ∨ (∃ pre, (∃ k, k ≤ l.length ∧ pre = upto f k) ∧ Jx pre W')) := by
  refine callsIn_of_wp Try.func32 rfl h8 ?_ hro
  simp only [Try.ntmps32, List.size_toArray, List.length_cons, List.length_nil, Nat.reduceAdd, Nat.reduceSub, Array.replicate_succ, Array.replicate_zero, List.push_toArray, List.append_toArray, List.nil_append, List.cons_append]
  gi_wp2
  gi_loopw [3] (fun i wr => ∃ k : Nat, k ≤ l.length ∧ i = .int .i64 ((l.length : Int) - 1 - k) ∧ J (upto f k) wr ∧ KpB n₀ Bs (.slice A l.length cap) W wr)
    (fun i _ => (intOf i + 1).toNat)
  case atStart =>
    exact ⟨0, Nat.zero_le _, by simp; try omega, h0, Below.refl _ _, fun h => h⟩
  case round =>
    obtain ⟨k, hk, rfl, hJs, hnx⟩ := hrel
    have hBs' := hnx.2 hBs
    by_cases hlt : k < l.length
    · obtain ⟨fn, tmps, assign, body, hy, hR⟩ := hY _ (f k) wr hJs (by rw [upto_length]; exact hlt)
      rw [hf k hlt] at hy
      obtain ⟨ad, c, rfl, hcl, hcK, hcx⟩ := Kd.C_get (hC wr hnx.1) 0 ((l.length : Int) - 1 - k) (by omega) (by omega)
      have hx : wr.cell? (ad.add (l.length - 1 - k)) = some (.int .i8 (l[l.length - 1 - k]?.getD 0)) := by
        obtain ⟨v, rfl⟩ : ∃ v, c = [v] := by
          match c, hcl with
          | [v], _ => exact ⟨v, rfl⟩
        have e1 : ((l.length : Int) - 1 - k).toNat = l.length - 1 - k := by omega
        have e2 := hcx 0 v rfl
        have e3 : v = .int .i8 (l[l.length - 1 - k]?.getD 0) := by
          rw [e1, List.getD_eq_getElem?_getD] at hcK
          exact (List.cons.inj hcK).1
        rw [e3] at e2
        rw [e1, show (Kd.int .i8).sz = 1 from rfl, Nat.mul_one, Nat.add_zero] at e2
        exact e2
      gi_wp2
      refine hR.mono ?_
      rintro e W3 (⟨rfl, hJ3, hk3⟩ | ⟨rfl, hJx3⟩)
      · gi_wp2
        go_roundw
        case rel => exact ⟨k + 1, by omega, by simp; omega, by rw [upto_succ]; exact hJ3, kpB_t hnx hk3⟩
        case measure => simp [intOf]; omega
      · gi_wp2
        refine bodyPost_ret (results_none rfl _ _ _) rfl ?_
        exact ⟨⟨_, rfl⟩, .inr ⟨_, ⟨k + 1, by omega, (upto_succ _ _).symm⟩, hJx3⟩⟩
    · obtain rfl : k = l.length := by omega
      gi_wp2
      go_end0
      exact ⟨⟨_, rfl⟩, .inl ⟨_, rfl, hJs⟩⟩

set_option maxHeartbeats 1000000 in
theorem back_in (F : Fence) (n : Nat) (h5 : F.fn 26) (hro : F.round = none) (A : Option Addr) (len cap : Nat) (w : World) :
    CallsIn F n Try.prog 26 #[.slice A len cap] w fun e w' => e = .returned (.func (.func 32) #[] #[.pointer (some ⟨w.heap.size, 0, none⟩)]) ∧ w' = w.alloc (.cells #[.slice A len cap] 29) := by
  refine callsIn_of_wp Try.func26 rfl h5 ?_ hro
  simp only [Try.ntmps26, List.size_toArray, List.length_cons, List.length_nil, Nat.reduceAdd, Nat.reduceSub, Array.replicate_succ, Array.replicate_zero, List.push_toArray, List.append_toArray, List.nil_append, List.cons_append]
  gi_wp2
  go_ret
  exact ⟨rfl, rfl⟩
theorem back_stops {α : Type} (f : Nat → α) (encs : α → Array Value) (F : Fence) (n : Nat) (h8 : F.fn 32) (hro : F.round = none) (hn : 1 ≤ n) (Bs n₀ : Nat) (A : Option Addr) (cap : Nat) (l : List Int) (hl : l.length ≤ 1000)
    (hf : ∀ k, k < l.length → encs (f k) = #[.int .i64 ((l.length : Int) - 1 - k), .int .i8 (l[l.length - 1 - k]?.getD 0)]) (w : World) (hBs : Bs < w.heap.size) (hn₀ : n₀ ≤ w.heap.size)
    (hc : w.cell? ⟨Bs, 0, none⟩ = some (.slice A l.length cap)) (hC : ∀ W', Below n₀ w W' → Kd.C (Kd.int .i8) W' A l.length l) :
    SeqStopsK F n Try.prog 32 #[.pointer (some ⟨Bs, 0, none⟩)] encs (KpB n₀ Bs (.slice A l.length cap)) (fun ys => ys = upto f l.length)
      (fun pre => ∃ k, k ≤ l.length ∧ pre = upto f k) l.length w := fun L J Jx W hW _ _ hY h0 => by
  have hc' := (hW.cell (p := ⟨Bs, 0, none⟩) hBs).trans hc
  exact back1_in f encs F n h8 hro hn L Bs n₀ A cap l hl hf J Jx hY W hc' (fun W' h => hC W' ((hW.mono hn₀).trans h)) h0


/-- What the number comes to: from the last digit on. -/
def bk8 (l : List Int) (k : Nat) : Int × Int := ((l.length : Int) - 1 - k, l[l.length - 1 - k]?.getD 0)
def stepB (s : Int) (x : Int × Int) : Int := wrap64 (wrap64 (3 * s) + wrap64 x.2)
def impl_FromBalanced.f (k : Nat) (l0 : List Int) : Option (Int × Int) :=
  (B.slices_ContainsFunc_int8_int8_24_at_25.f k l0).bind fun t => if t = true then some (0, 2) else if (l0.length : Int) > 30 then some (0, 3) else some ((upto (bk8 l0) l0.length).foldl stepB 0, 0)
theorem impl_FromBalanced.mono : ∀ a0 k, LeO (impl_FromBalanced.f k a0) (impl_FromBalanced.f (k + 1) a0) := by
  intro a0 k
  unfold impl_FromBalanced.f
  exact LeO.bind (B.slices_ContainsFunc_int8_int8_24_at_25.mono a0 k) (fun _ => LeO.refl _)
set_option maxRecDepth 100000 in
set_option maxHeartbeats 2000000 in
theorem from_in (k : Nat) (A : Option Addr) (cap : Nat) (l : List Int) (r1 r2 : Int) (w : World) (hC : Kd.C (Kd.int .i8) w A l.length l) (hcap : l.length ≤ cap) (h : impl_FromBalanced.f k l = some (r1, r2)) :
    CallsIn Fence.wide 6 Try.prog 13 #[.slice A l.length cap] w fun e W' => e = .returned (.tuple #[.int .i64 r1, .int .i64 r2]) ∧ Below w.heap.size w W' := by
  unfold impl_FromBalanced.f at h
  obtain ⟨t, ht, h⟩ := Option.bind_eq_some_iff.mp h
  have h24 : Fence.wide.fn 24 := trivial
  have h26 : Fence.wide.fn 26 := trivial
  have h32 : Fence.wide.fn 32 := trivial
  refine callsIn_of_wp_marks Try.func13 rfl trivial ?_ rfl
  simp only [Try.ntmps13, List.size_toArray, List.length_cons, List.length_nil, Nat.reduceAdd, Nat.reduceSub, Array.replicate_succ, Array.replicate_zero, List.push_toArray, List.append_toArray, List.nil_append, List.cons_append]
  cases t with
  | true =>
    rw [if_pos rfl] at h
    obtain ⟨rfl, rfl⟩ : 0 = r1 ∧ 2 = r2 := by simpa using h
    gi_wp2_with (gi_at_call 24; refine (callsIn_wide.2 (B.slices_ContainsFunc_int8_int8_24_at_25.calls k A cap l true w hC hcap ht)).mono ?_; rintro e w1 ⟨rfl, hb⟩)
    exact ⟨_, results_tmp2 rfl _ _ _, rfl, hb⟩
  | false =>
    rw [if_neg (by simp)] at h
    by_cases h30 : (l.length : Int) > 30
    · rw [if_pos h30] at h
      obtain ⟨rfl, rfl⟩ : 0 = r1 ∧ 3 = r2 := by simpa using h
      have h30d : decide ((l.length : Int) > 30) = true := decide_eq_true h30
      gi_wp2_with (gi_at_call 24; refine (callsIn_wide.2 (B.slices_ContainsFunc_int8_int8_24_at_25.calls k A cap l false w hC hcap ht)).mono ?_; rintro e w1 ⟨rfl, hb⟩)
      exact ⟨_, results_tmp2 rfl _ _ _, rfl, hb⟩
    · rw [if_neg h30] at h
      have h30d : decide ((l.length : Int) > 30) = false := decide_eq_false h30
      gi_wp2_with (first | (gi_at_call 24; refine (callsIn_wide.2 (B.slices_ContainsFunc_int8_int8_24_at_25.calls k A cap l false w hC hcap ht)).mono ?_; rintro e w1 ⟨rfl, hb⟩) | (gi_at_call 26; refine (back_in Fence.wide 5 trivial rfl _ _ _ _).mono ?_; rintro e w' ⟨rfl, rfl⟩))
      obtain ⟨rfl, rfl⟩ : (upto (bk8 l) l.length).foldl stepB 0 = r1 ∧ 0 = r2 := by simpa using h
      have hb2 := blk_new w1 (.cells #[.int .i64 0] 2)
      have hb3 := blk_new (w1.alloc (.cells #[.int .i64 0] 2)) (.cells #[.slice A l.length cap] 29)
      replace hb2 := blk_alloc hb2 (.cells #[.slice A l.length cap] 29)
      have hB0 : Below w1.heap.size w1 ((w1.alloc (.cells #[.int .i64 0] 2)).alloc (.cells #[.slice A l.length cap] 29)) := below_alloc (below_alloc (Below.refl _ _) _) _
      have hsz : ((w1.alloc (.cells #[.int .i64 0] 2)).alloc (.cells #[.slice A l.length cap] 29)).heap.size = w1.heap.size + 2 := by simp
      simp only [World.size_alloc] at hb2 hb3
      obtain ⟨W0, hW0⟩ : ∃ W0, ((w1.alloc (.cells #[.int .i64 0] 2)).alloc (.cells #[.slice A l.length cap] 29)) = W0 := ⟨_, rfl⟩
      rw [hW0] at hb2 hb3 hB0 hsz ⊢
      have hbs := below_size hb
      have hC1 : Kd.C (Kd.int .i8) w1 A l.length l := Kd.C_below hC hb
      refine wpIn_rangeFunc_ownG rfl (show 1 ≤ 6 by omega) (gf := 32) (lb := #[.pointer (some ⟨w1.heap.size + 1, 0, none⟩)]) rfl h32 (enters_of Try.func32 (by kernel_rfl) rfl)
        (back_stops (bk8 l) (fun x : Int × Int => #[Value.int .i64 x.1, Value.int .i8 x.2]) Fence.wide 5 h32 rfl (by omega) (w1.heap.size + 1) w1.heap.size A cap l (by omega) ?hf W0 (by omega) (by omega) (by rw [blk_cell hb3 0]; rfl) (fun W' h => Kd.C_below hC1 (hB0.trans h)))
        kpB_t (kpB_b (by omega)) (Below.refl _ _) (fun _ => rfl)
        (fun pre W => (W.heap[w1.heap.size]? = some (.cells #[.int .i64 (pre.foldl stepB 0)] 2 (0, 0))) ∧ Below w1.heap.size w1 W)
        (fun _ _ _ => False)
        (OwnFrom.and (show OwnFrom W0.heap.size (fun (pre : List (Int × Int)) (W : World) => W.heap[w1.heap.size]? = some (.cells #[.int .i64 (pre.foldl stepB 0)] 2 (0, 0))) from (by refine Own.from (fun s A B row hs hg hr => ?_) _; exact (grownBy_keeps_cells hg hr hs rfl).trans hs)) (ownFrom_below (Nat.le_refl _) (by omega)))
        (fun _ _ _ _ _ hs _ _ => hs)
        ⟨hb2, hB0⟩
        (fun x => { tmps := #[.slice A l.length cap, undef, .int .i64 0, .int .i64 0, .pointer (some ⟨w1.heap.size, 0, none⟩), undef, .int .i8 x.2, .bool false, .slice A l.length cap, .bool false, .bool false, .slice A l.length cap, .int .i64 l.length, .bool false, .slice A l.length cap, .func (.func 32) #[] #[.pointer (some ⟨w1.heap.size + 1, 0, none⟩)], .int .i64 x.1, .int .i8 x.2, undef, undef, undef, undef, undef, undef], defers := [] }) ?assign ?body ?done ?stop
      case hf =>
        intro k hk
        rfl
      case assign =>
        intro l_ x W K hK
        gi_wp2
        exact hK
      case body =>
        rintro l_ pre ⟨x0, x1⟩ W ⟨h2c, hB⟩ _
        have c5 : W.cell? ⟨w1.heap.size, 0, none⟩ = some (.int .i64 (pre.foldl stepB 0)) := blk_cell h2c 0
        have f5 := blk_frozen h2c 0
        gi_wp2
        refine ⟨KeepsOthers.from (KeepsOthers.setCell _ _ _) _, ⟨(Below.refl _ _).setCell (p := ⟨w1.heap.size, 0, none⟩) (Nat.le_refl _) _, fun e_ => (World.cell?_setCell_far _ _ _ _ (by show w1.heap.size ≠ w1.heap.size + 1; omega)).trans e_⟩, ?_, hB.setCell (p := ⟨w1.heap.size, 0, none⟩) (Nat.le_refl _) _⟩
        refine blk_put h2c 0 _ ?_
        rw [List.foldl_append]
        rfl
      case done =>
        rintro D ys W hD rfl ⟨h2c, hB⟩ hK
        have c5 := blk_cell h2c 0
        gi_wp2
        refine ⟨by simp, .inl ⟨_, _, rfl, run_takeDeferred hK, ?_⟩⟩
        exact ⟨_, results_tmp2 rfl _ _ _, rfl, below_step hb (hB.trans (belowK_b (w := w1) (Nat.le_refl _) W D _ _ (by omega) hK rfl rfl))⟩
      case stop =>
        rintro D c pre W _ _ h _
        exact h.elim
theorem impl_FromBalanced.calls (k : Nat) (A0 : Option Addr) (c0 : Nat) (l0 : List Int) (r1 : Int) (r2 : Int) (w : World) (hr0 : Kd.C (Kd.int .i8) w A0 l0.length l0) (hc0 : l0.length ≤ c0) (h : impl_FromBalanced.f k l0 = some (r1, r2)) :
  Calls Try.prog 13 #[.slice A0 l0.length c0] w fun e w' => e = .returned (.tuple #[.int .i64 r1, .int .i64 r2]) ∧ Below w.heap.size w w' :=
  callsIn_wide.1 (from_in k A0 c0 l0 r1 r2 w hr0 hc0 h)
end Go.Proofs.Ytegnpgagboccpaa.M
