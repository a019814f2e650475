-- By this seat's own program over the kit's printer (arrays, functions told by hand); nothing of it is trusted: the kernel checks it.
import Derived.Test.YteohhkfeeeifaaaMx0
import Derived.Test.YteohhkfeeeifaaaMx1
namespace Go.Proofs.Yteohhkfeeeifaaa.M
open Go.RowKit Go.Proofs.YteohhkfeeeifaaaW.PrintWords Go.Proofs.YteohhkfeeeifaaaW.PrintLast Go.Proofs.YteohhkfeeeifaaaW.PrintMore
attribute [local go_sem] max2_int min2_int max_two min_two max_three min_three max_four min_four   -- for this text's walks alone
set_option linter.unusedVariables false
set_option linter.unusedSimpArgs false

/-! ### impl_isKind: function 35 -/
def impl_isKind.f (a0 : Int) : Option (Bool) := (impl_within.f a0 0 2).bind fun t170 => (some t170)
set_option maxHeartbeats 8000000 in
set_option maxRecDepth 100000 in
theorem impl_isKind.calls (a0 : Int) (r : Bool) (w : World) (h : impl_isKind.f a0 = some r) :
  Calls Try.prog 35 #[.int .i64 a0] w fun e w' => e = .returned (.bool r) ∧ Drawn0 w w' := by
 have H : ((impl_within.f a0 0 2).bind fun t170 => (some t170)) = some r := h
 clear h
 replace H := Option.bind_eq_some_iff.mp H
 obtain ⟨t170, A20, H⟩ := H
 replace H : (some t170) = some r := H
 have A2 := Aside0.mk A20
 clear A20
 obtain rfl := Option.some.inj H
 go_enter Try.func35, Try.ntmps35
 go_wp2_with (first | ((with_reducible refine gate_callee (f := 39) rfl ?_); refine goesL_ (some 4) rfl rfl Try.func39 (by kernel_rfl) rfl #[.int .i64 a0, .int .i64 0, .int .i64 2] rfl (by (try simp only [List.map_toArray, List.map_cons, List.map_nil]); first | done | rfl | (simp only [List.length_drop, List.length_take]; rfl)) ?_; (with_reducible refine (impl_within.calls a0 0 2 t170 _ A2.out).mono ?_); rintro e w' ⟨rfl, ⟨nd, rfl⟩⟩; refine ⟨_, rfl, ?_⟩))
 go_ret
 exact ⟨by first | rfl | (simp; done) | (simp [*]; done), by repeat (first | exact Drawn0.refl _ | apply Drawn0.step)⟩

/-! ### impl_power: function 36 -/
def impl_power.l0 : Nat → Int → Int → Int → Option (Int)
 | 0, _, _, _ => none
 | k + 1, x3, x4, x5 => if x5 < x4 then (impl_power.l0 k (wrap64 (x3 * 3)) x4 (wrap64 (x5 + 1))) else (some x3)
def impl_power.f (k : Nat) (a0 : Int) : Option (Int) := impl_power.l0 k 1 a0 0
theorem impl_power.mono_l : ∀ k, (∀ y0 y1 y2, LeO (impl_power.l0 k y0 y1 y2) (impl_power.l0 (k + 1) y0 y1 y2))
 | 0 => fun _ _ _ r h => by simp [impl_power.l0] at h
 | k + 1 => by
  have ih0 := impl_power.mono_l k
  ·intro y0 y1 y2
   unfold impl_power.l0
   repeat' first
   | (with_reducible exact ih0 _ _ _)
   | (with_reducible exact LeO.refl _)
   | (with_reducible exact LeO.none _)
   | (with_reducible refine LeO.ite ?_ ?_)
   | (with_reducible refine LeO.bind ?_ (fun _ => ?_))
   | exact ih0 _ _ _
   | exact LeO.none _
   | refine LeO.ite ?_ ?_
   | refine LeO.bind ?_ (fun _ => ?_)
theorem impl_power.mono : ∀ a0 k, LeO (impl_power.f k a0) (impl_power.f (k + 1) a0) := by
 intro a0 k
 have ih0 := impl_power.mono_l k
 unfold impl_power.f
 repeat' first
   | (with_reducible exact ih0 _ _ _)
   | (with_reducible exact LeO.refl _)
   | (with_reducible exact LeO.none _)
   | (with_reducible refine LeO.ite ?_ ?_)
   | (with_reducible refine LeO.bind ?_ (fun _ => ?_))
   | exact ih0 _ _ _
   | exact LeO.none _
   | refine LeO.ite ?_ ?_
   | refine LeO.bind ?_ (fun _ => ?_)
set_option maxHeartbeats 8000000 in
set_option maxRecDepth 100000 in
theorem impl_power.calls (k : Nat) (a0 : Int) (r : Int) (w : World) (h : impl_power.f k a0 = some r) :
  Calls Try.prog 36 #[.int .i64 a0] w fun e w' => e = .returned (.int .i64 r) ∧ Drawn0 w w' := by
 have H : (impl_power.l0 k 1 a0 0) = some r := h
 clear h
 have H' := Aside0.mk H
 clear H
 go_enter Try.func36, Try.ntmps36
 go_wp2
 go_loopg [3, 5] k (fun kq v3 v5 w' => ∃ (x3_1 : Int) (x5_1 : Int), v3 = .int .i64 x3_1 ∧ v5 = .int .i64 x5_1 ∧ Aside0 (impl_power.l0 kq x3_1 a0 x5_1 = some r) ∧ Aside0 (kq ≤ k) ∧ Drawn0 w w')
 case atStart => exact ⟨(1), (0), (by first | rfl | (simp; done) | (simp [*]; done)), (by first | rfl | (simp; done) | (simp [*]; done)), H', ⟨Nat.le_refl _⟩, by repeat (first | exact Drawn0.refl _ | apply Drawn0.step)⟩
 case round =>
  clear H'
  obtain ⟨x3_1, x5_1, rfl, rfl, HA, HK1, ⟨m1, rfl⟩⟩ := hrel
  cases gk with
  | zero => exact absurd HA.out (by simp [impl_power.l0])
  | succ k1 =>
   have H := HA.out
   clear HA
   simp only [impl_power.l0] at H
   by_cases c2 : x5_1 < a0
   ·rw [if_pos c2] at H
    have c2b0 : decide (x5_1 < a0) = true := decide_eq_true c2
    clear c2
    have H' := Aside0.mk H
    clear H
    go_wp2
    go_roundg k1
    case measure => have := HK1.out; omega
    case rel => exact ⟨(wrap64 (x3_1 * 3)), (wrap64 (x5_1 + 1)), (by first | rfl | (simp; done) | (simp [*]; done)), (by first | rfl | (simp; done) | (simp [*]; done)), H', ⟨by have := HK1.out; omega⟩, by repeat (first | exact Drawn0.refl _ | apply Drawn0.step)⟩
   ·rw [if_neg c2] at H
    have c2b0 : decide (x5_1 < a0) = false := decide_eq_false c2
    clear c2
    obtain rfl := Option.some.inj H
    go_wp2
    go_ret
    exact ⟨by first | rfl | (simp; done) | (simp [*]; done), by repeat (first | exact Drawn0.refl _ | apply Drawn0.step)⟩

/-! ### impl_wordAt: function 40 -/
def impl_wordAt.l0 : Nat → Int → Int → Int → Int → Int → Int → Option (Int × Int × Int × Int)
 | 0, _, _, _, _, _, _ => none
 | k + 1, x1, x6, x173000, x173001, x173002, x173003 => if x6 ≥ 0 then (if 0 ≤ x6 then (if x6 < 4 then (impl_wordAt.l0 k (wrap64 (Int.tdiv x1 3)) (wrap64 (x6 - 1)) (aup x6 0 (IntKind.i8.wrap ((IntKind.i8.wrap (Int.tmod x1 3)) - 1)) x173000) (aup x6 1 (IntKind.i8.wrap ((IntKind.i8.wrap (Int.tmod x1 3)) - 1)) x173001) (aup x6 2 (IntKind.i8.wrap ((IntKind.i8.wrap (Int.tmod x1 3)) - 1)) x173002) (aup x6 3 (IntKind.i8.wrap ((IntKind.i8.wrap (Int.tmod x1 3)) - 1)) x173003)) else (none)) else (none)) else (some (x173000, x173001, x173002, x173003))
def impl_wordAt.f (k : Nat) (a0 : Int) (a1 : Int) : Option (Int × Int × Int × Int) := impl_wordAt.l0 k a1 (wrap64 (a0 - 1)) 0 0 0 0
theorem impl_wordAt.mono_l : ∀ k, (∀ y0 y1 y2 y3 y4 y5, LeO (impl_wordAt.l0 k y0 y1 y2 y3 y4 y5) (impl_wordAt.l0 (k + 1) y0 y1 y2 y3 y4 y5))
 | 0 => fun _ _ _ _ _ _ r h => by simp [impl_wordAt.l0] at h
 | k + 1 => by
  have ih0 := impl_wordAt.mono_l k
  ·intro y0 y1 y2 y3 y4 y5
   unfold impl_wordAt.l0
   repeat' first
   | (with_reducible exact ih0 _ _ _ _ _ _)
   | (with_reducible exact LeO.refl _)
   | (with_reducible exact LeO.none _)
   | (with_reducible refine LeO.ite ?_ ?_)
   | (with_reducible refine LeO.bind ?_ (fun _ => ?_))
   | exact ih0 _ _ _ _ _ _
   | exact LeO.none _
   | refine LeO.ite ?_ ?_
   | refine LeO.bind ?_ (fun _ => ?_)
theorem impl_wordAt.mono : ∀ a0 a1 k, LeO (impl_wordAt.f k a0 a1) (impl_wordAt.f (k + 1) a0 a1) := by
 intro a0 a1 k
 have ih0 := impl_wordAt.mono_l k
 unfold impl_wordAt.f
 repeat' first
   | (with_reducible exact ih0 _ _ _ _ _ _)
   | (with_reducible exact LeO.refl _)
   | (with_reducible exact LeO.none _)
   | (with_reducible refine LeO.ite ?_ ?_)
   | (with_reducible refine LeO.bind ?_ (fun _ => ?_))
   | exact ih0 _ _ _ _ _ _
   | exact LeO.none _
   | refine LeO.ite ?_ ?_
   | refine LeO.bind ?_ (fun _ => ?_)
set_option maxHeartbeats 8000000 in
set_option maxRecDepth 100000 in
theorem impl_wordAt.calls (k : Nat) (a0 : Int) (a1 : Int) (r1 : Int) (r2 : Int) (r3 : Int) (r4 : Int) (w : World) (h : impl_wordAt.f k a0 a1 = some (r1, r2, r3, r4)) :
  Calls Try.prog 40 #[.int .i64 a0, .int .i64 a1] w fun e w' => e = .returned (.agg #[.int .i8 r1, .int .i8 r2, .int .i8 r3, .int .i8 r4]) ∧ Below w.heap.size w w' := by
 have hu24 := Try.underlying24
 have HB := Aside0.mk (Below.refl w.heap.size w)
 have H : (impl_wordAt.l0 k a1 (wrap64 (a0 - 1)) 0 0 0 0) = some (r1, r2, r3, r4) := h
 clear h
 have H' := Aside0.mk H
 clear H
 go_enter Try.func40, Try.ntmps40
 go_wp2_with (first | ((with_reducible refine gate_dst (N := 4) rfl ?_); refine box_event ?hg (N := 4) ?hd (cs := #[.int .i8 0, .int .i8 0, .int .i8 0, .int .i8 0]) (t := 24) ?hr ?_; (case hd => rfl); (case hg => rfl); (case hr => first | (go_simp; done) | (go_simp; rfl)); intro gb171 hg w3 hbox hb; have n0_ := Aside0.mk (below_step (bl_ HB) hb); have n1_ := Aside0.mk (hbox); have n2_ := Aside0.mk ((by rw [hg]; exact (below_size (bl_ HB)) : w.heap.size ≤ gb171)); have n3_ := Aside0.mk ((by rw [hg]; exact (below_size (bl_ HB)) : w.heap.size ≤ gb171)); clear HB; have HB := n0_; have BK171 := n1_; have GW171 := n2_; have GE171 := n3_; clear n0_ n1_ n2_ n3_; clear hb hbox hg) | ((with_reducible refine gate_dst (N := 5) rfl ?_); refine box_event ?hg (N := 5) ?hd (cs := #[.int .i8 0, .int .i8 0, .int .i8 0, .int .i8 0]) (t := 24) ?hr ?_; (case hd => rfl); (case hg => rfl); (case hr => first | (go_simp; done) | (go_simp; rfl)); intro gb172 hg w4 hbox hb; have n0_ := Aside0.mk (blk_below (g := gb171) (o := .cells #[.int .i8 0, .int .i8 0, .int .i8 0, .int .i8 0] 24 (0, 0)) (pl_ BK171) hb); have n1_ := Aside0.mk (below_step (by repeat (first | (with_reducible first | exact HB.out | apply below_alloc | apply pw_below_drewN | apply below_drew1 | refine below_set ?_ GE171.out) | exact HB.out)) hb); have n2_ := Aside0.mk (hbox); have n3_ := Aside0.mk ((by rw [hg]; exact (below_size (by repeat (first | (with_reducible first | exact HB.out | apply below_alloc | apply pw_below_drewN | apply below_drew1 | refine below_set ?_ GE171.out) | exact HB.out))) : w.heap.size ≤ gb172)); have n4_ := Aside0.mk ((by rw [hg]; exact (below_size (by repeat (first | (with_reducible first | exact HB.out | apply below_alloc | apply pw_below_drewN | apply below_drew1 | refine below_set ?_ GE171.out) | exact HB.out))) : w.heap.size ≤ gb172)); have n5_ := Aside0.mk ((by rw [hg]; exact Nat.ne_of_lt (blk_lt (g := gb171) (o := .cells #[.int .i8 0, .int .i8 0, .int .i8 0, .int .i8 0] 24 (0, 0)) (pl_ BK171)) : gb171 ≠ gb172)); have n6_ := Aside0.mk ((by rw [hg]; exact Nat.ne_of_gt (blk_lt (g := gb171) (o := .cells #[.int .i8 0, .int .i8 0, .int .i8 0, .int .i8 0] 24 (0, 0)) (pl_ BK171)) : gb172 ≠ gb171)); clear BK171; clear HB; have BK171 := n0_; have HB := n1_; have BK172 := n2_; have GW172 := n3_; have GE172 := n4_; have NB171_172 := n5_; have NB172_171 := n6_; clear n0_ n1_ n2_ n3_ n4_ n5_ n6_; clear hb hbox hg; have hnb5 := NB172_171.out; have hnc5 := NB171_172.out; have hcz6_0 : w4.cell? ⟨gb172, 0, none⟩ = some (.int .i8 0) := (blk_cell BK172.out 0).trans rfl; have hcz6_1 : w4.cell? ⟨gb172, 1, none⟩ = some (.int .i8 0) := (blk_cell BK172.out 1).trans rfl; have hcz6_2 : w4.cell? ⟨gb172, 2, none⟩ = some (.int .i8 0) := (blk_cell BK172.out 2).trans rfl; have hcz6_3 : w4.cell? ⟨gb172, 3, none⟩ = some (.int .i8 0) := (blk_cell BK172.out 3).trans rfl; have hfz6_0 := blk_frozen BK172.out 0; have hfz6_1 := blk_frozen BK172.out 1; have hfz6_2 := blk_frozen BK172.out 2; have hfz6_3 := blk_frozen BK172.out 3))
 go_loopg [1, 6] k (fun kq v1 v6 w' => ∃ (x1_1 : Int) (x6_1 : Int) (x173000_1 : Int) (x173001_1 : Int) (x173002_1 : Int) (x173003_1 : Int), v1 = .int .i64 x1_1 ∧ v6 = .int .i64 x6_1 ∧ Aside0 (impl_wordAt.l0 kq x1_1 x6_1 x173000_1 x173001_1 x173002_1 x173003_1 = some (r1, r2, r3, r4)) ∧ Aside0 (kq ≤ k) ∧ Aside0 (w'.heap[gb171]? = some (.cells #[.int .i8 0, .int .i8 0, .int .i8 0, .int .i8 0] 24 (0, 0))) ∧ Aside0 (w'.heap[gb172]? = some (.cells #[.int .i8 x173000_1, .int .i8 x173001_1, .int .i8 x173002_1, .int .i8 x173003_1] 24 (0, 0))) ∧ Aside0 (Below w.heap.size w w'))
 case atStart => exact ⟨(a1), (wrap64 (a0 - 1)), (0), (0), (0), (0), (by first | rfl | (simp; done) | (simp [*]; done)), (by first | rfl | (simp; done) | (simp [*]; done)), H', ⟨Nat.le_refl _⟩, ⟨by (with_reducible repeat (first | refine blk_drewN ?_ _ | refine blk_drew ?_ | refine blk_alloc ?_ _)); refine blk_far ?_ NB171_172.out _; (with_reducible repeat (first | refine blk_drewN ?_ _ | refine blk_drew ?_ | refine blk_alloc ?_ _)); refine blk_far ?_ NB171_172.out _; (with_reducible repeat (first | refine blk_drewN ?_ _ | refine blk_drew ?_ | refine blk_alloc ?_ _)); refine blk_far ?_ NB171_172.out _; (with_reducible repeat (first | refine blk_drewN ?_ _ | refine blk_drew ?_ | refine blk_alloc ?_ _)); refine blk_far ?_ NB171_172.out _; (with_reducible repeat (first | refine blk_drewN ?_ _ | refine blk_drew ?_ | refine blk_alloc ?_ _)); exact BK171.out⟩, ⟨by (with_reducible repeat (first | refine blk_drewN ?_ _ | refine blk_drew ?_ | refine blk_alloc ?_ _)); refine blk_put (cs := #[.int .i8 0, .int .i8 0, .int .i8 0, .int .i8 0]) ?_ 3 _ rfl; (with_reducible repeat (first | refine blk_drewN ?_ _ | refine blk_drew ?_ | refine blk_alloc ?_ _)); refine blk_put (cs := #[.int .i8 0, .int .i8 0, .int .i8 0, .int .i8 0]) ?_ 2 _ rfl; (with_reducible repeat (first | refine blk_drewN ?_ _ | refine blk_drew ?_ | refine blk_alloc ?_ _)); refine blk_put (cs := #[.int .i8 0, .int .i8 0, .int .i8 0, .int .i8 0]) ?_ 1 _ rfl; (with_reducible repeat (first | refine blk_drewN ?_ _ | refine blk_drew ?_ | refine blk_alloc ?_ _)); refine blk_put (cs := #[.int .i8 0, .int .i8 0, .int .i8 0, .int .i8 0]) ?_ 0 _ rfl; (with_reducible repeat (first | refine blk_drewN ?_ _ | refine blk_drew ?_ | refine blk_alloc ?_ _)); exact BK172.out⟩, ⟨by repeat (first | (with_reducible first | exact HB.out | apply below_alloc | apply pw_below_drewN | apply below_drew1 | refine below_set ?_ GE171.out | refine below_set ?_ GE172.out) | exact HB.out)⟩⟩
 case round =>
  clear H'
  try clear p2
  try clear c4
  try clear c5
  try clear p6
  try clear hcz6_0
  try clear hcz6_1
  try clear hcz6_2
  try clear hcz6_3
  try clear hfz6_0
  try clear hfz6_1
  try clear hfz6_2
  try clear hfz6_3
  obtain ⟨x1_1, x6_1, x173000_1, x173001_1, x173002_1, x173003_1, rfl, rfl, HA, HK1, BK171, BK172, HB⟩ := hrel
  cases gk with
  | zero => exact absurd HA.out (by simp [impl_wordAt.l0])
  | succ k1 =>
   have H := HA.out
   clear HA
   simp only [impl_wordAt.l0] at H
   by_cases c7 : x6_1 ≥ 0
   ·rw [if_pos c7] at H
    have c7b0 : decide (0 ≤ x6_1) = true := decide_eq_true c7
    clear c7
    by_cases c8 : 0 ≤ x6_1
    ·rw [if_pos c8] at H
     have c8b0 : decide (0 ≤ x6_1) = true := decide_eq_true c8
     clear c8
     by_cases c9 : x6_1 < 4
     ·rw [if_pos c9] at H
      have c9b0 : decide (x6_1 < 4) = true := decide_eq_true c9
      clear c9
      have H' := Aside0.mk H
      clear H
      have hnb12 := NB172_171.out
      have hnc12 := NB171_172.out
      have hcz13_0 : wr.cell? ⟨gb172, 0, none⟩ = some (.int .i8 x173000_1) := (blk_cell BK172.out 0).trans rfl
      have hcz13_1 : wr.cell? ⟨gb172, 1, none⟩ = some (.int .i8 x173001_1) := (blk_cell BK172.out 1).trans rfl
      have hcz13_2 : wr.cell? ⟨gb172, 2, none⟩ = some (.int .i8 x173002_1) := (blk_cell BK172.out 2).trans rfl
      have hcz13_3 : wr.cell? ⟨gb172, 3, none⟩ = some (.int .i8 x173003_1) := (blk_cell BK172.out 3).trans rfl
      have hfz13_0 := blk_frozen BK172.out 0
      have hfz13_1 := blk_frozen BK172.out 1
      have hfz13_2 := blk_frozen BK172.out 2
      have hfz13_3 := blk_frozen BK172.out 3
      have p10 : 0 ≤ (x6_1 : Int) := asm_
      have q10 : (x6_1 : Int) < 4 := asm_
      have hx10 : wr.cell? ⟨gb172, (x6_1 : Int).toNat, none⟩ = some (.int .i8 (rd [x173000_1, x173001_1, x173002_1, x173003_1] x6_1)) := ard_cell (k := .i8) (l := [x173000_1, x173001_1, x173002_1, x173003_1]) BK172.out p10 q10
      have hf10 := blk_frozen BK172.out (x6_1 : Int).toNat
      have P10 := Aside0.mk p10
      have Q10 := Aside0.mk q10
      replace p10 := eq_true p10
      replace q10 := eq_true q10
      go_wp2_with (first | ((with_reducible refine gate_store (t := 22) (p := 19) rfl ?_); refine store_event (t := 22) (p := 19) (v := ?vo_w15) (w1 := (wr.setCell ⟨gb172, (x6_1 : Int).toNat, none⟩ (.int .i8 (IntKind.i8.wrap ((IntKind.i8.wrap (Int.tmod x1_1 3)) - 1))))) ?hg ?ho ?hn ?hr ?_; (case ho => rfl); (case hg => rfl); (case hn => rfl); (case hr => first | (go_simp; done) | (go_simp; rfl)); intro w15 hw; have n0_ : Aside0 (w15.heap[gb171]? = some (.cells #[.int .i8 0, .int .i8 0, .int .i8 0, .int .i8 0] 24 (0, 0))) := ⟨(by rw [hw]; exact (by (with_reducible repeat (first | refine blk_drewN ?_ _ | refine blk_drew ?_ | refine blk_alloc ?_ _)); refine blk_far ?_ NB171_172.out _; (with_reducible repeat (first | refine blk_drewN ?_ _ | refine blk_drew ?_ | refine blk_alloc ?_ _)); exact BK171.out))⟩; have n1_ : Aside0 (w15.heap[gb172]? = some (.cells #[.int .i8 (aup x6_1 0 (IntKind.i8.wrap ((IntKind.i8.wrap (Int.tmod x1_1 3)) - 1)) x173000_1), .int .i8 (aup x6_1 1 (IntKind.i8.wrap ((IntKind.i8.wrap (Int.tmod x1_1 3)) - 1)) x173001_1), .int .i8 (aup x6_1 2 (IntKind.i8.wrap ((IntKind.i8.wrap (Int.tmod x1_1 3)) - 1)) x173002_1), .int .i8 (aup x6_1 3 (IntKind.i8.wrap ((IntKind.i8.wrap (Int.tmod x1_1 3)) - 1)) x173003_1)] 24 (0, 0))) := ⟨(by rw [hw]; exact (by (with_reducible repeat (first | refine blk_drewN ?_ _ | refine blk_drew ?_ | refine blk_alloc ?_ _)); refine blk_put (cs := #[.int .i8 x173000_1, .int .i8 x173001_1, .int .i8 x173002_1, .int .i8 x173003_1]) ?_ (x6_1 : Int).toNat _ (ups_set (k := .i8) (l := [x173000_1, x173001_1, x173002_1, x173003_1]) P10.out); (with_reducible repeat (first | refine blk_drewN ?_ _ | refine blk_drew ?_ | refine blk_alloc ?_ _)); exact BK172.out))⟩; have n2_ : Aside0 (Below w.heap.size w w15) := ⟨(by rw [hw]; exact (by repeat (first | (with_reducible first | exact HB.out | apply below_alloc | apply pw_below_drewN | apply below_drew1 | refine below_set ?_ GE171.out | refine below_set ?_ GE172.out) | exact HB.out)))⟩; clear hw; clear BK171; clear BK172; clear HB; have BK171 := n0_; have BK172 := n1_; have HB := n2_; clear n0_ n1_ n2_))
      go_roundg k1
      case measure => have := HK1.out; omega
      case rel => exact ⟨(wrap64 (Int.tdiv x1_1 3)), (wrap64 (x6_1 - 1)), (aup x6_1 0 (IntKind.i8.wrap ((IntKind.i8.wrap (Int.tmod x1_1 3)) - 1)) x173000_1), (aup x6_1 1 (IntKind.i8.wrap ((IntKind.i8.wrap (Int.tmod x1_1 3)) - 1)) x173001_1), (aup x6_1 2 (IntKind.i8.wrap ((IntKind.i8.wrap (Int.tmod x1_1 3)) - 1)) x173002_1), (aup x6_1 3 (IntKind.i8.wrap ((IntKind.i8.wrap (Int.tmod x1_1 3)) - 1)) x173003_1), (by first | rfl | (simp; done) | (simp [*]; done)), (by first | rfl | (simp; done) | (simp [*]; done)), H', ⟨by have := HK1.out; omega⟩, ⟨pl_ BK171⟩, ⟨pl_ BK172⟩, ⟨by repeat (first | (with_reducible first | exact HB.out | apply below_alloc | apply pw_below_drewN | apply below_drew1 | refine below_set ?_ GE171.out | refine below_set ?_ GE172.out) | exact HB.out)⟩⟩
     ·rw [if_neg c9] at H
      exact absurd H (by simp)
    ·rw [if_neg c8] at H
     exact absurd H (by simp)
   ·rw [if_neg c7] at H
    have c7b0 : decide (0 ≤ x6_1) = false := decide_eq_false c7
    clear c7
    simp only [Option.some.injEq, Prod.mk.injEq] at H
    obtain ⟨rfl, rfl, rfl, rfl⟩ := H
    have hnb16 := NB172_171.out
    have hnc16 := NB171_172.out
    have hcz17_0 : wr.cell? ⟨gb172, 0, none⟩ = some (.int .i8 x173000_1) := (blk_cell BK172.out 0).trans rfl
    have hcz17_1 : wr.cell? ⟨gb172, 1, none⟩ = some (.int .i8 x173001_1) := (blk_cell BK172.out 1).trans rfl
    have hcz17_2 : wr.cell? ⟨gb172, 2, none⟩ = some (.int .i8 x173002_1) := (blk_cell BK172.out 2).trans rfl
    have hcz17_3 : wr.cell? ⟨gb172, 3, none⟩ = some (.int .i8 x173003_1) := (blk_cell BK172.out 3).trans rfl
    have hfz17_0 := blk_frozen BK172.out 0
    have hfz17_1 := blk_frozen BK172.out 1
    have hfz17_2 := blk_frozen BK172.out 2
    have hfz17_3 := blk_frozen BK172.out 3
    have hcz18_0 : wr.cell? ⟨gb171, 0, none⟩ = some (.int .i8 0) := (blk_cell BK171.out 0).trans rfl
    have hcz18_1 : wr.cell? ⟨gb171, 1, none⟩ = some (.int .i8 0) := (blk_cell BK171.out 1).trans rfl
    have hcz18_2 : wr.cell? ⟨gb171, 2, none⟩ = some (.int .i8 0) := (blk_cell BK171.out 2).trans rfl
    have hcz18_3 : wr.cell? ⟨gb171, 3, none⟩ = some (.int .i8 0) := (blk_cell BK171.out 3).trans rfl
    have hfz18_0 := blk_frozen BK171.out 0
    have hfz18_1 := blk_frozen BK171.out 1
    have hfz18_2 := blk_frozen BK171.out 2
    have hfz18_3 := blk_frozen BK171.out 3
    go_wp2
    refine bodyPost_ret (results_cell_row rfl _ _ gb171 24 #[.int .i8 x173000_1, .int .i8 x173001_1, .int .i8 x173002_1, .int .i8 x173003_1] (0, 0) _ rfl (by (with_reducible repeat (first | refine blk_drewN ?_ _ | refine blk_drew ?_ | refine blk_alloc ?_ _)); refine blk_put (cs := #[.int .i8 x173000_1, .int .i8 x173001_1, .int .i8 x173002_1, .int .i8 0]) ?_ 3 _ rfl; (with_reducible repeat (first | refine blk_drewN ?_ _ | refine blk_drew ?_ | refine blk_alloc ?_ _)); refine blk_put (cs := #[.int .i8 x173000_1, .int .i8 x173001_1, .int .i8 0, .int .i8 0]) ?_ 2 _ rfl; (with_reducible repeat (first | refine blk_drewN ?_ _ | refine blk_drew ?_ | refine blk_alloc ?_ _)); refine blk_put (cs := #[.int .i8 x173000_1, .int .i8 0, .int .i8 0, .int .i8 0]) ?_ 1 _ rfl; (with_reducible repeat (first | refine blk_drewN ?_ _ | refine blk_drew ?_ | refine blk_alloc ?_ _)); refine blk_put (cs := #[.int .i8 0, .int .i8 0, .int .i8 0, .int .i8 0]) ?_ 0 _ rfl; (with_reducible repeat (first | refine blk_drewN ?_ _ | refine blk_drew ?_ | refine blk_alloc ?_ _)); exact BK171.out) Try.underlying24 rfl (by kernel_rfl)) rfl ?_
    exact ⟨by first | rfl | (simp [errW_none, errW_some] <;> rfl) | (simp [*, errW_none, errW_some] <;> rfl), by repeat (first | (with_reducible first | exact HB.out | apply below_alloc | apply pw_below_drewN | apply below_drew1 | refine below_set ?_ GE171.out | refine below_set ?_ GE172.out) | exact HB.out)⟩

end Go.Proofs.Yteohhkfeeeifaaa.M
