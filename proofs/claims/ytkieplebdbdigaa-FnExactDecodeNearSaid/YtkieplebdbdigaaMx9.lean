-- By this seat's own program over the kit's printer (arrays, functions told by hand); nothing of it is trusted: the kernel checks it.
import Derived.Test.YtkieplebdbdigaaMx0
namespace Go.Proofs.Ytkieplebdbdigaa.M
open Go.RowKit Go.Proofs.YtkieplebdbdigaaW.PrintWords Go.Proofs.YtkieplebdbdigaaW.PrintLast Go.Proofs.YtkieplebdbdigaaW.PrintMore
attribute [local go_sem] max2_int min2_int max_two min_two max_three min_three max_four min_four   -- for this text's walks alone
set_option linter.unusedVariables false
set_option linter.unusedSimpArgs false

/-! ### spec_l04Opposite: function 46 -/
def spec_l04Opposite.l0 : Nat → Int → Int → Int → Int → Int → Option (Int × Int × Int × Int)
 | 0, _, _, _, _, _ => none
 | k + 1, x3, x162000, x162001, x162002, x162003 => if x3 < 4 then (if 0 ≤ x3 then (spec_l04Opposite.l0 k (wrap64 (x3 + 1)) (aup x3 0 (IntKind.i8.wrap (-(rd [x162000, x162001, x162002, x162003] x3))) x162000) (aup x3 1 (IntKind.i8.wrap (-(rd [x162000, x162001, x162002, x162003] x3))) x162001) (aup x3 2 (IntKind.i8.wrap (-(rd [x162000, x162001, x162002, x162003] x3))) x162002) (aup x3 3 (IntKind.i8.wrap (-(rd [x162000, x162001, x162002, x162003] x3))) x162003)) else (none)) else (some (x162000, x162001, x162002, x162003))
def spec_l04Opposite.f (k : Nat) (a0_0 : Int) (a0_1 : Int) (a0_2 : Int) (a0_3 : Int) : Option (Int × Int × Int × Int) := spec_l04Opposite.l0 k 0 a0_0 a0_1 a0_2 a0_3
theorem spec_l04Opposite.mono_l : ∀ k, (∀ y0 y1 y2 y3 y4, LeO (spec_l04Opposite.l0 k y0 y1 y2 y3 y4) (spec_l04Opposite.l0 (k + 1) y0 y1 y2 y3 y4))
 | 0 => fun _ _ _ _ _ r h => by simp [spec_l04Opposite.l0] at h
 | k + 1 => by
  have ih0 := spec_l04Opposite.mono_l k
  ·intro y0 y1 y2 y3 y4
   unfold spec_l04Opposite.l0
   repeat' first
   | (with_reducible exact ih0 _ _ _ _ _)
   | (with_reducible exact LeO.refl _)
   | (with_reducible exact LeO.none _)
   | (with_reducible refine LeO.ite ?_ ?_)
   | (with_reducible refine LeO.bind ?_ (fun _ => ?_))
   | exact ih0 _ _ _ _ _
   | exact LeO.none _
   | refine LeO.ite ?_ ?_
   | refine LeO.bind ?_ (fun _ => ?_)
theorem spec_l04Opposite.mono : ∀ a0 a1 a2 a3 k, LeO (spec_l04Opposite.f k a0 a1 a2 a3) (spec_l04Opposite.f (k + 1) a0 a1 a2 a3) := by
 intro a0 a1 a2 a3 k
 have ih0 := spec_l04Opposite.mono_l k
 unfold spec_l04Opposite.f
 repeat' first
   | (with_reducible exact ih0 _ _ _ _ _)
   | (with_reducible exact LeO.refl _)
   | (with_reducible exact LeO.none _)
   | (with_reducible refine LeO.ite ?_ ?_)
   | (with_reducible refine LeO.bind ?_ (fun _ => ?_))
   | exact ih0 _ _ _ _ _
   | exact LeO.none _
   | refine LeO.ite ?_ ?_
   | refine LeO.bind ?_ (fun _ => ?_)
set_option maxHeartbeats 8000000 in
set_option maxRecDepth 100000 in
theorem spec_l04Opposite.calls (k : Nat) (a0_0 : Int) (a0_1 : Int) (a0_2 : Int) (a0_3 : Int) (r1 : Int) (r2 : Int) (r3 : Int) (r4 : Int) (w : World) (h : spec_l04Opposite.f k a0_0 a0_1 a0_2 a0_3 = some (r1, r2, r3, r4)) :
  Calls Try.prog 46 #[.agg #[.int .i8 a0_0, .int .i8 a0_1, .int .i8 a0_2, .int .i8 a0_3]] w fun e w' => e = .returned (.agg #[.int .i8 r1, .int .i8 r2, .int .i8 r3, .int .i8 r4]) ∧ Below w.heap.size w w' := by
 have hu41 := Try.underlying41
 have HB := A_ (Below.refl w.heap.size w)
 have H : (spec_l04Opposite.l0 k 0 a0_0 a0_1 a0_2 a0_3) = some (r1, r2, r3, r4) := h
 clear h
 have H' := Aside0.mk H
 clear H
 go_enter Try.func46, Try.ntmps46
 go_wp2_with (first | ((with_reducible refine gate_dst (N := 1) rfl ?_); refine box_event ?hg (N := 1) ?hd (cs := #[.int .i8 a0_0, .int .i8 a0_1, .int .i8 a0_2, .int .i8 a0_3]) (t := 41) ?hr ?_; (case hd => rfl); (case hg => rfl); (case hr => first | (go_simp; done) | (go_simp; rfl)); intro gb161 hg w2 hbox hb; have n0_ := A_ (below_step (bl_ HB) hb); have n1_ := A_ (hbox); have n2_ := A_ ((by rw [hg]; exact (below_size (bl_ HB)) : w.heap.size ≤ gb161)); have n3_ := n2_; clear HB; have HB := n0_; have BK161 := n1_; have GW161 := n2_; have GE161 := n3_; clear n0_ n1_ n2_ n3_; clear hb hbox hg) | ((with_reducible refine gate_dst (N := 2) rfl ?_); refine box_event ?hg (N := 2) ?hd (cs := #[.int .i8 0, .int .i8 0, .int .i8 0, .int .i8 0]) (t := 41) ?hr ?_; (case hd => rfl); (case hg => rfl); (case hr => first | (go_simp; done) | (go_simp; rfl)); intro gb162 hg w3 hbox hb; have n0_ := A_ (blk_below (pl_ BK161) hb); have n1_ := A_ (below_step (bl_ HB) hb); have n2_ := A_ (hbox); have n3_ := A_ ((by rw [hg]; exact (below_size (bl_ HB)) : w.heap.size ≤ gb162)); have n4_ := n3_; have n5_ := A_ ((by rw [hg]; exact Nat.ne_of_lt (blk_lt (pl_ BK161)) : gb161 ≠ gb162)); have n6_ := Aside0.mk n5_.out.symm; clear BK161; clear HB; have BK161 := n0_; have HB := n1_; have BK162 := n2_; have GW162 := n3_; have GE162 := n4_; have NB161_162 := n5_; have NB162_161 := n6_; clear n0_ n1_ n2_ n3_ n4_ n5_ n6_; clear hb hbox hg))
 go_loopg [3] k (fun kq v3 w' => ∃ (x3_1 : Int) (x162000_1 : Int) (x162001_1 : Int) (x162002_1 : Int) (x162003_1 : Int), v3 = .int .i64 x3_1 ∧ Aside0 (spec_l04Opposite.l0 kq x3_1 x162000_1 x162001_1 x162002_1 x162003_1 = some (r1, r2, r3, r4)) ∧ Aside0 (kq ≤ k) ∧ Aside0 (w'.heap[gb161]? = some (.cells #[.int .i8 x162000_1, .int .i8 x162001_1, .int .i8 x162002_1, .int .i8 x162003_1] 41 (0, 0))) ∧ Aside0 (w'.heap[gb162]? = some (.cells #[.int .i8 0, .int .i8 0, .int .i8 0, .int .i8 0] 41 (0, 0))) ∧ Aside0 (Below w.heap.size w w'))
 case atStart => exact ⟨(0), (a0_0), (a0_1), (a0_2), (a0_3), rs_, H', ⟨Nat.le_refl _⟩, ⟨pl_ BK161⟩, ⟨pl_ BK162⟩, ⟨bl_ HB⟩⟩
 case round =>
  clear H'
  try clear p2
  obtain ⟨x3_1, x162000_1, x162001_1, x162002_1, x162003_1, rfl, HA, HK1, BK161, BK162, HB⟩ := hrel
  cases gk with
  | zero => exact absurd HA.out (by simp [spec_l04Opposite.l0])
  | succ k1 =>
   have H := HA.out
   clear HA
   simp only [spec_l04Opposite.l0] at H
   by_cases c4 : x3_1 < 4
   ·rw [if_pos c4] at H
    have c4b0 : decide (x3_1 < 4) = true := decide_eq_true c4
    clear c4
    by_cases c5 : 0 ≤ x3_1
    ·rw [if_pos c5] at H
     have c5b0 : decide (0 ≤ x3_1) = true := decide_eq_true c5
     clear c5
     have H' := Aside0.mk H
     clear H
     have hnb9 := NB161_162.out
     have hnc9 := NB162_161.out
     obtain ⟨hcz10_0, hcz10_1, hcz10_2, hcz10_3, hfz10_0, hfz10_1, hfz10_2, hfz10_3⟩ := cl4_ BK161
     have p6 : 0 ≤ (x3_1 : Int) := asm_
     have q6 : (x3_1 : Int) < 4 := asm_
     have hx6 : wr.cell? ⟨gb161, (x3_1 : Int).toNat, none⟩ = some (.int .i8 (rd [x162000_1, x162001_1, x162002_1, x162003_1] x3_1)) := ard_cell (k := .i8) (l := [x162000_1, x162001_1, x162002_1, x162003_1]) BK161.out p6 q6
     have hf6 := blk_frozen BK161.out (x3_1 : Int).toNat
     have P6 := Aside0.mk p6
     have Q6 := Aside0.mk q6
     replace p6 := eq_true p6
     replace q6 := eq_true q6
     have p7 : 0 ≤ (x3_1 : Int) := asm_
     have q7 : (x3_1 : Int) < 4 := asm_
     have hx7 : wr.cell? ⟨gb161, (x3_1 : Int).toNat, none⟩ = some (.int .i8 (rd [x162000_1, x162001_1, x162002_1, x162003_1] x3_1)) := ard_cell (k := .i8) (l := [x162000_1, x162001_1, x162002_1, x162003_1]) BK161.out p7 q7
     have hf7 := blk_frozen BK161.out (x3_1 : Int).toNat
     have P7 := Aside0.mk p7
     have Q7 := Aside0.mk q7
     replace p7 := eq_true p7
     replace q7 := eq_true q7
     go_wp2_with (first | ((with_reducible refine gate_store (t := 22) (p := 13) rfl ?_); refine store_event (t := 22) (p := 13) (v := ?vo_w12) (w1 := (wr.setCell ⟨gb161, (x3_1 : Int).toNat, none⟩ (.int .i8 (IntKind.i8.wrap (-(rd [x162000_1, x162001_1, x162002_1, x162003_1] x3_1)))))) ?hg ?ho ?hn ?hr ?_; (case ho => rfl); (case hg => rfl); (case hn => rfl); (case hr => first | (go_simp; done) | (go_simp; rfl)); intro w12 hw; have n0_ : Aside0 (w12.heap[gb161]? = some (.cells #[.int .i8 (aup x3_1 0 (IntKind.i8.wrap (-(rd [x162000_1, x162001_1, x162002_1, x162003_1] x3_1))) x162000_1), .int .i8 (aup x3_1 1 (IntKind.i8.wrap (-(rd [x162000_1, x162001_1, x162002_1, x162003_1] x3_1))) x162001_1), .int .i8 (aup x3_1 2 (IntKind.i8.wrap (-(rd [x162000_1, x162001_1, x162002_1, x162003_1] x3_1))) x162002_1), .int .i8 (aup x3_1 3 (IntKind.i8.wrap (-(rd [x162000_1, x162001_1, x162002_1, x162003_1] x3_1))) x162003_1)] 41 (0, 0))) := ⟨(by rw [hw]; exact (by (with_reducible repeat (first | refine blk_drewN ?_ _ | refine blk_drew ?_ | refine blk_alloc ?_ _)); refine blk_put (cs := #[.int .i8 x162000_1, .int .i8 x162001_1, .int .i8 x162002_1, .int .i8 x162003_1]) ?_ (x3_1 : Int).toNat _ (ups_set (k := .i8) (l := [x162000_1, x162001_1, x162002_1, x162003_1]) P7.out); (with_reducible repeat (first | refine blk_drewN ?_ _ | refine blk_drew ?_ | refine blk_alloc ?_ _)); exact BK161.out))⟩; have n1_ : Aside0 (w12.heap[gb162]? = some (.cells #[.int .i8 0, .int .i8 0, .int .i8 0, .int .i8 0] 41 (0, 0))) := ⟨(by rw [hw]; exact (pf_ BK162 NB162_161))⟩; have n2_ : Aside0 (Below w.heap.size w w12) := ⟨(by rw [hw]; exact (bs_ HB GE161))⟩; clear hw; clear BK161; clear BK162; clear HB; have BK161 := n0_; have BK162 := n1_; have HB := n2_; clear n0_ n1_ n2_))
     go_roundg k1
     case measure => have := HK1.out; omega
     case rel => exact ⟨(wrap64 (x3_1 + 1)), (aup x3_1 0 (IntKind.i8.wrap (-(rd [x162000_1, x162001_1, x162002_1, x162003_1] x3_1))) x162000_1), (aup x3_1 1 (IntKind.i8.wrap (-(rd [x162000_1, x162001_1, x162002_1, x162003_1] x3_1))) x162001_1), (aup x3_1 2 (IntKind.i8.wrap (-(rd [x162000_1, x162001_1, x162002_1, x162003_1] x3_1))) x162002_1), (aup x3_1 3 (IntKind.i8.wrap (-(rd [x162000_1, x162001_1, x162002_1, x162003_1] x3_1))) x162003_1), rs_, H', ⟨by have := HK1.out; omega⟩, ⟨pl_ BK161⟩, ⟨pl_ BK162⟩, ⟨bl_ HB⟩⟩
    ·rw [if_neg c5] at H
     exact absurd H (by simp)
   ·rw [if_neg c4] at H
    have c4b0 : decide (x3_1 < 4) = false := decide_eq_false c4
    clear c4
    simp only [Option.some.injEq, Prod.mk.injEq] at H
    obtain ⟨rfl, rfl, rfl, rfl⟩ := H
    have hnb13 := NB161_162.out
    have hnc13 := NB162_161.out
    obtain ⟨hcz14_0, hcz14_1, hcz14_2, hcz14_3, hfz14_0, hfz14_1, hfz14_2, hfz14_3⟩ := cl4_ BK161
    obtain ⟨hcz15_0, hcz15_1, hcz15_2, hcz15_3, hfz15_0, hfz15_1, hfz15_2, hfz15_3⟩ := cl4_ BK162
    go_wp2
    refine bodyPost_ret (results_cell_row rfl _ _ gb162 41 #[.int .i8 x162000_1, .int .i8 x162001_1, .int .i8 x162002_1, .int .i8 x162003_1] (0, 0) _ rfl (by (with_reducible repeat (first | refine blk_drewN ?_ _ | refine blk_drew ?_ | refine blk_alloc ?_ _)); refine blk_put (cs := #[.int .i8 x162000_1, .int .i8 x162001_1, .int .i8 x162002_1, .int .i8 0]) ?_ 3 _ rfl; (with_reducible repeat (first | refine blk_drewN ?_ _ | refine blk_drew ?_ | refine blk_alloc ?_ _)); refine blk_put (cs := #[.int .i8 x162000_1, .int .i8 x162001_1, .int .i8 0, .int .i8 0]) ?_ 2 _ rfl; (with_reducible repeat (first | refine blk_drewN ?_ _ | refine blk_drew ?_ | refine blk_alloc ?_ _)); refine blk_put (cs := #[.int .i8 x162000_1, .int .i8 0, .int .i8 0, .int .i8 0]) ?_ 1 _ rfl; (with_reducible repeat (first | refine blk_drewN ?_ _ | refine blk_drew ?_ | refine blk_alloc ?_ _)); refine blk_put (cs := #[.int .i8 0, .int .i8 0, .int .i8 0, .int .i8 0]) ?_ 0 _ rfl; (with_reducible repeat (first | refine blk_drewN ?_ _ | refine blk_drew ?_ | refine blk_alloc ?_ _)); exact BK162.out) Try.underlying41 rfl (by kernel_rfl)) rfl ?_
    exact ⟨by first | rfl | (simp [errW_none, errW_some] <;> rfl) | (simp [*, errW_none, errW_some] <;> rfl), bs_ HB GE162⟩

end Go.Proofs.Ytkieplebdbdigaa.M
