-- By this seat's own program over the kit's printer (arrays, functions told by hand); nothing of it is trusted: the kernel checks it.
import Derived.Test.YtcghglembmohcaaHNode
import Derived.Test.YtcghglembmohcaaMx0
import Derived.Test.YtcghglembmohcaaMx2
namespace Go.Proofs.Ytcghglembmohcaa.M
open Go.RowKit Go.Proofs.YtcghglembmohcaaW.PrintWords Go.Proofs.YtcghglembmohcaaW.PrintLast Go.Proofs.YtcghglembmohcaaW.PrintMore
attribute [local go_sem] max2_int min2_int max_two min_two max_three min_three max_four min_four   -- for this text's walks alone
set_option linter.unusedVariables false
set_option linter.unusedSimpArgs false

/-! ### laws_toInt16A3: function 44 -/
def laws_toInt16A3.l0 : Nat → Int → Int → Int → Int → Int → Int → Int → Option (Int × Int × Int)
 | 0, _, _, _, _, _, _, _ => none
 | k + 1, x4, x108000, x108001, x108002, x110000, x110001, x110002 => if x4 < 3 then (if 0 ≤ x4 then (laws_toInt16A3.l0 k (wrap64 (x4 + 1)) x108000 x108001 x108002 (aup x4 0 (rd [x108000, x108001, x108002] x4) x110000) (aup x4 1 (rd [x108000, x108001, x108002] x4) x110001) (aup x4 2 (rd [x108000, x108001, x108002] x4) x110002)) else (none)) else (some (x110000, x110001, x110002))
def laws_toInt16A3.f (k : Nat) (a0_0 : Int) (a0_1 : Int) (a0_2 : Int) : Option (Int × Int × Int) := laws_toInt16A3.l0 k 0 a0_0 a0_1 a0_2 0 0 0
theorem laws_toInt16A3.mono_l : ∀ k, (∀ y0 y1 y2 y3 y4 y5 y6, LeO (laws_toInt16A3.l0 k y0 y1 y2 y3 y4 y5 y6) (laws_toInt16A3.l0 (k + 1) y0 y1 y2 y3 y4 y5 y6))
 | 0 => fun _ _ _ _ _ _ _ r h => by simp [laws_toInt16A3.l0] at h
 | k + 1 => by
  have ih0 := laws_toInt16A3.mono_l k
  ·intro y0 y1 y2 y3 y4 y5 y6
   unfold laws_toInt16A3.l0
   repeat' first
   | (with_reducible exact ih0 _ _ _ _ _ _ _)
   | (with_reducible exact LeO.refl _)
   | (with_reducible exact LeO.none _)
   | (with_reducible refine LeO.ite ?_ ?_)
   | (with_reducible refine LeO.bind ?_ (fun _ => ?_))
   | exact ih0 _ _ _ _ _ _ _
   | exact LeO.none _
   | refine LeO.ite ?_ ?_
   | refine LeO.bind ?_ (fun _ => ?_)
theorem laws_toInt16A3.mono : ∀ a0 a1 a2 k, LeO (laws_toInt16A3.f k a0 a1 a2) (laws_toInt16A3.f (k + 1) a0 a1 a2) := by
 intro a0 a1 a2 k
 have ih0 := laws_toInt16A3.mono_l k
 unfold laws_toInt16A3.f
 repeat' first
   | (with_reducible exact ih0 _ _ _ _ _ _ _)
   | (with_reducible exact LeO.refl _)
   | (with_reducible exact LeO.none _)
   | (with_reducible refine LeO.ite ?_ ?_)
   | (with_reducible refine LeO.bind ?_ (fun _ => ?_))
   | exact ih0 _ _ _ _ _ _ _
   | exact LeO.none _
   | refine LeO.ite ?_ ?_
   | refine LeO.bind ?_ (fun _ => ?_)
set_option maxHeartbeats 8000000 in
set_option maxRecDepth 100000 in
theorem laws_toInt16A3.calls (k : Nat) (a0_0 : Int) (a0_1 : Int) (a0_2 : Int) (r1 : Int) (r2 : Int) (r3 : Int) (w : World) (h : laws_toInt16A3.f k a0_0 a0_1 a0_2 = some (r1, r2, r3)) :
  Calls Try.prog 44 #[.agg #[.int .i16 a0_0, .int .i16 a0_1, .int .i16 a0_2]] w fun e w' => e = .returned (.agg #[.int .i16 r1, .int .i16 r2, .int .i16 r3]) ∧ Below w.heap.size w w' := by
 have hu56 := Try.underlying56
 have HB := A_ (Below.refl w.heap.size w)
 have H : (laws_toInt16A3.l0 k 0 a0_0 a0_1 a0_2 0 0 0) = some (r1, r2, r3) := h
 clear h
 have H' := Aside0.mk H
 clear H
 go_enter Try.func44, Try.ntmps44
 go_wp2_with (first | ((with_reducible refine gate_dst (N := 1) rfl ?_); refine box_event ?hg (N := 1) ?hd (cs := #[.int .i16 a0_0, .int .i16 a0_1, .int .i16 a0_2]) (t := 56) ?hr ?_; (case hd => rfl); (case hg => rfl); (case hr => first | (go_simp; done) | (go_simp; rfl)); intro gb107 hg w2 hbox hb; have n0_ := A_ (below_step (bl_ HB) hb); have n1_ := A_ (hbox); have n2_ := A_ ((by rw [hg]; exact (below_size (bl_ HB)) : w.heap.size ≤ gb107)); have n3_ := n2_; clear HB; have HB := n0_; have BK107 := n1_; have GW107 := n2_; have GE107 := n3_; clear n0_ n1_ n2_ n3_; clear hb hbox hg) | ((with_reducible refine gate_dst (N := 2) rfl ?_); refine box_event ?hg (N := 2) ?hd (cs := #[.int .i16 0, .int .i16 0, .int .i16 0]) (t := 56) ?hr ?_; (case hd => rfl); (case hg => rfl); (case hr => first | (go_simp; done) | (go_simp; rfl)); intro gb108 hg w3 hbox hb; have n0_ := A_ (blk_below (pl_ BK107) hb); have n1_ := A_ (below_step (bl_ HB) hb); have n2_ := A_ (hbox); have n3_ := A_ ((by rw [hg]; exact (below_size (bl_ HB)) : w.heap.size ≤ gb108)); have n4_ := n3_; have n5_ := A_ ((by rw [hg]; exact Nat.ne_of_lt (blk_lt (pl_ BK107)) : gb107 ≠ gb108)); have n6_ := Aside0.mk n5_.out.symm; clear BK107; clear HB; have BK107 := n0_; have HB := n1_; have BK108 := n2_; have GW108 := n3_; have GE108 := n4_; have NB107_108 := n5_; have NB108_107 := n6_; clear n0_ n1_ n2_ n3_ n4_ n5_ n6_; clear hb hbox hg) | ((with_reducible refine gate_dst (N := 3) rfl ?_); refine box_event ?hg (N := 3) ?hd (cs := #[.int .i16 0, .int .i16 0, .int .i16 0]) (t := 56) ?hr ?_; (case hd => rfl); (case hg => rfl); (case hr => first | (go_simp; done) | (go_simp; rfl)); intro gb109 hg w4 hbox hb; have n0_ := A_ (blk_below (pl_ BK107) hb); have n1_ := A_ (blk_below (pl_ BK108) hb); have n2_ := A_ (below_step (bl_ HB) hb); have n3_ := A_ (hbox); have n4_ := A_ ((by rw [hg]; exact (below_size (bl_ HB)) : w.heap.size ≤ gb109)); have n5_ := n4_; have n6_ := A_ ((by rw [hg]; exact Nat.ne_of_lt (blk_lt (pl_ BK107)) : gb107 ≠ gb109)); have n7_ := Aside0.mk n6_.out.symm; have n8_ := A_ ((by rw [hg]; exact Nat.ne_of_lt (blk_lt (pl_ BK108)) : gb108 ≠ gb109)); have n9_ := Aside0.mk n8_.out.symm; clear BK107; clear BK108; clear HB; have BK107 := n0_; have BK108 := n1_; have HB := n2_; have BK109 := n3_; have GW109 := n4_; have GE109 := n5_; have NB107_109 := n6_; have NB109_107 := n7_; have NB108_109 := n8_; have NB109_108 := n9_; clear n0_ n1_ n2_ n3_ n4_ n5_ n6_ n7_ n8_ n9_; clear hb hbox hg))
 go_loopg [4] k (fun kq v4 w' => ∃ (x4_1 : Int) (x110000_1 : Int) (x110001_1 : Int) (x110002_1 : Int), v4 = .int .i64 x4_1 ∧ Aside0 (laws_toInt16A3.l0 kq x4_1 a0_0 a0_1 a0_2 x110000_1 x110001_1 x110002_1 = some (r1, r2, r3)) ∧ Aside0 (kq ≤ k) ∧ Aside0 (w'.heap[gb107]? = some (.cells #[.int .i16 a0_0, .int .i16 a0_1, .int .i16 a0_2] 56 (0, 0))) ∧ Aside0 (w'.heap[gb108]? = some (.cells #[.int .i16 0, .int .i16 0, .int .i16 0] 56 (0, 0))) ∧ Aside0 (w'.heap[gb109]? = some (.cells #[.int .i16 x110000_1, .int .i16 x110001_1, .int .i16 x110002_1] 56 (0, 0))) ∧ Aside0 (Below w.heap.size w w'))
 case atStart => exact ⟨(0), (0), (0), (0), rs_, H', ⟨Nat.le_refl _⟩, ⟨pl_ BK107⟩, ⟨pl_ BK108⟩, ⟨pl_ BK109⟩, ⟨bl_ HB⟩⟩
 case round =>
  clear H'
  try clear p2
  try clear c4
  obtain ⟨x4_1, x110000_1, x110001_1, x110002_1, rfl, HA, HK1, BK107, BK108, BK109, HB⟩ := hrel
  cases gk with
  | zero => exact absurd HA.out (by simp [laws_toInt16A3.l0])
  | succ k1 =>
   have H := HA.out
   clear HA
   simp only [laws_toInt16A3.l0] at H
   by_cases c5 : x4_1 < 3
   ·rw [if_pos c5] at H
    have c5b0 : decide (x4_1 < 3) = true := decide_eq_true c5
    clear c5
    by_cases c6 : 0 ≤ x4_1
    ·rw [if_pos c6] at H
     have c6b0 : decide (0 ≤ x4_1) = true := decide_eq_true c6
     clear c6
     have H' := Aside0.mk H
     clear H
     have hnb10 := NB107_108.out
     have hnc10 := NB108_107.out
     have hnb11 := NB107_109.out
     have hnc11 := NB109_107.out
     obtain ⟨hcz12_0, hcz12_1, hcz12_2, hfz12_0, hfz12_1, hfz12_2⟩ := cl3_ BK107
     have p7 : 0 ≤ (x4_1 : Int) := asm_
     have q7 : (x4_1 : Int) < 3 := asm_
     have hx7 : wr.cell? ⟨gb107, (x4_1 : Int).toNat, none⟩ = some (.int .i16 (rd [a0_0, a0_1, a0_2] x4_1)) := ard_cell (k := .i16) (l := [a0_0, a0_1, a0_2]) BK107.out p7 q7
     have hf7 := blk_frozen BK107.out (x4_1 : Int).toNat
     have P7 := Aside0.mk p7
     have Q7 := Aside0.mk q7
     replace p7 := eq_true p7
     replace q7 := eq_true q7
     have hnb13 := NB109_108.out
     have hnc13 := NB108_109.out
     obtain ⟨hcz14_0, hcz14_1, hcz14_2, hfz14_0, hfz14_1, hfz14_2⟩ := cl3_ BK109
     have p8 : 0 ≤ (x4_1 : Int) := asm_
     have q8 : (x4_1 : Int) < 3 := asm_
     have hx8 : wr.cell? ⟨gb109, (x4_1 : Int).toNat, none⟩ = some (.int .i16 (rd [x110000_1, x110001_1, x110002_1] x4_1)) := ard_cell (k := .i16) (l := [x110000_1, x110001_1, x110002_1]) BK109.out p8 q8
     have hf8 := blk_frozen BK109.out (x4_1 : Int).toNat
     have P8 := Aside0.mk p8
     have Q8 := Aside0.mk q8
     replace p8 := eq_true p8
     replace q8 := eq_true q8
     go_wp2_with (first | ((with_reducible refine gate_store (t := 55) (p := 13) rfl ?_); refine store_event (t := 55) (p := 13) (v := ?vo_w16) (w1 := (wr.setCell ⟨gb109, (x4_1 : Int).toNat, none⟩ (.int .i16 (rd [a0_0, a0_1, a0_2] x4_1)))) ?hg ?ho ?hn ?hr ?_; (case ho => rfl); (case hg => rfl); (case hn => rfl); (case hr => first | (go_simp; done) | (go_simp; rfl)); intro w16 hw; have n0_ : Aside0 (w16.heap[gb107]? = some (.cells #[.int .i16 a0_0, .int .i16 a0_1, .int .i16 a0_2] 56 (0, 0))) := ⟨(by rw [hw]; exact (pf_ BK107 NB107_109))⟩; have n1_ : Aside0 (w16.heap[gb108]? = some (.cells #[.int .i16 0, .int .i16 0, .int .i16 0] 56 (0, 0))) := ⟨(by rw [hw]; exact (pf_ BK108 NB108_109))⟩; have n2_ : Aside0 (w16.heap[gb109]? = some (.cells #[.int .i16 (aup x4_1 0 (rd [a0_0, a0_1, a0_2] x4_1) x110000_1), .int .i16 (aup x4_1 1 (rd [a0_0, a0_1, a0_2] x4_1) x110001_1), .int .i16 (aup x4_1 2 (rd [a0_0, a0_1, a0_2] x4_1) x110002_1)] 56 (0, 0))) := ⟨(by rw [hw]; exact (by (with_reducible repeat (first | refine blk_drewN ?_ _ | refine blk_drew ?_ | refine blk_alloc ?_ _)); refine blk_put (cs := #[.int .i16 x110000_1, .int .i16 x110001_1, .int .i16 x110002_1]) ?_ (x4_1 : Int).toNat _ (ups_set (k := .i16) (l := [x110000_1, x110001_1, x110002_1]) P8.out); (with_reducible repeat (first | refine blk_drewN ?_ _ | refine blk_drew ?_ | refine blk_alloc ?_ _)); exact BK109.out))⟩; have n3_ : Aside0 (Below w.heap.size w w16) := ⟨(by rw [hw]; exact (bs_ HB GE109))⟩; clear hw; clear BK107; clear BK108; clear BK109; clear HB; have BK107 := n0_; have BK108 := n1_; have BK109 := n2_; have HB := n3_; clear n0_ n1_ n2_ n3_))
     go_roundg k1
     case measure => have := HK1.out; omega
     case rel => exact ⟨(wrap64 (x4_1 + 1)), (aup x4_1 0 (rd [a0_0, a0_1, a0_2] x4_1) x110000_1), (aup x4_1 1 (rd [a0_0, a0_1, a0_2] x4_1) x110001_1), (aup x4_1 2 (rd [a0_0, a0_1, a0_2] x4_1) x110002_1), rs_, H', ⟨by have := HK1.out; omega⟩, ⟨pl_ BK107⟩, ⟨pl_ BK108⟩, ⟨pl_ BK109⟩, ⟨bl_ HB⟩⟩
    ·rw [if_neg c6] at H
     exact absurd H (by simp)
   ·rw [if_neg c5] at H
    have c5b0 : decide (x4_1 < 3) = false := decide_eq_false c5
    clear c5
    simp only [Option.some.injEq, Prod.mk.injEq] at H
    obtain ⟨rfl, rfl, rfl⟩ := H
    have hnb17 := NB109_107.out
    have hnc17 := NB107_109.out
    have hnb18 := NB109_108.out
    have hnc18 := NB108_109.out
    obtain ⟨hcz19_0, hcz19_1, hcz19_2, hfz19_0, hfz19_1, hfz19_2⟩ := cl3_ BK109
    have hnb20 := NB108_107.out
    have hnc20 := NB107_108.out
    obtain ⟨hcz21_0, hcz21_1, hcz21_2, hfz21_0, hfz21_1, hfz21_2⟩ := cl3_ BK108
    go_wp2
    refine bodyPost_ret (results_cell_row rfl _ _ gb108 56 #[.int .i16 x110000_1, .int .i16 x110001_1, .int .i16 x110002_1] (0, 0) _ rfl (by (with_reducible repeat (first | refine blk_drewN ?_ _ | refine blk_drew ?_ | refine blk_alloc ?_ _)); refine blk_put (cs := #[.int .i16 x110000_1, .int .i16 x110001_1, .int .i16 0]) ?_ 2 _ rfl; (with_reducible repeat (first | refine blk_drewN ?_ _ | refine blk_drew ?_ | refine blk_alloc ?_ _)); refine blk_put (cs := #[.int .i16 x110000_1, .int .i16 0, .int .i16 0]) ?_ 1 _ rfl; (with_reducible repeat (first | refine blk_drewN ?_ _ | refine blk_drew ?_ | refine blk_alloc ?_ _)); refine blk_put (cs := #[.int .i16 0, .int .i16 0, .int .i16 0]) ?_ 0 _ rfl; (with_reducible repeat (first | refine blk_drewN ?_ _ | refine blk_drew ?_ | refine blk_alloc ?_ _)); exact BK108.out) Try.underlying56 rfl (by kernel_rfl)) rfl ?_
    exact ⟨by first | rfl | (simp [errW_none, errW_some] <;> rfl) | (simp [*, errW_none, errW_some] <;> rfl), bs_ HB GE108⟩

/-! ### laws_toNode: function 28 -/
def laws_toNode.f (k : Nat) (a0_0 : Int) (a0_1 : Int) (a0_2 : Int) (a0_3 : Int) (a0_4 : Int) (a0_5 : Int) (a0_6 : Int) (a0_7 : Int) (a0_8 : Int) (a0_9 : Int) (a0_10 : Int) (a0_11 : Int) (a0_12 : Int) (a0_13 : Int) (a0_14 : Int) (a0_15 : Int) (a0_16 : Int) (a0_17 : Int) (a0_18 : Bool) (a0_19 : Bool) : Option (Int × Int × Int × Int × Int × Int × Int × Int × Int × Int × Int × Int × Int × Int × Int × Int × Int × Int × Bool × Bool) := (laws_toWeighing.f k a0_0 a0_1 a0_2 a0_3 a0_4 a0_5 a0_6 a0_7 a0_8 a0_9 a0_10 a0_11 a0_12 a0_13).bind fun bt113 => ((laws_toInt16A3.f k a0_14 a0_15 a0_16).bind fun bt127 => ((laws_toCase.f a0_17 a0_18).bind fun bt130 => (some (bt113.1, bt113.2.1, bt113.2.2.1, bt113.2.2.2.1, bt113.2.2.2.2.1, bt113.2.2.2.2.2.1, bt113.2.2.2.2.2.2.1, bt113.2.2.2.2.2.2.2.1, bt113.2.2.2.2.2.2.2.2.1, bt113.2.2.2.2.2.2.2.2.2.1, bt113.2.2.2.2.2.2.2.2.2.2.1, bt113.2.2.2.2.2.2.2.2.2.2.2.1, bt113.2.2.2.2.2.2.2.2.2.2.2.2.1, bt113.2.2.2.2.2.2.2.2.2.2.2.2.2, bt127.1, bt127.2.1, bt127.2.2, bt130.1, bt130.2, a0_19))))
theorem laws_toNode.mono : ∀ a0 a1 a2 a3 a4 a5 a6 a7 a8 a9 a10 a11 a12 a13 a14 a15 a16 a17 a18 a19 k, LeO (laws_toNode.f k a0 a1 a2 a3 a4 a5 a6 a7 a8 a9 a10 a11 a12 a13 a14 a15 a16 a17 a18 a19) (laws_toNode.f (k + 1) a0 a1 a2 a3 a4 a5 a6 a7 a8 a9 a10 a11 a12 a13 a14 a15 a16 a17 a18 a19) := by
 intro a0 a1 a2 a3 a4 a5 a6 a7 a8 a9 a10 a11 a12 a13 a14 a15 a16 a17 a18 a19 k
 unfold laws_toNode.f
 repeat' first
   | (with_reducible exact laws_toInt16A3.mono _ _ _ _)
   | (with_reducible exact laws_toWeighing.mono _ _ _ _ _ _ _ _ _ _ _ _ _ _ _)
   | (with_reducible exact LeO.refl _)
   | (with_reducible exact LeO.none _)
   | (with_reducible refine LeO.ite ?_ ?_)
   | (with_reducible refine LeO.bind ?_ (fun _ => ?_))
   | exact laws_toInt16A3.mono _ _ _ _
   | exact laws_toWeighing.mono _ _ _ _ _ _ _ _ _ _ _ _ _ _ _
   | exact LeO.none _
   | refine LeO.ite ?_ ?_
   | refine LeO.bind ?_ (fun _ => ?_)
set_option maxHeartbeats 8000000 in
set_option maxRecDepth 100000 in
theorem laws_toNode.calls (k : Nat) (a0_0 : Int) (a0_1 : Int) (a0_2 : Int) (a0_3 : Int) (a0_4 : Int) (a0_5 : Int) (a0_6 : Int) (a0_7 : Int) (a0_8 : Int) (a0_9 : Int) (a0_10 : Int) (a0_11 : Int) (a0_12 : Int) (a0_13 : Int) (a0_14 : Int) (a0_15 : Int) (a0_16 : Int) (a0_17 : Int) (a0_18 : Bool) (a0_19 : Bool) (r1 : Int) (r2 : Int) (r3 : Int) (r4 : Int) (r5 : Int) (r6 : Int) (r7 : Int) (r8 : Int) (r9 : Int) (r10 : Int) (r11 : Int) (r12 : Int) (r13 : Int) (r14 : Int) (r15 : Int) (r16 : Int) (r17 : Int) (r18 : Int) (r19 : Bool) (r20 : Bool) (w : World) (h : laws_toNode.f k a0_0 a0_1 a0_2 a0_3 a0_4 a0_5 a0_6 a0_7 a0_8 a0_9 a0_10 a0_11 a0_12 a0_13 a0_14 a0_15 a0_16 a0_17 a0_18 a0_19 = some (r1, r2, r3, r4, r5, r6, r7, r8, r9, r10, r11, r12, r13, r14, r15, r16, r17, r18, r19, r20)) :
  Calls Try.prog 28 #[.agg #[.int .i8 a0_0, .int .i8 a0_1, .int .i8 a0_2, .int .i8 a0_3, .int .i8 a0_4, .int .i8 a0_5, .int .i8 a0_6, .int .i8 a0_7, .int .i8 a0_8, .int .i8 a0_9, .int .i8 a0_10, .int .i8 a0_11, .int .i8 a0_12, .int .i8 a0_13, .int .i16 a0_14, .int .i16 a0_15, .int .i16 a0_16, .int .i8 a0_17, .bool a0_18, .bool a0_19]] w fun e w' => e = .returned (.agg #[.int .i8 r1, .int .i8 r2, .int .i8 r3, .int .i8 r4, .int .i8 r5, .int .i8 r6, .int .i8 r7, .int .i8 r8, .int .i8 r9, .int .i8 r10, .int .i8 r11, .int .i8 r12, .int .i8 r13, .int .i8 r14, .int .i16 r15, .int .i16 r16, .int .i16 r17, .int .i8 r18, .bool r19, .bool r20]) ∧ Below w.heap.size w w' := by
 have hu61 := Try.underlying61
 have hu58 := Try.underlying58
 have hu25 := Try.underlying25
 have hu26 := Try.underlying26
 have hu56 := Try.underlying56
 have hu42 := Try.underlying42
 have hu43 := Try.underlying43
 have HB := A_ (Below.refl w.heap.size w)
 have H : ((laws_toWeighing.f k a0_0 a0_1 a0_2 a0_3 a0_4 a0_5 a0_6 a0_7 a0_8 a0_9 a0_10 a0_11 a0_12 a0_13).bind fun bt113 => ((laws_toInt16A3.f k a0_14 a0_15 a0_16).bind fun bt127 => ((laws_toCase.f a0_17 a0_18).bind fun bt130 => (some (bt113.1, bt113.2.1, bt113.2.2.1, bt113.2.2.2.1, bt113.2.2.2.2.1, bt113.2.2.2.2.2.1, bt113.2.2.2.2.2.2.1, bt113.2.2.2.2.2.2.2.1, bt113.2.2.2.2.2.2.2.2.1, bt113.2.2.2.2.2.2.2.2.2.1, bt113.2.2.2.2.2.2.2.2.2.2.1, bt113.2.2.2.2.2.2.2.2.2.2.2.1, bt113.2.2.2.2.2.2.2.2.2.2.2.2.1, bt113.2.2.2.2.2.2.2.2.2.2.2.2.2, bt127.1, bt127.2.1, bt127.2.2, bt130.1, bt130.2, a0_19))))) = some (r1, r2, r3, r4, r5, r6, r7, r8, r9, r10, r11, r12, r13, r14, r15, r16, r17, r18, r19, r20) := h
 clear h
 replace H := Option.bind_eq_some_iff.mp H
 obtain ⟨⟨t113, t114, t115, t116, t117, t118, t119, t120, t121, t122, t123, t124, t125, t126⟩, A20, H⟩ := H
 replace H : ((laws_toInt16A3.f k a0_14 a0_15 a0_16).bind fun bt127 => ((laws_toCase.f a0_17 a0_18).bind fun bt130 => (some (t113, t114, t115, t116, t117, t118, t119, t120, t121, t122, t123, t124, t125, t126, bt127.1, bt127.2.1, bt127.2.2, bt130.1, bt130.2, a0_19)))) = some (r1, r2, r3, r4, r5, r6, r7, r8, r9, r10, r11, r12, r13, r14, r15, r16, r17, r18, r19, r20) := H
 have A2 := Aside0.mk A20
 clear A20
 replace H := Option.bind_eq_some_iff.mp H
 obtain ⟨⟨t127, t128, t129⟩, A30, H⟩ := H
 replace H : ((laws_toCase.f a0_17 a0_18).bind fun bt130 => (some (t113, t114, t115, t116, t117, t118, t119, t120, t121, t122, t123, t124, t125, t126, t127, t128, t129, bt130.1, bt130.2, a0_19))) = some (r1, r2, r3, r4, r5, r6, r7, r8, r9, r10, r11, r12, r13, r14, r15, r16, r17, r18, r19, r20) := H
 have A3 := Aside0.mk A30
 clear A30
 replace H := Option.bind_eq_some_iff.mp H
 obtain ⟨⟨t130, t131⟩, A40, H⟩ := H
 replace H : (some (t113, t114, t115, t116, t117, t118, t119, t120, t121, t122, t123, t124, t125, t126, t127, t128, t129, t130, t131, a0_19)) = some (r1, r2, r3, r4, r5, r6, r7, r8, r9, r10, r11, r12, r13, r14, r15, r16, r17, r18, r19, r20) := H
 have A4 := Aside0.mk A40
 clear A40
 simp only [Option.some.injEq, Prod.mk.injEq] at H
 obtain ⟨rfl, rfl, rfl, rfl, rfl, rfl, rfl, rfl, rfl, rfl, rfl, rfl, rfl, rfl, rfl, rfl, rfl, rfl, rfl, rfl⟩ := H
 go_enter Try.func28, Try.ntmps28
 go_wp2_with (first | ((with_reducible refine gate_dst (N := 1) rfl ?_); refine box_event ?hg (N := 1) ?hd (cs := #[.int .i8 a0_0, .int .i8 a0_1, .int .i8 a0_2, .int .i8 a0_3, .int .i8 a0_4, .int .i8 a0_5, .int .i8 a0_6, .int .i8 a0_7, .int .i8 a0_8, .int .i8 a0_9, .int .i8 a0_10, .int .i8 a0_11, .int .i8 a0_12, .int .i8 a0_13, .int .i16 a0_14, .int .i16 a0_15, .int .i16 a0_16, .int .i8 a0_17, .bool a0_18, .bool a0_19]) (t := 61) ?hr ?_; (case hd => rfl); (case hg => rfl); (case hr => first | (go_simp; done) | (go_simp; rfl)); intro gb1 hg w_1 hbox hb; have GE1 := A_ ((by rw [hg]; exact (below_size HB.out) : w.heap.size ≤ gb1)); have n_ := A_ (below_step HB.out hb); clear HB; have HB := n_; clear n_; have BK1 := A_ hbox; clear hb hbox hg) | ((with_reducible refine gate_dst (N := 2) rfl ?_); refine box_event ?hg (N := 2) ?hd (cs := #[.int .i8 0, .int .i8 0, .int .i8 0, .int .i8 0, .int .i8 0, .int .i8 0, .int .i8 0, .int .i8 0, .int .i8 0, .int .i8 0, .int .i8 0, .int .i8 0, .int .i8 0, .int .i8 0, .int .i16 0, .int .i16 0, .int .i16 0, .int .i8 0, .bool false, .bool false]) (t := 58) ?hr ?_; (case hd => rfl); (case hg => rfl); (case hr => first | (go_simp; done) | (go_simp; rfl)); intro gb2 hg w_2 hbox hb; have GE2 := A_ ((by rw [hg]; exact (below_size HB.out) : w.heap.size ≤ gb2)); have NE1_2 := A_ ((by rw [hg]; exact Nat.ne_of_lt (blk_lt BK1.out) : gb1 ≠ gb2)); have n_ := A_ (blk_below BK1.out hb); clear BK1; have BK1 := n_; clear n_; have n_ := A_ (below_step HB.out hb); clear HB; have HB := n_; clear n_; have BK2 := A_ hbox; clear hb hbox hg) | ((with_reducible refine gate_dst (N := 3) rfl ?_); refine box_event ?hg (N := 3) ?hd (cs := #[.int .i8 0, .int .i8 0, .int .i8 0, .int .i8 0, .int .i8 0, .int .i8 0, .int .i8 0, .int .i8 0, .int .i8 0, .int .i8 0, .int .i8 0, .int .i8 0, .int .i8 0, .int .i8 0, .int .i16 0, .int .i16 0, .int .i16 0, .int .i8 0, .bool false, .bool false]) (t := 58) ?hr ?_; (case hd => rfl); (case hg => rfl); (case hr => first | (go_simp; done) | (go_simp; rfl)); intro gb3 hg w_3 hbox hb; have GE3 := A_ ((by rw [hg]; exact (below_size HB.out) : w.heap.size ≤ gb3)); have NE1_3 := A_ ((by rw [hg]; exact Nat.ne_of_lt (blk_lt BK1.out) : gb1 ≠ gb3)); have n_ := A_ (blk_below BK1.out hb); clear BK1; have BK1 := n_; clear n_; have NE2_3 := A_ ((by rw [hg]; exact Nat.ne_of_lt (blk_lt BK2.out) : gb2 ≠ gb3)); have n_ := A_ (blk_below BK2.out hb); clear BK2; have BK2 := n_; clear n_; have n_ := A_ (below_step HB.out hb); clear HB; have HB := n_; clear n_; have BK3 := A_ hbox; clear hb hbox hg) | ((with_reducible refine gate_dst (N := 5) rfl ?_); refine load_part rfl 25 4 rfl rfl BK1.out [.int .i8 a0_0, .int .i8 a0_1, .int .i8 a0_2, .int .i8 a0_3, .int .i8 a0_4, .int .i8 a0_5, .int .i8 a0_6, .int .i8 a0_7, .int .i8 a0_8, .int .i8 a0_9, .int .i8 a0_10, .int .i8 a0_11, .int .i8 a0_12, .int .i8 a0_13] rfl Try.underlying25 rfl (by kernel_rfl) ?_) | ((with_reducible refine gate_callee (f := 43) rfl ?_); refine goesL_ (some 6) rfl rfl Try.func43 (by kernel_rfl) rfl #[.agg #[.int .i8 a0_0, .int .i8 a0_1, .int .i8 a0_2, .int .i8 a0_3, .int .i8 a0_4, .int .i8 a0_5, .int .i8 a0_6, .int .i8 a0_7, .int .i8 a0_8, .int .i8 a0_9, .int .i8 a0_10, .int .i8 a0_11, .int .i8 a0_12, .int .i8 a0_13]] rfl arg_ ?_; (with_reducible refine (laws_toWeighing.calls k a0_0 a0_1 a0_2 a0_3 a0_4 a0_5 a0_6 a0_7 a0_8 a0_9 a0_10 a0_11 a0_12 a0_13 t113 t114 t115 t116 t117 t118 t119 t120 t121 t122 t123 t124 t125 t126 _ A2.out).mono ?_); rintro e wc43 ⟨rfl, hb⟩; refine ⟨_, rfl, ?_⟩; have n_ := A_ (blk_below BK1.out hb); clear BK1; have BK1 := n_; clear n_; have n_ := A_ (blk_below BK2.out hb); clear BK2; have BK2 := n_; clear n_; have n_ := A_ (blk_below BK3.out hb); clear BK3; have BK3 := n_; clear n_; have n_ := A_ (below_step HB.out hb); clear HB; have HB := n_; clear n_; clear hb) | ((with_reducible refine gate_store (t := 26) (p := 7) rfl ?_); refine store_part rfl (T := 26) (p := 7) rfl rfl rfl rfl BK3.out #[.int .i8 t113, .int .i8 t114, .int .i8 t115, .int .i8 t116, .int .i8 t117, .int .i8 t118, .int .i8 t119, .int .i8 t120, .int .i8 t121, .int .i8 t122, .int .i8 t123, .int .i8 t124, .int .i8 t125, .int .i8 t126, .int .i16 0, .int .i16 0, .int .i16 0, .int .i8 0, .bool false, .bool false] (by simp) rfl (by kernel_rfl) (by kernel_rfl) ?_; intro ws7 hself hoth hbel; have n_ := A_ (hbel HB.out GE3.out); clear HB; have HB := n_; clear n_; have n_ := A_ ((hoth gb1 NE1_3.out).trans BK1.out); clear BK1; have BK1 := n_; clear n_; have n_ := A_ ((hoth gb2 NE2_3.out).trans BK2.out); clear BK2; have BK2 := n_; clear n_; clear BK3; have BK3 := A_ hself; clear hself hoth hbel; (skip)) | ((with_reducible refine gate_dst (N := 9) rfl ?_); refine load_part rfl 56 8 rfl rfl BK1.out [.int .i16 a0_14, .int .i16 a0_15, .int .i16 a0_16] rfl Try.underlying56 rfl (by kernel_rfl) ?_) | ((with_reducible refine gate_callee (f := 44) rfl ?_); refine goesL_ (some 10) rfl rfl Try.func44 (by kernel_rfl) rfl #[.agg #[.int .i16 a0_14, .int .i16 a0_15, .int .i16 a0_16]] rfl arg_ ?_; (with_reducible refine (laws_toInt16A3.calls k a0_14 a0_15 a0_16 t127 t128 t129 _ A3.out).mono ?_); rintro e wc44 ⟨rfl, hb⟩; refine ⟨_, rfl, ?_⟩; have n_ := A_ (blk_below BK1.out hb); clear BK1; have BK1 := n_; clear n_; have n_ := A_ (blk_below BK2.out hb); clear BK2; have BK2 := n_; clear n_; have n_ := A_ (blk_below BK3.out hb); clear BK3; have BK3 := n_; clear n_; have n_ := A_ (below_step HB.out hb); clear HB; have HB := n_; clear n_; clear hb) | ((with_reducible refine gate_store (t := 56) (p := 11) rfl ?_); refine store_part rfl (T := 56) (p := 11) rfl rfl rfl rfl BK3.out #[.int .i8 t113, .int .i8 t114, .int .i8 t115, .int .i8 t116, .int .i8 t117, .int .i8 t118, .int .i8 t119, .int .i8 t120, .int .i8 t121, .int .i8 t122, .int .i8 t123, .int .i8 t124, .int .i8 t125, .int .i8 t126, .int .i16 t127, .int .i16 t128, .int .i16 t129, .int .i8 0, .bool false, .bool false] (by simp) rfl (by kernel_rfl) (by kernel_rfl) ?_; intro ws11 hself hoth hbel; have n_ := A_ (hbel HB.out GE3.out); clear HB; have HB := n_; clear n_; have n_ := A_ ((hoth gb1 NE1_3.out).trans BK1.out); clear BK1; have BK1 := n_; clear n_; have n_ := A_ ((hoth gb2 NE2_3.out).trans BK2.out); clear BK2; have BK2 := n_; clear n_; clear BK3; have BK3 := A_ hself; clear hself hoth hbel; (skip)) | ((with_reducible refine gate_dst (N := 13) rfl ?_); refine load_part rfl 42 12 rfl rfl BK1.out [.int .i8 a0_17, .bool a0_18] rfl Try.underlying42 rfl (by kernel_rfl) ?_) | ((with_reducible refine gate_callee (f := 19) rfl ?_); refine goesL_ (some 14) rfl rfl Try.func19 (by kernel_rfl) rfl #[.agg #[.int .i8 a0_17, .bool a0_18]] rfl arg_ ?_; (with_reducible refine (laws_toCase.calls a0_17 a0_18 t130 t131 _ A4.out).mono ?_); rintro e wc19 ⟨rfl, hb⟩; refine ⟨_, rfl, ?_⟩; have n_ := A_ (blk_below BK1.out hb); clear BK1; have BK1 := n_; clear n_; have n_ := A_ (blk_below BK2.out hb); clear BK2; have BK2 := n_; clear n_; have n_ := A_ (blk_below BK3.out hb); clear BK3; have BK3 := n_; clear n_; have n_ := A_ (below_step HB.out hb); clear HB; have HB := n_; clear n_; clear hb) | ((with_reducible refine gate_store (t := 43) (p := 15) rfl ?_); refine store_part rfl (T := 43) (p := 15) rfl rfl rfl rfl BK3.out #[.int .i8 t113, .int .i8 t114, .int .i8 t115, .int .i8 t116, .int .i8 t117, .int .i8 t118, .int .i8 t119, .int .i8 t120, .int .i8 t121, .int .i8 t122, .int .i8 t123, .int .i8 t124, .int .i8 t125, .int .i8 t126, .int .i16 t127, .int .i16 t128, .int .i16 t129, .int .i8 t130, .bool t131, .bool false] (by simp) rfl (by kernel_rfl) (by kernel_rfl) ?_; intro ws15 hself hoth hbel; have n_ := A_ (hbel HB.out GE3.out); clear HB; have HB := n_; clear n_; have n_ := A_ ((hoth gb1 NE1_3.out).trans BK1.out); clear BK1; have BK1 := n_; clear n_; have n_ := A_ ((hoth gb2 NE2_3.out).trans BK2.out); clear BK2; have BK2 := n_; clear n_; clear BK3; have BK3 := A_ hself; clear hself hoth hbel; have hc19 := blk_cell BK1.out 19; have hs19 := blk_cell BK3.out 19; have hf19 := blk_frozen BK3.out 19; (skip)) | ((with_reducible refine gate_store (t := 4) (p := 18) rfl ?_); refine store_event (t := 4) (p := 18) (v := .tmp 17) (w1 := ws15.setCell ⟨gb3, 19, none⟩ (.bool a0_19)) ?hg ?ho ?hn ?hr ?_; (case ho => rfl); (case hg => rfl); (case hn => rfl); (case hr => first | (go_simp; done) | (go_simp; rfl)); intro ws18 hw; have n0_ := A_ (show ws18.heap[gb3]? = some (.cells #[.int .i8 t113, .int .i8 t114, .int .i8 t115, .int .i8 t116, .int .i8 t117, .int .i8 t118, .int .i8 t119, .int .i8 t120, .int .i8 t121, .int .i8 t122, .int .i8 t123, .int .i8 t124, .int .i8 t125, .int .i8 t126, .int .i16 t127, .int .i16 t128, .int .i16 t129, .int .i8 t130, .bool t131, .bool a0_19] 58 (0, 0)) from by rw [hw]; exact blk_put BK3.out 19 _ rfl); have n1_ := A_ (show ws18.heap[gb2]? = some (.cells #[.int .i8 0, .int .i8 0, .int .i8 0, .int .i8 0, .int .i8 0, .int .i8 0, .int .i8 0, .int .i8 0, .int .i8 0, .int .i8 0, .int .i8 0, .int .i8 0, .int .i8 0, .int .i8 0, .int .i16 0, .int .i16 0, .int .i16 0, .int .i8 0, .bool false, .bool false] 58 (0, 0)) from by rw [hw]; exact (Below.heap_setCell ws15 ⟨gb3, 19, none⟩ _ gb2 NE2_3.out).trans BK2.out); have n2_ := A_ (show Below w.heap.size w ws18 from by rw [hw]; exact below_set HB.out GE3.out); clear BK1 BK2 BK3 HB hc19 hs19 hf19 hw; have BK3 := n0_; have BK2 := n1_; have HB := n2_; clear n0_ n1_ n2_) | ((with_reducible refine gate_dst (N := 19) rfl ?_); refine load_part rfl 58 3 rfl rfl BK3.out [.int .i8 t113, .int .i8 t114, .int .i8 t115, .int .i8 t116, .int .i8 t117, .int .i8 t118, .int .i8 t119, .int .i8 t120, .int .i8 t121, .int .i8 t122, .int .i8 t123, .int .i8 t124, .int .i8 t125, .int .i8 t126, .int .i16 t127, .int .i16 t128, .int .i16 t129, .int .i8 t130, .bool t131, .bool a0_19] rfl Try.underlying58 rfl (by kernel_rfl) ?_) | ((with_reducible refine gate_store (t := 58) (p := 2) rfl ?_); refine store_part rfl (T := 58) (p := 2) rfl rfl rfl rfl BK2.out #[.int .i8 t113, .int .i8 t114, .int .i8 t115, .int .i8 t116, .int .i8 t117, .int .i8 t118, .int .i8 t119, .int .i8 t120, .int .i8 t121, .int .i8 t122, .int .i8 t123, .int .i8 t124, .int .i8 t125, .int .i8 t126, .int .i16 t127, .int .i16 t128, .int .i16 t129, .int .i8 t130, .bool t131, .bool a0_19] (by simp) rfl (by kernel_rfl) (by kernel_rfl) ?_; intro ws2 hself hoth hbel; have n_ := A_ (hbel HB.out GE2.out); clear HB; have HB := n_; clear n_; clear BK2; have BK2 := A_ hself; clear hself hoth hbel; (skip)))
 refine bodyPost_ret (results_cell_row rfl _ _ gb2 58 #[.int .i8 t113, .int .i8 t114, .int .i8 t115, .int .i8 t116, .int .i8 t117, .int .i8 t118, .int .i8 t119, .int .i8 t120, .int .i8 t121, .int .i8 t122, .int .i8 t123, .int .i8 t124, .int .i8 t125, .int .i8 t126, .int .i16 t127, .int .i16 t128, .int .i16 t129, .int .i8 t130, .bool t131, .bool a0_19] (0, 0) _ rfl BK2.out Try.underlying58 rfl (by kernel_rfl)) rfl ?_
 exact ⟨rfl, HB.out⟩

/-! ### laws_toNodeS: function 13 -/
def laws_toNodeS.l0 : Nat → List (S61) → List (S58) → Int → Option ((List (S58)))
 | 0, _, _, _ => none
 | k + 1, x0, x3, x4 => if x4 < (x0.length : Int) then (if 0 ≤ x4 then ((laws_toNode.f k ((rd_T61 x0 x4).f0.f0) ((rd_T61 x0 x4).f0.f1) ((rd_T61 x0 x4).f0.f2) ((rd_T61 x0 x4).f0.f3) ((rd_T61 x0 x4).f0.f4) ((rd_T61 x0 x4).f0.f5) ((rd_T61 x0 x4).f0.f6) ((rd_T61 x0 x4).f0.f7) ((rd_T61 x0 x4).f0.f8) ((rd_T61 x0 x4).f0.f9) ((rd_T61 x0 x4).f0.f10) ((rd_T61 x0 x4).f0.f11) ((rd_T61 x0 x4).f0.f12) ((rd_T61 x0 x4).f0.f13) ((rd_T61 x0 x4).f1.f0) ((rd_T61 x0 x4).f1.f1) ((rd_T61 x0 x4).f1.f2) ((rd_T61 x0 x4).f2.f0) ((rd_T61 x0 x4).f2.f1) ((rd_T61 x0 x4).f3)).bind fun bt136 => (if x4 < (x3.length : Int) then (laws_toNodeS.l0 k x0 (x3.set (x4 : Int).toNat (⟨(⟨bt136.1, bt136.2.1, bt136.2.2.1, bt136.2.2.2.1, bt136.2.2.2.2.1, bt136.2.2.2.2.2.1, bt136.2.2.2.2.2.2.1, bt136.2.2.2.2.2.2.2.1, bt136.2.2.2.2.2.2.2.2.1, bt136.2.2.2.2.2.2.2.2.2.1, bt136.2.2.2.2.2.2.2.2.2.2.1, bt136.2.2.2.2.2.2.2.2.2.2.2.1, bt136.2.2.2.2.2.2.2.2.2.2.2.2.1, bt136.2.2.2.2.2.2.2.2.2.2.2.2.2.1⟩ : S26), (⟨bt136.2.2.2.2.2.2.2.2.2.2.2.2.2.2.1, bt136.2.2.2.2.2.2.2.2.2.2.2.2.2.2.2.1, bt136.2.2.2.2.2.2.2.2.2.2.2.2.2.2.2.2.1⟩ : S56), (⟨bt136.2.2.2.2.2.2.2.2.2.2.2.2.2.2.2.2.2.1, bt136.2.2.2.2.2.2.2.2.2.2.2.2.2.2.2.2.2.2.1⟩ : S43), bt136.2.2.2.2.2.2.2.2.2.2.2.2.2.2.2.2.2.2.2⟩ : S58)) (wrap64 (x4 + 1))) else (none))) else (none)) else (some x3)
def laws_toNodeS.f (k : Nat) (l0 : List (S61)) : Option ((List (S58))) := if 0 ≤ (l0.length : Int) then (if ((l0.length : Int) : Int).toNat ≤ 11728124029610 then (laws_toNodeS.l0 k l0 (List.replicate ((l0.length : Int) : Int).toNat z58) 0) else (none)) else (none)
theorem laws_toNodeS.mono_l : ∀ k, (∀ y0 y1 y2, LeO (laws_toNodeS.l0 k y0 y1 y2) (laws_toNodeS.l0 (k + 1) y0 y1 y2))
 | 0 => fun _ _ _ r h => by simp [laws_toNodeS.l0] at h
 | k + 1 => by
  have ih0 := laws_toNodeS.mono_l k
  ·intro y0 y1 y2
   unfold laws_toNodeS.l0
   repeat' first
   | (with_reducible exact ih0 _ _ _)
   | (with_reducible exact laws_toNode.mono _ _ _ _ _ _ _ _ _ _ _ _ _ _ _ _ _ _ _ _ _)
   | (with_reducible exact LeO.refl _)
   | (with_reducible exact LeO.none _)
   | (with_reducible refine LeO.ite ?_ ?_)
   | (with_reducible refine LeO.bind ?_ (fun _ => ?_))
   | exact ih0 _ _ _
   | exact laws_toNode.mono _ _ _ _ _ _ _ _ _ _ _ _ _ _ _ _ _ _ _ _ _
   | exact LeO.none _
   | refine LeO.ite ?_ ?_
   | refine LeO.bind ?_ (fun _ => ?_)
theorem laws_toNodeS.mono : ∀ a0 k, LeO (laws_toNodeS.f k a0) (laws_toNodeS.f (k + 1) a0) := by
 intro a0 k
 have ih0 := laws_toNodeS.mono_l k
 unfold laws_toNodeS.f
 repeat' first
   | (with_reducible exact ih0 _ _ _)
   | (with_reducible exact laws_toNode.mono _ _ _ _ _ _ _ _ _ _ _ _ _ _ _ _ _ _ _ _ _)
   | (with_reducible exact LeO.refl _)
   | (with_reducible exact LeO.none _)
   | (with_reducible refine LeO.ite ?_ ?_)
   | (with_reducible refine LeO.bind ?_ (fun _ => ?_))
   | exact ih0 _ _ _
   | exact laws_toNode.mono _ _ _ _ _ _ _ _ _ _ _ _ _ _ _ _ _ _ _ _ _
   | exact LeO.none _
   | refine LeO.ite ?_ ?_
   | refine LeO.bind ?_ (fun _ => ?_)
set_option maxHeartbeats 8000000 in
set_option maxRecDepth 100000 in
theorem laws_toNodeS.calls (k : Nat) (A0 : Option Addr) (c0 : Nat) (l0 : List (S61)) (r : List (S58)) (w : World) (hr0 : Kd.C k61 w A0 l0.length l0) (hc0 : l0.length ≤ c0) (h : laws_toNodeS.f k l0 = some r) :
  Calls Try.prog 13 #[.slice A0 l0.length c0] w fun e w' => ∃ v0_ : Value, e = .returned (v0_) ∧ Kd.R k58 58 w' w.heap.size (fun _ => True) v0_ r ∧ Below w.heap.size w w' := by
 have hu61 := Try.underlying61
 have hu58 := Try.underlying58
 have HR0 := Aside0.mk hr0
 have HC0 := Aside0.mk hc0
 clear hr0 hc0
 have HB := A_ (Below.refl w.heap.size w)
 have H : (if 0 ≤ (l0.length : Int) then (if ((l0.length : Int) : Int).toNat ≤ 11728124029610 then (laws_toNodeS.l0 k l0 (List.replicate ((l0.length : Int) : Int).toNat z58) 0) else (none)) else (none)) = some r := h
 clear h
 by_cases c2 : 0 ≤ (l0.length : Int)
 ·rw [if_pos c2] at H
  have c2b0 := eq_true c2
  have c2b1 : decide (0 ≤ (l0.length : Int)) = true := decide_eq_true c2
  clear c2
  by_cases c3 : ((l0.length : Int) : Int).toNat ≤ 11728124029610
  ·rw [if_pos c3] at H
   have c3b0 := eq_true c3
   have c3b1 : decide (((l0.length : Int) : Int).toNat ≤ 11728124029610) = true := decide_eq_true c3
   clear c3
   obtain ⟨y132, hy132⟩ : ∃ y_ : List (S58), y_ = (List.replicate ((l0.length : Int) : Int).toNat z58) := ⟨_, rfl⟩
   replace H : (laws_toNodeS.l0 k l0 y132 0) = some r := by first | (rw [hy132]; with_reducible exact H) | (have H2_ := (Option.bind_some _ _).symm.trans H; rw [hy132]; with_reducible exact H2_) | (have H2_ := (Option.bind_some _ _).symm.trans H; with_reducible exact H2_) | with_reducible exact H | (rw [hy132]; exact H) | exact H
   have Ny132 := Aside0.mk hy132
   clear hy132
   have H' := Aside0.mk H
   clear H
   go_enter Try.func13, Try.ntmps13
   go_wp2_with (first | ((with_reducible refine gate_dst (N := 7) rfl ?_); refine Kd.R_make k58 _ 58 rfl (N := 7) rfl 36 _ _ rfl (l0.length : Int) rfl rfl Try.underlying36 (.agg #[(.int .i8 0), (.int .i8 0), (.int .i8 0), (.int .i8 0), (.int .i8 0), (.int .i8 0), (.int .i8 0), (.int .i8 0), (.int .i8 0), (.int .i8 0), (.int .i8 0), (.int .i8 0), (.int .i8 0), (.int .i8 0), (.int .i16 0), (.int .i16 0), (.int .i16 0), (.int .i8 0), (.bool false), (.bool false)]) 24 info58 rfl (by decide) (by omega) z58 (ok := fun _ => True) (okp := fun _ => True) (k58_mkM _ _ _ z58 ) (fun _ hk => hk) trivial (asm_) (Nat.le_trans (Nat.mul_le_mul_right _ (asm_ : (l0.length : Int).toNat ≤ 11728124029610)) (by omega)) (Below.refl _ _) (Nat.le_refl _) ?_; intro v133 w4 ho5 hb hg_ hnew_; clear hg_ hnew_; (first | rw [← Ny132.out] at ho5 | (simp only [Int.reduceToNat] at ho5; rw [← Ny132.out] at ho5)); have n0_ := A_ (Kd.R_lower ho5 (below_size (bl_ HB))); have n1_ := A_ (below_step (bl_ HB) hb); clear HB; have HO134 := n0_; have HB := n1_; clear n0_ n1_; clear hb ho5))
   go_loopg [4] k (fun kq v4 w' => ∃ (x3_1 : List (S58)) (x4_1 : Int), v4 = .int .i64 x4_1 ∧ Aside0 (laws_toNodeS.l0 kq l0 x3_1 x4_1 = some r) ∧ Aside0 (kq ≤ k) ∧ Aside0 (Kd.R k58 58 w' w.heap.size (fun _ => True) v133 x3_1) ∧ Aside0 (Below w.heap.size w w'))
   case atStart => exact ⟨(y132), (0), rs_, H', ⟨Nat.le_refl _⟩, ⟨pr_ HO134⟩, ⟨bl_ HB⟩⟩
   case round =>
    clear H'
    try clear c1
    try clear c2
    try clear c2b0
    try clear c2b1
    try clear p2
    try clear c3
    try clear c3b0
    try clear c3b1
    obtain ⟨x3_1, x4_1, rfl, HA, HK1, HO_3, HB⟩ := hrel
    cases gk with
    | zero => exact absurd HA.out (by simp [laws_toNodeS.l0])
    | succ k1 =>
     have H := HA.out
     clear HA
     simp only [laws_toNodeS.l0] at H
     by_cases c6 : x4_1 < (l0.length : Int)
     ·rw [if_pos c6] at H
      have c6b0 : decide (x4_1 < (l0.length : Int)) = true := decide_eq_true c6
      clear c6
      by_cases c7 : 0 ≤ x4_1
      ·rw [if_pos c7] at H
       have c7b0 : decide (0 ≤ x4_1) = true := decide_eq_true c7
       clear c7
       replace H := Option.bind_eq_some_iff.mp H
       obtain ⟨⟨t136, t137, t138, t139, t140, t141, t142, t143, t144, t145, t146, t147, t148, t149, t150, t151, t152, t153, t154, t155⟩, A80, H⟩ := H
       replace H : (if x4_1 < (x3_1.length : Int) then (laws_toNodeS.l0 k1 l0 (x3_1.set (x4_1 : Int).toNat (⟨(⟨t136, t137, t138, t139, t140, t141, t142, t143, t144, t145, t146, t147, t148, t149⟩ : S26), (⟨t150, t151, t152⟩ : S56), (⟨t153, t154⟩ : S43), t155⟩ : S58)) (wrap64 (x4_1 + 1))) else (none)) = some r := H
       have A8 := Aside0.mk A80
       clear A80
       by_cases c9 : x4_1 < (x3_1.length : Int)
       ·rw [if_pos c9] at H
        have c9b0 : decide (x4_1 < (x3_1.length : Int)) = true := decide_eq_true c9
        clear c9
        obtain ⟨y156, hy156⟩ : ∃ y_ : List (S58), y_ = (x3_1.set (x4_1 : Int).toNat (⟨(⟨t136, t137, t138, t139, t140, t141, t142, t143, t144, t145, t146, t147, t148, t149⟩ : S26), (⟨t150, t151, t152⟩ : S56), (⟨t153, t154⟩ : S43), t155⟩ : S58)) := ⟨_, rfl⟩
        replace H : (laws_toNodeS.l0 k1 l0 y156 (wrap64 (x4_1 + 1))) = some r := by first | (rw [hy156]; with_reducible exact H) | (have H2_ := (Option.bind_some _ _).symm.trans H; rw [hy156]; with_reducible exact H2_) | (have H2_ := (Option.bind_some _ _).symm.trans H; with_reducible exact H2_) | with_reducible exact H | (rw [hy156]; exact H) | exact H
        have Ny156 := Aside0.mk hy156
        clear hy156
        have H' := Aside0.mk H
        clear H
        have p135 : 0 ≤ (x4_1 : Int) := asm_
        have q135 : x4_1 < (l0.length : Int) := asm_
        obtain ⟨ad135, ce135, e135, _⟩ := Kd.C_get HR0.out z61 x4_1 p135 q135
        have q135b := q135
        have p135b := p135
        cases e135
        replace p135 := eq_true p135
        replace q135 := eq_true q135
        go_wp2_with (first | ((with_reducible refine gate_dst (N := 19) rfl ?_); refine load_row61 rfl 18 rfl (Kd.C_below HR0.out HB.out) x4_1 p135b q135b rfl rfl ?_) | ((with_reducible refine gate_callee (f := 28) rfl ?_); refine goesL_ (some 20) rfl rfl Try.func28 (by kernel_rfl) rfl #[.agg #[.int .i8 ((rd_T61 l0 x4_1).f0.f0), .int .i8 ((rd_T61 l0 x4_1).f0.f1), .int .i8 ((rd_T61 l0 x4_1).f0.f2), .int .i8 ((rd_T61 l0 x4_1).f0.f3), .int .i8 ((rd_T61 l0 x4_1).f0.f4), .int .i8 ((rd_T61 l0 x4_1).f0.f5), .int .i8 ((rd_T61 l0 x4_1).f0.f6), .int .i8 ((rd_T61 l0 x4_1).f0.f7), .int .i8 ((rd_T61 l0 x4_1).f0.f8), .int .i8 ((rd_T61 l0 x4_1).f0.f9), .int .i8 ((rd_T61 l0 x4_1).f0.f10), .int .i8 ((rd_T61 l0 x4_1).f0.f11), .int .i8 ((rd_T61 l0 x4_1).f0.f12), .int .i8 ((rd_T61 l0 x4_1).f0.f13), .int .i16 ((rd_T61 l0 x4_1).f1.f0), .int .i16 ((rd_T61 l0 x4_1).f1.f1), .int .i16 ((rd_T61 l0 x4_1).f1.f2), .int .i8 ((rd_T61 l0 x4_1).f2.f0), .bool ((rd_T61 l0 x4_1).f2.f1), .bool ((rd_T61 l0 x4_1).f3)]] rfl arg_ ?_; (with_reducible refine (laws_toNode.calls k1 ((rd_T61 l0 x4_1).f0.f0) ((rd_T61 l0 x4_1).f0.f1) ((rd_T61 l0 x4_1).f0.f2) ((rd_T61 l0 x4_1).f0.f3) ((rd_T61 l0 x4_1).f0.f4) ((rd_T61 l0 x4_1).f0.f5) ((rd_T61 l0 x4_1).f0.f6) ((rd_T61 l0 x4_1).f0.f7) ((rd_T61 l0 x4_1).f0.f8) ((rd_T61 l0 x4_1).f0.f9) ((rd_T61 l0 x4_1).f0.f10) ((rd_T61 l0 x4_1).f0.f11) ((rd_T61 l0 x4_1).f0.f12) ((rd_T61 l0 x4_1).f0.f13) ((rd_T61 l0 x4_1).f1.f0) ((rd_T61 l0 x4_1).f1.f1) ((rd_T61 l0 x4_1).f1.f2) ((rd_T61 l0 x4_1).f2.f0) ((rd_T61 l0 x4_1).f2.f1) ((rd_T61 l0 x4_1).f3) t136 t137 t138 t139 t140 t141 t142 t143 t144 t145 t146 t147 t148 t149 t150 t151 t152 t153 t154 t155 _ A8.out).mono ?_); rintro e w11 ⟨rfl, hb⟩; refine ⟨_, rfl, ?_⟩; have n0_ := A_ (Kd.R_below HO_3.out hb); have n1_ := A_ (below_step HB.out hb); clear HO_3; clear HB; have HO_3 := n0_; have HB := n1_; clear n0_ n1_; (try clear hb); (try clear hb2); (try clear hk); (try clear hi); have p10 : 0 ≤ (x4_1 : Int) := asm_; have q10 : (x4_1 : Int) < ((x3_1.length : Int) : Int) := asm_; obtain ⟨go10, co10, eo10, gb10, gl10, cl10, HG10⟩ := Kd.R_form HO_3.out (by omega); (first | cases eo10 | (injection eo10 with ea_ en_ ec_; (first | subst ea_ | (injection ea_ with ea_; subst ea_)); subst ec_; clear en_)); have GB10 := Aside0.mk gb10; have GG10 := Aside0.mk HG10; clear gl10; have P10 := Aside0.mk p10; have Q10 := Aside0.mk q10; replace p10 := eq_true p10; replace q10 := eq_true q10) | ((with_reducible refine gate_store (t := 58) (p := 21) rfl ?_); refine store_row58 rfl (p := 21) (v := .tmp 20) rfl rfl HO_3.out x4_1 P10.out Q10.out (⟨(⟨t136, t137, t138, t139, t140, t141, t142, t143, t144, t145, t146, t147, t148, t149⟩ : S26), (⟨t150, t151, t152⟩ : S56), (⟨t153, t154⟩ : S43), t155⟩ : S58) rfl rfl ?_; intro ws21 ho hg; have n0_ := A_ (by rw [← Ny156.out] at ho; exact ho); have n1_ := A_ (Below.grown HB.out hg (below_size HB.out) (fun k_ e_ => by injection e_ with e_; rw [← e_]; exact gb10)); clear HO_3 HB ho hg; have HO_3 := n0_; have HB := n1_; clear n0_ n1_))
        go_roundg k1
        case measure => have := HK1.out; omega
        case rel => exact ⟨(y156), (wrap64 (x4_1 + 1)), rs_, H', ⟨by have := HK1.out; omega⟩, ⟨HO_3.out⟩, ⟨HB.out⟩⟩
       ·rw [if_neg c9] at H
        exact absurd H (by simp)
      ·rw [if_neg c7] at H
       exact absurd H (by simp)
     ·rw [if_neg c6] at H
      have c6b0 : decide (x4_1 < (l0.length : Int)) = false := decide_eq_false c6
      clear c6
      obtain rfl := Option.some.inj H
      go_wp2
      go_ret
      exact ⟨_, by first | rfl | (simp [errW_none, errW_some] <;> rfl) | (simp [*, errW_none, errW_some] <;> rfl), pr_ HO_3, bl_ HB⟩
  ·rw [if_neg c3] at H
   exact absurd H (by simp)
 ·rw [if_neg c2] at H
  exact absurd H (by simp)

end Go.Proofs.Ytcghglembmohcaa.M
