-- By this seat's own program over the kit's printer (arrays, functions told by hand); nothing of it is trusted: the kernel checks it.
import Derived.Test.YtonifpgaagdohaaMx0
namespace Go.Proofs.Ytonifpgaagdohaa.M
open Go.RowKit Go.Proofs.YtonifpgaagdohaaW.PrintWords Go.Proofs.YtonifpgaagdohaaW.PrintLast Go.Proofs.YtonifpgaagdohaaW.PrintMore
attribute [local go_sem] max2_int min2_int max_two min_two max_three min_three max_four min_four   -- for this text's walks alone
set_option linter.unusedVariables false
set_option linter.unusedSimpArgs false

/-! ### laws_szWordS: function 30 -/
def laws_szWordS.f (l0 : List (S37)) (a1 : Int) : Option (Int) := if (wrap64 (a1 - (l0.length : Int))) < 0 then (some (-1)) else (some (wrap64 (a1 - (l0.length : Int))))
set_option maxHeartbeats 8000000 in
set_option maxRecDepth 100000 in
theorem laws_szWordS.calls (A0 : Option Addr) (c0 : Nat) (l0 : List (S37)) (a1 : Int) (r : Int) (w : World) (hr0 : Kd.C k37 w A0 l0.length l0) (hc0 : l0.length ≤ c0) (h : laws_szWordS.f l0 a1 = some r) :
  Calls Try.prog 30 #[.slice A0 l0.length c0, .int .i64 a1] w fun e w' => e = .returned (.int .i64 r) ∧ Drawn0 w w' := by
 have HR0 := Aside0.mk hr0
 have HC0 := Aside0.mk hc0
 clear hr0 hc0
 have H : (if (wrap64 (a1 - (l0.length : Int))) < 0 then (some (-1)) else (some (wrap64 (a1 - (l0.length : Int))))) = some r := h
 clear h
 by_cases c3 : (wrap64 (a1 - (l0.length : Int))) < 0
 ·rw [if_pos c3] at H
  have c3b0 : decide ((wrap64 (a1 - (l0.length : Int))) < 0) = true := decide_eq_true c3
  clear c3
  obtain rfl := Option.some.inj H
  go_enter Try.func30, Try.ntmps30
  go_wp2
  go_ret
  exact ⟨by first | rfl | (simp; done) | (simp [*]; done), by repeat (first | exact Drawn0.refl _ | apply Drawn0.step)⟩
 ·rw [if_neg c3] at H
  have c3b0 : decide ((wrap64 (a1 - (l0.length : Int))) < 0) = false := decide_eq_false c3
  clear c3
  obtain rfl := Option.some.inj H
  go_enter Try.func30, Try.ntmps30
  go_wp2
  go_ret
  exact ⟨by first | rfl | (simp; done) | (simp [*]; done), by repeat (first | exact Drawn0.refl _ | apply Drawn0.step)⟩

/-! ### laws_szFixed: function 9 -/
def laws_szFixed.f (a0_0 : Int) (a0_1 : Int) (l0_2 : List (S37)) (a1 : Int) : Option (Int) := (laws_szWordS.f l0_2 a1).bind fun t102 => (if t102 < 0 then (some (-1)) else (some t102))
set_option maxHeartbeats 8000000 in
set_option maxRecDepth 100000 in
theorem laws_szFixed.calls (a0_0 : Int) (a0_1 : Int) (A0_2 : Option Addr) (c0_2 : Nat) (l0_2 : List (S37)) (a1 : Int) (r : Int) (w : World) (hr0_2 : Kd.C k37 w A0_2 l0_2.length l0_2) (hc0_2 : l0_2.length ≤ c0_2) (h : laws_szFixed.f a0_0 a0_1 l0_2 a1 = some r) :
  Calls Try.prog 9 #[.agg #[.int .i8 a0_0, .int .i8 a0_1, .slice A0_2 l0_2.length c0_2], .int .i64 a1] w fun e w' => e = .returned (.int .i64 r) ∧ Below w.heap.size w w' := by
 have hu25 := Try.underlying25
 have HR0_2 := Aside0.mk hr0_2
 have HC0_2 := Aside0.mk hc0_2
 clear hr0_2 hc0_2
 have HB := A_ (Below.refl w.heap.size w)
 have H : ((laws_szWordS.f l0_2 a1).bind fun t102 => (if t102 < 0 then (some (-1)) else (some t102))) = some r := h
 clear h
 replace H := Option.bind_eq_some_iff.mp H
 obtain ⟨t102, A30, H⟩ := H
 replace H : (if t102 < 0 then (some (-1)) else (some t102)) = some r := H
 have A3 := Aside0.mk A30
 clear A30
 by_cases c4 : t102 < 0
 ·rw [if_pos c4] at H
  have c4b0 : decide (t102 < 0) = true := decide_eq_true c4
  clear c4
  obtain rfl := Option.some.inj H
  go_enter Try.func9, Try.ntmps9
  go_wp2_with (first | ((with_reducible refine gate_dst (N := 2) rfl ?_); refine box_event ?hg (N := 2) ?hd (cs := #[.int .i8 a0_0, .int .i8 a0_1, .slice A0_2 l0_2.length c0_2]) (t := 25) ?hr ?_; (case hd => rfl); (case hg => rfl); (case hr => first | (go_simp; done) | (go_simp; rfl)); intro gb101 hg w5 hbox hb; have n0_ := A_ (below_step (bl_ HB) hb); have n1_ := A_ (hbox); have n2_ := A_ ((by rw [hg]; exact (below_size (bl_ HB)) : w.heap.size ≤ gb101)); have n3_ := n2_; clear HB; have HB := n0_; have BK101 := n1_; have GW101 := n2_; have GE101 := n3_; clear n0_ n1_ n2_ n3_; clear hb hbox hg; have hcz6_0 : w5.cell? ⟨gb101, 0, none⟩ = some (.int .i8 a0_0) := (blk_cell BK101.out 0).trans rfl; have hcz6_1 : w5.cell? ⟨gb101, 1, none⟩ = some (.int .i8 a0_1) := (blk_cell BK101.out 1).trans rfl; have hcz6_2 : w5.cell? ⟨gb101, 2, none⟩ = some (.slice A0_2 l0_2.length c0_2) := (blk_cell BK101.out 2).trans rfl; have hfz6_0 := blk_frozen BK101.out 0; have hfz6_1 := blk_frozen BK101.out 1; have hfz6_2 := blk_frozen BK101.out 2) | ((with_reducible refine gate_callee (f := 30) rfl ?_); refine goesL_ (some 8) rfl rfl Try.func30 (by kernel_rfl) rfl #[.slice A0_2 l0_2.length c0_2, .int .i64 a1] rfl arg_ ?_; (with_reducible refine (laws_szWordS.calls _ _ l0_2 a1 t102 _ ?side1 ?side2 A3.out).mono ?_); (case side1 => repeat (first | exact (Kd.C_below HR0_2.out HB.out) | (with_reducible refine Kd.C_alloc ?_ _) | (with_reducible refine Kd.C_drewN ?_ _) | (with_reducible refine Kd.C_drew ?_))); (case side2 => exact HC0_2.out); rintro e w' ⟨rfl, ⟨nd, rfl⟩⟩; refine ⟨_, rfl, ?_⟩))
  go_ret
  exact ⟨by first | rfl | (simp [errW_none, errW_some] <;> rfl) | (simp [*, errW_none, errW_some] <;> rfl), bl_ HB⟩
 ·rw [if_neg c4] at H
  have c4b0 : decide (t102 < 0) = false := decide_eq_false c4
  clear c4
  obtain rfl := Option.some.inj H
  go_enter Try.func9, Try.ntmps9
  go_wp2_with (first | ((with_reducible refine gate_dst (N := 2) rfl ?_); refine box_event ?hg (N := 2) ?hd (cs := #[.int .i8 a0_0, .int .i8 a0_1, .slice A0_2 l0_2.length c0_2]) (t := 25) ?hr ?_; (case hd => rfl); (case hg => rfl); (case hr => first | (go_simp; done) | (go_simp; rfl)); intro gb101 hg w7 hbox hb; have n0_ := A_ (below_step (bl_ HB) hb); have n1_ := A_ (hbox); have n2_ := A_ ((by rw [hg]; exact (below_size (bl_ HB)) : w.heap.size ≤ gb101)); have n3_ := n2_; clear HB; have HB := n0_; have BK101 := n1_; have GW101 := n2_; have GE101 := n3_; clear n0_ n1_ n2_ n3_; clear hb hbox hg; have hcz8_0 : w7.cell? ⟨gb101, 0, none⟩ = some (.int .i8 a0_0) := (blk_cell BK101.out 0).trans rfl; have hcz8_1 : w7.cell? ⟨gb101, 1, none⟩ = some (.int .i8 a0_1) := (blk_cell BK101.out 1).trans rfl; have hcz8_2 : w7.cell? ⟨gb101, 2, none⟩ = some (.slice A0_2 l0_2.length c0_2) := (blk_cell BK101.out 2).trans rfl; have hfz8_0 := blk_frozen BK101.out 0; have hfz8_1 := blk_frozen BK101.out 1; have hfz8_2 := blk_frozen BK101.out 2) | ((with_reducible refine gate_callee (f := 30) rfl ?_); refine goesL_ (some 8) rfl rfl Try.func30 (by kernel_rfl) rfl #[.slice A0_2 l0_2.length c0_2, .int .i64 a1] rfl arg_ ?_; (with_reducible refine (laws_szWordS.calls _ _ l0_2 a1 t102 _ ?side1 ?side2 A3.out).mono ?_); (case side1 => repeat (first | exact (Kd.C_below HR0_2.out HB.out) | (with_reducible refine Kd.C_alloc ?_ _) | (with_reducible refine Kd.C_drewN ?_ _) | (with_reducible refine Kd.C_drew ?_))); (case side2 => exact HC0_2.out); rintro e w' ⟨rfl, ⟨nd, rfl⟩⟩; refine ⟨_, rfl, ?_⟩))
  go_ret
  exact ⟨by first | rfl | (simp [errW_none, errW_some] <;> rfl) | (simp [*, errW_none, errW_some] <;> rfl), bl_ HB⟩

/-! ### laws_toWord: function 19 -/
def laws_toWord.l0 : Nat → Int → Int → Int → Int → Int → Int → Int → Int → Int → Option (Int × Int × Int × Int)
 | 0, _, _, _, _, _, _, _, _, _ => none
 | k + 1, x4, x104000, x104001, x104002, x104003, x106000, x106001, x106002, x106003 => if x4 < 4 then (if 0 ≤ x4 then (laws_toWord.l0 k (wrap64 (x4 + 1)) x104000 x104001 x104002 x104003 (aup x4 0 (rd [x104000, x104001, x104002, x104003] x4) x106000) (aup x4 1 (rd [x104000, x104001, x104002, x104003] x4) x106001) (aup x4 2 (rd [x104000, x104001, x104002, x104003] x4) x106002) (aup x4 3 (rd [x104000, x104001, x104002, x104003] x4) x106003)) else (none)) else (some (x106000, x106001, x106002, x106003))
def laws_toWord.f (k : Nat) (a0_0 : Int) (a0_1 : Int) (a0_2 : Int) (a0_3 : Int) : Option (Int × Int × Int × Int) := laws_toWord.l0 k 0 a0_0 a0_1 a0_2 a0_3 0 0 0 0
theorem laws_toWord.mono_l : ∀ k, (∀ y0 y1 y2 y3 y4 y5 y6 y7 y8, LeO (laws_toWord.l0 k y0 y1 y2 y3 y4 y5 y6 y7 y8) (laws_toWord.l0 (k + 1) y0 y1 y2 y3 y4 y5 y6 y7 y8))
 | 0 => fun _ _ _ _ _ _ _ _ _ r h => by simp [laws_toWord.l0] at h
 | k + 1 => by
  have ih0 := laws_toWord.mono_l k
  ·intro y0 y1 y2 y3 y4 y5 y6 y7 y8
   unfold laws_toWord.l0
   repeat' first
   | (with_reducible exact ih0 _ _ _ _ _ _ _ _ _)
   | (with_reducible exact LeO.refl _)
   | (with_reducible exact LeO.none _)
   | (with_reducible refine LeO.ite ?_ ?_)
   | (with_reducible refine LeO.bind ?_ (fun _ => ?_))
   | exact ih0 _ _ _ _ _ _ _ _ _
   | exact LeO.none _
   | refine LeO.ite ?_ ?_
   | refine LeO.bind ?_ (fun _ => ?_)
theorem laws_toWord.mono : ∀ a0 a1 a2 a3 k, LeO (laws_toWord.f k a0 a1 a2 a3) (laws_toWord.f (k + 1) a0 a1 a2 a3) := by
 intro a0 a1 a2 a3 k
 have ih0 := laws_toWord.mono_l k
 unfold laws_toWord.f
 repeat' first
   | (with_reducible exact ih0 _ _ _ _ _ _ _ _ _)
   | (with_reducible exact LeO.refl _)
   | (with_reducible exact LeO.none _)
   | (with_reducible refine LeO.ite ?_ ?_)
   | (with_reducible refine LeO.bind ?_ (fun _ => ?_))
   | exact ih0 _ _ _ _ _ _ _ _ _
   | exact LeO.none _
   | refine LeO.ite ?_ ?_
   | refine LeO.bind ?_ (fun _ => ?_)
set_option maxHeartbeats 8000000 in
set_option maxRecDepth 100000 in
theorem laws_toWord.calls (k : Nat) (a0_0 : Int) (a0_1 : Int) (a0_2 : Int) (a0_3 : Int) (r1 : Int) (r2 : Int) (r3 : Int) (r4 : Int) (w : World) (h : laws_toWord.f k a0_0 a0_1 a0_2 a0_3 = some (r1, r2, r3, r4)) :
  Calls Try.prog 19 #[.agg #[.int .i8 a0_0, .int .i8 a0_1, .int .i8 a0_2, .int .i8 a0_3]] w fun e w' => e = .returned (.agg #[.int .i8 r1, .int .i8 r2, .int .i8 r3, .int .i8 r4]) ∧ Below w.heap.size w w' := by
 have hu37 := Try.underlying37
 have hu40 := Try.underlying40
 have HB := A_ (Below.refl w.heap.size w)
 have H : (laws_toWord.l0 k 0 a0_0 a0_1 a0_2 a0_3 0 0 0 0) = some (r1, r2, r3, r4) := h
 clear h
 have H' := Aside0.mk H
 clear H
 go_enter Try.func19, Try.ntmps19
 go_wp2_with (first | ((with_reducible refine gate_dst (N := 1) rfl ?_); refine box_event ?hg (N := 1) ?hd (cs := #[.int .i8 a0_0, .int .i8 a0_1, .int .i8 a0_2, .int .i8 a0_3]) (t := 37) ?hr ?_; (case hd => rfl); (case hg => rfl); (case hr => first | (go_simp; done) | (go_simp; rfl)); intro gb103 hg w2 hbox hb; have n0_ := A_ (below_step (bl_ HB) hb); have n1_ := A_ (hbox); have n2_ := A_ ((by rw [hg]; exact (below_size (bl_ HB)) : w.heap.size ≤ gb103)); have n3_ := n2_; clear HB; have HB := n0_; have BK103 := n1_; have GW103 := n2_; have GE103 := n3_; clear n0_ n1_ n2_ n3_; clear hb hbox hg) | ((with_reducible refine gate_dst (N := 2) rfl ?_); refine box_event ?hg (N := 2) ?hd (cs := #[.int .i8 0, .int .i8 0, .int .i8 0, .int .i8 0]) (t := 40) ?hr ?_; (case hd => rfl); (case hg => rfl); (case hr => first | (go_simp; done) | (go_simp; rfl)); intro gb104 hg w3 hbox hb; have n0_ := A_ (blk_below (g := gb103) (o := .cells #[.int .i8 a0_0, .int .i8 a0_1, .int .i8 a0_2, .int .i8 a0_3] 37 (0, 0)) (pl_ BK103) hb); have n1_ := A_ (below_step (bl_ HB) hb); have n2_ := A_ (hbox); have n3_ := A_ ((by rw [hg]; exact (below_size (bl_ HB)) : w.heap.size ≤ gb104)); have n4_ := n3_; have n5_ := A_ ((by rw [hg]; exact Nat.ne_of_lt (blk_lt (g := gb103) (o := .cells #[.int .i8 a0_0, .int .i8 a0_1, .int .i8 a0_2, .int .i8 a0_3] 37 (0, 0)) (pl_ BK103)) : gb103 ≠ gb104)); have n6_ := A_ ((by rw [hg]; exact Nat.ne_of_gt (blk_lt (g := gb103) (o := .cells #[.int .i8 a0_0, .int .i8 a0_1, .int .i8 a0_2, .int .i8 a0_3] 37 (0, 0)) (pl_ BK103)) : gb104 ≠ gb103)); clear BK103; clear HB; have BK103 := n0_; have HB := n1_; have BK104 := n2_; have GW104 := n3_; have GE104 := n4_; have NB103_104 := n5_; have NB104_103 := n6_; clear n0_ n1_ n2_ n3_ n4_ n5_ n6_; clear hb hbox hg) | ((with_reducible refine gate_dst (N := 3) rfl ?_); refine box_event ?hg (N := 3) ?hd (cs := #[.int .i8 0, .int .i8 0, .int .i8 0, .int .i8 0]) (t := 40) ?hr ?_; (case hd => rfl); (case hg => rfl); (case hr => first | (go_simp; done) | (go_simp; rfl)); intro gb105 hg w4 hbox hb; have n0_ := A_ (blk_below (g := gb103) (o := .cells #[.int .i8 a0_0, .int .i8 a0_1, .int .i8 a0_2, .int .i8 a0_3] 37 (0, 0)) (pl_ BK103) hb); have n1_ := A_ (blk_below (g := gb104) (o := .cells #[.int .i8 0, .int .i8 0, .int .i8 0, .int .i8 0] 40 (0, 0)) (pl_ BK104) hb); have n2_ := A_ (below_step (bl_ HB) hb); have n3_ := A_ (hbox); have n4_ := A_ ((by rw [hg]; exact (below_size (bl_ HB)) : w.heap.size ≤ gb105)); have n5_ := n4_; have n6_ := A_ ((by rw [hg]; exact Nat.ne_of_lt (blk_lt (g := gb103) (o := .cells #[.int .i8 a0_0, .int .i8 a0_1, .int .i8 a0_2, .int .i8 a0_3] 37 (0, 0)) (pl_ BK103)) : gb103 ≠ gb105)); have n7_ := A_ ((by rw [hg]; exact Nat.ne_of_gt (blk_lt (g := gb103) (o := .cells #[.int .i8 a0_0, .int .i8 a0_1, .int .i8 a0_2, .int .i8 a0_3] 37 (0, 0)) (pl_ BK103)) : gb105 ≠ gb103)); have n8_ := A_ ((by rw [hg]; exact Nat.ne_of_lt (blk_lt (g := gb104) (o := .cells #[.int .i8 0, .int .i8 0, .int .i8 0, .int .i8 0] 40 (0, 0)) (pl_ BK104)) : gb104 ≠ gb105)); have n9_ := A_ ((by rw [hg]; exact Nat.ne_of_gt (blk_lt (g := gb104) (o := .cells #[.int .i8 0, .int .i8 0, .int .i8 0, .int .i8 0] 40 (0, 0)) (pl_ BK104)) : gb105 ≠ gb104)); clear BK103; clear BK104; clear HB; have BK103 := n0_; have BK104 := n1_; have HB := n2_; have BK105 := n3_; have GW105 := n4_; have GE105 := n5_; have NB103_105 := n6_; have NB105_103 := n7_; have NB104_105 := n8_; have NB105_104 := n9_; clear n0_ n1_ n2_ n3_ n4_ n5_ n6_ n7_ n8_ n9_; clear hb hbox hg))
 go_loopg [4] k (fun kq v4 w' => ∃ (x4_1 : Int) (x106000_1 : Int) (x106001_1 : Int) (x106002_1 : Int) (x106003_1 : Int), v4 = .int .i64 x4_1 ∧ Aside0 (laws_toWord.l0 kq x4_1 a0_0 a0_1 a0_2 a0_3 x106000_1 x106001_1 x106002_1 x106003_1 = some (r1, r2, r3, r4)) ∧ Aside0 (kq ≤ k) ∧ Aside0 (w'.heap[gb103]? = some (.cells #[.int .i8 a0_0, .int .i8 a0_1, .int .i8 a0_2, .int .i8 a0_3] 37 (0, 0))) ∧ Aside0 (w'.heap[gb104]? = some (.cells #[.int .i8 0, .int .i8 0, .int .i8 0, .int .i8 0] 40 (0, 0))) ∧ Aside0 (w'.heap[gb105]? = some (.cells #[.int .i8 x106000_1, .int .i8 x106001_1, .int .i8 x106002_1, .int .i8 x106003_1] 40 (0, 0))) ∧ Aside0 (Below w.heap.size w w'))
 case atStart => exact ⟨(0), (0), (0), (0), (0), rs_, H', ⟨Nat.le_refl _⟩, ⟨pl_ BK103⟩, ⟨pl_ BK104⟩, ⟨pl_ BK105⟩, ⟨bl_ HB⟩⟩
 case round =>
  clear H'
  try clear c1
  try clear p2
  obtain ⟨x4_1, x106000_1, x106001_1, x106002_1, x106003_1, rfl, HA, HK1, BK103, BK104, BK105, HB⟩ := hrel
  cases gk with
  | zero => exact absurd HA.out (by simp [laws_toWord.l0])
  | succ k1 =>
   have H := HA.out
   clear HA
   simp only [laws_toWord.l0] at H
   by_cases c5 : x4_1 < 4
   ·rw [if_pos c5] at H
    have c5b0 : decide (x4_1 < 4) = true := decide_eq_true c5
    clear c5
    by_cases c6 : 0 ≤ x4_1
    ·rw [if_pos c6] at H
     have c6b0 : decide (0 ≤ x4_1) = true := decide_eq_true c6
     clear c6
     have H' := Aside0.mk H
     clear H
     have hnb10 := NB103_104.out
     have hnc10 := NB104_103.out
     have hnb11 := NB103_105.out
     have hnc11 := NB105_103.out
     have hcz12_0 : wr.cell? ⟨gb103, 0, none⟩ = some (.int .i8 a0_0) := (blk_cell BK103.out 0).trans rfl
     have hcz12_1 : wr.cell? ⟨gb103, 1, none⟩ = some (.int .i8 a0_1) := (blk_cell BK103.out 1).trans rfl
     have hcz12_2 : wr.cell? ⟨gb103, 2, none⟩ = some (.int .i8 a0_2) := (blk_cell BK103.out 2).trans rfl
     have hcz12_3 : wr.cell? ⟨gb103, 3, none⟩ = some (.int .i8 a0_3) := (blk_cell BK103.out 3).trans rfl
     have hfz12_0 := blk_frozen BK103.out 0
     have hfz12_1 := blk_frozen BK103.out 1
     have hfz12_2 := blk_frozen BK103.out 2
     have hfz12_3 := blk_frozen BK103.out 3
     have p7 : 0 ≤ (x4_1 : Int) := asm_
     have q7 : (x4_1 : Int) < 4 := asm_
     have hx7 : wr.cell? ⟨gb103, (x4_1 : Int).toNat, none⟩ = some (.int .i8 (rd [a0_0, a0_1, a0_2, a0_3] x4_1)) := ard_cell (k := .i8) (l := [a0_0, a0_1, a0_2, a0_3]) BK103.out p7 q7
     have hf7 := blk_frozen BK103.out (x4_1 : Int).toNat
     have P7 := Aside0.mk p7
     have Q7 := Aside0.mk q7
     replace p7 := eq_true p7
     replace q7 := eq_true q7
     have hnb13 := NB105_104.out
     have hnc13 := NB104_105.out
     have hcz14_0 : wr.cell? ⟨gb105, 0, none⟩ = some (.int .i8 x106000_1) := (blk_cell BK105.out 0).trans rfl
     have hcz14_1 : wr.cell? ⟨gb105, 1, none⟩ = some (.int .i8 x106001_1) := (blk_cell BK105.out 1).trans rfl
     have hcz14_2 : wr.cell? ⟨gb105, 2, none⟩ = some (.int .i8 x106002_1) := (blk_cell BK105.out 2).trans rfl
     have hcz14_3 : wr.cell? ⟨gb105, 3, none⟩ = some (.int .i8 x106003_1) := (blk_cell BK105.out 3).trans rfl
     have hfz14_0 := blk_frozen BK105.out 0
     have hfz14_1 := blk_frozen BK105.out 1
     have hfz14_2 := blk_frozen BK105.out 2
     have hfz14_3 := blk_frozen BK105.out 3
     have p8 : 0 ≤ (x4_1 : Int) := asm_
     have q8 : (x4_1 : Int) < 4 := asm_
     have hx8 : wr.cell? ⟨gb105, (x4_1 : Int).toNat, none⟩ = some (.int .i8 (rd [x106000_1, x106001_1, x106002_1, x106003_1] x4_1)) := ard_cell (k := .i8) (l := [x106000_1, x106001_1, x106002_1, x106003_1]) BK105.out p8 q8
     have hf8 := blk_frozen BK105.out (x4_1 : Int).toNat
     have P8 := Aside0.mk p8
     have Q8 := Aside0.mk q8
     replace p8 := eq_true p8
     replace q8 := eq_true q8
     go_wp2_with (first | ((with_reducible refine gate_store (t := 22) (p := 13) rfl ?_); refine store_event (t := 22) (p := 13) (v := ?vo_w16) (w1 := (wr.setCell ⟨gb105, (x4_1 : Int).toNat, none⟩ (.int .i8 (rd [a0_0, a0_1, a0_2, a0_3] x4_1)))) ?hg ?ho ?hn ?hr ?_; (case ho => rfl); (case hg => rfl); (case hn => rfl); (case hr => first | (go_simp; done) | (go_simp; rfl)); intro w16 hw; have n0_ : Aside0 (w16.heap[gb103]? = some (.cells #[.int .i8 a0_0, .int .i8 a0_1, .int .i8 a0_2, .int .i8 a0_3] 37 (0, 0))) := ⟨(by rw [hw]; exact (pf_ BK103 NB103_105))⟩; have n1_ : Aside0 (w16.heap[gb104]? = some (.cells #[.int .i8 0, .int .i8 0, .int .i8 0, .int .i8 0] 40 (0, 0))) := ⟨(by rw [hw]; exact (pf_ BK104 NB104_105))⟩; have n2_ : Aside0 (w16.heap[gb105]? = some (.cells #[.int .i8 (aup x4_1 0 (rd [a0_0, a0_1, a0_2, a0_3] x4_1) x106000_1), .int .i8 (aup x4_1 1 (rd [a0_0, a0_1, a0_2, a0_3] x4_1) x106001_1), .int .i8 (aup x4_1 2 (rd [a0_0, a0_1, a0_2, a0_3] x4_1) x106002_1), .int .i8 (aup x4_1 3 (rd [a0_0, a0_1, a0_2, a0_3] x4_1) x106003_1)] 40 (0, 0))) := ⟨(by rw [hw]; exact (by (with_reducible repeat (first | refine blk_drewN ?_ _ | refine blk_drew ?_ | refine blk_alloc ?_ _)); refine blk_put (cs := #[.int .i8 x106000_1, .int .i8 x106001_1, .int .i8 x106002_1, .int .i8 x106003_1]) ?_ (x4_1 : Int).toNat _ (ups_set (k := .i8) (l := [x106000_1, x106001_1, x106002_1, x106003_1]) P8.out); (with_reducible repeat (first | refine blk_drewN ?_ _ | refine blk_drew ?_ | refine blk_alloc ?_ _)); exact BK105.out))⟩; have n3_ : Aside0 (Below w.heap.size w w16) := ⟨(by rw [hw]; exact (bs_ HB GE105))⟩; clear hw; clear BK103; clear BK104; clear BK105; clear HB; have BK103 := n0_; have BK104 := n1_; have BK105 := n2_; have HB := n3_; clear n0_ n1_ n2_ n3_))
     go_roundg k1
     case measure => have := HK1.out; omega
     case rel => exact ⟨(wrap64 (x4_1 + 1)), (aup x4_1 0 (rd [a0_0, a0_1, a0_2, a0_3] x4_1) x106000_1), (aup x4_1 1 (rd [a0_0, a0_1, a0_2, a0_3] x4_1) x106001_1), (aup x4_1 2 (rd [a0_0, a0_1, a0_2, a0_3] x4_1) x106002_1), (aup x4_1 3 (rd [a0_0, a0_1, a0_2, a0_3] x4_1) x106003_1), rs_, H', ⟨by have := HK1.out; omega⟩, ⟨pl_ BK103⟩, ⟨pl_ BK104⟩, ⟨pl_ BK105⟩, ⟨bl_ HB⟩⟩
    ·rw [if_neg c6] at H
     exact absurd H (by simp)
   ·rw [if_neg c5] at H
    have c5b0 : decide (x4_1 < 4) = false := decide_eq_false c5
    clear c5
    simp only [Option.some.injEq, Prod.mk.injEq] at H
    obtain ⟨rfl, rfl, rfl, rfl⟩ := H
    have hnb17 := NB105_103.out
    have hnc17 := NB103_105.out
    have hnb18 := NB105_104.out
    have hnc18 := NB104_105.out
    have hcz19_0 : wr.cell? ⟨gb105, 0, none⟩ = some (.int .i8 x106000_1) := (blk_cell BK105.out 0).trans rfl
    have hcz19_1 : wr.cell? ⟨gb105, 1, none⟩ = some (.int .i8 x106001_1) := (blk_cell BK105.out 1).trans rfl
    have hcz19_2 : wr.cell? ⟨gb105, 2, none⟩ = some (.int .i8 x106002_1) := (blk_cell BK105.out 2).trans rfl
    have hcz19_3 : wr.cell? ⟨gb105, 3, none⟩ = some (.int .i8 x106003_1) := (blk_cell BK105.out 3).trans rfl
    have hfz19_0 := blk_frozen BK105.out 0
    have hfz19_1 := blk_frozen BK105.out 1
    have hfz19_2 := blk_frozen BK105.out 2
    have hfz19_3 := blk_frozen BK105.out 3
    have hnb20 := NB104_103.out
    have hnc20 := NB103_104.out
    have hcz21_0 : wr.cell? ⟨gb104, 0, none⟩ = some (.int .i8 0) := (blk_cell BK104.out 0).trans rfl
    have hcz21_1 : wr.cell? ⟨gb104, 1, none⟩ = some (.int .i8 0) := (blk_cell BK104.out 1).trans rfl
    have hcz21_2 : wr.cell? ⟨gb104, 2, none⟩ = some (.int .i8 0) := (blk_cell BK104.out 2).trans rfl
    have hcz21_3 : wr.cell? ⟨gb104, 3, none⟩ = some (.int .i8 0) := (blk_cell BK104.out 3).trans rfl
    have hfz21_0 := blk_frozen BK104.out 0
    have hfz21_1 := blk_frozen BK104.out 1
    have hfz21_2 := blk_frozen BK104.out 2
    have hfz21_3 := blk_frozen BK104.out 3
    go_wp2
    refine bodyPost_ret (results_cell_row rfl _ _ gb104 40 #[.int .i8 x106000_1, .int .i8 x106001_1, .int .i8 x106002_1, .int .i8 x106003_1] (0, 0) _ rfl (by (with_reducible repeat (first | refine blk_drewN ?_ _ | refine blk_drew ?_ | refine blk_alloc ?_ _)); refine blk_put (cs := #[.int .i8 x106000_1, .int .i8 x106001_1, .int .i8 x106002_1, .int .i8 0]) ?_ 3 _ rfl; (with_reducible repeat (first | refine blk_drewN ?_ _ | refine blk_drew ?_ | refine blk_alloc ?_ _)); refine blk_put (cs := #[.int .i8 x106000_1, .int .i8 x106001_1, .int .i8 0, .int .i8 0]) ?_ 2 _ rfl; (with_reducible repeat (first | refine blk_drewN ?_ _ | refine blk_drew ?_ | refine blk_alloc ?_ _)); refine blk_put (cs := #[.int .i8 x106000_1, .int .i8 0, .int .i8 0, .int .i8 0]) ?_ 1 _ rfl; (with_reducible repeat (first | refine blk_drewN ?_ _ | refine blk_drew ?_ | refine blk_alloc ?_ _)); refine blk_put (cs := #[.int .i8 0, .int .i8 0, .int .i8 0, .int .i8 0]) ?_ 0 _ rfl; (with_reducible repeat (first | refine blk_drewN ?_ _ | refine blk_drew ?_ | refine blk_alloc ?_ _)); exact BK104.out) Try.underlying40 rfl (by kernel_rfl)) rfl ?_
    exact ⟨by first | rfl | (simp [errW_none, errW_some] <;> rfl) | (simp [*, errW_none, errW_some] <;> rfl), bs_ HB GE104⟩

end Go.Proofs.Ytonifpgaagdohaa.M
