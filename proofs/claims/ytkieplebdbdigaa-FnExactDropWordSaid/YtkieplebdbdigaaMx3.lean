-- By this seat's own program over the kit's printer (arrays, functions told by hand); nothing of it is trusted: the kernel checks it.
import Derived.Test.YtkieplebdbdigaaMx0
import Derived.Test.YtkieplebdbdigaaMx1
import Derived.Test.YtkieplebdbdigaaMx2
namespace Go.Proofs.Ytkieplebdbdigaa.M
open Go.RowKit Go.Proofs.YtkieplebdbdigaaW.PrintWords Go.Proofs.YtkieplebdbdigaaW.PrintLast Go.Proofs.YtkieplebdbdigaaW.PrintMore
attribute [local go_sem] max2_int min2_int max_two min_two max_three min_three max_four min_four   -- for this text's walks alone
set_option linter.unusedVariables false
set_option linter.unusedSimpArgs false

/-! ### spec_DropWord: function 6 -/
def spec_DropWord.f (k : Nat) (a0_0 : Int) (a0_1 : Int) (l0_2 : List (S41)) (a1 : Int) : Option (Int × Int × (List (S41)) × Int) := (spec_l04Ok.f k a0_0 a0_1 l0_2).bind fun t115 => (if t115 = true then ((spec_l00In.f a1 0 (wrap64 ((l0_2.length : Int) - 1))).bind fun t116 => (if t116 = true then (if (l0_2.length : Int) = 1 then (some (0, 0, ([] : List (S41)), 4)) else ((some (([] : List (S41)) : List (S41))).bind fun y117 => (if 0 ≤ a1 then (if a1 ≤ (l0_2.length : Int) then ((some (l0_2.take (a1 : Int).toNat : List (S41))).bind fun y120 => (if y117.length + y120.length < 35184372088832 then ((some (y117 ++ y120 : List (S41))).bind fun y124 => (if 0 ≤ (wrap64 (a1 + 1)) then (if (wrap64 (a1 + 1)) ≤ (l0_2.length : Int) then ((some (l0_2.drop ((wrap64 (a1 + 1)) : Int).toNat : List (S41))).bind fun y128 => (if y124.length + y128.length < 35184372088832 then (some (a0_0, a0_1, (y124 ++ y128), 0)) else (none))) else (none)) else (none))) else (none))) else (none)) else (none)))) else (some (0, 0, ([] : List (S41)), 2)))) else (some (0, 0, ([] : List (S41)), 1)))
theorem spec_DropWord.mono : ∀ a0 a1 a2 a3 k, LeO (spec_DropWord.f k a0 a1 a2 a3) (spec_DropWord.f (k + 1) a0 a1 a2 a3) := by
 intro a0 a1 a2 a3 k
 unfold spec_DropWord.f
 repeat' first
   | (with_reducible exact spec_l04Ok.mono _ _ _ _)
   | (with_reducible exact LeO.refl _)
   | (with_reducible exact LeO.none _)
   | (with_reducible refine LeO.ite ?_ ?_)
   | (with_reducible refine LeO.bind ?_ (fun _ => ?_))
   | exact spec_l04Ok.mono _ _ _ _
   | exact LeO.none _
   | refine LeO.ite ?_ ?_
   | refine LeO.bind ?_ (fun _ => ?_)
def spec_DropWord.T7 : Bool × List (List Nat × List Nat) := (true, [([], []), ([0], [0]), ([], []), ([2], [2]), ([], []), ([], []), ([5], [5]), ([], []), ([6, 7], [6, 7]), ([4, 8], [4, 8]), ([1, 3, 9], [1, 3, 9]), ([], []), ([11, 10, 9, 0, 1, 2, 3, 4, 5, 6, 7, 8, 9, 10, 11], [10, 11])])
def spec_DropWord.B7 : List Nat := [0, 1, 0, 4, 0, 0, 32, 0, 224, 496, 1023, 0, 4095]
theorem spec_DropWord.tab7 : rtab .any (opsOf Try.f6 7) = spec_DropWord.T7 := by kernel_rfl
theorem spec_DropWord.bits7 : waitsOk spec_DropWord.T7.2 spec_DropWord.B7 = true := by kernel_rfl
def spec_DropWord.T8 : Bool × List (List Nat × List Nat) := (true, [([], []), ([0], [0]), ([], []), ([2], [2]), ([], []), ([4], [4]), ([3, 5], [3, 5]), ([1, 6], [1, 6]), ([0, 1, 2, 3, 4, 5, 6, 7], []), ([8, 7, 7, 0, 1, 2, 3, 4, 5, 6, 7], [7, 8])])
def spec_DropWord.B8 : List Nat := [0, 1, 0, 4, 0, 16, 60, 127, 255, 511]
theorem spec_DropWord.tab8 : rtab .any (opsOf Try.f6 8) = spec_DropWord.T8 := by kernel_rfl
theorem spec_DropWord.bits8 : waitsOk spec_DropWord.T8.2 spec_DropWord.B8 = true := by kernel_rfl
set_option maxHeartbeats 8000000 in
set_option maxRecDepth 100000 in
theorem spec_DropWord.calls (k : Nat) (a0_0 : Int) (a0_1 : Int) (A0_2 : Option Addr) (c0_2 : Nat) (l0_2 : List (S41)) (a1 : Int) (r1 : Int) (r2 : Int) (r3 : List (S41)) (r4 : Int) (w : World) (hr0_2 : Kd.C k41 w A0_2 l0_2.length l0_2) (hc0_2 : l0_2.length ≤ c0_2) (h : spec_DropWord.f k a0_0 a0_1 l0_2 a1 = some (r1, r2, r3, r4)) :
  Calls Try.prog 6 #[.agg #[.int .i8 a0_0, .int .i8 a0_1, .slice A0_2 l0_2.length c0_2], .int .i64 a1] w fun e w' => ∃ v2_ : Value, e = .returned (.tuple #[.agg #[.int .i8 r1, .int .i8 r2, v2_], .int .i64 r4]) ∧ Kd.R k41 41 w' w.heap.size (fun _ => True) v2_ r3 ∧ Below w.heap.size w w' := by
 have hu29 := Try.underlying29
 have HR0_2 := Aside0.mk hr0_2
 have HC0_2 := Aside0.mk hc0_2
 clear hr0_2 hc0_2
 have HB := A_ (Below.refl w.heap.size w)
 have H : ((spec_l04Ok.f k a0_0 a0_1 l0_2).bind fun t115 => (if t115 = true then ((spec_l00In.f a1 0 (wrap64 ((l0_2.length : Int) - 1))).bind fun t116 => (if t116 = true then (if (l0_2.length : Int) = 1 then (some (0, 0, ([] : List (S41)), 4)) else ((some (([] : List (S41)) : List (S41))).bind fun y117 => (if 0 ≤ a1 then (if a1 ≤ (l0_2.length : Int) then ((some (l0_2.take (a1 : Int).toNat : List (S41))).bind fun y120 => (if y117.length + y120.length < 35184372088832 then ((some (y117 ++ y120 : List (S41))).bind fun y124 => (if 0 ≤ (wrap64 (a1 + 1)) then (if (wrap64 (a1 + 1)) ≤ (l0_2.length : Int) then ((some (l0_2.drop ((wrap64 (a1 + 1)) : Int).toNat : List (S41))).bind fun y128 => (if y124.length + y128.length < 35184372088832 then (some (a0_0, a0_1, (y124 ++ y128), 0)) else (none))) else (none)) else (none))) else (none))) else (none)) else (none)))) else (some (0, 0, ([] : List (S41)), 2)))) else (some (0, 0, ([] : List (S41)), 1)))) = some (r1, r2, r3, r4) := h
 clear h
 replace H := Option.bind_eq_some_iff.mp H
 obtain ⟨t115, A30, H⟩ := H
 replace H : (if t115 = true then ((spec_l00In.f a1 0 (wrap64 ((l0_2.length : Int) - 1))).bind fun t116 => (if t116 = true then (if (l0_2.length : Int) = 1 then (some (0, 0, ([] : List (S41)), 4)) else ((some (([] : List (S41)) : List (S41))).bind fun y117 => (if 0 ≤ a1 then (if a1 ≤ (l0_2.length : Int) then ((some (l0_2.take (a1 : Int).toNat : List (S41))).bind fun y120 => (if y117.length + y120.length < 35184372088832 then ((some (y117 ++ y120 : List (S41))).bind fun y124 => (if 0 ≤ (wrap64 (a1 + 1)) then (if (wrap64 (a1 + 1)) ≤ (l0_2.length : Int) then ((some (l0_2.drop ((wrap64 (a1 + 1)) : Int).toNat : List (S41))).bind fun y128 => (if y124.length + y128.length < 35184372088832 then (some (a0_0, a0_1, (y124 ++ y128), 0)) else (none))) else (none)) else (none))) else (none))) else (none)) else (none)))) else (some (0, 0, ([] : List (S41)), 2)))) else (some (0, 0, ([] : List (S41)), 1))) = some (r1, r2, r3, r4) := H
 have A3 := Aside0.mk A30
 clear A30
 by_cases c4 : t115 = true
 ·subst c4
  have H1 : ((spec_l00In.f a1 0 (wrap64 ((l0_2.length : Int) - 1))).bind fun t116 => (if t116 = true then (if (l0_2.length : Int) = 1 then (some (0, 0, ([] : List (S41)), 4)) else ((some (([] : List (S41)) : List (S41))).bind fun y117 => (if 0 ≤ a1 then (if a1 ≤ (l0_2.length : Int) then ((some (l0_2.take (a1 : Int).toNat : List (S41))).bind fun y120 => (if y117.length + y120.length < 35184372088832 then ((some (y117 ++ y120 : List (S41))).bind fun y124 => (if 0 ≤ (wrap64 (a1 + 1)) then (if (wrap64 (a1 + 1)) ≤ (l0_2.length : Int) then ((some (l0_2.drop ((wrap64 (a1 + 1)) : Int).toNat : List (S41))).bind fun y128 => (if y124.length + y128.length < 35184372088832 then (some (a0_0, a0_1, (y124 ++ y128), 0)) else (none))) else (none)) else (none))) else (none))) else (none)) else (none)))) else (some (0, 0, ([] : List (S41)), 2)))) = some (r1, r2, r3, r4) := by rw [if_pos rfl] at H; exact H
  clear H
  have H := H1
  clear H1
  replace H := Option.bind_eq_some_iff.mp H
  obtain ⟨t116, A50, H⟩ := H
  replace H : (if t116 = true then (if (l0_2.length : Int) = 1 then (some (0, 0, ([] : List (S41)), 4)) else ((some (([] : List (S41)) : List (S41))).bind fun y117 => (if 0 ≤ a1 then (if a1 ≤ (l0_2.length : Int) then ((some (l0_2.take (a1 : Int).toNat : List (S41))).bind fun y120 => (if y117.length + y120.length < 35184372088832 then ((some (y117 ++ y120 : List (S41))).bind fun y124 => (if 0 ≤ (wrap64 (a1 + 1)) then (if (wrap64 (a1 + 1)) ≤ (l0_2.length : Int) then ((some (l0_2.drop ((wrap64 (a1 + 1)) : Int).toNat : List (S41))).bind fun y128 => (if y124.length + y128.length < 35184372088832 then (some (a0_0, a0_1, (y124 ++ y128), 0)) else (none))) else (none)) else (none))) else (none))) else (none)) else (none)))) else (some (0, 0, ([] : List (S41)), 2))) = some (r1, r2, r3, r4) := H
  have A5 := Aside0.mk A50
  clear A50
  by_cases c6 : t116 = true
  ·subst c6
   have H1 : (if (l0_2.length : Int) = 1 then (some (0, 0, ([] : List (S41)), 4)) else ((some (([] : List (S41)) : List (S41))).bind fun y117 => (if 0 ≤ a1 then (if a1 ≤ (l0_2.length : Int) then ((some (l0_2.take (a1 : Int).toNat : List (S41))).bind fun y120 => (if y117.length + y120.length < 35184372088832 then ((some (y117 ++ y120 : List (S41))).bind fun y124 => (if 0 ≤ (wrap64 (a1 + 1)) then (if (wrap64 (a1 + 1)) ≤ (l0_2.length : Int) then ((some (l0_2.drop ((wrap64 (a1 + 1)) : Int).toNat : List (S41))).bind fun y128 => (if y124.length + y128.length < 35184372088832 then (some (a0_0, a0_1, (y124 ++ y128), 0)) else (none))) else (none)) else (none))) else (none))) else (none)) else (none)))) = some (r1, r2, r3, r4) := by rw [if_pos rfl] at H; exact H
   clear H
   have H := H1
   clear H1
   by_cases c7 : (l0_2.length : Int) = 1
   ·rw [if_pos c7] at H
    have c7b0 : ((l0_2.length : Int) == 1) = true := beq_iff_eq.mpr c7
    have c7b1 : ((l0_2.length : Int) != 1) = false := bne_eq_false_iff_eq.mpr c7
    clear c7
    simp only [Option.some.injEq, Prod.mk.injEq] at H
    obtain ⟨rfl, rfl, rfl, rfl⟩ := H
    go_enter Try.func6, Try.ntmps6
    go_wp2_with (first | ((with_reducible refine gate_dst (N := 2) rfl ?_); refine box_event ?hg (N := 2) ?hd (cs := #[.int .i8 a0_0, .int .i8 a0_1, .slice A0_2 l0_2.length c0_2]) (t := 29) ?hr ?_; (case hd => rfl); (case hg => rfl); (case hr => first | (go_simp; done) | (go_simp; rfl)); intro gb113 hg w8 hbox hb; have n0_ := A_ (below_step (bl_ HB) hb); have n1_ := A_ (hbox); have n2_ := A_ ((by rw [hg]; exact (below_size (bl_ HB)) : w.heap.size ≤ gb113)); have n3_ := n2_; clear HB; have HB := n0_; have BK113 := n1_; have GW113 := n2_; have GE113 := n3_; clear n0_ n1_ n2_ n3_; clear hb hbox hg) | ((with_reducible refine gate_dst (N := 4) rfl ?_); refine box_event ?hg (N := 4) ?hd (cs := #[.int .i8 0, .int .i8 0, .slice none 0 0]) (t := 29) ?hr ?_; (case hd => rfl); (case hg => rfl); (case hr => first | (go_simp; done) | (go_simp; rfl)); intro gb114 hg w9 hbox hb; have n0_ := A_ (blk_below (pl_ BK113) hb); have n1_ := A_ (below_step (bl_ HB) hb); have n2_ := A_ (hbox); have n3_ := A_ ((by rw [hg]; exact (below_size (bl_ HB)) : w.heap.size ≤ gb114)); have n4_ := n3_; have n5_ := A_ ((by rw [hg]; exact Nat.ne_of_lt (blk_lt (pl_ BK113)) : gb113 ≠ gb114)); have n6_ := Aside0.mk n5_.out.symm; clear BK113; clear HB; have BK113 := n0_; have HB := n1_; have BK114 := n2_; have GW114 := n3_; have GE114 := n4_; have NB113_114 := n5_; have NB114_113 := n6_; clear n0_ n1_ n2_ n3_ n4_ n5_ n6_; clear hb hbox hg) | ((with_reducible refine gate_callee (f := 17) rfl ?_); refine goesL_ (some 7) rfl rfl Try.func17 (by kernel_rfl) rfl #[.pointer (some ⟨gb113, 0, none⟩)] rfl arg_ ?_; (with_reducible refine (spec_l04Ok.calls k gb113 a0_0 a0_1 A0_2 c0_2 l0_2 true _ ?side1 ?side2 ?side3 A3.out).mono ?_); (case side1 => exact (pl_ BK113)); (case side2 => exact Kd.C_below HR0_2.out (bl_ HB)); (case side3 => exact HC0_2.out); rintro e w10 ⟨rfl, hb⟩; refine ⟨_, rfl, ?_⟩; have n0_ := A_ (blk_below (pl_ BK113) hb); have n1_ := A_ (blk_below (pl_ BK114) hb); have n2_ := A_ (below_step (bl_ HB) hb); clear BK113; clear BK114; clear HB; have BK113 := n0_; have BK114 := n1_; have HB := n2_; clear n0_ n1_ n2_; (try clear hb); (try clear hb2); (try clear hk); (try clear hi); have hnb11 := NB113_114.out; have hnc11 := NB114_113.out; obtain ⟨hcz12_0, hcz12_1, hcz12_2, hfz12_0, hfz12_1, hfz12_2⟩ := cl3_ BK113) | ((with_reducible refine gate_callee (f := 18) rfl ?_); refine goesL_ (some 15) rfl rfl Try.func18 (by kernel_rfl) rfl #[.int .i64 a1, .int .i64 0, .int .i64 (wrap64 ((l0_2.length : Int) - 1))] rfl arg_ ?_; (with_reducible refine (spec_l00In.calls a1 0 (wrap64 ((l0_2.length : Int) - 1)) true _ A5.out).mono ?_); rintro e w' ⟨rfl, ⟨nd, rfl⟩⟩; refine ⟨_, rfl, ?_⟩; (try (rw [drewN_self w10]; generalize hq_ : World.drewN w10 _ = w10; have n0_ : Aside0 (w10.heap[gb113]? = some (.cells #[.int .i8 a0_0, .int .i8 a0_1, .slice A0_2 l0_2.length c0_2] 29 (0, 0))) := ⟨by rw [← hq_]; exact (pl_ BK113)⟩; have n1_ : Aside0 (w10.heap[gb114]? = some (.cells #[.int .i8 0, .int .i8 0, .slice none 0 0] 29 (0, 0))) := ⟨by rw [← hq_]; exact (pl_ BK114)⟩; have n2_ : Aside0 (Below w.heap.size w w10) := ⟨by rw [← hq_]; exact (bl_ HB)⟩; clear BK113 BK114 HB hq_; have BK113 := n0_; have BK114 := n1_; have HB := n2_; clear n0_ n1_ n2_)); obtain ⟨hcz13_0, hcz13_1, hcz13_2, hfz13_0, hfz13_1, hfz13_2⟩ := cl3_ BK113; obtain ⟨hcz14_0, hcz14_1, hcz14_2, hfz14_0, hfz14_1, hfz14_2⟩ := cl3_ BK114))
    refine bodyPost_ret (results_ct rfl _ _ gb114 29 #[.int .i8 0, .int .i8 0, .slice none 0 0] (0, 0) _ rfl (by (with_reducible repeat (first | refine blk_drewN ?_ _ | refine blk_drew ?_ | refine blk_alloc ?_ _)); refine blk_put (cs := #[.int .i8 0, .int .i8 0, .slice none 0 0]) ?_ 2 _ rfl; (with_reducible repeat (first | refine blk_drewN ?_ _ | refine blk_drew ?_ | refine blk_alloc ?_ _)); refine blk_put (cs := #[.int .i8 0, .int .i8 0, .slice none 0 0]) ?_ 1 _ rfl; (with_reducible repeat (first | refine blk_drewN ?_ _ | refine blk_drew ?_ | refine blk_alloc ?_ _)); refine blk_put (cs := #[.int .i8 0, .int .i8 0, .slice none 0 0]) ?_ 0 _ rfl; (with_reducible repeat (first | refine blk_drewN ?_ _ | refine blk_drew ?_ | refine blk_alloc ?_ _)); exact BK114.out) Try.underlying29 rfl (by kernel_rfl)) rfl ?_
    exact ⟨_, by first | rfl | (simp [errW_none, errW_some] <;> rfl) | (simp [*, errW_none, errW_some] <;> rfl), by first | exact Kd.R_nil _ _ _ _ _ | exact Kd.N_nil _ _ _ _ _ | exact Kd.V_nil _ _ _ _ _ | exact Kd.Q_nil _ _ _ _ _ | exact Kd.S_nil _ _ _ _ _, bs_ HB GE114⟩
   ·rw [if_neg c7] at H
    have c7b0 : ((l0_2.length : Int) == 1) = false := beq_eq_false_iff_ne.mpr c7
    have c7b1 : ((l0_2.length : Int) != 1) = true := bne_iff_ne.mpr c7
    obtain ⟨y117, hy117⟩ : ∃ y_ : List (S41), y_ = (([] : List (S41))) := ⟨_, rfl⟩
    replace H : (if 0 ≤ a1 then (if a1 ≤ (l0_2.length : Int) then ((some (l0_2.take (a1 : Int).toNat : List (S41))).bind fun y120 => (if y117.length + y120.length < 35184372088832 then ((some (y117 ++ y120 : List (S41))).bind fun y124 => (if 0 ≤ (wrap64 (a1 + 1)) then (if (wrap64 (a1 + 1)) ≤ (l0_2.length : Int) then ((some (l0_2.drop ((wrap64 (a1 + 1)) : Int).toNat : List (S41))).bind fun y128 => (if y124.length + y128.length < 35184372088832 then (some (a0_0, a0_1, (y124 ++ y128), 0)) else (none))) else (none)) else (none))) else (none))) else (none)) else (none)) = some (r1, r2, r3, r4) := by first | (rw [hy117]; with_reducible exact H) | (have H2_ := (Option.bind_some _ _).symm.trans H; rw [hy117]; with_reducible exact H2_) | (have H2_ := (Option.bind_some _ _).symm.trans H; with_reducible exact H2_) | with_reducible exact H | (rw [hy117]; exact H) | exact H
    have Ny117 := Aside0.mk hy117
    clear hy117
    by_cases c15 : 0 ≤ a1
    ·rw [if_pos c15] at H
     have c15b0 := eq_true c15
     have c15b1 : decide (0 ≤ a1) = true := decide_eq_true c15
     clear c15
     by_cases c16 : a1 ≤ (l0_2.length : Int)
     ·rw [if_pos c16] at H
      have c16b0 := eq_true c16
      have c16b1 : decide (a1 ≤ (l0_2.length : Int)) = true := decide_eq_true c16
      clear c16
      obtain ⟨y120, hy120⟩ : ∃ y_ : List (S41), y_ = (l0_2.take (a1 : Int).toNat) := ⟨_, rfl⟩
      replace H : (if y117.length + y120.length < 35184372088832 then ((some (y117 ++ y120 : List (S41))).bind fun y124 => (if 0 ≤ (wrap64 (a1 + 1)) then (if (wrap64 (a1 + 1)) ≤ (l0_2.length : Int) then ((some (l0_2.drop ((wrap64 (a1 + 1)) : Int).toNat : List (S41))).bind fun y128 => (if y124.length + y128.length < 35184372088832 then (some (a0_0, a0_1, (y124 ++ y128), 0)) else (none))) else (none)) else (none))) else (none)) = some (r1, r2, r3, r4) := by first | (rw [hy120]; with_reducible exact H) | (have H2_ := (Option.bind_some _ _).symm.trans H; rw [hy120]; with_reducible exact H2_) | (have H2_ := (Option.bind_some _ _).symm.trans H; with_reducible exact H2_) | with_reducible exact H | (rw [hy120]; exact H) | exact H
      have Ny120 := Aside0.mk hy120
      clear hy120
      by_cases c17 : y117.length + y120.length < 35184372088832
      ·rw [if_pos c17] at H
       have LMc17 := Aside0.mk c17
       clear c17
       obtain ⟨y124, hy124⟩ : ∃ y_ : List (S41), y_ = (y117 ++ y120) := ⟨_, rfl⟩
       replace H : (if 0 ≤ (wrap64 (a1 + 1)) then (if (wrap64 (a1 + 1)) ≤ (l0_2.length : Int) then ((some (l0_2.drop ((wrap64 (a1 + 1)) : Int).toNat : List (S41))).bind fun y128 => (if y124.length + y128.length < 35184372088832 then (some (a0_0, a0_1, (y124 ++ y128), 0)) else (none))) else (none)) else (none)) = some (r1, r2, r3, r4) := by first | (rw [hy124]; with_reducible exact H) | (have H2_ := (Option.bind_some _ _).symm.trans H; rw [hy124]; with_reducible exact H2_) | (have H2_ := (Option.bind_some _ _).symm.trans H; with_reducible exact H2_) | with_reducible exact H | (rw [hy124]; exact H) | exact H
       have Ny124 := Aside0.mk hy124
       clear hy124
       obtain ⟨ji18, hji18⟩ : ∃ j_ : Int, (wrap64 (a1 + 1)) = j_ := ⟨_, rfl⟩
       replace H : (if 0 ≤ (ji18) then (if (ji18) ≤ (l0_2.length : Int) then ((some (l0_2.drop ((ji18) : Int).toNat : List (S41))).bind fun y128 => (if y124.length + y128.length < 35184372088832 then (some (a0_0, a0_1, (y124 ++ y128), 0)) else (none))) else (none)) else (none)) = some (r1, r2, r3, r4) := by first | (rw [hji18] at H; exact H) | (simp only [hji18] at H ⊢; exact H)
       (try rw [hji18] at A3)
       (try rw [hji18] at A5)
       have hji18w : (IntKind.i64.wrap (a1 + 1)) = ji18 := (i64_w _).trans hji18
       by_cases c19 : 0 ≤ (ji18)
       ·rw [if_pos c19] at H
        have c19b0 := eq_true c19
        have c19b1 : decide (0 ≤ (ji18)) = true := decide_eq_true c19
        clear c19
        by_cases c20 : (ji18) ≤ (l0_2.length : Int)
        ·rw [if_pos c20] at H
         have c20b0 := eq_true c20
         have c20b1 : decide ((ji18) ≤ (l0_2.length : Int)) = true := decide_eq_true c20
         clear c20
         obtain ⟨y128, hy128⟩ : ∃ y_ : List (S41), y_ = (l0_2.drop ((ji18) : Int).toNat) := ⟨_, rfl⟩
         replace H : (if y124.length + y128.length < 35184372088832 then (some (a0_0, a0_1, (y124 ++ y128), 0)) else (none)) = some (r1, r2, r3, r4) := by first | (rw [hy128]; with_reducible exact H) | (have H2_ := (Option.bind_some _ _).symm.trans H; rw [hy128]; with_reducible exact H2_) | (have H2_ := (Option.bind_some _ _).symm.trans H; with_reducible exact H2_) | with_reducible exact H | (rw [hy128]; exact H) | exact H
         have Ny128 := Aside0.mk hy128
         clear hy128
         by_cases c21 : y124.length + y128.length < 35184372088832
         ·rw [if_pos c21] at H
          have LMc21 := Aside0.mk c21
          clear c21
          obtain ⟨y132, hy132⟩ : ∃ y_ : List (S41), y_ = (y124 ++ y128) := ⟨_, rfl⟩
          replace H : (some (a0_0, a0_1, y132, 0)) = some (r1, r2, r3, r4) := by first | (rw [hy132]; with_reducible exact H) | (have H2_ := (Option.bind_some _ _).symm.trans H; rw [hy132]; with_reducible exact H2_) | (have H2_ := (Option.bind_some _ _).symm.trans H; with_reducible exact H2_) | with_reducible exact H | (rw [hy132]; exact H) | exact H
          have Ny132 := Aside0.mk hy132
          clear hy132
          simp only [Option.some.injEq, Prod.mk.injEq] at H
          obtain ⟨rfl, rfl, rfl, rfl⟩ := H
          go_enter Try.func6, Try.ntmps6
          try go_wp2_with (first | ((with_reducible refine gate_dst (N := 2) rfl ?_); refine box_event ?hg (N := 2) ?hd (cs := #[.int .i8 a0_0, .int .i8 a0_1, .slice A0_2 l0_2.length c0_2]) (t := 29) ?hr ?_; (case hd => rfl); (case hg => rfl); (case hr => first | (go_simp; done) | (go_simp; rfl)); intro gb113 hg w22 hbox hb; have n0_ := A_ (below_step (bl_ HB) hb); have n1_ := A_ (hbox); have n2_ := A_ ((by rw [hg]; exact (below_size (bl_ HB)) : w.heap.size ≤ gb113)); have n3_ := n2_; clear HB; have HB := n0_; have BK113 := n1_; have GW113 := n2_; have GE113 := n3_; clear n0_ n1_ n2_ n3_; clear hb hbox hg) | ((with_reducible refine gate_dst (N := 4) rfl ?_); refine box_event ?hg (N := 4) ?hd (cs := #[.int .i8 0, .int .i8 0, .slice none 0 0]) (t := 29) ?hr ?_; (case hd => rfl); (case hg => rfl); (case hr => first | (go_simp; done) | (go_simp; rfl)); intro gb114 hg w23 hbox hb; have n0_ := A_ (blk_below (pl_ BK113) hb); have n1_ := A_ (below_step (bl_ HB) hb); have n2_ := A_ (hbox); have n3_ := A_ ((by rw [hg]; exact (below_size (bl_ HB)) : w.heap.size ≤ gb114)); have n4_ := n3_; have n5_ := A_ ((by rw [hg]; exact Nat.ne_of_lt (blk_lt (pl_ BK113)) : gb113 ≠ gb114)); have n6_ := Aside0.mk n5_.out.symm; clear BK113; clear HB; have BK113 := n0_; have HB := n1_; have BK114 := n2_; have GW114 := n3_; have GE114 := n4_; have NB113_114 := n5_; have NB114_113 := n6_; clear n0_ n1_ n2_ n3_ n4_ n5_ n6_; clear hb hbox hg) | ((with_reducible refine gate_callee (f := 17) rfl ?_); refine goesL_ (some 7) rfl rfl Try.func17 (by kernel_rfl) rfl #[.pointer (some ⟨gb113, 0, none⟩)] rfl arg_ ?_; (with_reducible refine (spec_l04Ok.calls k gb113 a0_0 a0_1 A0_2 c0_2 l0_2 true _ ?side1 ?side2 ?side3 A3.out).mono ?_); (case side1 => exact (pl_ BK113)); (case side2 => exact Kd.C_below HR0_2.out (bl_ HB)); (case side3 => exact HC0_2.out); rintro e w24 ⟨rfl, hb⟩; refine ⟨_, rfl, ?_⟩; have n0_ := A_ (blk_below (pl_ BK113) hb); have n1_ := A_ (blk_below (pl_ BK114) hb); have n2_ := A_ (below_step (bl_ HB) hb); clear BK113; clear BK114; clear HB; have BK113 := n0_; have BK114 := n1_; have HB := n2_; clear n0_ n1_ n2_; (try clear hb); (try clear hb2); (try clear hk); (try clear hi); have hnb25 := NB113_114.out; have hnc25 := NB114_113.out; obtain ⟨hcz26_0, hcz26_1, hcz26_2, hfz26_0, hfz26_1, hfz26_2⟩ := cl3_ BK113) | ((with_reducible refine gate_callee (f := 18) rfl ?_); refine goesL_ (some 15) rfl rfl Try.func18 (by kernel_rfl) rfl #[.int .i64 a1, .int .i64 0, .int .i64 (wrap64 ((l0_2.length : Int) - 1))] rfl arg_ ?_; (with_reducible refine (spec_l00In.calls a1 0 (wrap64 ((l0_2.length : Int) - 1)) true _ A5.out).mono ?_); rintro e w' ⟨rfl, ⟨nd, rfl⟩⟩; refine ⟨_, rfl, ?_⟩; (try (rw [drewN_self w24]; generalize hq_ : World.drewN w24 _ = w24; have n0_ : Aside0 (w24.heap[gb113]? = some (.cells #[.int .i8 a0_0, .int .i8 a0_1, .slice A0_2 l0_2.length c0_2] 29 (0, 0))) := ⟨by rw [← hq_]; exact (pl_ BK113)⟩; have n1_ : Aside0 (w24.heap[gb114]? = some (.cells #[.int .i8 0, .int .i8 0, .slice none 0 0] 29 (0, 0))) := ⟨by rw [← hq_]; exact (pl_ BK114)⟩; have n2_ : Aside0 (Below w.heap.size w w24) := ⟨by rw [← hq_]; exact (bl_ HB)⟩; clear BK113 BK114 HB hq_; have BK113 := n0_; have BK114 := n1_; have HB := n2_; clear n0_ n1_ n2_)); obtain ⟨hcz27_0, hcz27_1, hcz27_2, hfz27_0, hfz27_1, hfz27_2⟩ := cl3_ BK113))
          have n0_ := A_ (blk_drew BK113.out)
          have n1_ := A_ (blk_drew BK114.out)
          have n2_ := A_ (below_drew1 HB.out)
          clear BK113
          clear BK114
          clear HB
          have BK113 := n0_
          have BK114 := n1_
          have HB := n2_
          clear n0_ n1_ n2_
          have q29 : (a1 : Int) ≤ ((l0_2.length : Int) : Int) := asm_
          obtain ⟨i029, hi029, _, hsz29, _⟩ := info_parts info41
          have hroom29 : l0_2.length ≤ c0_2 := HC0_2.out
          have hC29 : Kd.C k41 _ A0_2 l0_2.length l0_2 := HR0_2.out
          have hcut29 := cut_to (P := Try.prog) 27 41 .i64 Try.underlying27 hi029 A0_2 l0_2.length c0_2 a1 (asm_) q29 hroom29
          have hr29 := Kd.C_take (m := (a1 : Int).toNat) hC29 (by omega)
          have hy29 : y120.length = (a1 : Int).toNat := (by rw [Ny120.out, List.length_take]; omega)
          rw [← Ny120.out] at hr29
          rw [← hy29] at hcut29
          have HR123 := Aside0.mk hr29
          have HC123 := A_ (show y120.length ≤ c0_2 from by omega)
          clear hr29 hC29 hroom29 hi029 hsz29
          have KY29 := Aside0.mk hy29
          clear hy29
          replace q29 := eq_true q29
          refine start_ (n := 13) (S := fun w' => w'.cell? ⟨gb113, 0, none⟩ = some (.int .i8 a0_0) ∧ w'.cell? ⟨gb113, 1, none⟩ = some (.int .i8 a0_1) ∧ w'.cell? ⟨gb113, 2, none⟩ = some (.slice A0_2 l0_2.length c0_2)) (ds := []) #[false, false, false, false, false, false, false, false, false, false, false, false, false] (by kernel_rfl) rfl rfl ⟨(blk_cell BK113.out 0).trans rfl, (blk_cell BK113.out 1).trans rfl, (blk_cell BK113.out 2).trans rfl⟩ (fun hHeld => ?_); refine with_tabW spec_DropWord.tab7 spec_DropWord.bits7 (fun HT_ HW_ => ?_)
          generalize w24.drew = w28 at BK113 BK114 HB HR123 hHeld ⊢
          refine pure_ (i := 0) (N := some 23) (v := ?_) (a' := ?_) #[true, false, false, false, false, false, false, false, false, false, false, false, false] rfl rfl (any_of HT_.out (by kernel_rfl)) (fun _ _ _ h => h) (Or.inl ⟨by rfl, ?_⟩) ?_ ?_
          rotate_left
          ·intro w'
           go_simp
           with_reducible rfl
          rotate_left
          ·simp only [Act.put, sp_]
           rfl
          refine pure_ (i := 2) (N := some 25) (v := ?_) (a' := ?_) #[true, false, true, false, false, false, false, false, false, false, false, false, false] rfl rfl (any_of HT_.out (by kernel_rfl)) (fun _ _ _ h => h) (Or.inl ⟨by rfl, ?_⟩) ?_ ?_
          rotate_left
          ·intro w'
           go_simp
           with_reducible rfl
          rotate_left
          ·simp only [Act.put, sp_]
           rfl
          refine pure_ (i := 5) (N := some 28) (v := ?_) (a' := ?_) #[true, false, true, false, false, true, false, false, false, false, false, false, false] rfl rfl (any_of HT_.out (by kernel_rfl)) (fun _ _ _ h => h) (Or.inl ⟨by rfl, ?_⟩) ?_ ?_
          rotate_left
          ·intro w'
           go_simp
           with_reducible rfl
          rotate_left
          ·simp only [Act.put, sp_]
           rfl
          refine pure_ (i := 7) (N := some 30) (v := ?_) (a' := ?_) #[true, false, true, false, false, true, false, true, false, false, false, false, false] rfl rfl (any_of HT_.out (by kernel_rfl)) (fun _ _ _ h => h) (Or.inl ⟨by rfl, ?_⟩) ?_ ?_
          rotate_left
          ·intro w'
           go_simp
           with_reducible rfl
          rotate_left
          ·simp only [Act.put, sp_]
           rfl
          refine take_ (i := 1) (N := some 24) (v := ?_) (a' := ?_) #[true, true, true, false, false, true, false, true, false, false, false, false, false] rfl rfl (take_ofW HT_.out HW_.out (by kernel_rfl)) (fun _ _ _ h => h) (Or.inl ⟨by rfl, ?_⟩) hHeld ?_ ?_
          rotate_left
          ·rintro w' ⟨s0, s1, s2⟩
           go_simp
           with_reducible rfl
          rotate_left
          ·simp only [Act.put, sp_]
           rfl
          refine take_ (i := 3) (N := some 26) (v := ?_) (a' := ?_) #[true, true, true, true, false, true, false, true, false, false, false, false, false] rfl rfl (take_ofW HT_.out HW_.out (by kernel_rfl)) (fun _ _ _ h => h) (Or.inl ⟨by rfl, ?_⟩) hHeld ?_ ?_
          rotate_left
          ·rintro w' ⟨s0, s1, s2⟩
           go_simp
           with_reducible rfl
          rotate_left
          ·simp only [Act.put, sp_]
           rfl
          refine take_ (i := 6) (N := some 29) (v := ?_) (a' := ?_) #[true, true, true, true, false, true, true, true, false, false, false, false, false] rfl rfl (take_ofW HT_.out HW_.out (by kernel_rfl)) (fun _ _ _ h => h) (Or.inl ⟨by rfl, ?_⟩) hHeld ?_ ?_
          rotate_left
          ·rintro w' ⟨s0, s1, s2⟩
           go_simp
           with_reducible rfl
          rotate_left
          ·simp only [Act.put, sp_]
           rfl
          refine pure_ (i := 8) (N := some 31) (v := ?_) (a' := ?_) #[true, true, true, true, false, true, true, true, true, false, false, false, false] rfl rfl (any_of HT_.out (by kernel_rfl)) (fun _ _ _ h => h) (Or.inl ⟨by rfl, ?_⟩) ?_ ?_
          rotate_left
          ·intro w'
           go_simp
           with_reducible rfl
          rotate_left
          ·simp only [Act.put, sp_]
           rfl
          refine join_ (σ := Value × Value × Nat) 1 #[true, true, true, true, true, true, true, true, true, true, true, true, false] (fun s_ => [(27, s_.1), (32, s_.2.1), (6, .pointer (some ⟨s_.2.2, 0, none⟩)), (33, .agg #[.int .i8 a0_0, .int .i8 a0_1, s_.2.1])]) (fun s_ w' => (w'.cell? ⟨gb113, 0, none⟩ = some (.int .i8 a0_0) ∧ w'.cell? ⟨gb113, 1, none⟩ = some (.int .i8 a0_1) ∧ w'.cell? ⟨gb113, 2, none⟩ = some (.slice A0_2 l0_2.length c0_2)) ∧ (Kd.R k41 41 w' w.heap.size (fun _ => True) s_.2.1 y124) ∧ (w'.heap[gb113]? = some (.cells #[.int .i8 a0_0, .int .i8 a0_1, .slice A0_2 l0_2.length c0_2] 29 (0, 0))) ∧ (w'.heap[gb114]? = some (.cells #[.int .i8 0, .int .i8 0, .slice none 0 0] 29 (0, 0))) ∧ (w'.heap[s_.2.2]? = some (.cells #[.int .i8 0, .int .i8 0, .slice none 0 0] 29 (0, 0))) ∧ (w.heap.size ≤ s_.2.2) ∧ (w.heap.size ≤ s_.2.2) ∧ (gb113 ≠ s_.2.2) ∧ (s_.2.2 ≠ gb113) ∧ (gb114 ≠ s_.2.2) ∧ (s_.2.2 ≠ gb114) ∧ (Below w.heap.size w w')) ?_ ?_
          rotate_left
          ·intro hCont
           refine two_ (i := 4) (j := 11) (Ni := some 27) (Nj := some 6) #[true, true, true, true, true, true, true, true, true, false, false, false, false] #[true, true, true, true, false, true, true, true, true, false, false, true, false] rfl rfl rfl rfl (two_of HT_.out (by kernel_rfl)) (by decide) (by decide) (fun K hK => ?_) (fun K hK => ?_)
           ·skip
            refine Kd.R_lit_step k41 _ 41 ?hg (N := 27) ?hd (xs := ([] : List (S41))) (inner := []) (ok := fun _ => True) (okp := fun _ => True) ?hr ?hp (fun _ hk => hk) trivial (Below.refl _ _) (Nat.le_refl _) (by simp) ?_; (case hd => rfl); (case hg => rfl); (case hr => first | (go_simp; done) | (go_simp; rfl)); (case hp => exact (Reps.none _ _))
            intro v118 w30 ho31 hb hg_ hnew_
            clear hg_ hnew_
            (first | rw [← Ny117.out] at ho31 | (simp only [Int.reduceToNat] at ho31; rw [← Ny117.out] at ho31))
            have n0_ := A_ (Kd.R_lower ho31 (below_size (bl_ HB)))
            have n1_ := A_ (blk_below (pl_ BK113) hb)
            have n2_ := A_ (blk_below (pl_ BK114) hb)
            have n3_ := A_ (below_step (bl_ HB) hb)
            clear BK113
            clear BK114
            clear HB
            have HO119 := n0_
            have BK113 := n1_
            have BK114 := n2_
            have HB := n3_
            clear n0_ n1_ n2_ n3_
            clear hb ho31
            refine hK.out _ _ ⟨(blk_cell BK113.out 0).trans rfl, (blk_cell BK113.out 1).trans rfl, (blk_cell BK113.out 2).trans rfl⟩ (fun hHeld => ?_)
            clear hK K
            refine norm_ (a' := ?_) ?_ ?_
            rotate_left
            ·show Act.put _ (some 27) _ = _
             simp only [Act.put, sp_]
             rfl
            refine two_ (i := 9) (j := 11) (Ni := some 32) (Nj := some 6) #[true, true, true, true, true, true, true, true, true, true, false, false, false] #[true, true, true, true, true, true, true, true, true, false, false, true, false] rfl rfl rfl rfl (two_of HT_.out (by kernel_rfl)) (by decide) (by decide) (fun K hK => ?_) (fun K hK => ?_)
            ·skip
             refine Kd.R_append_rows_step k41 (w0 := w) w.heap.size (by rfl) (.tmp 27) (.tmp 31) 27 41 (.agg #[(.int .i8 0), (.int .i8 0), (.int .i8 0), (.int .i8 0)]) 4 rfl Try.underlying27 info41 rfl (by decide) (by omega) v118 y117 y120 _ _ _ (fun _ => True) (fun _ => False) rfl rfl ?aO ?aR (fun _ _ h => h) (fun _ h => h.elim) ?aF ?aB ?aS ?aL ?_
             (case aR => repeat (first | exact (Kd.C_below HR123.out HB.out) | (with_reducible refine Kd.C_alloc ?_ _) | (with_reducible refine Kd.C_drewN ?_ _) | (with_reducible refine Kd.C_drew ?_)))
             (case aB => exact (bl_ HB))
             (case aF => exact (fun _ _ => trivial))
             (case aO => exact (pr_ HO119))
             (case aS => exact (below_size (bl_ HB)))
             (case aL => have := LMc17.out; omega)
             intro v125 w32 ho hb hg hat
             rw [← Ny124.out] at ho
             have n0_ := A_ (blk_grown (pl_ BK113) hg (Kd.R_ne HO119.out BK113.out (by decide)))
             have n1_ := A_ (blk_grown (pl_ BK114) hg (Kd.R_ne HO119.out BK114.out (by decide)))
             have n2_ := A_ (hb)
             have n3_ := A_ (ho)
             clear BK113
             clear BK114
             clear HB
             clear HO119
             have BK113 := n0_
             have BK114 := n1_
             have HB := n2_
             have HO126 := n3_
             clear n0_ n1_ n2_ n3_
             clear ho hb hg hat
             obtain ⟨Ao33, co33, eo33⟩ := Kd.R_slice HO126.out
             (first | subst eo33 | (injection eo33 with f1_ f2_ f3_; have f4_ := f1_.symm; have f5_ := f3_.symm; clear f1_ f2_ f3_; subst f4_; subst f5_))
             refine hK.out _ _ ⟨(blk_cell BK113.out 0).trans rfl, (blk_cell BK113.out 1).trans rfl, (blk_cell BK113.out 2).trans rfl⟩ (fun hHeld => ?_)
             clear hK K
             refine norm_ (a' := ?_) ?_ ?_
             rotate_left
             ·show Act.put _ (some 32) _ = _
              simp only [Act.put, sp_]
              rfl
             refine pure_ (i := 10) (N := some 33) (v := ?_) (a' := ?_) #[true, true, true, true, true, true, true, true, true, true, true, false, false] rfl rfl (any_of HT_.out (by kernel_rfl)) (fun _ _ _ h => h) (Or.inl ⟨by rfl, ?_⟩) ?_ ?_
             rotate_left
             ·intro w'
              go_simp
              with_reducible rfl
             rotate_left
             ·simp only [Act.put, sp_]
              rfl
             refine one_ (i := 11) (N := some 6) #[true, true, true, true, true, true, true, true, true, true, true, true, false] rfl rfl (one_of HT_.out (by kernel_rfl)) (by decide) (fun K hK => ?_)
             refine box_step ?hg (N := 6) ?hd (cs := #[.int .i8 0, .int .i8 0, .slice none 0 0]) (t := 29) ?hr ?_; (case hd => rfl); (case hg => rfl); (case hr => first | (go_simp; done) | (go_simp; rfl))
             intro gb127 hg w34 hbox hb
             have n0_ := A_ (Kd.R_below (pr_ HO126) hb)
             have n1_ := A_ (blk_below (pl_ BK113) hb)
             have n2_ := A_ (blk_below (pl_ BK114) hb)
             have n3_ := A_ (below_step (bl_ HB) hb)
             have n4_ := A_ (hbox)
             have n5_ := A_ ((by rw [hg]; exact (below_size (bl_ HB)) : w.heap.size ≤ gb127))
             have n6_ := n5_
             have n7_ := A_ ((by rw [hg]; exact Nat.ne_of_lt (blk_lt (pl_ BK113)) : gb113 ≠ gb127))
             have n8_ := Aside0.mk n7_.out.symm
             have n9_ := A_ ((by rw [hg]; exact Nat.ne_of_lt (blk_lt (pl_ BK114)) : gb114 ≠ gb127))
             have n10_ := Aside0.mk n9_.out.symm
             clear HO126
             clear BK113
             clear BK114
             clear HB
             have HO126 := n0_
             have BK113 := n1_
             have BK114 := n2_
             have HB := n3_
             have BK127 := n4_
             have GW127 := n5_
             have GE127 := n6_
             have NB113_127 := n7_
             have NB127_113 := n8_
             have NB114_127 := n9_
             have NB127_114 := n10_
             clear n0_ n1_ n2_ n3_ n4_ n5_ n6_ n7_ n8_ n9_ n10_
             clear hb hbox hg
             refine hK.out _ _ ⟨(blk_cell BK113.out 0).trans rfl, (blk_cell BK113.out 1).trans rfl, (blk_cell BK113.out 2).trans rfl⟩ (fun hHeld => ?_)
             clear hK K
             refine norm_ (a' := ?_) ?_ ?_
             rotate_left
             ·show Act.put _ (some 6) _ = _
              simp only [Act.put, sp_]
              rfl
             exact norm_ pa_ (hCont (v118, .slice Ao33 y124.length co33, gb127) _ ⟨hHeld, (pr_ HO126), (pl_ BK113), (pl_ BK114), (pl_ BK127), GW127.out, GE127.out, NB113_127.out, NB127_113.out, NB114_127.out, NB127_114.out, (bl_ HB)⟩)
            ·skip
             refine box_step ?hg (N := 6) ?hd (cs := #[.int .i8 0, .int .i8 0, .slice none 0 0]) (t := 29) ?hr ?_; (case hd => rfl); (case hg => rfl); (case hr => first | (go_simp; done) | (go_simp; rfl))
             intro gb127 hg w32 hbox hb
             have n0_ := A_ (Kd.R_below (pr_ HO119) hb)
             have n1_ := A_ (blk_below (pl_ BK113) hb)
             have n2_ := A_ (blk_below (pl_ BK114) hb)
             have n3_ := A_ (below_step (bl_ HB) hb)
             have n4_ := A_ (hbox)
             have n5_ := A_ ((by rw [hg]; exact (below_size (bl_ HB)) : w.heap.size ≤ gb127))
             have n6_ := n5_
             have n7_ := A_ ((by rw [hg]; exact Nat.ne_of_lt (blk_lt (pl_ BK113)) : gb113 ≠ gb127))
             have n8_ := Aside0.mk n7_.out.symm
             have n9_ := A_ ((by rw [hg]; exact Nat.ne_of_lt (blk_lt (pl_ BK114)) : gb114 ≠ gb127))
             have n10_ := Aside0.mk n9_.out.symm
             clear HO119
             clear BK113
             clear BK114
             clear HB
             have HO119 := n0_
             have BK113 := n1_
             have BK114 := n2_
             have HB := n3_
             have BK127 := n4_
             have GW127 := n5_
             have GE127 := n6_
             have NB113_127 := n7_
             have NB127_113 := n8_
             have NB114_127 := n9_
             have NB127_114 := n10_
             clear n0_ n1_ n2_ n3_ n4_ n5_ n6_ n7_ n8_ n9_ n10_
             clear hb hbox hg
             refine hK.out _ _ ⟨(blk_cell BK113.out 0).trans rfl, (blk_cell BK113.out 1).trans rfl, (blk_cell BK113.out 2).trans rfl⟩ (fun hHeld => ?_)
             clear hK K
             refine norm_ (a' := ?_) ?_ ?_
             rotate_left
             ·show Act.put _ (some 6) _ = _
              simp only [Act.put, sp_]
              rfl
             refine one_ (i := 9) (N := some 32) #[true, true, true, true, true, true, true, true, true, true, false, true, false] rfl rfl (one_of HT_.out (by kernel_rfl)) (by decide) (fun K hK => ?_)
             refine Kd.R_append_rows_step k41 (w0 := w) w.heap.size (by rfl) (.tmp 27) (.tmp 31) 27 41 (.agg #[(.int .i8 0), (.int .i8 0), (.int .i8 0), (.int .i8 0)]) 4 rfl Try.underlying27 info41 rfl (by decide) (by omega) v118 y117 y120 _ _ _ (fun _ => True) (fun _ => False) rfl rfl ?aO ?aR (fun _ _ h => h) (fun _ h => h.elim) ?aF ?aB ?aS ?aL ?_
             (case aR => repeat (first | exact (Kd.C_below HR123.out HB.out) | (with_reducible refine Kd.C_alloc ?_ _) | (with_reducible refine Kd.C_drewN ?_ _) | (with_reducible refine Kd.C_drew ?_)))
             (case aB => exact (bl_ HB))
             (case aF => exact (fun _ _ => trivial))
             (case aO => exact (pr_ HO119))
             (case aS => exact (below_size (bl_ HB)))
             (case aL => have := LMc17.out; omega)
             intro v125 w33 ho hb hg hat
             rw [← Ny124.out] at ho
             have n0_ := A_ (blk_grown (pl_ BK113) hg (Kd.R_ne HO119.out BK113.out (by decide)))
             have n1_ := A_ (blk_grown (pl_ BK114) hg (Kd.R_ne HO119.out BK114.out (by decide)))
             have n2_ := A_ (blk_grown (pl_ BK127) hg (Kd.R_ne HO119.out BK127.out (by decide)))
             have n3_ := A_ (hb)
             have n4_ := A_ (ho)
             clear BK113
             clear BK114
             clear BK127
             clear HB
             clear HO119
             have BK113 := n0_
             have BK114 := n1_
             have BK127 := n2_
             have HB := n3_
             have HO126 := n4_
             clear n0_ n1_ n2_ n3_ n4_
             clear ho hb hg hat
             obtain ⟨Ao34, co34, eo34⟩ := Kd.R_slice HO126.out
             (first | subst eo34 | (injection eo34 with f1_ f2_ f3_; have f4_ := f1_.symm; have f5_ := f3_.symm; clear f1_ f2_ f3_; subst f4_; subst f5_))
             refine hK.out _ _ ⟨(blk_cell BK113.out 0).trans rfl, (blk_cell BK113.out 1).trans rfl, (blk_cell BK113.out 2).trans rfl⟩ (fun hHeld => ?_)
             clear hK K
             refine norm_ (a' := ?_) ?_ ?_
             rotate_left
             ·show Act.put _ (some 32) _ = _
              simp only [Act.put, sp_]
              rfl
             refine pure_ (i := 10) (N := some 33) (v := ?_) (a' := ?_) #[true, true, true, true, true, true, true, true, true, true, true, true, false] rfl rfl (any_of HT_.out (by kernel_rfl)) (fun _ _ _ h => h) (Or.inl ⟨by rfl, ?_⟩) ?_ ?_
             rotate_left
             ·intro w'
              go_simp
              with_reducible rfl
             rotate_left
             ·simp only [Act.put, sp_]
              rfl
             exact norm_ pa_ (hCont (v118, .slice Ao34 y124.length co34, gb127) _ ⟨hHeld, (pr_ HO126), (pl_ BK113), (pl_ BK114), (pl_ BK127), GW127.out, GE127.out, NB113_127.out, NB127_113.out, NB114_127.out, NB127_114.out, (bl_ HB)⟩)
           ·skip
            refine box_step ?hg (N := 6) ?hd (cs := #[.int .i8 0, .int .i8 0, .slice none 0 0]) (t := 29) ?hr ?_; (case hd => rfl); (case hg => rfl); (case hr => first | (go_simp; done) | (go_simp; rfl))
            intro gb127 hg w30 hbox hb
            have n0_ := A_ (blk_below (pl_ BK113) hb)
            have n1_ := A_ (blk_below (pl_ BK114) hb)
            have n2_ := A_ (below_step (bl_ HB) hb)
            have n3_ := A_ (hbox)
            have n4_ := A_ ((by rw [hg]; exact (below_size (bl_ HB)) : w.heap.size ≤ gb127))
            have n5_ := n4_
            have n6_ := A_ ((by rw [hg]; exact Nat.ne_of_lt (blk_lt (pl_ BK113)) : gb113 ≠ gb127))
            have n7_ := Aside0.mk n6_.out.symm
            have n8_ := A_ ((by rw [hg]; exact Nat.ne_of_lt (blk_lt (pl_ BK114)) : gb114 ≠ gb127))
            have n9_ := Aside0.mk n8_.out.symm
            clear BK113
            clear BK114
            clear HB
            have BK113 := n0_
            have BK114 := n1_
            have HB := n2_
            have BK127 := n3_
            have GW127 := n4_
            have GE127 := n5_
            have NB113_127 := n6_
            have NB127_113 := n7_
            have NB114_127 := n8_
            have NB127_114 := n9_
            clear n0_ n1_ n2_ n3_ n4_ n5_ n6_ n7_ n8_ n9_
            clear hb hbox hg
            refine hK.out _ _ ⟨(blk_cell BK113.out 0).trans rfl, (blk_cell BK113.out 1).trans rfl, (blk_cell BK113.out 2).trans rfl⟩ (fun hHeld => ?_)
            clear hK K
            refine norm_ (a' := ?_) ?_ ?_
            rotate_left
            ·show Act.put _ (some 6) _ = _
             simp only [Act.put, sp_]
             rfl
            refine one_ (i := 4) (N := some 27) #[true, true, true, true, true, true, true, true, true, false, false, true, false] rfl rfl (one_of HT_.out (by kernel_rfl)) (by decide) (fun K hK => ?_)
            refine Kd.R_lit_step k41 _ 41 ?hg (N := 27) ?hd (xs := ([] : List (S41))) (inner := []) (ok := fun _ => True) (okp := fun _ => True) ?hr ?hp (fun _ hk => hk) trivial (Below.refl _ _) (Nat.le_refl _) (by simp) ?_; (case hd => rfl); (case hg => rfl); (case hr => first | (go_simp; done) | (go_simp; rfl)); (case hp => exact (Reps.none _ _))
            intro v118 w31 ho32 hb hg_ hnew_
            clear hg_ hnew_
            (first | rw [← Ny117.out] at ho32 | (simp only [Int.reduceToNat] at ho32; rw [← Ny117.out] at ho32))
            have n0_ := A_ (Kd.R_lower ho32 (below_size (bl_ HB)))
            have n1_ := A_ (blk_below (pl_ BK113) hb)
            have n2_ := A_ (blk_below (pl_ BK114) hb)
            have n3_ := A_ (blk_below (pl_ BK127) hb)
            have n4_ := A_ (below_step (bl_ HB) hb)
            clear BK113
            clear BK114
            clear BK127
            clear HB
            have HO119 := n0_
            have BK113 := n1_
            have BK114 := n2_
            have BK127 := n3_
            have HB := n4_
            clear n0_ n1_ n2_ n3_ n4_
            clear hb ho32
            refine hK.out _ _ ⟨(blk_cell BK113.out 0).trans rfl, (blk_cell BK113.out 1).trans rfl, (blk_cell BK113.out 2).trans rfl⟩ (fun hHeld => ?_)
            clear hK K
            refine norm_ (a' := ?_) ?_ ?_
            rotate_left
            ·show Act.put _ (some 27) _ = _
             simp only [Act.put, sp_]
             rfl
            refine one_ (i := 9) (N := some 32) #[true, true, true, true, true, true, true, true, true, true, false, true, false] rfl rfl (one_of HT_.out (by kernel_rfl)) (by decide) (fun K hK => ?_)
            refine Kd.R_append_rows_step k41 (w0 := w) w.heap.size (by rfl) (.tmp 27) (.tmp 31) 27 41 (.agg #[(.int .i8 0), (.int .i8 0), (.int .i8 0), (.int .i8 0)]) 4 rfl Try.underlying27 info41 rfl (by decide) (by omega) v118 y117 y120 _ _ _ (fun _ => True) (fun _ => False) rfl rfl ?aO ?aR (fun _ _ h => h) (fun _ h => h.elim) ?aF ?aB ?aS ?aL ?_
            (case aR => repeat (first | exact (Kd.C_below HR123.out HB.out) | (with_reducible refine Kd.C_alloc ?_ _) | (with_reducible refine Kd.C_drewN ?_ _) | (with_reducible refine Kd.C_drew ?_)))
            (case aB => exact (bl_ HB))
            (case aF => exact (fun _ _ => trivial))
            (case aO => exact (pr_ HO119))
            (case aS => exact (below_size (bl_ HB)))
            (case aL => have := LMc17.out; omega)
            intro v125 w33 ho hb hg hat
            rw [← Ny124.out] at ho
            have n0_ := A_ (blk_grown (pl_ BK113) hg (Kd.R_ne HO119.out BK113.out (by decide)))
            have n1_ := A_ (blk_grown (pl_ BK114) hg (Kd.R_ne HO119.out BK114.out (by decide)))
            have n2_ := A_ (blk_grown (pl_ BK127) hg (Kd.R_ne HO119.out BK127.out (by decide)))
            have n3_ := A_ (hb)
            have n4_ := A_ (ho)
            clear BK113
            clear BK114
            clear BK127
            clear HB
            clear HO119
            have BK113 := n0_
            have BK114 := n1_
            have BK127 := n2_
            have HB := n3_
            have HO126 := n4_
            clear n0_ n1_ n2_ n3_ n4_
            clear ho hb hg hat
            obtain ⟨Ao34, co34, eo34⟩ := Kd.R_slice HO126.out
            (first | subst eo34 | (injection eo34 with f1_ f2_ f3_; have f4_ := f1_.symm; have f5_ := f3_.symm; clear f1_ f2_ f3_; subst f4_; subst f5_))
            refine hK.out _ _ ⟨(blk_cell BK113.out 0).trans rfl, (blk_cell BK113.out 1).trans rfl, (blk_cell BK113.out 2).trans rfl⟩ (fun hHeld => ?_)
            clear hK K
            refine norm_ (a' := ?_) ?_ ?_
            rotate_left
            ·show Act.put _ (some 32) _ = _
             simp only [Act.put, sp_]
             rfl
            refine pure_ (i := 10) (N := some 33) (v := ?_) (a' := ?_) #[true, true, true, true, true, true, true, true, true, true, true, true, false] rfl rfl (any_of HT_.out (by kernel_rfl)) (fun _ _ _ h => h) (Or.inl ⟨by rfl, ?_⟩) ?_ ?_
            rotate_left
            ·intro w'
             go_simp
             with_reducible rfl
            rotate_left
            ·simp only [Act.put, sp_]
             rfl
            exact norm_ pa_ (hCont (v118, .slice Ao34 y124.length co34, gb127) _ ⟨hHeld, (pr_ HO126), (pl_ BK113), (pl_ BK114), (pl_ BK127), GW127.out, GE127.out, NB113_127.out, NB127_113.out, NB114_127.out, NB127_114.out, (bl_ HB)⟩)
          rintro ⟨v118, v125, gb127⟩ w35 ⟨hS_, h0_, h1_, h2_, h3_, h4_, h5_, h6_, h7_, h8_, h9_, h10_⟩
          have n0_ : Aside0 (Kd.R k41 41 w35 w.heap.size (fun _ => True) v125 y124) := ⟨h0_⟩
          have n1_ : Aside0 (w35.heap[gb113]? = some (.cells #[.int .i8 a0_0, .int .i8 a0_1, .slice A0_2 l0_2.length c0_2] 29 (0, 0))) := ⟨h1_⟩
          have n2_ : Aside0 (w35.heap[gb114]? = some (.cells #[.int .i8 0, .int .i8 0, .slice none 0 0] 29 (0, 0))) := ⟨h2_⟩
          have n3_ : Aside0 (w35.heap[gb127]? = some (.cells #[.int .i8 0, .int .i8 0, .slice none 0 0] 29 (0, 0))) := ⟨h3_⟩
          have n4_ : Aside0 (w.heap.size ≤ gb127) := ⟨h4_⟩
          have n5_ : Aside0 (w.heap.size ≤ gb127) := ⟨h5_⟩
          have n6_ : Aside0 (gb113 ≠ gb127) := ⟨h6_⟩
          have n7_ : Aside0 (gb127 ≠ gb113) := ⟨h7_⟩
          have n8_ : Aside0 (gb114 ≠ gb127) := ⟨h8_⟩
          have n9_ : Aside0 (gb127 ≠ gb114) := ⟨h9_⟩
          have n10_ : Aside0 (Below w.heap.size w w35) := ⟨h10_⟩
          clear BK113
          clear BK114
          clear HB
          clear h0_ h1_ h2_ h3_ h4_ h5_ h6_ h7_ h8_ h9_ h10_
          have HO126 := n0_
          have BK113 := n1_
          have BK114 := n2_
          have BK127 := n3_
          have GW127 := n4_
          have GE127 := n5_
          have NB113_127 := n6_
          have NB127_113 := n7_
          have NB114_127 := n8_
          have NB127_114 := n9_
          have HB := n10_
          clear n0_ n1_ n2_ n3_ n4_ n5_ n6_ n7_ n8_ n9_ n10_
          have hHeld : w35.cell? ⟨gb113, 0, none⟩ = some (.int .i8 a0_0) ∧ w35.cell? ⟨gb113, 1, none⟩ = some (.int .i8 a0_1) ∧ w35.cell? ⟨gb113, 2, none⟩ = some (.slice A0_2 l0_2.length c0_2) := hS_
          obtain ⟨Ao36, co36, eo36⟩ := Kd.R_slice HO126.out
          (first | subst eo36 | (injection eo36 with f1_ f2_ f3_; have f4_ := f1_.symm; have f5_ := f3_.symm; clear f1_ f2_ f3_; subst f4_; subst f5_))
          refine norm_ (a' := ?_) ?_ ?_
          rotate_left
          ·simp only [putAll, Act.put, List.setIfInBounds_toArray, List.set_cons_zero, List.set_cons_succ]
           rfl
          refine one_ (i := 12) (N := none) #[true, true, true, true, true, true, true, true, true, true, true, true, true] rfl rfl (one_of HT_.out (by kernel_rfl)) (by decide) (fun K hK => ?_)
          have hs37 : w35.cell? ⟨gb127, 0, none⟩ = some (.int .i8 0) := (blk_cell BK127.out 0).trans rfl
          have hfs37 := blk_frozen BK127.out 0
          have hns37_0 := NB113_127.out
          have hns37_1 := NB114_127.out
          have hms37_0 := NB127_113.out
          have hms37_1 := NB127_114.out
          have hs38 : w35.cell? ⟨gb127, 1, none⟩ = some (.int .i8 0) := (blk_cell BK127.out 1).trans rfl
          have hfs38 := blk_frozen BK127.out 1
          have hns38_0 := NB113_127.out
          have hns38_1 := NB114_127.out
          have hms38_0 := NB127_113.out
          have hms38_1 := NB127_114.out
          have hs39 : w35.cell? ⟨gb127, 2, none⟩ = some (.slice none 0 0) := (blk_cell BK127.out 2).trans rfl
          have hfs39 := blk_frozen BK127.out 2
          have hns39_0 := NB113_127.out
          have hns39_1 := NB114_127.out
          have hms39_0 := NB127_113.out
          have hms39_1 := NB127_114.out
          refine skip_ (w1 := ?_) (by rfl) rfl ?_ ?_
          rotate_left
          ·go_simp
           rfl
          refine hK.out _ _ ⟨(cf3_ NB113_127 (hHeld.1)), (cf3_ NB113_127 (hHeld.2.1)), (cf3_ NB113_127 (hHeld.2.2))⟩ (fun hHeld => ?_)
          clear hK K
          refine done_ (done_of HT_.out (by kernel_rfl)) ?_
          try go_wp2
          have n0_ : Aside0 (Kd.R k41 41 (((w35.setCell ⟨gb127, 0, none⟩ (.int .i8 a0_0)).setCell ⟨gb127, 1, none⟩ (.int .i8 a0_1)).setCell ⟨gb127, 2, none⟩ (.slice Ao36 y124.length co36)) w.heap.size (fun _ => True) (.slice Ao36 y124.length co36) y124) := ⟨by (with_reducible repeat (first | apply Kd.R_alloc | apply Kd.R_drewN | apply Kd.R_drew)); exact Kd.R_mono (Kd.R_far (p := ⟨gb127, 2, none⟩) (Kd.R_far (p := ⟨gb127, 1, none⟩) (Kd.R_far (p := ⟨gb127, 0, none⟩) (Kd.R_types HO126.out BK127.out (by decide)) (fun _ hk => hk.2) (.int .i8 a0_0)) (fun _ hk => hk.2) (.int .i8 a0_1)) (fun _ hk => hk.2) (.slice Ao36 y124.length co36)) (fun _ hk => trivial)⟩
          have n1_ : Aside0 ((((w35.setCell ⟨gb127, 0, none⟩ (.int .i8 a0_0)).setCell ⟨gb127, 1, none⟩ (.int .i8 a0_1)).setCell ⟨gb127, 2, none⟩ (.slice Ao36 y124.length co36)).heap[gb113]? = some (.cells #[.int .i8 a0_0, .int .i8 a0_1, .slice A0_2 l0_2.length c0_2] 29 (0, 0))) := ⟨pf_ BK113 NB113_127⟩
          have n2_ : Aside0 ((((w35.setCell ⟨gb127, 0, none⟩ (.int .i8 a0_0)).setCell ⟨gb127, 1, none⟩ (.int .i8 a0_1)).setCell ⟨gb127, 2, none⟩ (.slice Ao36 y124.length co36)).heap[gb114]? = some (.cells #[.int .i8 0, .int .i8 0, .slice none 0 0] 29 (0, 0))) := ⟨pf_ BK114 NB114_127⟩
          have n3_ : Aside0 ((((w35.setCell ⟨gb127, 0, none⟩ (.int .i8 a0_0)).setCell ⟨gb127, 1, none⟩ (.int .i8 a0_1)).setCell ⟨gb127, 2, none⟩ (.slice Ao36 y124.length co36)).heap[gb127]? = some (.cells #[.int .i8 a0_0, .int .i8 a0_1, .slice Ao36 y124.length co36] 29 (0, 0))) := ⟨by (with_reducible repeat (first | refine blk_drewN ?_ _ | refine blk_drew ?_ | refine blk_alloc ?_ _)); refine blk_put (cs := #[.int .i8 a0_0, .int .i8 a0_1, .slice none 0 0]) ?_ 2 _ rfl; (with_reducible repeat (first | refine blk_drewN ?_ _ | refine blk_drew ?_ | refine blk_alloc ?_ _)); refine blk_put (cs := #[.int .i8 a0_0, .int .i8 0, .slice none 0 0]) ?_ 1 _ rfl; (with_reducible repeat (first | refine blk_drewN ?_ _ | refine blk_drew ?_ | refine blk_alloc ?_ _)); refine blk_put (cs := #[.int .i8 0, .int .i8 0, .slice none 0 0]) ?_ 0 _ rfl; (with_reducible repeat (first | refine blk_drewN ?_ _ | refine blk_drew ?_ | refine blk_alloc ?_ _)); exact BK127.out⟩
          have n4_ : Aside0 (Below w.heap.size w (((w35.setCell ⟨gb127, 0, none⟩ (.int .i8 a0_0)).setCell ⟨gb127, 1, none⟩ (.int .i8 a0_1)).setCell ⟨gb127, 2, none⟩ (.slice Ao36 y124.length co36))) := ⟨bs_ HB GE127⟩
          (try clear HO126)
          (try clear BK113)
          (try clear BK114)
          (try clear BK127)
          (try clear HB)
          generalize (((w35.setCell ⟨gb127, 0, none⟩ (.int .i8 a0_0)).setCell ⟨gb127, 1, none⟩ (.int .i8 a0_1)).setCell ⟨gb127, 2, none⟩ (.slice Ao36 y124.length co36)) = w40 at n0_ n1_ n2_ n3_ n4_ ⊢
          have HO126 := n0_
          have BK113 := n1_
          have BK114 := n2_
          have BK127 := n3_
          have HB := n4_
          clear n0_ n1_ n2_ n3_ n4_
          have n0_ := A_ (Kd.R_drew HO126.out)
          have n1_ := A_ (blk_drew BK113.out)
          have n2_ := A_ (blk_drew BK114.out)
          have n3_ := A_ (blk_drew BK127.out)
          have n4_ := A_ (below_drew1 HB.out)
          clear HO126
          clear BK113
          clear BK114
          clear BK127
          clear HB
          have HO126 := n0_
          have BK113 := n1_
          have BK114 := n2_
          have BK127 := n3_
          have HB := n4_
          clear n0_ n1_ n2_ n3_ n4_
          have q42 : ((ji18) : Int) ≤ ((l0_2.length : Int) : Int) := asm_
          obtain ⟨i042, hi042, _, hsz42, _⟩ := info_parts info41
          have hroom42 : l0_2.length ≤ c0_2 := HC0_2.out
          have hC42 : Kd.C k41 _ A0_2 l0_2.length l0_2 := HR0_2.out
          have q042 : (0 : Int) ≤ ((ji18) : Int) := asm_
          have hcut42 := cut_from (P := Try.prog) 27 41 .i64 Try.underlying27 hi042 4 hsz42 A0_2 l0_2.length c0_2 (ji18) q042 q42
          have hr42 := Kd.C_drop (m := ((ji18) : Int).toNat) (c := c0_2) hC42 (by omega) hroom42
          obtain ⟨A42, hA42⟩ : ∃ A1, A1 = (if c0_2 = ((ji18) : Int).toNat then A0_2 else (A0_2 : Option Addr).map (·.add (((ji18) : Int).toNat * 4))) := ⟨_, rfl⟩
          obtain ⟨c42, hc42⟩ : ∃ c1, c1 = c0_2 - ((ji18) : Int).toNat := ⟨_, rfl⟩
          have hy42 : y128.length = l0_2.length - ((ji18) : Int).toNat := (by rw [Ny128.out, List.length_drop] <;> omega)
          rw [show (l0_2).drop ((ji18) : Int).toNat = y128 from Ny128.out.symm] at hr42
          replace hr42 : Kd.C k41 _ A42 y128.length y128 := (by rw [hA42]; exact hr42)
          rw [← hy42, ← hA42, ← hc42] at hcut42
          have HR131 := Aside0.mk hr42
          have HC131 := A_ (show y128.length ≤ c42 from by rw [hy42, hc42]; exact Nat.sub_le_sub_right hroom42 _)
          clear hr42 hC42 hroom42 hi042 hsz42 hc42
          have KY42 := Aside0.mk hy42
          have KA42 := Aside0.mk hA42
          clear hy42 hA42
          replace q42 := eq_true q42
          refine start_ (n := 10) (S := fun w' => w'.cell? ⟨gb127, 0, none⟩ = some (.int .i8 a0_0) ∧ w'.cell? ⟨gb127, 1, none⟩ = some (.int .i8 a0_1) ∧ w'.cell? ⟨gb127, 2, none⟩ = some (.slice Ao36 y124.length co36) ∧ w'.cell? ⟨gb113, 0, none⟩ = some (.int .i8 a0_0) ∧ w'.cell? ⟨gb113, 1, none⟩ = some (.int .i8 a0_1) ∧ w'.cell? ⟨gb113, 2, none⟩ = some (.slice A0_2 l0_2.length c0_2)) (ds := [9]) #[false, false, false, false, false, false, false, false, false, false] (by kernel_rfl) rfl rfl ⟨(blk_cell BK127.out 0).trans rfl, (blk_cell BK127.out 1).trans rfl, (blk_cell BK127.out 2).trans rfl, (blk_cell BK113.out 0).trans rfl, (blk_cell BK113.out 1).trans rfl, (blk_cell BK113.out 2).trans rfl⟩ (fun hHeld => ?_); refine with_tabW spec_DropWord.tab8 spec_DropWord.bits8 (fun HT_ HW_ => ?_)
          generalize w40.drew = w41 at HO126 BK113 BK114 BK127 HB HR131 hHeld ⊢
          refine pure_ (i := 0) (N := some 34) (v := ?_) (a' := ?_) #[true, false, false, false, false, false, false, false, false, false] rfl rfl (any_of HT_.out (by kernel_rfl)) (fun _ _ _ h => h) (Or.inl ⟨by rfl, ?_⟩) ?_ ?_
          rotate_left
          ·intro w'
           go_simp
           with_reducible rfl
          rotate_left
          ·simp only [Act.put, sp_]
           rfl
          refine pure_ (i := 2) (N := some 36) (v := ?_) (a' := ?_) #[true, false, true, false, false, false, false, false, false, false] rfl rfl (any_of HT_.out (by kernel_rfl)) (fun _ _ _ h => h) (Or.inl ⟨by rfl, ?_⟩) ?_ ?_
          rotate_left
          ·intro w'
           go_simp
           with_reducible rfl
          rotate_left
          ·simp only [Act.put, sp_]
           rfl
          refine pure_ (i := 4) (N := some 38) (v := ?_) (a' := ?_) #[true, false, true, false, true, false, false, false, false, false] rfl rfl (any_of HT_.out (by kernel_rfl)) (fun _ _ _ h => h) (Or.inl ⟨by rfl, ?_⟩) ?_ ?_
          rotate_left
          ·intro w'
           go_simp
           with_reducible rfl
          rotate_left
          ·simp only [Act.put, sp_]
           rfl
          refine pure_ (i := 5) (N := some 39) (v := ?_) (a' := ?_) #[true, false, true, false, true, true, false, false, false, false] rfl rfl (any_of HT_.out (by kernel_rfl)) (fun _ _ _ h => h) (Or.inl ⟨by rfl, ?_⟩) ?_ ?_
          rotate_left
          ·intro w'
           go_simp
           with_reducible rfl
          rotate_left
          ·simp only [Act.put, sp_]
           rfl
          refine take_ (i := 1) (N := some 35) (v := ?_) (a' := ?_) #[true, true, true, false, true, true, false, false, false, false] rfl rfl (take_ofW HT_.out HW_.out (by kernel_rfl)) (fun _ _ _ h => h) (Or.inl ⟨by rfl, ?_⟩) hHeld ?_ ?_
          rotate_left
          ·rintro w' ⟨s0, s1, s2, s3, s4, s5⟩
           go_simp
           with_reducible rfl
          rotate_left
          ·simp only [Act.put, sp_]
           rfl
          refine take_ (i := 3) (N := some 37) (v := ?_) (a' := ?_) #[true, true, true, true, true, true, false, false, false, false] rfl rfl (take_ofW HT_.out HW_.out (by kernel_rfl)) (fun _ _ _ h => h) (Or.inl ⟨by rfl, ?_⟩) hHeld ?_ ?_
          rotate_left
          ·rintro w' ⟨s0, s1, s2, s3, s4, s5⟩
           go_simp
           with_reducible rfl
          rotate_left
          ·simp only [Act.put, sp_]
           rfl
          refine pure_ (i := 6) (N := some 40) (v := ?_) (a' := ?_) #[true, true, true, true, true, true, true, false, false, false] rfl rfl (any_of HT_.out (by kernel_rfl)) (fun _ _ _ h => h) (Or.inl ⟨by rfl, ?_⟩) ?_ ?_
          rotate_left
          ·intro w'
           go_simp
           with_reducible rfl
          rotate_left
          ·simp only [Act.put, sp_]
           rfl
          refine one_ (i := 7) (N := some 41) #[true, true, true, true, true, true, true, true, false, false] rfl rfl (one_of HT_.out (by kernel_rfl)) (by decide) (fun K hK => ?_)
          refine Kd.R_append_rows_step k41 (w0 := w) w.heap.size (by rfl) (.tmp 35) (.tmp 40) 27 41 (.agg #[(.int .i8 0), (.int .i8 0), (.int .i8 0), (.int .i8 0)]) 4 rfl Try.underlying27 info41 rfl (by decide) (by omega) (.slice Ao36 y124.length co36) y124 y128 _ _ _ (fun _ => True) (fun _ => False) rfl rfl ?aO ?aR (fun _ _ h => h) (fun _ h => h.elim) ?aF ?aB ?aS ?aL ?_
          (case aR => repeat (first | exact (Kd.C_below HR131.out HB.out) | (with_reducible refine Kd.C_alloc ?_ _) | (with_reducible refine Kd.C_drewN ?_ _) | (with_reducible refine Kd.C_drew ?_)))
          (case aB => exact (bl_ HB))
          (case aF => exact (fun _ _ => trivial))
          (case aO => exact (pr_ HO126))
          (case aS => exact (below_size (bl_ HB)))
          (case aL => have := LMc21.out; omega)
          intro v133 w43 ho hb hg hat
          rw [← Ny132.out] at ho
          have n0_ := A_ (blk_grown (pl_ BK113) hg (Kd.R_ne HO126.out BK113.out (by decide)))
          have n1_ := A_ (blk_grown (pl_ BK114) hg (Kd.R_ne HO126.out BK114.out (by decide)))
          have n2_ := A_ (blk_grown (pl_ BK127) hg (Kd.R_ne HO126.out BK127.out (by decide)))
          have n3_ := A_ (hb)
          have n4_ := A_ (ho)
          clear BK113
          clear BK114
          clear BK127
          clear HB
          clear HO126
          have BK113 := n0_
          have BK114 := n1_
          have BK127 := n2_
          have HB := n3_
          have HO134 := n4_
          clear n0_ n1_ n2_ n3_ n4_
          clear ho hb hg hat
          obtain ⟨Ao44, co44, eo44⟩ := Kd.R_slice HO134.out
          (first | subst eo44 | (injection eo44 with f1_ f2_ f3_; have f4_ := f1_.symm; have f5_ := f3_.symm; clear f1_ f2_ f3_; subst f4_; subst f5_))
          refine hK.out _ _ ⟨(blk_cell BK127.out 0).trans rfl, (blk_cell BK127.out 1).trans rfl, (blk_cell BK127.out 2).trans rfl, (blk_cell BK113.out 0).trans rfl, (blk_cell BK113.out 1).trans rfl, (blk_cell BK113.out 2).trans rfl⟩ (fun hHeld => ?_)
          clear hK K
          refine norm_ (a' := ?_) ?_ ?_
          rotate_left
          ·show Act.put _ (some 41) _ = _
           simp only [Act.put, sp_]
           rfl
          refine pure_ (i := 8) (N := some 42) (v := ?_) (a' := ?_) #[true, true, true, true, true, true, true, true, true, false] rfl rfl (any_of HT_.out (by kernel_rfl)) (fun _ _ _ h => h) (Or.inl ⟨by rfl, ?_⟩) ?_ ?_
          rotate_left
          ·intro w'
           go_simp
           with_reducible rfl
          rotate_left
          ·simp only [Act.put, sp_]
           rfl
          refine last_ (i := 9) (N := none) #[true, true, true, true, true, true, true, true, true, true] rfl rfl (one_of HT_.out (by kernel_rfl)) (by decide) (fun K hK => ?_)
          have hs45 : w43.cell? ⟨gb127, 2, none⟩ = some (.slice Ao36 y124.length co36) := (blk_cell BK127.out 2).trans rfl
          have hfs45 := blk_frozen BK127.out 2
          have hns45_0 := NB113_127.out
          have hns45_1 := NB114_127.out
          have hms45_0 := NB127_113.out
          have hms45_1 := NB127_114.out
          refine skip_ (w1 := ?_) (by rfl) rfl ?_ ?_
          rotate_left
          ·go_simp
           rfl
          refine hK.out _ _ ?_
          clear hK K
          refine done_ (done_of HT_.out (by kernel_rfl)) ?_
          have hnb46 := NB127_113.out
          have hnc46 := NB113_127.out
          have hnb47 := NB127_114.out
          have hnc47 := NB114_127.out
          obtain ⟨hcz48_0, hcz48_1, hcz48_2, hfz48_0, hfz48_1, hfz48_2⟩ := cl3_ BK127
          obtain ⟨hcz49_0, hcz49_1, hcz49_2, hfz49_0, hfz49_1, hfz49_2⟩ := cl3_ BK114
          try go_wp2
          refine bodyPost_ret (results_ct rfl _ _ gb114 29 #[.int .i8 a0_0, .int .i8 a0_1, .slice Ao44 y132.length co44] (0, 0) _ rfl (by (with_reducible repeat (first | refine blk_drewN ?_ _ | refine blk_drew ?_ | refine blk_alloc ?_ _)); refine blk_put (cs := #[.int .i8 a0_0, .int .i8 a0_1, .slice none 0 0]) ?_ 2 _ rfl; (with_reducible repeat (first | refine blk_drewN ?_ _ | refine blk_drew ?_ | refine blk_alloc ?_ _)); refine blk_put (cs := #[.int .i8 a0_0, .int .i8 0, .slice none 0 0]) ?_ 1 _ rfl; (with_reducible repeat (first | refine blk_drewN ?_ _ | refine blk_drew ?_ | refine blk_alloc ?_ _)); refine blk_put (cs := #[.int .i8 0, .int .i8 0, .slice none 0 0]) ?_ 0 _ rfl; (with_reducible repeat (first | refine blk_drewN ?_ _ | refine blk_drew ?_ | refine blk_alloc ?_ _)); refine blk_far ?_ NB114_127.out _; (with_reducible repeat (first | refine blk_drewN ?_ _ | refine blk_drew ?_ | refine blk_alloc ?_ _)); exact BK114.out) Try.underlying29 rfl (by kernel_rfl)) rfl ?_
          exact ⟨_, by first | rfl | (simp [errW_none, errW_some] <;> rfl) | (simp only [← hji18]; first | rfl | (simp [errW_none, errW_some] <;> rfl)) | (simp [*, errW_none, errW_some] <;> rfl), by (with_reducible repeat (first | apply Kd.R_alloc | apply Kd.R_drewN | apply Kd.R_drew)); exact Kd.R_mono (Kd.R_far (p := ⟨gb114, 2, none⟩) (Kd.R_far (p := ⟨gb114, 1, none⟩) (Kd.R_far (p := ⟨gb114, 0, none⟩) (Kd.R_far (p := ⟨gb127, 2, none⟩) (Kd.R_types (Kd.R_types HO134.out BK127.out (by decide)) BK114.out (by decide)) (fun _ hk => hk.1.2) (.slice Ao44 y132.length co44)) (fun _ hk => hk.2) (.int .i8 a0_0)) (fun _ hk => hk.2) (.int .i8 a0_1)) (fun _ hk => hk.2) (.slice Ao44 y132.length co44)) (fun _ hk => trivial), by repeat (first | (with_reducible first | exact HB.out | apply below_alloc | apply pw_below_drewN | apply below_drew1 | refine below_set ?_ GE114.out | refine below_set ?_ GE127.out) | exact HB.out)⟩
         ·rw [if_neg c21] at H
          exact absurd H (by simp)
        ·rw [if_neg c20] at H
         exact absurd H (by simp)
       ·rw [if_neg c19] at H
        exact absurd H (by simp)
      ·rw [if_neg c17] at H
       exact absurd H (by simp)
     ·rw [if_neg c16] at H
      exact absurd H (by simp)
    ·rw [if_neg c15] at H
     exact absurd H (by simp)
  ·replace c6 := Bool.eq_false_iff.mpr c6
   subst c6
   have H1 : (some (0, 0, ([] : List (S41)), 2)) = some (r1, r2, r3, r4) := by rw [if_neg (show ¬ (false = true) by decide)] at H; exact H
   clear H
   have H := H1
   clear H1
   simp only [Option.some.injEq, Prod.mk.injEq] at H
   obtain ⟨rfl, rfl, rfl, rfl⟩ := H
   go_enter Try.func6, Try.ntmps6
   go_wp2_with (first | ((with_reducible refine gate_dst (N := 2) rfl ?_); refine box_event ?hg (N := 2) ?hd (cs := #[.int .i8 a0_0, .int .i8 a0_1, .slice A0_2 l0_2.length c0_2]) (t := 29) ?hr ?_; (case hd => rfl); (case hg => rfl); (case hr => first | (go_simp; done) | (go_simp; rfl)); intro gb113 hg w50 hbox hb; have n0_ := A_ (below_step (bl_ HB) hb); have n1_ := A_ (hbox); have n2_ := A_ ((by rw [hg]; exact (below_size (bl_ HB)) : w.heap.size ≤ gb113)); have n3_ := n2_; clear HB; have HB := n0_; have BK113 := n1_; have GW113 := n2_; have GE113 := n3_; clear n0_ n1_ n2_ n3_; clear hb hbox hg) | ((with_reducible refine gate_dst (N := 4) rfl ?_); refine box_event ?hg (N := 4) ?hd (cs := #[.int .i8 0, .int .i8 0, .slice none 0 0]) (t := 29) ?hr ?_; (case hd => rfl); (case hg => rfl); (case hr => first | (go_simp; done) | (go_simp; rfl)); intro gb114 hg w51 hbox hb; have n0_ := A_ (blk_below (pl_ BK113) hb); have n1_ := A_ (below_step (bl_ HB) hb); have n2_ := A_ (hbox); have n3_ := A_ ((by rw [hg]; exact (below_size (bl_ HB)) : w.heap.size ≤ gb114)); have n4_ := n3_; have n5_ := A_ ((by rw [hg]; exact Nat.ne_of_lt (blk_lt (pl_ BK113)) : gb113 ≠ gb114)); have n6_ := Aside0.mk n5_.out.symm; clear BK113; clear HB; have BK113 := n0_; have HB := n1_; have BK114 := n2_; have GW114 := n3_; have GE114 := n4_; have NB113_114 := n5_; have NB114_113 := n6_; clear n0_ n1_ n2_ n3_ n4_ n5_ n6_; clear hb hbox hg) | ((with_reducible refine gate_callee (f := 17) rfl ?_); refine goesL_ (some 7) rfl rfl Try.func17 (by kernel_rfl) rfl #[.pointer (some ⟨gb113, 0, none⟩)] rfl arg_ ?_; (with_reducible refine (spec_l04Ok.calls k gb113 a0_0 a0_1 A0_2 c0_2 l0_2 true _ ?side1 ?side2 ?side3 A3.out).mono ?_); (case side1 => exact (pl_ BK113)); (case side2 => exact Kd.C_below HR0_2.out (bl_ HB)); (case side3 => exact HC0_2.out); rintro e w52 ⟨rfl, hb⟩; refine ⟨_, rfl, ?_⟩; have n0_ := A_ (blk_below (pl_ BK113) hb); have n1_ := A_ (blk_below (pl_ BK114) hb); have n2_ := A_ (below_step (bl_ HB) hb); clear BK113; clear BK114; clear HB; have BK113 := n0_; have BK114 := n1_; have HB := n2_; clear n0_ n1_ n2_; (try clear hb); (try clear hb2); (try clear hk); (try clear hi); have hnb53 := NB113_114.out; have hnc53 := NB114_113.out; obtain ⟨hcz54_0, hcz54_1, hcz54_2, hfz54_0, hfz54_1, hfz54_2⟩ := cl3_ BK113) | ((with_reducible refine gate_callee (f := 18) rfl ?_); refine goesL_ (some 15) rfl rfl Try.func18 (by kernel_rfl) rfl #[.int .i64 a1, .int .i64 0, .int .i64 (wrap64 ((l0_2.length : Int) - 1))] rfl arg_ ?_; (with_reducible refine (spec_l00In.calls a1 0 (wrap64 ((l0_2.length : Int) - 1)) false _ A5.out).mono ?_); rintro e w' ⟨rfl, ⟨nd, rfl⟩⟩; refine ⟨_, rfl, ?_⟩; (try (rw [drewN_self w52]; generalize hq_ : World.drewN w52 _ = w52; have n0_ : Aside0 (w52.heap[gb113]? = some (.cells #[.int .i8 a0_0, .int .i8 a0_1, .slice A0_2 l0_2.length c0_2] 29 (0, 0))) := ⟨by rw [← hq_]; exact (pl_ BK113)⟩; have n1_ : Aside0 (w52.heap[gb114]? = some (.cells #[.int .i8 0, .int .i8 0, .slice none 0 0] 29 (0, 0))) := ⟨by rw [← hq_]; exact (pl_ BK114)⟩; have n2_ : Aside0 (Below w.heap.size w w52) := ⟨by rw [← hq_]; exact (bl_ HB)⟩; clear BK113 BK114 HB hq_; have BK113 := n0_; have BK114 := n1_; have HB := n2_; clear n0_ n1_ n2_)); obtain ⟨hcz55_0, hcz55_1, hcz55_2, hfz55_0, hfz55_1, hfz55_2⟩ := cl3_ BK114))
   refine bodyPost_ret (results_ct rfl _ _ gb114 29 #[.int .i8 0, .int .i8 0, .slice none 0 0] (0, 0) _ rfl (by (with_reducible repeat (first | refine blk_drewN ?_ _ | refine blk_drew ?_ | refine blk_alloc ?_ _)); refine blk_put (cs := #[.int .i8 0, .int .i8 0, .slice none 0 0]) ?_ 2 _ rfl; (with_reducible repeat (first | refine blk_drewN ?_ _ | refine blk_drew ?_ | refine blk_alloc ?_ _)); refine blk_put (cs := #[.int .i8 0, .int .i8 0, .slice none 0 0]) ?_ 1 _ rfl; (with_reducible repeat (first | refine blk_drewN ?_ _ | refine blk_drew ?_ | refine blk_alloc ?_ _)); refine blk_put (cs := #[.int .i8 0, .int .i8 0, .slice none 0 0]) ?_ 0 _ rfl; (with_reducible repeat (first | refine blk_drewN ?_ _ | refine blk_drew ?_ | refine blk_alloc ?_ _)); exact BK114.out) Try.underlying29 rfl (by kernel_rfl)) rfl ?_
   exact ⟨_, by first | rfl | (simp [errW_none, errW_some] <;> rfl) | (simp [*, errW_none, errW_some] <;> rfl), by first | exact Kd.R_nil _ _ _ _ _ | exact Kd.N_nil _ _ _ _ _ | exact Kd.V_nil _ _ _ _ _ | exact Kd.Q_nil _ _ _ _ _ | exact Kd.S_nil _ _ _ _ _, bs_ HB GE114⟩
 ·replace c4 := Bool.eq_false_iff.mpr c4
  subst c4
  have H1 : (some (0, 0, ([] : List (S41)), 1)) = some (r1, r2, r3, r4) := by rw [if_neg (show ¬ (false = true) by decide)] at H; exact H
  clear H
  have H := H1
  clear H1
  simp only [Option.some.injEq, Prod.mk.injEq] at H
  obtain ⟨rfl, rfl, rfl, rfl⟩ := H
  go_enter Try.func6, Try.ntmps6
  go_wp2_with (first | ((with_reducible refine gate_dst (N := 2) rfl ?_); refine box_event ?hg (N := 2) ?hd (cs := #[.int .i8 a0_0, .int .i8 a0_1, .slice A0_2 l0_2.length c0_2]) (t := 29) ?hr ?_; (case hd => rfl); (case hg => rfl); (case hr => first | (go_simp; done) | (go_simp; rfl)); intro gb113 hg w56 hbox hb; have n0_ := A_ (below_step (bl_ HB) hb); have n1_ := A_ (hbox); have n2_ := A_ ((by rw [hg]; exact (below_size (bl_ HB)) : w.heap.size ≤ gb113)); have n3_ := n2_; clear HB; have HB := n0_; have BK113 := n1_; have GW113 := n2_; have GE113 := n3_; clear n0_ n1_ n2_ n3_; clear hb hbox hg) | ((with_reducible refine gate_dst (N := 4) rfl ?_); refine box_event ?hg (N := 4) ?hd (cs := #[.int .i8 0, .int .i8 0, .slice none 0 0]) (t := 29) ?hr ?_; (case hd => rfl); (case hg => rfl); (case hr => first | (go_simp; done) | (go_simp; rfl)); intro gb114 hg w57 hbox hb; have n0_ := A_ (blk_below (pl_ BK113) hb); have n1_ := A_ (below_step (bl_ HB) hb); have n2_ := A_ (hbox); have n3_ := A_ ((by rw [hg]; exact (below_size (bl_ HB)) : w.heap.size ≤ gb114)); have n4_ := n3_; have n5_ := A_ ((by rw [hg]; exact Nat.ne_of_lt (blk_lt (pl_ BK113)) : gb113 ≠ gb114)); have n6_ := Aside0.mk n5_.out.symm; clear BK113; clear HB; have BK113 := n0_; have HB := n1_; have BK114 := n2_; have GW114 := n3_; have GE114 := n4_; have NB113_114 := n5_; have NB114_113 := n6_; clear n0_ n1_ n2_ n3_ n4_ n5_ n6_; clear hb hbox hg) | ((with_reducible refine gate_callee (f := 17) rfl ?_); refine goesL_ (some 7) rfl rfl Try.func17 (by kernel_rfl) rfl #[.pointer (some ⟨gb113, 0, none⟩)] rfl arg_ ?_; (with_reducible refine (spec_l04Ok.calls k gb113 a0_0 a0_1 A0_2 c0_2 l0_2 false _ ?side1 ?side2 ?side3 A3.out).mono ?_); (case side1 => exact (pl_ BK113)); (case side2 => exact Kd.C_below HR0_2.out (bl_ HB)); (case side3 => exact HC0_2.out); rintro e w58 ⟨rfl, hb⟩; refine ⟨_, rfl, ?_⟩; have n0_ := A_ (blk_below (pl_ BK113) hb); have n1_ := A_ (blk_below (pl_ BK114) hb); have n2_ := A_ (below_step (bl_ HB) hb); clear BK113; clear BK114; clear HB; have BK113 := n0_; have BK114 := n1_; have HB := n2_; clear n0_ n1_ n2_; (try clear hb); (try clear hb2); (try clear hk); (try clear hi); have hnb59 := NB114_113.out; have hnc59 := NB113_114.out; obtain ⟨hcz60_0, hcz60_1, hcz60_2, hfz60_0, hfz60_1, hfz60_2⟩ := cl3_ BK114))
  refine bodyPost_ret (results_ct rfl _ _ gb114 29 #[.int .i8 0, .int .i8 0, .slice none 0 0] (0, 0) _ rfl (by (with_reducible repeat (first | refine blk_drewN ?_ _ | refine blk_drew ?_ | refine blk_alloc ?_ _)); refine blk_put (cs := #[.int .i8 0, .int .i8 0, .slice none 0 0]) ?_ 2 _ rfl; (with_reducible repeat (first | refine blk_drewN ?_ _ | refine blk_drew ?_ | refine blk_alloc ?_ _)); refine blk_put (cs := #[.int .i8 0, .int .i8 0, .slice none 0 0]) ?_ 1 _ rfl; (with_reducible repeat (first | refine blk_drewN ?_ _ | refine blk_drew ?_ | refine blk_alloc ?_ _)); refine blk_put (cs := #[.int .i8 0, .int .i8 0, .slice none 0 0]) ?_ 0 _ rfl; (with_reducible repeat (first | refine blk_drewN ?_ _ | refine blk_drew ?_ | refine blk_alloc ?_ _)); exact BK114.out) Try.underlying29 rfl (by kernel_rfl)) rfl ?_
  exact ⟨_, by first | rfl | (simp [errW_none, errW_some] <;> rfl) | (simp [*, errW_none, errW_some] <;> rfl), by first | exact Kd.R_nil _ _ _ _ _ | exact Kd.N_nil _ _ _ _ _ | exact Kd.V_nil _ _ _ _ _ | exact Kd.Q_nil _ _ _ _ _ | exact Kd.S_nil _ _ _ _ _, bs_ HB GE114⟩

end Go.Proofs.Ytkieplebdbdigaa.M
