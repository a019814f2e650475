-- By this seat's own program over the kit's printer (arrays, functions told by hand); nothing of it is trusted: the kernel checks it.
import Derived.Test.YtcghglembmohcaaHNode
import Derived.Test.YtcghglembmohcaaMx0
import Derived.Test.YtcghglembmohcaaMx5
namespace Go.Proofs.Ytcghglembmohcaa.M
open Go.RowKit Go.Proofs.YtcghglembmohcaaW.PrintWords Go.Proofs.YtcghglembmohcaaW.PrintLast Go.Proofs.YtcghglembmohcaaW.PrintMore
attribute [local go_sem] max2_int min2_int max_two min_two max_three min_three max_four min_four   -- for this text's walks alone
set_option linter.unusedVariables false
set_option linter.unusedSimpArgs false

/-! ### laws_eqNodeS: function 15 -/
def laws_eqNodeS.l0 : Nat → List (S58) → List (S58) → Int → Option (Bool)
 | 0, _, _, _ => none
 | k + 1, x0, x1, x5 => if x5 < (x0.length : Int) then (if 0 ≤ x5 then (if x5 < (x1.length : Int) then ((laws_eqNode.f k ((rd_T58 x0 x5).f0.f0) ((rd_T58 x0 x5).f0.f1) ((rd_T58 x0 x5).f0.f2) ((rd_T58 x0 x5).f0.f3) ((rd_T58 x0 x5).f0.f4) ((rd_T58 x0 x5).f0.f5) ((rd_T58 x0 x5).f0.f6) ((rd_T58 x0 x5).f0.f7) ((rd_T58 x0 x5).f0.f8) ((rd_T58 x0 x5).f0.f9) ((rd_T58 x0 x5).f0.f10) ((rd_T58 x0 x5).f0.f11) ((rd_T58 x0 x5).f0.f12) ((rd_T58 x0 x5).f0.f13) ((rd_T58 x0 x5).f1.f0) ((rd_T58 x0 x5).f1.f1) ((rd_T58 x0 x5).f1.f2) ((rd_T58 x0 x5).f2.f0) ((rd_T58 x0 x5).f2.f1) ((rd_T58 x0 x5).f3) ((rd_T58 x1 x5).f0.f0) ((rd_T58 x1 x5).f0.f1) ((rd_T58 x1 x5).f0.f2) ((rd_T58 x1 x5).f0.f3) ((rd_T58 x1 x5).f0.f4) ((rd_T58 x1 x5).f0.f5) ((rd_T58 x1 x5).f0.f6) ((rd_T58 x1 x5).f0.f7) ((rd_T58 x1 x5).f0.f8) ((rd_T58 x1 x5).f0.f9) ((rd_T58 x1 x5).f0.f10) ((rd_T58 x1 x5).f0.f11) ((rd_T58 x1 x5).f0.f12) ((rd_T58 x1 x5).f0.f13) ((rd_T58 x1 x5).f1.f0) ((rd_T58 x1 x5).f1.f1) ((rd_T58 x1 x5).f1.f2) ((rd_T58 x1 x5).f2.f0) ((rd_T58 x1 x5).f2.f1) ((rd_T58 x1 x5).f3)).bind fun t171 => (if t171 = true then (laws_eqNodeS.l0 k x0 x1 (wrap64 (x5 + 1))) else (some false))) else (none)) else (none)) else (some true)
def laws_eqNodeS.f (k : Nat) (l0 : List (S58)) (l1 : List (S58)) : Option (Bool) := if (l0.length : Int) = (l1.length : Int) then (laws_eqNodeS.l0 k l0 l1 0) else (some false)
theorem laws_eqNodeS.mono_l : ∀ k, (∀ y0 y1 y2, LeO (laws_eqNodeS.l0 k y0 y1 y2) (laws_eqNodeS.l0 (k + 1) y0 y1 y2))
 | 0 => fun _ _ _ r h => by simp [laws_eqNodeS.l0] at h
 | k + 1 => by
  have ih0 := laws_eqNodeS.mono_l k
  ·intro y0 y1 y2
   unfold laws_eqNodeS.l0
   repeat' first
   | (with_reducible exact ih0 _ _ _)
   | (with_reducible exact laws_eqNode.mono _ _ _ _ _ _ _ _ _ _ _ _ _ _ _ _ _ _ _ _ _ _ _ _ _ _ _ _ _ _ _ _ _ _ _ _ _ _ _ _ _)
   | (with_reducible exact LeO.refl _)
   | (with_reducible exact LeO.none _)
   | (with_reducible refine LeO.ite ?_ ?_)
   | (with_reducible refine LeO.bind ?_ (fun _ => ?_))
   | exact ih0 _ _ _
   | exact laws_eqNode.mono _ _ _ _ _ _ _ _ _ _ _ _ _ _ _ _ _ _ _ _ _ _ _ _ _ _ _ _ _ _ _ _ _ _ _ _ _ _ _ _ _
   | exact LeO.none _
   | refine LeO.ite ?_ ?_
   | refine LeO.bind ?_ (fun _ => ?_)
theorem laws_eqNodeS.mono : ∀ a0 a1 k, LeO (laws_eqNodeS.f k a0 a1) (laws_eqNodeS.f (k + 1) a0 a1) := by
 intro a0 a1 k
 have ih0 := laws_eqNodeS.mono_l k
 unfold laws_eqNodeS.f
 repeat' first
   | (with_reducible exact ih0 _ _ _)
   | (with_reducible exact laws_eqNode.mono _ _ _ _ _ _ _ _ _ _ _ _ _ _ _ _ _ _ _ _ _ _ _ _ _ _ _ _ _ _ _ _ _ _ _ _ _ _ _ _ _)
   | (with_reducible exact LeO.refl _)
   | (with_reducible exact LeO.none _)
   | (with_reducible refine LeO.ite ?_ ?_)
   | (with_reducible refine LeO.bind ?_ (fun _ => ?_))
   | exact ih0 _ _ _
   | exact laws_eqNode.mono _ _ _ _ _ _ _ _ _ _ _ _ _ _ _ _ _ _ _ _ _ _ _ _ _ _ _ _ _ _ _ _ _ _ _ _ _ _ _ _ _
   | exact LeO.none _
   | refine LeO.ite ?_ ?_
   | refine LeO.bind ?_ (fun _ => ?_)
def laws_eqNodeS.T6 : Bool × List (List Nat × List Nat) := (true, [([], []), ([], []), ([0, 1], [0, 1]), ([2], [2]), ([], []), ([], []), ([4, 5], [4, 5]), ([6], [6]), ([3, 7], [3, 7]), ([8], [8])])
def laws_eqNodeS.B6 : List Nat := [0, 0, 3, 7, 0, 0, 48, 112, 255, 511]
theorem laws_eqNodeS.tab6 : rtab .any (opsOf Try.f15 6) = laws_eqNodeS.T6 := by kernel_rfl
theorem laws_eqNodeS.bits6 : waitsOk laws_eqNodeS.T6.2 laws_eqNodeS.B6 = true := by kernel_rfl
set_option maxHeartbeats 8000000 in
set_option maxRecDepth 100000 in
theorem laws_eqNodeS.calls (k : Nat) (A0 : Option Addr) (c0 : Nat) (l0 : List (S58)) (A1 : Option Addr) (c1 : Nat) (l1 : List (S58)) (r : Bool) (w : World) (hr0 : Kd.C k58 w A0 l0.length l0) (hc0 : l0.length ≤ c0) (hr1 : Kd.C k58 w A1 l1.length l1) (hc1 : l1.length ≤ c1) (h : laws_eqNodeS.f k l0 l1 = some r) :
  Calls Try.prog 15 #[.slice A0 l0.length c0, .slice A1 l1.length c1] w fun e w' => e = .returned (.bool r) ∧ Below w.heap.size w w' := by
 have HR0 := Aside0.mk hr0
 have HR1 := Aside0.mk hr1
 clear hr0 hr1
 have HB := A_ (Below.refl w.heap.size w)
 unfold laws_eqNodeS.f at h
 by_cases c3 : (l0.length : Int) = (l1.length : Int)
 · rw [if_pos c3] at h
   have c3b1 : ((l0.length : Int) != (l1.length : Int)) = false := bne_eq_false_iff_eq.mpr c3
   have H' := Aside0.mk h
   clear h c3
   go_enter Try.func15, Try.ntmps15
   go_wp2
   go_loopg [5] k (fun kq v5 w' => ∃ (x5 : Int), v5 = .int .i64 x5 ∧ Aside0 (laws_eqNodeS.l0 kq l0 l1 x5 = some r) ∧ Aside0 (kq ≤ k) ∧ Aside0 (Below w.heap.size w w'))
   case atStart => exact ⟨0, rs_, H', ⟨Nat.le_refl _⟩, ⟨HB.out⟩⟩
   case round =>
     clear H' c3b1 HB
     obtain ⟨x5, rfl, HA, HK1, HB⟩ := hrel
     cases gk with
     | zero => exact absurd HA.out (by simp [laws_eqNodeS.l0])
     | succ k1 =>
       have H := HA.out
       clear HA
       simp only [laws_eqNodeS.l0] at H
       by_cases c4 : x5 < (l0.length : Int)
       · rw [if_pos c4] at H
         have c4b0 : decide (x5 < (l0.length : Int)) = true := decide_eq_true c4
         by_cases c5 : 0 ≤ x5
         · rw [if_pos c5] at H
           by_cases c6 : x5 < (l1.length : Int)
           · rw [if_pos c6] at H
             obtain ⟨t171, A70, H⟩ := Option.bind_eq_some_iff.mp H
             have A7 := Aside0.mk A70
             clear A70
             obtain ⟨ad0, e0, hn0⟩ := node_at (Kd.C_below HR0.out (below_drew1 HB.out)) x5 c5 c4
             obtain ⟨ad1, e1, hn1⟩ := node_at (Kd.C_below HR1.out (below_drew1 HB.out)) x5 c5 c6
             cases e0
             cases e1
             have HN0 := Aside0.mk hn0
             have HN1 := Aside0.mk hn1
             clear hn0 hn1
             cases t171 with
             | true =>
               rw [if_pos rfl] at H
               have H' := Aside0.mk H
               clear H
               go_wp2_with (first | (refine wp_region_still_tail 8 (by kernel_rfl) (by kernel_rfl) ?_; simp only [List.take_succ_cons, List.take_zero, List.drop_succ_cons, List.drop_zero]; refine tail_shown ?_; still_step; still_step; still_step; refine still_val (.agg (cs58 (rd_T58 l0 x5)).toArray) rfl (exec_load 58 (.tmp 19) rfl rfl (run_load58 _ _ _ HN0.out)) ?_; still_step; still_step; still_step; refine still_val (.agg (cs58 (rd_T58 l1 x5)).toArray) rfl (exec_load 58 (.tmp 23) rfl rfl (run_load58 _ _ _ HN1.out)) ?_; refine wpStill_nil ?_; simp only [Act.put, sp_]) | ((with_reducible refine gate_callee (f := 30) rfl ?_); refine goesL_ (some 25) rfl rfl Try.func30 (by kernel_rfl) rfl #[.agg #[.int .i8 ((rd_T58 l0 x5).f0.f0), .int .i8 ((rd_T58 l0 x5).f0.f1), .int .i8 ((rd_T58 l0 x5).f0.f2), .int .i8 ((rd_T58 l0 x5).f0.f3), .int .i8 ((rd_T58 l0 x5).f0.f4), .int .i8 ((rd_T58 l0 x5).f0.f5), .int .i8 ((rd_T58 l0 x5).f0.f6), .int .i8 ((rd_T58 l0 x5).f0.f7), .int .i8 ((rd_T58 l0 x5).f0.f8), .int .i8 ((rd_T58 l0 x5).f0.f9), .int .i8 ((rd_T58 l0 x5).f0.f10), .int .i8 ((rd_T58 l0 x5).f0.f11), .int .i8 ((rd_T58 l0 x5).f0.f12), .int .i8 ((rd_T58 l0 x5).f0.f13), .int .i16 ((rd_T58 l0 x5).f1.f0), .int .i16 ((rd_T58 l0 x5).f1.f1), .int .i16 ((rd_T58 l0 x5).f1.f2), .int .i8 ((rd_T58 l0 x5).f2.f0), .bool ((rd_T58 l0 x5).f2.f1), .bool ((rd_T58 l0 x5).f3)], .agg #[.int .i8 ((rd_T58 l1 x5).f0.f0), .int .i8 ((rd_T58 l1 x5).f0.f1), .int .i8 ((rd_T58 l1 x5).f0.f2), .int .i8 ((rd_T58 l1 x5).f0.f3), .int .i8 ((rd_T58 l1 x5).f0.f4), .int .i8 ((rd_T58 l1 x5).f0.f5), .int .i8 ((rd_T58 l1 x5).f0.f6), .int .i8 ((rd_T58 l1 x5).f0.f7), .int .i8 ((rd_T58 l1 x5).f0.f8), .int .i8 ((rd_T58 l1 x5).f0.f9), .int .i8 ((rd_T58 l1 x5).f0.f10), .int .i8 ((rd_T58 l1 x5).f0.f11), .int .i8 ((rd_T58 l1 x5).f0.f12), .int .i8 ((rd_T58 l1 x5).f0.f13), .int .i16 ((rd_T58 l1 x5).f1.f0), .int .i16 ((rd_T58 l1 x5).f1.f1), .int .i16 ((rd_T58 l1 x5).f1.f2), .int .i8 ((rd_T58 l1 x5).f2.f0), .bool ((rd_T58 l1 x5).f2.f1), .bool ((rd_T58 l1 x5).f3)]] rfl arg_ ?_; (with_reducible refine (laws_eqNode.calls k1 ((rd_T58 l0 x5).f0.f0) ((rd_T58 l0 x5).f0.f1) ((rd_T58 l0 x5).f0.f2) ((rd_T58 l0 x5).f0.f3) ((rd_T58 l0 x5).f0.f4) ((rd_T58 l0 x5).f0.f5) ((rd_T58 l0 x5).f0.f6) ((rd_T58 l0 x5).f0.f7) ((rd_T58 l0 x5).f0.f8) ((rd_T58 l0 x5).f0.f9) ((rd_T58 l0 x5).f0.f10) ((rd_T58 l0 x5).f0.f11) ((rd_T58 l0 x5).f0.f12) ((rd_T58 l0 x5).f0.f13) ((rd_T58 l0 x5).f1.f0) ((rd_T58 l0 x5).f1.f1) ((rd_T58 l0 x5).f1.f2) ((rd_T58 l0 x5).f2.f0) ((rd_T58 l0 x5).f2.f1) ((rd_T58 l0 x5).f3) ((rd_T58 l1 x5).f0.f0) ((rd_T58 l1 x5).f0.f1) ((rd_T58 l1 x5).f0.f2) ((rd_T58 l1 x5).f0.f3) ((rd_T58 l1 x5).f0.f4) ((rd_T58 l1 x5).f0.f5) ((rd_T58 l1 x5).f0.f6) ((rd_T58 l1 x5).f0.f7) ((rd_T58 l1 x5).f0.f8) ((rd_T58 l1 x5).f0.f9) ((rd_T58 l1 x5).f0.f10) ((rd_T58 l1 x5).f0.f11) ((rd_T58 l1 x5).f0.f12) ((rd_T58 l1 x5).f0.f13) ((rd_T58 l1 x5).f1.f0) ((rd_T58 l1 x5).f1.f1) ((rd_T58 l1 x5).f1.f2) ((rd_T58 l1 x5).f2.f0) ((rd_T58 l1 x5).f2.f1) ((rd_T58 l1 x5).f3) true _ A7.out).mono ?_); rintro e w9 ⟨rfl, hb⟩; refine ⟨_, rfl, ?_⟩; have n_ := A_ (below_step (below_drew1 HB.out) hb); clear HB; have HB := n_; clear n_ hb))
               go_roundg k1
               case measure => have := HK1.out; omega
               case rel => exact ⟨(wrap64 (x5 + 1)), rs_, H', ⟨by have := HK1.out; omega⟩, ⟨HB.out⟩⟩
             | false =>
               rw [if_neg (by simp)] at H
               obtain rfl := Option.some.inj H
               go_wp2_with (first | (refine wp_region_still_tail 8 (by kernel_rfl) (by kernel_rfl) ?_; simp only [List.take_succ_cons, List.take_zero, List.drop_succ_cons, List.drop_zero]; refine tail_shown ?_; still_step; still_step; still_step; refine still_val (.agg (cs58 (rd_T58 l0 x5)).toArray) rfl (exec_load 58 (.tmp 19) rfl rfl (run_load58 _ _ _ HN0.out)) ?_; still_step; still_step; still_step; refine still_val (.agg (cs58 (rd_T58 l1 x5)).toArray) rfl (exec_load 58 (.tmp 23) rfl rfl (run_load58 _ _ _ HN1.out)) ?_; refine wpStill_nil ?_; simp only [Act.put, sp_]) | ((with_reducible refine gate_callee (f := 30) rfl ?_); refine goesL_ (some 25) rfl rfl Try.func30 (by kernel_rfl) rfl #[.agg #[.int .i8 ((rd_T58 l0 x5).f0.f0), .int .i8 ((rd_T58 l0 x5).f0.f1), .int .i8 ((rd_T58 l0 x5).f0.f2), .int .i8 ((rd_T58 l0 x5).f0.f3), .int .i8 ((rd_T58 l0 x5).f0.f4), .int .i8 ((rd_T58 l0 x5).f0.f5), .int .i8 ((rd_T58 l0 x5).f0.f6), .int .i8 ((rd_T58 l0 x5).f0.f7), .int .i8 ((rd_T58 l0 x5).f0.f8), .int .i8 ((rd_T58 l0 x5).f0.f9), .int .i8 ((rd_T58 l0 x5).f0.f10), .int .i8 ((rd_T58 l0 x5).f0.f11), .int .i8 ((rd_T58 l0 x5).f0.f12), .int .i8 ((rd_T58 l0 x5).f0.f13), .int .i16 ((rd_T58 l0 x5).f1.f0), .int .i16 ((rd_T58 l0 x5).f1.f1), .int .i16 ((rd_T58 l0 x5).f1.f2), .int .i8 ((rd_T58 l0 x5).f2.f0), .bool ((rd_T58 l0 x5).f2.f1), .bool ((rd_T58 l0 x5).f3)], .agg #[.int .i8 ((rd_T58 l1 x5).f0.f0), .int .i8 ((rd_T58 l1 x5).f0.f1), .int .i8 ((rd_T58 l1 x5).f0.f2), .int .i8 ((rd_T58 l1 x5).f0.f3), .int .i8 ((rd_T58 l1 x5).f0.f4), .int .i8 ((rd_T58 l1 x5).f0.f5), .int .i8 ((rd_T58 l1 x5).f0.f6), .int .i8 ((rd_T58 l1 x5).f0.f7), .int .i8 ((rd_T58 l1 x5).f0.f8), .int .i8 ((rd_T58 l1 x5).f0.f9), .int .i8 ((rd_T58 l1 x5).f0.f10), .int .i8 ((rd_T58 l1 x5).f0.f11), .int .i8 ((rd_T58 l1 x5).f0.f12), .int .i8 ((rd_T58 l1 x5).f0.f13), .int .i16 ((rd_T58 l1 x5).f1.f0), .int .i16 ((rd_T58 l1 x5).f1.f1), .int .i16 ((rd_T58 l1 x5).f1.f2), .int .i8 ((rd_T58 l1 x5).f2.f0), .bool ((rd_T58 l1 x5).f2.f1), .bool ((rd_T58 l1 x5).f3)]] rfl arg_ ?_; (with_reducible refine (laws_eqNode.calls k1 ((rd_T58 l0 x5).f0.f0) ((rd_T58 l0 x5).f0.f1) ((rd_T58 l0 x5).f0.f2) ((rd_T58 l0 x5).f0.f3) ((rd_T58 l0 x5).f0.f4) ((rd_T58 l0 x5).f0.f5) ((rd_T58 l0 x5).f0.f6) ((rd_T58 l0 x5).f0.f7) ((rd_T58 l0 x5).f0.f8) ((rd_T58 l0 x5).f0.f9) ((rd_T58 l0 x5).f0.f10) ((rd_T58 l0 x5).f0.f11) ((rd_T58 l0 x5).f0.f12) ((rd_T58 l0 x5).f0.f13) ((rd_T58 l0 x5).f1.f0) ((rd_T58 l0 x5).f1.f1) ((rd_T58 l0 x5).f1.f2) ((rd_T58 l0 x5).f2.f0) ((rd_T58 l0 x5).f2.f1) ((rd_T58 l0 x5).f3) ((rd_T58 l1 x5).f0.f0) ((rd_T58 l1 x5).f0.f1) ((rd_T58 l1 x5).f0.f2) ((rd_T58 l1 x5).f0.f3) ((rd_T58 l1 x5).f0.f4) ((rd_T58 l1 x5).f0.f5) ((rd_T58 l1 x5).f0.f6) ((rd_T58 l1 x5).f0.f7) ((rd_T58 l1 x5).f0.f8) ((rd_T58 l1 x5).f0.f9) ((rd_T58 l1 x5).f0.f10) ((rd_T58 l1 x5).f0.f11) ((rd_T58 l1 x5).f0.f12) ((rd_T58 l1 x5).f0.f13) ((rd_T58 l1 x5).f1.f0) ((rd_T58 l1 x5).f1.f1) ((rd_T58 l1 x5).f1.f2) ((rd_T58 l1 x5).f2.f0) ((rd_T58 l1 x5).f2.f1) ((rd_T58 l1 x5).f3) false _ A7.out).mono ?_); rintro e w9 ⟨rfl, hb⟩; refine ⟨_, rfl, ?_⟩; have n_ := A_ (below_step (below_drew1 HB.out) hb); clear HB; have HB := n_; clear n_ hb))
               go_ret
               exact ⟨rfl, HB.out⟩
           · rw [if_neg c6] at H
             cases H
         · rw [if_neg c5] at H
           cases H
       · rw [if_neg c4] at H
         have c4b0 : decide (x5 < (l0.length : Int)) = false := decide_eq_false c4
         obtain rfl := Option.some.inj H
         go_wp2
         go_ret
         exact ⟨rfl, HB.out⟩
 · rw [if_neg c3] at h
   have c3b1 : ((l0.length : Int) != (l1.length : Int)) = true := bne_iff_ne.mpr c3
   obtain rfl := Option.some.inj h
   go_enter Try.func15, Try.ntmps15
   go_wp2
   go_ret
   exact ⟨rfl, HB.out⟩

end Go.Proofs.Ytcghglembmohcaa.M
