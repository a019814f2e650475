-- By this seat's own program over the kit's printer (arrays, functions told by hand); nothing of it is trusted: the kernel checks it.
import Derived.Test.YtcghglembmohcaaBx0
import Derived.Test.YtcghglembmohcaaBx2
import Derived.Test.YtcghglembmohcaaBx16
namespace Go.Proofs.Ytcghglembmohcaa.B
open Go.RowKit Go.Proofs.YtcghglembmohcaaW.PrintWords Go.Proofs.YtcghglembmohcaaW.PrintLast Go.Proofs.YtcghglembmohcaaW.PrintMore
attribute [local go_sem] max2_int min2_int max_two min_two max_three min_three max_four min_four   -- for this text's walks alone
set_option linter.unusedVariables false
set_option linter.unusedSimpArgs false

attribute [local go_sem high] eqA43
/-! ### spec_l03Find: function 36 -/
def spec_l03Find.l0 : Nat → List (S43) → Int → Int → Bool → Option (Int)
 | 0, _, _, _, _ => none
 | k + 1, x5, x6, x199000, x199001 => if x6 < (x5.length : Int) then (if 0 ≤ x6 then (if (((rd_T43 x5 x6).f0) == x199000 && (((rd_T43 x5 x6).f1) == x199001)) = true then (some x6) else (spec_l03Find.l0 k x5 (wrap64 (x6 + 1)) x199000 x199001)) else (none)) else (some (-1))
def spec_l03Find.f (k : Nat) (a0_0 : Int) (a0_1 : Int) (a0_2 : Bool) (a0_3 : Bool) (a1_0 : Int) (a1_1 : Bool) : Option (Int) := (spec_l03Cases.f k a0_0 a0_1 a0_2 a0_3).bind fun t199 => (spec_l03Find.l0 k t199 0 a1_0 a1_1)
theorem spec_l03Find.mono_l : ∀ k, (∀ y0 y1 y2 y3, LeO (spec_l03Find.l0 k y0 y1 y2 y3) (spec_l03Find.l0 (k + 1) y0 y1 y2 y3))
 | 0 => fun _ _ _ _ r h => by simp [spec_l03Find.l0] at h
 | k + 1 => by
  have ih0 := spec_l03Find.mono_l k
  ·intro y0 y1 y2 y3
   unfold spec_l03Find.l0
   repeat' first
   | (with_reducible exact ih0 _ _ _ _)
   | (with_reducible exact spec_l03Cases.mono _ _ _ _ _)
   | (with_reducible exact LeO.refl _)
   | (with_reducible exact LeO.none _)
   | (with_reducible refine LeO.ite ?_ ?_)
   | (with_reducible refine LeO.bind ?_ (fun _ => ?_))
   | exact ih0 _ _ _ _
   | exact spec_l03Cases.mono _ _ _ _ _
   | exact LeO.none _
   | refine LeO.ite ?_ ?_
   | refine LeO.bind ?_ (fun _ => ?_)
theorem spec_l03Find.mono : ∀ a0 a1 a2 a3 a4 a5 k, LeO (spec_l03Find.f k a0 a1 a2 a3 a4 a5) (spec_l03Find.f (k + 1) a0 a1 a2 a3 a4 a5) := by
 intro a0 a1 a2 a3 a4 a5 k
 have ih0 := spec_l03Find.mono_l k
 unfold spec_l03Find.f
 repeat' first
   | (with_reducible exact ih0 _ _ _ _)
   | (with_reducible exact spec_l03Cases.mono _ _ _ _ _)
   | (with_reducible exact LeO.refl _)
   | (with_reducible exact LeO.none _)
   | (with_reducible refine LeO.ite ?_ ?_)
   | (with_reducible refine LeO.bind ?_ (fun _ => ?_))
   | exact ih0 _ _ _ _
   | exact spec_l03Cases.mono _ _ _ _ _
   | exact LeO.none _
   | refine LeO.ite ?_ ?_
   | refine LeO.bind ?_ (fun _ => ?_)
set_option maxHeartbeats 8000000 in
set_option maxRecDepth 100000 in
theorem spec_l03Find.calls (k : Nat) (a0_0 : Int) (a0_1 : Int) (a0_2 : Bool) (a0_3 : Bool) (a1_0 : Int) (a1_1 : Bool) (r : Int) (w : World) (h : spec_l03Find.f k a0_0 a0_1 a0_2 a0_3 a1_0 a1_1 = some r) :
  Calls Try.prog 36 #[.agg #[.int .i8 a0_0, .int .i8 a0_1, .bool a0_2, .bool a0_3], .agg #[.int .i8 a1_0, .bool a1_1]] w fun e w' => e = .returned (.int .i64 r) ∧ Below w.heap.size w w' := by
 have hu29 := Try.underlying29
 have hu43 := Try.underlying43
 have HB := A_ (Below.refl w.heap.size w)
 have H : ((spec_l03Cases.f k a0_0 a0_1 a0_2 a0_3).bind fun t199 => (spec_l03Find.l0 k t199 0 a1_0 a1_1)) = some r := h
 clear h
 replace H := Option.bind_eq_some_iff.mp H
 obtain ⟨t199, A30, H⟩ := H
 replace H : (spec_l03Find.l0 k t199 0 a1_0 a1_1) = some r := H
 have A3 := Aside0.mk A30
 clear A30
 have H' := Aside0.mk H
 clear H
 go_enter Try.func36, Try.ntmps36
 have o_ : True := trivial
 repeat ((first | go_quiet (first | ((with_reducible refine gate_dst (N := 2) rfl ?_); refine box_event ?hg (N := 2) ?hd (cs := #[.int .i8 a0_0, .int .i8 a0_1, .bool a0_2, .bool a0_3]) (t := 29) ?hr ?_; (case hd => rfl); (case hg => rfl); (case hr => first | (go_simp; done) | (go_simp; rfl)); intro gb197 hg w4 hbox hb; have n0_ := A_ (below_step (bl_ HB) hb); have n1_ := A_ (hbox); have n2_ := A_ ((by rw [hg]; exact (below_size (bl_ HB)) : w.heap.size ≤ gb197)); have n3_ := n2_; clear HB; have HB := n0_; have BK197 := n1_; have GW197 := n2_; have GE197 := n3_; clear n0_ n1_ n2_ n3_; clear hb hbox hg) | ((with_reducible refine gate_dst (N := 3) rfl ?_); refine box_event ?hg (N := 3) ?hd (cs := #[.int .i8 a1_0, .bool a1_1]) (t := 43) ?hr ?_; (case hd => rfl); (case hg => rfl); (case hr => first | (go_simp; done) | (go_simp; rfl)); intro gb198 hg w5 hbox hb; have n0_ := A_ (blk_below (pl_ BK197) hb); have n1_ := A_ (below_step (bl_ HB) hb); have n2_ := A_ (hbox); have n3_ := A_ ((by rw [hg]; exact (below_size (bl_ HB)) : w.heap.size ≤ gb198)); have n4_ := n3_; have n5_ := A_ ((by rw [hg]; exact Nat.ne_of_lt (blk_lt (pl_ BK197)) : gb197 ≠ gb198)); have n6_ := Aside0.mk n5_.out.symm; clear BK197; clear HB; have BK197 := n0_; have HB := n1_; have BK198 := n2_; have GW198 := n3_; have GE198 := n4_; have NB197_198 := n5_; have NB198_197 := n6_; clear n0_ n1_ n2_ n3_ n4_ n5_ n6_; clear hb hbox hg; have hnb6 := NB197_198.out; have hnc6 := NB198_197.out; obtain ⟨hcz7_0, hcz7_1, hcz7_2, hcz7_3, hfz7_0, hfz7_1, hfz7_2, hfz7_3⟩ := cl4_ BK197) | (go_at_call 48; (with_reducible refine (spec_l03Cases.calls k a0_0 a0_1 a0_2 a0_3 t199 _ A3.out).mono ?_); rintro e w8 ⟨v200, rfl, ho0, hb⟩; have n0_ := A_ (Kd.R_lower (Kd.R_newB ho0 (pl_ BK198)) (below_size (bl_ HB))); have n1_ := A_ (blk_below (pl_ BK197) hb); have n2_ := A_ (blk_below (pl_ BK198) hb); have n3_ := A_ (below_step (bl_ HB) hb); clear BK197; clear BK198; clear HB; have HO201 := n0_; have BK197 := n1_; have BK198 := n2_; have HB := n3_; clear n0_ n1_ n2_ n3_; (try clear hb); (try clear hb2); (try clear hk); (try clear hi); (try clear ho0))) | clear o_); go_wp2_with (first | ((with_reducible refine gate_dst (N := 2) rfl ?_); refine box_event ?hg (N := 2) ?hd (cs := #[.int .i8 a0_0, .int .i8 a0_1, .bool a0_2, .bool a0_3]) (t := 29) ?hr ?_; (case hd => rfl); (case hg => rfl); (case hr => first | (go_simp; done) | (go_simp; rfl)); intro gb197 hg w4 hbox hb; have n0_ := A_ (below_step (bl_ HB) hb); have n1_ := A_ (hbox); have n2_ := A_ ((by rw [hg]; exact (below_size (bl_ HB)) : w.heap.size ≤ gb197)); have n3_ := n2_; clear HB; have HB := n0_; have BK197 := n1_; have GW197 := n2_; have GE197 := n3_; clear n0_ n1_ n2_ n3_; clear hb hbox hg) | ((with_reducible refine gate_dst (N := 3) rfl ?_); refine box_event ?hg (N := 3) ?hd (cs := #[.int .i8 a1_0, .bool a1_1]) (t := 43) ?hr ?_; (case hd => rfl); (case hg => rfl); (case hr => first | (go_simp; done) | (go_simp; rfl)); intro gb198 hg w5 hbox hb; have n0_ := A_ (blk_below (pl_ BK197) hb); have n1_ := A_ (below_step (bl_ HB) hb); have n2_ := A_ (hbox); have n3_ := A_ ((by rw [hg]; exact (below_size (bl_ HB)) : w.heap.size ≤ gb198)); have n4_ := n3_; have n5_ := A_ ((by rw [hg]; exact Nat.ne_of_lt (blk_lt (pl_ BK197)) : gb197 ≠ gb198)); have n6_ := Aside0.mk n5_.out.symm; clear BK197; clear HB; have BK197 := n0_; have HB := n1_; have BK198 := n2_; have GW198 := n3_; have GE198 := n4_; have NB197_198 := n5_; have NB198_197 := n6_; clear n0_ n1_ n2_ n3_ n4_ n5_ n6_; clear hb hbox hg; have hnb6 := NB197_198.out; have hnc6 := NB198_197.out; obtain ⟨hcz7_0, hcz7_1, hcz7_2, hcz7_3, hfz7_0, hfz7_1, hfz7_2, hfz7_3⟩ := cl4_ BK197) | (go_at_call 48; (with_reducible refine (spec_l03Cases.calls k a0_0 a0_1 a0_2 a0_3 t199 _ A3.out).mono ?_); rintro e w8 ⟨v200, rfl, ho0, hb⟩; have n0_ := A_ (Kd.R_lower (Kd.R_newB ho0 (pl_ BK198)) (below_size (bl_ HB))); have n1_ := A_ (blk_below (pl_ BK197) hb); have n2_ := A_ (blk_below (pl_ BK198) hb); have n3_ := A_ (below_step (bl_ HB) hb); clear BK197; clear BK198; clear HB; have HO201 := n0_; have BK197 := n1_; have BK198 := n2_; have HB := n3_; clear n0_ n1_ n2_ n3_; (try clear hb); (try clear hb2); (try clear hk); (try clear hi); (try clear ho0))))
 go_loopg [6] k (fun kq v6 w' => ∃ (x6_1 : Int), v6 = .int .i64 x6_1 ∧ Aside0 (spec_l03Find.l0 kq t199 x6_1 a1_0 a1_1 = some r) ∧ Aside0 (kq ≤ k) ∧ Aside0 (Kd.R k43 43 w' w.heap.size (fun k_ => k_ ≠ gb198) v200 t199) ∧ Aside0 (w'.heap[gb197]? = some (.cells #[.int .i8 a0_0, .int .i8 a0_1, .bool a0_2, .bool a0_3] 29 (0, 0))) ∧ Aside0 (w'.heap[gb198]? = some (.cells #[.int .i8 a1_0, .bool a1_1] 43 (0, 0))) ∧ Aside0 (Below w.heap.size w w'))
 case atStart => exact ⟨(0), rs_, H', ⟨Nat.le_refl _⟩, ⟨by (with_reducible repeat (first | apply Kd.R_alloc | apply Kd.R_drewN | apply Kd.R_drew)); exact Kd.R_mono HO201.out (fun _ hk => hk.2)⟩, ⟨pl_ BK197⟩, ⟨pl_ BK198⟩, ⟨bl_ HB⟩⟩
 case round =>
  clear H'
  try clear p2
  try clear c3
  try clear c6
  try clear hcz7_0
  try clear hcz7_1
  try clear hcz7_2
  try clear hcz7_3
  try clear hfz7_0
  try clear hfz7_1
  try clear hfz7_2
  try clear hfz7_3
  obtain ⟨x6_1, rfl, HA, HK1, HO_5, BK197, BK198, HB⟩ := hrel
  cases gk with
  | zero => exact absurd HA.out (by simp [spec_l03Find.l0])
  | succ k1 =>
   have H := HA.out
   clear HA
   simp only [spec_l03Find.l0] at H
   by_cases c9 : x6_1 < (t199.length : Int)
   ·rw [if_pos c9] at H
    have c9b0 : decide (x6_1 < (t199.length : Int)) = true := decide_eq_true c9
    clear c9
    by_cases c10 : 0 ≤ x6_1
    ·rw [if_pos c10] at H
     have c10b0 : decide (0 ≤ x6_1) = true := decide_eq_true c10
     clear c10
     by_cases c11 : (((rd_T43 t199 x6_1).f0) == a1_0 && (((rd_T43 t199 x6_1).f1) == a1_1)) = true
     ·rw [if_pos c11] at H
      have c11b0 : (((rd_T43 t199 x6_1).f0) == a1_0 && (((rd_T43 t199 x6_1).f1) == a1_1)) = true := c11
      (try (have c11b1 : decide (((rd_T43 t199 x6_1).f0) = a1_0 && (((rd_T43 t199 x6_1).f1) == a1_1)) = true := by simpa using c11))
      (try (have c11b2 : (((rd_T43 t199 x6_1).f0) == a1_0 && (((rd_T43 t199 x6_1).f1) == a1_1)) = true := by simpa using c11))
      clear c11
      obtain rfl := Option.some.inj H
      obtain ⟨Ao12, co12, eo12⟩ := Kd.R_slice HO_5.out
      subst eo12
      have p202 : 0 ≤ (x6_1 : Int) := asm_
      have q202 : x6_1 < (t199.length : Int) := asm_
      obtain ⟨ad202, e202, hx202_0, hx202_1⟩ := at_T43 (Kd.R_reads' HO_5.out).2.2 x6_1 p202 q202
      cases e202
      replace p202 := eq_true p202
      replace q202 := eq_true q202
      have hnb13 := NB198_197.out
      have hnc13 := NB197_198.out
      obtain ⟨hcz14_0, hcz14_1, hfz14_0, hfz14_1⟩ := cl2_ BK198
      go_wp2
      repeat (go_quiet (fail); try go_wp2)
      go_ret
      exact ⟨by first | rfl | (simp [errW_none, errW_some] <;> rfl) | (simp [*, errW_none, errW_some] <;> rfl), bl_ HB⟩
     ·rw [if_neg c11] at H
      have c11b0 : (((rd_T43 t199 x6_1).f0) == a1_0 && (((rd_T43 t199 x6_1).f1) == a1_1)) = false := by simpa using c11
      (try (have c11b1 : decide (((rd_T43 t199 x6_1).f0) = a1_0 && (((rd_T43 t199 x6_1).f1) == a1_1)) = false := by simpa using c11))
      (try (have c11b2 : (((rd_T43 t199 x6_1).f0) == a1_0 && (((rd_T43 t199 x6_1).f1) == a1_1)) = false := by simpa using c11))
      (try (have c11b3 : ¬ (((rd_T43 t199 x6_1).f0) = a1_0 && (((rd_T43 t199 x6_1).f1) == a1_1)) := by simpa using c11))
      clear c11
      have H' := Aside0.mk H
      clear H
      obtain ⟨Ao15, co15, eo15⟩ := Kd.R_slice HO_5.out
      subst eo15
      have p202 : 0 ≤ (x6_1 : Int) := asm_
      have q202 : x6_1 < (t199.length : Int) := asm_
      obtain ⟨ad202, e202, hx202_0, hx202_1⟩ := at_T43 (Kd.R_reads' HO_5.out).2.2 x6_1 p202 q202
      cases e202
      replace p202 := eq_true p202
      replace q202 := eq_true q202
      have hnb16 := NB198_197.out
      have hnc16 := NB197_198.out
      obtain ⟨hcz17_0, hcz17_1, hfz17_0, hfz17_1⟩ := cl2_ BK198
      go_wp2
      repeat (go_quiet (fail); try go_wp2)
      go_roundg k1
      case measure => have := HK1.out; omega
      case rel => exact ⟨(wrap64 (x6_1 + 1)), rs_, H', ⟨by have := HK1.out; omega⟩, ⟨pr_ HO_5⟩, ⟨pl_ BK197⟩, ⟨pl_ BK198⟩, ⟨bl_ HB⟩⟩
    ·rw [if_neg c10] at H
     exact absurd H (by simp)
   ·rw [if_neg c9] at H
    have c9b0 : decide (x6_1 < (t199.length : Int)) = false := decide_eq_false c9
    clear c9
    obtain rfl := Option.some.inj H
    obtain ⟨Ao18, co18, eo18⟩ := Kd.R_slice HO_5.out
    subst eo18
    go_wp2
    repeat (go_quiet (fail); try go_wp2)
    go_ret
    exact ⟨by first | rfl | (simp [errW_none, errW_some] <;> rfl) | (simp [*, errW_none, errW_some] <;> rfl), bl_ HB⟩

-- NOT PRINTED: function 31 (spec_l03Plan)

-- NOT PRINTED: function 16 (spec_ValidPlan)

/-! ### spec_l03Result: function 49 -/
def spec_l03Result.f (a0_0 : Int) (a0_1 : Int) (a0_2 : Int) (a0_3 : Int) (a0_4 : Int) (a0_5 : Int) (a0_6 : Int) (a0_7 : Int) (a0_8 : Int) (a0_9 : Int) (a0_10 : Int) (a0_11 : Int) (a0_12 : Int) (a0_13 : Int) (a1_0 : Int) (a1_1 : Bool) : Option (Int) := if a1_0 < 0 then (some 0) else (if a1_1 = true then (if 0 ≤ a1_0 then (if a1_0 < 14 then (some (wrap64 (rd [a0_0, a0_1, a0_2, a0_3, a0_4, a0_5, a0_6, a0_7, a0_8, a0_9, a0_10, a0_11, a0_12, a0_13] a1_0))) else (none)) else (none)) else (if 0 ≤ a1_0 then (if a1_0 < 14 then (some (wrap64 (-(wrap64 (rd [a0_0, a0_1, a0_2, a0_3, a0_4, a0_5, a0_6, a0_7, a0_8, a0_9, a0_10, a0_11, a0_12, a0_13] a1_0))))) else (none)) else (none)))
set_option maxHeartbeats 8000000 in
set_option maxRecDepth 100000 in
theorem spec_l03Result.calls (a0_0 : Int) (a0_1 : Int) (a0_2 : Int) (a0_3 : Int) (a0_4 : Int) (a0_5 : Int) (a0_6 : Int) (a0_7 : Int) (a0_8 : Int) (a0_9 : Int) (a0_10 : Int) (a0_11 : Int) (a0_12 : Int) (a0_13 : Int) (a1_0 : Int) (a1_1 : Bool) (r : Int) (w : World) (h : spec_l03Result.f a0_0 a0_1 a0_2 a0_3 a0_4 a0_5 a0_6 a0_7 a0_8 a0_9 a0_10 a0_11 a0_12 a0_13 a1_0 a1_1 = some r) :
  Calls Try.prog 49 #[.agg #[.int .i8 a0_0, .int .i8 a0_1, .int .i8 a0_2, .int .i8 a0_3, .int .i8 a0_4, .int .i8 a0_5, .int .i8 a0_6, .int .i8 a0_7, .int .i8 a0_8, .int .i8 a0_9, .int .i8 a0_10, .int .i8 a0_11, .int .i8 a0_12, .int .i8 a0_13], .agg #[.int .i8 a1_0, .bool a1_1]] w fun e w' => e = .returned (.int .i64 r) ∧ Below w.heap.size w w' := by
 have hu26 := Try.underlying26
 have hu43 := Try.underlying43
 have HB := A_ (Below.refl w.heap.size w)
 have H : (if a1_0 < 0 then (some 0) else (if a1_1 = true then (if 0 ≤ a1_0 then (if a1_0 < 14 then (some (wrap64 (rd [a0_0, a0_1, a0_2, a0_3, a0_4, a0_5, a0_6, a0_7, a0_8, a0_9, a0_10, a0_11, a0_12, a0_13] a1_0))) else (none)) else (none)) else (if 0 ≤ a1_0 then (if a1_0 < 14 then (some (wrap64 (-(wrap64 (rd [a0_0, a0_1, a0_2, a0_3, a0_4, a0_5, a0_6, a0_7, a0_8, a0_9, a0_10, a0_11, a0_12, a0_13] a1_0))))) else (none)) else (none)))) = some r := h
 clear h
 by_cases c3 : a1_0 < 0
 ·rw [if_pos c3] at H
  have c3b0 : decide (a1_0 < 0) = true := decide_eq_true c3
  clear c3
  obtain rfl := Option.some.inj H
  go_enter Try.func49, Try.ntmps49
  go_wp2_with (first | ((with_reducible refine gate_dst (N := 2) rfl ?_); refine box_event ?hg (N := 2) ?hd (cs := #[.int .i8 a0_0, .int .i8 a0_1, .int .i8 a0_2, .int .i8 a0_3, .int .i8 a0_4, .int .i8 a0_5, .int .i8 a0_6, .int .i8 a0_7, .int .i8 a0_8, .int .i8 a0_9, .int .i8 a0_10, .int .i8 a0_11, .int .i8 a0_12, .int .i8 a0_13]) (t := 26) ?hr ?_; (case hd => rfl); (case hg => rfl); (case hr => first | (go_simp; done) | (go_simp; rfl)); intro gb208 hg w4 hbox hb; have n0_ := A_ (below_step (bl_ HB) hb); have n1_ := A_ (hbox); have n2_ := A_ ((by rw [hg]; exact (below_size (bl_ HB)) : w.heap.size ≤ gb208)); have n3_ := n2_; clear HB; have HB := n0_; have BK208 := n1_; have GW208 := n2_; have GE208 := n3_; clear n0_ n1_ n2_ n3_; clear hb hbox hg) | ((with_reducible refine gate_dst (N := 3) rfl ?_); refine box_event ?hg (N := 3) ?hd (cs := #[.int .i8 a1_0, .bool a1_1]) (t := 43) ?hr ?_; (case hd => rfl); (case hg => rfl); (case hr => first | (go_simp; done) | (go_simp; rfl)); intro gb209 hg w5 hbox hb; have n0_ := A_ (blk_below (pl_ BK208) hb); have n1_ := A_ (below_step (bl_ HB) hb); have n2_ := A_ (hbox); have n3_ := A_ ((by rw [hg]; exact (below_size (bl_ HB)) : w.heap.size ≤ gb209)); have n4_ := n3_; have n5_ := A_ ((by rw [hg]; exact Nat.ne_of_lt (blk_lt (pl_ BK208)) : gb208 ≠ gb209)); have n6_ := Aside0.mk n5_.out.symm; clear BK208; clear HB; have BK208 := n0_; have HB := n1_; have BK209 := n2_; have GW209 := n3_; have GE209 := n4_; have NB208_209 := n5_; have NB209_208 := n6_; clear n0_ n1_ n2_ n3_ n4_ n5_ n6_; clear hb hbox hg; have hnb6 := NB209_208.out; have hnc6 := NB208_209.out; obtain ⟨hcz7_0, hcz7_1, hfz7_0, hfz7_1⟩ := cl2_ BK209))
  go_ret
  exact ⟨by first | rfl | (simp [errW_none, errW_some] <;> rfl) | (simp [*, errW_none, errW_some] <;> rfl), bl_ HB⟩
 ·rw [if_neg c3] at H
  have c3b0 : decide (a1_0 < 0) = false := decide_eq_false c3
  clear c3
  by_cases c8 : a1_1 = true
  ·subst c8
   have H1 : (if 0 ≤ a1_0 then (if a1_0 < 14 then (some (wrap64 (rd [a0_0, a0_1, a0_2, a0_3, a0_4, a0_5, a0_6, a0_7, a0_8, a0_9, a0_10, a0_11, a0_12, a0_13] a1_0))) else (none)) else (none)) = some r := by rw [if_pos rfl] at H; exact H
   clear H
   have H := H1
   clear H1
   by_cases c9 : 0 ≤ a1_0
   ·rw [if_pos c9] at H
    have c9b0 : decide (0 ≤ a1_0) = true := decide_eq_true c9
    clear c9
    by_cases c10 : a1_0 < 14
    ·rw [if_pos c10] at H
     have c10b0 : decide (a1_0 < 14) = true := decide_eq_true c10
     clear c10
     obtain rfl := Option.some.inj H
     go_enter Try.func49, Try.ntmps49
     go_wp2_with (first | ((with_reducible refine gate_dst (N := 2) rfl ?_); refine box_event ?hg (N := 2) ?hd (cs := #[.int .i8 a0_0, .int .i8 a0_1, .int .i8 a0_2, .int .i8 a0_3, .int .i8 a0_4, .int .i8 a0_5, .int .i8 a0_6, .int .i8 a0_7, .int .i8 a0_8, .int .i8 a0_9, .int .i8 a0_10, .int .i8 a0_11, .int .i8 a0_12, .int .i8 a0_13]) (t := 26) ?hr ?_; (case hd => rfl); (case hg => rfl); (case hr => first | (go_simp; done) | (go_simp; rfl)); intro gb208 hg w12 hbox hb; have n0_ := A_ (below_step (bl_ HB) hb); have n1_ := A_ (hbox); have n2_ := A_ ((by rw [hg]; exact (below_size (bl_ HB)) : w.heap.size ≤ gb208)); have n3_ := n2_; clear HB; have HB := n0_; have BK208 := n1_; have GW208 := n2_; have GE208 := n3_; clear n0_ n1_ n2_ n3_; clear hb hbox hg) | ((with_reducible refine gate_dst (N := 3) rfl ?_); refine box_event ?hg (N := 3) ?hd (cs := #[.int .i8 a1_0, .bool true]) (t := 43) ?hr ?_; (case hd => rfl); (case hg => rfl); (case hr => first | (go_simp; done) | (go_simp; rfl)); intro gb209 hg w13 hbox hb; have n0_ := A_ (blk_below (pl_ BK208) hb); have n1_ := A_ (below_step (bl_ HB) hb); have n2_ := A_ (hbox); have n3_ := A_ ((by rw [hg]; exact (below_size (bl_ HB)) : w.heap.size ≤ gb209)); have n4_ := n3_; have n5_ := A_ ((by rw [hg]; exact Nat.ne_of_lt (blk_lt (pl_ BK208)) : gb208 ≠ gb209)); have n6_ := Aside0.mk n5_.out.symm; clear BK208; clear HB; have BK208 := n0_; have HB := n1_; have BK209 := n2_; have GW209 := n3_; have GE209 := n4_; have NB208_209 := n5_; have NB209_208 := n6_; clear n0_ n1_ n2_ n3_ n4_ n5_ n6_; clear hb hbox hg; have hnb14 := NB209_208.out; have hnc14 := NB208_209.out; obtain ⟨hcz15_0, hcz15_1, hfz15_0, hfz15_1⟩ := cl2_ BK209; obtain ⟨hcz16_0, hcz16_1, hcz16_2, hcz16_3, hcz16_4, hcz16_5, hcz16_6, hcz16_7, hcz16_8, hcz16_9, hcz16_10, hcz16_11, hcz16_12, hcz16_13, hfz16_0, hfz16_1, hfz16_2, hfz16_3, hfz16_4, hfz16_5, hfz16_6, hfz16_7, hfz16_8, hfz16_9, hfz16_10, hfz16_11, hfz16_12, hfz16_13⟩ := cl14_ BK208; have p11 : 0 ≤ (a1_0 : Int) := asm_; have q11 : (a1_0 : Int) < 14 := asm_; have hx11 : w13.cell? ⟨gb208, (a1_0 : Int).toNat, none⟩ = some (.int .i8 (rd [a0_0, a0_1, a0_2, a0_3, a0_4, a0_5, a0_6, a0_7, a0_8, a0_9, a0_10, a0_11, a0_12, a0_13] a1_0)) := ard_cell (k := .i8) (l := [a0_0, a0_1, a0_2, a0_3, a0_4, a0_5, a0_6, a0_7, a0_8, a0_9, a0_10, a0_11, a0_12, a0_13]) BK208.out p11 q11; have hf11 := blk_frozen BK208.out (a1_0 : Int).toNat; have P11 := Aside0.mk p11; have Q11 := Aside0.mk q11; replace p11 := eq_true p11; replace q11 := eq_true q11))
     go_ret
     exact ⟨by first | rfl | (simp [errW_none, errW_some] <;> rfl) | (simp [*, errW_none, errW_some] <;> rfl), bl_ HB⟩
    ·rw [if_neg c10] at H
     exact absurd H (by simp)
   ·rw [if_neg c9] at H
    exact absurd H (by simp)
  ·replace c8 := Bool.eq_false_iff.mpr c8
   subst c8
   have H1 : (if 0 ≤ a1_0 then (if a1_0 < 14 then (some (wrap64 (-(wrap64 (rd [a0_0, a0_1, a0_2, a0_3, a0_4, a0_5, a0_6, a0_7, a0_8, a0_9, a0_10, a0_11, a0_12, a0_13] a1_0))))) else (none)) else (none)) = some r := by rw [if_neg (show ¬ (false = true) by decide)] at H; exact H
   clear H
   have H := H1
   clear H1
   by_cases c17 : 0 ≤ a1_0
   ·rw [if_pos c17] at H
    have c17b0 : decide (0 ≤ a1_0) = true := decide_eq_true c17
    clear c17
    by_cases c18 : a1_0 < 14
    ·rw [if_pos c18] at H
     have c18b0 : decide (a1_0 < 14) = true := decide_eq_true c18
     clear c18
     obtain rfl := Option.some.inj H
     go_enter Try.func49, Try.ntmps49
     go_wp2_with (first | ((with_reducible refine gate_dst (N := 2) rfl ?_); refine box_event ?hg (N := 2) ?hd (cs := #[.int .i8 a0_0, .int .i8 a0_1, .int .i8 a0_2, .int .i8 a0_3, .int .i8 a0_4, .int .i8 a0_5, .int .i8 a0_6, .int .i8 a0_7, .int .i8 a0_8, .int .i8 a0_9, .int .i8 a0_10, .int .i8 a0_11, .int .i8 a0_12, .int .i8 a0_13]) (t := 26) ?hr ?_; (case hd => rfl); (case hg => rfl); (case hr => first | (go_simp; done) | (go_simp; rfl)); intro gb208 hg w20 hbox hb; have n0_ := A_ (below_step (bl_ HB) hb); have n1_ := A_ (hbox); have n2_ := A_ ((by rw [hg]; exact (below_size (bl_ HB)) : w.heap.size ≤ gb208)); have n3_ := n2_; clear HB; have HB := n0_; have BK208 := n1_; have GW208 := n2_; have GE208 := n3_; clear n0_ n1_ n2_ n3_; clear hb hbox hg) | ((with_reducible refine gate_dst (N := 3) rfl ?_); refine box_event ?hg (N := 3) ?hd (cs := #[.int .i8 a1_0, .bool false]) (t := 43) ?hr ?_; (case hd => rfl); (case hg => rfl); (case hr => first | (go_simp; done) | (go_simp; rfl)); intro gb209 hg w21 hbox hb; have n0_ := A_ (blk_below (pl_ BK208) hb); have n1_ := A_ (below_step (bl_ HB) hb); have n2_ := A_ (hbox); have n3_ := A_ ((by rw [hg]; exact (below_size (bl_ HB)) : w.heap.size ≤ gb209)); have n4_ := n3_; have n5_ := A_ ((by rw [hg]; exact Nat.ne_of_lt (blk_lt (pl_ BK208)) : gb208 ≠ gb209)); have n6_ := Aside0.mk n5_.out.symm; clear BK208; clear HB; have BK208 := n0_; have HB := n1_; have BK209 := n2_; have GW209 := n3_; have GE209 := n4_; have NB208_209 := n5_; have NB209_208 := n6_; clear n0_ n1_ n2_ n3_ n4_ n5_ n6_; clear hb hbox hg; have hnb22 := NB209_208.out; have hnc22 := NB208_209.out; obtain ⟨hcz23_0, hcz23_1, hfz23_0, hfz23_1⟩ := cl2_ BK209; obtain ⟨hcz24_0, hcz24_1, hcz24_2, hcz24_3, hcz24_4, hcz24_5, hcz24_6, hcz24_7, hcz24_8, hcz24_9, hcz24_10, hcz24_11, hcz24_12, hcz24_13, hfz24_0, hfz24_1, hfz24_2, hfz24_3, hfz24_4, hfz24_5, hfz24_6, hfz24_7, hfz24_8, hfz24_9, hfz24_10, hfz24_11, hfz24_12, hfz24_13⟩ := cl14_ BK208; have p19 : 0 ≤ (a1_0 : Int) := asm_; have q19 : (a1_0 : Int) < 14 := asm_; have hx19 : w21.cell? ⟨gb208, (a1_0 : Int).toNat, none⟩ = some (.int .i8 (rd [a0_0, a0_1, a0_2, a0_3, a0_4, a0_5, a0_6, a0_7, a0_8, a0_9, a0_10, a0_11, a0_12, a0_13] a1_0)) := ard_cell (k := .i8) (l := [a0_0, a0_1, a0_2, a0_3, a0_4, a0_5, a0_6, a0_7, a0_8, a0_9, a0_10, a0_11, a0_12, a0_13]) BK208.out p19 q19; have hf19 := blk_frozen BK208.out (a1_0 : Int).toNat; have P19 := Aside0.mk p19; have Q19 := Aside0.mk q19; replace p19 := eq_true p19; replace q19 := eq_true q19))
     go_ret
     exact ⟨by first | rfl | (simp [errW_none, errW_some] <;> rfl) | (simp [*, errW_none, errW_some] <;> rfl), bl_ HB⟩
    ·rw [if_neg c18] at H
     exact absurd H (by simp)
   ·rw [if_neg c17] at H
    exact absurd H (by simp)

-- NOT PRINTED: function 37 (spec_l03Run)

-- NOT PRINTED: function 18 (spec_FollowPlan)

/-! ### impl_within: function 32 -/
def impl_within.f (a0 : Int) (a1 : Int) (a2 : Int) : Option (Bool) := if a1 ≤ a0 then (some (decide (a0 ≤ a2))) else (some false)
set_option maxHeartbeats 8000000 in
set_option maxRecDepth 100000 in
theorem impl_within.calls (a0 : Int) (a1 : Int) (a2 : Int) (r : Bool) (w : World) (h : impl_within.f a0 a1 a2 = some r) :
  Calls Try.prog 32 #[.int .i64 a0, .int .i64 a1, .int .i64 a2] w fun e w' => e = .returned (.bool r) ∧ Drawn0 w w' := by
 have H : (if a1 ≤ a0 then (some (decide (a0 ≤ a2))) else (some false)) = some r := h
 clear h
 by_cases c4 : a1 ≤ a0
 ·rw [if_pos c4] at H
  have c4b0 : decide (a1 ≤ a0) = true := decide_eq_true c4
  clear c4
  obtain rfl := Option.some.inj H
  go_enter Try.func32, Try.ntmps32
  go_wp2
  go_ret
  exact ⟨by first | rfl | (simp; done) | (simp [*]; done), by repeat (first | exact Drawn0.refl _ | apply Drawn0.step)⟩
 ·rw [if_neg c4] at H
  have c4b0 : decide (a1 ≤ a0) = false := decide_eq_false c4
  clear c4
  obtain rfl := Option.some.inj H
  go_enter Try.func32, Try.ntmps32
  go_wp2
  go_ret
  exact ⟨by first | rfl | (simp; done) | (simp [*]; done), by repeat (first | exact Drawn0.refl _ | apply Drawn0.step)⟩

end Go.Proofs.Ytcghglembmohcaa.B
