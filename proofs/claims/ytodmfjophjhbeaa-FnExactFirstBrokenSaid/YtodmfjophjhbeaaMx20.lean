-- By this seat's own program over the kit's printer (arrays, functions told by hand); nothing of it is trusted: the kernel checks it.
import Derived.Test.YtodmfjophjhbeaaMx0
import Derived.Test.YtodmfjophjhbeaaMx8
import Derived.Test.YtodmfjophjhbeaaMx10
namespace Go.Proofs.Ytodmfjophjhbeaa.M
open Go.RowKit Go.Proofs.YtodmfjophjhbeaaW.PrintWords Go.Proofs.YtodmfjophjhbeaaW.PrintLast Go.Proofs.YtodmfjophjhbeaaW.PrintMore
attribute [local go_sem] max2_int min2_int max_two min_two max_three min_three max_four min_four   -- for this text's walks alone
set_option linter.unusedVariables false
set_option linter.unusedSimpArgs false

/-! ### impl_unless: function 91 -/
def impl_unless.f (a0 : Bool) (a1 : Int) : Option (Int) := if a0 = true then (some 0) else (some a1)
set_option maxHeartbeats 8000000 in
set_option maxRecDepth 100000 in
theorem impl_unless.calls (a0 : Bool) (a1 : Int) (r : Int) (w : World) (h : impl_unless.f a0 a1 = some r) :
  Calls Try.prog 91 #[.bool a0, .int .i64 a1] w fun e w' => e = .returned (.int .i64 r) ∧ Drawn0 w w' := by
 have H : (if a0 = true then (some 0) else (some a1)) = some r := h
 clear h
 by_cases c3 : a0 = true
 ·subst c3
  have H1 : (some 0) = some r := by rw [if_pos rfl] at H; exact H
  clear H
  have H := H1
  clear H1
  obtain rfl := Option.some.inj H
  go_enter Try.func91, Try.ntmps91
  go_wp2
  go_ret
  exact ⟨by first | rfl | (simp; done) | (simp [*]; done), by repeat (first | exact Drawn0.refl _ | apply Drawn0.step)⟩
 ·replace c3 := Bool.eq_false_iff.mpr c3
  subst c3
  have H1 : (some a1) = some r := by rw [if_neg (show ¬ (false = true) by decide)] at H; exact H
  clear H
  have H := H1
  clear H1
  obtain rfl := Option.some.inj H
  go_enter Try.func91, Try.ntmps91
  go_wp2
  go_ret
  exact ⟨by first | rfl | (simp; done) | (simp [*]; done), by repeat (first | exact Drawn0.refl _ | apply Drawn0.step)⟩

/-! ### impl_tableCode: function 62 -/
def impl_tableCode.f (k : Nat) (l0_0 : List Int) (a0_1 : Int) (a0_2 : Int) (a0_3 : Int) (a0_4 : Int) (a0_5 : Bool) (l1 : List Int) : Option (Int) := (impl_ValidPuzzle.f k l0_0 a0_1 a0_2 a0_3 a0_4 a0_5).bind fun t404 => (if t404 = true then ((impl_size_int16.f l1).bind fun t405 => ((impl_Puzzle_states.f k l0_0 a0_1 a0_2 a0_3 a0_4 a0_5).bind fun t406 => ((impl_unless.f (t405 == t406) 2).bind fun t407 => (some t407)))) else (some 1))
theorem impl_tableCode.mono : ∀ a0 a1 a2 a3 a4 a5 a6 k, LeO (impl_tableCode.f k a0 a1 a2 a3 a4 a5 a6) (impl_tableCode.f (k + 1) a0 a1 a2 a3 a4 a5 a6) := by
 intro a0 a1 a2 a3 a4 a5 a6 k
 unfold impl_tableCode.f
 repeat' first
   | (with_reducible exact impl_Puzzle_states.mono _ _ _ _ _ _ _)
   | (with_reducible exact impl_ValidPuzzle.mono _ _ _ _ _ _ _)
   | (with_reducible exact LeO.refl _)
   | (with_reducible exact LeO.none _)
   | (with_reducible refine LeO.ite ?_ ?_)
   | (with_reducible refine LeO.bind ?_ (fun _ => ?_))
   | exact impl_Puzzle_states.mono _ _ _ _ _ _ _
   | exact impl_ValidPuzzle.mono _ _ _ _ _ _ _
   | exact LeO.none _
   | refine LeO.ite ?_ ?_
   | refine LeO.bind ?_ (fun _ => ?_)
set_option maxHeartbeats 8000000 in
set_option maxRecDepth 100000 in
theorem impl_tableCode.calls (k : Nat) (A0_0 : Option Addr) (c0_0 : Nat) (l0_0 : List Int) (a0_1 : Int) (a0_2 : Int) (a0_3 : Int) (a0_4 : Int) (a0_5 : Bool) (A1 : Option Addr) (c1 : Nat) (l1 : List Int) (r : Int) (w : World) (hr0_0 : Kd.C (Kd.int .i16) w A0_0 l0_0.length l0_0) (hc0_0 : l0_0.length ≤ c0_0) (hr1 : Kd.C (Kd.int .i16) w A1 l1.length l1) (hc1 : l1.length ≤ c1) (h : impl_tableCode.f k l0_0 a0_1 a0_2 a0_3 a0_4 a0_5 l1 = some r) :
  Calls Try.prog 62 #[.agg #[.slice A0_0 l0_0.length c0_0, .int .i16 a0_1, .int .i16 a0_2, .int .i16 a0_3, .int .i16 a0_4, .bool a0_5], .slice A1 l1.length c1] w fun e w' => e = .returned (.int .i64 r) ∧ Below w.heap.size w w' := by
 have hu32 := Try.underlying32
 have HR0_0 := Aside0.mk hr0_0
 have HC0_0 := Aside0.mk hc0_0
 clear hr0_0 hc0_0
 have HR1 := Aside0.mk hr1
 have HC1 := Aside0.mk hc1
 clear hr1 hc1
 have HB := A_ (Below.refl w.heap.size w)
 have H : ((impl_ValidPuzzle.f k l0_0 a0_1 a0_2 a0_3 a0_4 a0_5).bind fun t404 => (if t404 = true then ((impl_size_int16.f l1).bind fun t405 => ((impl_Puzzle_states.f k l0_0 a0_1 a0_2 a0_3 a0_4 a0_5).bind fun t406 => ((impl_unless.f (t405 == t406) 2).bind fun t407 => (some t407)))) else (some 1))) = some r := h
 clear h
 replace H := Option.bind_eq_some_iff.mp H
 obtain ⟨t404, A30, H⟩ := H
 replace H : (if t404 = true then ((impl_size_int16.f l1).bind fun t405 => ((impl_Puzzle_states.f k l0_0 a0_1 a0_2 a0_3 a0_4 a0_5).bind fun t406 => ((impl_unless.f (t405 == t406) 2).bind fun t407 => (some t407)))) else (some 1)) = some r := H
 have A3 := Aside0.mk A30
 clear A30
 by_cases c4 : t404 = true
 ·subst c4
  have H1 : ((impl_size_int16.f l1).bind fun t405 => ((impl_Puzzle_states.f k l0_0 a0_1 a0_2 a0_3 a0_4 a0_5).bind fun t406 => ((impl_unless.f (t405 == t406) 2).bind fun t407 => (some t407)))) = some r := by rw [if_pos rfl] at H; exact H
  clear H
  have H := H1
  clear H1
  replace H := Option.bind_eq_some_iff.mp H
  obtain ⟨t405, A50, H⟩ := H
  replace H : ((impl_Puzzle_states.f k l0_0 a0_1 a0_2 a0_3 a0_4 a0_5).bind fun t406 => ((impl_unless.f (t405 == t406) 2).bind fun t407 => (some t407))) = some r := H
  have A5 := Aside0.mk A50
  clear A50
  replace H := Option.bind_eq_some_iff.mp H
  obtain ⟨t406, A60, H⟩ := H
  replace H : ((impl_unless.f (t405 == t406) 2).bind fun t407 => (some t407)) = some r := H
  have A6 := Aside0.mk A60
  clear A60
  replace H := Option.bind_eq_some_iff.mp H
  obtain ⟨t407, A70, H⟩ := H
  replace H : (some t407) = some r := H
  have A7 := Aside0.mk A70
  clear A70
  obtain rfl := Option.some.inj H
  go_enter Try.func62, Try.ntmps62
  try go_wp2_with (first | ((with_reducible refine gate_dst (N := 2) rfl ?_); refine box_event ?hg (N := 2) ?hd (cs := #[.slice A0_0 l0_0.length c0_0, .int .i16 a0_1, .int .i16 a0_2, .int .i16 a0_3, .int .i16 a0_4, .bool a0_5]) (t := 32) ?hr ?_; (case hd => rfl); (case hg => rfl); (case hr => first | (go_simp; done) | (go_simp; rfl)); intro gb403 hg w8 hbox hb; have n0_ := A_ (below_step (bl_ HB) hb); have n1_ := A_ (hbox); have n2_ := A_ ((by rw [hg]; exact (below_size (bl_ HB)) : w.heap.size ≤ gb403)); have n3_ := n2_; clear HB; have HB := n0_; have BK403 := n1_; have GW403 := n2_; have GE403 := n3_; clear n0_ n1_ n2_ n3_; clear hb hbox hg; have hcz9_0 : w8.cell? ⟨gb403, 0, none⟩ = some (.slice A0_0 l0_0.length c0_0) := (blk_cell BK403.out 0).trans rfl; have hcz9_1 : w8.cell? ⟨gb403, 1, none⟩ = some (.int .i16 a0_1) := (blk_cell BK403.out 1).trans rfl; have hcz9_2 : w8.cell? ⟨gb403, 2, none⟩ = some (.int .i16 a0_2) := (blk_cell BK403.out 2).trans rfl; have hcz9_3 : w8.cell? ⟨gb403, 3, none⟩ = some (.int .i16 a0_3) := (blk_cell BK403.out 3).trans rfl; have hcz9_4 : w8.cell? ⟨gb403, 4, none⟩ = some (.int .i16 a0_4) := (blk_cell BK403.out 4).trans rfl; have hcz9_5 : w8.cell? ⟨gb403, 5, none⟩ = some (.bool a0_5) := (blk_cell BK403.out 5).trans rfl; have hfz9_0 := blk_frozen BK403.out 0; have hfz9_1 := blk_frozen BK403.out 1; have hfz9_2 := blk_frozen BK403.out 2; have hfz9_3 := blk_frozen BK403.out 3; have hfz9_4 := blk_frozen BK403.out 4; have hfz9_5 := blk_frozen BK403.out 5) | ((with_reducible refine gate_callee (f := 24) rfl ?_); refine goesL_ (some 6) rfl rfl Try.func24 (by kernel_rfl) rfl #[.agg #[.slice A0_0 l0_0.length c0_0, .int .i16 a0_1, .int .i16 a0_2, .int .i16 a0_3, .int .i16 a0_4, .bool a0_5]] rfl arg_ ?_; (with_reducible refine (impl_ValidPuzzle.calls k _ _ l0_0 a0_1 a0_2 a0_3 a0_4 a0_5 true _ ?side1 ?side2 A3.out).mono ?_); (case side1 => repeat (first | exact (Kd.C_below HR0_0.out HB.out) | (with_reducible refine Kd.C_alloc ?_ _) | (with_reducible refine Kd.C_drewN ?_ _) | (with_reducible refine Kd.C_drew ?_))); (case side2 => exact HC0_0.out); rintro e w10 ⟨rfl, hb⟩; refine ⟨_, rfl, ?_⟩; have n0_ := A_ (blk_below (pl_ BK403) hb); have n1_ := A_ (below_step (bl_ HB) hb); clear BK403; clear HB; have BK403 := n0_; have HB := n1_; clear n0_ n1_; (try clear hb); (try clear hb2); (try clear hk); (try clear hi)))
  have n0_ := A_ (blk_drew BK403.out)
  have n1_ := A_ (below_drew1 HB.out)
  clear BK403
  clear HB
  have BK403 := n0_
  have HB := n1_
  clear n0_ n1_
  refine start_ (n := 7) (S := fun w' => w'.cell? ⟨gb403, 0, none⟩ = some (.slice A0_0 l0_0.length c0_0) ∧ w'.cell? ⟨gb403, 1, none⟩ = some (.int .i16 a0_1) ∧ w'.cell? ⟨gb403, 2, none⟩ = some (.int .i16 a0_2) ∧ w'.cell? ⟨gb403, 3, none⟩ = some (.int .i16 a0_3) ∧ w'.cell? ⟨gb403, 4, none⟩ = some (.int .i16 a0_4) ∧ w'.cell? ⟨gb403, 5, none⟩ = some (.bool a0_5)) (ds := []) #[false, false, false, false, false, false, false] (by kernel_rfl) rfl rfl ⟨(blk_cell BK403.out 0).trans rfl, (blk_cell BK403.out 1).trans rfl, (blk_cell BK403.out 2).trans rfl, (blk_cell BK403.out 3).trans rfl, (blk_cell BK403.out 4).trans rfl, (blk_cell BK403.out 5).trans rfl⟩ (fun hHeld => ?_)
  generalize w10.drew = w11 at BK403 HB hHeld ⊢
  refine pure_ (i := 0) (N := some 8) (v := ?_) (a' := ?_) #[true, false, false, false, false, false, false] rfl rfl (by kernel_rfl) (fun _ _ _ h => h) (Or.inl ⟨by rfl, ?_⟩) ?_ ?_
  rotate_left
  ·intro w'
   go_simp
   with_reducible rfl
  rotate_left
  ·simp only [Act.put, List.setIfInBounds_toArray, List.set_cons_zero, List.set_cons_succ, i64_w, i32_w]
   rfl
  refine take_ (i := 2) (N := some 10) (v := ?_) (a' := ?_) #[true, false, true, false, false, false, false] rfl rfl (by kernel_rfl) (fun _ _ _ h => h) (Or.inl ⟨by rfl, ?_⟩) hHeld ?_ ?_
  rotate_left
  ·rintro w' ⟨s0, s1, s2, s3, s4, s5⟩
   go_simp
   with_reducible rfl
  rotate_left
  ·simp only [Act.put, List.setIfInBounds_toArray, List.set_cons_zero, List.set_cons_succ, i64_w, i32_w]
   rfl
  refine one_ (i := 1) (N := some 9) #[true, true, true, false, false, false, false] rfl rfl (by kernel_rfl) (by decide) (fun K hK => ?_)
  refine goes_ Try.func69 (by kernel_rfl) rfl #[.slice A1 l1.length c1] (by rfl) rfl rfl arg_ ?_
  with_reducible refine (impl_size_int16.calls _ _ l1 t405 _ ?side1 ?side2 A5.out).mono ?_
  (case side1 => repeat (first | exact (Kd.C_below HR1.out HB.out) | (with_reducible refine Kd.C_alloc ?_ _) | (with_reducible refine Kd.C_drewN ?_ _) | (with_reducible refine Kd.C_drew ?_)))
  (case side2 => exact HC1.out)
  rintro e w' ⟨rfl, ⟨nd, rfl⟩⟩
  refine ⟨_, rfl, ?_⟩
  refine hK.out _ _ ⟨(blk_cell BK403.out 0).trans rfl, (blk_cell BK403.out 1).trans rfl, (blk_cell BK403.out 2).trans rfl, (blk_cell BK403.out 3).trans rfl, (blk_cell BK403.out 4).trans rfl, (blk_cell BK403.out 5).trans rfl⟩ (fun hHeld => ?_)
  clear hK K
  refine norm_ (a' := ?_) ?_ ?_
  rotate_left
  ·show Act.put _ (some 9) _ = _
   simp only [Act.put, List.setIfInBounds_toArray, List.set_cons_zero, List.set_cons_succ, i64_w, i32_w]
   rfl
  refine one_ (i := 3) (N := some 11) #[true, true, true, true, false, false, false] rfl rfl (by kernel_rfl) (by decide) (fun K hK => ?_)
  refine goes_ Try.func65 (by kernel_rfl) rfl #[.agg #[.slice A0_0 l0_0.length c0_0, .int .i16 a0_1, .int .i16 a0_2, .int .i16 a0_3, .int .i16 a0_4, .bool a0_5]] (by rfl) rfl rfl arg_ ?_
  with_reducible refine (impl_Puzzle_states.calls k _ _ l0_0 a0_1 a0_2 a0_3 a0_4 a0_5 t406 _ ?side1 ?side2 A6.out).mono ?_
  (case side1 => repeat (first | exact (Kd.C_below HR0_0.out (bl_ HB)) | (with_reducible refine Kd.C_alloc ?_ _) | (with_reducible refine Kd.C_drewN ?_ _) | (with_reducible refine Kd.C_drew ?_)))
  (case side2 => exact HC0_0.out)
  rintro e w12 ⟨rfl, hb⟩
  refine ⟨_, rfl, ?_⟩
  have n0_ := A_ (blk_below (pl_ BK403) hb)
  have n1_ := A_ (below_step (bl_ HB) hb)
  clear BK403
  clear HB
  have BK403 := n0_
  have HB := n1_
  clear n0_ n1_
  (try clear hb)
  (try clear hb2)
  (try clear hk)
  (try clear hi)
  refine hK.out _ _ ⟨(blk_cell BK403.out 0).trans rfl, (blk_cell BK403.out 1).trans rfl, (blk_cell BK403.out 2).trans rfl, (blk_cell BK403.out 3).trans rfl, (blk_cell BK403.out 4).trans rfl, (blk_cell BK403.out 5).trans rfl⟩ (fun hHeld => ?_)
  clear hK K
  refine norm_ (a' := ?_) ?_ ?_
  rotate_left
  ·show Act.put _ (some 11) _ = _
   simp only [Act.put, List.setIfInBounds_toArray, List.set_cons_zero, List.set_cons_succ, i64_w, i32_w]
   rfl
  refine pure_ (i := 4) (N := some 12) (v := ?_) (a' := ?_) #[true, true, true, true, true, false, false] rfl rfl (by kernel_rfl) (fun _ _ _ h => h) (Or.inl ⟨by rfl, ?_⟩) ?_ ?_
  rotate_left
  ·intro w'
   go_simp
   with_reducible rfl
  rotate_left
  ·simp only [Act.put, List.setIfInBounds_toArray, List.set_cons_zero, List.set_cons_succ, i64_w, i32_w]
   rfl
  refine one_ (i := 5) (N := some 13) #[true, true, true, true, true, true, false] rfl rfl (by kernel_rfl) (by decide) (fun K hK => ?_)
  refine goes_ Try.func91 (by kernel_rfl) rfl #[.bool (t405 == t406), .int .i64 2] (by rfl) rfl rfl arg_ ?_
  with_reducible refine (impl_unless.calls (t405 == t406) 2 t407 _ A7.out).mono ?_
  rintro e w' ⟨rfl, ⟨nd, rfl⟩⟩
  refine ⟨_, rfl, ?_⟩
  refine hK.out _ _ ⟨(blk_cell BK403.out 0).trans rfl, (blk_cell BK403.out 1).trans rfl, (blk_cell BK403.out 2).trans rfl, (blk_cell BK403.out 3).trans rfl, (blk_cell BK403.out 4).trans rfl, (blk_cell BK403.out 5).trans rfl⟩ (fun hHeld => ?_)
  clear hK K
  refine norm_ (a' := ?_) ?_ ?_
  rotate_left
  ·show Act.put _ (some 13) _ = _
   simp only [Act.put, List.setIfInBounds_toArray, List.set_cons_zero, List.set_cons_succ, i64_w, i32_w]
   rfl
  refine pure_ (i := 6) (N := some 4) (v := ?_) (a' := ?_) #[true, true, true, true, true, true, true] rfl rfl (by kernel_rfl) (fun _ _ _ h => h) (Or.inl ⟨by rfl, ?_⟩) ?_ ?_
  rotate_left
  ·intro w'
   go_simp
   with_reducible rfl
  rotate_left
  ·simp only [Act.put, List.setIfInBounds_toArray, List.set_cons_zero, List.set_cons_succ, i64_w, i32_w]
   rfl
  refine done_ (by kernel_rfl) ?_
  try go_wp2
  go_ret
  exact ⟨by first | rfl | (simp [errW_none, errW_some] <;> rfl) | (simp [*, errW_none, errW_some] <;> rfl), bl_ HB⟩
 ·replace c4 := Bool.eq_false_iff.mpr c4
  subst c4
  have H1 : (some 1) = some r := by rw [if_neg (show ¬ (false = true) by decide)] at H; exact H
  clear H
  have H := H1
  clear H1
  obtain rfl := Option.some.inj H
  go_enter Try.func62, Try.ntmps62
  go_wp2_with (first | ((with_reducible refine gate_dst (N := 2) rfl ?_); refine box_event ?hg (N := 2) ?hd (cs := #[.slice A0_0 l0_0.length c0_0, .int .i16 a0_1, .int .i16 a0_2, .int .i16 a0_3, .int .i16 a0_4, .bool a0_5]) (t := 32) ?hr ?_; (case hd => rfl); (case hg => rfl); (case hr => first | (go_simp; done) | (go_simp; rfl)); intro gb403 hg w13 hbox hb; have n0_ := A_ (below_step (bl_ HB) hb); have n1_ := A_ (hbox); have n2_ := A_ ((by rw [hg]; exact (below_size (bl_ HB)) : w.heap.size ≤ gb403)); have n3_ := n2_; clear HB; have HB := n0_; have BK403 := n1_; have GW403 := n2_; have GE403 := n3_; clear n0_ n1_ n2_ n3_; clear hb hbox hg; have hcz14_0 : w13.cell? ⟨gb403, 0, none⟩ = some (.slice A0_0 l0_0.length c0_0) := (blk_cell BK403.out 0).trans rfl; have hcz14_1 : w13.cell? ⟨gb403, 1, none⟩ = some (.int .i16 a0_1) := (blk_cell BK403.out 1).trans rfl; have hcz14_2 : w13.cell? ⟨gb403, 2, none⟩ = some (.int .i16 a0_2) := (blk_cell BK403.out 2).trans rfl; have hcz14_3 : w13.cell? ⟨gb403, 3, none⟩ = some (.int .i16 a0_3) := (blk_cell BK403.out 3).trans rfl; have hcz14_4 : w13.cell? ⟨gb403, 4, none⟩ = some (.int .i16 a0_4) := (blk_cell BK403.out 4).trans rfl; have hcz14_5 : w13.cell? ⟨gb403, 5, none⟩ = some (.bool a0_5) := (blk_cell BK403.out 5).trans rfl; have hfz14_0 := blk_frozen BK403.out 0; have hfz14_1 := blk_frozen BK403.out 1; have hfz14_2 := blk_frozen BK403.out 2; have hfz14_3 := blk_frozen BK403.out 3; have hfz14_4 := blk_frozen BK403.out 4; have hfz14_5 := blk_frozen BK403.out 5) | ((with_reducible refine gate_callee (f := 24) rfl ?_); refine goesL_ (some 6) rfl rfl Try.func24 (by kernel_rfl) rfl #[.agg #[.slice A0_0 l0_0.length c0_0, .int .i16 a0_1, .int .i16 a0_2, .int .i16 a0_3, .int .i16 a0_4, .bool a0_5]] rfl arg_ ?_; (with_reducible refine (impl_ValidPuzzle.calls k _ _ l0_0 a0_1 a0_2 a0_3 a0_4 a0_5 false _ ?side1 ?side2 A3.out).mono ?_); (case side1 => repeat (first | exact (Kd.C_below HR0_0.out HB.out) | (with_reducible refine Kd.C_alloc ?_ _) | (with_reducible refine Kd.C_drewN ?_ _) | (with_reducible refine Kd.C_drew ?_))); (case side2 => exact HC0_0.out); rintro e w15 ⟨rfl, hb⟩; refine ⟨_, rfl, ?_⟩; have n0_ := A_ (blk_below (pl_ BK403) hb); have n1_ := A_ (below_step (bl_ HB) hb); clear BK403; clear HB; have BK403 := n0_; have HB := n1_; clear n0_ n1_; (try clear hb); (try clear hb2); (try clear hk); (try clear hi)))
  go_ret
  exact ⟨by first | rfl | (simp [errW_none, errW_some] <;> rfl) | (simp [*, errW_none, errW_some] <;> rfl), bl_ HB⟩

/-! ### impl_Puzzle_at: function 67 -/
def impl_Puzzle_at.l0 : Nat → Int → List Int → Int → Int → Int → Int → Int → Int → Option (Int × Int × Int × Int)
 | 0, _, _, _, _, _, _, _, _ => none
 | k + 1, x1, x10, x11, x12, x411000, x411001, x411002, x411003 => if x12 < x11 then (if 0 ≤ x12 then (if x12 < (x10.length : Int) then (if (wrap64 ((wrap64 (rd x10 x12)) + 1)) = 0 then (none) else (if x12 < 4 then (impl_Puzzle_at.l0 k (wrap64 (Int.tdiv x1 (wrap64 ((wrap64 (rd x10 x12)) + 1)))) x10 x11 (wrap64 (x12 + 1)) (aup x12 0 (IntKind.i16.wrap (Int.tmod x1 (wrap64 ((wrap64 (rd x10 x12)) + 1)))) x411000) (aup x12 1 (IntKind.i16.wrap (Int.tmod x1 (wrap64 ((wrap64 (rd x10 x12)) + 1)))) x411001) (aup x12 2 (IntKind.i16.wrap (Int.tmod x1 (wrap64 ((wrap64 (rd x10 x12)) + 1)))) x411002) (aup x12 3 (IntKind.i16.wrap (Int.tmod x1 (wrap64 ((wrap64 (rd x10 x12)) + 1)))) x411003)) else (none))) else (none)) else (none)) else (some (x411000, x411001, x411002, x411003))
def impl_Puzzle_at.f (k : Nat) (l0_0 : List Int) (a0_1 : Int) (a0_2 : Int) (a0_3 : Int) (a0_4 : Int) (a0_5 : Bool) (a1 : Int) : Option (Int × Int × Int × Int) := impl_Puzzle_at.l0 k a1 l0_0 (l0_0.length : Int) 0 0 0 0 0
theorem impl_Puzzle_at.mono_l : ∀ k, (∀ y0 y1 y2 y3 y4 y5 y6 y7, LeO (impl_Puzzle_at.l0 k y0 y1 y2 y3 y4 y5 y6 y7) (impl_Puzzle_at.l0 (k + 1) y0 y1 y2 y3 y4 y5 y6 y7))
 | 0 => fun _ _ _ _ _ _ _ _ r h => by simp [impl_Puzzle_at.l0] at h
 | k + 1 => by
  have ih0 := impl_Puzzle_at.mono_l k
  ·intro y0 y1 y2 y3 y4 y5 y6 y7
   unfold impl_Puzzle_at.l0
   repeat' first
   | (with_reducible exact ih0 _ _ _ _ _ _ _ _)
   | (with_reducible exact LeO.refl _)
   | (with_reducible exact LeO.none _)
   | (with_reducible refine LeO.ite ?_ ?_)
   | (with_reducible refine LeO.bind ?_ (fun _ => ?_))
   | exact ih0 _ _ _ _ _ _ _ _
   | exact LeO.none _
   | refine LeO.ite ?_ ?_
   | refine LeO.bind ?_ (fun _ => ?_)
theorem impl_Puzzle_at.mono : ∀ a0 a1 a2 a3 a4 a5 a6 k, LeO (impl_Puzzle_at.f k a0 a1 a2 a3 a4 a5 a6) (impl_Puzzle_at.f (k + 1) a0 a1 a2 a3 a4 a5 a6) := by
 intro a0 a1 a2 a3 a4 a5 a6 k
 have ih0 := impl_Puzzle_at.mono_l k
 unfold impl_Puzzle_at.f
 repeat' first
   | (with_reducible exact ih0 _ _ _ _ _ _ _ _)
   | (with_reducible exact LeO.refl _)
   | (with_reducible exact LeO.none _)
   | (with_reducible refine LeO.ite ?_ ?_)
   | (with_reducible refine LeO.bind ?_ (fun _ => ?_))
   | exact ih0 _ _ _ _ _ _ _ _
   | exact LeO.none _
   | refine LeO.ite ?_ ?_
   | refine LeO.bind ?_ (fun _ => ?_)
set_option maxHeartbeats 8000000 in
set_option maxRecDepth 100000 in
theorem impl_Puzzle_at.calls (k : Nat) (A0_0 : Option Addr) (c0_0 : Nat) (l0_0 : List Int) (a0_1 : Int) (a0_2 : Int) (a0_3 : Int) (a0_4 : Int) (a0_5 : Bool) (a1 : Int) (r1 : Int) (r2 : Int) (r3 : Int) (r4 : Int) (w : World) (hr0_0 : Kd.C (Kd.int .i16) w A0_0 l0_0.length l0_0) (hc0_0 : l0_0.length ≤ c0_0) (h : impl_Puzzle_at.f k l0_0 a0_1 a0_2 a0_3 a0_4 a0_5 a1 = some (r1, r2, r3, r4)) :
  Calls Try.prog 67 #[.agg #[.slice A0_0 l0_0.length c0_0, .int .i16 a0_1, .int .i16 a0_2, .int .i16 a0_3, .int .i16 a0_4, .bool a0_5], .int .i64 a1] w fun e w' => e = .returned (.agg #[.int .i16 r1, .int .i16 r2, .int .i16 r3, .int .i16 r4]) ∧ Below w.heap.size w w' := by
 have hu32 := Try.underlying32
 have hu30 := Try.underlying30
 have HR0_0 := Aside0.mk hr0_0
 have HC0_0 := Aside0.mk hc0_0
 clear hr0_0 hc0_0
 have HB := A_ (Below.refl w.heap.size w)
 have H : (impl_Puzzle_at.l0 k a1 l0_0 (l0_0.length : Int) 0 0 0 0 0) = some (r1, r2, r3, r4) := h
 clear h
 have H' := Aside0.mk H
 clear H
 go_enter Try.func67, Try.ntmps67
 go_wp2_with (first | ((with_reducible refine gate_dst (N := 2) rfl ?_); refine box_event ?hg (N := 2) ?hd (cs := #[.slice A0_0 l0_0.length c0_0, .int .i16 a0_1, .int .i16 a0_2, .int .i16 a0_3, .int .i16 a0_4, .bool a0_5]) (t := 32) ?hr ?_; (case hd => rfl); (case hg => rfl); (case hr => first | (go_simp; done) | (go_simp; rfl)); intro gb408 hg w3 hbox hb; have n0_ := A_ (below_step (bl_ HB) hb); have n1_ := A_ (hbox); have n2_ := A_ ((by rw [hg]; exact (below_size (bl_ HB)) : w.heap.size ≤ gb408)); have n3_ := n2_; clear HB; have HB := n0_; have BK408 := n1_; have GW408 := n2_; have GE408 := n3_; clear n0_ n1_ n2_ n3_; clear hb hbox hg) | ((with_reducible refine gate_dst (N := 4) rfl ?_); refine box_event ?hg (N := 4) ?hd (cs := #[.int .i16 0, .int .i16 0, .int .i16 0, .int .i16 0]) (t := 30) ?hr ?_; (case hd => rfl); (case hg => rfl); (case hr => first | (go_simp; done) | (go_simp; rfl)); intro gb409 hg w4 hbox hb; have n0_ := A_ (blk_below (pl_ BK408) hb); have n1_ := A_ (below_step (bl_ HB) hb); have n2_ := A_ (hbox); have n3_ := A_ ((by rw [hg]; exact (below_size (bl_ HB)) : w.heap.size ≤ gb409)); have n4_ := n3_; have n5_ := A_ ((by rw [hg]; exact Nat.ne_of_lt (blk_lt (pl_ BK408)) : gb408 ≠ gb409)); have n6_ := Aside0.mk n5_.out.symm; clear BK408; clear HB; have BK408 := n0_; have HB := n1_; have BK409 := n2_; have GW409 := n3_; have GE409 := n4_; have NB408_409 := n5_; have NB409_408 := n6_; clear n0_ n1_ n2_ n3_ n4_ n5_ n6_; clear hb hbox hg) | ((with_reducible refine gate_dst (N := 5) rfl ?_); refine box_event ?hg (N := 5) ?hd (cs := #[.int .i16 0, .int .i16 0, .int .i16 0, .int .i16 0]) (t := 30) ?hr ?_; (case hd => rfl); (case hg => rfl); (case hr => first | (go_simp; done) | (go_simp; rfl)); intro gb410 hg w5 hbox hb; have n0_ := A_ (blk_below (pl_ BK408) hb); have n1_ := A_ (blk_below (pl_ BK409) hb); have n2_ := A_ (below_step (bl_ HB) hb); have n3_ := A_ (hbox); have n4_ := A_ ((by rw [hg]; exact (below_size (bl_ HB)) : w.heap.size ≤ gb410)); have n5_ := n4_; have n6_ := A_ ((by rw [hg]; exact Nat.ne_of_lt (blk_lt (pl_ BK408)) : gb408 ≠ gb410)); have n7_ := Aside0.mk n6_.out.symm; have n8_ := A_ ((by rw [hg]; exact Nat.ne_of_lt (blk_lt (pl_ BK409)) : gb409 ≠ gb410)); have n9_ := Aside0.mk n8_.out.symm; clear BK408; clear BK409; clear HB; have BK408 := n0_; have BK409 := n1_; have HB := n2_; have BK410 := n3_; have GW410 := n4_; have GE410 := n5_; have NB408_410 := n6_; have NB410_408 := n7_; have NB409_410 := n8_; have NB410_409 := n9_; clear n0_ n1_ n2_ n3_ n4_ n5_ n6_ n7_ n8_ n9_; clear hb hbox hg; have hnb6 := NB410_408.out; have hnc6 := NB408_410.out; have hnb7 := NB410_409.out; have hnc7 := NB409_410.out; have hcz8_0 : w5.cell? ⟨gb410, 0, none⟩ = some (.int .i16 0) := (blk_cell BK410.out 0).trans rfl; have hcz8_1 : w5.cell? ⟨gb410, 1, none⟩ = some (.int .i16 0) := (blk_cell BK410.out 1).trans rfl; have hcz8_2 : w5.cell? ⟨gb410, 2, none⟩ = some (.int .i16 0) := (blk_cell BK410.out 2).trans rfl; have hcz8_3 : w5.cell? ⟨gb410, 3, none⟩ = some (.int .i16 0) := (blk_cell BK410.out 3).trans rfl; have hfz8_0 := blk_frozen BK410.out 0; have hfz8_1 := blk_frozen BK410.out 1; have hfz8_2 := blk_frozen BK410.out 2; have hfz8_3 := blk_frozen BK410.out 3; have hnb9 := NB408_409.out; have hnc9 := NB409_408.out; have hcz10_0 : w5.cell? ⟨gb408, 0, none⟩ = some (.slice A0_0 l0_0.length c0_0) := (blk_cell BK408.out 0).trans rfl; have hcz10_1 : w5.cell? ⟨gb408, 1, none⟩ = some (.int .i16 a0_1) := (blk_cell BK408.out 1).trans rfl; have hcz10_2 : w5.cell? ⟨gb408, 2, none⟩ = some (.int .i16 a0_2) := (blk_cell BK408.out 2).trans rfl; have hcz10_3 : w5.cell? ⟨gb408, 3, none⟩ = some (.int .i16 a0_3) := (blk_cell BK408.out 3).trans rfl; have hcz10_4 : w5.cell? ⟨gb408, 4, none⟩ = some (.int .i16 a0_4) := (blk_cell BK408.out 4).trans rfl; have hcz10_5 : w5.cell? ⟨gb408, 5, none⟩ = some (.bool a0_5) := (blk_cell BK408.out 5).trans rfl; have hfz10_0 := blk_frozen BK408.out 0; have hfz10_1 := blk_frozen BK408.out 1; have hfz10_2 := blk_frozen BK408.out 2; have hfz10_3 := blk_frozen BK408.out 3; have hfz10_4 := blk_frozen BK408.out 4; have hfz10_5 := blk_frozen BK408.out 5))
 go_loopg [1, 12] k (fun kq v1 v12 w' => ∃ (x1_1 : Int) (x12_1 : Int) (x411000_1 : Int) (x411001_1 : Int) (x411002_1 : Int) (x411003_1 : Int), v1 = .int .i64 x1_1 ∧ v12 = .int .i64 x12_1 ∧ Aside0 (impl_Puzzle_at.l0 kq x1_1 l0_0 (l0_0.length : Int) x12_1 x411000_1 x411001_1 x411002_1 x411003_1 = some (r1, r2, r3, r4)) ∧ Aside0 (kq ≤ k) ∧ Aside0 (w'.heap[gb408]? = some (.cells #[(.slice A0_0 l0_0.length c0_0), .int .i16 a0_1, .int .i16 a0_2, .int .i16 a0_3, .int .i16 a0_4, .bool a0_5] 32 (0, 0))) ∧ Aside0 (w'.heap[gb409]? = some (.cells #[.int .i16 0, .int .i16 0, .int .i16 0, .int .i16 0] 30 (0, 0))) ∧ Aside0 (w'.heap[gb410]? = some (.cells #[.int .i16 x411000_1, .int .i16 x411001_1, .int .i16 x411002_1, .int .i16 x411003_1] 30 (0, 0))) ∧ Aside0 (Below w.heap.size w w'))
 case atStart => exact ⟨(a1), (0), (0), (0), (0), (0), rs_, rs_, H', ⟨Nat.le_refl _⟩, ⟨pf_ BK408 NB408_410⟩, ⟨pf_ BK409 NB409_410⟩, ⟨by (with_reducible repeat (first | refine blk_drewN ?_ _ | refine blk_drew ?_ | refine blk_alloc ?_ _)); refine blk_put (cs := #[.int .i16 0, .int .i16 0, .int .i16 0, .int .i16 0]) ?_ 3 _ rfl; (with_reducible repeat (first | refine blk_drewN ?_ _ | refine blk_drew ?_ | refine blk_alloc ?_ _)); refine blk_put (cs := #[.int .i16 0, .int .i16 0, .int .i16 0, .int .i16 0]) ?_ 2 _ rfl; (with_reducible repeat (first | refine blk_drewN ?_ _ | refine blk_drew ?_ | refine blk_alloc ?_ _)); refine blk_put (cs := #[.int .i16 0, .int .i16 0, .int .i16 0, .int .i16 0]) ?_ 1 _ rfl; (with_reducible repeat (first | refine blk_drewN ?_ _ | refine blk_drew ?_ | refine blk_alloc ?_ _)); refine blk_put (cs := #[.int .i16 0, .int .i16 0, .int .i16 0, .int .i16 0]) ?_ 0 _ rfl; (with_reducible repeat (first | refine blk_drewN ?_ _ | refine blk_drew ?_ | refine blk_alloc ?_ _)); exact BK410.out⟩, ⟨bs_ HB GE410⟩⟩
 case round =>
  clear H'
  try clear p2
  try clear c6
  try clear c7
  try clear c9
  try clear hcz10_0
  try clear hcz10_1
  try clear hcz10_2
  try clear hcz10_3
  try clear hcz10_4
  try clear hcz10_5
  try clear hcz8_0
  try clear hcz8_1
  try clear hcz8_2
  try clear hcz8_3
  try clear hfz10_0
  try clear hfz10_1
  try clear hfz10_2
  try clear hfz10_3
  try clear hfz10_4
  try clear hfz10_5
  try clear hfz8_0
  try clear hfz8_1
  try clear hfz8_2
  try clear hfz8_3
  obtain ⟨x1_1, x12_1, x411000_1, x411001_1, x411002_1, x411003_1, rfl, rfl, HA, HK1, BK408, BK409, BK410, HB⟩ := hrel
  cases gk with
  | zero => exact absurd HA.out (by simp [impl_Puzzle_at.l0])
  | succ k1 =>
   have H := HA.out
   clear HA
   simp only [impl_Puzzle_at.l0] at H
   by_cases c11 : x12_1 < (l0_0.length : Int)
   ·rw [if_pos c11] at H
    have c11b0 : decide (x12_1 < (l0_0.length : Int)) = true := decide_eq_true c11
    clear c11
    by_cases c12 : 0 ≤ x12_1
    ·rw [if_pos c12] at H
     have c12b0 : decide (0 ≤ x12_1) = true := decide_eq_true c12
     clear c12
     by_cases c13 : x12_1 < (l0_0.length : Int)
     ·rw [if_pos c13] at H
      have c13b0 : decide (x12_1 < (l0_0.length : Int)) = true := decide_eq_true c13
      clear c13
      by_cases c14 : (wrap64 ((wrap64 (rd l0_0 x12_1)) + 1)) = 0
      ·rw [if_pos c14] at H
       exact absurd H (by simp)
      ·rw [if_neg c14] at H
       have c14b0 : ((wrap64 ((wrap64 (rd l0_0 x12_1)) + 1)) == 0) = false := beq_eq_false_iff_ne.mpr c14
       have c14b1 : ((wrap64 ((wrap64 (rd l0_0 x12_1)) + 1)) != 0) = true := bne_iff_ne.mpr c14
       by_cases c15 : x12_1 < 4
       ·rw [if_pos c15] at H
        have c15b0 : decide (x12_1 < 4) = true := decide_eq_true c15
        clear c15
        have H' := Aside0.mk H
        clear H
        have p411 : 0 ≤ (x12_1 : Int) := asm_
        have q411 : x12_1 < (l0_0.length : Int) := asm_
        obtain ⟨ad411, e411, hx411_0⟩ := Kd.at_int HR0_0.out x12_1 p411 q411
        cases e411
        (try replace hx411_0 := (HB.out.cell (World.block_lt_of_cell? w _ hx411_0)).trans hx411_0)
        replace p411 := eq_true p411
        replace q411 := eq_true q411
        have hnb18 := NB410_408.out
        have hnc18 := NB408_410.out
        have hnb19 := NB410_409.out
        have hnc19 := NB409_410.out
        have hcz20_0 : wr.cell? ⟨gb410, 0, none⟩ = some (.int .i16 x411000_1) := (blk_cell BK410.out 0).trans rfl
        have hcz20_1 : wr.cell? ⟨gb410, 1, none⟩ = some (.int .i16 x411001_1) := (blk_cell BK410.out 1).trans rfl
        have hcz20_2 : wr.cell? ⟨gb410, 2, none⟩ = some (.int .i16 x411002_1) := (blk_cell BK410.out 2).trans rfl
        have hcz20_3 : wr.cell? ⟨gb410, 3, none⟩ = some (.int .i16 x411003_1) := (blk_cell BK410.out 3).trans rfl
        have hfz20_0 := blk_frozen BK410.out 0
        have hfz20_1 := blk_frozen BK410.out 1
        have hfz20_2 := blk_frozen BK410.out 2
        have hfz20_3 := blk_frozen BK410.out 3
        have p16 : 0 ≤ (x12_1 : Int) := asm_
        have q16 : (x12_1 : Int) < 4 := asm_
        have hx16 : wr.cell? ⟨gb410, (x12_1 : Int).toNat, none⟩ = some (.int .i16 (rd [x411000_1, x411001_1, x411002_1, x411003_1] x12_1)) := ard_cell (k := .i16) (l := [x411000_1, x411001_1, x411002_1, x411003_1]) BK410.out p16 q16
        have hf16 := blk_frozen BK410.out (x12_1 : Int).toNat
        have P16 := Aside0.mk p16
        have Q16 := Aside0.mk q16
        replace p16 := eq_true p16
        replace q16 := eq_true q16
        go_wp2_with (first | ((with_reducible refine gate_store (t := 23) (p := 24) rfl ?_); refine store_event (t := 23) (p := 24) (v := ?vo_w22) (w1 := (wr.setCell ⟨gb410, (x12_1 : Int).toNat, none⟩ (.int .i16 (IntKind.i16.wrap (Int.tmod x1_1 (wrap64 ((wrap64 (rd l0_0 x12_1)) + 1))))))) ?hg ?ho ?hn ?hr ?_; (case ho => rfl); (case hg => rfl); (case hn => rfl); (case hr => first | (go_simp; done) | (go_simp; rfl)); intro w22 hw; have n0_ : Aside0 (w22.heap[gb408]? = some (.cells #[.slice (some ad411) l0_0.length c0_0, .int .i16 a0_1, .int .i16 a0_2, .int .i16 a0_3, .int .i16 a0_4, .bool a0_5] 32 (0, 0))) := ⟨(by rw [hw]; exact (pf_ BK408 NB408_410))⟩; have n1_ : Aside0 (w22.heap[gb409]? = some (.cells #[.int .i16 0, .int .i16 0, .int .i16 0, .int .i16 0] 30 (0, 0))) := ⟨(by rw [hw]; exact (pf_ BK409 NB409_410))⟩; have n2_ : Aside0 (w22.heap[gb410]? = some (.cells #[.int .i16 (aup x12_1 0 (IntKind.i16.wrap (Int.tmod x1_1 (wrap64 ((wrap64 (rd l0_0 x12_1)) + 1)))) x411000_1), .int .i16 (aup x12_1 1 (IntKind.i16.wrap (Int.tmod x1_1 (wrap64 ((wrap64 (rd l0_0 x12_1)) + 1)))) x411001_1), .int .i16 (aup x12_1 2 (IntKind.i16.wrap (Int.tmod x1_1 (wrap64 ((wrap64 (rd l0_0 x12_1)) + 1)))) x411002_1), .int .i16 (aup x12_1 3 (IntKind.i16.wrap (Int.tmod x1_1 (wrap64 ((wrap64 (rd l0_0 x12_1)) + 1)))) x411003_1)] 30 (0, 0))) := ⟨(by rw [hw]; exact (by (with_reducible repeat (first | refine blk_drewN ?_ _ | refine blk_drew ?_ | refine blk_alloc ?_ _)); refine blk_put (cs := #[.int .i16 x411000_1, .int .i16 x411001_1, .int .i16 x411002_1, .int .i16 x411003_1]) ?_ (x12_1 : Int).toNat _ (ups_set (k := .i16) (l := [x411000_1, x411001_1, x411002_1, x411003_1]) P16.out); (with_reducible repeat (first | refine blk_drewN ?_ _ | refine blk_drew ?_ | refine blk_alloc ?_ _)); exact BK410.out))⟩; have n3_ : Aside0 (Below w.heap.size w w22) := ⟨(by rw [hw]; exact (bs_ HB GE410))⟩; clear hw; clear BK408; clear BK409; clear BK410; clear HB; have BK408 := n0_; have BK409 := n1_; have BK410 := n2_; have HB := n3_; clear n0_ n1_ n2_ n3_))
        go_roundg k1
        case measure => have := HK1.out; omega
        case rel => exact ⟨(wrap64 (Int.tdiv x1_1 (wrap64 ((wrap64 (rd l0_0 x12_1)) + 1)))), (wrap64 (x12_1 + 1)), (aup x12_1 0 (IntKind.i16.wrap (Int.tmod x1_1 (wrap64 ((wrap64 (rd l0_0 x12_1)) + 1)))) x411000_1), (aup x12_1 1 (IntKind.i16.wrap (Int.tmod x1_1 (wrap64 ((wrap64 (rd l0_0 x12_1)) + 1)))) x411001_1), (aup x12_1 2 (IntKind.i16.wrap (Int.tmod x1_1 (wrap64 ((wrap64 (rd l0_0 x12_1)) + 1)))) x411002_1), (aup x12_1 3 (IntKind.i16.wrap (Int.tmod x1_1 (wrap64 ((wrap64 (rd l0_0 x12_1)) + 1)))) x411003_1), rs_, rs_, H', ⟨by have := HK1.out; omega⟩, ⟨pl_ BK408⟩, ⟨pl_ BK409⟩, ⟨pl_ BK410⟩, ⟨bl_ HB⟩⟩
       ·rw [if_neg c15] at H
        exact absurd H (by simp)
     ·rw [if_neg c13] at H
      exact absurd H (by simp)
    ·rw [if_neg c12] at H
     exact absurd H (by simp)
   ·rw [if_neg c11] at H
    have c11b0 : decide (x12_1 < (l0_0.length : Int)) = false := decide_eq_false c11
    clear c11
    simp only [Option.some.injEq, Prod.mk.injEq] at H
    obtain ⟨rfl, rfl, rfl, rfl⟩ := H
    have hnb23 := NB410_408.out
    have hnc23 := NB408_410.out
    have hnb24 := NB410_409.out
    have hnc24 := NB409_410.out
    have hcz25_0 : wr.cell? ⟨gb410, 0, none⟩ = some (.int .i16 x411000_1) := (blk_cell BK410.out 0).trans rfl
    have hcz25_1 : wr.cell? ⟨gb410, 1, none⟩ = some (.int .i16 x411001_1) := (blk_cell BK410.out 1).trans rfl
    have hcz25_2 : wr.cell? ⟨gb410, 2, none⟩ = some (.int .i16 x411002_1) := (blk_cell BK410.out 2).trans rfl
    have hcz25_3 : wr.cell? ⟨gb410, 3, none⟩ = some (.int .i16 x411003_1) := (blk_cell BK410.out 3).trans rfl
    have hfz25_0 := blk_frozen BK410.out 0
    have hfz25_1 := blk_frozen BK410.out 1
    have hfz25_2 := blk_frozen BK410.out 2
    have hfz25_3 := blk_frozen BK410.out 3
    have hnb26 := NB409_408.out
    have hnc26 := NB408_409.out
    have hcz27_0 : wr.cell? ⟨gb409, 0, none⟩ = some (.int .i16 0) := (blk_cell BK409.out 0).trans rfl
    have hcz27_1 : wr.cell? ⟨gb409, 1, none⟩ = some (.int .i16 0) := (blk_cell BK409.out 1).trans rfl
    have hcz27_2 : wr.cell? ⟨gb409, 2, none⟩ = some (.int .i16 0) := (blk_cell BK409.out 2).trans rfl
    have hcz27_3 : wr.cell? ⟨gb409, 3, none⟩ = some (.int .i16 0) := (blk_cell BK409.out 3).trans rfl
    have hfz27_0 := blk_frozen BK409.out 0
    have hfz27_1 := blk_frozen BK409.out 1
    have hfz27_2 := blk_frozen BK409.out 2
    have hfz27_3 := blk_frozen BK409.out 3
    go_wp2
    refine bodyPost_ret (results_cell_row rfl _ _ gb409 30 #[.int .i16 x411000_1, .int .i16 x411001_1, .int .i16 x411002_1, .int .i16 x411003_1] (0, 0) _ rfl (by (with_reducible repeat (first | refine blk_drewN ?_ _ | refine blk_drew ?_ | refine blk_alloc ?_ _)); refine blk_put (cs := #[.int .i16 x411000_1, .int .i16 x411001_1, .int .i16 x411002_1, .int .i16 0]) ?_ 3 _ rfl; (with_reducible repeat (first | refine blk_drewN ?_ _ | refine blk_drew ?_ | refine blk_alloc ?_ _)); refine blk_put (cs := #[.int .i16 x411000_1, .int .i16 x411001_1, .int .i16 0, .int .i16 0]) ?_ 2 _ rfl; (with_reducible repeat (first | refine blk_drewN ?_ _ | refine blk_drew ?_ | refine blk_alloc ?_ _)); refine blk_put (cs := #[.int .i16 x411000_1, .int .i16 0, .int .i16 0, .int .i16 0]) ?_ 1 _ rfl; (with_reducible repeat (first | refine blk_drewN ?_ _ | refine blk_drew ?_ | refine blk_alloc ?_ _)); refine blk_put (cs := #[.int .i16 0, .int .i16 0, .int .i16 0, .int .i16 0]) ?_ 0 _ rfl; (with_reducible repeat (first | refine blk_drewN ?_ _ | refine blk_drew ?_ | refine blk_alloc ?_ _)); exact BK409.out) Try.underlying30 rfl (by kernel_rfl)) rfl ?_
    exact ⟨by first | rfl | (simp [errW_none, errW_some] <;> rfl) | (simp [*, errW_none, errW_some] <;> rfl), bs_ HB GE409⟩

end Go.Proofs.Ytodmfjophjhbeaa.M
