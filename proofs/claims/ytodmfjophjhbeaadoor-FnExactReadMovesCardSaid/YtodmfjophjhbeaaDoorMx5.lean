-- By this seat's own program over the kit's printer (arrays, functions told by hand); nothing of it is trusted: the kernel checks it.
import Derived.Test.YtodmfjophjhbeaaDoorMx0
import Derived.Test.YtodmfjophjhbeaaDoorMx4
namespace Go.Proofs.YtodmfjophjhbeaaDoor.M
open Go.RowKit Go.Proofs.YtodmfjophjhbeaaDoorW.PrintWords Go.Proofs.YtodmfjophjhbeaaDoorW.PrintLast Go.Proofs.YtodmfjophjhbeaaDoorW.PrintMore
attribute [local go_sem] max2_int min2_int max_two min_two max_three min_three max_four min_four   -- for this text's walks alone
set_option linter.unusedVariables false
set_option linter.unusedSimpArgs false

/-! ### impl_Move_text: function 47 -/
def impl_Move_text.j0 : Nat → Bool → Int → Int → Int → Option (ByteArray × Bool)
 | 0, _, _, _, _ => none
 | k + 1, x5, x146000, x146001, x146002 => if x5 = true then (some ((⟨#[]⟩ : ByteArray), false)) else (if x146000 = 0 then ((impl_letter.f x146001).bind fun t148 => (if t148.size + 1 ≤ 9223372036854775807 then ((impl_letter.f x146002).bind fun t149 => (if t148.size + 1 + t149.size ≤ 9223372036854775807 then (some ((t148 ++ (⟨#[62]⟩ : ByteArray)) ++ t149, true)) else (none))) else (none))) else (if x146002 = 0 then (if x146000 = 1 then ((impl_letter.f x146001).bind fun t150 => (if 1 + t150.size ≤ 9223372036854775807 then (some ((⟨#[43]⟩ : ByteArray) ++ t150, true)) else (none))) else (if x146000 = 2 then ((impl_letter.f x146001).bind fun t151 => (if 1 + t151.size ≤ 9223372036854775807 then (some ((⟨#[45]⟩ : ByteArray) ++ t151, true)) else (none))) else (some ((⟨#[]⟩ : ByteArray), false)))) else (some ((⟨#[]⟩ : ByteArray), false))))
def impl_Move_text.f (k : Nat) (a0_0 : Int) (a0_1 : Int) (a0_2 : Int) : Option (ByteArray × Bool) := (impl_Move_text_1_55.f a0_1).bind fun t146 => (if t146 = true then ((impl_Move_text_1_55.f a0_2).bind fun t147 => (impl_Move_text.j0 k (!t147) a0_0 a0_1 a0_2)) else (impl_Move_text.j0 k true a0_0 a0_1 a0_2))
theorem impl_Move_text.mono_l : ∀ k, (∀ y0 y1 y2 y3, LeO (impl_Move_text.j0 k y0 y1 y2 y3) (impl_Move_text.j0 (k + 1) y0 y1 y2 y3))
 | 0 => fun _ _ _ _ r h => by simp [impl_Move_text.j0] at h
 | k + 1 => by
  have ih0 := impl_Move_text.mono_l k
  ·intro y0 y1 y2 y3
   unfold impl_Move_text.j0
   repeat' first
   | (with_reducible exact ih0 _ _ _ _)
   | (with_reducible exact LeO.refl _)
   | (with_reducible exact LeO.none _)
   | (with_reducible refine LeO.ite ?_ ?_)
   | (with_reducible refine LeO.bind ?_ (fun _ => ?_))
   | exact ih0 _ _ _ _
   | exact LeO.none _
   | refine LeO.ite ?_ ?_
   | refine LeO.bind ?_ (fun _ => ?_)
theorem impl_Move_text.mono : ∀ a0 a1 a2 k, LeO (impl_Move_text.f k a0 a1 a2) (impl_Move_text.f (k + 1) a0 a1 a2) := by
 intro a0 a1 a2 k
 have ih0 := impl_Move_text.mono_l k
 unfold impl_Move_text.f
 repeat' first
   | (with_reducible exact ih0 _ _ _ _)
   | (with_reducible exact LeO.refl _)
   | (with_reducible exact LeO.none _)
   | (with_reducible refine LeO.ite ?_ ?_)
   | (with_reducible refine LeO.bind ?_ (fun _ => ?_))
   | exact ih0 _ _ _ _
   | exact LeO.none _
   | refine LeO.ite ?_ ?_
   | refine LeO.bind ?_ (fun _ => ?_)
def impl_Move_text.T5 : Bool × List (List Nat × List Nat) := (true, [([], []), ([0], [0]), ([1], [1]), ([2], [2]), ([], []), ([4], [4]), ([5, 2], [5]), ([3, 6], [3, 6]), ([7, 6, 0, 1, 2, 3, 4, 5, 6, 7], [7]), ([8, 0, 1, 2, 3, 4, 5, 6, 7, 8], [])])
def impl_Move_text.B5 : List Nat := [0, 1, 3, 7, 0, 16, 55, 127, 255, 511]
theorem impl_Move_text.tab5 : rtab .any (opsOf Tryd.f47 5) = impl_Move_text.T5 := by kernel_rfl
theorem impl_Move_text.bits5 : waitsOk impl_Move_text.T5.2 impl_Move_text.B5 = true := by kernel_rfl
set_option maxHeartbeats 8000000 in
set_option maxRecDepth 100000 in
theorem impl_Move_text.calls (k : Nat) (a0_0 : Int) (a0_1 : Int) (a0_2 : Int) (r1 : ByteArray) (r2 : Bool) (w : World) (h : impl_Move_text.f k a0_0 a0_1 a0_2 = some (r1, r2)) :
  Calls Tryd.prog 47 #[.agg #[.int .i8 a0_0, .int .i8 a0_1, .int .i8 a0_2]] w fun e w' => e = .returned (.tuple #[.string r1, .bool r2]) ∧ Below w.heap.size w w' := by
 have hu56 := Tryd.underlying56
 have HB := A_ (Below.refl w.heap.size w)
 have H : ((impl_Move_text_1_55.f a0_1).bind fun t146 => (if t146 = true then ((impl_Move_text_1_55.f a0_2).bind fun t147 => (impl_Move_text.j0 k (!t147) a0_0 a0_1 a0_2)) else (impl_Move_text.j0 k true a0_0 a0_1 a0_2))) = some (r1, r2) := h
 clear h
 have HC2 := Aside0.mk H
 clear H
 go_enter Tryd.func47, Tryd.ntmps47
 go_upto_region 2 with (first | ((with_reducible refine gate_dst (N := 1) rfl ?_); refine box_event ?hg (N := 1) ?hd (cs := #[.int .i8 a0_0, .int .i8 a0_1, .int .i8 a0_2]) (t := 56) ?hr ?_; (case hd => rfl); (case hg => rfl); (case hr => first | (go_simp; done) | (go_simp; rfl)); intro gb145 hg w3 hbox hb; have n0_ := A_ (below_step (bl_ HB) hb); have n1_ := A_ (hbox); have n2_ := A_ ((by rw [hg]; exact (below_size (bl_ HB)) : w.heap.size ≤ gb145)); have n3_ := n2_; clear HB; have HB := n0_; have BK145 := n1_; have GW145 := n2_; have GE145 := n3_; clear n0_ n1_ n2_ n3_; clear hb hbox hg))
 (try simp only [Act.put, List.setIfInBounds_toArray, List.set_cons_zero, List.set_cons_succ])
 go_cut [5] (fun v5 wc => ∃ (kq : Nat) (x5_1 : Bool), v5 = .bool x5_1 ∧ Aside0 (impl_Move_text.j0 kq x5_1 a0_0 a0_1 a0_2 = some (r1, r2)) ∧ Aside0 (kq ≤ k) ∧ Aside0 (wc.heap[gb145]? = some (.cells #[.int .i8 a0_0, .int .i8 a0_1, .int .i8 a0_2] 56 (0, 0))) ∧ Aside0 (Below w.heap.size w wc))
 case first =>
  have H := HC2.out
  clear HC2
  replace H := Option.bind_eq_some_iff.mp H
  obtain ⟨t146, A40, H⟩ := H
  replace H : (if t146 = true then ((impl_Move_text_1_55.f a0_2).bind fun t147 => (impl_Move_text.j0 k (!t147) a0_0 a0_1 a0_2)) else (impl_Move_text.j0 k true a0_0 a0_1 a0_2)) = some (r1, r2) := H
  have A4 := Aside0.mk A40
  clear A40
  by_cases c5 : t146 = true
  ·subst c5
   have H1 : ((impl_Move_text_1_55.f a0_2).bind fun t147 => (impl_Move_text.j0 k (!t147) a0_0 a0_1 a0_2)) = some (r1, r2) := by rw [if_pos rfl] at H; exact H
   clear H
   have H := H1
   clear H1
   replace H := Option.bind_eq_some_iff.mp H
   obtain ⟨t147, A60, H⟩ := H
   replace H : (impl_Move_text.j0 k (!t147) a0_0 a0_1 a0_2) = some (r1, r2) := H
   have A6 := Aside0.mk A60
   clear A60
   have H' := Aside0.mk H
   clear H
   obtain ⟨hcz7_0, hcz7_1, hcz7_2, hfz7_0, hfz7_1, hfz7_2⟩ := cl3_ BK145
   go_wp2_with (first | (go_at_call 55; (with_reducible refine (impl_Move_text_1_55.calls a0_1 true _ A4.out).mono ?_); rintro e w' ⟨rfl, ⟨nd, rfl⟩⟩) | (go_at_call 55; (with_reducible refine (impl_Move_text_1_55.calls a0_2 t147 _ A6.out).mono ?_); rintro e w' ⟨rfl, ⟨nd, rfl⟩⟩))
   go_meet
   case rel => exact ⟨_, (!t147), rs_, H', ⟨by first | omega | exact Nat.le_refl _⟩, ⟨pl_ BK145⟩, ⟨bl_ HB⟩⟩
  ·replace c5 := Bool.eq_false_iff.mpr c5
   subst c5
   have H1 : (impl_Move_text.j0 k true a0_0 a0_1 a0_2) = some (r1, r2) := by rw [if_neg (show ¬ (false = true) by decide)] at H; exact H
   clear H
   have H := H1
   clear H1
   have H' := Aside0.mk H
   clear H
   obtain ⟨hcz8_0, hcz8_1, hcz8_2, hfz8_0, hfz8_1, hfz8_2⟩ := cl3_ BK145
   go_wp2_with (first | (go_at_call 55; (with_reducible refine (impl_Move_text_1_55.calls a0_1 false _ A4.out).mono ?_); rintro e w' ⟨rfl, ⟨nd, rfl⟩⟩))
   go_meet
   case rel => exact ⟨_, (true), rs_, H', ⟨by first | omega | exact Nat.le_refl _⟩, ⟨pl_ BK145⟩, ⟨bl_ HB⟩⟩
 case rest =>
  clear HC2
  try clear p2
  try clear c4
  try clear c5
  try clear hcz7_0
  try clear hcz7_1
  try clear hcz7_2
  try clear hcz8_0
  try clear hcz8_1
  try clear hcz8_2
  try clear hfz7_0
  try clear hfz7_1
  try clear hfz7_2
  try clear hfz8_0
  try clear hfz8_1
  try clear hfz8_2
  obtain ⟨kq, x5_1, rfl, HA, HJ1, BK145, HB⟩ := hcut
  cases kq with
  | zero => exact absurd HA.out (by simp [impl_Move_text.j0])
  | succ kj1 =>
   have H := HA.out
   clear HA
   simp only [impl_Move_text.j0] at H
   by_cases c9 : x5_1 = true
   ·subst c9
    have H1 : (some ((⟨#[]⟩ : ByteArray), false)) = some (r1, r2) := by rw [if_pos rfl] at H; exact H
    clear H
    have H := H1
    clear H1
    simp only [Option.some.injEq, Prod.mk.injEq] at H
    obtain ⟨rfl, rfl⟩ := H
    go_wp2
    go_ret2
    exact ⟨by first | rfl | (simp [errW_none, errW_some] <;> rfl) | (simp [*, errW_none, errW_some] <;> rfl), bl_ HB⟩
   ·replace c9 := Bool.eq_false_iff.mpr c9
    subst c9
    have H1 : (if a0_0 = 0 then ((impl_letter.f a0_1).bind fun t148 => (if t148.size + 1 ≤ 9223372036854775807 then ((impl_letter.f a0_2).bind fun t149 => (if t148.size + 1 + t149.size ≤ 9223372036854775807 then (some ((t148 ++ (⟨#[62]⟩ : ByteArray)) ++ t149, true)) else (none))) else (none))) else (if a0_2 = 0 then (if a0_0 = 1 then ((impl_letter.f a0_1).bind fun t150 => (if 1 + t150.size ≤ 9223372036854775807 then (some ((⟨#[43]⟩ : ByteArray) ++ t150, true)) else (none))) else (if a0_0 = 2 then ((impl_letter.f a0_1).bind fun t151 => (if 1 + t151.size ≤ 9223372036854775807 then (some ((⟨#[45]⟩ : ByteArray) ++ t151, true)) else (none))) else (some ((⟨#[]⟩ : ByteArray), false)))) else (some ((⟨#[]⟩ : ByteArray), false)))) = some (r1, r2) := by rw [if_neg (show ¬ (false = true) by decide)] at H; exact H
    clear H
    have H := H1
    clear H1
    by_cases c10 : a0_0 = 0
    ·rw [if_pos c10] at H
     have c10b0 : (a0_0 == 0) = true := beq_iff_eq.mpr c10
     have c10b1 : (a0_0 != 0) = false := bne_eq_false_iff_eq.mpr c10
     clear c10
     replace H := Option.bind_eq_some_iff.mp H
     obtain ⟨t148, A110, H⟩ := H
     replace H : (if t148.size + 1 ≤ 9223372036854775807 then ((impl_letter.f a0_2).bind fun t149 => (if t148.size + 1 + t149.size ≤ 9223372036854775807 then (some ((t148 ++ (⟨#[62]⟩ : ByteArray)) ++ t149, true)) else (none))) else (none)) = some (r1, r2) := H
     have A11 := Aside0.mk A110
     clear A110
     by_cases c12 : t148.size + 1 ≤ 9223372036854775807
     ·rw [if_pos c12] at H
      have c12b0 := eq_true c12
      have c12b1 : decide (t148.size + 1 ≤ 9223372036854775807) = true := decide_eq_true c12
      try have c12b2 : (9223372036854775807 < t148.size + 1) = False := eq_false (Nat.not_lt.2 c12)
      replace H := Option.bind_eq_some_iff.mp H
      obtain ⟨t149, A130, H⟩ := H
      replace H : (if t148.size + 1 + t149.size ≤ 9223372036854775807 then (some ((t148 ++ (⟨#[62]⟩ : ByteArray)) ++ t149, true)) else (none)) = some (r1, r2) := H
      have A13 := Aside0.mk A130
      clear A130
      by_cases c14 : t148.size + 1 + t149.size ≤ 9223372036854775807
      ·rw [if_pos c14] at H
       have c14b0 := eq_true c14
       have c14b1 : decide (t148.size + 1 + t149.size ≤ 9223372036854775807) = true := decide_eq_true c14
       try have c14b2 : (9223372036854775807 < t148.size + 1 + t149.size) = False := eq_false (Nat.not_lt.2 c14)
       simp only [Option.some.injEq, Prod.mk.injEq] at H
       obtain ⟨rfl, rfl⟩ := H
       obtain ⟨hcz15_0, hcz15_1, hcz15_2, hfz15_0, hfz15_1, hfz15_2⟩ := cl3_ BK145
       try go_wp2
       have n0_ := A_ (blk_drew BK145.out)
       have n1_ := A_ (below_drew1 HB.out)
       clear BK145
       clear HB
       have BK145 := n0_
       have HB := n1_
       clear n0_ n1_
       refine start_ (n := 10) (S := fun w' => w'.cell? ⟨gb145, 0, none⟩ = some (.int .i8 a0_0) ∧ w'.cell? ⟨gb145, 1, none⟩ = some (.int .i8 a0_1) ∧ w'.cell? ⟨gb145, 2, none⟩ = some (.int .i8 a0_2)) (ds := []) #[false, false, false, false, false, false, false, false, false, false] (by kernel_rfl) rfl rfl ⟨(blk_cell BK145.out 0).trans rfl, (blk_cell BK145.out 1).trans rfl, (blk_cell BK145.out 2).trans rfl⟩ (fun hHeld => ?_); refine with_tabW impl_Move_text.tab5 impl_Move_text.bits5 (fun HT_ HW_ => ?_)
       generalize wc.drew = w16 at BK145 HB hHeld ⊢
       refine pure_ (i := 0) (N := some 22) (v := ?_) (a' := ?_) #[true, false, false, false, false, false, false, false, false, false] rfl rfl (any_of HT_.out (by kernel_rfl)) (fun _ _ _ h => h) (Or.inl ⟨by rfl, ?_⟩) ?_ ?_
       rotate_left
       ·intro w'
        go_simp
        with_reducible rfl
       rotate_left
       ·simp only [Act.put, sp_]
        rfl
       refine pure_ (i := 4) (N := some 26) (v := ?_) (a' := ?_) #[true, false, false, false, true, false, false, false, false, false] rfl rfl (any_of HT_.out (by kernel_rfl)) (fun _ _ _ h => h) (Or.inl ⟨by rfl, ?_⟩) ?_ ?_
       rotate_left
       ·intro w'
        go_simp
        with_reducible rfl
       rotate_left
       ·simp only [Act.put, sp_]
        rfl
       refine take_ (i := 1) (N := some 23) (v := ?_) (a' := ?_) #[true, true, false, false, true, false, false, false, false, false] rfl rfl (take_ofW HT_.out HW_.out (by kernel_rfl)) (fun _ _ _ h => h) (Or.inl ⟨by rfl, ?_⟩) hHeld ?_ ?_
       rotate_left
       ·rintro w' ⟨s0, s1, s2⟩
        go_simp
        with_reducible rfl
       rotate_left
       ·simp only [Act.put, sp_]
        rfl
       refine take_ (i := 5) (N := some 27) (v := ?_) (a' := ?_) #[true, true, false, false, true, true, false, false, false, false] rfl rfl (take_ofW HT_.out HW_.out (by kernel_rfl)) (fun _ _ _ h => h) (Or.inl ⟨by rfl, ?_⟩) hHeld ?_ ?_
       rotate_left
       ·rintro w' ⟨s0, s1, s2⟩
        go_simp
        with_reducible rfl
       rotate_left
       ·simp only [Act.put, sp_]
        rfl
       refine one_ (i := 2) (N := some 24) #[true, true, true, false, true, true, false, false, false, false] rfl rfl (one_of HT_.out (by kernel_rfl)) (by decide) (fun K hK => ?_)
       refine goes_ Tryd.func56 (by kernel_rfl) rfl #[.int .i8 a0_1] (by rfl) rfl rfl arg_ ?_
       with_reducible refine (impl_letter.calls a0_1 t148 _ A11.out).mono ?_
       rintro e w17 ⟨rfl, hb⟩
       refine ⟨_, rfl, ?_⟩
       have n0_ := A_ (blk_below (pl_ BK145) hb)
       have n1_ := A_ (below_step (bl_ HB) hb)
       clear BK145
       clear HB
       have BK145 := n0_
       have HB := n1_
       clear n0_ n1_
       (try clear hb)
       (try clear hb2)
       (try clear hk)
       (try clear hi)
       refine hK.out _ _ ⟨(blk_cell BK145.out 0).trans rfl, (blk_cell BK145.out 1).trans rfl, (blk_cell BK145.out 2).trans rfl⟩ (fun hHeld => ?_)
       clear hK K
       refine norm_ (a' := ?_) ?_ ?_
       rotate_left
       ·show Act.put _ (some 24) _ = _
        simp only [Act.put, sp_]
        rfl
       refine pure_ (i := 3) (N := some 25) (v := ?_) (a' := ?_) #[true, true, true, true, true, true, false, false, false, false] rfl rfl (any_of HT_.out (by kernel_rfl)) (fun _ _ _ h => h) (Or.inl ⟨by rfl, ?_⟩) ?_ ?_
       rotate_left
       ·intro w'
        go_simp
        with_reducible rfl
       rotate_left
       ·simp only [Act.put, sp_]
        rfl
       refine one_ (i := 6) (N := some 28) #[true, true, true, true, true, true, true, false, false, false] rfl rfl (one_of HT_.out (by kernel_rfl)) (by decide) (fun K hK => ?_)
       refine goes_ Tryd.func56 (by kernel_rfl) rfl #[.int .i8 a0_2] (by rfl) rfl rfl arg_ ?_
       with_reducible refine (impl_letter.calls a0_2 t149 _ A13.out).mono ?_
       rintro e w18 ⟨rfl, hb⟩
       refine ⟨_, rfl, ?_⟩
       have n0_ := A_ (blk_below (pl_ BK145) hb)
       have n1_ := A_ (below_step (bl_ HB) hb)
       clear BK145
       clear HB
       have BK145 := n0_
       have HB := n1_
       clear n0_ n1_
       (try clear hb)
       (try clear hb2)
       (try clear hk)
       (try clear hi)
       refine hK.out _ _ ⟨(blk_cell BK145.out 0).trans rfl, (blk_cell BK145.out 1).trans rfl, (blk_cell BK145.out 2).trans rfl⟩ (fun hHeld => ?_)
       clear hK K
       refine norm_ (a' := ?_) ?_ ?_
       rotate_left
       ·show Act.put _ (some 28) _ = _
        simp only [Act.put, sp_]
        rfl
       refine pure_ (i := 7) (N := some 29) (v := ?_) (a' := ?_) #[true, true, true, true, true, true, true, true, false, false] rfl rfl (any_of HT_.out (by kernel_rfl)) (fun _ _ _ h => h) (Or.inl ⟨by rfl, ?_⟩) ?_ ?_
       rotate_left
       ·intro w'
        go_simp
        with_reducible rfl
       rotate_left
       ·simp only [Act.put, sp_]
        rfl
       refine pure_ (i := 8) (N := some 2) (v := ?_) (a' := ?_) #[true, true, true, true, true, true, true, true, true, false] rfl rfl (any_of HT_.out (by kernel_rfl)) (fun _ _ _ h => h) (Or.inl ⟨by rfl, ?_⟩) ?_ ?_
       rotate_left
       ·intro w'
        go_simp
        with_reducible rfl
       rotate_left
       ·simp only [Act.put, sp_]
        rfl
       refine pure_ (i := 9) (N := some 3) (v := ?_) (a' := ?_) #[true, true, true, true, true, true, true, true, true, true] rfl rfl (any_of HT_.out (by kernel_rfl)) (fun _ _ _ h => h) (Or.inl ⟨by rfl, ?_⟩) ?_ ?_
       rotate_left
       ·intro w'
        go_simp
        with_reducible rfl
       rotate_left
       ·simp only [Act.put, sp_]
        rfl
       refine done_ (done_of HT_.out (by kernel_rfl)) ?_
       try go_wp2
       go_ret2
       exact ⟨by first | rfl | (simp [errW_none, errW_some] <;> rfl) | (simp [*, errW_none, errW_some] <;> rfl), bl_ HB⟩
      ·rw [if_neg c14] at H
       exact absurd H (by simp)
     ·rw [if_neg c12] at H
      exact absurd H (by simp)
    ·rw [if_neg c10] at H
     have c10b0 : (a0_0 == 0) = false := beq_eq_false_iff_ne.mpr c10
     have c10b1 : (a0_0 != 0) = true := bne_iff_ne.mpr c10
     by_cases c19 : a0_2 = 0
     ·rw [if_pos c19] at H
      have c19b0 : (a0_2 == 0) = true := beq_iff_eq.mpr c19
      have c19b1 : (a0_2 != 0) = false := bne_eq_false_iff_eq.mpr c19
      clear c19
      by_cases c20 : a0_0 = 1
      ·rw [if_pos c20] at H
       have c20b0 : (a0_0 == 1) = true := beq_iff_eq.mpr c20
       have c20b1 : (a0_0 != 1) = false := bne_eq_false_iff_eq.mpr c20
       clear c20
       replace H := Option.bind_eq_some_iff.mp H
       obtain ⟨t150, A210, H⟩ := H
       replace H : (if 1 + t150.size ≤ 9223372036854775807 then (some ((⟨#[43]⟩ : ByteArray) ++ t150, true)) else (none)) = some (r1, r2) := H
       have A21 := Aside0.mk A210
       clear A210
       by_cases c22 : 1 + t150.size ≤ 9223372036854775807
       ·rw [if_pos c22] at H
        have c22b0 := eq_true c22
        have c22b1 : decide (1 + t150.size ≤ 9223372036854775807) = true := decide_eq_true c22
        try have c22b2 : (9223372036854775807 < 1 + t150.size) = False := eq_false (Nat.not_lt.2 c22)
        simp only [Option.some.injEq, Prod.mk.injEq] at H
        obtain ⟨rfl, rfl⟩ := H
        obtain ⟨hcz23_0, hcz23_1, hcz23_2, hfz23_0, hfz23_1, hfz23_2⟩ := cl3_ BK145
        go_wp2_with (first | ((with_reducible refine gate_callee (f := 56) rfl ?_); refine goesL_ (some 40) rfl rfl Tryd.func56 (by kernel_rfl) rfl #[.int .i8 a0_1] rfl arg_ ?_; (with_reducible refine (impl_letter.calls a0_1 t150 _ A21.out).mono ?_); rintro e w24 ⟨rfl, hb⟩; refine ⟨_, rfl, ?_⟩; have n0_ := A_ (blk_below (pl_ BK145) hb); have n1_ := A_ (below_step (bl_ HB) hb); clear BK145; clear HB; have BK145 := n0_; have HB := n1_; clear n0_ n1_; (try clear hb); (try clear hb2); (try clear hk); (try clear hi)))
        go_ret2
        exact ⟨by first | rfl | (simp [errW_none, errW_some] <;> rfl) | (simp [*, errW_none, errW_some] <;> rfl), bl_ HB⟩
       ·rw [if_neg c22] at H
        exact absurd H (by simp)
      ·rw [if_neg c20] at H
       have c20b0 : (a0_0 == 1) = false := beq_eq_false_iff_ne.mpr c20
       have c20b1 : (a0_0 != 1) = true := bne_iff_ne.mpr c20
       by_cases c25 : a0_0 = 2
       ·rw [if_pos c25] at H
        have c25b0 : (a0_0 == 2) = true := beq_iff_eq.mpr c25
        have c25b1 : (a0_0 != 2) = false := bne_eq_false_iff_eq.mpr c25
        clear c25
        replace H := Option.bind_eq_some_iff.mp H
        obtain ⟨t151, A260, H⟩ := H
        replace H : (if 1 + t151.size ≤ 9223372036854775807 then (some ((⟨#[45]⟩ : ByteArray) ++ t151, true)) else (none)) = some (r1, r2) := H
        have A26 := Aside0.mk A260
        clear A260
        by_cases c27 : 1 + t151.size ≤ 9223372036854775807
        ·rw [if_pos c27] at H
         have c27b0 := eq_true c27
         have c27b1 : decide (1 + t151.size ≤ 9223372036854775807) = true := decide_eq_true c27
         try have c27b2 : (9223372036854775807 < 1 + t151.size) = False := eq_false (Nat.not_lt.2 c27)
         simp only [Option.some.injEq, Prod.mk.injEq] at H
         obtain ⟨rfl, rfl⟩ := H
         obtain ⟨hcz28_0, hcz28_1, hcz28_2, hfz28_0, hfz28_1, hfz28_2⟩ := cl3_ BK145
         go_wp2_with (first | ((with_reducible refine gate_callee (f := 56) rfl ?_); refine goesL_ (some 48) rfl rfl Tryd.func56 (by kernel_rfl) rfl #[.int .i8 a0_1] rfl arg_ ?_; (with_reducible refine (impl_letter.calls a0_1 t151 _ A26.out).mono ?_); rintro e w29 ⟨rfl, hb⟩; refine ⟨_, rfl, ?_⟩; have n0_ := A_ (blk_below (pl_ BK145) hb); have n1_ := A_ (below_step (bl_ HB) hb); clear BK145; clear HB; have BK145 := n0_; have HB := n1_; clear n0_ n1_; (try clear hb); (try clear hb2); (try clear hk); (try clear hi)))
         go_ret2
         exact ⟨by first | rfl | (simp [errW_none, errW_some] <;> rfl) | (simp [*, errW_none, errW_some] <;> rfl), bl_ HB⟩
        ·rw [if_neg c27] at H
         exact absurd H (by simp)
       ·rw [if_neg c25] at H
        have c25b0 : (a0_0 == 2) = false := beq_eq_false_iff_ne.mpr c25
        have c25b1 : (a0_0 != 2) = true := bne_iff_ne.mpr c25
        simp only [Option.some.injEq, Prod.mk.injEq] at H
        obtain ⟨rfl, rfl⟩ := H
        obtain ⟨hcz30_0, hcz30_1, hcz30_2, hfz30_0, hfz30_1, hfz30_2⟩ := cl3_ BK145
        go_wp2
        go_ret2
        exact ⟨by first | rfl | (simp [errW_none, errW_some] <;> rfl) | (simp [*, errW_none, errW_some] <;> rfl), bl_ HB⟩
     ·rw [if_neg c19] at H
      have c19b0 : (a0_2 == 0) = false := beq_eq_false_iff_ne.mpr c19
      have c19b1 : (a0_2 != 0) = true := bne_iff_ne.mpr c19
      simp only [Option.some.injEq, Prod.mk.injEq] at H
      obtain ⟨rfl, rfl⟩ := H
      obtain ⟨hcz31_0, hcz31_1, hcz31_2, hfz31_0, hfz31_1, hfz31_2⟩ := cl3_ BK145
      go_wp2
      go_ret2
      exact ⟨by first | rfl | (simp [errW_none, errW_some] <;> rfl) | (simp [*, errW_none, errW_some] <;> rfl), bl_ HB⟩

end Go.Proofs.YtodmfjophjhbeaaDoor.M
