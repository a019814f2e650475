-- By this seat's own program over the kit's printer (arrays, functions told by hand); nothing of it is trusted: the kernel checks it.
import Derived.Test.YtmekcockddoaiaaMx0
import Derived.Test.YtmekcockddoaiaaMx3
namespace Go.Proofs.Ytmekcockddoaiaa.M
open Go.RowKit Go.Proofs.YtmekcockddoaiaaW.PrintWords Go.Proofs.YtmekcockddoaiaaW.PrintLast Go.Proofs.YtmekcockddoaiaaW.PrintMore
attribute [local go_sem] max2_int min2_int max_two min_two max_three min_three max_four min_four   -- for this text's walks alone
set_option linter.unusedVariables false
set_option linter.unusedSimpArgs false

/-! ### spec_l04Text: function 11 -/
mutual
def spec_l04Text.l0 : Nat → ByteArray → Int → Int → Int → List (S43) → Option (ByteArray)
 | 0, _, _, _, _, _ => none
 | k + 1, x3, x4, x117000, x117001, x117002 => if x4 < (x117002.length : Int) then (if x3.size + 1 ≤ 9223372036854775807 then (spec_l04Text.l1 k (x3 ++ (⟨#[32]⟩ : ByteArray)) x4 0 x117000 x117001 x117002) else (none)) else (some x3)
def spec_l04Text.l1 : Nat → ByteArray → Int → Int → Int → Int → List (S43) → Option (ByteArray)
 | 0, _, _, _, _, _, _ => none
 | k + 1, x3, x4, x5, x117000, x117001, x117002 => if x5 < x117000 then (if 0 ≤ x4 then (if x4 < (x117002.length : Int) then (if 0 ≤ x5 then (if x5 < 4 then (if 0 ≤ (IntKind.i8.wrap ((rd [(rd_T43 x117002 x4).f0, (rd_T43 x117002 x4).f1, (rd_T43 x117002 x4).f2, (rd_T43 x117002 x4).f3] x5) + 1)) then (if (IntKind.i8.wrap ((rd [(rd_T43 x117002 x4).f0, (rd_T43 x117002 x4).f1, (rd_T43 x117002 x4).f2, (rd_T43 x117002 x4).f3] x5) + 1)) < 3 then ((some (([bt (⟨#[45, 48, 43]⟩ : ByteArray) (IntKind.i8.wrap ((rd [(rd_T43 x117002 x4).f0, (rd_T43 x117002 x4).f1, (rd_T43 x117002 x4).f2, (rd_T43 x117002 x4).f3] x5) + 1))] : List Int) : List Int)).bind fun y122 => (if x3.size + (strOfNums y122).size ≤ 9223372036854775807 then (spec_l04Text.l1 k (x3 ++ (strOfNums y122)) x4 (IntKind.i8.wrap (x5 + 1)) x117000 x117001 x117002) else (none))) else (none)) else (none)) else (none)) else (none)) else (none)) else (none)) else (spec_l04Text.l0 k x3 (wrap64 (x4 + 1)) x117000 x117001 x117002)
end
def spec_l04Text.f (k : Nat) (a0_0 : Int) (a0_1 : Int) (l0_2 : List (S43)) : Option (ByteArray) := (spec_l04Kinds.f).bind fun t117 => (if 0 ≤ a0_1 then (if a0_1 < (t117.length : Int) then (spec_l04Text.l0 k (rdOf ByteArray.empty t117 a0_1) 0 a0_0 a0_1 l0_2) else (none)) else (none))
theorem spec_l04Text.mono_l : ∀ k, (∀ y0 y1 y2 y3 y4, LeO (spec_l04Text.l0 k y0 y1 y2 y3 y4) (spec_l04Text.l0 (k + 1) y0 y1 y2 y3 y4)) ∧ (∀ y0 y1 y2 y3 y4 y5, LeO (spec_l04Text.l1 k y0 y1 y2 y3 y4 y5) (spec_l04Text.l1 (k + 1) y0 y1 y2 y3 y4 y5))
 | 0 => ⟨fun _ _ _ _ _ r h => by simp [spec_l04Text.l0] at h, fun _ _ _ _ _ _ r h => by simp [spec_l04Text.l1] at h⟩
 | k + 1 => by
  obtain ⟨ih0, ih1⟩ := spec_l04Text.mono_l k
  refine ⟨?_, ?_⟩
  ·intro y0 y1 y2 y3 y4
   unfold spec_l04Text.l0
   repeat' first
   | (with_reducible exact ih0 _ _ _ _ _)
   | (with_reducible exact ih1 _ _ _ _ _ _)
   | (with_reducible exact LeO.refl _)
   | (with_reducible exact LeO.none _)
   | (with_reducible refine LeO.ite ?_ ?_)
   | (with_reducible refine LeO.bind ?_ (fun _ => ?_))
   | exact ih0 _ _ _ _ _
   | exact ih1 _ _ _ _ _ _
   | exact LeO.none _
   | refine LeO.ite ?_ ?_
   | refine LeO.bind ?_ (fun _ => ?_)
  ·intro y0 y1 y2 y3 y4 y5
   unfold spec_l04Text.l1
   repeat' first
   | (with_reducible exact ih0 _ _ _ _ _)
   | (with_reducible exact ih1 _ _ _ _ _ _)
   | (with_reducible exact LeO.refl _)
   | (with_reducible exact LeO.none _)
   | (with_reducible refine LeO.ite ?_ ?_)
   | (with_reducible refine LeO.bind ?_ (fun _ => ?_))
   | exact ih0 _ _ _ _ _
   | exact ih1 _ _ _ _ _ _
   | exact LeO.none _
   | refine LeO.ite ?_ ?_
   | refine LeO.bind ?_ (fun _ => ?_)
theorem spec_l04Text.mono : ∀ a0 a1 a2 k, LeO (spec_l04Text.f k a0 a1 a2) (spec_l04Text.f (k + 1) a0 a1 a2) := by
 intro a0 a1 a2 k
 obtain ⟨ih0, ih1⟩ := spec_l04Text.mono_l k
 unfold spec_l04Text.f
 repeat' first
   | (with_reducible exact ih0 _ _ _ _ _)
   | (with_reducible exact ih1 _ _ _ _ _ _)
   | (with_reducible exact LeO.refl _)
   | (with_reducible exact LeO.none _)
   | (with_reducible refine LeO.ite ?_ ?_)
   | (with_reducible refine LeO.bind ?_ (fun _ => ?_))
   | exact ih0 _ _ _ _ _
   | exact ih1 _ _ _ _ _ _
   | exact LeO.none _
   | refine LeO.ite ?_ ?_
   | refine LeO.bind ?_ (fun _ => ?_)
def spec_l04Text.T1 : Bool × List (List Nat × List Nat) := (true, [([], []), ([], []), ([1], [1]), ([2], [2]), ([3], [3]), ([0, 4], [0, 4]), ([5], [5]), ([6, 0, 0, 1, 2, 3, 4, 5, 6], [6])])
def spec_l04Text.B1 : List Nat := [0, 0, 2, 6, 14, 31, 63, 127]
theorem spec_l04Text.tab1 : rtab .any (opsOf Try.f11 1) = spec_l04Text.T1 := by kernel_rfl
theorem spec_l04Text.bits1 : waitsOk spec_l04Text.T1.2 spec_l04Text.B1 = true := by kernel_rfl
set_option maxHeartbeats 8000000 in
set_option maxRecDepth 100000 in
theorem spec_l04Text.calls (k : Nat) (gp0 : Nat) (a0_0 : Int) (a0_1 : Int) (A0_2 : Option Addr) (c0_2 : Nat) (l0_2 : List (S43)) (r : ByteArray) (w : World) (hb0 : w.heap[gp0]? = some (.cells #[.int .i8 a0_0, .int .i8 a0_1, .slice A0_2 l0_2.length c0_2] 30 (0, 0))) (hr0_2 : Kd.C k43 w A0_2 l0_2.length l0_2) (hc0_2 : l0_2.length ≤ c0_2) (h : spec_l04Text.f k a0_0 a0_1 l0_2 = some r) :
  Calls Try.prog 11 #[.pointer (some ⟨gp0, 0, none⟩)] w fun e w' => e = .returned (.string r) ∧ Below w.heap.size w w' := by
 have HR0_2 := Aside0.mk hr0_2
 have HC0_2 := Aside0.mk hc0_2
 clear hr0_2 hc0_2
 have BK116 := Aside0.mk hb0
 clear hb0
 have HB := A_ (Below.refl w.heap.size w)
 have H : ((spec_l04Kinds.f).bind fun t117 => (if 0 ≤ a0_1 then (if a0_1 < (t117.length : Int) then (spec_l04Text.l0 k (rdOf ByteArray.empty t117 a0_1) 0 a0_0 a0_1 l0_2) else (none)) else (none))) = some r := h
 clear h
 replace H := Option.bind_eq_some_iff.mp H
 obtain ⟨t117, A20, H⟩ := H
 replace H : (if 0 ≤ a0_1 then (if a0_1 < (t117.length : Int) then (spec_l04Text.l0 k (rdOf ByteArray.empty t117 a0_1) 0 a0_0 a0_1 l0_2) else (none)) else (none)) = some r := H
 have A2 := Aside0.mk A20
 clear A20
 by_cases c3 : 0 ≤ a0_1
 ·rw [if_pos c3] at H
  have c3b0 : decide (0 ≤ a0_1) = true := decide_eq_true c3
  clear c3
  by_cases c4 : a0_1 < (t117.length : Int)
  ·rw [if_pos c4] at H
   have c4b0 : decide (a0_1 < (t117.length : Int)) = true := decide_eq_true c4
   clear c4
   have H' := Aside0.mk H
   clear H
   go_enter Try.func11, Try.ntmps11
   try go_wp2
   have n0_ := A_ (blk_drew BK116.out)
   have n1_ := A_ (below_drew1 HB.out)
   clear BK116
   clear HB
   have BK116 := n0_
   have HB := n1_
   clear n0_ n1_
   refine start_ (n := 8) (S := fun w' => w'.cell? ⟨gp0, 0, none⟩ = some (.int .i8 a0_0) ∧ w'.cell? ⟨gp0, 1, none⟩ = some (.int .i8 a0_1) ∧ w'.cell? ⟨gp0, 2, none⟩ = some (.slice A0_2 l0_2.length c0_2)) (ds := []) #[false, false, false, false, false, false, false, false] (by kernel_rfl) rfl rfl ⟨(blk_cell BK116.out 0).trans rfl, (blk_cell BK116.out 1).trans rfl, (blk_cell BK116.out 2).trans rfl⟩ (fun hHeld => ?_); refine with_tabW spec_l04Text.tab1 spec_l04Text.bits1 (fun HT_ HW_ => ?_)
   generalize w.drew = w5 at BK116 HB hHeld ⊢
   refine pure_ (i := 1) (N := some 7) (v := ?_) (a' := ?_) #[false, true, false, false, false, false, false, false] rfl rfl (any_of HT_.out (by kernel_rfl)) (fun _ _ _ h => h) (Or.inl ⟨by rfl, ?_⟩) ?_ ?_
   rotate_left
   ·intro w'
    go_simp
    with_reducible rfl
   rotate_left
   ·simp only [Act.put, sp_]
    rfl
   refine pure_ (i := 2) (N := some 8) (v := ?_) (a' := ?_) #[false, true, true, false, false, false, false, false] rfl rfl (any_of HT_.out (by kernel_rfl)) (fun _ _ _ h => h) (Or.inl ⟨by rfl, ?_⟩) ?_ ?_
   rotate_left
   ·intro w'
    go_simp
    with_reducible rfl
   rotate_left
   ·simp only [Act.put, sp_]
    rfl
   refine pure_ (i := 3) (N := some 9) (v := ?_) (a' := ?_) #[false, true, true, true, false, false, false, false] rfl rfl (any_of HT_.out (by kernel_rfl)) (fun _ _ _ h => h) (Or.inl ⟨by rfl, ?_⟩) ?_ ?_
   rotate_left
   ·intro w'
    go_simp
    with_reducible rfl
   rotate_left
   ·simp only [Act.put, sp_]
    rfl
   refine take_ (i := 4) (N := some 10) (v := ?_) (a' := ?_) #[false, true, true, true, true, false, false, false] rfl rfl (take_ofW HT_.out HW_.out (by kernel_rfl)) (fun _ _ _ h => h) (Or.inl ⟨by rfl, ?_⟩) hHeld ?_ ?_
   rotate_left
   ·rintro w' ⟨s0, s1, s2⟩
    go_simp
    with_reducible rfl
   rotate_left
   ·simp only [Act.put, sp_]
    rfl
   refine one_ (i := 0) (N := some 6) #[true, true, true, true, true, false, false, false] rfl rfl (one_of HT_.out (by kernel_rfl)) (by decide) (fun K hK => ?_)
   refine goes_ Try.func22 (by kernel_rfl) rfl #[] (by rfl) rfl rfl arg_ ?_
   with_reducible refine (spec_l04Kinds.calls  t117 _ A2.out).mono ?_
   rintro e w6 ⟨v118, rfl, ho0, hb⟩
   skip
   refine ⟨_, rfl, ?_⟩
   have n0_ := A_ (Kd.R_lower ho0 (below_size (bl_ HB)))
   have n1_ := A_ (blk_below (pl_ BK116) hb)
   have n2_ := A_ (below_step (bl_ HB) hb)
   clear BK116
   clear HB
   have HO119 := n0_
   have BK116 := n1_
   have HB := n2_
   clear n0_ n1_ n2_
   (try clear hb)
   (try clear hb2)
   (try clear hk)
   (try clear hi)
   (try clear ho0)
   obtain ⟨Ao7, co7, eo7⟩ := Kd.R_slice HO119.out
   (first | subst eo7 | (injection eo7 with f1_ f2_ f3_; have f4_ := f1_.symm; have f5_ := f3_.symm; clear f1_ f2_ f3_; subst f4_; subst f5_))
   have p120 : 0 ≤ (a0_1 : Int) := asm_
   have q120 : a0_1 < (t117.length : Int) := asm_
   obtain ⟨ad120, e120, hx120_0⟩ := Kd.at_string (Kd.R_reads' HO119.out).2.2 a0_1 p120 q120
   cases e120
   replace p120 := eq_true p120
   replace q120 := eq_true q120
   refine hK.out _ _ ⟨(blk_cell BK116.out 0).trans rfl, (blk_cell BK116.out 1).trans rfl, (blk_cell BK116.out 2).trans rfl⟩ (fun hHeld => ?_)
   refine last_more (S := fun w' => w'.cell? ⟨gp0, 0, none⟩ = some (.int .i8 a0_0) ∧ w'.cell? ⟨gp0, 1, none⟩ = some (.int .i8 a0_1) ∧ w'.cell? ⟨gp0, 2, none⟩ = some (.slice A0_2 l0_2.length c0_2)) (S' := fun w' => w'.cell? ⟨gp0, 0, none⟩ = some (.int .i8 a0_0) ∧ w'.cell? ⟨gp0, 1, none⟩ = some (.int .i8 a0_1) ∧ w'.cell? ⟨gp0, 2, none⟩ = some (.slice A0_2 l0_2.length c0_2) ∧ w'.cell? (ad120.add (a0_1).toNat) = some (.string (rdOf ByteArray.empty t117 a0_1))) (fun _ h => ⟨h.1, h.2.1, h.2.2.1⟩) ⟨hHeld.1, hHeld.2.1, hHeld.2.2, hx120_0⟩ ?_
   have hHeld := And.intro hHeld.1 (And.intro hHeld.2.1 (And.intro hHeld.2.2 hx120_0))
   clear hK K
   refine norm_ (a' := ?_) ?_ ?_
   rotate_left
   ·show Act.put _ (some 6) _ = _
    simp only [Act.put, sp_]
    rfl
   refine pure_ (i := 5) (N := some 11) (v := ?_) (a' := ?_) #[true, true, true, true, true, true, false, false] rfl rfl (any_of HT_.out (by kernel_rfl)) (fun _ _ _ h => h) (Or.inl ⟨by rfl, ?_⟩) ?_ ?_
   rotate_left
   ·intro w'
    go_simp
    with_reducible rfl
   rotate_left
   ·simp only [Act.put, sp_]
    rfl
   refine take_ (i := 6) (N := some 12) (v := ?_) (a' := ?_) #[true, true, true, true, true, true, true, false] rfl rfl (take_ofW HT_.out HW_.out (by kernel_rfl)) (fun _ _ _ h => h) (Or.inl ⟨by rfl, ?_⟩) hHeld ?_ ?_
   rotate_left
   ·rintro w' ⟨s0, s1, s2, s3⟩
    go_simp
    with_reducible rfl
   rotate_left
   ·simp only [Act.put, sp_]
    rfl
   refine pure_ (i := 7) (N := some 3) (v := ?_) (a' := ?_) #[true, true, true, true, true, true, true, true] rfl rfl (any_of HT_.out (by kernel_rfl)) (fun _ _ _ h => h) (Or.inl ⟨by rfl, ?_⟩) ?_ ?_
   rotate_left
   ·intro w'
    go_simp
    with_reducible rfl
   rotate_left
   ·simp only [Act.put, sp_]
    rfl
   refine done_ (done_of HT_.out (by kernel_rfl)) ?_
   try go_wp2
   go_loopg [3, 4] k (fun kq v3 v4 w' => ∃ (x3_1 : ByteArray) (x4_1 : Int), v3 = .string x3_1 ∧ v4 = .int .i64 x4_1 ∧ Aside0 (spec_l04Text.l0 kq x3_1 x4_1 a0_0 a0_1 l0_2 = some r) ∧ Aside0 (kq ≤ k) ∧ Aside0 (w'.heap[gp0]? = some (.cells #[.int .i8 a0_0, .int .i8 a0_1, (.slice A0_2 l0_2.length c0_2)] 30 (0, 0))) ∧ Aside0 (Below w.heap.size w w'))
   case atStart => exact ⟨(rdOf ByteArray.empty t117 a0_1), (0), rs_, rs_, H', ⟨Nat.le_refl _⟩, ⟨pl_ BK116⟩, ⟨bl_ HB⟩⟩
   case round =>
    clear H'
    try clear c1
    try clear p1
    try clear q1
    try clear hx1
    try clear c2
    try clear p2
    try clear c3
    try clear c3b0
    try clear c4
    try clear c4b0
    try clear hx120_0
    try clear p120
    try clear q120
    obtain ⟨x3_1, x4_1, rfl, rfl, HA, HK1, BK116, HB⟩ := hrel
    cases gk with
    | zero => exact absurd HA.out (by simp [spec_l04Text.l0])
    | succ k1 =>
     have H := HA.out
     clear HA
     simp only [spec_l04Text.l0] at H
     by_cases c8 : x4_1 < (l0_2.length : Int)
     ·rw [if_pos c8] at H
      have c8b0 : decide (x4_1 < (l0_2.length : Int)) = true := decide_eq_true c8
      clear c8
      by_cases c9 : x3_1.size + 1 ≤ 9223372036854775807
      ·rw [if_pos c9] at H
       have c9b0 := eq_true c9
       have c9b1 : decide (x3_1.size + 1 ≤ 9223372036854775807) = true := decide_eq_true c9
       try have c9b2 : (9223372036854775807 < x3_1.size + 1) = False := eq_false (Nat.not_lt.2 c9)
       have H' := Aside0.mk H
       clear H
       obtain ⟨hcz10_0, hcz10_1, hcz10_2, hfz10_0, hfz10_1, hfz10_2⟩ := cl3_ BK116
       go_wp2
       go_loopg [3, 5] k1 (fun kq v3 v5 w' => ∃ (x3_2 : ByteArray) (x5_2 : Int), v3 = .string x3_2 ∧ v5 = .int .i8 x5_2 ∧ Aside0 (spec_l04Text.l1 kq x3_2 x4_1 x5_2 a0_0 a0_1 l0_2 = some r) ∧ Aside0 (kq ≤ k1) ∧ Aside0 (w'.heap[gp0]? = some (.cells #[.int .i8 a0_0, .int .i8 a0_1, (.slice A0_2 l0_2.length c0_2)] 30 (0, 0))) ∧ Aside0 (Below w.heap.size w w'))
       case atStart => exact ⟨(x3_1 ++ (⟨#[32]⟩ : ByteArray)), (0), rs_, rs_, H', ⟨Nat.le_refl _⟩, ⟨pl_ BK116⟩, ⟨bl_ HB⟩⟩
       case round =>
        clear H'
        try clear c1
        try clear p1
        try clear q1
        try clear hx1
        try clear c2
        try clear p2
        try clear c3
        try clear c3b0
        try clear c4
        try clear c4b0
        try clear c8
        try clear c8b0
        try clear c9
        try clear c9b0
        try clear c9b1
        try clear c9b2
        try clear hcz10_0
        try clear hcz10_1
        try clear hcz10_2
        try clear hfz10_0
        try clear hfz10_1
        try clear hfz10_2
        try clear hx120_0
        try clear p1
        try clear p120
        try clear p2
        try clear q1
        try clear q120
        obtain ⟨x3_2, x5_2, rfl, rfl, HA, HK2, BK116, HB⟩ := hrel
        cases gk with
        | zero => exact absurd HA.out (by simp [spec_l04Text.l1])
        | succ k2 =>
         have H := HA.out
         clear HA
         simp only [spec_l04Text.l1] at H
         by_cases c11 : x5_2 < a0_0
         ·rw [if_pos c11] at H
          have c11b0 : decide (x5_2 < a0_0) = true := decide_eq_true c11
          clear c11
          by_cases c12 : 0 ≤ x4_1
          ·rw [if_pos c12] at H
           have c12b0 : decide (0 ≤ x4_1) = true := decide_eq_true c12
           clear c12
           by_cases c13 : x4_1 < (l0_2.length : Int)
           ·rw [if_pos c13] at H
            have c13b0 : decide (x4_1 < (l0_2.length : Int)) = true := decide_eq_true c13
            clear c13
            by_cases c14 : 0 ≤ x5_2
            ·rw [if_pos c14] at H
             have c14b0 : decide (0 ≤ x5_2) = true := decide_eq_true c14
             clear c14
             by_cases c15 : x5_2 < 4
             ·rw [if_pos c15] at H
              have c15b0 : decide (x5_2 < 4) = true := decide_eq_true c15
              clear c15
              obtain ⟨ji17, hji17⟩ : ∃ j_ : Int, (IntKind.i8.wrap ((rd [(rd_T43 l0_2 x4_1).f0, (rd_T43 l0_2 x4_1).f1, (rd_T43 l0_2 x4_1).f2, (rd_T43 l0_2 x4_1).f3] x5_2) + 1)) = j_ := ⟨_, rfl⟩
              replace H : (if 0 ≤ (ji17) then (if (ji17) < 3 then ((some (([bt (⟨#[45, 48, 43]⟩ : ByteArray) (ji17)] : List Int) : List Int)).bind fun y122 => (if x3_2.size + (strOfNums y122).size ≤ 9223372036854775807 then (spec_l04Text.l1 k2 (x3_2 ++ (strOfNums y122)) x4_1 (IntKind.i8.wrap (x5_2 + 1)) a0_0 a0_1 l0_2) else (none))) else (none)) else (none)) = some r := by first | (rw [hji17] at H; exact H) | (simp only [hji17] at H ⊢; exact H)
              by_cases c18 : 0 ≤ (ji17)
              ·rw [if_pos c18] at H
               have c18b0 : decide (0 ≤ (ji17)) = true := decide_eq_true c18
               clear c18
               by_cases c19 : (ji17) < 3
               ·rw [if_pos c19] at H
                have c19b0 : decide ((ji17) < 3) = true := decide_eq_true c19
                clear c19
                obtain ⟨y122, hy122⟩ : ∃ y_ : List Int, y_ = (([bt (⟨#[45, 48, 43]⟩ : ByteArray) (ji17)] : List Int)) := ⟨_, rfl⟩
                replace H : (if x3_2.size + (strOfNums y122).size ≤ 9223372036854775807 then (spec_l04Text.l1 k2 (x3_2 ++ (strOfNums y122)) x4_1 (IntKind.i8.wrap (x5_2 + 1)) a0_0 a0_1 l0_2) else (none)) = some r := by first | (rw [hy122]; with_reducible exact H) | (have H2_ := (Option.bind_some _ _).symm.trans H; rw [hy122]; with_reducible exact H2_) | (have H2_ := (Option.bind_some _ _).symm.trans H; with_reducible exact H2_) | with_reducible exact H | (rw [hy122]; exact H) | exact H
                have Ny122 := Aside0.mk hy122
                clear hy122
                by_cases c21 : x3_2.size + (strOfNums y122).size ≤ 9223372036854775807
                ·rw [if_pos c21] at H
                 have c21b0 := eq_true c21
                 have c21b1 : decide (x3_2.size + (strOfNums y122).size ≤ 9223372036854775807) = true := decide_eq_true c21
                 try have c21b2 : (9223372036854775807 < x3_2.size + (strOfNums y122).size) = False := eq_false (Nat.not_lt.2 c21)
                 have H' := Aside0.mk H
                 clear H
                 obtain ⟨hcz22_0, hcz22_1, hcz22_2, hfz22_0, hfz22_1, hfz22_2⟩ := cl3_ BK116
                 have p121 : 0 ≤ (x4_1 : Int) := asm_
                 have q121 : x4_1 < (l0_2.length : Int) := asm_
                 obtain ⟨ad121, e121, hx121_0, hx121_1, hx121_2, hx121_3⟩ := at_T43 HR0_2.out x4_1 p121 q121
                 cases e121
                 (try replace hx121_0 := (HB.out.cell (World.block_lt_of_cell? w _ hx121_0)).trans hx121_0)
                 (try replace hx121_1 := (HB.out.cell (World.block_lt_of_cell? w _ hx121_1)).trans hx121_1)
                 (try replace hx121_2 := (HB.out.cell (World.block_lt_of_cell? w _ hx121_2)).trans hx121_2)
                 (try replace hx121_3 := (HB.out.cell (World.block_lt_of_cell? w _ hx121_3)).trans hx121_3)
                 replace p121 := eq_true p121
                 replace q121 := eq_true q121
                 have p16 : 0 ≤ (x5_2 : Int) := asm_
                 have q16 : (x5_2 : Int) < 4 := asm_
                 have hx16 : ∀ W_ : World, (W_.cell? (ad121.add ((x4_1).toNat * 4)) = some (.int .i8 ((rd_T43 l0_2 x4_1).f0)) ∧ W_.cell? ⟨(ad121.add ((x4_1).toNat * 4)).block, (ad121.add ((x4_1).toNat * 4)).off + 1, none⟩ = some (.int .i8 ((rd_T43 l0_2 x4_1).f1)) ∧ W_.cell? ⟨(ad121.add ((x4_1).toNat * 4)).block, (ad121.add ((x4_1).toNat * 4)).off + 2, none⟩ = some (.int .i8 ((rd_T43 l0_2 x4_1).f2)) ∧ W_.cell? ⟨(ad121.add ((x4_1).toNat * 4)).block, (ad121.add ((x4_1).toNat * 4)).off + 3, none⟩ = some (.int .i8 ((rd_T43 l0_2 x4_1).f3))) → W_.cell? (Addr.add (ad121.add ((x4_1).toNat * 4)) (x5_2 : Int).toNat) = some (.int .i8 (rd [(rd_T43 l0_2 x4_1).f0, (rd_T43 l0_2 x4_1).f1, (rd_T43 l0_2 x4_1).f2, (rd_T43 l0_2 x4_1).f3] x5_2)) := fun W_ ⟨y0_, y1_, y2_, y3_⟩ => ard_at (k := .i8) (l := [(rd_T43 l0_2 x4_1).f0, (rd_T43 l0_2 x4_1).f1, (rd_T43 l0_2 x4_1).f2, (rd_T43 l0_2 x4_1).f3]) (a := (ad121.add ((x4_1).toNat * 4))) (fun n_ x_ h_ => by match n_, h_ with | 0, h_ => (cases h_; exact y0_) | 1, h_ => (cases h_; exact y1_) | 2, h_ => (cases h_; exact y2_) | 3, h_ => (cases h_; exact y3_) | n_ + 4, h_ => simp at h_) p16 q16
                 replace hx16 := hx16 _ ⟨hx121_0, hx121_1, hx121_2, hx121_3⟩
                 replace p16 := eq_true p16
                 replace q16 := eq_true q16
                 have p20 : 0 ≤ ((ji17) : Int) := asm_
                 have q20 : (ji17) < (3 : Int) := asm_
                 have hx20 := bt_at (⟨#[45, 48, 43]⟩ : ByteArray) (ji17)
                 replace p20 := eq_true p20
                 replace q20 := eq_true q20
                 go_wp2_with (first | ((with_reducible refine gate_dst (N := 44) rfl ?_); refine Kd.R_lit (Kd.int .u8) _ 5 ?hg (N := 44) ?hd (xs := ([bt (⟨#[45, 48, 43]⟩ : ByteArray) (ji17)] : List Int)) (inner := [.int .u8 (bt (⟨#[45, 48, 43]⟩ : ByteArray) (ji17))]) (ok := fun _ => True) (okp := fun _ => True) ?hr ?hp (fun _ hk => hk) trivial (Below.refl _ _) (Nat.le_refl _) (by simp) ?_; (case hd => rfl); (case hg => rfl); (case hr => first | (go_simp; done) | (go_simp; rfl)); (case hp => exact (Reps.one (show Kd.M (Kd.int .u8) _ _ _ (bt (⟨#[45, 48, 43]⟩ : ByteArray) (ji17)) [.int .u8 (bt (⟨#[45, 48, 43]⟩ : ByteArray) (ji17))] from rfl) (Reps.none _ _))); intro v123 w23 ho24 hb hg_ hnew_; clear hg_ hnew_; (first | rw [← Ny122.out] at ho24 | (simp only [Int.reduceToNat] at ho24; rw [← Ny122.out] at ho24)); have n0_ := A_ (Kd.R_lower ho24 (below_size (bl_ HB))); have n1_ := A_ (blk_below (pl_ BK116) hb); have n2_ := A_ (below_step (bl_ HB) hb); clear BK116; clear HB; have HO124 := n0_; have BK116 := n1_; have HB := n2_; clear n0_ n1_ n2_; clear hb ho24; have hcv25 := own_string (P := Try.prog) Try.underlying52 Try.underlying5 Try.underlying9 (Kd.own_of_R HO124.out)))
                 go_roundg k2
                 case measure => have := HK1.out; have := HK2.out; omega
                 case rel => exact ⟨(x3_2 ++ (strOfNums y122)), (IntKind.i8.wrap (x5_2 + 1)), rs_, rs_, H', ⟨by have := HK1.out; have := HK2.out; omega⟩, ⟨pl_ BK116⟩, ⟨bl_ HB⟩⟩
                ·rw [if_neg c21] at H
                 exact absurd H (by simp)
               ·rw [if_neg c19] at H
                exact absurd H (by simp)
              ·rw [if_neg c18] at H
               exact absurd H (by simp)
             ·rw [if_neg c15] at H
              exact absurd H (by simp)
            ·rw [if_neg c14] at H
             exact absurd H (by simp)
           ·rw [if_neg c13] at H
            exact absurd H (by simp)
          ·rw [if_neg c12] at H
           exact absurd H (by simp)
         ·rw [if_neg c11] at H
          have c11b0 : decide (x5_2 < a0_0) = false := decide_eq_false c11
          clear c11
          have H' := Aside0.mk H
          clear H
          obtain ⟨hcz26_0, hcz26_1, hcz26_2, hfz26_0, hfz26_1, hfz26_2⟩ := cl3_ BK116
          go_wp2
          go_roundg k2
          case measure => have := HK1.out; have := HK2.out; omega
          case rel => exact ⟨(x3_2), (wrap64 (x4_1 + 1)), rs_, rs_, H', ⟨by have := HK1.out; have := HK2.out; omega⟩, ⟨pl_ BK116⟩, ⟨bl_ HB⟩⟩
      ·rw [if_neg c9] at H
       exact absurd H (by simp)
     ·rw [if_neg c8] at H
      have c8b0 : decide (x4_1 < (l0_2.length : Int)) = false := decide_eq_false c8
      clear c8
      obtain rfl := Option.some.inj H
      obtain ⟨hcz27_0, hcz27_1, hcz27_2, hfz27_0, hfz27_1, hfz27_2⟩ := cl3_ BK116
      go_wp2
      go_ret
      exact ⟨by first | rfl | (simp [errW_none, errW_some] <;> rfl) | (simp [*, errW_none, errW_some] <;> rfl), bl_ HB⟩
  ·rw [if_neg c4] at H
   exact absurd H (by simp)
 ·rw [if_neg c3] at H
  exact absurd H (by simp)

end Go.Proofs.Ytmekcockddoaiaa.M
