-- By this seat's own program over the kit's printer (arrays, functions told by hand); nothing of it is trusted: the kernel checks it.
import Derived.Test.YtodmfjophjhbeaaDoorMx0
import Derived.Test.YtodmfjophjhbeaaDoorMx4
namespace Go.Proofs.YtodmfjophjhbeaaDoor.M
open Go.RowKit Go.Proofs.YtodmfjophjhbeaaDoorW.PrintWords Go.Proofs.YtodmfjophjhbeaaDoorW.PrintLast Go.Proofs.YtodmfjophjhbeaaDoorW.PrintMore
attribute [local go_sem] max2_int min2_int max_two min_two max_three min_three max_four min_four   -- for this text's walks alone
set_option linter.unusedVariables false
set_option linter.unusedSimpArgs false

/-! ### spec_l02Text: function 17 -/
def spec_l02Text.l0 : Nat → ByteArray → Int → List Int → Int → Int → Int → Int → Bool → Option (ByteArray)
 | 0, _, _, _, _, _, _, _, _ => none
 | k + 1, x3, x4, x120000, x120001, x120002, x120003, x120004, x120005 => if x4 < (x120000.length : Int) then (if x4 > 0 then (if x3.size + 1 ≤ 9223372036854775807 then (if 0 ≤ x4 then (if x4 < 4 then ((spec_Decimal.f k (wrap64 (rd [x120001, x120002, x120003, x120004] x4))).bind fun t120 => (if t120.size + 1 ≤ 9223372036854775807 then ((spec_Decimal.f k (wrap64 (rd x120000 x4))).bind fun t122 => (if t120.size + 1 + t122.size ≤ 9223372036854775807 then (if x3.size + 1 + (t120.size + 1 + t122.size) ≤ 9223372036854775807 then (spec_l02Text.l0 k ((x3 ++ (⟨#[32]⟩ : ByteArray)) ++ ((t120 ++ (⟨#[47]⟩ : ByteArray)) ++ t122)) (wrap64 (x4 + 1)) x120000 x120001 x120002 x120003 x120004 x120005) else (none)) else (none))) else (none))) else (none)) else (none)) else (none)) else (if 0 ≤ x4 then (if x4 < 4 then ((spec_Decimal.f k (wrap64 (rd [x120001, x120002, x120003, x120004] x4))).bind fun t123 => (if t123.size + 1 ≤ 9223372036854775807 then ((spec_Decimal.f k (wrap64 (rd x120000 x4))).bind fun t125 => (if t123.size + 1 + t125.size ≤ 9223372036854775807 then (if x3.size + (t123.size + 1 + t125.size) ≤ 9223372036854775807 then (spec_l02Text.l0 k (x3 ++ ((t123 ++ (⟨#[47]⟩ : ByteArray)) ++ t125)) (wrap64 (x4 + 1)) x120000 x120001 x120002 x120003 x120004 x120005) else (none)) else (none))) else (none))) else (none)) else (none))) else (if x120005 = true then (if x3.size + 4 ≤ 9223372036854775807 then (some (x3 ++ (⟨#[32, 116, 97, 112]⟩ : ByteArray))) else (none)) else (some x3))
def spec_l02Text.f (k : Nat) (l0_0 : List Int) (a0_1 : Int) (a0_2 : Int) (a0_3 : Int) (a0_4 : Int) (a0_5 : Bool) : Option (ByteArray) := spec_l02Text.l0 k (⟨#[]⟩ : ByteArray) 0 l0_0 a0_1 a0_2 a0_3 a0_4 a0_5
theorem spec_l02Text.mono_l : ∀ k, (∀ y0 y1 y2 y3 y4 y5 y6 y7, LeO (spec_l02Text.l0 k y0 y1 y2 y3 y4 y5 y6 y7) (spec_l02Text.l0 (k + 1) y0 y1 y2 y3 y4 y5 y6 y7))
 | 0 => fun _ _ _ _ _ _ _ _ r h => by simp [spec_l02Text.l0] at h
 | k + 1 => by
  have ih0 := spec_l02Text.mono_l k
  ·intro y0 y1 y2 y3 y4 y5 y6 y7
   unfold spec_l02Text.l0
   repeat' first
   | (with_reducible exact ih0 _ _ _ _ _ _ _ _)
   | (with_reducible exact spec_Decimal.mono _ _)
   | (with_reducible exact LeO.refl _)
   | (with_reducible exact LeO.none _)
   | (with_reducible refine LeO.ite ?_ ?_)
   | (with_reducible refine LeO.bind ?_ (fun _ => ?_))
   | exact ih0 _ _ _ _ _ _ _ _
   | exact spec_Decimal.mono _ _
   | exact LeO.none _
   | refine LeO.ite ?_ ?_
   | refine LeO.bind ?_ (fun _ => ?_)
theorem spec_l02Text.mono : ∀ a0 a1 a2 a3 a4 a5 k, LeO (spec_l02Text.f k a0 a1 a2 a3 a4 a5) (spec_l02Text.f (k + 1) a0 a1 a2 a3 a4 a5) := by
 intro a0 a1 a2 a3 a4 a5 k
 have ih0 := spec_l02Text.mono_l k
 unfold spec_l02Text.f
 repeat' first
   | (with_reducible exact ih0 _ _ _ _ _ _ _ _)
   | (with_reducible exact spec_Decimal.mono _ _)
   | (with_reducible exact LeO.refl _)
   | (with_reducible exact LeO.none _)
   | (with_reducible refine LeO.ite ?_ ?_)
   | (with_reducible refine LeO.bind ?_ (fun _ => ?_))
   | exact ih0 _ _ _ _ _ _ _ _
   | exact spec_Decimal.mono _ _
   | exact LeO.none _
   | refine LeO.ite ?_ ?_
   | refine LeO.bind ?_ (fun _ => ?_)
def spec_l02Text.T7 : Bool × List (List Nat × List Nat) := (true, [([], []), ([], []), ([], []), ([1], [1]), ([3], [3]), ([4, 2], [2, 4]), ([5], [5]), ([6], [6]), ([7], [7]), ([8], [8]), ([], []), ([10], [10]), ([11], [11]), ([12], [12]), ([], []), ([13, 14], [13, 14]), ([15], [15]), ([16], [16]), ([17, 8], [17]), ([9, 18], [9, 18]), ([0, 19], [0, 19]), ([20, 18, 0, 1, 2, 3, 4, 5, 6, 7, 8, 9, 10, 11, 12, 13, 14, 15, 16, 17, 18, 19, 20], [0, 20])])
def spec_l02Text.B7 : List Nat := [0, 0, 0, 2, 10, 30, 62, 126, 254, 510, 0, 1024, 3072, 7168, 0, 31744, 64512, 130048, 261630, 524286, 1048575, 2097151]
theorem spec_l02Text.tab7 : rtab .any (opsOf Tryd.f17 7) = spec_l02Text.T7 := by kernel_rfl
theorem spec_l02Text.bits7 : waitsOk spec_l02Text.T7.2 spec_l02Text.B7 = true := by kernel_rfl
set_option maxHeartbeats 8000000 in
set_option maxRecDepth 100000 in
theorem spec_l02Text.calls (k : Nat) (gp0 : Nat) (A0_0 : Option Addr) (c0_0 : Nat) (l0_0 : List Int) (a0_1 : Int) (a0_2 : Int) (a0_3 : Int) (a0_4 : Int) (a0_5 : Bool) (r : ByteArray) (w : World) (hb0 : w.heap[gp0]? = some (.cells #[.slice A0_0 l0_0.length c0_0, .int .i16 a0_1, .int .i16 a0_2, .int .i16 a0_3, .int .i16 a0_4, .bool a0_5] 31 (0, 0))) (hr0_0 : Kd.C (Kd.int .i16) w A0_0 l0_0.length l0_0) (hc0_0 : l0_0.length ≤ c0_0) (h : spec_l02Text.f k l0_0 a0_1 a0_2 a0_3 a0_4 a0_5 = some r) :
  Calls Tryd.prog 17 #[.pointer (some ⟨gp0, 0, none⟩)] w fun e w' => e = .returned (.string r) ∧ Below w.heap.size w w' := by
 have HR0_0 := Aside0.mk hr0_0
 have HC0_0 := Aside0.mk hc0_0
 clear hr0_0 hc0_0
 have BK119 := Aside0.mk hb0
 clear hb0
 have HB := A_ (Below.refl w.heap.size w)
 have H : (spec_l02Text.l0 k (⟨#[]⟩ : ByteArray) 0 l0_0 a0_1 a0_2 a0_3 a0_4 a0_5) = some r := h
 clear h
 have H' := Aside0.mk H
 clear H
 go_enter Tryd.func17, Tryd.ntmps17
 go_wp2
 go_loopg [3, 4] k (fun kq v3 v4 w' => ∃ (x3_1 : ByteArray) (x4_1 : Int), v3 = .string x3_1 ∧ v4 = .int .i64 x4_1 ∧ Aside0 (spec_l02Text.l0 kq x3_1 x4_1 l0_0 a0_1 a0_2 a0_3 a0_4 a0_5 = some r) ∧ Aside0 (kq ≤ k) ∧ Aside0 (w'.heap[gp0]? = some (.cells #[(.slice A0_0 l0_0.length c0_0), .int .i16 a0_1, .int .i16 a0_2, .int .i16 a0_3, .int .i16 a0_4, .bool a0_5] 31 (0, 0))) ∧ Aside0 (Below w.heap.size w w'))
 case atStart => exact ⟨((⟨#[]⟩ : ByteArray)), (0), rs_, rs_, H', ⟨Nat.le_refl _⟩, ⟨pl_ BK119⟩, ⟨bl_ HB⟩⟩
 case round =>
  clear H'
  try clear c1
  obtain ⟨x3_1, x4_1, rfl, rfl, HA, HK1, BK119, HB⟩ := hrel
  cases gk with
  | zero => exact absurd HA.out (by simp [spec_l02Text.l0])
  | succ k1 =>
   have H := HA.out
   clear HA
   simp only [spec_l02Text.l0] at H
   by_cases c2 : x4_1 < (l0_0.length : Int)
   ·rw [if_pos c2] at H
    have c2b0 : decide (x4_1 < (l0_0.length : Int)) = true := decide_eq_true c2
    clear c2
    by_cases c3 : x4_1 > 0
    ·rw [if_pos c3] at H
     have c3b0 : decide (0 < x4_1) = true := decide_eq_true c3
     clear c3
     by_cases c4 : x3_1.size + 1 ≤ 9223372036854775807
     ·rw [if_pos c4] at H
      have c4b0 := eq_true c4
      have c4b1 : decide (x3_1.size + 1 ≤ 9223372036854775807) = true := decide_eq_true c4
      try have c4b2 : (9223372036854775807 < x3_1.size + 1) = False := eq_false (Nat.not_lt.2 c4)
      by_cases c5 : 0 ≤ x4_1
      ·rw [if_pos c5] at H
       have c5b0 : decide (0 ≤ x4_1) = true := decide_eq_true c5
       clear c5
       by_cases c6 : x4_1 < 4
       ·rw [if_pos c6] at H
        have c6b0 : decide (x4_1 < 4) = true := decide_eq_true c6
        clear c6
        replace H := Option.bind_eq_some_iff.mp H
        obtain ⟨t120, A80, H⟩ := H
        replace H : (if t120.size + 1 ≤ 9223372036854775807 then ((spec_Decimal.f k1 (wrap64 (rd l0_0 x4_1))).bind fun t122 => (if t120.size + 1 + t122.size ≤ 9223372036854775807 then (if x3_1.size + 1 + (t120.size + 1 + t122.size) ≤ 9223372036854775807 then (spec_l02Text.l0 k1 ((x3_1 ++ (⟨#[32]⟩ : ByteArray)) ++ ((t120 ++ (⟨#[47]⟩ : ByteArray)) ++ t122)) (wrap64 (x4_1 + 1)) l0_0 a0_1 a0_2 a0_3 a0_4 a0_5) else (none)) else (none))) else (none)) = some r := H
        have A8 := Aside0.mk A80
        clear A80
        by_cases c9 : t120.size + 1 ≤ 9223372036854775807
        ·rw [if_pos c9] at H
         have c9b0 := eq_true c9
         have c9b1 : decide (t120.size + 1 ≤ 9223372036854775807) = true := decide_eq_true c9
         try have c9b2 : (9223372036854775807 < t120.size + 1) = False := eq_false (Nat.not_lt.2 c9)
         replace H := Option.bind_eq_some_iff.mp H
         obtain ⟨t122, A100, H⟩ := H
         replace H : (if t120.size + 1 + t122.size ≤ 9223372036854775807 then (if x3_1.size + 1 + (t120.size + 1 + t122.size) ≤ 9223372036854775807 then (spec_l02Text.l0 k1 ((x3_1 ++ (⟨#[32]⟩ : ByteArray)) ++ ((t120 ++ (⟨#[47]⟩ : ByteArray)) ++ t122)) (wrap64 (x4_1 + 1)) l0_0 a0_1 a0_2 a0_3 a0_4 a0_5) else (none)) else (none)) = some r := H
         have A10 := Aside0.mk A100
         clear A100
         by_cases c11 : t120.size + 1 + t122.size ≤ 9223372036854775807
         ·rw [if_pos c11] at H
          have c11b0 := eq_true c11
          have c11b1 : decide (t120.size + 1 + t122.size ≤ 9223372036854775807) = true := decide_eq_true c11
          try have c11b2 : (9223372036854775807 < t120.size + 1 + t122.size) = False := eq_false (Nat.not_lt.2 c11)
          by_cases c12 : x3_1.size + 1 + (t120.size + 1 + t122.size) ≤ 9223372036854775807
          ·rw [if_pos c12] at H
           have c12b0 := eq_true c12
           have c12b1 : decide (x3_1.size + 1 + (t120.size + 1 + t122.size) ≤ 9223372036854775807) = true := decide_eq_true c12
           try have c12b2 : (9223372036854775807 < x3_1.size + 1 + (t120.size + 1 + t122.size)) = False := eq_false (Nat.not_lt.2 c12)
           have H' := Aside0.mk H
           clear H
           obtain ⟨hcz13_0, hcz13_1, hcz13_2, hcz13_3, hcz13_4, hcz13_5, hfz13_0, hfz13_1, hfz13_2, hfz13_3, hfz13_4, hfz13_5⟩ := cl6_ BK119
           try go_wp2
           have n0_ := A_ (blk_drew BK119.out)
           have n1_ := A_ (below_drew1 HB.out)
           clear BK119
           clear HB
           have BK119 := n0_
           have HB := n1_
           clear n0_ n1_
           obtain ⟨hcz15_0, hcz15_1, hcz15_2, hcz15_3, hcz15_4, hcz15_5, hfz15_0, hfz15_1, hfz15_2, hfz15_3, hfz15_4, hfz15_5⟩ := cl6_ BK119
           have p7 : 0 ≤ (x4_1 : Int) := asm_
           have q7 : (x4_1 : Int) < 4 := asm_
           have hx7 : (wr.drew).cell? ⟨gp0, 1 + (x4_1 : Int).toNat, none⟩ = some (.int .i16 (rd [a0_1, a0_2, a0_3, a0_4] x4_1)) := ard_in (k := .i16) (l := [a0_1, a0_2, a0_3, a0_4]) (o := 1) BK119.out rfl p7 q7
           have hf7 := blk_frozen BK119.out (1 + (x4_1 : Int).toNat)
           have P7 := Aside0.mk p7
           have Q7 := Aside0.mk q7
           replace p7 := eq_true p7
           replace q7 := eq_true q7
           have p121 : 0 ≤ (x4_1 : Int) := asm_
           have q121 : x4_1 < (l0_0.length : Int) := asm_
           obtain ⟨ad121, e121, hx121_0⟩ := Kd.at_int HR0_0.out x4_1 p121 q121
           have hw121_0 := hx121_0
           cases e121
           (try replace hx121_0 := (HB.out.cell (World.block_lt_of_cell? w _ hx121_0)).trans hx121_0)
           replace p121 := eq_true p121
           replace q121 := eq_true q121
           refine start_ (n := 22) (S := fun w' => w'.cell? ⟨gp0, 0, none⟩ = some (.slice (some ad121) l0_0.length c0_0) ∧ w'.cell? ⟨gp0, 1, none⟩ = some (.int .i16 a0_1) ∧ w'.cell? ⟨gp0, 2, none⟩ = some (.int .i16 a0_2) ∧ w'.cell? ⟨gp0, 3, none⟩ = some (.int .i16 a0_3) ∧ w'.cell? ⟨gp0, 4, none⟩ = some (.int .i16 a0_4) ∧ w'.cell? ⟨gp0, 5, none⟩ = some (.bool a0_5) ∧ w'.cell? (ad121.add (x4_1).toNat) = some (.int .i16 (rd l0_0 x4_1)) ∧ w'.cell? ⟨gp0, 1 + (x4_1 : Int).toNat, none⟩ = some (.int .i16 (rd [a0_1, a0_2, a0_3, a0_4] x4_1))) (ds := []) #[false, false, false, false, false, false, false, false, false, false, false, false, false, false, false, false, false, false, false, false, false, false] (by kernel_rfl) rfl rfl ⟨(blk_cell BK119.out 0).trans rfl, (blk_cell BK119.out 1).trans rfl, (blk_cell BK119.out 2).trans rfl, (blk_cell BK119.out 3).trans rfl, (blk_cell BK119.out 4).trans rfl, (blk_cell BK119.out 5).trans rfl, (by first | exact (HB.out.cell (World.block_lt_of_cell? w _ hw121_0)).trans hw121_0 | exact hw121_0), hx7⟩ (fun hHeld => ?_); refine with_tabW spec_l02Text.tab7 spec_l02Text.bits7 (fun HT_ HW_ => ?_)
           generalize wr.drew = w14 at BK119 HB hx121_0 hx7 hHeld ⊢
           refine pure_ (i := 0) (N := some 18) (v := ?_) (a' := ?_) #[true, false, false, false, false, false, false, false, false, false, false, false, false, false, false, false, false, false, false, false, false, false] rfl rfl (any_of HT_.out (by kernel_rfl)) (fun _ _ _ h => h) (Or.inl ⟨by rfl, ?_⟩) ?_ ?_
           rotate_left
           ·intro w'
            go_simp
            with_reducible rfl
           rotate_left
           ·simp only [Act.put, sp_]
            rfl
           refine pure_ (i := 1) (N := some 19) (v := ?_) (a' := ?_) #[true, true, false, false, false, false, false, false, false, false, false, false, false, false, false, false, false, false, false, false, false, false] rfl rfl (any_of HT_.out (by kernel_rfl)) (fun _ _ _ h => h) (Or.inl ⟨by rfl, ?_⟩) ?_ ?_
           rotate_left
           ·intro w'
            go_simp
            with_reducible rfl
           rotate_left
           ·simp only [Act.put, sp_]
            rfl
           refine pure_ (i := 2) (N := some 20) (v := ?_) (a' := ?_) #[true, true, true, false, false, false, false, false, false, false, false, false, false, false, false, false, false, false, false, false, false, false] rfl rfl (any_of HT_.out (by kernel_rfl)) (fun _ _ _ h => h) (Or.inl ⟨by rfl, ?_⟩) ?_ ?_
           rotate_left
           ·intro w'
            go_simp
            with_reducible rfl
           rotate_left
           ·simp only [Act.put, sp_]
            rfl
           refine pure_ (i := 3) (N := some 21) (v := ?_) (a' := ?_) #[true, true, true, true, false, false, false, false, false, false, false, false, false, false, false, false, false, false, false, false, false, false] rfl rfl (any_of HT_.out (by kernel_rfl)) (fun _ _ _ h => h) (Or.inl ⟨by rfl, ?_⟩) ?_ ?_
           rotate_left
           ·intro w'
            go_simp
            with_reducible rfl
           rotate_left
           ·simp only [Act.put, sp_]
            rfl
           refine pure_ (i := 4) (N := some 22) (v := ?_) (a' := ?_) #[true, true, true, true, true, false, false, false, false, false, false, false, false, false, false, false, false, false, false, false, false, false] rfl rfl (any_of HT_.out (by kernel_rfl)) (fun _ _ _ h => h) (Or.inl ⟨by rfl, ?_⟩) ?_ ?_
           rotate_left
           ·intro w'
            go_simp
            with_reducible rfl
           rotate_left
           ·simp only [Act.put, sp_]
            rfl
           refine pure_ (i := 5) (N := some 23) (v := ?_) (a' := ?_) #[true, true, true, true, true, true, false, false, false, false, false, false, false, false, false, false, false, false, false, false, false, false] rfl rfl (any_of HT_.out (by kernel_rfl)) (fun _ _ _ h => h) (Or.inl ⟨by rfl, ?_⟩) ?_ ?_
           rotate_left
           ·intro w'
            go_simp
            with_reducible rfl
           rotate_left
           ·simp only [Act.put, sp_]
            rfl
           refine pure_ (i := 10) (N := some 28) (v := ?_) (a' := ?_) #[true, true, true, true, true, true, false, false, false, false, true, false, false, false, false, false, false, false, false, false, false, false] rfl rfl (any_of HT_.out (by kernel_rfl)) (fun _ _ _ h => h) (Or.inl ⟨by rfl, ?_⟩) ?_ ?_
           rotate_left
           ·intro w'
            go_simp
            with_reducible rfl
           rotate_left
           ·simp only [Act.put, sp_]
            rfl
           refine pure_ (i := 11) (N := some 29) (v := ?_) (a' := ?_) #[true, true, true, true, true, true, false, false, false, false, true, true, false, false, false, false, false, false, false, false, false, false] rfl rfl (any_of HT_.out (by kernel_rfl)) (fun _ _ _ h => h) (Or.inl ⟨by rfl, ?_⟩) ?_ ?_
           rotate_left
           ·intro w'
            go_simp
            with_reducible rfl
           rotate_left
           ·simp only [Act.put, sp_]
            rfl
           refine pure_ (i := 12) (N := some 30) (v := ?_) (a' := ?_) #[true, true, true, true, true, true, false, false, false, false, true, true, true, false, false, false, false, false, false, false, false, false] rfl rfl (any_of HT_.out (by kernel_rfl)) (fun _ _ _ h => h) (Or.inl ⟨by rfl, ?_⟩) ?_ ?_
           rotate_left
           ·intro w'
            go_simp
            with_reducible rfl
           rotate_left
           ·simp only [Act.put, sp_]
            rfl
           refine pure_ (i := 14) (N := some 32) (v := ?_) (a' := ?_) #[true, true, true, true, true, true, false, false, false, false, true, true, true, false, true, false, false, false, false, false, false, false] rfl rfl (any_of HT_.out (by kernel_rfl)) (fun _ _ _ h => h) (Or.inl ⟨by rfl, ?_⟩) ?_ ?_
           rotate_left
           ·intro w'
            go_simp
            with_reducible rfl
           rotate_left
           ·simp only [Act.put, sp_]
            rfl
           refine take_ (i := 6) (N := some 24) (v := ?_) (a' := ?_) #[true, true, true, true, true, true, true, false, false, false, true, true, true, false, true, false, false, false, false, false, false, false] rfl rfl (take_ofW HT_.out HW_.out (by kernel_rfl)) (fun _ _ _ h => h) (Or.inl ⟨by rfl, ?_⟩) hHeld ?_ ?_
           rotate_left
           ·rintro w' ⟨s0, s1, s2, s3, s4, s5, s6, s7⟩
            go_simp
            with_reducible rfl
           rotate_left
           ·simp only [Act.put, sp_]
            rfl
           refine pure_ (i := 7) (N := some 25) (v := ?_) (a' := ?_) #[true, true, true, true, true, true, true, true, false, false, true, true, true, false, true, false, false, false, false, false, false, false] rfl rfl (any_of HT_.out (by kernel_rfl)) (fun _ _ _ h => h) (Or.inl ⟨by rfl, ?_⟩) ?_ ?_
           rotate_left
           ·intro w'
            go_simp
            with_reducible rfl
           rotate_left
           ·simp only [Act.put, sp_]
            rfl
           refine take_ (i := 13) (N := some 31) (v := ?_) (a' := ?_) #[true, true, true, true, true, true, true, true, false, false, true, true, true, true, true, false, false, false, false, false, false, false] rfl rfl (take_ofW HT_.out HW_.out (by kernel_rfl)) (fun _ _ _ h => h) (Or.inl ⟨by rfl, ?_⟩) hHeld ?_ ?_
           rotate_left
           ·rintro w' ⟨s0, s1, s2, s3, s4, s5, s6, s7⟩
            go_simp
            with_reducible rfl
           rotate_left
           ·simp only [Act.put, sp_]
            rfl
           refine pure_ (i := 15) (N := some 33) (v := ?_) (a' := ?_) #[true, true, true, true, true, true, true, true, false, false, true, true, true, true, true, true, false, false, false, false, false, false] rfl rfl (any_of HT_.out (by kernel_rfl)) (fun _ _ _ h => h) (Or.inl ⟨by rfl, ?_⟩) ?_ ?_
           rotate_left
           ·intro w'
            go_simp
            with_reducible rfl
           rotate_left
           ·simp only [Act.put, sp_]
            rfl
           refine take_ (i := 16) (N := some 34) (v := ?_) (a' := ?_) #[true, true, true, true, true, true, true, true, false, false, true, true, true, true, true, true, true, false, false, false, false, false] rfl rfl (take_ofW HT_.out HW_.out (by kernel_rfl)) (fun _ _ _ h => h) (Or.inl ⟨by rfl, ?_⟩) hHeld ?_ ?_
           rotate_left
           ·rintro w' ⟨s0, s1, s2, s3, s4, s5, s6, s7⟩
            go_simp
            with_reducible rfl
           rotate_left
           ·simp only [Act.put, sp_]
            rfl
           refine pure_ (i := 17) (N := some 35) (v := ?_) (a' := ?_) #[true, true, true, true, true, true, true, true, false, false, true, true, true, true, true, true, true, true, false, false, false, false] rfl rfl (any_of HT_.out (by kernel_rfl)) (fun _ _ _ h => h) (Or.inl ⟨by rfl, ?_⟩) ?_ ?_
           rotate_left
           ·intro w'
            go_simp
            with_reducible rfl
           rotate_left
           ·simp only [Act.put, sp_]
            rfl
           refine one_ (i := 8) (N := some 26) #[true, true, true, true, true, true, true, true, true, false, true, true, true, true, true, true, true, true, false, false, false, false] rfl rfl (one_of HT_.out (by kernel_rfl)) (by decide) (fun K hK => ?_)
           refine goes_ Tryd.func33 (by kernel_rfl) rfl #[.int .i64 (wrap64 (rd [a0_1, a0_2, a0_3, a0_4] x4_1))] (by rfl) rfl rfl arg_ ?_
           with_reducible refine (spec_Decimal.calls k1 (wrap64 (rd [a0_1, a0_2, a0_3, a0_4] x4_1)) t120 _ A8.out).mono ?_
           rintro e w16 ⟨rfl, hb⟩
           refine ⟨_, rfl, ?_⟩
           have n0_ := A_ (blk_below (pl_ BK119) hb)
           have n1_ := A_ (below_step (bl_ HB) hb)
           clear BK119
           clear HB
           have BK119 := n0_
           have HB := n1_
           clear n0_ n1_
           (try clear hb)
           (try clear hb2)
           (try clear hk)
           (try clear hi)
           refine hK.out _ _ ⟨(blk_cell BK119.out 0).trans rfl, (blk_cell BK119.out 1).trans rfl, (blk_cell BK119.out 2).trans rfl, (blk_cell BK119.out 3).trans rfl, (blk_cell BK119.out 4).trans rfl, (blk_cell BK119.out 5).trans rfl, (by first | exact (HB.out.cell (World.block_lt_of_cell? w _ hw121_0)).trans hw121_0 | exact hw121_0), (ard_in (k := .i16) (l := [a0_1, a0_2, a0_3, a0_4]) (o := 1) BK119.out rfl P7.out Q7.out)⟩ (fun hHeld => ?_)
           clear hK K
           refine norm_ (a' := ?_) ?_ ?_
           rotate_left
           ·show Act.put _ (some 26) _ = _
            simp only [Act.put, sp_]
            rfl
           refine pure_ (i := 9) (N := some 27) (v := ?_) (a' := ?_) #[true, true, true, true, true, true, true, true, true, true, true, true, true, true, true, true, true, true, false, false, false, false] rfl rfl (any_of HT_.out (by kernel_rfl)) (fun _ _ _ h => h) (Or.inl ⟨by rfl, ?_⟩) ?_ ?_
           rotate_left
           ·intro w'
            go_simp
            with_reducible rfl
           rotate_left
           ·simp only [Act.put, sp_]
            rfl
           refine one_ (i := 18) (N := some 36) #[true, true, true, true, true, true, true, true, true, true, true, true, true, true, true, true, true, true, true, false, false, false] rfl rfl (one_of HT_.out (by kernel_rfl)) (by decide) (fun K hK => ?_)
           refine goes_ Tryd.func33 (by kernel_rfl) rfl #[.int .i64 (wrap64 (rd l0_0 x4_1))] (by rfl) rfl rfl arg_ ?_
           with_reducible refine (spec_Decimal.calls k1 (wrap64 (rd l0_0 x4_1)) t122 _ A10.out).mono ?_
           rintro e w17 ⟨rfl, hb⟩
           refine ⟨_, rfl, ?_⟩
           have n0_ := A_ (blk_below (pl_ BK119) hb)
           have n1_ := A_ (below_step (bl_ HB) hb)
           clear BK119
           clear HB
           have BK119 := n0_
           have HB := n1_
           clear n0_ n1_
           (try clear hb)
           (try clear hb2)
           (try clear hk)
           (try clear hi)
           refine hK.out _ _ ⟨(blk_cell BK119.out 0).trans rfl, (blk_cell BK119.out 1).trans rfl, (blk_cell BK119.out 2).trans rfl, (blk_cell BK119.out 3).trans rfl, (blk_cell BK119.out 4).trans rfl, (blk_cell BK119.out 5).trans rfl, (by first | exact (HB.out.cell (World.block_lt_of_cell? w _ hw121_0)).trans hw121_0 | exact hw121_0), (ard_in (k := .i16) (l := [a0_1, a0_2, a0_3, a0_4]) (o := 1) BK119.out rfl P7.out Q7.out)⟩ (fun hHeld => ?_)
           clear hK K
           refine norm_ (a' := ?_) ?_ ?_
           rotate_left
           ·show Act.put _ (some 36) _ = _
            simp only [Act.put, sp_]
            rfl
           refine pure_ (i := 19) (N := some 37) (v := ?_) (a' := ?_) #[true, true, true, true, true, true, true, true, true, true, true, true, true, true, true, true, true, true, true, true, false, false] rfl rfl (any_of HT_.out (by kernel_rfl)) (fun _ _ _ h => h) (Or.inl ⟨by rfl, ?_⟩) ?_ ?_
           rotate_left
           ·intro w'
            go_simp
            with_reducible rfl
           rotate_left
           ·simp only [Act.put, sp_]
            rfl
           refine pure_ (i := 20) (N := some 38) (v := ?_) (a' := ?_) #[true, true, true, true, true, true, true, true, true, true, true, true, true, true, true, true, true, true, true, true, true, false] rfl rfl (any_of HT_.out (by kernel_rfl)) (fun _ _ _ h => h) (Or.inl ⟨by rfl, ?_⟩) ?_ ?_
           rotate_left
           ·intro w'
            go_simp
            with_reducible rfl
           rotate_left
           ·simp only [Act.put, sp_]
            rfl
           refine pure_ (i := 21) (N := some 3) (v := ?_) (a' := ?_) #[true, true, true, true, true, true, true, true, true, true, true, true, true, true, true, true, true, true, true, true, true, true] rfl rfl (any_of HT_.out (by kernel_rfl)) (fun _ _ _ h => h) (Or.inl ⟨by rfl, ?_⟩) ?_ ?_
           rotate_left
           ·intro w'
            go_simp
            with_reducible rfl
           rotate_left
           ·simp only [Act.put, sp_]
            rfl
           refine done_ (done_of HT_.out (by kernel_rfl)) ?_
           try go_wp2
           go_roundg k1
           case measure => have := HK1.out; omega
           case rel => exact ⟨((x3_1 ++ (⟨#[32]⟩ : ByteArray)) ++ ((t120 ++ (⟨#[47]⟩ : ByteArray)) ++ t122)), (wrap64 (x4_1 + 1)), rs_, rs_, H', ⟨by have := HK1.out; omega⟩, ⟨pl_ BK119⟩, ⟨bl_ HB⟩⟩
          ·rw [if_neg c12] at H
           exact absurd H (by simp)
         ·rw [if_neg c11] at H
          exact absurd H (by simp)
        ·rw [if_neg c9] at H
         exact absurd H (by simp)
       ·rw [if_neg c6] at H
        exact absurd H (by simp)
      ·rw [if_neg c5] at H
       exact absurd H (by simp)
     ·rw [if_neg c4] at H
      exact absurd H (by simp)
    ·rw [if_neg c3] at H
     have c3b0 : decide (0 < x4_1) = false := decide_eq_false c3
     clear c3
     by_cases c18 : 0 ≤ x4_1
     ·rw [if_pos c18] at H
      have c18b0 : decide (0 ≤ x4_1) = true := decide_eq_true c18
      clear c18
      by_cases c19 : x4_1 < 4
      ·rw [if_pos c19] at H
       have c19b0 : decide (x4_1 < 4) = true := decide_eq_true c19
       clear c19
       replace H := Option.bind_eq_some_iff.mp H
       obtain ⟨t123, A210, H⟩ := H
       replace H : (if t123.size + 1 ≤ 9223372036854775807 then ((spec_Decimal.f k1 (wrap64 (rd l0_0 x4_1))).bind fun t125 => (if t123.size + 1 + t125.size ≤ 9223372036854775807 then (if x3_1.size + (t123.size + 1 + t125.size) ≤ 9223372036854775807 then (spec_l02Text.l0 k1 (x3_1 ++ ((t123 ++ (⟨#[47]⟩ : ByteArray)) ++ t125)) (wrap64 (x4_1 + 1)) l0_0 a0_1 a0_2 a0_3 a0_4 a0_5) else (none)) else (none))) else (none)) = some r := H
       have A21 := Aside0.mk A210
       clear A210
       by_cases c22 : t123.size + 1 ≤ 9223372036854775807
       ·rw [if_pos c22] at H
        have c22b0 := eq_true c22
        have c22b1 : decide (t123.size + 1 ≤ 9223372036854775807) = true := decide_eq_true c22
        try have c22b2 : (9223372036854775807 < t123.size + 1) = False := eq_false (Nat.not_lt.2 c22)
        replace H := Option.bind_eq_some_iff.mp H
        obtain ⟨t125, A230, H⟩ := H
        replace H : (if t123.size + 1 + t125.size ≤ 9223372036854775807 then (if x3_1.size + (t123.size + 1 + t125.size) ≤ 9223372036854775807 then (spec_l02Text.l0 k1 (x3_1 ++ ((t123 ++ (⟨#[47]⟩ : ByteArray)) ++ t125)) (wrap64 (x4_1 + 1)) l0_0 a0_1 a0_2 a0_3 a0_4 a0_5) else (none)) else (none)) = some r := H
        have A23 := Aside0.mk A230
        clear A230
        by_cases c24 : t123.size + 1 + t125.size ≤ 9223372036854775807
        ·rw [if_pos c24] at H
         have c24b0 := eq_true c24
         have c24b1 : decide (t123.size + 1 + t125.size ≤ 9223372036854775807) = true := decide_eq_true c24
         try have c24b2 : (9223372036854775807 < t123.size + 1 + t125.size) = False := eq_false (Nat.not_lt.2 c24)
         by_cases c25 : x3_1.size + (t123.size + 1 + t125.size) ≤ 9223372036854775807
         ·rw [if_pos c25] at H
          have c25b0 := eq_true c25
          have c25b1 : decide (x3_1.size + (t123.size + 1 + t125.size) ≤ 9223372036854775807) = true := decide_eq_true c25
          try have c25b2 : (9223372036854775807 < x3_1.size + (t123.size + 1 + t125.size)) = False := eq_false (Nat.not_lt.2 c25)
          have H' := Aside0.mk H
          clear H
          obtain ⟨hcz26_0, hcz26_1, hcz26_2, hcz26_3, hcz26_4, hcz26_5, hfz26_0, hfz26_1, hfz26_2, hfz26_3, hfz26_4, hfz26_5⟩ := cl6_ BK119
          try go_wp2
          have n0_ := A_ (blk_drew BK119.out)
          have n1_ := A_ (below_drew1 HB.out)
          clear BK119
          clear HB
          have BK119 := n0_
          have HB := n1_
          clear n0_ n1_
          obtain ⟨hcz28_0, hcz28_1, hcz28_2, hcz28_3, hcz28_4, hcz28_5, hfz28_0, hfz28_1, hfz28_2, hfz28_3, hfz28_4, hfz28_5⟩ := cl6_ BK119
          have p20 : 0 ≤ (x4_1 : Int) := asm_
          have q20 : (x4_1 : Int) < 4 := asm_
          have hx20 : (wr.drew).cell? ⟨gp0, 1 + (x4_1 : Int).toNat, none⟩ = some (.int .i16 (rd [a0_1, a0_2, a0_3, a0_4] x4_1)) := ard_in (k := .i16) (l := [a0_1, a0_2, a0_3, a0_4]) (o := 1) BK119.out rfl p20 q20
          have hf20 := blk_frozen BK119.out (1 + (x4_1 : Int).toNat)
          have P20 := Aside0.mk p20
          have Q20 := Aside0.mk q20
          replace p20 := eq_true p20
          replace q20 := eq_true q20
          have p124 : 0 ≤ (x4_1 : Int) := asm_
          have q124 : x4_1 < (l0_0.length : Int) := asm_
          obtain ⟨ad124, e124, hx124_0⟩ := Kd.at_int HR0_0.out x4_1 p124 q124
          have hw124_0 := hx124_0
          cases e124
          (try replace hx124_0 := (HB.out.cell (World.block_lt_of_cell? w _ hx124_0)).trans hx124_0)
          replace p124 := eq_true p124
          replace q124 := eq_true q124
          refine start_ (n := 22) (S := fun w' => w'.cell? ⟨gp0, 0, none⟩ = some (.slice (some ad124) l0_0.length c0_0) ∧ w'.cell? ⟨gp0, 1, none⟩ = some (.int .i16 a0_1) ∧ w'.cell? ⟨gp0, 2, none⟩ = some (.int .i16 a0_2) ∧ w'.cell? ⟨gp0, 3, none⟩ = some (.int .i16 a0_3) ∧ w'.cell? ⟨gp0, 4, none⟩ = some (.int .i16 a0_4) ∧ w'.cell? ⟨gp0, 5, none⟩ = some (.bool a0_5) ∧ w'.cell? (ad124.add (x4_1).toNat) = some (.int .i16 (rd l0_0 x4_1)) ∧ w'.cell? ⟨gp0, 1 + (x4_1 : Int).toNat, none⟩ = some (.int .i16 (rd [a0_1, a0_2, a0_3, a0_4] x4_1))) (ds := []) #[false, false, false, false, false, false, false, false, false, false, false, false, false, false, false, false, false, false, false, false, false, false] (by kernel_rfl) rfl rfl ⟨(blk_cell BK119.out 0).trans rfl, (blk_cell BK119.out 1).trans rfl, (blk_cell BK119.out 2).trans rfl, (blk_cell BK119.out 3).trans rfl, (blk_cell BK119.out 4).trans rfl, (blk_cell BK119.out 5).trans rfl, (by first | exact (HB.out.cell (World.block_lt_of_cell? w _ hw124_0)).trans hw124_0 | exact hw124_0), hx20⟩ (fun hHeld => ?_); refine with_tabW spec_l02Text.tab7 spec_l02Text.bits7 (fun HT_ HW_ => ?_)
          generalize wr.drew = w27 at BK119 HB hx124_0 hx20 hHeld ⊢
          refine pure_ (i := 0) (N := some 18) (v := ?_) (a' := ?_) #[true, false, false, false, false, false, false, false, false, false, false, false, false, false, false, false, false, false, false, false, false, false] rfl rfl (any_of HT_.out (by kernel_rfl)) (fun _ _ _ h => h) (Or.inl ⟨by rfl, ?_⟩) ?_ ?_
          rotate_left
          ·intro w'
           go_simp
           with_reducible rfl
          rotate_left
          ·simp only [Act.put, sp_]
           rfl
          refine pure_ (i := 1) (N := some 19) (v := ?_) (a' := ?_) #[true, true, false, false, false, false, false, false, false, false, false, false, false, false, false, false, false, false, false, false, false, false] rfl rfl (any_of HT_.out (by kernel_rfl)) (fun _ _ _ h => h) (Or.inl ⟨by rfl, ?_⟩) ?_ ?_
          rotate_left
          ·intro w'
           go_simp
           with_reducible rfl
          rotate_left
          ·simp only [Act.put, sp_]
           rfl
          refine pure_ (i := 2) (N := some 20) (v := ?_) (a' := ?_) #[true, true, true, false, false, false, false, false, false, false, false, false, false, false, false, false, false, false, false, false, false, false] rfl rfl (any_of HT_.out (by kernel_rfl)) (fun _ _ _ h => h) (Or.inl ⟨by rfl, ?_⟩) ?_ ?_
          rotate_left
          ·intro w'
           go_simp
           with_reducible rfl
          rotate_left
          ·simp only [Act.put, sp_]
           rfl
          refine pure_ (i := 3) (N := some 21) (v := ?_) (a' := ?_) #[true, true, true, true, false, false, false, false, false, false, false, false, false, false, false, false, false, false, false, false, false, false] rfl rfl (any_of HT_.out (by kernel_rfl)) (fun _ _ _ h => h) (Or.inl ⟨by rfl, ?_⟩) ?_ ?_
          rotate_left
          ·intro w'
           go_simp
           with_reducible rfl
          rotate_left
          ·simp only [Act.put, sp_]
           rfl
          refine pure_ (i := 4) (N := some 22) (v := ?_) (a' := ?_) #[true, true, true, true, true, false, false, false, false, false, false, false, false, false, false, false, false, false, false, false, false, false] rfl rfl (any_of HT_.out (by kernel_rfl)) (fun _ _ _ h => h) (Or.inl ⟨by rfl, ?_⟩) ?_ ?_
          rotate_left
          ·intro w'
           go_simp
           with_reducible rfl
          rotate_left
          ·simp only [Act.put, sp_]
           rfl
          refine pure_ (i := 5) (N := some 23) (v := ?_) (a' := ?_) #[true, true, true, true, true, true, false, false, false, false, false, false, false, false, false, false, false, false, false, false, false, false] rfl rfl (any_of HT_.out (by kernel_rfl)) (fun _ _ _ h => h) (Or.inl ⟨by rfl, ?_⟩) ?_ ?_
          rotate_left
          ·intro w'
           go_simp
           with_reducible rfl
          rotate_left
          ·simp only [Act.put, sp_]
           rfl
          refine pure_ (i := 10) (N := some 28) (v := ?_) (a' := ?_) #[true, true, true, true, true, true, false, false, false, false, true, false, false, false, false, false, false, false, false, false, false, false] rfl rfl (any_of HT_.out (by kernel_rfl)) (fun _ _ _ h => h) (Or.inl ⟨by rfl, ?_⟩) ?_ ?_
          rotate_left
          ·intro w'
           go_simp
           with_reducible rfl
          rotate_left
          ·simp only [Act.put, sp_]
           rfl
          refine pure_ (i := 11) (N := some 29) (v := ?_) (a' := ?_) #[true, true, true, true, true, true, false, false, false, false, true, true, false, false, false, false, false, false, false, false, false, false] rfl rfl (any_of HT_.out (by kernel_rfl)) (fun _ _ _ h => h) (Or.inl ⟨by rfl, ?_⟩) ?_ ?_
          rotate_left
          ·intro w'
           go_simp
           with_reducible rfl
          rotate_left
          ·simp only [Act.put, sp_]
           rfl
          refine pure_ (i := 12) (N := some 30) (v := ?_) (a' := ?_) #[true, true, true, true, true, true, false, false, false, false, true, true, true, false, false, false, false, false, false, false, false, false] rfl rfl (any_of HT_.out (by kernel_rfl)) (fun _ _ _ h => h) (Or.inl ⟨by rfl, ?_⟩) ?_ ?_
          rotate_left
          ·intro w'
           go_simp
           with_reducible rfl
          rotate_left
          ·simp only [Act.put, sp_]
           rfl
          refine pure_ (i := 14) (N := some 32) (v := ?_) (a' := ?_) #[true, true, true, true, true, true, false, false, false, false, true, true, true, false, true, false, false, false, false, false, false, false] rfl rfl (any_of HT_.out (by kernel_rfl)) (fun _ _ _ h => h) (Or.inl ⟨by rfl, ?_⟩) ?_ ?_
          rotate_left
          ·intro w'
           go_simp
           with_reducible rfl
          rotate_left
          ·simp only [Act.put, sp_]
           rfl
          refine take_ (i := 6) (N := some 24) (v := ?_) (a' := ?_) #[true, true, true, true, true, true, true, false, false, false, true, true, true, false, true, false, false, false, false, false, false, false] rfl rfl (take_ofW HT_.out HW_.out (by kernel_rfl)) (fun _ _ _ h => h) (Or.inl ⟨by rfl, ?_⟩) hHeld ?_ ?_
          rotate_left
          ·rintro w' ⟨s0, s1, s2, s3, s4, s5, s6, s7⟩
           go_simp
           with_reducible rfl
          rotate_left
          ·simp only [Act.put, sp_]
           rfl
          refine pure_ (i := 7) (N := some 25) (v := ?_) (a' := ?_) #[true, true, true, true, true, true, true, true, false, false, true, true, true, false, true, false, false, false, false, false, false, false] rfl rfl (any_of HT_.out (by kernel_rfl)) (fun _ _ _ h => h) (Or.inl ⟨by rfl, ?_⟩) ?_ ?_
          rotate_left
          ·intro w'
           go_simp
           with_reducible rfl
          rotate_left
          ·simp only [Act.put, sp_]
           rfl
          refine take_ (i := 13) (N := some 31) (v := ?_) (a' := ?_) #[true, true, true, true, true, true, true, true, false, false, true, true, true, true, true, false, false, false, false, false, false, false] rfl rfl (take_ofW HT_.out HW_.out (by kernel_rfl)) (fun _ _ _ h => h) (Or.inl ⟨by rfl, ?_⟩) hHeld ?_ ?_
          rotate_left
          ·rintro w' ⟨s0, s1, s2, s3, s4, s5, s6, s7⟩
           go_simp
           with_reducible rfl
          rotate_left
          ·simp only [Act.put, sp_]
           rfl
          refine pure_ (i := 15) (N := some 33) (v := ?_) (a' := ?_) #[true, true, true, true, true, true, true, true, false, false, true, true, true, true, true, true, false, false, false, false, false, false] rfl rfl (any_of HT_.out (by kernel_rfl)) (fun _ _ _ h => h) (Or.inl ⟨by rfl, ?_⟩) ?_ ?_
          rotate_left
          ·intro w'
           go_simp
           with_reducible rfl
          rotate_left
          ·simp only [Act.put, sp_]
           rfl
          refine take_ (i := 16) (N := some 34) (v := ?_) (a' := ?_) #[true, true, true, true, true, true, true, true, false, false, true, true, true, true, true, true, true, false, false, false, false, false] rfl rfl (take_ofW HT_.out HW_.out (by kernel_rfl)) (fun _ _ _ h => h) (Or.inl ⟨by rfl, ?_⟩) hHeld ?_ ?_
          rotate_left
          ·rintro w' ⟨s0, s1, s2, s3, s4, s5, s6, s7⟩
           go_simp
           with_reducible rfl
          rotate_left
          ·simp only [Act.put, sp_]
           rfl
          refine pure_ (i := 17) (N := some 35) (v := ?_) (a' := ?_) #[true, true, true, true, true, true, true, true, false, false, true, true, true, true, true, true, true, true, false, false, false, false] rfl rfl (any_of HT_.out (by kernel_rfl)) (fun _ _ _ h => h) (Or.inl ⟨by rfl, ?_⟩) ?_ ?_
          rotate_left
          ·intro w'
           go_simp
           with_reducible rfl
          rotate_left
          ·simp only [Act.put, sp_]
           rfl
          refine one_ (i := 8) (N := some 26) #[true, true, true, true, true, true, true, true, true, false, true, true, true, true, true, true, true, true, false, false, false, false] rfl rfl (one_of HT_.out (by kernel_rfl)) (by decide) (fun K hK => ?_)
          refine goes_ Tryd.func33 (by kernel_rfl) rfl #[.int .i64 (wrap64 (rd [a0_1, a0_2, a0_3, a0_4] x4_1))] (by rfl) rfl rfl arg_ ?_
          with_reducible refine (spec_Decimal.calls k1 (wrap64 (rd [a0_1, a0_2, a0_3, a0_4] x4_1)) t123 _ A21.out).mono ?_
          rintro e w29 ⟨rfl, hb⟩
          refine ⟨_, rfl, ?_⟩
          have n0_ := A_ (blk_below (pl_ BK119) hb)
          have n1_ := A_ (below_step (bl_ HB) hb)
          clear BK119
          clear HB
          have BK119 := n0_
          have HB := n1_
          clear n0_ n1_
          (try clear hb)
          (try clear hb2)
          (try clear hk)
          (try clear hi)
          refine hK.out _ _ ⟨(blk_cell BK119.out 0).trans rfl, (blk_cell BK119.out 1).trans rfl, (blk_cell BK119.out 2).trans rfl, (blk_cell BK119.out 3).trans rfl, (blk_cell BK119.out 4).trans rfl, (blk_cell BK119.out 5).trans rfl, (by first | exact (HB.out.cell (World.block_lt_of_cell? w _ hw124_0)).trans hw124_0 | exact hw124_0), (ard_in (k := .i16) (l := [a0_1, a0_2, a0_3, a0_4]) (o := 1) BK119.out rfl P20.out Q20.out)⟩ (fun hHeld => ?_)
          clear hK K
          refine norm_ (a' := ?_) ?_ ?_
          rotate_left
          ·show Act.put _ (some 26) _ = _
           simp only [Act.put, sp_]
           rfl
          refine pure_ (i := 9) (N := some 27) (v := ?_) (a' := ?_) #[true, true, true, true, true, true, true, true, true, true, true, true, true, true, true, true, true, true, false, false, false, false] rfl rfl (any_of HT_.out (by kernel_rfl)) (fun _ _ _ h => h) (Or.inl ⟨by rfl, ?_⟩) ?_ ?_
          rotate_left
          ·intro w'
           go_simp
           with_reducible rfl
          rotate_left
          ·simp only [Act.put, sp_]
           rfl
          refine one_ (i := 18) (N := some 36) #[true, true, true, true, true, true, true, true, true, true, true, true, true, true, true, true, true, true, true, false, false, false] rfl rfl (one_of HT_.out (by kernel_rfl)) (by decide) (fun K hK => ?_)
          refine goes_ Tryd.func33 (by kernel_rfl) rfl #[.int .i64 (wrap64 (rd l0_0 x4_1))] (by rfl) rfl rfl arg_ ?_
          with_reducible refine (spec_Decimal.calls k1 (wrap64 (rd l0_0 x4_1)) t125 _ A23.out).mono ?_
          rintro e w30 ⟨rfl, hb⟩
          refine ⟨_, rfl, ?_⟩
          have n0_ := A_ (blk_below (pl_ BK119) hb)
          have n1_ := A_ (below_step (bl_ HB) hb)
          clear BK119
          clear HB
          have BK119 := n0_
          have HB := n1_
          clear n0_ n1_
          (try clear hb)
          (try clear hb2)
          (try clear hk)
          (try clear hi)
          refine hK.out _ _ ⟨(blk_cell BK119.out 0).trans rfl, (blk_cell BK119.out 1).trans rfl, (blk_cell BK119.out 2).trans rfl, (blk_cell BK119.out 3).trans rfl, (blk_cell BK119.out 4).trans rfl, (blk_cell BK119.out 5).trans rfl, (by first | exact (HB.out.cell (World.block_lt_of_cell? w _ hw124_0)).trans hw124_0 | exact hw124_0), (ard_in (k := .i16) (l := [a0_1, a0_2, a0_3, a0_4]) (o := 1) BK119.out rfl P20.out Q20.out)⟩ (fun hHeld => ?_)
          clear hK K
          refine norm_ (a' := ?_) ?_ ?_
          rotate_left
          ·show Act.put _ (some 36) _ = _
           simp only [Act.put, sp_]
           rfl
          refine pure_ (i := 19) (N := some 37) (v := ?_) (a' := ?_) #[true, true, true, true, true, true, true, true, true, true, true, true, true, true, true, true, true, true, true, true, false, false] rfl rfl (any_of HT_.out (by kernel_rfl)) (fun _ _ _ h => h) (Or.inl ⟨by rfl, ?_⟩) ?_ ?_
          rotate_left
          ·intro w'
           go_simp
           with_reducible rfl
          rotate_left
          ·simp only [Act.put, sp_]
           rfl
          refine pure_ (i := 20) (N := some 38) (v := ?_) (a' := ?_) #[true, true, true, true, true, true, true, true, true, true, true, true, true, true, true, true, true, true, true, true, true, false] rfl rfl (any_of HT_.out (by kernel_rfl)) (fun _ _ _ h => h) (Or.inl ⟨by rfl, ?_⟩) ?_ ?_
          rotate_left
          ·intro w'
           go_simp
           with_reducible rfl
          rotate_left
          ·simp only [Act.put, sp_]
           rfl
          refine pure_ (i := 21) (N := some 3) (v := ?_) (a' := ?_) #[true, true, true, true, true, true, true, true, true, true, true, true, true, true, true, true, true, true, true, true, true, true] rfl rfl (any_of HT_.out (by kernel_rfl)) (fun _ _ _ h => h) (Or.inl ⟨by rfl, ?_⟩) ?_ ?_
          rotate_left
          ·intro w'
           go_simp
           with_reducible rfl
          rotate_left
          ·simp only [Act.put, sp_]
           rfl
          refine done_ (done_of HT_.out (by kernel_rfl)) ?_
          try go_wp2
          go_roundg k1
          case measure => have := HK1.out; omega
          case rel => exact ⟨(x3_1 ++ ((t123 ++ (⟨#[47]⟩ : ByteArray)) ++ t125)), (wrap64 (x4_1 + 1)), rs_, rs_, H', ⟨by have := HK1.out; omega⟩, ⟨pl_ BK119⟩, ⟨bl_ HB⟩⟩
         ·rw [if_neg c25] at H
          exact absurd H (by simp)
        ·rw [if_neg c24] at H
         exact absurd H (by simp)
       ·rw [if_neg c22] at H
        exact absurd H (by simp)
      ·rw [if_neg c19] at H
       exact absurd H (by simp)
     ·rw [if_neg c18] at H
      exact absurd H (by simp)
   ·rw [if_neg c2] at H
    have c2b0 : decide (x4_1 < (l0_0.length : Int)) = false := decide_eq_false c2
    clear c2
    by_cases c31 : a0_5 = true
    ·subst c31
     have H1 : (if x3_1.size + 4 ≤ 9223372036854775807 then (some (x3_1 ++ (⟨#[32, 116, 97, 112]⟩ : ByteArray))) else (none)) = some r := by rw [if_pos rfl] at H; exact H
     clear H
     have H := H1
     clear H1
     by_cases c32 : x3_1.size + 4 ≤ 9223372036854775807
     ·rw [if_pos c32] at H
      have c32b0 := eq_true c32
      have c32b1 : decide (x3_1.size + 4 ≤ 9223372036854775807) = true := decide_eq_true c32
      try have c32b2 : (9223372036854775807 < x3_1.size + 4) = False := eq_false (Nat.not_lt.2 c32)
      obtain rfl := Option.some.inj H
      obtain ⟨hcz33_0, hcz33_1, hcz33_2, hcz33_3, hcz33_4, hcz33_5, hfz33_0, hfz33_1, hfz33_2, hfz33_3, hfz33_4, hfz33_5⟩ := cl6_ BK119
      go_wp2
      go_ret
      exact ⟨by first | rfl | (simp [errW_none, errW_some] <;> rfl) | (simp [*, errW_none, errW_some] <;> rfl), bl_ HB⟩
     ·rw [if_neg c32] at H
      exact absurd H (by simp)
    ·replace c31 := Bool.eq_false_iff.mpr c31
     subst c31
     have H1 : (some x3_1) = some r := by rw [if_neg (show ¬ (false = true) by decide)] at H; exact H
     clear H
     have H := H1
     clear H1
     obtain rfl := Option.some.inj H
     obtain ⟨hcz34_0, hcz34_1, hcz34_2, hcz34_3, hcz34_4, hcz34_5, hfz34_0, hfz34_1, hfz34_2, hfz34_3, hfz34_4, hfz34_5⟩ := cl6_ BK119
     go_wp2
     go_ret
     exact ⟨by first | rfl | (simp [errW_none, errW_some] <;> rfl) | (simp [*, errW_none, errW_some] <;> rfl), bl_ HB⟩

end Go.Proofs.YtodmfjophjhbeaaDoor.M
