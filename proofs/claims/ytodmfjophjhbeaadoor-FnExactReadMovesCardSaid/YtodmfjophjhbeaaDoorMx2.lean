-- By this seat's own program over the kit's printer (arrays, functions told by hand); nothing of it is trusted: the kernel checks it.
import Derived.Test.YtodmfjophjhbeaaDoorMx0
namespace Go.Proofs.YtodmfjophjhbeaaDoor.M
open Go.RowKit Go.Proofs.YtodmfjophjhbeaaDoorW.PrintWords Go.Proofs.YtodmfjophjhbeaaDoorW.PrintLast Go.Proofs.YtodmfjophjhbeaaDoorW.PrintMore
attribute [local go_sem] max2_int min2_int max_two min_two max_three min_three max_four min_four   -- for this text's walks alone
set_option linter.unusedVariables false
set_option linter.unusedSimpArgs false

/-! ### spec_l02ReadMove: function 26 -/
mutual
def spec_l02ReadMove.j0 : Nat → ByteArray → Bool → Option (Int × Int × Int × Bool)
 | 0, _, _ => none
 | k + 1, x0, x13 => if x13 = true then (if 0 < (x0.size : Int) then (if 2 < (x0.size : Int) then (if (bt x0 0) ≥ 97 then (if (bt x0 0) < 101 then (if (bt x0 2) ≥ 97 then (some (0, IntKind.i8.wrap ((IntKind.i8.wrap (bt x0 0)) - 97), IntKind.i8.wrap ((IntKind.i8.wrap (bt x0 2)) - 97), decide ((bt x0 2) < 101))) else (some (0, IntKind.i8.wrap ((IntKind.i8.wrap (bt x0 0)) - 97), IntKind.i8.wrap ((IntKind.i8.wrap (bt x0 2)) - 97), false))) else (some (0, IntKind.i8.wrap ((IntKind.i8.wrap (bt x0 0)) - 97), IntKind.i8.wrap ((IntKind.i8.wrap (bt x0 2)) - 97), false))) else (some (0, IntKind.i8.wrap ((IntKind.i8.wrap (bt x0 0)) - 97), IntKind.i8.wrap ((IntKind.i8.wrap (bt x0 2)) - 97), false))) else (none)) else (none)) else (if (x0.size : Int) = 2 then (if 0 < (x0.size : Int) then (if (bt x0 0) = 43 then (if 1 < (x0.size : Int) then (if (bt x0 1) < 97 then (spec_l02ReadMove.j1 k x0 true) else (spec_l02ReadMove.j1 k x0 (decide ((bt x0 1) ≥ 101)))) else (none)) else (if (bt x0 0) = 45 then (if 1 < (x0.size : Int) then (if (bt x0 1) < 97 then (spec_l02ReadMove.j1 k x0 true) else (spec_l02ReadMove.j1 k x0 (decide ((bt x0 1) ≥ 101)))) else (none)) else (spec_l02ReadMove.j1 k x0 true))) else (none)) else (spec_l02ReadMove.j1 k x0 true))
def spec_l02ReadMove.j1 : Nat → ByteArray → Bool → Option (Int × Int × Int × Bool)
 | 0, _, _ => none
 | k + 1, x0, x64 => if x64 = true then (some (0, 0, 0, false)) else (if 1 < (x0.size : Int) then (if 0 < (x0.size : Int) then (if (bt x0 0) = 45 then (some (2, IntKind.i8.wrap ((IntKind.i8.wrap (bt x0 1)) - 97), 0, true)) else (some (1, IntKind.i8.wrap ((IntKind.i8.wrap (bt x0 1)) - 97), 0, true))) else (none)) else (none))
end
def spec_l02ReadMove.f (k : Nat) (a0 : ByteArray) : Option (Int × Int × Int × Bool) := if (a0.size : Int) = 3 then (if 1 < (a0.size : Int) then (spec_l02ReadMove.j0 k a0 ((bt a0 1) == 62)) else (none)) else (spec_l02ReadMove.j0 k a0 false)
theorem spec_l02ReadMove.mono_l : ∀ k, (∀ y0 y1, LeO (spec_l02ReadMove.j0 k y0 y1) (spec_l02ReadMove.j0 (k + 1) y0 y1)) ∧ (∀ y0 y1, LeO (spec_l02ReadMove.j1 k y0 y1) (spec_l02ReadMove.j1 (k + 1) y0 y1))
 | 0 => ⟨fun _ _ r h => by simp [spec_l02ReadMove.j0] at h, fun _ _ r h => by simp [spec_l02ReadMove.j1] at h⟩
 | k + 1 => by
  obtain ⟨ih0, ih1⟩ := spec_l02ReadMove.mono_l k
  refine ⟨?_, ?_⟩
  ·intro y0 y1
   unfold spec_l02ReadMove.j0
   repeat' first
   | (with_reducible exact ih0 _ _)
   | (with_reducible exact ih1 _ _)
   | (with_reducible exact LeO.refl _)
   | (with_reducible exact LeO.none _)
   | (with_reducible refine LeO.ite ?_ ?_)
   | (with_reducible refine LeO.bind ?_ (fun _ => ?_))
   | exact ih0 _ _
   | exact ih1 _ _
   | exact LeO.none _
   | refine LeO.ite ?_ ?_
   | refine LeO.bind ?_ (fun _ => ?_)
  ·intro y0 y1
   unfold spec_l02ReadMove.j1
   repeat' first
   | (with_reducible exact ih0 _ _)
   | (with_reducible exact ih1 _ _)
   | (with_reducible exact LeO.refl _)
   | (with_reducible exact LeO.none _)
   | (with_reducible refine LeO.ite ?_ ?_)
   | (with_reducible refine LeO.bind ?_ (fun _ => ?_))
   | exact ih0 _ _
   | exact ih1 _ _
   | exact LeO.none _
   | refine LeO.ite ?_ ?_
   | refine LeO.bind ?_ (fun _ => ?_)
theorem spec_l02ReadMove.mono : ∀ a0 k, LeO (spec_l02ReadMove.f k a0) (spec_l02ReadMove.f (k + 1) a0) := by
 intro a0 k
 obtain ⟨ih0, ih1⟩ := spec_l02ReadMove.mono_l k
 unfold spec_l02ReadMove.f
 repeat' first
   | (with_reducible exact ih0 _ _)
   | (with_reducible exact ih1 _ _)
   | (with_reducible exact LeO.refl _)
   | (with_reducible exact LeO.none _)
   | (with_reducible refine LeO.ite ?_ ?_)
   | (with_reducible refine LeO.bind ?_ (fun _ => ?_))
   | exact ih0 _ _
   | exact ih1 _ _
   | exact LeO.none _
   | refine LeO.ite ?_ ?_
   | refine LeO.bind ?_ (fun _ => ?_)
def spec_l02ReadMove.T2 : Bool × List (List Nat × List Nat) := (true, [([], []), ([0], [0]), ([1], [1]), ([2], [2]), ([], []), ([4], [4]), ([5], [5]), ([6], [6]), ([3, 7], [3, 7]), ([], []), ([9, 8, 0, 1, 2, 3, 4, 5, 6, 7, 8, 9], [8, 9])])
def spec_l02ReadMove.B2 : List Nat := [0, 1, 3, 7, 0, 16, 48, 112, 255, 0, 1023]
theorem spec_l02ReadMove.tab2 : rtab .any (opsOf Tryd.f26 2) = spec_l02ReadMove.T2 := by kernel_rfl
theorem spec_l02ReadMove.bits2 : waitsOk spec_l02ReadMove.T2.2 spec_l02ReadMove.B2 = true := by kernel_rfl
def spec_l02ReadMove.T3 : Bool × List (List Nat × List Nat) := (true, [([], []), ([], []), ([1], [1]), ([2], [2]), ([3], [3]), ([4], [4]), ([5, 4], [4, 5]), ([6, 4], [4, 6]), ([4, 7], [4, 7]), ([8, 4], [8]), ([9], [9]), ([10, 9], [9, 10]), ([11, 9], [9, 11]), ([9, 12], [9, 12]), ([13, 9], [13]), ([14], [14]), ([15, 14], [14, 15]), ([16, 14], [14, 16]), ([14, 17], [14, 17]), ([0, 14, 0], [0]), ([18, 19, 0, 1, 2, 3, 4, 5, 6, 7, 8, 9, 10, 11, 12, 13, 14, 15, 16, 17, 18, 19], [18])])
def spec_l02ReadMove.B3 : List Nat := [0, 0, 2, 6, 14, 30, 62, 126, 254, 510, 1022, 2046, 4094, 8190, 16382, 32766, 65534, 131070, 262142, 32767, 1048575]
theorem spec_l02ReadMove.tab3 : rtab .any (opsOf Tryd.f26 3) = spec_l02ReadMove.T3 := by kernel_rfl
theorem spec_l02ReadMove.bits3 : waitsOk spec_l02ReadMove.T3.2 spec_l02ReadMove.B3 = true := by kernel_rfl
set_option maxHeartbeats 8000000 in
set_option maxRecDepth 100000 in
theorem spec_l02ReadMove.calls (k : Nat) (a0 : ByteArray) (r1 : Int) (r2 : Int) (r3 : Int) (r4 : Bool) (w : World) (h : spec_l02ReadMove.f k a0 = some (r1, r2, r3, r4)) :
  Calls Tryd.prog 26 #[.string a0] w fun e w' => e = .returned (.tuple #[.agg #[.int .i8 r1, .int .i8 r2, .int .i8 r3], .bool r4]) ∧ Below w.heap.size w w' := by
 have hu56 := Tryd.underlying56
 have HB := A_ (Below.refl w.heap.size w)
 have H : (if (a0.size : Int) = 3 then (if 1 < (a0.size : Int) then (spec_l02ReadMove.j0 k a0 ((bt a0 1) == 62)) else (none)) else (spec_l02ReadMove.j0 k a0 false)) = some (r1, r2, r3, r4) := h
 clear h
 have HC2 := Aside0.mk H
 clear H
 go_enter Tryd.func26, Tryd.ntmps26
 go_upto_region 1 with (first | ((with_reducible refine gate_dst (N := 2) rfl ?_); refine box_event ?hg (N := 2) ?hd (cs := #[.int .i8 0, .int .i8 0, .int .i8 0]) (t := 56) ?hr ?_; (case hd => rfl); (case hg => rfl); (case hr => first | (go_simp; done) | (go_simp; rfl)); intro gb110 hg w3 hbox hb; have n0_ := A_ (below_step (bl_ HB) hb); have n1_ := A_ (hbox); have n2_ := A_ ((by rw [hg]; exact (below_size (bl_ HB)) : w.heap.size ≤ gb110)); have n3_ := n2_; clear HB; have HB := n0_; have BK110 := n1_; have GW110 := n2_; have GE110 := n3_; clear n0_ n1_ n2_ n3_; clear hb hbox hg))
 (try simp only [Act.put, List.setIfInBounds_toArray, List.set_cons_zero, List.set_cons_succ])
 go_cut [13] (fun v13 wc => ∃ (kq : Nat) (x13_1 : Bool), v13 = .bool x13_1 ∧ Aside0 (spec_l02ReadMove.j0 kq a0 x13_1 = some (r1, r2, r3, r4)) ∧ Aside0 (kq ≤ k) ∧ Aside0 (wc.heap[gb110]? = some (.cells #[.int .i8 0, .int .i8 0, .int .i8 0] 56 (0, 0))) ∧ Aside0 (Below w.heap.size w wc))
 case first =>
  have H := HC2.out
  clear HC2
  by_cases c4 : (a0.size : Int) = 3
  ·rw [if_pos c4] at H
   have c4b0 : ((a0.size : Int) == 3) = true := beq_iff_eq.mpr c4
   have c4b1 : ((a0.size : Int) != 3) = false := bne_eq_false_iff_eq.mpr c4
   clear c4
   (first | rw [c4b0] | (simp only [i64_w, i32_w]; rw [c4b0]) | skip)
   by_cases c5 : 1 < (a0.size : Int)
   ·rw [if_pos c5] at H
    have c5b0 : decide (1 < (a0.size : Int)) = true := decide_eq_true c5
    have c5b1 : decide (1 < a0.size) = true := decide_eq_true (by omega)
    clear c5
    have H' := Aside0.mk H
    clear H
    have p6 : 0 ≤ (1 : Int) := (by omega)
    have q6 : 1 < a0.size := (by have : (1 : Int) < (a0.size : Int) := asm_; omega)
    have hx6 : ∀ h : 1 < a0.size, ((a0[1]'h).toNat : Int) = bt a0 1 := bt_at a0 1
    clear p6
    have qi6 : (1 < (a0.size : Int)) = True := eq_true (asm_)
    replace q6 := eq_true q6
    go_wp2
    go_meet
    case rel => exact ⟨_, (((bt a0 1) == 62)), rs_, H', ⟨by first | omega | exact Nat.le_refl _⟩, ⟨pl_ BK110⟩, ⟨bl_ HB⟩⟩
   ·rw [if_neg c5] at H
    exact absurd H (by simp)
  ·rw [if_neg c4] at H
   have c4b0 : ((a0.size : Int) == 3) = false := beq_eq_false_iff_ne.mpr c4
   have c4b1 : ((a0.size : Int) != 3) = true := bne_iff_ne.mpr c4
   (first | rw [c4b0] | (simp only [i64_w, i32_w]; rw [c4b0]) | skip)
   have H' := Aside0.mk H
   clear H
   go_wp2
   go_meet
   case rel => exact ⟨_, (false), rs_, H', ⟨by first | omega | exact Nat.le_refl _⟩, ⟨pl_ BK110⟩, ⟨bl_ HB⟩⟩
 case rest =>
  clear HC2
  try clear c2
  try clear p2
  try clear c4
  try clear c4b0
  try clear c4b1
  try clear c5
  try clear c5b0
  try clear c5b1
  try clear p6
  try clear q6
  try clear hx6
  try clear qi6
  try clear p6
  try clear q6
  obtain ⟨kq, x13_1, rfl, HA, HJ1, BK110, HB⟩ := hcut
  cases kq with
  | zero => exact absurd HA.out (by simp [spec_l02ReadMove.j0])
  | succ kj1 =>
   have H := HA.out
   clear HA
   simp only [spec_l02ReadMove.j0] at H
   by_cases c7 : x13_1 = true
   ·subst c7
    have H1 : (if 0 < (a0.size : Int) then (if 2 < (a0.size : Int) then (if (bt a0 0) ≥ 97 then (if (bt a0 0) < 101 then (if (bt a0 2) ≥ 97 then (some (0, IntKind.i8.wrap ((IntKind.i8.wrap (bt a0 0)) - 97), IntKind.i8.wrap ((IntKind.i8.wrap (bt a0 2)) - 97), decide ((bt a0 2) < 101))) else (some (0, IntKind.i8.wrap ((IntKind.i8.wrap (bt a0 0)) - 97), IntKind.i8.wrap ((IntKind.i8.wrap (bt a0 2)) - 97), false))) else (some (0, IntKind.i8.wrap ((IntKind.i8.wrap (bt a0 0)) - 97), IntKind.i8.wrap ((IntKind.i8.wrap (bt a0 2)) - 97), false))) else (some (0, IntKind.i8.wrap ((IntKind.i8.wrap (bt a0 0)) - 97), IntKind.i8.wrap ((IntKind.i8.wrap (bt a0 2)) - 97), false))) else (none)) else (none)) = some (r1, r2, r3, r4) := by rw [if_pos rfl] at H; exact H
    clear H
    have H := H1
    clear H1
    by_cases c8 : 0 < (a0.size : Int)
    ·rw [if_pos c8] at H
     have c8b0 : decide (0 < (a0.size : Int)) = true := decide_eq_true c8
     have c8b1 : decide (0 < a0.size) = true := decide_eq_true (by omega)
     clear c8
     by_cases c10 : 2 < (a0.size : Int)
     ·rw [if_pos c10] at H
      have c10b0 : decide (2 < (a0.size : Int)) = true := decide_eq_true c10
      have c10b1 : decide (2 < a0.size) = true := decide_eq_true (by omega)
      clear c10
      by_cases c13 : (bt a0 0) ≥ 97
      ·rw [if_pos c13] at H
       have c13b0 : decide (97 ≤ (bt a0 0)) = true := decide_eq_true c13
       clear c13
       by_cases c15 : (bt a0 0) < 101
       ·rw [if_pos c15] at H
        have c15b0 : decide ((bt a0 0) < 101) = true := decide_eq_true c15
        clear c15
        by_cases c17 : (bt a0 2) ≥ 97
        ·rw [if_pos c17] at H
         have c17b0 : decide (97 ≤ (bt a0 2)) = true := decide_eq_true c17
         clear c17
         simp only [Option.some.injEq, Prod.mk.injEq] at H
         obtain ⟨rfl, rfl, rfl, rfl⟩ := H
         try go_wp2
         have n0_ := A_ (blk_drew BK110.out)
         have n1_ := A_ (below_drew1 HB.out)
         clear BK110
         clear HB
         have BK110 := n0_
         have HB := n1_
         clear n0_ n1_
         have p9 : 0 ≤ (0 : Int) := (by omega)
         have q9 : 0 < a0.size := (by have : (0 : Int) < (a0.size : Int) := asm_; omega)
         have hx9 : ∀ h : 0 < a0.size, ((a0[0]'h).toNat : Int) = bt a0 0 := bt_at a0 0
         clear p9
         have qi9 : (0 < (a0.size : Int)) = True := eq_true (asm_)
         replace q9 := eq_true q9
         have p11 : 0 ≤ (2 : Int) := (by omega)
         have q11 : 2 < a0.size := (by have : (2 : Int) < (a0.size : Int) := asm_; omega)
         have hx11 : ∀ h : 2 < a0.size, ((a0[2]'h).toNat : Int) = bt a0 2 := bt_at a0 2
         clear p11
         have qi11 : (2 < (a0.size : Int)) = True := eq_true (asm_)
         replace q11 := eq_true q11
         refine start_ (n := 11) (S := fun w' => True) (ds := []) #[false, false, false, false, false, false, false, false, false, false, false] (by kernel_rfl) rfl rfl trivial (fun hHeld => ?_); refine with_tabW spec_l02ReadMove.tab2 spec_l02ReadMove.bits2 (fun HT_ HW_ => ?_)
         generalize wc.drew = w19 at BK110 HB hHeld ⊢
         refine pure_ (i := 0) (N := some 14) (v := ?_) (a' := ?_) #[true, false, false, false, false, false, false, false, false, false, false] rfl rfl (any_of HT_.out (by kernel_rfl)) (fun _ _ _ h => h) (Or.inl ⟨by rfl, ?_⟩) ?_ ?_
         rotate_left
         ·intro w'
          go_simp
          with_reducible rfl
         rotate_left
         ·simp only [Act.put, sp_]
          rfl
         refine pure_ (i := 4) (N := some 18) (v := ?_) (a' := ?_) #[true, false, false, false, true, false, false, false, false, false, false] rfl rfl (any_of HT_.out (by kernel_rfl)) (fun _ _ _ h => h) (Or.inl ⟨by rfl, ?_⟩) ?_ ?_
         rotate_left
         ·intro w'
          go_simp
          with_reducible rfl
         rotate_left
         ·simp only [Act.put, sp_]
          rfl
         refine take_ (i := 1) (N := some 15) (v := ?_) (a' := ?_) #[true, true, false, false, true, false, false, false, false, false, false] rfl rfl (take_ofW HT_.out HW_.out (by kernel_rfl)) (fun _ _ _ h => h) (Or.inl ⟨by rfl, ?_⟩) hHeld ?_ ?_
         rotate_left
         ·intro w' _
          go_simp
          with_reducible rfl
         rotate_left
         ·simp only [Act.put, sp_]
          rfl
         refine pure_ (i := 2) (N := some 16) (v := ?_) (a' := ?_) #[true, true, true, false, true, false, false, false, false, false, false] rfl rfl (any_of HT_.out (by kernel_rfl)) (fun _ _ _ h => h) (Or.inl ⟨by rfl, ?_⟩) ?_ ?_
         rotate_left
         ·intro w'
          go_simp
          with_reducible rfl
         rotate_left
         ·simp only [Act.put, sp_]
          rfl
         refine pure_ (i := 3) (N := some 17) (v := ?_) (a' := ?_) #[true, true, true, true, true, false, false, false, false, false, false] rfl rfl (any_of HT_.out (by kernel_rfl)) (fun _ _ _ h => h) (Or.inl ⟨by rfl, ?_⟩) ?_ ?_
         rotate_left
         ·intro w'
          go_simp
          with_reducible rfl
         rotate_left
         ·simp only [Act.put, sp_]
          rfl
         refine take_ (i := 5) (N := some 19) (v := ?_) (a' := ?_) #[true, true, true, true, true, true, false, false, false, false, false] rfl rfl (take_ofW HT_.out HW_.out (by kernel_rfl)) (fun _ _ _ h => h) (Or.inl ⟨by rfl, ?_⟩) hHeld ?_ ?_
         rotate_left
         ·intro w' _
          go_simp
          with_reducible rfl
         rotate_left
         ·simp only [Act.put, sp_]
          rfl
         refine pure_ (i := 6) (N := some 20) (v := ?_) (a' := ?_) #[true, true, true, true, true, true, true, false, false, false, false] rfl rfl (any_of HT_.out (by kernel_rfl)) (fun _ _ _ h => h) (Or.inl ⟨by rfl, ?_⟩) ?_ ?_
         rotate_left
         ·intro w'
          go_simp
          with_reducible rfl
         rotate_left
         ·simp only [Act.put, sp_]
          rfl
         refine pure_ (i := 7) (N := some 21) (v := ?_) (a' := ?_) #[true, true, true, true, true, true, true, true, false, false, false] rfl rfl (any_of HT_.out (by kernel_rfl)) (fun _ _ _ h => h) (Or.inl ⟨by rfl, ?_⟩) ?_ ?_
         rotate_left
         ·intro w'
          go_simp
          with_reducible rfl
         rotate_left
         ·simp only [Act.put, sp_]
          rfl
         refine pure_ (i := 8) (N := some 22) (v := ?_) (a' := ?_) #[true, true, true, true, true, true, true, true, true, false, false] rfl rfl (any_of HT_.out (by kernel_rfl)) (fun _ _ _ h => h) (Or.inl ⟨by rfl, ?_⟩) ?_ ?_
         rotate_left
         ·intro w'
          go_simp
          with_reducible rfl
         rotate_left
         ·simp only [Act.put, sp_]
          rfl
         refine one_ (i := 9) (N := some 4) #[true, true, true, true, true, true, true, true, true, true, false] rfl rfl (one_of HT_.out (by kernel_rfl)) (by decide) (fun K hK => ?_)
         refine box_step ?hg (N := 4) ?hd (cs := #[.int .i8 0, .int .i8 0, .int .i8 0]) (t := 56) ?hr ?_; (case hd => rfl); (case hg => rfl); (case hr => first | (go_simp; done) | (go_simp; rfl))
         intro gb111 hg w20 hbox hb
         have n0_ := A_ (blk_below (pl_ BK110) hb)
         have n1_ := A_ (below_step (bl_ HB) hb)
         have n2_ := A_ (hbox)
         have n3_ := A_ ((by rw [hg]; exact (below_size (bl_ HB)) : w.heap.size ≤ gb111))
         have n4_ := n3_
         have n5_ := A_ ((by rw [hg]; exact Nat.ne_of_lt (blk_lt (pl_ BK110)) : gb110 ≠ gb111))
         have n6_ := Aside0.mk n5_.out.symm
         clear BK110
         clear HB
         have BK110 := n0_
         have HB := n1_
         have BK111 := n2_
         have GW111 := n3_
         have GE111 := n4_
         have NB110_111 := n5_
         have NB111_110 := n6_
         clear n0_ n1_ n2_ n3_ n4_ n5_ n6_
         clear hb hbox hg
         refine hK.out _ _ trivial (fun hHeld => ?_)
         clear hK K
         refine norm_ (a' := ?_) ?_ ?_
         rotate_left
         ·show Act.put _ (some 4) _ = _
          simp only [Act.put, sp_]
          rfl
         refine one_ (i := 10) (N := none) #[true, true, true, true, true, true, true, true, true, true, true] rfl rfl (one_of HT_.out (by kernel_rfl)) (by decide) (fun K hK => ?_)
         have hs21 : w20.cell? ⟨gb111, 0, none⟩ = some (.int .i8 0) := (blk_cell BK111.out 0).trans rfl
         have hfs21 := blk_frozen BK111.out 0
         have hns21_0 := NB110_111.out
         have hms21_0 := NB111_110.out
         have hs22 : w20.cell? ⟨gb111, 1, none⟩ = some (.int .i8 0) := (blk_cell BK111.out 1).trans rfl
         have hfs22 := blk_frozen BK111.out 1
         have hns22_0 := NB110_111.out
         have hms22_0 := NB111_110.out
         have hs23 : w20.cell? ⟨gb111, 2, none⟩ = some (.int .i8 0) := (blk_cell BK111.out 2).trans rfl
         have hfs23 := blk_frozen BK111.out 2
         have hns23_0 := NB110_111.out
         have hms23_0 := NB111_110.out
         refine skip_ (w1 := ?_) (by rfl) rfl ?_ ?_
         rotate_left
         ·go_simp
          rfl
         refine hK.out _ _ trivial (fun hHeld => ?_)
         clear hK K
         refine done_ (done_of HT_.out (by kernel_rfl)) ?_
         try go_wp2
         have n0_ : Aside0 ((((w20.setCell ⟨gb111, 0, none⟩ (.int .i8 0)).setCell ⟨gb111, 1, none⟩ (.int .i8 (IntKind.i8.wrap ((IntKind.i8.wrap (bt a0 0)) - 97)))).setCell ⟨gb111, 2, none⟩ (.int .i8 (IntKind.i8.wrap ((IntKind.i8.wrap (bt a0 2)) - 97)))).heap[gb110]? = some (.cells #[.int .i8 0, .int .i8 0, .int .i8 0] 56 (0, 0))) := ⟨pf_ BK110 NB110_111⟩
         have n1_ : Aside0 ((((w20.setCell ⟨gb111, 0, none⟩ (.int .i8 0)).setCell ⟨gb111, 1, none⟩ (.int .i8 (IntKind.i8.wrap ((IntKind.i8.wrap (bt a0 0)) - 97)))).setCell ⟨gb111, 2, none⟩ (.int .i8 (IntKind.i8.wrap ((IntKind.i8.wrap (bt a0 2)) - 97)))).heap[gb111]? = some (.cells #[.int .i8 0, .int .i8 (IntKind.i8.wrap ((IntKind.i8.wrap (bt a0 0)) - 97)), .int .i8 (IntKind.i8.wrap ((IntKind.i8.wrap (bt a0 2)) - 97))] 56 (0, 0))) := ⟨by (with_reducible repeat (first | refine blk_drewN ?_ _ | refine blk_drew ?_ | refine blk_alloc ?_ _)); refine blk_put (cs := #[.int .i8 0, .int .i8 (IntKind.i8.wrap ((IntKind.i8.wrap (bt a0 0)) - 97)), .int .i8 0]) ?_ 2 _ rfl; (with_reducible repeat (first | refine blk_drewN ?_ _ | refine blk_drew ?_ | refine blk_alloc ?_ _)); refine blk_put (cs := #[.int .i8 0, .int .i8 0, .int .i8 0]) ?_ 1 _ rfl; (with_reducible repeat (first | refine blk_drewN ?_ _ | refine blk_drew ?_ | refine blk_alloc ?_ _)); refine blk_put (cs := #[.int .i8 0, .int .i8 0, .int .i8 0]) ?_ 0 _ rfl; (with_reducible repeat (first | refine blk_drewN ?_ _ | refine blk_drew ?_ | refine blk_alloc ?_ _)); exact BK111.out⟩
         have n2_ : Aside0 (Below w.heap.size w (((w20.setCell ⟨gb111, 0, none⟩ (.int .i8 0)).setCell ⟨gb111, 1, none⟩ (.int .i8 (IntKind.i8.wrap ((IntKind.i8.wrap (bt a0 0)) - 97)))).setCell ⟨gb111, 2, none⟩ (.int .i8 (IntKind.i8.wrap ((IntKind.i8.wrap (bt a0 2)) - 97))))) := ⟨bs_ HB GE111⟩
         (try clear BK110)
         (try clear BK111)
         (try clear HB)
         generalize (((w20.setCell ⟨gb111, 0, none⟩ (.int .i8 0)).setCell ⟨gb111, 1, none⟩ (.int .i8 (IntKind.i8.wrap ((IntKind.i8.wrap (bt a0 0)) - 97)))).setCell ⟨gb111, 2, none⟩ (.int .i8 (IntKind.i8.wrap ((IntKind.i8.wrap (bt a0 2)) - 97)))) = w24 at n0_ n1_ n2_ ⊢
         have BK110 := n0_
         have BK111 := n1_
         have HB := n2_
         clear n0_ n1_ n2_
         have n0_ := A_ (blk_drew BK110.out)
         have n1_ := A_ (blk_drew BK111.out)
         have n2_ := A_ (below_drew1 HB.out)
         clear BK110
         clear BK111
         clear HB
         have BK110 := n0_
         have BK111 := n1_
         have HB := n2_
         clear n0_ n1_ n2_
         have p12 : 0 ≤ (0 : Int) := (by omega)
         have q12 : 0 < a0.size := (by have : (0 : Int) < (a0.size : Int) := asm_; omega)
         have hx12 : ∀ h : 0 < a0.size, ((a0[0]'h).toNat : Int) = bt a0 0 := bt_at a0 0
         clear p12
         have qi12 : (0 < (a0.size : Int)) = True := eq_true (asm_)
         replace q12 := eq_true q12
         have p14 : 0 ≤ (0 : Int) := (by omega)
         have q14 : 0 < a0.size := (by have : (0 : Int) < (a0.size : Int) := asm_; omega)
         have hx14 : ∀ h : 0 < a0.size, ((a0[0]'h).toNat : Int) = bt a0 0 := bt_at a0 0
         clear p14
         have qi14 : (0 < (a0.size : Int)) = True := eq_true (asm_)
         replace q14 := eq_true q14
         have p16 : 0 ≤ (2 : Int) := (by omega)
         have q16 : 2 < a0.size := (by have : (2 : Int) < (a0.size : Int) := asm_; omega)
         have hx16 : ∀ h : 2 < a0.size, ((a0[2]'h).toNat : Int) = bt a0 2 := bt_at a0 2
         clear p16
         have qi16 : (2 < (a0.size : Int)) = True := eq_true (asm_)
         replace q16 := eq_true q16
         have p18 : 0 ≤ (2 : Int) := (by omega)
         have q18 : 2 < a0.size := (by have : (2 : Int) < (a0.size : Int) := asm_; omega)
         have hx18 : ∀ h : 2 < a0.size, ((a0[2]'h).toNat : Int) = bt a0 2 := bt_at a0 2
         clear p18
         have qi18 : (2 < (a0.size : Int)) = True := eq_true (asm_)
         replace q18 := eq_true q18
         refine start_ (n := 21) (S := fun w' => w'.cell? ⟨gb111, 0, none⟩ = some (.int .i8 0) ∧ w'.cell? ⟨gb111, 1, none⟩ = some (.int .i8 (IntKind.i8.wrap ((IntKind.i8.wrap (bt a0 0)) - 97))) ∧ w'.cell? ⟨gb111, 2, none⟩ = some (.int .i8 (IntKind.i8.wrap ((IntKind.i8.wrap (bt a0 2)) - 97)))) (ds := []) #[false, false, false, false, false, false, false, false, false, false, false, false, false, false, false, false, false, false, false, false, false] (by kernel_rfl) rfl rfl ⟨(blk_cell BK111.out 0).trans rfl, (blk_cell BK111.out 1).trans rfl, (blk_cell BK111.out 2).trans rfl⟩ (fun hHeld => ?_); refine with_tabW spec_l02ReadMove.tab3 spec_l02ReadMove.bits3 (fun HT_ HW_ => ?_)
         generalize w24.drew = w25 at BK110 BK111 HB hHeld ⊢
         refine pure_ (i := 1) (N := some 24) (v := ?_) (a' := ?_) #[false, true, false, false, false, false, false, false, false, false, false, false, false, false, false, false, false, false, false, false, false] rfl rfl (any_of HT_.out (by kernel_rfl)) (fun _ _ _ h => h) (Or.inl ⟨by rfl, ?_⟩) ?_ ?_
         rotate_left
         ·intro w'
          go_simp
          with_reducible rfl
         rotate_left
         ·simp only [Act.put, sp_]
          rfl
         refine take_ (i := 0) (N := some 23) (v := ?_) (a' := ?_) #[true, true, false, false, false, false, false, false, false, false, false, false, false, false, false, false, false, false, false, false, false] rfl rfl (take_ofW HT_.out HW_.out (by kernel_rfl)) (fun _ _ _ h => h) (Or.inl ⟨by rfl, ?_⟩) hHeld ?_ ?_
         rotate_left
         ·rintro w' ⟨s0, s1, s2⟩
          go_simp
          with_reducible rfl
         rotate_left
         ·simp only [Act.put, sp_]
          rfl
         refine take_ (i := 2) (N := some 25) (v := ?_) (a' := ?_) #[true, true, true, false, false, false, false, false, false, false, false, false, false, false, false, false, false, false, false, false, false] rfl rfl (take_ofW HT_.out HW_.out (by kernel_rfl)) (fun _ _ _ h => h) (Or.inl ⟨by rfl, ?_⟩) hHeld ?_ ?_
         rotate_left
         ·rintro w' ⟨s0, s1, s2⟩
          go_simp
          with_reducible rfl
         rotate_left
         ·simp only [Act.put, sp_]
          rfl
         refine pure_ (i := 3) (N := some 26) (v := ?_) (a' := ?_) #[true, true, true, true, false, false, false, false, false, false, false, false, false, false, false, false, false, false, false, false, false] rfl rfl (any_of HT_.out (by kernel_rfl)) (fun _ _ _ h => h) (Or.inl ⟨by rfl, ?_⟩) ?_ ?_
         rotate_left
         ·intro w'
          go_simp
          with_reducible rfl
         rotate_left
         ·simp only [Act.put, sp_]
          rfl
         refine pure_ (i := 4) (N := some 27) (v := ?_) (a' := ?_) #[true, true, true, true, true, false, false, false, false, false, false, false, false, false, false, false, false, false, false, false, false] rfl rfl (any_of HT_.out (by kernel_rfl)) (fun _ _ _ h => h) (Or.inl ⟨by rfl, ?_⟩) ?_ ?_
         rotate_left
         ·intro w'
          go_simp
          with_reducible rfl
         rotate_left
         ·simp only [Act.put, sp_]
          rfl
         refine pure_ (i := 5) (N := some 28) (v := ?_) (a' := ?_) #[true, true, true, true, true, true, false, false, false, false, false, false, false, false, false, false, false, false, false, false, false] rfl rfl (any_of HT_.out (by kernel_rfl)) (fun _ _ _ h => h) (Or.inl ⟨by rfl, ?_⟩) ?_ ?_
         rotate_left
         ·intro w'
          go_simp
          with_reducible rfl
         rotate_left
         ·simp only [Act.put, sp_]
          rfl
         refine take_ (i := 6) (N := some 29) (v := ?_) (a' := ?_) #[true, true, true, true, true, true, true, false, false, false, false, false, false, false, false, false, false, false, false, false, false] rfl rfl (take_ofW HT_.out HW_.out (by kernel_rfl)) (fun _ _ _ h => h) (Or.inl ⟨by rfl, ?_⟩) hHeld ?_ ?_
         rotate_left
         ·rintro w' ⟨s0, s1, s2⟩
          go_simp
          with_reducible rfl
         rotate_left
         ·simp only [Act.put, sp_]
          rfl
         refine pure_ (i := 7) (N := some 30) (v := ?_) (a' := ?_) #[true, true, true, true, true, true, true, true, false, false, false, false, false, false, false, false, false, false, false, false, false] rfl rfl (any_of HT_.out (by kernel_rfl)) (fun _ _ _ h => h) (Or.inl ⟨by rfl, ?_⟩) ?_ ?_
         rotate_left
         ·intro w'
          go_simp
          with_reducible rfl
         rotate_left
         ·simp only [Act.put, sp_]
          rfl
         refine pure_ (i := 8) (N := some 31) (v := ?_) (a' := ?_) #[true, true, true, true, true, true, true, true, true, false, false, false, false, false, false, false, false, false, false, false, false] rfl rfl (any_of HT_.out (by kernel_rfl)) (fun _ _ _ h => h) (Or.inl ⟨by rfl, ?_⟩) ?_ ?_
         rotate_left
         ·intro w'
          go_simp
          with_reducible rfl
         rotate_left
         ·simp only [Act.put, sp_]
          rfl
         refine pure_ (i := 9) (N := some 32) (v := ?_) (a' := ?_) #[true, true, true, true, true, true, true, true, true, true, false, false, false, false, false, false, false, false, false, false, false] rfl rfl (any_of HT_.out (by kernel_rfl)) (fun _ _ _ h => h) (Or.inl ⟨by rfl, ?_⟩) ?_ ?_
         rotate_left
         ·intro w'
          go_simp
          with_reducible rfl
         rotate_left
         ·simp only [Act.put, sp_]
          rfl
         refine pure_ (i := 10) (N := some 33) (v := ?_) (a' := ?_) #[true, true, true, true, true, true, true, true, true, true, true, false, false, false, false, false, false, false, false, false, false] rfl rfl (any_of HT_.out (by kernel_rfl)) (fun _ _ _ h => h) (Or.inl ⟨by rfl, ?_⟩) ?_ ?_
         rotate_left
         ·intro w'
          go_simp
          with_reducible rfl
         rotate_left
         ·simp only [Act.put, sp_]
          rfl
         refine take_ (i := 11) (N := some 34) (v := ?_) (a' := ?_) #[true, true, true, true, true, true, true, true, true, true, true, true, false, false, false, false, false, false, false, false, false] rfl rfl (take_ofW HT_.out HW_.out (by kernel_rfl)) (fun _ _ _ h => h) (Or.inl ⟨by rfl, ?_⟩) hHeld ?_ ?_
         rotate_left
         ·rintro w' ⟨s0, s1, s2⟩
          go_simp
          with_reducible rfl
         rotate_left
         ·simp only [Act.put, sp_]
          rfl
         refine pure_ (i := 12) (N := some 35) (v := ?_) (a' := ?_) #[true, true, true, true, true, true, true, true, true, true, true, true, true, false, false, false, false, false, false, false, false] rfl rfl (any_of HT_.out (by kernel_rfl)) (fun _ _ _ h => h) (Or.inl ⟨by rfl, ?_⟩) ?_ ?_
         rotate_left
         ·intro w'
          go_simp
          with_reducible rfl
         rotate_left
         ·simp only [Act.put, sp_]
          rfl
         refine pure_ (i := 13) (N := some 36) (v := ?_) (a' := ?_) #[true, true, true, true, true, true, true, true, true, true, true, true, true, true, false, false, false, false, false, false, false] rfl rfl (any_of HT_.out (by kernel_rfl)) (fun _ _ _ h => h) (Or.inl ⟨by rfl, ?_⟩) ?_ ?_
         rotate_left
         ·intro w'
          go_simp
          with_reducible rfl
         rotate_left
         ·simp only [Act.put, sp_]
          rfl
         refine pure_ (i := 14) (N := some 37) (v := ?_) (a' := ?_) #[true, true, true, true, true, true, true, true, true, true, true, true, true, true, true, false, false, false, false, false, false] rfl rfl (any_of HT_.out (by kernel_rfl)) (fun _ _ _ h => h) (Or.inl ⟨by rfl, ?_⟩) ?_ ?_
         rotate_left
         ·intro w'
          go_simp
          with_reducible rfl
         rotate_left
         ·simp only [Act.put, sp_]
          rfl
         refine pure_ (i := 15) (N := some 38) (v := ?_) (a' := ?_) #[true, true, true, true, true, true, true, true, true, true, true, true, true, true, true, true, false, false, false, false, false] rfl rfl (any_of HT_.out (by kernel_rfl)) (fun _ _ _ h => h) (Or.inl ⟨by rfl, ?_⟩) ?_ ?_
         rotate_left
         ·intro w'
          go_simp
          with_reducible rfl
         rotate_left
         ·simp only [Act.put, sp_]
          rfl
         refine take_ (i := 16) (N := some 39) (v := ?_) (a' := ?_) #[true, true, true, true, true, true, true, true, true, true, true, true, true, true, true, true, true, false, false, false, false] rfl rfl (take_ofW HT_.out HW_.out (by kernel_rfl)) (fun _ _ _ h => h) (Or.inl ⟨by rfl, ?_⟩) hHeld ?_ ?_
         rotate_left
         ·rintro w' ⟨s0, s1, s2⟩
          go_simp
          with_reducible rfl
         rotate_left
         ·simp only [Act.put, sp_]
          rfl
         refine pure_ (i := 17) (N := some 40) (v := ?_) (a' := ?_) #[true, true, true, true, true, true, true, true, true, true, true, true, true, true, true, true, true, true, false, false, false] rfl rfl (any_of HT_.out (by kernel_rfl)) (fun _ _ _ h => h) (Or.inl ⟨by rfl, ?_⟩) ?_ ?_
         rotate_left
         ·intro w'
          go_simp
          with_reducible rfl
         rotate_left
         ·simp only [Act.put, sp_]
          rfl
         refine pure_ (i := 18) (N := some 41) (v := ?_) (a' := ?_) #[true, true, true, true, true, true, true, true, true, true, true, true, true, true, true, true, true, true, true, false, false] rfl rfl (any_of HT_.out (by kernel_rfl)) (fun _ _ _ h => h) (Or.inl ⟨by rfl, ?_⟩) ?_ ?_
         rotate_left
         ·intro w'
          go_simp
          with_reducible rfl
         rotate_left
         ·simp only [Act.put, sp_]
          rfl
         refine one_ (i := 19) (N := none) #[true, true, true, true, true, true, true, true, true, true, true, true, true, true, true, true, true, true, true, true, false] rfl rfl (one_of HT_.out (by kernel_rfl)) (by decide) (fun K hK => ?_)
         have hs26 : w25.cell? ⟨gb110, 0, none⟩ = some (.int .i8 0) := (blk_cell BK110.out 0).trans rfl
         have hfs26 := blk_frozen BK110.out 0
         have hns26_1 := NB111_110.out
         have hms26_1 := NB110_111.out
         have hs27 : w25.cell? ⟨gb110, 1, none⟩ = some (.int .i8 0) := (blk_cell BK110.out 1).trans rfl
         have hfs27 := blk_frozen BK110.out 1
         have hns27_1 := NB111_110.out
         have hms27_1 := NB110_111.out
         have hs28 : w25.cell? ⟨gb110, 2, none⟩ = some (.int .i8 0) := (blk_cell BK110.out 2).trans rfl
         have hfs28 := blk_frozen BK110.out 2
         have hns28_1 := NB111_110.out
         have hms28_1 := NB110_111.out
         refine skip_ (w1 := ?_) (by rfl) rfl ?_ ?_
         rotate_left
         ·go_simp
          rfl
         refine hK.out _ _ ⟨(cf3_ NB111_110 (hHeld.1)), (cf3_ NB111_110 (hHeld.2.1)), (cf3_ NB111_110 (hHeld.2.2))⟩ (fun hHeld => ?_)
         clear hK K
         refine pure_ (i := 20) (N := some 3) (v := ?_) (a' := ?_) #[true, true, true, true, true, true, true, true, true, true, true, true, true, true, true, true, true, true, true, true, true] rfl rfl (any_of HT_.out (by kernel_rfl)) (fun _ _ _ h => h) (Or.inl ⟨by rfl, ?_⟩) ?_ ?_
         rotate_left
         ·intro w'
          go_simp
          with_reducible rfl
         rotate_left
         ·simp only [Act.put, sp_]
          rfl
         refine done_ (done_of HT_.out (by kernel_rfl)) ?_
         try go_wp2
         refine bodyPost_ret (results_ct rfl _ _ gb110 56 #[.int .i8 0, .int .i8 (IntKind.i8.wrap ((IntKind.i8.wrap (bt a0 0)) - 97)), .int .i8 (IntKind.i8.wrap ((IntKind.i8.wrap (bt a0 2)) - 97))] (0, 0) _ rfl (by (with_reducible repeat (first | refine blk_drewN ?_ _ | refine blk_drew ?_ | refine blk_alloc ?_ _)); refine blk_put (cs := #[.int .i8 0, .int .i8 (IntKind.i8.wrap ((IntKind.i8.wrap (bt a0 0)) - 97)), .int .i8 0]) ?_ 2 _ rfl; (with_reducible repeat (first | refine blk_drewN ?_ _ | refine blk_drew ?_ | refine blk_alloc ?_ _)); refine blk_put (cs := #[.int .i8 0, .int .i8 0, .int .i8 0]) ?_ 1 _ rfl; (with_reducible repeat (first | refine blk_drewN ?_ _ | refine blk_drew ?_ | refine blk_alloc ?_ _)); refine blk_put (cs := #[.int .i8 0, .int .i8 0, .int .i8 0]) ?_ 0 _ rfl; (with_reducible repeat (first | refine blk_drewN ?_ _ | refine blk_drew ?_ | refine blk_alloc ?_ _)); exact BK110.out) Tryd.underlying56 rfl (by kernel_rfl)) rfl ?_
         exact ⟨by first | rfl | (simp [errW_none, errW_some] <;> rfl) | (simp [*, errW_none, errW_some] <;> rfl), bs_ HB GE110⟩
        ·rw [if_neg c17] at H
         have c17b0 : decide (97 ≤ (bt a0 2)) = false := decide_eq_false c17
         clear c17
         simp only [Option.some.injEq, Prod.mk.injEq] at H
         obtain ⟨rfl, rfl, rfl, rfl⟩ := H
         try go_wp2
         have n0_ := A_ (blk_drew BK110.out)
         have n1_ := A_ (below_drew1 HB.out)
         clear BK110
         clear HB
         have BK110 := n0_
         have HB := n1_
         clear n0_ n1_
         have p9 : 0 ≤ (0 : Int) := (by omega)
         have q9 : 0 < a0.size := (by have : (0 : Int) < (a0.size : Int) := asm_; omega)
         have hx9 : ∀ h : 0 < a0.size, ((a0[0]'h).toNat : Int) = bt a0 0 := bt_at a0 0
         clear p9
         have qi9 : (0 < (a0.size : Int)) = True := eq_true (asm_)
         replace q9 := eq_true q9
         have p11 : 0 ≤ (2 : Int) := (by omega)
         have q11 : 2 < a0.size := (by have : (2 : Int) < (a0.size : Int) := asm_; omega)
         have hx11 : ∀ h : 2 < a0.size, ((a0[2]'h).toNat : Int) = bt a0 2 := bt_at a0 2
         clear p11
         have qi11 : (2 < (a0.size : Int)) = True := eq_true (asm_)
         replace q11 := eq_true q11
         refine start_ (n := 11) (S := fun w' => True) (ds := []) #[false, false, false, false, false, false, false, false, false, false, false] (by kernel_rfl) rfl rfl trivial (fun hHeld => ?_); refine with_tabW spec_l02ReadMove.tab2 spec_l02ReadMove.bits2 (fun HT_ HW_ => ?_)
         generalize wc.drew = w29 at BK110 HB hHeld ⊢
         refine pure_ (i := 0) (N := some 14) (v := ?_) (a' := ?_) #[true, false, false, false, false, false, false, false, false, false, false] rfl rfl (any_of HT_.out (by kernel_rfl)) (fun _ _ _ h => h) (Or.inl ⟨by rfl, ?_⟩) ?_ ?_
         rotate_left
         ·intro w'
          go_simp
          with_reducible rfl
         rotate_left
         ·simp only [Act.put, sp_]
          rfl
         refine pure_ (i := 4) (N := some 18) (v := ?_) (a' := ?_) #[true, false, false, false, true, false, false, false, false, false, false] rfl rfl (any_of HT_.out (by kernel_rfl)) (fun _ _ _ h => h) (Or.inl ⟨by rfl, ?_⟩) ?_ ?_
         rotate_left
         ·intro w'
          go_simp
          with_reducible rfl
         rotate_left
         ·simp only [Act.put, sp_]
          rfl
         refine take_ (i := 1) (N := some 15) (v := ?_) (a' := ?_) #[true, true, false, false, true, false, false, false, false, false, false] rfl rfl (take_ofW HT_.out HW_.out (by kernel_rfl)) (fun _ _ _ h => h) (Or.inl ⟨by rfl, ?_⟩) hHeld ?_ ?_
         rotate_left
         ·intro w' _
          go_simp
          with_reducible rfl
         rotate_left
         ·simp only [Act.put, sp_]
          rfl
         refine pure_ (i := 2) (N := some 16) (v := ?_) (a' := ?_) #[true, true, true, false, true, false, false, false, false, false, false] rfl rfl (any_of HT_.out (by kernel_rfl)) (fun _ _ _ h => h) (Or.inl ⟨by rfl, ?_⟩) ?_ ?_
         rotate_left
         ·intro w'
          go_simp
          with_reducible rfl
         rotate_left
         ·simp only [Act.put, sp_]
          rfl
         refine pure_ (i := 3) (N := some 17) (v := ?_) (a' := ?_) #[true, true, true, true, true, false, false, false, false, false, false] rfl rfl (any_of HT_.out (by kernel_rfl)) (fun _ _ _ h => h) (Or.inl ⟨by rfl, ?_⟩) ?_ ?_
         rotate_left
         ·intro w'
          go_simp
          with_reducible rfl
         rotate_left
         ·simp only [Act.put, sp_]
          rfl
         refine take_ (i := 5) (N := some 19) (v := ?_) (a' := ?_) #[true, true, true, true, true, true, false, false, false, false, false] rfl rfl (take_ofW HT_.out HW_.out (by kernel_rfl)) (fun _ _ _ h => h) (Or.inl ⟨by rfl, ?_⟩) hHeld ?_ ?_
         rotate_left
         ·intro w' _
          go_simp
          with_reducible rfl
         rotate_left
         ·simp only [Act.put, sp_]
          rfl
         refine pure_ (i := 6) (N := some 20) (v := ?_) (a' := ?_) #[true, true, true, true, true, true, true, false, false, false, false] rfl rfl (any_of HT_.out (by kernel_rfl)) (fun _ _ _ h => h) (Or.inl ⟨by rfl, ?_⟩) ?_ ?_
         rotate_left
         ·intro w'
          go_simp
          with_reducible rfl
         rotate_left
         ·simp only [Act.put, sp_]
          rfl
         refine pure_ (i := 7) (N := some 21) (v := ?_) (a' := ?_) #[true, true, true, true, true, true, true, true, false, false, false] rfl rfl (any_of HT_.out (by kernel_rfl)) (fun _ _ _ h => h) (Or.inl ⟨by rfl, ?_⟩) ?_ ?_
         rotate_left
         ·intro w'
          go_simp
          with_reducible rfl
         rotate_left
         ·simp only [Act.put, sp_]
          rfl
         refine pure_ (i := 8) (N := some 22) (v := ?_) (a' := ?_) #[true, true, true, true, true, true, true, true, true, false, false] rfl rfl (any_of HT_.out (by kernel_rfl)) (fun _ _ _ h => h) (Or.inl ⟨by rfl, ?_⟩) ?_ ?_
         rotate_left
         ·intro w'
          go_simp
          with_reducible rfl
         rotate_left
         ·simp only [Act.put, sp_]
          rfl
         refine one_ (i := 9) (N := some 4) #[true, true, true, true, true, true, true, true, true, true, false] rfl rfl (one_of HT_.out (by kernel_rfl)) (by decide) (fun K hK => ?_)
         refine box_step ?hg (N := 4) ?hd (cs := #[.int .i8 0, .int .i8 0, .int .i8 0]) (t := 56) ?hr ?_; (case hd => rfl); (case hg => rfl); (case hr => first | (go_simp; done) | (go_simp; rfl))
         intro gb111 hg w30 hbox hb
         have n0_ := A_ (blk_below (pl_ BK110) hb)
         have n1_ := A_ (below_step (bl_ HB) hb)
         have n2_ := A_ (hbox)
         have n3_ := A_ ((by rw [hg]; exact (below_size (bl_ HB)) : w.heap.size ≤ gb111))
         have n4_ := n3_
         have n5_ := A_ ((by rw [hg]; exact Nat.ne_of_lt (blk_lt (pl_ BK110)) : gb110 ≠ gb111))
         have n6_ := Aside0.mk n5_.out.symm
         clear BK110
         clear HB
         have BK110 := n0_
         have HB := n1_
         have BK111 := n2_
         have GW111 := n3_
         have GE111 := n4_
         have NB110_111 := n5_
         have NB111_110 := n6_
         clear n0_ n1_ n2_ n3_ n4_ n5_ n6_
         clear hb hbox hg
         refine hK.out _ _ trivial (fun hHeld => ?_)
         clear hK K
         refine norm_ (a' := ?_) ?_ ?_
         rotate_left
         ·show Act.put _ (some 4) _ = _
          simp only [Act.put, sp_]
          rfl
         refine one_ (i := 10) (N := none) #[true, true, true, true, true, true, true, true, true, true, true] rfl rfl (one_of HT_.out (by kernel_rfl)) (by decide) (fun K hK => ?_)
         have hs31 : w30.cell? ⟨gb111, 0, none⟩ = some (.int .i8 0) := (blk_cell BK111.out 0).trans rfl
         have hfs31 := blk_frozen BK111.out 0
         have hns31_0 := NB110_111.out
         have hms31_0 := NB111_110.out
         have hs32 : w30.cell? ⟨gb111, 1, none⟩ = some (.int .i8 0) := (blk_cell BK111.out 1).trans rfl
         have hfs32 := blk_frozen BK111.out 1
         have hns32_0 := NB110_111.out
         have hms32_0 := NB111_110.out
         have hs33 : w30.cell? ⟨gb111, 2, none⟩ = some (.int .i8 0) := (blk_cell BK111.out 2).trans rfl
         have hfs33 := blk_frozen BK111.out 2
         have hns33_0 := NB110_111.out
         have hms33_0 := NB111_110.out
         refine skip_ (w1 := ?_) (by rfl) rfl ?_ ?_
         rotate_left
         ·go_simp
          rfl
         refine hK.out _ _ trivial (fun hHeld => ?_)
         clear hK K
         refine done_ (done_of HT_.out (by kernel_rfl)) ?_
         try go_wp2
         have n0_ : Aside0 ((((w30.setCell ⟨gb111, 0, none⟩ (.int .i8 0)).setCell ⟨gb111, 1, none⟩ (.int .i8 (IntKind.i8.wrap ((IntKind.i8.wrap (bt a0 0)) - 97)))).setCell ⟨gb111, 2, none⟩ (.int .i8 (IntKind.i8.wrap ((IntKind.i8.wrap (bt a0 2)) - 97)))).heap[gb110]? = some (.cells #[.int .i8 0, .int .i8 0, .int .i8 0] 56 (0, 0))) := ⟨pf_ BK110 NB110_111⟩
         have n1_ : Aside0 ((((w30.setCell ⟨gb111, 0, none⟩ (.int .i8 0)).setCell ⟨gb111, 1, none⟩ (.int .i8 (IntKind.i8.wrap ((IntKind.i8.wrap (bt a0 0)) - 97)))).setCell ⟨gb111, 2, none⟩ (.int .i8 (IntKind.i8.wrap ((IntKind.i8.wrap (bt a0 2)) - 97)))).heap[gb111]? = some (.cells #[.int .i8 0, .int .i8 (IntKind.i8.wrap ((IntKind.i8.wrap (bt a0 0)) - 97)), .int .i8 (IntKind.i8.wrap ((IntKind.i8.wrap (bt a0 2)) - 97))] 56 (0, 0))) := ⟨by (with_reducible repeat (first | refine blk_drewN ?_ _ | refine blk_drew ?_ | refine blk_alloc ?_ _)); refine blk_put (cs := #[.int .i8 0, .int .i8 (IntKind.i8.wrap ((IntKind.i8.wrap (bt a0 0)) - 97)), .int .i8 0]) ?_ 2 _ rfl; (with_reducible repeat (first | refine blk_drewN ?_ _ | refine blk_drew ?_ | refine blk_alloc ?_ _)); refine blk_put (cs := #[.int .i8 0, .int .i8 0, .int .i8 0]) ?_ 1 _ rfl; (with_reducible repeat (first | refine blk_drewN ?_ _ | refine blk_drew ?_ | refine blk_alloc ?_ _)); refine blk_put (cs := #[.int .i8 0, .int .i8 0, .int .i8 0]) ?_ 0 _ rfl; (with_reducible repeat (first | refine blk_drewN ?_ _ | refine blk_drew ?_ | refine blk_alloc ?_ _)); exact BK111.out⟩
         have n2_ : Aside0 (Below w.heap.size w (((w30.setCell ⟨gb111, 0, none⟩ (.int .i8 0)).setCell ⟨gb111, 1, none⟩ (.int .i8 (IntKind.i8.wrap ((IntKind.i8.wrap (bt a0 0)) - 97)))).setCell ⟨gb111, 2, none⟩ (.int .i8 (IntKind.i8.wrap ((IntKind.i8.wrap (bt a0 2)) - 97))))) := ⟨bs_ HB GE111⟩
         (try clear BK110)
         (try clear BK111)
         (try clear HB)
         generalize (((w30.setCell ⟨gb111, 0, none⟩ (.int .i8 0)).setCell ⟨gb111, 1, none⟩ (.int .i8 (IntKind.i8.wrap ((IntKind.i8.wrap (bt a0 0)) - 97)))).setCell ⟨gb111, 2, none⟩ (.int .i8 (IntKind.i8.wrap ((IntKind.i8.wrap (bt a0 2)) - 97)))) = w34 at n0_ n1_ n2_ ⊢
         have BK110 := n0_
         have BK111 := n1_
         have HB := n2_
         clear n0_ n1_ n2_
         have n0_ := A_ (blk_drew BK110.out)
         have n1_ := A_ (blk_drew BK111.out)
         have n2_ := A_ (below_drew1 HB.out)
         clear BK110
         clear BK111
         clear HB
         have BK110 := n0_
         have BK111 := n1_
         have HB := n2_
         clear n0_ n1_ n2_
         have p12 : 0 ≤ (0 : Int) := (by omega)
         have q12 : 0 < a0.size := (by have : (0 : Int) < (a0.size : Int) := asm_; omega)
         have hx12 : ∀ h : 0 < a0.size, ((a0[0]'h).toNat : Int) = bt a0 0 := bt_at a0 0
         clear p12
         have qi12 : (0 < (a0.size : Int)) = True := eq_true (asm_)
         replace q12 := eq_true q12
         have p14 : 0 ≤ (0 : Int) := (by omega)
         have q14 : 0 < a0.size := (by have : (0 : Int) < (a0.size : Int) := asm_; omega)
         have hx14 : ∀ h : 0 < a0.size, ((a0[0]'h).toNat : Int) = bt a0 0 := bt_at a0 0
         clear p14
         have qi14 : (0 < (a0.size : Int)) = True := eq_true (asm_)
         replace q14 := eq_true q14
         have p16 : 0 ≤ (2 : Int) := (by omega)
         have q16 : 2 < a0.size := (by have : (2 : Int) < (a0.size : Int) := asm_; omega)
         have hx16 : ∀ h : 2 < a0.size, ((a0[2]'h).toNat : Int) = bt a0 2 := bt_at a0 2
         clear p16
         have qi16 : (2 < (a0.size : Int)) = True := eq_true (asm_)
         replace q16 := eq_true q16
         refine start_ (n := 21) (S := fun w' => w'.cell? ⟨gb111, 0, none⟩ = some (.int .i8 0) ∧ w'.cell? ⟨gb111, 1, none⟩ = some (.int .i8 (IntKind.i8.wrap ((IntKind.i8.wrap (bt a0 0)) - 97))) ∧ w'.cell? ⟨gb111, 2, none⟩ = some (.int .i8 (IntKind.i8.wrap ((IntKind.i8.wrap (bt a0 2)) - 97)))) (ds := []) #[false, false, false, false, false, false, false, false, false, false, false, false, false, false, false, false, false, false, false, false, false] (by kernel_rfl) rfl rfl ⟨(blk_cell BK111.out 0).trans rfl, (blk_cell BK111.out 1).trans rfl, (blk_cell BK111.out 2).trans rfl⟩ (fun hHeld => ?_); refine with_tabW spec_l02ReadMove.tab3 spec_l02ReadMove.bits3 (fun HT_ HW_ => ?_)
         generalize w34.drew = w35 at BK110 BK111 HB hHeld ⊢
         refine pure_ (i := 1) (N := some 24) (v := ?_) (a' := ?_) #[false, true, false, false, false, false, false, false, false, false, false, false, false, false, false, false, false, false, false, false, false] rfl rfl (any_of HT_.out (by kernel_rfl)) (fun _ _ _ h => h) (Or.inl ⟨by rfl, ?_⟩) ?_ ?_
         rotate_left
         ·intro w'
          go_simp
          with_reducible rfl
         rotate_left
         ·simp only [Act.put, sp_]
          rfl
         refine take_ (i := 0) (N := some 23) (v := ?_) (a' := ?_) #[true, true, false, false, false, false, false, false, false, false, false, false, false, false, false, false, false, false, false, false, false] rfl rfl (take_ofW HT_.out HW_.out (by kernel_rfl)) (fun _ _ _ h => h) (Or.inl ⟨by rfl, ?_⟩) hHeld ?_ ?_
         rotate_left
         ·rintro w' ⟨s0, s1, s2⟩
          go_simp
          with_reducible rfl
         rotate_left
         ·simp only [Act.put, sp_]
          rfl
         refine take_ (i := 2) (N := some 25) (v := ?_) (a' := ?_) #[true, true, true, false, false, false, false, false, false, false, false, false, false, false, false, false, false, false, false, false, false] rfl rfl (take_ofW HT_.out HW_.out (by kernel_rfl)) (fun _ _ _ h => h) (Or.inl ⟨by rfl, ?_⟩) hHeld ?_ ?_
         rotate_left
         ·rintro w' ⟨s0, s1, s2⟩
          go_simp
          with_reducible rfl
         rotate_left
         ·simp only [Act.put, sp_]
          rfl
         refine pure_ (i := 3) (N := some 26) (v := ?_) (a' := ?_) #[true, true, true, true, false, false, false, false, false, false, false, false, false, false, false, false, false, false, false, false, false] rfl rfl (any_of HT_.out (by kernel_rfl)) (fun _ _ _ h => h) (Or.inl ⟨by rfl, ?_⟩) ?_ ?_
         rotate_left
         ·intro w'
          go_simp
          with_reducible rfl
         rotate_left
         ·simp only [Act.put, sp_]
          rfl
         refine pure_ (i := 4) (N := some 27) (v := ?_) (a' := ?_) #[true, true, true, true, true, false, false, false, false, false, false, false, false, false, false, false, false, false, false, false, false] rfl rfl (any_of HT_.out (by kernel_rfl)) (fun _ _ _ h => h) (Or.inl ⟨by rfl, ?_⟩) ?_ ?_
         rotate_left
         ·intro w'
          go_simp
          with_reducible rfl
         rotate_left
         ·simp only [Act.put, sp_]
          rfl
         refine pure_ (i := 5) (N := some 28) (v := ?_) (a' := ?_) #[true, true, true, true, true, true, false, false, false, false, false, false, false, false, false, false, false, false, false, false, false] rfl rfl (any_of HT_.out (by kernel_rfl)) (fun _ _ _ h => h) (Or.inl ⟨by rfl, ?_⟩) ?_ ?_
         rotate_left
         ·intro w'
          go_simp
          with_reducible rfl
         rotate_left
         ·simp only [Act.put, sp_]
          rfl
         refine take_ (i := 6) (N := some 29) (v := ?_) (a' := ?_) #[true, true, true, true, true, true, true, false, false, false, false, false, false, false, false, false, false, false, false, false, false] rfl rfl (take_ofW HT_.out HW_.out (by kernel_rfl)) (fun _ _ _ h => h) (Or.inl ⟨by rfl, ?_⟩) hHeld ?_ ?_
         rotate_left
         ·rintro w' ⟨s0, s1, s2⟩
          go_simp
          with_reducible rfl
         rotate_left
         ·simp only [Act.put, sp_]
          rfl
         refine pure_ (i := 7) (N := some 30) (v := ?_) (a' := ?_) #[true, true, true, true, true, true, true, true, false, false, false, false, false, false, false, false, false, false, false, false, false] rfl rfl (any_of HT_.out (by kernel_rfl)) (fun _ _ _ h => h) (Or.inl ⟨by rfl, ?_⟩) ?_ ?_
         rotate_left
         ·intro w'
          go_simp
          with_reducible rfl
         rotate_left
         ·simp only [Act.put, sp_]
          rfl
         refine pure_ (i := 8) (N := some 31) (v := ?_) (a' := ?_) #[true, true, true, true, true, true, true, true, true, false, false, false, false, false, false, false, false, false, false, false, false] rfl rfl (any_of HT_.out (by kernel_rfl)) (fun _ _ _ h => h) (Or.inl ⟨by rfl, ?_⟩) ?_ ?_
         rotate_left
         ·intro w'
          go_simp
          with_reducible rfl
         rotate_left
         ·simp only [Act.put, sp_]
          rfl
         refine pure_ (i := 9) (N := some 32) (v := ?_) (a' := ?_) #[true, true, true, true, true, true, true, true, true, true, false, false, false, false, false, false, false, false, false, false, false] rfl rfl (any_of HT_.out (by kernel_rfl)) (fun _ _ _ h => h) (Or.inl ⟨by rfl, ?_⟩) ?_ ?_
         rotate_left
         ·intro w'
          go_simp
          with_reducible rfl
         rotate_left
         ·simp only [Act.put, sp_]
          rfl
         refine pure_ (i := 10) (N := some 33) (v := ?_) (a' := ?_) #[true, true, true, true, true, true, true, true, true, true, true, false, false, false, false, false, false, false, false, false, false] rfl rfl (any_of HT_.out (by kernel_rfl)) (fun _ _ _ h => h) (Or.inl ⟨by rfl, ?_⟩) ?_ ?_
         rotate_left
         ·intro w'
          go_simp
          with_reducible rfl
         rotate_left
         ·simp only [Act.put, sp_]
          rfl
         refine take_ (i := 11) (N := some 34) (v := ?_) (a' := ?_) #[true, true, true, true, true, true, true, true, true, true, true, true, false, false, false, false, false, false, false, false, false] rfl rfl (take_ofW HT_.out HW_.out (by kernel_rfl)) (fun _ _ _ h => h) (Or.inl ⟨by rfl, ?_⟩) hHeld ?_ ?_
         rotate_left
         ·rintro w' ⟨s0, s1, s2⟩
          go_simp
          with_reducible rfl
         rotate_left
         ·simp only [Act.put, sp_]
          rfl
         refine pure_ (i := 12) (N := some 35) (v := ?_) (a' := ?_) #[true, true, true, true, true, true, true, true, true, true, true, true, true, false, false, false, false, false, false, false, false] rfl rfl (any_of HT_.out (by kernel_rfl)) (fun _ _ _ h => h) (Or.inl ⟨by rfl, ?_⟩) ?_ ?_
         rotate_left
         ·intro w'
          go_simp
          with_reducible rfl
         rotate_left
         ·simp only [Act.put, sp_]
          rfl
         refine pure_ (i := 13) (N := some 36) (v := ?_) (a' := ?_) #[true, true, true, true, true, true, true, true, true, true, true, true, true, true, false, false, false, false, false, false, false] rfl rfl (any_of HT_.out (by kernel_rfl)) (fun _ _ _ h => h) (Or.inl ⟨by rfl, ?_⟩) ?_ ?_
         rotate_left
         ·intro w'
          go_simp
          with_reducible rfl
         rotate_left
         ·simp only [Act.put, sp_]
          rfl
         refine pure_ (i := 14) (N := some 37) (v := ?_) (a' := ?_) #[true, true, true, true, true, true, true, true, true, true, true, true, true, true, true, false, false, false, false, false, false] rfl rfl (any_of HT_.out (by kernel_rfl)) (fun _ _ _ h => h) (Or.inl ⟨by rfl, ?_⟩) ?_ ?_
         rotate_left
         ·intro w'
          go_simp
          with_reducible rfl
         rotate_left
         ·simp only [Act.put, sp_]
          rfl
         refine pure_ (i := 15) (N := some 38) (v := undef) (a' := ?_) #[true, true, true, true, true, true, true, true, true, true, true, true, true, true, true, true, false, false, false, false, false] rfl rfl (any_of HT_.out (by kernel_rfl)) (fun _ _ _ h => h) (Or.inr ⟨by rfl, rfl⟩) ?_ ?_
         rotate_left
         ·simp only [Act.put, sp_]
          rfl
         refine pure_ (i := 16) (N := some 39) (v := undef) (a' := ?_) #[true, true, true, true, true, true, true, true, true, true, true, true, true, true, true, true, true, false, false, false, false] rfl rfl (any_of HT_.out (by kernel_rfl)) (fun _ _ _ h => h) (Or.inr ⟨by rfl, rfl⟩) ?_ ?_
         rotate_left
         ·simp only [Act.put, sp_]
          rfl
         refine pure_ (i := 17) (N := some 40) (v := undef) (a' := ?_) #[true, true, true, true, true, true, true, true, true, true, true, true, true, true, true, true, true, true, false, false, false] rfl rfl (any_of HT_.out (by kernel_rfl)) (fun _ _ _ h => h) (Or.inr ⟨by rfl, rfl⟩) ?_ ?_
         rotate_left
         ·simp only [Act.put, sp_]
          rfl
         refine pure_ (i := 18) (N := some 41) (v := ?_) (a' := ?_) #[true, true, true, true, true, true, true, true, true, true, true, true, true, true, true, true, true, true, true, false, false] rfl rfl (any_of HT_.out (by kernel_rfl)) (fun _ _ _ h => h) (Or.inl ⟨by rfl, ?_⟩) ?_ ?_
         rotate_left
         ·intro w'
          go_simp
          with_reducible rfl
         rotate_left
         ·simp only [Act.put, sp_]
          rfl
         refine one_ (i := 19) (N := none) #[true, true, true, true, true, true, true, true, true, true, true, true, true, true, true, true, true, true, true, true, false] rfl rfl (one_of HT_.out (by kernel_rfl)) (by decide) (fun K hK => ?_)
         have hs36 : w35.cell? ⟨gb110, 0, none⟩ = some (.int .i8 0) := (blk_cell BK110.out 0).trans rfl
         have hfs36 := blk_frozen BK110.out 0
         have hns36_1 := NB111_110.out
         have hms36_1 := NB110_111.out
         have hs37 : w35.cell? ⟨gb110, 1, none⟩ = some (.int .i8 0) := (blk_cell BK110.out 1).trans rfl
         have hfs37 := blk_frozen BK110.out 1
         have hns37_1 := NB111_110.out
         have hms37_1 := NB110_111.out
         have hs38 : w35.cell? ⟨gb110, 2, none⟩ = some (.int .i8 0) := (blk_cell BK110.out 2).trans rfl
         have hfs38 := blk_frozen BK110.out 2
         have hns38_1 := NB111_110.out
         have hms38_1 := NB110_111.out
         refine skip_ (w1 := ?_) (by rfl) rfl ?_ ?_
         rotate_left
         ·go_simp
          rfl
         refine hK.out _ _ ⟨(cf3_ NB111_110 (hHeld.1)), (cf3_ NB111_110 (hHeld.2.1)), (cf3_ NB111_110 (hHeld.2.2))⟩ (fun hHeld => ?_)
         clear hK K
         refine pure_ (i := 20) (N := some 3) (v := ?_) (a' := ?_) #[true, true, true, true, true, true, true, true, true, true, true, true, true, true, true, true, true, true, true, true, true] rfl rfl (any_of HT_.out (by kernel_rfl)) (fun _ _ _ h => h) (Or.inl ⟨by rfl, ?_⟩) ?_ ?_
         rotate_left
         ·intro w'
          go_simp
          with_reducible rfl
         rotate_left
         ·simp only [Act.put, sp_]
          rfl
         refine done_ (done_of HT_.out (by kernel_rfl)) ?_
         try go_wp2
         refine bodyPost_ret (results_ct rfl _ _ gb110 56 #[.int .i8 0, .int .i8 (IntKind.i8.wrap ((IntKind.i8.wrap (bt a0 0)) - 97)), .int .i8 (IntKind.i8.wrap ((IntKind.i8.wrap (bt a0 2)) - 97))] (0, 0) _ rfl (by (with_reducible repeat (first | refine blk_drewN ?_ _ | refine blk_drew ?_ | refine blk_alloc ?_ _)); refine blk_put (cs := #[.int .i8 0, .int .i8 (IntKind.i8.wrap ((IntKind.i8.wrap (bt a0 0)) - 97)), .int .i8 0]) ?_ 2 _ rfl; (with_reducible repeat (first | refine blk_drewN ?_ _ | refine blk_drew ?_ | refine blk_alloc ?_ _)); refine blk_put (cs := #[.int .i8 0, .int .i8 0, .int .i8 0]) ?_ 1 _ rfl; (with_reducible repeat (first | refine blk_drewN ?_ _ | refine blk_drew ?_ | refine blk_alloc ?_ _)); refine blk_put (cs := #[.int .i8 0, .int .i8 0, .int .i8 0]) ?_ 0 _ rfl; (with_reducible repeat (first | refine blk_drewN ?_ _ | refine blk_drew ?_ | refine blk_alloc ?_ _)); exact BK110.out) Tryd.underlying56 rfl (by kernel_rfl)) rfl ?_
         exact ⟨by first | rfl | (simp [errW_none, errW_some] <;> rfl) | (simp [*, errW_none, errW_some] <;> rfl), bs_ HB GE110⟩
       ·rw [if_neg c15] at H
        have c15b0 : decide ((bt a0 0) < 101) = false := decide_eq_false c15
        clear c15
        simp only [Option.some.injEq, Prod.mk.injEq] at H
        obtain ⟨rfl, rfl, rfl, rfl⟩ := H
        try go_wp2
        have n0_ := A_ (blk_drew BK110.out)
        have n1_ := A_ (below_drew1 HB.out)
        clear BK110
        clear HB
        have BK110 := n0_
        have HB := n1_
        clear n0_ n1_
        have p9 : 0 ≤ (0 : Int) := (by omega)
        have q9 : 0 < a0.size := (by have : (0 : Int) < (a0.size : Int) := asm_; omega)
        have hx9 : ∀ h : 0 < a0.size, ((a0[0]'h).toNat : Int) = bt a0 0 := bt_at a0 0
        clear p9
        have qi9 : (0 < (a0.size : Int)) = True := eq_true (asm_)
        replace q9 := eq_true q9
        have p11 : 0 ≤ (2 : Int) := (by omega)
        have q11 : 2 < a0.size := (by have : (2 : Int) < (a0.size : Int) := asm_; omega)
        have hx11 : ∀ h : 2 < a0.size, ((a0[2]'h).toNat : Int) = bt a0 2 := bt_at a0 2
        clear p11
        have qi11 : (2 < (a0.size : Int)) = True := eq_true (asm_)
        replace q11 := eq_true q11
        refine start_ (n := 11) (S := fun w' => True) (ds := []) #[false, false, false, false, false, false, false, false, false, false, false] (by kernel_rfl) rfl rfl trivial (fun hHeld => ?_); refine with_tabW spec_l02ReadMove.tab2 spec_l02ReadMove.bits2 (fun HT_ HW_ => ?_)
        generalize wc.drew = w39 at BK110 HB hHeld ⊢
        refine pure_ (i := 0) (N := some 14) (v := ?_) (a' := ?_) #[true, false, false, false, false, false, false, false, false, false, false] rfl rfl (any_of HT_.out (by kernel_rfl)) (fun _ _ _ h => h) (Or.inl ⟨by rfl, ?_⟩) ?_ ?_
        rotate_left
        ·intro w'
         go_simp
         with_reducible rfl
        rotate_left
        ·simp only [Act.put, sp_]
         rfl
        refine pure_ (i := 4) (N := some 18) (v := ?_) (a' := ?_) #[true, false, false, false, true, false, false, false, false, false, false] rfl rfl (any_of HT_.out (by kernel_rfl)) (fun _ _ _ h => h) (Or.inl ⟨by rfl, ?_⟩) ?_ ?_
        rotate_left
        ·intro w'
         go_simp
         with_reducible rfl
        rotate_left
        ·simp only [Act.put, sp_]
         rfl
        refine take_ (i := 1) (N := some 15) (v := ?_) (a' := ?_) #[true, true, false, false, true, false, false, false, false, false, false] rfl rfl (take_ofW HT_.out HW_.out (by kernel_rfl)) (fun _ _ _ h => h) (Or.inl ⟨by rfl, ?_⟩) hHeld ?_ ?_
        rotate_left
        ·intro w' _
         go_simp
         with_reducible rfl
        rotate_left
        ·simp only [Act.put, sp_]
         rfl
        refine pure_ (i := 2) (N := some 16) (v := ?_) (a' := ?_) #[true, true, true, false, true, false, false, false, false, false, false] rfl rfl (any_of HT_.out (by kernel_rfl)) (fun _ _ _ h => h) (Or.inl ⟨by rfl, ?_⟩) ?_ ?_
        rotate_left
        ·intro w'
         go_simp
         with_reducible rfl
        rotate_left
        ·simp only [Act.put, sp_]
         rfl
        refine pure_ (i := 3) (N := some 17) (v := ?_) (a' := ?_) #[true, true, true, true, true, false, false, false, false, false, false] rfl rfl (any_of HT_.out (by kernel_rfl)) (fun _ _ _ h => h) (Or.inl ⟨by rfl, ?_⟩) ?_ ?_
        rotate_left
        ·intro w'
         go_simp
         with_reducible rfl
        rotate_left
        ·simp only [Act.put, sp_]
         rfl
        refine take_ (i := 5) (N := some 19) (v := ?_) (a' := ?_) #[true, true, true, true, true, true, false, false, false, false, false] rfl rfl (take_ofW HT_.out HW_.out (by kernel_rfl)) (fun _ _ _ h => h) (Or.inl ⟨by rfl, ?_⟩) hHeld ?_ ?_
        rotate_left
        ·intro w' _
         go_simp
         with_reducible rfl
        rotate_left
        ·simp only [Act.put, sp_]
         rfl
        refine pure_ (i := 6) (N := some 20) (v := ?_) (a' := ?_) #[true, true, true, true, true, true, true, false, false, false, false] rfl rfl (any_of HT_.out (by kernel_rfl)) (fun _ _ _ h => h) (Or.inl ⟨by rfl, ?_⟩) ?_ ?_
        rotate_left
        ·intro w'
         go_simp
         with_reducible rfl
        rotate_left
        ·simp only [Act.put, sp_]
         rfl
        refine pure_ (i := 7) (N := some 21) (v := ?_) (a' := ?_) #[true, true, true, true, true, true, true, true, false, false, false] rfl rfl (any_of HT_.out (by kernel_rfl)) (fun _ _ _ h => h) (Or.inl ⟨by rfl, ?_⟩) ?_ ?_
        rotate_left
        ·intro w'
         go_simp
         with_reducible rfl
        rotate_left
        ·simp only [Act.put, sp_]
         rfl
        refine pure_ (i := 8) (N := some 22) (v := ?_) (a' := ?_) #[true, true, true, true, true, true, true, true, true, false, false] rfl rfl (any_of HT_.out (by kernel_rfl)) (fun _ _ _ h => h) (Or.inl ⟨by rfl, ?_⟩) ?_ ?_
        rotate_left
        ·intro w'
         go_simp
         with_reducible rfl
        rotate_left
        ·simp only [Act.put, sp_]
         rfl
        refine one_ (i := 9) (N := some 4) #[true, true, true, true, true, true, true, true, true, true, false] rfl rfl (one_of HT_.out (by kernel_rfl)) (by decide) (fun K hK => ?_)
        refine box_step ?hg (N := 4) ?hd (cs := #[.int .i8 0, .int .i8 0, .int .i8 0]) (t := 56) ?hr ?_; (case hd => rfl); (case hg => rfl); (case hr => first | (go_simp; done) | (go_simp; rfl))
        intro gb111 hg w40 hbox hb
        have n0_ := A_ (blk_below (pl_ BK110) hb)
        have n1_ := A_ (below_step (bl_ HB) hb)
        have n2_ := A_ (hbox)
        have n3_ := A_ ((by rw [hg]; exact (below_size (bl_ HB)) : w.heap.size ≤ gb111))
        have n4_ := n3_
        have n5_ := A_ ((by rw [hg]; exact Nat.ne_of_lt (blk_lt (pl_ BK110)) : gb110 ≠ gb111))
        have n6_ := Aside0.mk n5_.out.symm
        clear BK110
        clear HB
        have BK110 := n0_
        have HB := n1_
        have BK111 := n2_
        have GW111 := n3_
        have GE111 := n4_
        have NB110_111 := n5_
        have NB111_110 := n6_
        clear n0_ n1_ n2_ n3_ n4_ n5_ n6_
        clear hb hbox hg
        refine hK.out _ _ trivial (fun hHeld => ?_)
        clear hK K
        refine norm_ (a' := ?_) ?_ ?_
        rotate_left
        ·show Act.put _ (some 4) _ = _
         simp only [Act.put, sp_]
         rfl
        refine one_ (i := 10) (N := none) #[true, true, true, true, true, true, true, true, true, true, true] rfl rfl (one_of HT_.out (by kernel_rfl)) (by decide) (fun K hK => ?_)
        have hs41 : w40.cell? ⟨gb111, 0, none⟩ = some (.int .i8 0) := (blk_cell BK111.out 0).trans rfl
        have hfs41 := blk_frozen BK111.out 0
        have hns41_0 := NB110_111.out
        have hms41_0 := NB111_110.out
        have hs42 : w40.cell? ⟨gb111, 1, none⟩ = some (.int .i8 0) := (blk_cell BK111.out 1).trans rfl
        have hfs42 := blk_frozen BK111.out 1
        have hns42_0 := NB110_111.out
        have hms42_0 := NB111_110.out
        have hs43 : w40.cell? ⟨gb111, 2, none⟩ = some (.int .i8 0) := (blk_cell BK111.out 2).trans rfl
        have hfs43 := blk_frozen BK111.out 2
        have hns43_0 := NB110_111.out
        have hms43_0 := NB111_110.out
        refine skip_ (w1 := ?_) (by rfl) rfl ?_ ?_
        rotate_left
        ·go_simp
         rfl
        refine hK.out _ _ trivial (fun hHeld => ?_)
        clear hK K
        refine done_ (done_of HT_.out (by kernel_rfl)) ?_
        try go_wp2
        have n0_ : Aside0 ((((w40.setCell ⟨gb111, 0, none⟩ (.int .i8 0)).setCell ⟨gb111, 1, none⟩ (.int .i8 (IntKind.i8.wrap ((IntKind.i8.wrap (bt a0 0)) - 97)))).setCell ⟨gb111, 2, none⟩ (.int .i8 (IntKind.i8.wrap ((IntKind.i8.wrap (bt a0 2)) - 97)))).heap[gb110]? = some (.cells #[.int .i8 0, .int .i8 0, .int .i8 0] 56 (0, 0))) := ⟨pf_ BK110 NB110_111⟩
        have n1_ : Aside0 ((((w40.setCell ⟨gb111, 0, none⟩ (.int .i8 0)).setCell ⟨gb111, 1, none⟩ (.int .i8 (IntKind.i8.wrap ((IntKind.i8.wrap (bt a0 0)) - 97)))).setCell ⟨gb111, 2, none⟩ (.int .i8 (IntKind.i8.wrap ((IntKind.i8.wrap (bt a0 2)) - 97)))).heap[gb111]? = some (.cells #[.int .i8 0, .int .i8 (IntKind.i8.wrap ((IntKind.i8.wrap (bt a0 0)) - 97)), .int .i8 (IntKind.i8.wrap ((IntKind.i8.wrap (bt a0 2)) - 97))] 56 (0, 0))) := ⟨by (with_reducible repeat (first | refine blk_drewN ?_ _ | refine blk_drew ?_ | refine blk_alloc ?_ _)); refine blk_put (cs := #[.int .i8 0, .int .i8 (IntKind.i8.wrap ((IntKind.i8.wrap (bt a0 0)) - 97)), .int .i8 0]) ?_ 2 _ rfl; (with_reducible repeat (first | refine blk_drewN ?_ _ | refine blk_drew ?_ | refine blk_alloc ?_ _)); refine blk_put (cs := #[.int .i8 0, .int .i8 0, .int .i8 0]) ?_ 1 _ rfl; (with_reducible repeat (first | refine blk_drewN ?_ _ | refine blk_drew ?_ | refine blk_alloc ?_ _)); refine blk_put (cs := #[.int .i8 0, .int .i8 0, .int .i8 0]) ?_ 0 _ rfl; (with_reducible repeat (first | refine blk_drewN ?_ _ | refine blk_drew ?_ | refine blk_alloc ?_ _)); exact BK111.out⟩
        have n2_ : Aside0 (Below w.heap.size w (((w40.setCell ⟨gb111, 0, none⟩ (.int .i8 0)).setCell ⟨gb111, 1, none⟩ (.int .i8 (IntKind.i8.wrap ((IntKind.i8.wrap (bt a0 0)) - 97)))).setCell ⟨gb111, 2, none⟩ (.int .i8 (IntKind.i8.wrap ((IntKind.i8.wrap (bt a0 2)) - 97))))) := ⟨bs_ HB GE111⟩
        (try clear BK110)
        (try clear BK111)
        (try clear HB)
        generalize (((w40.setCell ⟨gb111, 0, none⟩ (.int .i8 0)).setCell ⟨gb111, 1, none⟩ (.int .i8 (IntKind.i8.wrap ((IntKind.i8.wrap (bt a0 0)) - 97)))).setCell ⟨gb111, 2, none⟩ (.int .i8 (IntKind.i8.wrap ((IntKind.i8.wrap (bt a0 2)) - 97)))) = w44 at n0_ n1_ n2_ ⊢
        have BK110 := n0_
        have BK111 := n1_
        have HB := n2_
        clear n0_ n1_ n2_
        have n0_ := A_ (blk_drew BK110.out)
        have n1_ := A_ (blk_drew BK111.out)
        have n2_ := A_ (below_drew1 HB.out)
        clear BK110
        clear BK111
        clear HB
        have BK110 := n0_
        have BK111 := n1_
        have HB := n2_
        clear n0_ n1_ n2_
        have p12 : 0 ≤ (0 : Int) := (by omega)
        have q12 : 0 < a0.size := (by have : (0 : Int) < (a0.size : Int) := asm_; omega)
        have hx12 : ∀ h : 0 < a0.size, ((a0[0]'h).toNat : Int) = bt a0 0 := bt_at a0 0
        clear p12
        have qi12 : (0 < (a0.size : Int)) = True := eq_true (asm_)
        replace q12 := eq_true q12
        have p14 : 0 ≤ (0 : Int) := (by omega)
        have q14 : 0 < a0.size := (by have : (0 : Int) < (a0.size : Int) := asm_; omega)
        have hx14 : ∀ h : 0 < a0.size, ((a0[0]'h).toNat : Int) = bt a0 0 := bt_at a0 0
        clear p14
        have qi14 : (0 < (a0.size : Int)) = True := eq_true (asm_)
        replace q14 := eq_true q14
        refine start_ (n := 21) (S := fun w' => w'.cell? ⟨gb111, 0, none⟩ = some (.int .i8 0) ∧ w'.cell? ⟨gb111, 1, none⟩ = some (.int .i8 (IntKind.i8.wrap ((IntKind.i8.wrap (bt a0 0)) - 97))) ∧ w'.cell? ⟨gb111, 2, none⟩ = some (.int .i8 (IntKind.i8.wrap ((IntKind.i8.wrap (bt a0 2)) - 97)))) (ds := []) #[false, false, false, false, false, false, false, false, false, false, false, false, false, false, false, false, false, false, false, false, false] (by kernel_rfl) rfl rfl ⟨(blk_cell BK111.out 0).trans rfl, (blk_cell BK111.out 1).trans rfl, (blk_cell BK111.out 2).trans rfl⟩ (fun hHeld => ?_); refine with_tabW spec_l02ReadMove.tab3 spec_l02ReadMove.bits3 (fun HT_ HW_ => ?_)
        generalize w44.drew = w45 at BK110 BK111 HB hHeld ⊢
        refine pure_ (i := 1) (N := some 24) (v := ?_) (a' := ?_) #[false, true, false, false, false, false, false, false, false, false, false, false, false, false, false, false, false, false, false, false, false] rfl rfl (any_of HT_.out (by kernel_rfl)) (fun _ _ _ h => h) (Or.inl ⟨by rfl, ?_⟩) ?_ ?_
        rotate_left
        ·intro w'
         go_simp
         with_reducible rfl
        rotate_left
        ·simp only [Act.put, sp_]
         rfl
        refine take_ (i := 0) (N := some 23) (v := ?_) (a' := ?_) #[true, true, false, false, false, false, false, false, false, false, false, false, false, false, false, false, false, false, false, false, false] rfl rfl (take_ofW HT_.out HW_.out (by kernel_rfl)) (fun _ _ _ h => h) (Or.inl ⟨by rfl, ?_⟩) hHeld ?_ ?_
        rotate_left
        ·rintro w' ⟨s0, s1, s2⟩
         go_simp
         with_reducible rfl
        rotate_left
        ·simp only [Act.put, sp_]
         rfl
        refine take_ (i := 2) (N := some 25) (v := ?_) (a' := ?_) #[true, true, true, false, false, false, false, false, false, false, false, false, false, false, false, false, false, false, false, false, false] rfl rfl (take_ofW HT_.out HW_.out (by kernel_rfl)) (fun _ _ _ h => h) (Or.inl ⟨by rfl, ?_⟩) hHeld ?_ ?_
        rotate_left
        ·rintro w' ⟨s0, s1, s2⟩
         go_simp
         with_reducible rfl
        rotate_left
        ·simp only [Act.put, sp_]
         rfl
        refine pure_ (i := 3) (N := some 26) (v := ?_) (a' := ?_) #[true, true, true, true, false, false, false, false, false, false, false, false, false, false, false, false, false, false, false, false, false] rfl rfl (any_of HT_.out (by kernel_rfl)) (fun _ _ _ h => h) (Or.inl ⟨by rfl, ?_⟩) ?_ ?_
        rotate_left
        ·intro w'
         go_simp
         with_reducible rfl
        rotate_left
        ·simp only [Act.put, sp_]
         rfl
        refine pure_ (i := 4) (N := some 27) (v := ?_) (a' := ?_) #[true, true, true, true, true, false, false, false, false, false, false, false, false, false, false, false, false, false, false, false, false] rfl rfl (any_of HT_.out (by kernel_rfl)) (fun _ _ _ h => h) (Or.inl ⟨by rfl, ?_⟩) ?_ ?_
        rotate_left
        ·intro w'
         go_simp
         with_reducible rfl
        rotate_left
        ·simp only [Act.put, sp_]
         rfl
        refine pure_ (i := 5) (N := some 28) (v := ?_) (a' := ?_) #[true, true, true, true, true, true, false, false, false, false, false, false, false, false, false, false, false, false, false, false, false] rfl rfl (any_of HT_.out (by kernel_rfl)) (fun _ _ _ h => h) (Or.inl ⟨by rfl, ?_⟩) ?_ ?_
        rotate_left
        ·intro w'
         go_simp
         with_reducible rfl
        rotate_left
        ·simp only [Act.put, sp_]
         rfl
        refine take_ (i := 6) (N := some 29) (v := ?_) (a' := ?_) #[true, true, true, true, true, true, true, false, false, false, false, false, false, false, false, false, false, false, false, false, false] rfl rfl (take_ofW HT_.out HW_.out (by kernel_rfl)) (fun _ _ _ h => h) (Or.inl ⟨by rfl, ?_⟩) hHeld ?_ ?_
        rotate_left
        ·rintro w' ⟨s0, s1, s2⟩
         go_simp
         with_reducible rfl
        rotate_left
        ·simp only [Act.put, sp_]
         rfl
        refine pure_ (i := 7) (N := some 30) (v := ?_) (a' := ?_) #[true, true, true, true, true, true, true, true, false, false, false, false, false, false, false, false, false, false, false, false, false] rfl rfl (any_of HT_.out (by kernel_rfl)) (fun _ _ _ h => h) (Or.inl ⟨by rfl, ?_⟩) ?_ ?_
        rotate_left
        ·intro w'
         go_simp
         with_reducible rfl
        rotate_left
        ·simp only [Act.put, sp_]
         rfl
        refine pure_ (i := 8) (N := some 31) (v := ?_) (a' := ?_) #[true, true, true, true, true, true, true, true, true, false, false, false, false, false, false, false, false, false, false, false, false] rfl rfl (any_of HT_.out (by kernel_rfl)) (fun _ _ _ h => h) (Or.inl ⟨by rfl, ?_⟩) ?_ ?_
        rotate_left
        ·intro w'
         go_simp
         with_reducible rfl
        rotate_left
        ·simp only [Act.put, sp_]
         rfl
        refine pure_ (i := 9) (N := some 32) (v := ?_) (a' := ?_) #[true, true, true, true, true, true, true, true, true, true, false, false, false, false, false, false, false, false, false, false, false] rfl rfl (any_of HT_.out (by kernel_rfl)) (fun _ _ _ h => h) (Or.inl ⟨by rfl, ?_⟩) ?_ ?_
        rotate_left
        ·intro w'
         go_simp
         with_reducible rfl
        rotate_left
        ·simp only [Act.put, sp_]
         rfl
        refine pure_ (i := 10) (N := some 33) (v := undef) (a' := ?_) #[true, true, true, true, true, true, true, true, true, true, true, false, false, false, false, false, false, false, false, false, false] rfl rfl (any_of HT_.out (by kernel_rfl)) (fun _ _ _ h => h) (Or.inr ⟨by rfl, rfl⟩) ?_ ?_
        rotate_left
        ·simp only [Act.put, sp_]
         rfl
        refine pure_ (i := 11) (N := some 34) (v := undef) (a' := ?_) #[true, true, true, true, true, true, true, true, true, true, true, true, false, false, false, false, false, false, false, false, false] rfl rfl (any_of HT_.out (by kernel_rfl)) (fun _ _ _ h => h) (Or.inr ⟨by rfl, rfl⟩) ?_ ?_
        rotate_left
        ·simp only [Act.put, sp_]
         rfl
        refine pure_ (i := 12) (N := some 35) (v := undef) (a' := ?_) #[true, true, true, true, true, true, true, true, true, true, true, true, true, false, false, false, false, false, false, false, false] rfl rfl (any_of HT_.out (by kernel_rfl)) (fun _ _ _ h => h) (Or.inr ⟨by rfl, rfl⟩) ?_ ?_
        rotate_left
        ·simp only [Act.put, sp_]
         rfl
        refine pure_ (i := 13) (N := some 36) (v := ?_) (a' := ?_) #[true, true, true, true, true, true, true, true, true, true, true, true, true, true, false, false, false, false, false, false, false] rfl rfl (any_of HT_.out (by kernel_rfl)) (fun _ _ _ h => h) (Or.inl ⟨by rfl, ?_⟩) ?_ ?_
        rotate_left
        ·intro w'
         go_simp
         with_reducible rfl
        rotate_left
        ·simp only [Act.put, sp_]
         rfl
        refine pure_ (i := 14) (N := some 37) (v := ?_) (a' := ?_) #[true, true, true, true, true, true, true, true, true, true, true, true, true, true, true, false, false, false, false, false, false] rfl rfl (any_of HT_.out (by kernel_rfl)) (fun _ _ _ h => h) (Or.inl ⟨by rfl, ?_⟩) ?_ ?_
        rotate_left
        ·intro w'
         go_simp
         with_reducible rfl
        rotate_left
        ·simp only [Act.put, sp_]
         rfl
        refine pure_ (i := 15) (N := some 38) (v := undef) (a' := ?_) #[true, true, true, true, true, true, true, true, true, true, true, true, true, true, true, true, false, false, false, false, false] rfl rfl (any_of HT_.out (by kernel_rfl)) (fun _ _ _ h => h) (Or.inr ⟨by rfl, rfl⟩) ?_ ?_
        rotate_left
        ·simp only [Act.put, sp_]
         rfl
        refine pure_ (i := 16) (N := some 39) (v := undef) (a' := ?_) #[true, true, true, true, true, true, true, true, true, true, true, true, true, true, true, true, true, false, false, false, false] rfl rfl (any_of HT_.out (by kernel_rfl)) (fun _ _ _ h => h) (Or.inr ⟨by rfl, rfl⟩) ?_ ?_
        rotate_left
        ·simp only [Act.put, sp_]
         rfl
        refine pure_ (i := 17) (N := some 40) (v := undef) (a' := ?_) #[true, true, true, true, true, true, true, true, true, true, true, true, true, true, true, true, true, true, false, false, false] rfl rfl (any_of HT_.out (by kernel_rfl)) (fun _ _ _ h => h) (Or.inr ⟨by rfl, rfl⟩) ?_ ?_
        rotate_left
        ·simp only [Act.put, sp_]
         rfl
        refine pure_ (i := 18) (N := some 41) (v := ?_) (a' := ?_) #[true, true, true, true, true, true, true, true, true, true, true, true, true, true, true, true, true, true, true, false, false] rfl rfl (any_of HT_.out (by kernel_rfl)) (fun _ _ _ h => h) (Or.inl ⟨by rfl, ?_⟩) ?_ ?_
        rotate_left
        ·intro w'
         go_simp
         with_reducible rfl
        rotate_left
        ·simp only [Act.put, sp_]
         rfl
        refine one_ (i := 19) (N := none) #[true, true, true, true, true, true, true, true, true, true, true, true, true, true, true, true, true, true, true, true, false] rfl rfl (one_of HT_.out (by kernel_rfl)) (by decide) (fun K hK => ?_)
        have hs46 : w45.cell? ⟨gb110, 0, none⟩ = some (.int .i8 0) := (blk_cell BK110.out 0).trans rfl
        have hfs46 := blk_frozen BK110.out 0
        have hns46_1 := NB111_110.out
        have hms46_1 := NB110_111.out
        have hs47 : w45.cell? ⟨gb110, 1, none⟩ = some (.int .i8 0) := (blk_cell BK110.out 1).trans rfl
        have hfs47 := blk_frozen BK110.out 1
        have hns47_1 := NB111_110.out
        have hms47_1 := NB110_111.out
        have hs48 : w45.cell? ⟨gb110, 2, none⟩ = some (.int .i8 0) := (blk_cell BK110.out 2).trans rfl
        have hfs48 := blk_frozen BK110.out 2
        have hns48_1 := NB111_110.out
        have hms48_1 := NB110_111.out
        refine skip_ (w1 := ?_) (by rfl) rfl ?_ ?_
        rotate_left
        ·go_simp
         rfl
        refine hK.out _ _ ⟨(cf3_ NB111_110 (hHeld.1)), (cf3_ NB111_110 (hHeld.2.1)), (cf3_ NB111_110 (hHeld.2.2))⟩ (fun hHeld => ?_)
        clear hK K
        refine pure_ (i := 20) (N := some 3) (v := ?_) (a' := ?_) #[true, true, true, true, true, true, true, true, true, true, true, true, true, true, true, true, true, true, true, true, true] rfl rfl (any_of HT_.out (by kernel_rfl)) (fun _ _ _ h => h) (Or.inl ⟨by rfl, ?_⟩) ?_ ?_
        rotate_left
        ·intro w'
         go_simp
         with_reducible rfl
        rotate_left
        ·simp only [Act.put, sp_]
         rfl
        refine done_ (done_of HT_.out (by kernel_rfl)) ?_
        try go_wp2
        refine bodyPost_ret (results_ct rfl _ _ gb110 56 #[.int .i8 0, .int .i8 (IntKind.i8.wrap ((IntKind.i8.wrap (bt a0 0)) - 97)), .int .i8 (IntKind.i8.wrap ((IntKind.i8.wrap (bt a0 2)) - 97))] (0, 0) _ rfl (by (with_reducible repeat (first | refine blk_drewN ?_ _ | refine blk_drew ?_ | refine blk_alloc ?_ _)); refine blk_put (cs := #[.int .i8 0, .int .i8 (IntKind.i8.wrap ((IntKind.i8.wrap (bt a0 0)) - 97)), .int .i8 0]) ?_ 2 _ rfl; (with_reducible repeat (first | refine blk_drewN ?_ _ | refine blk_drew ?_ | refine blk_alloc ?_ _)); refine blk_put (cs := #[.int .i8 0, .int .i8 0, .int .i8 0]) ?_ 1 _ rfl; (with_reducible repeat (first | refine blk_drewN ?_ _ | refine blk_drew ?_ | refine blk_alloc ?_ _)); refine blk_put (cs := #[.int .i8 0, .int .i8 0, .int .i8 0]) ?_ 0 _ rfl; (with_reducible repeat (first | refine blk_drewN ?_ _ | refine blk_drew ?_ | refine blk_alloc ?_ _)); exact BK110.out) Tryd.underlying56 rfl (by kernel_rfl)) rfl ?_
        exact ⟨by first | rfl | (simp [errW_none, errW_some] <;> rfl) | (simp [*, errW_none, errW_some] <;> rfl), bs_ HB GE110⟩
      ·rw [if_neg c13] at H
       have c13b0 : decide (97 ≤ (bt a0 0)) = false := decide_eq_false c13
       clear c13
       simp only [Option.some.injEq, Prod.mk.injEq] at H
       obtain ⟨rfl, rfl, rfl, rfl⟩ := H
       try go_wp2
       have n0_ := A_ (blk_drew BK110.out)
       have n1_ := A_ (below_drew1 HB.out)
       clear BK110
       clear HB
       have BK110 := n0_
       have HB := n1_
       clear n0_ n1_
       have p9 : 0 ≤ (0 : Int) := (by omega)
       have q9 : 0 < a0.size := (by have : (0 : Int) < (a0.size : Int) := asm_; omega)
       have hx9 : ∀ h : 0 < a0.size, ((a0[0]'h).toNat : Int) = bt a0 0 := bt_at a0 0
       clear p9
       have qi9 : (0 < (a0.size : Int)) = True := eq_true (asm_)
       replace q9 := eq_true q9
       have p11 : 0 ≤ (2 : Int) := (by omega)
       have q11 : 2 < a0.size := (by have : (2 : Int) < (a0.size : Int) := asm_; omega)
       have hx11 : ∀ h : 2 < a0.size, ((a0[2]'h).toNat : Int) = bt a0 2 := bt_at a0 2
       clear p11
       have qi11 : (2 < (a0.size : Int)) = True := eq_true (asm_)
       replace q11 := eq_true q11
       refine start_ (n := 11) (S := fun w' => True) (ds := []) #[false, false, false, false, false, false, false, false, false, false, false] (by kernel_rfl) rfl rfl trivial (fun hHeld => ?_); refine with_tabW spec_l02ReadMove.tab2 spec_l02ReadMove.bits2 (fun HT_ HW_ => ?_)
       generalize wc.drew = w49 at BK110 HB hHeld ⊢
       refine pure_ (i := 0) (N := some 14) (v := ?_) (a' := ?_) #[true, false, false, false, false, false, false, false, false, false, false] rfl rfl (any_of HT_.out (by kernel_rfl)) (fun _ _ _ h => h) (Or.inl ⟨by rfl, ?_⟩) ?_ ?_
       rotate_left
       ·intro w'
        go_simp
        with_reducible rfl
       rotate_left
       ·simp only [Act.put, sp_]
        rfl
       refine pure_ (i := 4) (N := some 18) (v := ?_) (a' := ?_) #[true, false, false, false, true, false, false, false, false, false, false] rfl rfl (any_of HT_.out (by kernel_rfl)) (fun _ _ _ h => h) (Or.inl ⟨by rfl, ?_⟩) ?_ ?_
       rotate_left
       ·intro w'
        go_simp
        with_reducible rfl
       rotate_left
       ·simp only [Act.put, sp_]
        rfl
       refine take_ (i := 1) (N := some 15) (v := ?_) (a' := ?_) #[true, true, false, false, true, false, false, false, false, false, false] rfl rfl (take_ofW HT_.out HW_.out (by kernel_rfl)) (fun _ _ _ h => h) (Or.inl ⟨by rfl, ?_⟩) hHeld ?_ ?_
       rotate_left
       ·intro w' _
        go_simp
        with_reducible rfl
       rotate_left
       ·simp only [Act.put, sp_]
        rfl
       refine pure_ (i := 2) (N := some 16) (v := ?_) (a' := ?_) #[true, true, true, false, true, false, false, false, false, false, false] rfl rfl (any_of HT_.out (by kernel_rfl)) (fun _ _ _ h => h) (Or.inl ⟨by rfl, ?_⟩) ?_ ?_
       rotate_left
       ·intro w'
        go_simp
        with_reducible rfl
       rotate_left
       ·simp only [Act.put, sp_]
        rfl
       refine pure_ (i := 3) (N := some 17) (v := ?_) (a' := ?_) #[true, true, true, true, true, false, false, false, false, false, false] rfl rfl (any_of HT_.out (by kernel_rfl)) (fun _ _ _ h => h) (Or.inl ⟨by rfl, ?_⟩) ?_ ?_
       rotate_left
       ·intro w'
        go_simp
        with_reducible rfl
       rotate_left
       ·simp only [Act.put, sp_]
        rfl
       refine take_ (i := 5) (N := some 19) (v := ?_) (a' := ?_) #[true, true, true, true, true, true, false, false, false, false, false] rfl rfl (take_ofW HT_.out HW_.out (by kernel_rfl)) (fun _ _ _ h => h) (Or.inl ⟨by rfl, ?_⟩) hHeld ?_ ?_
       rotate_left
       ·intro w' _
        go_simp
        with_reducible rfl
       rotate_left
       ·simp only [Act.put, sp_]
        rfl
       refine pure_ (i := 6) (N := some 20) (v := ?_) (a' := ?_) #[true, true, true, true, true, true, true, false, false, false, false] rfl rfl (any_of HT_.out (by kernel_rfl)) (fun _ _ _ h => h) (Or.inl ⟨by rfl, ?_⟩) ?_ ?_
       rotate_left
       ·intro w'
        go_simp
        with_reducible rfl
       rotate_left
       ·simp only [Act.put, sp_]
        rfl
       refine pure_ (i := 7) (N := some 21) (v := ?_) (a' := ?_) #[true, true, true, true, true, true, true, true, false, false, false] rfl rfl (any_of HT_.out (by kernel_rfl)) (fun _ _ _ h => h) (Or.inl ⟨by rfl, ?_⟩) ?_ ?_
       rotate_left
       ·intro w'
        go_simp
        with_reducible rfl
       rotate_left
       ·simp only [Act.put, sp_]
        rfl
       refine pure_ (i := 8) (N := some 22) (v := ?_) (a' := ?_) #[true, true, true, true, true, true, true, true, true, false, false] rfl rfl (any_of HT_.out (by kernel_rfl)) (fun _ _ _ h => h) (Or.inl ⟨by rfl, ?_⟩) ?_ ?_
       rotate_left
       ·intro w'
        go_simp
        with_reducible rfl
       rotate_left
       ·simp only [Act.put, sp_]
        rfl
       refine one_ (i := 9) (N := some 4) #[true, true, true, true, true, true, true, true, true, true, false] rfl rfl (one_of HT_.out (by kernel_rfl)) (by decide) (fun K hK => ?_)
       refine box_step ?hg (N := 4) ?hd (cs := #[.int .i8 0, .int .i8 0, .int .i8 0]) (t := 56) ?hr ?_; (case hd => rfl); (case hg => rfl); (case hr => first | (go_simp; done) | (go_simp; rfl))
       intro gb111 hg w50 hbox hb
       have n0_ := A_ (blk_below (pl_ BK110) hb)
       have n1_ := A_ (below_step (bl_ HB) hb)
       have n2_ := A_ (hbox)
       have n3_ := A_ ((by rw [hg]; exact (below_size (bl_ HB)) : w.heap.size ≤ gb111))
       have n4_ := n3_
       have n5_ := A_ ((by rw [hg]; exact Nat.ne_of_lt (blk_lt (pl_ BK110)) : gb110 ≠ gb111))
       have n6_ := Aside0.mk n5_.out.symm
       clear BK110
       clear HB
       have BK110 := n0_
       have HB := n1_
       have BK111 := n2_
       have GW111 := n3_
       have GE111 := n4_
       have NB110_111 := n5_
       have NB111_110 := n6_
       clear n0_ n1_ n2_ n3_ n4_ n5_ n6_
       clear hb hbox hg
       refine hK.out _ _ trivial (fun hHeld => ?_)
       clear hK K
       refine norm_ (a' := ?_) ?_ ?_
       rotate_left
       ·show Act.put _ (some 4) _ = _
        simp only [Act.put, sp_]
        rfl
       refine one_ (i := 10) (N := none) #[true, true, true, true, true, true, true, true, true, true, true] rfl rfl (one_of HT_.out (by kernel_rfl)) (by decide) (fun K hK => ?_)
       have hs51 : w50.cell? ⟨gb111, 0, none⟩ = some (.int .i8 0) := (blk_cell BK111.out 0).trans rfl
       have hfs51 := blk_frozen BK111.out 0
       have hns51_0 := NB110_111.out
       have hms51_0 := NB111_110.out
       have hs52 : w50.cell? ⟨gb111, 1, none⟩ = some (.int .i8 0) := (blk_cell BK111.out 1).trans rfl
       have hfs52 := blk_frozen BK111.out 1
       have hns52_0 := NB110_111.out
       have hms52_0 := NB111_110.out
       have hs53 : w50.cell? ⟨gb111, 2, none⟩ = some (.int .i8 0) := (blk_cell BK111.out 2).trans rfl
       have hfs53 := blk_frozen BK111.out 2
       have hns53_0 := NB110_111.out
       have hms53_0 := NB111_110.out
       refine skip_ (w1 := ?_) (by rfl) rfl ?_ ?_
       rotate_left
       ·go_simp
        rfl
       refine hK.out _ _ trivial (fun hHeld => ?_)
       clear hK K
       refine done_ (done_of HT_.out (by kernel_rfl)) ?_
       try go_wp2
       have n0_ : Aside0 ((((w50.setCell ⟨gb111, 0, none⟩ (.int .i8 0)).setCell ⟨gb111, 1, none⟩ (.int .i8 (IntKind.i8.wrap ((IntKind.i8.wrap (bt a0 0)) - 97)))).setCell ⟨gb111, 2, none⟩ (.int .i8 (IntKind.i8.wrap ((IntKind.i8.wrap (bt a0 2)) - 97)))).heap[gb110]? = some (.cells #[.int .i8 0, .int .i8 0, .int .i8 0] 56 (0, 0))) := ⟨pf_ BK110 NB110_111⟩
       have n1_ : Aside0 ((((w50.setCell ⟨gb111, 0, none⟩ (.int .i8 0)).setCell ⟨gb111, 1, none⟩ (.int .i8 (IntKind.i8.wrap ((IntKind.i8.wrap (bt a0 0)) - 97)))).setCell ⟨gb111, 2, none⟩ (.int .i8 (IntKind.i8.wrap ((IntKind.i8.wrap (bt a0 2)) - 97)))).heap[gb111]? = some (.cells #[.int .i8 0, .int .i8 (IntKind.i8.wrap ((IntKind.i8.wrap (bt a0 0)) - 97)), .int .i8 (IntKind.i8.wrap ((IntKind.i8.wrap (bt a0 2)) - 97))] 56 (0, 0))) := ⟨by (with_reducible repeat (first | refine blk_drewN ?_ _ | refine blk_drew ?_ | refine blk_alloc ?_ _)); refine blk_put (cs := #[.int .i8 0, .int .i8 (IntKind.i8.wrap ((IntKind.i8.wrap (bt a0 0)) - 97)), .int .i8 0]) ?_ 2 _ rfl; (with_reducible repeat (first | refine blk_drewN ?_ _ | refine blk_drew ?_ | refine blk_alloc ?_ _)); refine blk_put (cs := #[.int .i8 0, .int .i8 0, .int .i8 0]) ?_ 1 _ rfl; (with_reducible repeat (first | refine blk_drewN ?_ _ | refine blk_drew ?_ | refine blk_alloc ?_ _)); refine blk_put (cs := #[.int .i8 0, .int .i8 0, .int .i8 0]) ?_ 0 _ rfl; (with_reducible repeat (first | refine blk_drewN ?_ _ | refine blk_drew ?_ | refine blk_alloc ?_ _)); exact BK111.out⟩
       have n2_ : Aside0 (Below w.heap.size w (((w50.setCell ⟨gb111, 0, none⟩ (.int .i8 0)).setCell ⟨gb111, 1, none⟩ (.int .i8 (IntKind.i8.wrap ((IntKind.i8.wrap (bt a0 0)) - 97)))).setCell ⟨gb111, 2, none⟩ (.int .i8 (IntKind.i8.wrap ((IntKind.i8.wrap (bt a0 2)) - 97))))) := ⟨bs_ HB GE111⟩
       (try clear BK110)
       (try clear BK111)
       (try clear HB)
       generalize (((w50.setCell ⟨gb111, 0, none⟩ (.int .i8 0)).setCell ⟨gb111, 1, none⟩ (.int .i8 (IntKind.i8.wrap ((IntKind.i8.wrap (bt a0 0)) - 97)))).setCell ⟨gb111, 2, none⟩ (.int .i8 (IntKind.i8.wrap ((IntKind.i8.wrap (bt a0 2)) - 97)))) = w54 at n0_ n1_ n2_ ⊢
       have BK110 := n0_
       have BK111 := n1_
       have HB := n2_
       clear n0_ n1_ n2_
       have n0_ := A_ (blk_drew BK110.out)
       have n1_ := A_ (blk_drew BK111.out)
       have n2_ := A_ (below_drew1 HB.out)
       clear BK110
       clear BK111
       clear HB
       have BK110 := n0_
       have BK111 := n1_
       have HB := n2_
       clear n0_ n1_ n2_
       have p12 : 0 ≤ (0 : Int) := (by omega)
       have q12 : 0 < a0.size := (by have : (0 : Int) < (a0.size : Int) := asm_; omega)
       have hx12 : ∀ h : 0 < a0.size, ((a0[0]'h).toNat : Int) = bt a0 0 := bt_at a0 0
       clear p12
       have qi12 : (0 < (a0.size : Int)) = True := eq_true (asm_)
       replace q12 := eq_true q12
       refine start_ (n := 21) (S := fun w' => w'.cell? ⟨gb111, 0, none⟩ = some (.int .i8 0) ∧ w'.cell? ⟨gb111, 1, none⟩ = some (.int .i8 (IntKind.i8.wrap ((IntKind.i8.wrap (bt a0 0)) - 97))) ∧ w'.cell? ⟨gb111, 2, none⟩ = some (.int .i8 (IntKind.i8.wrap ((IntKind.i8.wrap (bt a0 2)) - 97)))) (ds := []) #[false, false, false, false, false, false, false, false, false, false, false, false, false, false, false, false, false, false, false, false, false] (by kernel_rfl) rfl rfl ⟨(blk_cell BK111.out 0).trans rfl, (blk_cell BK111.out 1).trans rfl, (blk_cell BK111.out 2).trans rfl⟩ (fun hHeld => ?_); refine with_tabW spec_l02ReadMove.tab3 spec_l02ReadMove.bits3 (fun HT_ HW_ => ?_)
       generalize w54.drew = w55 at BK110 BK111 HB hHeld ⊢
       refine pure_ (i := 1) (N := some 24) (v := ?_) (a' := ?_) #[false, true, false, false, false, false, false, false, false, false, false, false, false, false, false, false, false, false, false, false, false] rfl rfl (any_of HT_.out (by kernel_rfl)) (fun _ _ _ h => h) (Or.inl ⟨by rfl, ?_⟩) ?_ ?_
       rotate_left
       ·intro w'
        go_simp
        with_reducible rfl
       rotate_left
       ·simp only [Act.put, sp_]
        rfl
       refine take_ (i := 0) (N := some 23) (v := ?_) (a' := ?_) #[true, true, false, false, false, false, false, false, false, false, false, false, false, false, false, false, false, false, false, false, false] rfl rfl (take_ofW HT_.out HW_.out (by kernel_rfl)) (fun _ _ _ h => h) (Or.inl ⟨by rfl, ?_⟩) hHeld ?_ ?_
       rotate_left
       ·rintro w' ⟨s0, s1, s2⟩
        go_simp
        with_reducible rfl
       rotate_left
       ·simp only [Act.put, sp_]
        rfl
       refine take_ (i := 2) (N := some 25) (v := ?_) (a' := ?_) #[true, true, true, false, false, false, false, false, false, false, false, false, false, false, false, false, false, false, false, false, false] rfl rfl (take_ofW HT_.out HW_.out (by kernel_rfl)) (fun _ _ _ h => h) (Or.inl ⟨by rfl, ?_⟩) hHeld ?_ ?_
       rotate_left
       ·rintro w' ⟨s0, s1, s2⟩
        go_simp
        with_reducible rfl
       rotate_left
       ·simp only [Act.put, sp_]
        rfl
       refine pure_ (i := 3) (N := some 26) (v := ?_) (a' := ?_) #[true, true, true, true, false, false, false, false, false, false, false, false, false, false, false, false, false, false, false, false, false] rfl rfl (any_of HT_.out (by kernel_rfl)) (fun _ _ _ h => h) (Or.inl ⟨by rfl, ?_⟩) ?_ ?_
       rotate_left
       ·intro w'
        go_simp
        with_reducible rfl
       rotate_left
       ·simp only [Act.put, sp_]
        rfl
       refine pure_ (i := 4) (N := some 27) (v := ?_) (a' := ?_) #[true, true, true, true, true, false, false, false, false, false, false, false, false, false, false, false, false, false, false, false, false] rfl rfl (any_of HT_.out (by kernel_rfl)) (fun _ _ _ h => h) (Or.inl ⟨by rfl, ?_⟩) ?_ ?_
       rotate_left
       ·intro w'
        go_simp
        with_reducible rfl
       rotate_left
       ·simp only [Act.put, sp_]
        rfl
       refine pure_ (i := 5) (N := some 28) (v := undef) (a' := ?_) #[true, true, true, true, true, true, false, false, false, false, false, false, false, false, false, false, false, false, false, false, false] rfl rfl (any_of HT_.out (by kernel_rfl)) (fun _ _ _ h => h) (Or.inr ⟨by rfl, rfl⟩) ?_ ?_
       rotate_left
       ·simp only [Act.put, sp_]
        rfl
       refine pure_ (i := 6) (N := some 29) (v := undef) (a' := ?_) #[true, true, true, true, true, true, true, false, false, false, false, false, false, false, false, false, false, false, false, false, false] rfl rfl (any_of HT_.out (by kernel_rfl)) (fun _ _ _ h => h) (Or.inr ⟨by rfl, rfl⟩) ?_ ?_
       rotate_left
       ·simp only [Act.put, sp_]
        rfl
       refine pure_ (i := 7) (N := some 30) (v := undef) (a' := ?_) #[true, true, true, true, true, true, true, true, false, false, false, false, false, false, false, false, false, false, false, false, false] rfl rfl (any_of HT_.out (by kernel_rfl)) (fun _ _ _ h => h) (Or.inr ⟨by rfl, rfl⟩) ?_ ?_
       rotate_left
       ·simp only [Act.put, sp_]
        rfl
       refine pure_ (i := 8) (N := some 31) (v := ?_) (a' := ?_) #[true, true, true, true, true, true, true, true, true, false, false, false, false, false, false, false, false, false, false, false, false] rfl rfl (any_of HT_.out (by kernel_rfl)) (fun _ _ _ h => h) (Or.inl ⟨by rfl, ?_⟩) ?_ ?_
       rotate_left
       ·intro w'
        go_simp
        with_reducible rfl
       rotate_left
       ·simp only [Act.put, sp_]
        rfl
       refine pure_ (i := 9) (N := some 32) (v := ?_) (a' := ?_) #[true, true, true, true, true, true, true, true, true, true, false, false, false, false, false, false, false, false, false, false, false] rfl rfl (any_of HT_.out (by kernel_rfl)) (fun _ _ _ h => h) (Or.inl ⟨by rfl, ?_⟩) ?_ ?_
       rotate_left
       ·intro w'
        go_simp
        with_reducible rfl
       rotate_left
       ·simp only [Act.put, sp_]
        rfl
       refine pure_ (i := 10) (N := some 33) (v := undef) (a' := ?_) #[true, true, true, true, true, true, true, true, true, true, true, false, false, false, false, false, false, false, false, false, false] rfl rfl (any_of HT_.out (by kernel_rfl)) (fun _ _ _ h => h) (Or.inr ⟨by rfl, rfl⟩) ?_ ?_
       rotate_left
       ·simp only [Act.put, sp_]
        rfl
       refine pure_ (i := 11) (N := some 34) (v := undef) (a' := ?_) #[true, true, true, true, true, true, true, true, true, true, true, true, false, false, false, false, false, false, false, false, false] rfl rfl (any_of HT_.out (by kernel_rfl)) (fun _ _ _ h => h) (Or.inr ⟨by rfl, rfl⟩) ?_ ?_
       rotate_left
       ·simp only [Act.put, sp_]
        rfl
       refine pure_ (i := 12) (N := some 35) (v := undef) (a' := ?_) #[true, true, true, true, true, true, true, true, true, true, true, true, true, false, false, false, false, false, false, false, false] rfl rfl (any_of HT_.out (by kernel_rfl)) (fun _ _ _ h => h) (Or.inr ⟨by rfl, rfl⟩) ?_ ?_
       rotate_left
       ·simp only [Act.put, sp_]
        rfl
       refine pure_ (i := 13) (N := some 36) (v := ?_) (a' := ?_) #[true, true, true, true, true, true, true, true, true, true, true, true, true, true, false, false, false, false, false, false, false] rfl rfl (any_of HT_.out (by kernel_rfl)) (fun _ _ _ h => h) (Or.inl ⟨by rfl, ?_⟩) ?_ ?_
       rotate_left
       ·intro w'
        go_simp
        with_reducible rfl
       rotate_left
       ·simp only [Act.put, sp_]
        rfl
       refine pure_ (i := 14) (N := some 37) (v := ?_) (a' := ?_) #[true, true, true, true, true, true, true, true, true, true, true, true, true, true, true, false, false, false, false, false, false] rfl rfl (any_of HT_.out (by kernel_rfl)) (fun _ _ _ h => h) (Or.inl ⟨by rfl, ?_⟩) ?_ ?_
       rotate_left
       ·intro w'
        go_simp
        with_reducible rfl
       rotate_left
       ·simp only [Act.put, sp_]
        rfl
       refine pure_ (i := 15) (N := some 38) (v := undef) (a' := ?_) #[true, true, true, true, true, true, true, true, true, true, true, true, true, true, true, true, false, false, false, false, false] rfl rfl (any_of HT_.out (by kernel_rfl)) (fun _ _ _ h => h) (Or.inr ⟨by rfl, rfl⟩) ?_ ?_
       rotate_left
       ·simp only [Act.put, sp_]
        rfl
       refine pure_ (i := 16) (N := some 39) (v := undef) (a' := ?_) #[true, true, true, true, true, true, true, true, true, true, true, true, true, true, true, true, true, false, false, false, false] rfl rfl (any_of HT_.out (by kernel_rfl)) (fun _ _ _ h => h) (Or.inr ⟨by rfl, rfl⟩) ?_ ?_
       rotate_left
       ·simp only [Act.put, sp_]
        rfl
       refine pure_ (i := 17) (N := some 40) (v := undef) (a' := ?_) #[true, true, true, true, true, true, true, true, true, true, true, true, true, true, true, true, true, true, false, false, false] rfl rfl (any_of HT_.out (by kernel_rfl)) (fun _ _ _ h => h) (Or.inr ⟨by rfl, rfl⟩) ?_ ?_
       rotate_left
       ·simp only [Act.put, sp_]
        rfl
       refine pure_ (i := 18) (N := some 41) (v := ?_) (a' := ?_) #[true, true, true, true, true, true, true, true, true, true, true, true, true, true, true, true, true, true, true, false, false] rfl rfl (any_of HT_.out (by kernel_rfl)) (fun _ _ _ h => h) (Or.inl ⟨by rfl, ?_⟩) ?_ ?_
       rotate_left
       ·intro w'
        go_simp
        with_reducible rfl
       rotate_left
       ·simp only [Act.put, sp_]
        rfl
       refine one_ (i := 19) (N := none) #[true, true, true, true, true, true, true, true, true, true, true, true, true, true, true, true, true, true, true, true, false] rfl rfl (one_of HT_.out (by kernel_rfl)) (by decide) (fun K hK => ?_)
       have hs56 : w55.cell? ⟨gb110, 0, none⟩ = some (.int .i8 0) := (blk_cell BK110.out 0).trans rfl
       have hfs56 := blk_frozen BK110.out 0
       have hns56_1 := NB111_110.out
       have hms56_1 := NB110_111.out
       have hs57 : w55.cell? ⟨gb110, 1, none⟩ = some (.int .i8 0) := (blk_cell BK110.out 1).trans rfl
       have hfs57 := blk_frozen BK110.out 1
       have hns57_1 := NB111_110.out
       have hms57_1 := NB110_111.out
       have hs58 : w55.cell? ⟨gb110, 2, none⟩ = some (.int .i8 0) := (blk_cell BK110.out 2).trans rfl
       have hfs58 := blk_frozen BK110.out 2
       have hns58_1 := NB111_110.out
       have hms58_1 := NB110_111.out
       refine skip_ (w1 := ?_) (by rfl) rfl ?_ ?_
       rotate_left
       ·go_simp
        rfl
       refine hK.out _ _ ⟨(cf3_ NB111_110 (hHeld.1)), (cf3_ NB111_110 (hHeld.2.1)), (cf3_ NB111_110 (hHeld.2.2))⟩ (fun hHeld => ?_)
       clear hK K
       refine pure_ (i := 20) (N := some 3) (v := ?_) (a' := ?_) #[true, true, true, true, true, true, true, true, true, true, true, true, true, true, true, true, true, true, true, true, true] rfl rfl (any_of HT_.out (by kernel_rfl)) (fun _ _ _ h => h) (Or.inl ⟨by rfl, ?_⟩) ?_ ?_
       rotate_left
       ·intro w'
        go_simp
        with_reducible rfl
       rotate_left
       ·simp only [Act.put, sp_]
        rfl
       refine done_ (done_of HT_.out (by kernel_rfl)) ?_
       try go_wp2
       refine bodyPost_ret (results_ct rfl _ _ gb110 56 #[.int .i8 0, .int .i8 (IntKind.i8.wrap ((IntKind.i8.wrap (bt a0 0)) - 97)), .int .i8 (IntKind.i8.wrap ((IntKind.i8.wrap (bt a0 2)) - 97))] (0, 0) _ rfl (by (with_reducible repeat (first | refine blk_drewN ?_ _ | refine blk_drew ?_ | refine blk_alloc ?_ _)); refine blk_put (cs := #[.int .i8 0, .int .i8 (IntKind.i8.wrap ((IntKind.i8.wrap (bt a0 0)) - 97)), .int .i8 0]) ?_ 2 _ rfl; (with_reducible repeat (first | refine blk_drewN ?_ _ | refine blk_drew ?_ | refine blk_alloc ?_ _)); refine blk_put (cs := #[.int .i8 0, .int .i8 0, .int .i8 0]) ?_ 1 _ rfl; (with_reducible repeat (first | refine blk_drewN ?_ _ | refine blk_drew ?_ | refine blk_alloc ?_ _)); refine blk_put (cs := #[.int .i8 0, .int .i8 0, .int .i8 0]) ?_ 0 _ rfl; (with_reducible repeat (first | refine blk_drewN ?_ _ | refine blk_drew ?_ | refine blk_alloc ?_ _)); exact BK110.out) Tryd.underlying56 rfl (by kernel_rfl)) rfl ?_
       exact ⟨by first | rfl | (simp [errW_none, errW_some] <;> rfl) | (simp [*, errW_none, errW_some] <;> rfl), bs_ HB GE110⟩
     ·rw [if_neg c10] at H
      exact absurd H (by simp)
    ·rw [if_neg c8] at H
     exact absurd H (by simp)
   ·replace c7 := Bool.eq_false_iff.mpr c7
    subst c7
    have H1 : (if (a0.size : Int) = 2 then (if 0 < (a0.size : Int) then (if (bt a0 0) = 43 then (if 1 < (a0.size : Int) then (if (bt a0 1) < 97 then (spec_l02ReadMove.j1 kj1 a0 true) else (spec_l02ReadMove.j1 kj1 a0 (decide ((bt a0 1) ≥ 101)))) else (none)) else (if (bt a0 0) = 45 then (if 1 < (a0.size : Int) then (if (bt a0 1) < 97 then (spec_l02ReadMove.j1 kj1 a0 true) else (spec_l02ReadMove.j1 kj1 a0 (decide ((bt a0 1) ≥ 101)))) else (none)) else (spec_l02ReadMove.j1 kj1 a0 true))) else (none)) else (spec_l02ReadMove.j1 kj1 a0 true)) = some (r1, r2, r3, r4) := by rw [if_neg (show ¬ (false = true) by decide)] at H; exact H
    clear H
    have H := H1
    clear H1
    have HC59 := Aside0.mk H
    clear H
    go_upto_region 4 with (fail)
    go_cut [64] (fun v64 wc => ∃ (kq : Nat) (x64_58 : Bool), v64 = .bool x64_58 ∧ Aside0 (spec_l02ReadMove.j1 kq a0 x64_58 = some (r1, r2, r3, r4)) ∧ Aside0 (kq ≤ kj1) ∧ Aside0 (wc.heap[gb110]? = some (.cells #[.int .i8 0, .int .i8 0, .int .i8 0] 56 (0, 0))) ∧ Aside0 (Below w.heap.size w wc))
    case first =>
     have H := HC59.out
     clear HC59
     by_cases c60 : (a0.size : Int) = 2
     ·rw [if_pos c60] at H
      have c60b0 : ((a0.size : Int) == 2) = true := beq_iff_eq.mpr c60
      have c60b1 : ((a0.size : Int) != 2) = false := bne_eq_false_iff_eq.mpr c60
      clear c60
      (first | rw [c60b0] | (simp only [i64_w, i32_w]; rw [c60b0]) | skip)
      by_cases c61 : 0 < (a0.size : Int)
      ·rw [if_pos c61] at H
       have c61b0 : decide (0 < (a0.size : Int)) = true := decide_eq_true c61
       have c61b1 : decide (0 < a0.size) = true := decide_eq_true (by omega)
       clear c61
       by_cases c63 : (bt a0 0) = 43
       ·rw [if_pos c63] at H
        have c63b0 : ((bt a0 0) == 43) = true := beq_iff_eq.mpr c63
        have c63b1 : ((bt a0 0) != 43) = false := bne_eq_false_iff_eq.mpr c63
        clear c63
        by_cases c64 : 1 < (a0.size : Int)
        ·rw [if_pos c64] at H
         have c64b0 : decide (1 < (a0.size : Int)) = true := decide_eq_true c64
         have c64b1 : decide (1 < a0.size) = true := decide_eq_true (by omega)
         clear c64
         by_cases c66 : (bt a0 1) < 97
         ·rw [if_pos c66] at H
          have c66b0 : decide ((bt a0 1) < 97) = true := decide_eq_true c66
          clear c66
          have H' := Aside0.mk H
          clear H
          have p62 : 0 ≤ (0 : Int) := (by omega)
          have q62 : 0 < a0.size := (by have : (0 : Int) < (a0.size : Int) := asm_; omega)
          have hx62 : ∀ h : 0 < a0.size, ((a0[0]'h).toNat : Int) = bt a0 0 := bt_at a0 0
          clear p62
          have qi62 : (0 < (a0.size : Int)) = True := eq_true (asm_)
          replace q62 := eq_true q62
          have p65 : 0 ≤ (1 : Int) := (by omega)
          have q65 : 1 < a0.size := (by have : (1 : Int) < (a0.size : Int) := asm_; omega)
          have hx65 : ∀ h : 1 < a0.size, ((a0[1]'h).toNat : Int) = bt a0 1 := bt_at a0 1
          clear p65
          have qi65 : (1 < (a0.size : Int)) = True := eq_true (asm_)
          replace q65 := eq_true q65
          go_wp2
          go_meet
          case rel => exact ⟨_, (true), rs_, H', ⟨by have := HJ1.out; first | omega | exact Nat.le_refl _⟩, ⟨pl_ BK110⟩, ⟨bl_ HB⟩⟩
         ·rw [if_neg c66] at H
          have c66b0 : decide ((bt a0 1) < 97) = false := decide_eq_false c66
          clear c66
          have H' := Aside0.mk H
          clear H
          have p62 : 0 ≤ (0 : Int) := (by omega)
          have q62 : 0 < a0.size := (by have : (0 : Int) < (a0.size : Int) := asm_; omega)
          have hx62 : ∀ h : 0 < a0.size, ((a0[0]'h).toNat : Int) = bt a0 0 := bt_at a0 0
          clear p62
          have qi62 : (0 < (a0.size : Int)) = True := eq_true (asm_)
          replace q62 := eq_true q62
          have p65 : 0 ≤ (1 : Int) := (by omega)
          have q65 : 1 < a0.size := (by have : (1 : Int) < (a0.size : Int) := asm_; omega)
          have hx65 : ∀ h : 1 < a0.size, ((a0[1]'h).toNat : Int) = bt a0 1 := bt_at a0 1
          clear p65
          have qi65 : (1 < (a0.size : Int)) = True := eq_true (asm_)
          replace q65 := eq_true q65
          have p67 : 0 ≤ (1 : Int) := (by omega)
          have q67 : 1 < a0.size := (by have : (1 : Int) < (a0.size : Int) := asm_; omega)
          have hx67 : ∀ h : 1 < a0.size, ((a0[1]'h).toNat : Int) = bt a0 1 := bt_at a0 1
          clear p67
          have qi67 : (1 < (a0.size : Int)) = True := eq_true (asm_)
          replace q67 := eq_true q67
          go_wp2
          go_meet
          case rel => exact ⟨_, (decide ((bt a0 1) ≥ 101)), rs_, H', ⟨by have := HJ1.out; first | omega | exact Nat.le_refl _⟩, ⟨pl_ BK110⟩, ⟨bl_ HB⟩⟩
        ·rw [if_neg c64] at H
         exact absurd H (by simp)
       ·rw [if_neg c63] at H
        have c63b0 : ((bt a0 0) == 43) = false := beq_eq_false_iff_ne.mpr c63
        have c63b1 : ((bt a0 0) != 43) = true := bne_iff_ne.mpr c63
        by_cases c69 : (bt a0 0) = 45
        ·rw [if_pos c69] at H
         have c69b0 : ((bt a0 0) == 45) = true := beq_iff_eq.mpr c69
         have c69b1 : ((bt a0 0) != 45) = false := bne_eq_false_iff_eq.mpr c69
         clear c69
         by_cases c70 : 1 < (a0.size : Int)
         ·rw [if_pos c70] at H
          have c70b0 : decide (1 < (a0.size : Int)) = true := decide_eq_true c70
          have c70b1 : decide (1 < a0.size) = true := decide_eq_true (by omega)
          clear c70
          by_cases c72 : (bt a0 1) < 97
          ·rw [if_pos c72] at H
           have c72b0 : decide ((bt a0 1) < 97) = true := decide_eq_true c72
           clear c72
           have H' := Aside0.mk H
           clear H
           have p62 : 0 ≤ (0 : Int) := (by omega)
           have q62 : 0 < a0.size := (by have : (0 : Int) < (a0.size : Int) := asm_; omega)
           have hx62 : ∀ h : 0 < a0.size, ((a0[0]'h).toNat : Int) = bt a0 0 := bt_at a0 0
           clear p62
           have qi62 : (0 < (a0.size : Int)) = True := eq_true (asm_)
           replace q62 := eq_true q62
           have p68 : 0 ≤ (0 : Int) := (by omega)
           have q68 : 0 < a0.size := (by have : (0 : Int) < (a0.size : Int) := asm_; omega)
           have hx68 : ∀ h : 0 < a0.size, ((a0[0]'h).toNat : Int) = bt a0 0 := bt_at a0 0
           clear p68
           have qi68 : (0 < (a0.size : Int)) = True := eq_true (asm_)
           replace q68 := eq_true q68
           have p71 : 0 ≤ (1 : Int) := (by omega)
           have q71 : 1 < a0.size := (by have : (1 : Int) < (a0.size : Int) := asm_; omega)
           have hx71 : ∀ h : 1 < a0.size, ((a0[1]'h).toNat : Int) = bt a0 1 := bt_at a0 1
           clear p71
           have qi71 : (1 < (a0.size : Int)) = True := eq_true (asm_)
           replace q71 := eq_true q71
           go_wp2
           go_meet
           case rel => exact ⟨_, (true), rs_, H', ⟨by have := HJ1.out; first | omega | exact Nat.le_refl _⟩, ⟨pl_ BK110⟩, ⟨bl_ HB⟩⟩
          ·rw [if_neg c72] at H
           have c72b0 : decide ((bt a0 1) < 97) = false := decide_eq_false c72
           clear c72
           have H' := Aside0.mk H
           clear H
           have p62 : 0 ≤ (0 : Int) := (by omega)
           have q62 : 0 < a0.size := (by have : (0 : Int) < (a0.size : Int) := asm_; omega)
           have hx62 : ∀ h : 0 < a0.size, ((a0[0]'h).toNat : Int) = bt a0 0 := bt_at a0 0
           clear p62
           have qi62 : (0 < (a0.size : Int)) = True := eq_true (asm_)
           replace q62 := eq_true q62
           have p68 : 0 ≤ (0 : Int) := (by omega)
           have q68 : 0 < a0.size := (by have : (0 : Int) < (a0.size : Int) := asm_; omega)
           have hx68 : ∀ h : 0 < a0.size, ((a0[0]'h).toNat : Int) = bt a0 0 := bt_at a0 0
           clear p68
           have qi68 : (0 < (a0.size : Int)) = True := eq_true (asm_)
           replace q68 := eq_true q68
           have p71 : 0 ≤ (1 : Int) := (by omega)
           have q71 : 1 < a0.size := (by have : (1 : Int) < (a0.size : Int) := asm_; omega)
           have hx71 : ∀ h : 1 < a0.size, ((a0[1]'h).toNat : Int) = bt a0 1 := bt_at a0 1
           clear p71
           have qi71 : (1 < (a0.size : Int)) = True := eq_true (asm_)
           replace q71 := eq_true q71
           have p73 : 0 ≤ (1 : Int) := (by omega)
           have q73 : 1 < a0.size := (by have : (1 : Int) < (a0.size : Int) := asm_; omega)
           have hx73 : ∀ h : 1 < a0.size, ((a0[1]'h).toNat : Int) = bt a0 1 := bt_at a0 1
           clear p73
           have qi73 : (1 < (a0.size : Int)) = True := eq_true (asm_)
           replace q73 := eq_true q73
           go_wp2
           go_meet
           case rel => exact ⟨_, (decide ((bt a0 1) ≥ 101)), rs_, H', ⟨by have := HJ1.out; first | omega | exact Nat.le_refl _⟩, ⟨pl_ BK110⟩, ⟨bl_ HB⟩⟩
         ·rw [if_neg c70] at H
          exact absurd H (by simp)
        ·rw [if_neg c69] at H
         have c69b0 : ((bt a0 0) == 45) = false := beq_eq_false_iff_ne.mpr c69
         have c69b1 : ((bt a0 0) != 45) = true := bne_iff_ne.mpr c69
         have H' := Aside0.mk H
         clear H
         have p62 : 0 ≤ (0 : Int) := (by omega)
         have q62 : 0 < a0.size := (by have : (0 : Int) < (a0.size : Int) := asm_; omega)
         have hx62 : ∀ h : 0 < a0.size, ((a0[0]'h).toNat : Int) = bt a0 0 := bt_at a0 0
         clear p62
         have qi62 : (0 < (a0.size : Int)) = True := eq_true (asm_)
         replace q62 := eq_true q62
         have p68 : 0 ≤ (0 : Int) := (by omega)
         have q68 : 0 < a0.size := (by have : (0 : Int) < (a0.size : Int) := asm_; omega)
         have hx68 : ∀ h : 0 < a0.size, ((a0[0]'h).toNat : Int) = bt a0 0 := bt_at a0 0
         clear p68
         have qi68 : (0 < (a0.size : Int)) = True := eq_true (asm_)
         replace q68 := eq_true q68
         go_wp2
         go_meet
         case rel => exact ⟨_, (true), rs_, H', ⟨by have := HJ1.out; first | omega | exact Nat.le_refl _⟩, ⟨pl_ BK110⟩, ⟨bl_ HB⟩⟩
      ·rw [if_neg c61] at H
       exact absurd H (by simp)
     ·rw [if_neg c60] at H
      have c60b0 : ((a0.size : Int) == 2) = false := beq_eq_false_iff_ne.mpr c60
      have c60b1 : ((a0.size : Int) != 2) = true := bne_iff_ne.mpr c60
      (first | rw [c60b0] | (simp only [i64_w, i32_w]; rw [c60b0]) | skip)
      have H' := Aside0.mk H
      clear H
      go_wp2
      go_meet
      case rel => exact ⟨_, (true), rs_, H', ⟨by have := HJ1.out; first | omega | exact Nat.le_refl _⟩, ⟨pl_ BK110⟩, ⟨bl_ HB⟩⟩
    case rest =>
     clear HC59
     try clear c1
     try clear p1
     try clear q1
     try clear hx1
     try clear qi1
     try clear p2
     try clear c6
     try clear p6
     try clear q6
     try clear hx6
     try clear qi6
     try clear c7
     try clear p7
     try clear q7
     try clear hx7
     try clear qi7
     try clear c8
     try clear p9
     try clear q9
     try clear hx9
     try clear qi9
     try clear c10
     try clear p11
     try clear q11
     try clear hx11
     try clear qi11
     try clear p12
     try clear q12
     try clear hx12
     try clear qi12
     try clear c13
     try clear c13b0
     try clear c60
     try clear c60b0
     try clear c60b1
     try clear c61
     try clear c61b0
     try clear c61b1
     try clear p62
     try clear q62
     try clear hx62
     try clear qi62
     try clear c63
     try clear c63b0
     try clear c63b1
     try clear c64
     try clear c64b0
     try clear c64b1
     try clear p65
     try clear q65
     try clear hx65
     try clear qi65
     try clear c66
     try clear c66b0
     try clear p67
     try clear q67
     try clear hx67
     try clear qi67
     try clear p68
     try clear q68
     try clear hx68
     try clear qi68
     try clear c69
     try clear c69b0
     try clear c69b1
     try clear c70
     try clear c70b0
     try clear c70b1
     try clear p71
     try clear q71
     try clear hx71
     try clear qi71
     try clear c72
     try clear c72b0
     try clear p73
     try clear q73
     try clear hx73
     try clear qi73
     try clear p11
     try clear p12
     try clear p62
     try clear p65
     try clear p67
     try clear p68
     try clear p71
     try clear p73
     try clear p9
     try clear q11
     try clear q12
     try clear q62
     try clear q65
     try clear q67
     try clear q68
     try clear q71
     try clear q73
     try clear q9
     obtain ⟨kq, x64_58, rfl, HA, HJ58, BK110, HB⟩ := hcut
     cases kq with
     | zero => exact absurd HA.out (by simp [spec_l02ReadMove.j1])
     | succ kj58 =>
      have H := HA.out
      clear HA
      simp only [spec_l02ReadMove.j1] at H
      by_cases c74 : x64_58 = true
      ·subst c74
       have H1 : (some (0, 0, 0, false)) = some (r1, r2, r3, r4) := by rw [if_pos rfl] at H; exact H
       clear H
       have H := H1
       clear H1
       simp only [Option.some.injEq, Prod.mk.injEq] at H
       obtain ⟨rfl, rfl, rfl, rfl⟩ := H
       obtain ⟨hcz75_0, hcz75_1, hcz75_2, hfz75_0, hfz75_1, hfz75_2⟩ := cl3_ BK110
       go_wp2
       refine bodyPost_ret (results_ct rfl _ _ gb110 56 #[.int .i8 0, .int .i8 0, .int .i8 0] (0, 0) _ rfl (by (with_reducible repeat (first | refine blk_drewN ?_ _ | refine blk_drew ?_ | refine blk_alloc ?_ _)); refine blk_put (cs := #[.int .i8 0, .int .i8 0, .int .i8 0]) ?_ 2 _ rfl; (with_reducible repeat (first | refine blk_drewN ?_ _ | refine blk_drew ?_ | refine blk_alloc ?_ _)); refine blk_put (cs := #[.int .i8 0, .int .i8 0, .int .i8 0]) ?_ 1 _ rfl; (with_reducible repeat (first | refine blk_drewN ?_ _ | refine blk_drew ?_ | refine blk_alloc ?_ _)); refine blk_put (cs := #[.int .i8 0, .int .i8 0, .int .i8 0]) ?_ 0 _ rfl; (with_reducible repeat (first | refine blk_drewN ?_ _ | refine blk_drew ?_ | refine blk_alloc ?_ _)); exact BK110.out) Tryd.underlying56 rfl (by kernel_rfl)) rfl ?_
       exact ⟨by first | rfl | (simp [errW_none, errW_some] <;> rfl) | (simp [*, errW_none, errW_some] <;> rfl), bs_ HB GE110⟩
      ·replace c74 := Bool.eq_false_iff.mpr c74
       subst c74
       have H1 : (if 1 < (a0.size : Int) then (if 0 < (a0.size : Int) then (if (bt a0 0) = 45 then (some (2, IntKind.i8.wrap ((IntKind.i8.wrap (bt a0 1)) - 97), 0, true)) else (some (1, IntKind.i8.wrap ((IntKind.i8.wrap (bt a0 1)) - 97), 0, true))) else (none)) else (none)) = some (r1, r2, r3, r4) := by rw [if_neg (show ¬ (false = true) by decide)] at H; exact H
       clear H
       have H := H1
       clear H1
       by_cases c76 : 1 < (a0.size : Int)
       ·rw [if_pos c76] at H
        have c76b0 : decide (1 < (a0.size : Int)) = true := decide_eq_true c76
        have c76b1 : decide (1 < a0.size) = true := decide_eq_true (by omega)
        clear c76
        by_cases c78 : 0 < (a0.size : Int)
        ·rw [if_pos c78] at H
         have c78b0 : decide (0 < (a0.size : Int)) = true := decide_eq_true c78
         have c78b1 : decide (0 < a0.size) = true := decide_eq_true (by omega)
         clear c78
         by_cases c80 : (bt a0 0) = 45
         ·rw [if_pos c80] at H
          have c80b0 : ((bt a0 0) == 45) = true := beq_iff_eq.mpr c80
          have c80b1 : ((bt a0 0) != 45) = false := bne_eq_false_iff_eq.mpr c80
          clear c80
          simp only [Option.some.injEq, Prod.mk.injEq] at H
          obtain ⟨rfl, rfl, rfl, rfl⟩ := H
          have p77 : 0 ≤ (1 : Int) := (by omega)
          have q77 : 1 < a0.size := (by have : (1 : Int) < (a0.size : Int) := asm_; omega)
          have hx77 : ∀ h : 1 < a0.size, ((a0[1]'h).toNat : Int) = bt a0 1 := bt_at a0 1
          clear p77
          have qi77 : (1 < (a0.size : Int)) = True := eq_true (asm_)
          replace q77 := eq_true q77
          go_wp2_with (first | ((with_reducible refine gate_dst (N := 5) rfl ?_); refine box_event ?hg (N := 5) ?hd (cs := #[.int .i8 0, .int .i8 0, .int .i8 0]) (t := 56) ?hr ?_; (case hd => rfl); (case hg => rfl); (case hr => first | (go_simp; done) | (go_simp; rfl)); intro gb112 hg w81 hbox hb; have n0_ := A_ (blk_below (pl_ BK110) hb); have n1_ := A_ (below_step (bl_ HB) hb); have n2_ := A_ (hbox); have n3_ := A_ ((by rw [hg]; exact (below_size (bl_ HB)) : w.heap.size ≤ gb112)); have n4_ := n3_; have n5_ := A_ ((by rw [hg]; exact Nat.ne_of_lt (blk_lt (pl_ BK110)) : gb110 ≠ gb112)); have n6_ := Aside0.mk n5_.out.symm; clear BK110; clear HB; have BK110 := n0_; have HB := n1_; have BK112 := n2_; have GW112 := n3_; have GE112 := n4_; have NB110_112 := n5_; have NB112_110 := n6_; clear n0_ n1_ n2_ n3_ n4_ n5_ n6_; clear hb hbox hg; have hnb82 := NB112_110.out; have hnc82 := NB110_112.out; obtain ⟨hcz83_0, hcz83_1, hcz83_2, hfz83_0, hfz83_1, hfz83_2⟩ := cl3_ BK112; have p79 : 0 ≤ (0 : Int) := (by omega); have q79 : 0 < a0.size := (by have : (0 : Int) < (a0.size : Int) := asm_; omega); have hx79 : ∀ h : 0 < a0.size, ((a0[0]'h).toNat : Int) = bt a0 0 := bt_at a0 0; clear p79; have qi79 : (0 < (a0.size : Int)) = True := eq_true (asm_); replace q79 := eq_true q79; obtain ⟨hcz84_0, hcz84_1, hcz84_2, hfz84_0, hfz84_1, hfz84_2⟩ := cl3_ BK110))
          refine bodyPost_ret (results_ct rfl _ _ gb110 56 #[.int .i8 2, .int .i8 (IntKind.i8.wrap ((IntKind.i8.wrap (bt a0 1)) - 97)), .int .i8 0] (0, 0) _ rfl (by (with_reducible repeat (first | refine blk_drewN ?_ _ | refine blk_drew ?_ | refine blk_alloc ?_ _)); refine blk_put (cs := #[.int .i8 2, .int .i8 (IntKind.i8.wrap ((IntKind.i8.wrap (bt a0 1)) - 97)), .int .i8 0]) ?_ 2 _ rfl; (with_reducible repeat (first | refine blk_drewN ?_ _ | refine blk_drew ?_ | refine blk_alloc ?_ _)); refine blk_put (cs := #[.int .i8 2, .int .i8 0, .int .i8 0]) ?_ 1 _ rfl; (with_reducible repeat (first | refine blk_drewN ?_ _ | refine blk_drew ?_ | refine blk_alloc ?_ _)); refine blk_put (cs := #[.int .i8 0, .int .i8 0, .int .i8 0]) ?_ 0 _ rfl; (with_reducible repeat (first | refine blk_drewN ?_ _ | refine blk_drew ?_ | refine blk_alloc ?_ _)); refine blk_far ?_ NB110_112.out _; (with_reducible repeat (first | refine blk_drewN ?_ _ | refine blk_drew ?_ | refine blk_alloc ?_ _)); refine blk_far ?_ NB110_112.out _; (with_reducible repeat (first | refine blk_drewN ?_ _ | refine blk_drew ?_ | refine blk_alloc ?_ _)); refine blk_far ?_ NB110_112.out _; (with_reducible repeat (first | refine blk_drewN ?_ _ | refine blk_drew ?_ | refine blk_alloc ?_ _)); refine blk_far ?_ NB110_112.out _; (with_reducible repeat (first | refine blk_drewN ?_ _ | refine blk_drew ?_ | refine blk_alloc ?_ _)); exact BK110.out) Tryd.underlying56 rfl (by kernel_rfl)) rfl ?_
          exact ⟨by first | rfl | (simp [errW_none, errW_some] <;> rfl) | (simp [*, errW_none, errW_some] <;> rfl), by repeat (first | (with_reducible first | exact HB.out | apply below_alloc | apply pw_below_drewN | apply below_drew1 | refine below_set ?_ GE110.out | refine below_set ?_ GE112.out) | exact HB.out)⟩
         ·rw [if_neg c80] at H
          have c80b0 : ((bt a0 0) == 45) = false := beq_eq_false_iff_ne.mpr c80
          have c80b1 : ((bt a0 0) != 45) = true := bne_iff_ne.mpr c80
          simp only [Option.some.injEq, Prod.mk.injEq] at H
          obtain ⟨rfl, rfl, rfl, rfl⟩ := H
          have p77 : 0 ≤ (1 : Int) := (by omega)
          have q77 : 1 < a0.size := (by have : (1 : Int) < (a0.size : Int) := asm_; omega)
          have hx77 : ∀ h : 1 < a0.size, ((a0[1]'h).toNat : Int) = bt a0 1 := bt_at a0 1
          clear p77
          have qi77 : (1 < (a0.size : Int)) = True := eq_true (asm_)
          replace q77 := eq_true q77
          go_wp2_with (first | ((with_reducible refine gate_dst (N := 5) rfl ?_); refine box_event ?hg (N := 5) ?hd (cs := #[.int .i8 0, .int .i8 0, .int .i8 0]) (t := 56) ?hr ?_; (case hd => rfl); (case hg => rfl); (case hr => first | (go_simp; done) | (go_simp; rfl)); intro gb112 hg w85 hbox hb; have n0_ := A_ (blk_below (pl_ BK110) hb); have n1_ := A_ (below_step (bl_ HB) hb); have n2_ := A_ (hbox); have n3_ := A_ ((by rw [hg]; exact (below_size (bl_ HB)) : w.heap.size ≤ gb112)); have n4_ := n3_; have n5_ := A_ ((by rw [hg]; exact Nat.ne_of_lt (blk_lt (pl_ BK110)) : gb110 ≠ gb112)); have n6_ := Aside0.mk n5_.out.symm; clear BK110; clear HB; have BK110 := n0_; have HB := n1_; have BK112 := n2_; have GW112 := n3_; have GE112 := n4_; have NB110_112 := n5_; have NB112_110 := n6_; clear n0_ n1_ n2_ n3_ n4_ n5_ n6_; clear hb hbox hg; have hnb86 := NB112_110.out; have hnc86 := NB110_112.out; obtain ⟨hcz87_0, hcz87_1, hcz87_2, hfz87_0, hfz87_1, hfz87_2⟩ := cl3_ BK112; have p79 : 0 ≤ (0 : Int) := (by omega); have q79 : 0 < a0.size := (by have : (0 : Int) < (a0.size : Int) := asm_; omega); have hx79 : ∀ h : 0 < a0.size, ((a0[0]'h).toNat : Int) = bt a0 0 := bt_at a0 0; clear p79; have qi79 : (0 < (a0.size : Int)) = True := eq_true (asm_); replace q79 := eq_true q79; obtain ⟨hcz88_0, hcz88_1, hcz88_2, hfz88_0, hfz88_1, hfz88_2⟩ := cl3_ BK110))
          refine bodyPost_ret (results_ct rfl _ _ gb110 56 #[.int .i8 1, .int .i8 (IntKind.i8.wrap ((IntKind.i8.wrap (bt a0 1)) - 97)), .int .i8 0] (0, 0) _ rfl (by (with_reducible repeat (first | refine blk_drewN ?_ _ | refine blk_drew ?_ | refine blk_alloc ?_ _)); refine blk_put (cs := #[.int .i8 1, .int .i8 (IntKind.i8.wrap ((IntKind.i8.wrap (bt a0 1)) - 97)), .int .i8 0]) ?_ 2 _ rfl; (with_reducible repeat (first | refine blk_drewN ?_ _ | refine blk_drew ?_ | refine blk_alloc ?_ _)); refine blk_put (cs := #[.int .i8 1, .int .i8 0, .int .i8 0]) ?_ 1 _ rfl; (with_reducible repeat (first | refine blk_drewN ?_ _ | refine blk_drew ?_ | refine blk_alloc ?_ _)); refine blk_put (cs := #[.int .i8 0, .int .i8 0, .int .i8 0]) ?_ 0 _ rfl; (with_reducible repeat (first | refine blk_drewN ?_ _ | refine blk_drew ?_ | refine blk_alloc ?_ _)); refine blk_far ?_ NB110_112.out _; (with_reducible repeat (first | refine blk_drewN ?_ _ | refine blk_drew ?_ | refine blk_alloc ?_ _)); refine blk_far ?_ NB110_112.out _; (with_reducible repeat (first | refine blk_drewN ?_ _ | refine blk_drew ?_ | refine blk_alloc ?_ _)); refine blk_far ?_ NB110_112.out _; (with_reducible repeat (first | refine blk_drewN ?_ _ | refine blk_drew ?_ | refine blk_alloc ?_ _)); exact BK110.out) Tryd.underlying56 rfl (by kernel_rfl)) rfl ?_
          exact ⟨by first | rfl | (simp [errW_none, errW_some] <;> rfl) | (simp [*, errW_none, errW_some] <;> rfl), by repeat (first | (with_reducible first | exact HB.out | apply below_alloc | apply pw_below_drewN | apply below_drew1 | refine below_set ?_ GE110.out | refine below_set ?_ GE112.out) | exact HB.out)⟩
        ·rw [if_neg c78] at H
         exact absurd H (by simp)
       ·rw [if_neg c76] at H
        exact absurd H (by simp)

end Go.Proofs.YtodmfjophjhbeaaDoor.M
