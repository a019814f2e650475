-- By this seat's own program over the kit's printer (arrays, functions told by hand); nothing of it is trusted: the kernel checks it.
import Derived.Test.YtodmfjophjhbeaaDoorMx0
import Derived.Test.YtodmfjophjhbeaaDoorMx7
namespace Go.Proofs.YtodmfjophjhbeaaDoor.M
open Go.RowKit Go.Proofs.YtodmfjophjhbeaaDoorW.PrintWords Go.Proofs.YtodmfjophjhbeaaDoorW.PrintLast Go.Proofs.YtodmfjophjhbeaaDoorW.PrintMore
attribute [local go_sem] max2_int min2_int max_two min_two max_three min_three max_four min_four   -- for this text's walks alone
set_option linter.unusedVariables false
set_option linter.unusedSimpArgs false

/-! ### laws_eqMoveS: function 12 -/
def laws_eqMoveS.l0 : Nat → List (S56) → List (S56) → Int → Option (Bool)
 | 0, _, _, _ => none
 | k + 1, x0, x1, x5 => if x5 < (x0.length : Int) then (if 0 ≤ x5 then (if x5 < (x1.length : Int) then ((laws_eqMove.f ((rd_T56 x0 x5).f0) ((rd_T56 x0 x5).f1) ((rd_T56 x0 x5).f2) ((rd_T56 x1 x5).f0) ((rd_T56 x1 x5).f1) ((rd_T56 x1 x5).f2)).bind fun t175 => (if t175 = true then (laws_eqMoveS.l0 k x0 x1 (wrap64 (x5 + 1))) else (some false))) else (none)) else (none)) else (some true)
def laws_eqMoveS.f (k : Nat) (l0 : List (S56)) (l1 : List (S56)) : Option (Bool) := if (l0.length : Int) = (l1.length : Int) then (laws_eqMoveS.l0 k l0 l1 0) else (some false)
theorem laws_eqMoveS.mono_l : ∀ k, (∀ y0 y1 y2, LeO (laws_eqMoveS.l0 k y0 y1 y2) (laws_eqMoveS.l0 (k + 1) y0 y1 y2))
 | 0 => fun _ _ _ r h => by simp [laws_eqMoveS.l0] at h
 | k + 1 => by
  have ih0 := laws_eqMoveS.mono_l k
  ·intro y0 y1 y2
   unfold laws_eqMoveS.l0
   repeat' first
   | (with_reducible exact ih0 _ _ _)
   | (with_reducible exact LeO.refl _)
   | (with_reducible exact LeO.none _)
   | (with_reducible refine LeO.ite ?_ ?_)
   | (with_reducible refine LeO.bind ?_ (fun _ => ?_))
   | exact ih0 _ _ _
   | exact LeO.none _
   | refine LeO.ite ?_ ?_
   | refine LeO.bind ?_ (fun _ => ?_)
theorem laws_eqMoveS.mono : ∀ a0 a1 k, LeO (laws_eqMoveS.f k a0 a1) (laws_eqMoveS.f (k + 1) a0 a1) := by
 intro a0 a1 k
 have ih0 := laws_eqMoveS.mono_l k
 unfold laws_eqMoveS.f
 repeat' first
   | (with_reducible exact ih0 _ _ _)
   | (with_reducible exact LeO.refl _)
   | (with_reducible exact LeO.none _)
   | (with_reducible refine LeO.ite ?_ ?_)
   | (with_reducible refine LeO.bind ?_ (fun _ => ?_))
   | exact ih0 _ _ _
   | exact LeO.none _
   | refine LeO.ite ?_ ?_
   | refine LeO.bind ?_ (fun _ => ?_)
def laws_eqMoveS.T6 : Bool × List (List Nat × List Nat) := (true, [([], []), ([], []), ([0, 1], [0, 1]), ([2], [2]), ([], []), ([], []), ([4, 5], [4, 5]), ([6], [6]), ([3, 7], [3, 7]), ([8], [8])])
def laws_eqMoveS.B6 : List Nat := [0, 0, 3, 7, 0, 0, 48, 112, 255, 511]
theorem laws_eqMoveS.tab6 : rtab .any (opsOf Tryd.f12 6) = laws_eqMoveS.T6 := by kernel_rfl
theorem laws_eqMoveS.bits6 : waitsOk laws_eqMoveS.T6.2 laws_eqMoveS.B6 = true := by kernel_rfl
set_option maxHeartbeats 8000000 in
set_option maxRecDepth 100000 in
theorem laws_eqMoveS.calls (k : Nat) (A0 : Option Addr) (c0 : Nat) (l0 : List (S56)) (A1 : Option Addr) (c1 : Nat) (l1 : List (S56)) (r : Bool) (w : World) (hr0 : Kd.C k56 w A0 l0.length l0) (hc0 : l0.length ≤ c0) (hr1 : Kd.C k56 w A1 l1.length l1) (hc1 : l1.length ≤ c1) (h : laws_eqMoveS.f k l0 l1 = some r) :
  Calls Tryd.prog 12 #[.slice A0 l0.length c0, .slice A1 l1.length c1] w fun e w' => e = .returned (.bool r) ∧ Below w.heap.size w w' := by
 have hu56 := Tryd.underlying56
 have HR0 := Aside0.mk hr0
 have HC0 := Aside0.mk hc0
 clear hr0 hc0
 have HR1 := Aside0.mk hr1
 have HC1 := Aside0.mk hc1
 clear hr1 hc1
 have HB := A_ (Below.refl w.heap.size w)
 have H : (if (l0.length : Int) = (l1.length : Int) then (laws_eqMoveS.l0 k l0 l1 0) else (some false)) = some r := h
 clear h
 by_cases c3 : (l0.length : Int) = (l1.length : Int)
 ·rw [if_pos c3] at H
  have c3b0 : ((l0.length : Int) == (l1.length : Int)) = true := beq_iff_eq.mpr c3
  have c3b1 : ((l0.length : Int) != (l1.length : Int)) = false := bne_eq_false_iff_eq.mpr c3
  have c3b2 : (l0.length == l1.length) = true := by first | simpa using c3 | (simp at c3 ⊢; omega)
  clear c3
  have H' := Aside0.mk H
  clear H
  go_enter Tryd.func12, Tryd.ntmps12
  go_wp2
  go_loopg [5] k (fun kq v5 w' => ∃ (x5_1 : Int), v5 = .int .i64 x5_1 ∧ Aside0 (laws_eqMoveS.l0 kq l0 l1 x5_1 = some r) ∧ Aside0 (kq ≤ k) ∧ Aside0 (Below w.heap.size w w'))
  case atStart => exact ⟨(0), rs_, H', ⟨Nat.le_refl _⟩, ⟨bl_ HB⟩⟩
  case round =>
   clear H'
   try clear c1
   try clear p2
   try clear c3
   try clear c3b0
   try clear c3b1
   try clear c3b2
   obtain ⟨x5_1, rfl, HA, HK1, HB⟩ := hrel
   cases gk with
   | zero => exact absurd HA.out (by simp [laws_eqMoveS.l0])
   | succ k1 =>
    have H := HA.out
    clear HA
    simp only [laws_eqMoveS.l0] at H
    by_cases c4 : x5_1 < (l0.length : Int)
    ·rw [if_pos c4] at H
     have c4b0 : decide (x5_1 < (l0.length : Int)) = true := decide_eq_true c4
     clear c4
     by_cases c5 : 0 ≤ x5_1
     ·rw [if_pos c5] at H
      have c5b0 : decide (0 ≤ x5_1) = true := decide_eq_true c5
      clear c5
      by_cases c6 : x5_1 < (l1.length : Int)
      ·rw [if_pos c6] at H
       have c6b0 : decide (x5_1 < (l1.length : Int)) = true := decide_eq_true c6
       clear c6
       replace H := Option.bind_eq_some_iff.mp H
       obtain ⟨t175, A70, H⟩ := H
       replace H : (if t175 = true then (laws_eqMoveS.l0 k1 l0 l1 (wrap64 (x5_1 + 1))) else (some false)) = some r := H
       have A7 := Aside0.mk A70
       clear A70
       by_cases c8 : t175 = true
       ·subst c8
        have H1 : (laws_eqMoveS.l0 k1 l0 l1 (wrap64 (x5_1 + 1))) = some r := by rw [if_pos rfl] at H; exact H
        clear H
        have H := H1
        clear H1
        have H' := Aside0.mk H
        clear H
        try go_wp2
        have n0_ := A_ (below_drew1 HB.out)
        clear HB
        have HB := n0_
        clear n0_
        have p173 : 0 ≤ (x5_1 : Int) := asm_
        have q173 : x5_1 < (l0.length : Int) := asm_
        obtain ⟨ad173, e173, hx173_0, hx173_1, hx173_2⟩ := at_T56 HR0.out x5_1 p173 q173
        have hw173_2 := hx173_2
        have hw173_1 := hx173_1
        have hw173_0 := hx173_0
        cases e173
        (try replace hx173_0 := (HB.out.cell (World.block_lt_of_cell? w _ hx173_0)).trans hx173_0)
        (try replace hx173_1 := (HB.out.cell (World.block_lt_of_cell? w _ hx173_1)).trans hx173_1)
        (try replace hx173_2 := (HB.out.cell (World.block_lt_of_cell? w _ hx173_2)).trans hx173_2)
        replace p173 := eq_true p173
        replace q173 := eq_true q173
        have p174 : 0 ≤ (x5_1 : Int) := asm_
        have q174 : x5_1 < (l1.length : Int) := asm_
        obtain ⟨ad174, e174, hx174_0, hx174_1, hx174_2⟩ := at_T56 HR1.out x5_1 p174 q174
        have hw174_2 := hx174_2
        have hw174_1 := hx174_1
        have hw174_0 := hx174_0
        cases e174
        (try replace hx174_0 := (HB.out.cell (World.block_lt_of_cell? w _ hx174_0)).trans hx174_0)
        (try replace hx174_1 := (HB.out.cell (World.block_lt_of_cell? w _ hx174_1)).trans hx174_1)
        (try replace hx174_2 := (HB.out.cell (World.block_lt_of_cell? w _ hx174_2)).trans hx174_2)
        replace p174 := eq_true p174
        replace q174 := eq_true q174
        refine start_ (n := 10) (S := fun w' => w'.cell? (ad173.add ((x5_1).toNat * 3)) = some (.int .i8 ((rd_T56 l0 x5_1).f0)) ∧ w'.cell? ⟨(ad173.add ((x5_1).toNat * 3)).block, (ad173.add ((x5_1).toNat * 3)).off + 1, none⟩ = some (.int .i8 ((rd_T56 l0 x5_1).f1)) ∧ w'.cell? ⟨(ad173.add ((x5_1).toNat * 3)).block, (ad173.add ((x5_1).toNat * 3)).off + 2, none⟩ = some (.int .i8 ((rd_T56 l0 x5_1).f2)) ∧ w'.cell? (ad174.add ((x5_1).toNat * 3)) = some (.int .i8 ((rd_T56 l1 x5_1).f0)) ∧ w'.cell? ⟨(ad174.add ((x5_1).toNat * 3)).block, (ad174.add ((x5_1).toNat * 3)).off + 1, none⟩ = some (.int .i8 ((rd_T56 l1 x5_1).f1)) ∧ w'.cell? ⟨(ad174.add ((x5_1).toNat * 3)).block, (ad174.add ((x5_1).toNat * 3)).off + 2, none⟩ = some (.int .i8 ((rd_T56 l1 x5_1).f2))) (ds := []) #[false, false, false, false, false, false, false, false, false, false] (by kernel_rfl) rfl rfl ⟨(by first | exact (HB.out.cell (World.block_lt_of_cell? w _ hw173_0)).trans hw173_0 | exact hw173_0), (by first | exact (HB.out.cell (World.block_lt_of_cell? w _ hw173_1)).trans hw173_1 | exact hw173_1), (by first | exact (HB.out.cell (World.block_lt_of_cell? w _ hw173_2)).trans hw173_2 | exact hw173_2), (by first | exact (HB.out.cell (World.block_lt_of_cell? w _ hw174_0)).trans hw174_0 | exact hw174_0), (by first | exact (HB.out.cell (World.block_lt_of_cell? w _ hw174_1)).trans hw174_1 | exact hw174_1), (by first | exact (HB.out.cell (World.block_lt_of_cell? w _ hw174_2)).trans hw174_2 | exact hw174_2)⟩ (fun hHeld => ?_); refine with_tabW laws_eqMoveS.tab6 laws_eqMoveS.bits6 (fun HT_ HW_ => ?_)
        generalize wr.drew = w9 at HB hx173_0 hx173_1 hx173_2 hx174_0 hx174_1 hx174_2 hHeld ⊢
        refine pure_ (i := 0) (N := some 17) (v := ?_) (a' := ?_) #[true, false, false, false, false, false, false, false, false, false] rfl rfl (any_of HT_.out (by kernel_rfl)) (fun _ _ _ h => h) (Or.inl ⟨by rfl, ?_⟩) ?_ ?_
        rotate_left
        ·intro w'
         go_simp
         with_reducible rfl
        rotate_left
        ·simp only [Act.put, sp_]
         rfl
        refine pure_ (i := 1) (N := some 18) (v := ?_) (a' := ?_) #[true, true, false, false, false, false, false, false, false, false] rfl rfl (any_of HT_.out (by kernel_rfl)) (fun _ _ _ h => h) (Or.inl ⟨by rfl, ?_⟩) ?_ ?_
        rotate_left
        ·intro w'
         go_simp
         with_reducible rfl
        rotate_left
        ·simp only [Act.put, sp_]
         rfl
        refine pure_ (i := 2) (N := some 19) (v := ?_) (a' := ?_) #[true, true, true, false, false, false, false, false, false, false] rfl rfl (any_of HT_.out (by kernel_rfl)) (fun _ _ _ h => h) (Or.inl ⟨by rfl, ?_⟩) ?_ ?_
        rotate_left
        ·intro w'
         go_simp
         with_reducible rfl
        rotate_left
        ·simp only [Act.put, sp_]
         rfl
        refine pure_ (i := 4) (N := some 21) (v := ?_) (a' := ?_) #[true, true, true, false, true, false, false, false, false, false] rfl rfl (any_of HT_.out (by kernel_rfl)) (fun _ _ _ h => h) (Or.inl ⟨by rfl, ?_⟩) ?_ ?_
        rotate_left
        ·intro w'
         go_simp
         with_reducible rfl
        rotate_left
        ·simp only [Act.put, sp_]
         rfl
        refine pure_ (i := 5) (N := some 22) (v := ?_) (a' := ?_) #[true, true, true, false, true, true, false, false, false, false] rfl rfl (any_of HT_.out (by kernel_rfl)) (fun _ _ _ h => h) (Or.inl ⟨by rfl, ?_⟩) ?_ ?_
        rotate_left
        ·intro w'
         go_simp
         with_reducible rfl
        rotate_left
        ·simp only [Act.put, sp_]
         rfl
        refine pure_ (i := 6) (N := some 23) (v := ?_) (a' := ?_) #[true, true, true, false, true, true, true, false, false, false] rfl rfl (any_of HT_.out (by kernel_rfl)) (fun _ _ _ h => h) (Or.inl ⟨by rfl, ?_⟩) ?_ ?_
        rotate_left
        ·intro w'
         go_simp
         with_reducible rfl
        rotate_left
        ·simp only [Act.put, sp_]
         rfl
        refine take_ (i := 3) (N := some 20) (v := ?_) (a' := ?_) #[true, true, true, true, true, true, true, false, false, false] rfl rfl (take_ofW HT_.out HW_.out (by kernel_rfl)) (fun _ _ _ h => h) (Or.inl ⟨by rfl, ?_⟩) hHeld ?_ ?_
        rotate_left
        ·rintro w' ⟨s0, s1, s2, s3, s4, s5⟩
         go_simp
         with_reducible rfl
        rotate_left
        ·simp only [Act.put, sp_]
         rfl
        refine take_ (i := 7) (N := some 24) (v := ?_) (a' := ?_) #[true, true, true, true, true, true, true, true, false, false] rfl rfl (take_ofW HT_.out HW_.out (by kernel_rfl)) (fun _ _ _ h => h) (Or.inl ⟨by rfl, ?_⟩) hHeld ?_ ?_
        rotate_left
        ·rintro w' ⟨s0, s1, s2, s3, s4, s5⟩
         go_simp
         with_reducible rfl
        rotate_left
        ·simp only [Act.put, sp_]
         rfl
        refine one_ (i := 8) (N := some 25) #[true, true, true, true, true, true, true, true, true, false] rfl rfl (one_of HT_.out (by kernel_rfl)) (by decide) (fun K hK => ?_)
        refine goes_ Tryd.func30 (by kernel_rfl) rfl #[.agg #[.int .i8 ((rd_T56 l0 x5_1).f0), .int .i8 ((rd_T56 l0 x5_1).f1), .int .i8 ((rd_T56 l0 x5_1).f2)], .agg #[.int .i8 ((rd_T56 l1 x5_1).f0), .int .i8 ((rd_T56 l1 x5_1).f1), .int .i8 ((rd_T56 l1 x5_1).f2)]] (by rfl) rfl rfl arg_ ?_
        with_reducible refine (laws_eqMove.calls ((rd_T56 l0 x5_1).f0) ((rd_T56 l0 x5_1).f1) ((rd_T56 l0 x5_1).f2) ((rd_T56 l1 x5_1).f0) ((rd_T56 l1 x5_1).f1) ((rd_T56 l1 x5_1).f2) true _ A7.out).mono ?_
        rintro e w10 ⟨rfl, hb⟩
        refine ⟨_, rfl, ?_⟩
        have n0_ := A_ (below_step (bl_ HB) hb)
        clear HB
        have HB := n0_
        clear n0_
        (try clear hb)
        (try clear hb2)
        (try clear hk)
        (try clear hi)
        refine hK.out _ _ ⟨(by first | exact (HB.out.cell (World.block_lt_of_cell? w _ hw173_0)).trans hw173_0 | exact hw173_0), (by first | exact (HB.out.cell (World.block_lt_of_cell? w _ hw173_1)).trans hw173_1 | exact hw173_1), (by first | exact (HB.out.cell (World.block_lt_of_cell? w _ hw173_2)).trans hw173_2 | exact hw173_2), (by first | exact (HB.out.cell (World.block_lt_of_cell? w _ hw174_0)).trans hw174_0 | exact hw174_0), (by first | exact (HB.out.cell (World.block_lt_of_cell? w _ hw174_1)).trans hw174_1 | exact hw174_1), (by first | exact (HB.out.cell (World.block_lt_of_cell? w _ hw174_2)).trans hw174_2 | exact hw174_2)⟩ (fun hHeld => ?_)
        clear hK K
        refine norm_ (a' := ?_) ?_ ?_
        rotate_left
        ·show Act.put _ (some 25) _ = _
         simp only [Act.put, sp_]
         rfl
        refine pure_ (i := 9) (N := some 26) (v := ?_) (a' := ?_) #[true, true, true, true, true, true, true, true, true, true] rfl rfl (any_of HT_.out (by kernel_rfl)) (fun _ _ _ h => h) (Or.inl ⟨by rfl, ?_⟩) ?_ ?_
        rotate_left
        ·intro w'
         go_simp
         with_reducible rfl
        rotate_left
        ·simp only [Act.put, sp_]
         rfl
        refine done_ (done_of HT_.out (by kernel_rfl)) ?_
        try go_wp2
        go_roundg k1
        case measure => have := HK1.out; omega
        case rel => exact ⟨(wrap64 (x5_1 + 1)), rs_, H', ⟨by have := HK1.out; omega⟩, ⟨bl_ HB⟩⟩
       ·replace c8 := Bool.eq_false_iff.mpr c8
        subst c8
        have H1 : (some false) = some r := by rw [if_neg (show ¬ (false = true) by decide)] at H; exact H
        clear H
        have H := H1
        clear H1
        obtain rfl := Option.some.inj H
        try go_wp2
        have n0_ := A_ (below_drew1 HB.out)
        clear HB
        have HB := n0_
        clear n0_
        have p173 : 0 ≤ (x5_1 : Int) := asm_
        have q173 : x5_1 < (l0.length : Int) := asm_
        obtain ⟨ad173, e173, hx173_0, hx173_1, hx173_2⟩ := at_T56 HR0.out x5_1 p173 q173
        have hw173_2 := hx173_2
        have hw173_1 := hx173_1
        have hw173_0 := hx173_0
        cases e173
        (try replace hx173_0 := (HB.out.cell (World.block_lt_of_cell? w _ hx173_0)).trans hx173_0)
        (try replace hx173_1 := (HB.out.cell (World.block_lt_of_cell? w _ hx173_1)).trans hx173_1)
        (try replace hx173_2 := (HB.out.cell (World.block_lt_of_cell? w _ hx173_2)).trans hx173_2)
        replace p173 := eq_true p173
        replace q173 := eq_true q173
        have p174 : 0 ≤ (x5_1 : Int) := asm_
        have q174 : x5_1 < (l1.length : Int) := asm_
        obtain ⟨ad174, e174, hx174_0, hx174_1, hx174_2⟩ := at_T56 HR1.out x5_1 p174 q174
        have hw174_2 := hx174_2
        have hw174_1 := hx174_1
        have hw174_0 := hx174_0
        cases e174
        (try replace hx174_0 := (HB.out.cell (World.block_lt_of_cell? w _ hx174_0)).trans hx174_0)
        (try replace hx174_1 := (HB.out.cell (World.block_lt_of_cell? w _ hx174_1)).trans hx174_1)
        (try replace hx174_2 := (HB.out.cell (World.block_lt_of_cell? w _ hx174_2)).trans hx174_2)
        replace p174 := eq_true p174
        replace q174 := eq_true q174
        refine start_ (n := 10) (S := fun w' => w'.cell? (ad173.add ((x5_1).toNat * 3)) = some (.int .i8 ((rd_T56 l0 x5_1).f0)) ∧ w'.cell? ⟨(ad173.add ((x5_1).toNat * 3)).block, (ad173.add ((x5_1).toNat * 3)).off + 1, none⟩ = some (.int .i8 ((rd_T56 l0 x5_1).f1)) ∧ w'.cell? ⟨(ad173.add ((x5_1).toNat * 3)).block, (ad173.add ((x5_1).toNat * 3)).off + 2, none⟩ = some (.int .i8 ((rd_T56 l0 x5_1).f2)) ∧ w'.cell? (ad174.add ((x5_1).toNat * 3)) = some (.int .i8 ((rd_T56 l1 x5_1).f0)) ∧ w'.cell? ⟨(ad174.add ((x5_1).toNat * 3)).block, (ad174.add ((x5_1).toNat * 3)).off + 1, none⟩ = some (.int .i8 ((rd_T56 l1 x5_1).f1)) ∧ w'.cell? ⟨(ad174.add ((x5_1).toNat * 3)).block, (ad174.add ((x5_1).toNat * 3)).off + 2, none⟩ = some (.int .i8 ((rd_T56 l1 x5_1).f2))) (ds := []) #[false, false, false, false, false, false, false, false, false, false] (by kernel_rfl) rfl rfl ⟨(by first | exact (HB.out.cell (World.block_lt_of_cell? w _ hw173_0)).trans hw173_0 | exact hw173_0), (by first | exact (HB.out.cell (World.block_lt_of_cell? w _ hw173_1)).trans hw173_1 | exact hw173_1), (by first | exact (HB.out.cell (World.block_lt_of_cell? w _ hw173_2)).trans hw173_2 | exact hw173_2), (by first | exact (HB.out.cell (World.block_lt_of_cell? w _ hw174_0)).trans hw174_0 | exact hw174_0), (by first | exact (HB.out.cell (World.block_lt_of_cell? w _ hw174_1)).trans hw174_1 | exact hw174_1), (by first | exact (HB.out.cell (World.block_lt_of_cell? w _ hw174_2)).trans hw174_2 | exact hw174_2)⟩ (fun hHeld => ?_); refine with_tabW laws_eqMoveS.tab6 laws_eqMoveS.bits6 (fun HT_ HW_ => ?_)
        generalize wr.drew = w11 at HB hx173_0 hx173_1 hx173_2 hx174_0 hx174_1 hx174_2 hHeld ⊢
        refine pure_ (i := 0) (N := some 17) (v := ?_) (a' := ?_) #[true, false, false, false, false, false, false, false, false, false] rfl rfl (any_of HT_.out (by kernel_rfl)) (fun _ _ _ h => h) (Or.inl ⟨by rfl, ?_⟩) ?_ ?_
        rotate_left
        ·intro w'
         go_simp
         with_reducible rfl
        rotate_left
        ·simp only [Act.put, sp_]
         rfl
        refine pure_ (i := 1) (N := some 18) (v := ?_) (a' := ?_) #[true, true, false, false, false, false, false, false, false, false] rfl rfl (any_of HT_.out (by kernel_rfl)) (fun _ _ _ h => h) (Or.inl ⟨by rfl, ?_⟩) ?_ ?_
        rotate_left
        ·intro w'
         go_simp
         with_reducible rfl
        rotate_left
        ·simp only [Act.put, sp_]
         rfl
        refine pure_ (i := 2) (N := some 19) (v := ?_) (a' := ?_) #[true, true, true, false, false, false, false, false, false, false] rfl rfl (any_of HT_.out (by kernel_rfl)) (fun _ _ _ h => h) (Or.inl ⟨by rfl, ?_⟩) ?_ ?_
        rotate_left
        ·intro w'
         go_simp
         with_reducible rfl
        rotate_left
        ·simp only [Act.put, sp_]
         rfl
        refine pure_ (i := 4) (N := some 21) (v := ?_) (a' := ?_) #[true, true, true, false, true, false, false, false, false, false] rfl rfl (any_of HT_.out (by kernel_rfl)) (fun _ _ _ h => h) (Or.inl ⟨by rfl, ?_⟩) ?_ ?_
        rotate_left
        ·intro w'
         go_simp
         with_reducible rfl
        rotate_left
        ·simp only [Act.put, sp_]
         rfl
        refine pure_ (i := 5) (N := some 22) (v := ?_) (a' := ?_) #[true, true, true, false, true, true, false, false, false, false] rfl rfl (any_of HT_.out (by kernel_rfl)) (fun _ _ _ h => h) (Or.inl ⟨by rfl, ?_⟩) ?_ ?_
        rotate_left
        ·intro w'
         go_simp
         with_reducible rfl
        rotate_left
        ·simp only [Act.put, sp_]
         rfl
        refine pure_ (i := 6) (N := some 23) (v := ?_) (a' := ?_) #[true, true, true, false, true, true, true, false, false, false] rfl rfl (any_of HT_.out (by kernel_rfl)) (fun _ _ _ h => h) (Or.inl ⟨by rfl, ?_⟩) ?_ ?_
        rotate_left
        ·intro w'
         go_simp
         with_reducible rfl
        rotate_left
        ·simp only [Act.put, sp_]
         rfl
        refine take_ (i := 3) (N := some 20) (v := ?_) (a' := ?_) #[true, true, true, true, true, true, true, false, false, false] rfl rfl (take_ofW HT_.out HW_.out (by kernel_rfl)) (fun _ _ _ h => h) (Or.inl ⟨by rfl, ?_⟩) hHeld ?_ ?_
        rotate_left
        ·rintro w' ⟨s0, s1, s2, s3, s4, s5⟩
         go_simp
         with_reducible rfl
        rotate_left
        ·simp only [Act.put, sp_]
         rfl
        refine take_ (i := 7) (N := some 24) (v := ?_) (a' := ?_) #[true, true, true, true, true, true, true, true, false, false] rfl rfl (take_ofW HT_.out HW_.out (by kernel_rfl)) (fun _ _ _ h => h) (Or.inl ⟨by rfl, ?_⟩) hHeld ?_ ?_
        rotate_left
        ·rintro w' ⟨s0, s1, s2, s3, s4, s5⟩
         go_simp
         with_reducible rfl
        rotate_left
        ·simp only [Act.put, sp_]
         rfl
        refine one_ (i := 8) (N := some 25) #[true, true, true, true, true, true, true, true, true, false] rfl rfl (one_of HT_.out (by kernel_rfl)) (by decide) (fun K hK => ?_)
        refine goes_ Tryd.func30 (by kernel_rfl) rfl #[.agg #[.int .i8 ((rd_T56 l0 x5_1).f0), .int .i8 ((rd_T56 l0 x5_1).f1), .int .i8 ((rd_T56 l0 x5_1).f2)], .agg #[.int .i8 ((rd_T56 l1 x5_1).f0), .int .i8 ((rd_T56 l1 x5_1).f1), .int .i8 ((rd_T56 l1 x5_1).f2)]] (by rfl) rfl rfl arg_ ?_
        with_reducible refine (laws_eqMove.calls ((rd_T56 l0 x5_1).f0) ((rd_T56 l0 x5_1).f1) ((rd_T56 l0 x5_1).f2) ((rd_T56 l1 x5_1).f0) ((rd_T56 l1 x5_1).f1) ((rd_T56 l1 x5_1).f2) false _ A7.out).mono ?_
        rintro e w12 ⟨rfl, hb⟩
        refine ⟨_, rfl, ?_⟩
        have n0_ := A_ (below_step (bl_ HB) hb)
        clear HB
        have HB := n0_
        clear n0_
        (try clear hb)
        (try clear hb2)
        (try clear hk)
        (try clear hi)
        refine hK.out _ _ ⟨(by first | exact (HB.out.cell (World.block_lt_of_cell? w _ hw173_0)).trans hw173_0 | exact hw173_0), (by first | exact (HB.out.cell (World.block_lt_of_cell? w _ hw173_1)).trans hw173_1 | exact hw173_1), (by first | exact (HB.out.cell (World.block_lt_of_cell? w _ hw173_2)).trans hw173_2 | exact hw173_2), (by first | exact (HB.out.cell (World.block_lt_of_cell? w _ hw174_0)).trans hw174_0 | exact hw174_0), (by first | exact (HB.out.cell (World.block_lt_of_cell? w _ hw174_1)).trans hw174_1 | exact hw174_1), (by first | exact (HB.out.cell (World.block_lt_of_cell? w _ hw174_2)).trans hw174_2 | exact hw174_2)⟩ (fun hHeld => ?_)
        clear hK K
        refine norm_ (a' := ?_) ?_ ?_
        rotate_left
        ·show Act.put _ (some 25) _ = _
         simp only [Act.put, sp_]
         rfl
        refine pure_ (i := 9) (N := some 26) (v := ?_) (a' := ?_) #[true, true, true, true, true, true, true, true, true, true] rfl rfl (any_of HT_.out (by kernel_rfl)) (fun _ _ _ h => h) (Or.inl ⟨by rfl, ?_⟩) ?_ ?_
        rotate_left
        ·intro w'
         go_simp
         with_reducible rfl
        rotate_left
        ·simp only [Act.put, sp_]
         rfl
        refine done_ (done_of HT_.out (by kernel_rfl)) ?_
        try go_wp2
        go_ret
        exact ⟨by first | rfl | (simp [errW_none, errW_some] <;> rfl) | (simp [*, errW_none, errW_some] <;> rfl), bl_ HB⟩
      ·rw [if_neg c6] at H
       exact absurd H (by simp)
     ·rw [if_neg c5] at H
      exact absurd H (by simp)
    ·rw [if_neg c4] at H
     have c4b0 : decide (x5_1 < (l0.length : Int)) = false := decide_eq_false c4
     clear c4
     obtain rfl := Option.some.inj H
     go_wp2
     go_ret
     exact ⟨by first | rfl | (simp [errW_none, errW_some] <;> rfl) | (simp [*, errW_none, errW_some] <;> rfl), bl_ HB⟩
 ·rw [if_neg c3] at H
  have c3b0 : ((l0.length : Int) == (l1.length : Int)) = false := beq_eq_false_iff_ne.mpr c3
  have c3b1 : ((l0.length : Int) != (l1.length : Int)) = true := bne_iff_ne.mpr c3
  have c3b2 : (l0.length == l1.length) = false := by first | simpa using c3 | (simp at c3 ⊢; omega)
  obtain rfl := Option.some.inj H
  go_enter Tryd.func12, Tryd.ntmps12
  go_wp2
  go_ret
  exact ⟨by first | rfl | (simp [errW_none, errW_some] <;> rfl) | (simp [*, errW_none, errW_some] <;> rfl), bl_ HB⟩

end Go.Proofs.YtodmfjophjhbeaaDoor.M
