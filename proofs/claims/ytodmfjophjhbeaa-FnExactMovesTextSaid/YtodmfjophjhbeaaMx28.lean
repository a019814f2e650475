-- By this seat's own program over the kit's printer (arrays, functions told by hand); nothing of it is trusted: the kernel checks it.
import Derived.Test.YtodmfjophjhbeaaMx0
import Derived.Test.YtodmfjophjhbeaaMx27
namespace Go.Proofs.Ytodmfjophjhbeaa.M
open Go.RowKit Go.Proofs.YtodmfjophjhbeaaW.PrintWords Go.Proofs.YtodmfjophjhbeaaW.PrintLast Go.Proofs.YtodmfjophjhbeaaW.PrintMore
attribute [local go_sem] max2_int min2_int max_two min_two max_three min_three max_four min_four   -- for this text's walks alone
set_option linter.unusedVariables false
set_option linter.unusedSimpArgs false

/-! ### spec_l02MovesText: function 81 -/
mutual
def spec_l02MovesText.l0 : Nat → List (S60) → ByteArray → Int → Option (ByteArray)
 | 0, _, _, _ => none
 | k + 1, x0, x3, x4 => if x4 < (x0.length : Int) then (if x4 > 0 then (if x3.size + 1 ≤ 9223372036854775807 then (spec_l02MovesText.j1 k x0 (x3 ++ (⟨#[32]⟩ : ByteArray)) x4) else (none)) else (spec_l02MovesText.j1 k x0 x3 x4)) else (some x3)
def spec_l02MovesText.j1 : Nat → List (S60) → ByteArray → Int → Option (ByteArray)
 | 0, _, _, _ => none
 | k + 1, x0, x3, x4 => if 0 ≤ x4 then (if x4 < (x0.length : Int) then (if ((rd_T60 x0 x4).f0) = 0 then ((spec_l02Letter.f ((rd_T60 x0 x4).f1)).bind fun t359 => (if t359.size + 1 ≤ 9223372036854775807 then ((spec_l02Letter.f ((rd_T60 x0 x4).f2)).bind fun t360 => (if t359.size + 1 + t360.size ≤ 9223372036854775807 then (if x3.size + (t359.size + 1 + t360.size) ≤ 9223372036854775807 then (spec_l02MovesText.l0 k x0 (x3 ++ ((t359 ++ (⟨#[62]⟩ : ByteArray)) ++ t360)) (wrap64 (x4 + 1))) else (none)) else (none))) else (none))) else (if ((rd_T60 x0 x4).f0) = 1 then ((spec_l02Letter.f ((rd_T60 x0 x4).f1)).bind fun t361 => (if 1 + t361.size ≤ 9223372036854775807 then (if x3.size + (1 + t361.size) ≤ 9223372036854775807 then (spec_l02MovesText.l0 k x0 (x3 ++ ((⟨#[43]⟩ : ByteArray) ++ t361)) (wrap64 (x4 + 1))) else (none)) else (none))) else (if ((rd_T60 x0 x4).f0) = 2 then ((spec_l02Letter.f ((rd_T60 x0 x4).f1)).bind fun t362 => (if 1 + t362.size ≤ 9223372036854775807 then (if x3.size + (1 + t362.size) ≤ 9223372036854775807 then (spec_l02MovesText.l0 k x0 (x3 ++ ((⟨#[45]⟩ : ByteArray) ++ t362)) (wrap64 (x4 + 1))) else (none)) else (none))) else (spec_l02MovesText.l0 k x0 x3 (wrap64 (x4 + 1)))))) else (none)) else (none)
end
def spec_l02MovesText.f (k : Nat) (l0 : List (S60)) : Option (ByteArray) := spec_l02MovesText.l0 k l0 (⟨#[]⟩ : ByteArray) 0
theorem spec_l02MovesText.mono_l : ∀ k, (∀ y0 y1 y2, LeO (spec_l02MovesText.l0 k y0 y1 y2) (spec_l02MovesText.l0 (k + 1) y0 y1 y2)) ∧ (∀ y0 y1 y2, LeO (spec_l02MovesText.j1 k y0 y1 y2) (spec_l02MovesText.j1 (k + 1) y0 y1 y2))
 | 0 => ⟨fun _ _ _ r h => by simp [spec_l02MovesText.l0] at h, fun _ _ _ r h => by simp [spec_l02MovesText.j1] at h⟩
 | k + 1 => by
  obtain ⟨ih0, ih1⟩ := spec_l02MovesText.mono_l k
  refine ⟨?_, ?_⟩
  ·intro y0 y1 y2
   unfold spec_l02MovesText.l0
   repeat' first
   | (with_reducible exact ih0 _ _ _)
   | (with_reducible exact ih1 _ _ _)
   | (with_reducible exact LeO.refl _)
   | (with_reducible exact LeO.none _)
   | (with_reducible refine LeO.ite ?_ ?_)
   | (with_reducible refine LeO.bind ?_ (fun _ => ?_))
   | exact ih0 _ _ _
   | exact ih1 _ _ _
   | exact LeO.none _
   | refine LeO.ite ?_ ?_
   | refine LeO.bind ?_ (fun _ => ?_)
  ·intro y0 y1 y2
   unfold spec_l02MovesText.j1
   repeat' first
   | (with_reducible exact ih0 _ _ _)
   | (with_reducible exact ih1 _ _ _)
   | (with_reducible exact LeO.refl _)
   | (with_reducible exact LeO.none _)
   | (with_reducible refine LeO.ite ?_ ?_)
   | (with_reducible refine LeO.bind ?_ (fun _ => ?_))
   | exact ih0 _ _ _
   | exact ih1 _ _ _
   | exact LeO.none _
   | refine LeO.ite ?_ ?_
   | refine LeO.bind ?_ (fun _ => ?_)
theorem spec_l02MovesText.mono : ∀ a0 k, LeO (spec_l02MovesText.f k a0) (spec_l02MovesText.f (k + 1) a0) := by
 intro a0 k
 obtain ⟨ih0, ih1⟩ := spec_l02MovesText.mono_l k
 unfold spec_l02MovesText.f
 repeat' first
   | (with_reducible exact ih0 _ _ _)
   | (with_reducible exact ih1 _ _ _)
   | (with_reducible exact LeO.refl _)
   | (with_reducible exact LeO.none _)
   | (with_reducible refine LeO.ite ?_ ?_)
   | (with_reducible refine LeO.bind ?_ (fun _ => ?_))
   | exact ih0 _ _ _
   | exact ih1 _ _ _
   | exact LeO.none _
   | refine LeO.ite ?_ ?_
   | refine LeO.bind ?_ (fun _ => ?_)
def spec_l02MovesText.T10 : Bool × List (List Nat × List Nat) := (true, [([], []), ([], []), ([1], [1]), ([2], [2]), ([3], [3]), ([], []), ([5], [5]), ([6, 3], [6]), ([4, 7], [4, 7]), ([0, 8], [0, 8]), ([9, 7, 0, 1, 2, 3, 4, 5, 6, 7, 8, 9], [0, 9])])
def spec_l02MovesText.B10 : List Nat := [0, 0, 2, 6, 14, 0, 32, 110, 254, 511, 1023]
theorem spec_l02MovesText.tab10 : rtab .any (opsOf Try.f81 10) = spec_l02MovesText.T10 := by kernel_rfl
theorem spec_l02MovesText.bits10 : waitsOk spec_l02MovesText.T10.2 spec_l02MovesText.B10 = true := by kernel_rfl
set_option maxHeartbeats 8000000 in
set_option maxRecDepth 100000 in
theorem spec_l02MovesText.calls (k : Nat) (A0 : Option Addr) (c0 : Nat) (l0 : List (S60)) (r : ByteArray) (w : World) (hr0 : Kd.C k60 w A0 l0.length l0) (hc0 : l0.length ≤ c0) (h : spec_l02MovesText.f k l0 = some r) :
  Calls Try.prog 81 #[.slice A0 l0.length c0] w fun e w' => e = .returned (.string r) ∧ Below w.heap.size w w' := by
 have hu60 := Try.underlying60
 have HR0 := Aside0.mk hr0
 have HC0 := Aside0.mk hc0
 clear hr0 hc0
 have HB := A_ (Below.refl w.heap.size w)
 have H : (spec_l02MovesText.l0 k l0 (⟨#[]⟩ : ByteArray) 0) = some r := h
 clear h
 have H' := Aside0.mk H
 clear H
 go_enter Try.func81, Try.ntmps81
 go_wp2
 go_loopg [3, 4] k (fun kq v3 v4 w' => ∃ (x3_1 : ByteArray) (x4_1 : Int), v3 = .string x3_1 ∧ v4 = .int .i64 x4_1 ∧ Aside0 (spec_l02MovesText.l0 kq l0 x3_1 x4_1 = some r) ∧ Aside0 (kq ≤ k) ∧ Aside0 (Below w.heap.size w w'))
 case atStart => exact ⟨((⟨#[]⟩ : ByteArray)), (0), rs_, rs_, H', ⟨Nat.le_refl _⟩, ⟨bl_ HB⟩⟩
 case round =>
  clear H'
  obtain ⟨x3_1, x4_1, rfl, rfl, HA, HK1, HB⟩ := hrel
  cases gk with
  | zero => exact absurd HA.out (by simp [spec_l02MovesText.l0])
  | succ k1 =>
   have H := HA.out
   clear HA
   simp only [spec_l02MovesText.l0] at H
   by_cases c2 : x4_1 < (l0.length : Int)
   ·rw [if_pos c2] at H
    have c2b0 : decide (x4_1 < (l0.length : Int)) = true := decide_eq_true c2
    clear c2
    have HC3 := Aside0.mk H
    clear H
    go_upto_if 13 with (fail)
    go_cut [3] (fun v3 wc => ∃ (kq : Nat) (x3_2 : ByteArray), v3 = .string x3_2 ∧ Aside0 (spec_l02MovesText.j1 kq l0 x3_2 x4_1 = some r) ∧ Aside0 (kq ≤ k1) ∧ Aside0 (Below w.heap.size w wc))
    case first =>
     have H := HC3.out
     clear HC3
     by_cases c4 : x4_1 > 0
     ·rw [if_pos c4] at H
      have c4b0 : decide (0 < x4_1) = true := decide_eq_true c4
      clear c4
      (first | rw [c4b0] | (simp only [i64_w, i32_w]; rw [c4b0]) | skip)
      by_cases c5 : x3_1.size + 1 ≤ 9223372036854775807
      ·rw [if_pos c5] at H
       have c5b0 := eq_true c5
       have c5b1 : decide (x3_1.size + 1 ≤ 9223372036854775807) = true := decide_eq_true c5
       try have c5b2 : (9223372036854775807 < x3_1.size + 1) = False := eq_false (Nat.not_lt.2 c5)
       have H' := Aside0.mk H
       clear H
       go_wp2
       go_meet
       case rel => exact ⟨_, (x3_1 ++ (⟨#[32]⟩ : ByteArray)), rs_, H', ⟨by have := HK1.out; first | omega | exact Nat.le_refl _⟩, ⟨bl_ HB⟩⟩
      ·rw [if_neg c5] at H
       exact absurd H (by simp)
     ·rw [if_neg c4] at H
      have c4b0 : decide (0 < x4_1) = false := decide_eq_false c4
      clear c4
      (first | rw [c4b0] | (simp only [i64_w, i32_w]; rw [c4b0]) | skip)
      have H' := Aside0.mk H
      clear H
      go_wp2
      go_meet
      case rel => exact ⟨_, (x3_1), rs_, H', ⟨by have := HK1.out; first | omega | exact Nat.le_refl _⟩, ⟨bl_ HB⟩⟩
    case rest =>
     clear HC3
     try clear c2
     try clear c2b0
     try clear p2
     try clear c4
     try clear c4b0
     try clear c5
     try clear c5b0
     try clear c5b1
     try clear c5b2
     obtain ⟨kq, x3_2, rfl, HA, HJ2, HB⟩ := hcut
     cases kq with
     | zero => exact absurd HA.out (by simp [spec_l02MovesText.j1])
     | succ kj2 =>
      have H := HA.out
      clear HA
      simp only [spec_l02MovesText.j1] at H
      by_cases c6 : 0 ≤ x4_1
      ·rw [if_pos c6] at H
       have c6b0 : decide (0 ≤ x4_1) = true := decide_eq_true c6
       clear c6
       by_cases c7 : x4_1 < (l0.length : Int)
       ·rw [if_pos c7] at H
        have c7b0 : decide (x4_1 < (l0.length : Int)) = true := decide_eq_true c7
        clear c7
        by_cases c8 : ((rd_T60 l0 x4_1).f0) = 0
        ·rw [if_pos c8] at H
         have c8b0 : (((rd_T60 l0 x4_1).f0) == 0) = true := beq_iff_eq.mpr c8
         have c8b1 : (((rd_T60 l0 x4_1).f0) != 0) = false := bne_eq_false_iff_eq.mpr c8
         clear c8
         replace H := Option.bind_eq_some_iff.mp H
         obtain ⟨t359, A90, H⟩ := H
         replace H : (if t359.size + 1 ≤ 9223372036854775807 then ((spec_l02Letter.f ((rd_T60 l0 x4_1).f2)).bind fun t360 => (if t359.size + 1 + t360.size ≤ 9223372036854775807 then (if x3_2.size + (t359.size + 1 + t360.size) ≤ 9223372036854775807 then (spec_l02MovesText.l0 kj2 l0 (x3_2 ++ ((t359 ++ (⟨#[62]⟩ : ByteArray)) ++ t360)) (wrap64 (x4_1 + 1))) else (none)) else (none))) else (none)) = some r := H
         have A9 := Aside0.mk A90
         clear A90
         by_cases c10 : t359.size + 1 ≤ 9223372036854775807
         ·rw [if_pos c10] at H
          have c10b0 := eq_true c10
          have c10b1 : decide (t359.size + 1 ≤ 9223372036854775807) = true := decide_eq_true c10
          try have c10b2 : (9223372036854775807 < t359.size + 1) = False := eq_false (Nat.not_lt.2 c10)
          replace H := Option.bind_eq_some_iff.mp H
          obtain ⟨t360, A110, H⟩ := H
          replace H : (if t359.size + 1 + t360.size ≤ 9223372036854775807 then (if x3_2.size + (t359.size + 1 + t360.size) ≤ 9223372036854775807 then (spec_l02MovesText.l0 kj2 l0 (x3_2 ++ ((t359 ++ (⟨#[62]⟩ : ByteArray)) ++ t360)) (wrap64 (x4_1 + 1))) else (none)) else (none)) = some r := H
          have A11 := Aside0.mk A110
          clear A110
          by_cases c12 : t359.size + 1 + t360.size ≤ 9223372036854775807
          ·rw [if_pos c12] at H
           have c12b0 := eq_true c12
           have c12b1 : decide (t359.size + 1 + t360.size ≤ 9223372036854775807) = true := decide_eq_true c12
           try have c12b2 : (9223372036854775807 < t359.size + 1 + t360.size) = False := eq_false (Nat.not_lt.2 c12)
           by_cases c13 : x3_2.size + (t359.size + 1 + t360.size) ≤ 9223372036854775807
           ·rw [if_pos c13] at H
            have c13b0 := eq_true c13
            have c13b1 : decide (x3_2.size + (t359.size + 1 + t360.size) ≤ 9223372036854775807) = true := decide_eq_true c13
            try have c13b2 : (9223372036854775807 < x3_2.size + (t359.size + 1 + t360.size)) = False := eq_false (Nat.not_lt.2 c13)
            have H' := Aside0.mk H
            clear H
            have p357 : 0 ≤ (x4_1 : Int) := asm_
            have q357 : x4_1 < (l0.length : Int) := asm_
            obtain ⟨ad357, e357, hx357_0, hx357_1, hx357_2⟩ := at_T60 HR0.out x4_1 p357 q357
            cases e357
            (try replace hx357_0 := (HB.out.cell (World.block_lt_of_cell? w _ hx357_0)).trans hx357_0)
            (try replace hx357_1 := (HB.out.cell (World.block_lt_of_cell? w _ hx357_1)).trans hx357_1)
            (try replace hx357_2 := (HB.out.cell (World.block_lt_of_cell? w _ hx357_2)).trans hx357_2)
            replace p357 := eq_true p357
            replace q357 := eq_true q357
            try go_wp2_with (first | ((with_reducible refine gate_dst (N := 5) rfl ?_); refine box_event ?hg (N := 5) ?hd (cs := #[.int .i8 0, .int .i8 0, .int .i8 0]) (t := 60) ?hr ?_; (case hd => rfl); (case hg => rfl); (case hr => first | (go_simp; done) | (go_simp; rfl)); intro gb358 hg w14 hbox hb; have n0_ := A_ (below_step (bl_ HB) hb); have n1_ := A_ (hbox); have n2_ := A_ ((by rw [hg]; exact (below_size (bl_ HB)) : w.heap.size ≤ gb358)); have n3_ := n2_; clear HB; have HB := n0_; have BK358 := n1_; have GW358 := n2_; have GE358 := n3_; clear n0_ n1_ n2_ n3_; clear hb hbox hg; obtain ⟨hcz15_0, hcz15_1, hcz15_2, hfz15_0, hfz15_1, hfz15_2⟩ := cl3_ BK358))
            have n0_ : Aside0 ((((w14.setCell ⟨gb358, 0, none⟩ (.int .i8 ((rd_T60 l0 x4_1).f0))).setCell ⟨gb358, 1, none⟩ (.int .i8 ((rd_T60 l0 x4_1).f1))).setCell ⟨gb358, 2, none⟩ (.int .i8 ((rd_T60 l0 x4_1).f2))).heap[gb358]? = some (.cells #[.int .i8 ((rd_T60 l0 x4_1).f0), .int .i8 ((rd_T60 l0 x4_1).f1), .int .i8 ((rd_T60 l0 x4_1).f2)] 60 (0, 0))) := ⟨by (with_reducible repeat (first | refine blk_drewN ?_ _ | refine blk_drew ?_ | refine blk_alloc ?_ _)); refine blk_put (cs := #[.int .i8 ((rd_T60 l0 x4_1).f0), .int .i8 ((rd_T60 l0 x4_1).f1), .int .i8 0]) ?_ 2 _ rfl; (with_reducible repeat (first | refine blk_drewN ?_ _ | refine blk_drew ?_ | refine blk_alloc ?_ _)); refine blk_put (cs := #[.int .i8 ((rd_T60 l0 x4_1).f0), .int .i8 0, .int .i8 0]) ?_ 1 _ rfl; (with_reducible repeat (first | refine blk_drewN ?_ _ | refine blk_drew ?_ | refine blk_alloc ?_ _)); refine blk_put (cs := #[.int .i8 0, .int .i8 0, .int .i8 0]) ?_ 0 _ rfl; (with_reducible repeat (first | refine blk_drewN ?_ _ | refine blk_drew ?_ | refine blk_alloc ?_ _)); exact BK358.out⟩
            have n1_ : Aside0 (Below w.heap.size w (((w14.setCell ⟨gb358, 0, none⟩ (.int .i8 ((rd_T60 l0 x4_1).f0))).setCell ⟨gb358, 1, none⟩ (.int .i8 ((rd_T60 l0 x4_1).f1))).setCell ⟨gb358, 2, none⟩ (.int .i8 ((rd_T60 l0 x4_1).f2)))) := ⟨bs_ HB GE358⟩
            (try clear BK358)
            (try clear HB)
            generalize (((w14.setCell ⟨gb358, 0, none⟩ (.int .i8 ((rd_T60 l0 x4_1).f0))).setCell ⟨gb358, 1, none⟩ (.int .i8 ((rd_T60 l0 x4_1).f1))).setCell ⟨gb358, 2, none⟩ (.int .i8 ((rd_T60 l0 x4_1).f2))) = w16 at n0_ n1_ ⊢
            have BK358 := n0_
            have HB := n1_
            clear n0_ n1_
            have n0_ := A_ (blk_drew BK358.out)
            have n1_ := A_ (below_drew1 HB.out)
            clear BK358
            clear HB
            have BK358 := n0_
            have HB := n1_
            clear n0_ n1_
            refine start_ (n := 11) (S := fun w' => w'.cell? ⟨gb358, 0, none⟩ = some (.int .i8 ((rd_T60 l0 x4_1).f0)) ∧ w'.cell? ⟨gb358, 1, none⟩ = some (.int .i8 ((rd_T60 l0 x4_1).f1)) ∧ w'.cell? ⟨gb358, 2, none⟩ = some (.int .i8 ((rd_T60 l0 x4_1).f2))) (ds := []) #[false, false, false, false, false, false, false, false, false, false, false] (by kernel_rfl) rfl rfl ⟨(blk_cell BK358.out 0).trans rfl, (blk_cell BK358.out 1).trans rfl, (blk_cell BK358.out 2).trans rfl⟩ (fun hHeld => ?_); refine with_tabW spec_l02MovesText.tab10 spec_l02MovesText.bits10 (fun HT_ HW_ => ?_)
            generalize w16.drew = w17 at BK358 HB hHeld ⊢
            refine pure_ (i := 0) (N := some 24) (v := ?_) (a' := ?_) #[true, false, false, false, false, false, false, false, false, false, false] rfl rfl (any_of HT_.out (by kernel_rfl)) (fun _ _ _ h => h) (Or.inl ⟨by rfl, ?_⟩) ?_ ?_
            rotate_left
            ·intro w'
             go_simp
             with_reducible rfl
            rotate_left
            ·simp only [Act.put, sp_]
             rfl
            refine pure_ (i := 1) (N := some 25) (v := ?_) (a' := ?_) #[true, true, false, false, false, false, false, false, false, false, false] rfl rfl (any_of HT_.out (by kernel_rfl)) (fun _ _ _ h => h) (Or.inl ⟨by rfl, ?_⟩) ?_ ?_
            rotate_left
            ·intro w'
             go_simp
             with_reducible rfl
            rotate_left
            ·simp only [Act.put, sp_]
             rfl
            refine pure_ (i := 5) (N := some 29) (v := ?_) (a' := ?_) #[true, true, false, false, false, true, false, false, false, false, false] rfl rfl (any_of HT_.out (by kernel_rfl)) (fun _ _ _ h => h) (Or.inl ⟨by rfl, ?_⟩) ?_ ?_
            rotate_left
            ·intro w'
             go_simp
             with_reducible rfl
            rotate_left
            ·simp only [Act.put, sp_]
             rfl
            refine take_ (i := 2) (N := some 26) (v := ?_) (a' := ?_) #[true, true, true, false, false, true, false, false, false, false, false] rfl rfl (take_ofW HT_.out HW_.out (by kernel_rfl)) (fun _ _ _ h => h) (Or.inl ⟨by rfl, ?_⟩) hHeld ?_ ?_
            rotate_left
            ·rintro w' ⟨s0, s1, s2⟩
             go_simp
             with_reducible rfl
            rotate_left
            ·simp only [Act.put, sp_]
             rfl
            refine take_ (i := 6) (N := some 30) (v := ?_) (a' := ?_) #[true, true, true, false, false, true, true, false, false, false, false] rfl rfl (take_ofW HT_.out HW_.out (by kernel_rfl)) (fun _ _ _ h => h) (Or.inl ⟨by rfl, ?_⟩) hHeld ?_ ?_
            rotate_left
            ·rintro w' ⟨s0, s1, s2⟩
             go_simp
             with_reducible rfl
            rotate_left
            ·simp only [Act.put, sp_]
             rfl
            refine one_ (i := 3) (N := some 27) #[true, true, true, true, false, true, true, false, false, false, false] rfl rfl (one_of HT_.out (by kernel_rfl)) (by decide) (fun K hK => ?_)
            refine goes_ Try.func96 (by kernel_rfl) rfl #[.int .i8 ((rd_T60 l0 x4_1).f1)] (by rfl) rfl rfl arg_ ?_
            with_reducible refine (spec_l02Letter.calls ((rd_T60 l0 x4_1).f1) t359 _ A9.out).mono ?_
            rintro e w18 ⟨rfl, hb⟩
            refine ⟨_, rfl, ?_⟩
            have n0_ := A_ (blk_below (pl_ BK358) hb)
            have n1_ := A_ (below_step (bl_ HB) hb)
            clear BK358
            clear HB
            have BK358 := n0_
            have HB := n1_
            clear n0_ n1_
            (try clear hb)
            (try clear hb2)
            (try clear hk)
            (try clear hi)
            refine hK.out _ _ ⟨(blk_cell BK358.out 0).trans rfl, (blk_cell BK358.out 1).trans rfl, (blk_cell BK358.out 2).trans rfl⟩ (fun hHeld => ?_)
            clear hK K
            refine norm_ (a' := ?_) ?_ ?_
            rotate_left
            ·show Act.put _ (some 27) _ = _
             simp only [Act.put, sp_]
             rfl
            refine pure_ (i := 4) (N := some 28) (v := ?_) (a' := ?_) #[true, true, true, true, true, true, true, false, false, false, false] rfl rfl (any_of HT_.out (by kernel_rfl)) (fun _ _ _ h => h) (Or.inl ⟨by rfl, ?_⟩) ?_ ?_
            rotate_left
            ·intro w'
             go_simp
             with_reducible rfl
            rotate_left
            ·simp only [Act.put, sp_]
             rfl
            refine one_ (i := 7) (N := some 31) #[true, true, true, true, true, true, true, true, false, false, false] rfl rfl (one_of HT_.out (by kernel_rfl)) (by decide) (fun K hK => ?_)
            refine goes_ Try.func96 (by kernel_rfl) rfl #[.int .i8 ((rd_T60 l0 x4_1).f2)] (by rfl) rfl rfl arg_ ?_
            with_reducible refine (spec_l02Letter.calls ((rd_T60 l0 x4_1).f2) t360 _ A11.out).mono ?_
            rintro e w19 ⟨rfl, hb⟩
            refine ⟨_, rfl, ?_⟩
            have n0_ := A_ (blk_below (pl_ BK358) hb)
            have n1_ := A_ (below_step (bl_ HB) hb)
            clear BK358
            clear HB
            have BK358 := n0_
            have HB := n1_
            clear n0_ n1_
            (try clear hb)
            (try clear hb2)
            (try clear hk)
            (try clear hi)
            refine hK.out _ _ ⟨(blk_cell BK358.out 0).trans rfl, (blk_cell BK358.out 1).trans rfl, (blk_cell BK358.out 2).trans rfl⟩ (fun hHeld => ?_)
            clear hK K
            refine norm_ (a' := ?_) ?_ ?_
            rotate_left
            ·show Act.put _ (some 31) _ = _
             simp only [Act.put, sp_]
             rfl
            refine pure_ (i := 8) (N := some 32) (v := ?_) (a' := ?_) #[true, true, true, true, true, true, true, true, true, false, false] rfl rfl (any_of HT_.out (by kernel_rfl)) (fun _ _ _ h => h) (Or.inl ⟨by rfl, ?_⟩) ?_ ?_
            rotate_left
            ·intro w'
             go_simp
             with_reducible rfl
            rotate_left
            ·simp only [Act.put, sp_]
             rfl
            refine pure_ (i := 9) (N := some 33) (v := ?_) (a' := ?_) #[true, true, true, true, true, true, true, true, true, true, false] rfl rfl (any_of HT_.out (by kernel_rfl)) (fun _ _ _ h => h) (Or.inl ⟨by rfl, ?_⟩) ?_ ?_
            rotate_left
            ·intro w'
             go_simp
             with_reducible rfl
            rotate_left
            ·simp only [Act.put, sp_]
             rfl
            refine pure_ (i := 10) (N := some 3) (v := ?_) (a' := ?_) #[true, true, true, true, true, true, true, true, true, true, true] rfl rfl (any_of HT_.out (by kernel_rfl)) (fun _ _ _ h => h) (Or.inl ⟨by rfl, ?_⟩) ?_ ?_
            rotate_left
            ·intro w'
             go_simp
             with_reducible rfl
            rotate_left
            ·simp only [Act.put, sp_]
             rfl
            refine done_ (done_of HT_.out (by kernel_rfl)) ?_
            try go_wp2
            go_roundg kj2
            case measure => have := HK1.out; have := HJ2.out; omega
            case rel => exact ⟨(x3_2 ++ ((t359 ++ (⟨#[62]⟩ : ByteArray)) ++ t360)), (wrap64 (x4_1 + 1)), rs_, rs_, H', ⟨by have := HK1.out; have := HJ2.out; omega⟩, ⟨bl_ HB⟩⟩
           ·rw [if_neg c13] at H
            exact absurd H (by simp)
          ·rw [if_neg c12] at H
           exact absurd H (by simp)
         ·rw [if_neg c10] at H
          exact absurd H (by simp)
        ·rw [if_neg c8] at H
         have c8b0 : (((rd_T60 l0 x4_1).f0) == 0) = false := beq_eq_false_iff_ne.mpr c8
         have c8b1 : (((rd_T60 l0 x4_1).f0) != 0) = true := bne_iff_ne.mpr c8
         by_cases c20 : ((rd_T60 l0 x4_1).f0) = 1
         ·rw [if_pos c20] at H
          have c20b0 : (((rd_T60 l0 x4_1).f0) == 1) = true := beq_iff_eq.mpr c20
          have c20b1 : (((rd_T60 l0 x4_1).f0) != 1) = false := bne_eq_false_iff_eq.mpr c20
          clear c20
          replace H := Option.bind_eq_some_iff.mp H
          obtain ⟨t361, A210, H⟩ := H
          replace H : (if 1 + t361.size ≤ 9223372036854775807 then (if x3_2.size + (1 + t361.size) ≤ 9223372036854775807 then (spec_l02MovesText.l0 kj2 l0 (x3_2 ++ ((⟨#[43]⟩ : ByteArray) ++ t361)) (wrap64 (x4_1 + 1))) else (none)) else (none)) = some r := H
          have A21 := Aside0.mk A210
          clear A210
          by_cases c22 : 1 + t361.size ≤ 9223372036854775807
          ·rw [if_pos c22] at H
           have c22b0 := eq_true c22
           have c22b1 : decide (1 + t361.size ≤ 9223372036854775807) = true := decide_eq_true c22
           try have c22b2 : (9223372036854775807 < 1 + t361.size) = False := eq_false (Nat.not_lt.2 c22)
           by_cases c23 : x3_2.size + (1 + t361.size) ≤ 9223372036854775807
           ·rw [if_pos c23] at H
            have c23b0 := eq_true c23
            have c23b1 : decide (x3_2.size + (1 + t361.size) ≤ 9223372036854775807) = true := decide_eq_true c23
            try have c23b2 : (9223372036854775807 < x3_2.size + (1 + t361.size)) = False := eq_false (Nat.not_lt.2 c23)
            have H' := Aside0.mk H
            clear H
            have p357 : 0 ≤ (x4_1 : Int) := asm_
            have q357 : x4_1 < (l0.length : Int) := asm_
            obtain ⟨ad357, e357, hx357_0, hx357_1, hx357_2⟩ := at_T60 HR0.out x4_1 p357 q357
            cases e357
            (try replace hx357_0 := (HB.out.cell (World.block_lt_of_cell? w _ hx357_0)).trans hx357_0)
            (try replace hx357_1 := (HB.out.cell (World.block_lt_of_cell? w _ hx357_1)).trans hx357_1)
            (try replace hx357_2 := (HB.out.cell (World.block_lt_of_cell? w _ hx357_2)).trans hx357_2)
            replace p357 := eq_true p357
            replace q357 := eq_true q357
            go_wp2_with (first | ((with_reducible refine gate_dst (N := 5) rfl ?_); refine box_event ?hg (N := 5) ?hd (cs := #[.int .i8 0, .int .i8 0, .int .i8 0]) (t := 60) ?hr ?_; (case hd => rfl); (case hg => rfl); (case hr => first | (go_simp; done) | (go_simp; rfl)); intro gb358 hg w24 hbox hb; have n0_ := A_ (below_step (bl_ HB) hb); have n1_ := A_ (hbox); have n2_ := A_ ((by rw [hg]; exact (below_size (bl_ HB)) : w.heap.size ≤ gb358)); have n3_ := n2_; clear HB; have HB := n0_; have BK358 := n1_; have GW358 := n2_; have GE358 := n3_; clear n0_ n1_ n2_ n3_; clear hb hbox hg; obtain ⟨hcz25_0, hcz25_1, hcz25_2, hfz25_0, hfz25_1, hfz25_2⟩ := cl3_ BK358) | ((with_reducible refine gate_callee (f := 96) rfl ?_); refine goesL_ (some 39) rfl rfl Try.func96 (by kernel_rfl) rfl #[.int .i8 ((rd_T60 l0 x4_1).f1)] rfl arg_ ?_; (with_reducible refine (spec_l02Letter.calls ((rd_T60 l0 x4_1).f1) t361 _ A21.out).mono ?_); rintro e w26 ⟨rfl, hb⟩; refine ⟨_, rfl, ?_⟩; have n0_ := A_ (blk_below (g := gb358) (o := .cells #[.int .i8 ((rd_T60 l0 x4_1).f0), .int .i8 ((rd_T60 l0 x4_1).f1), .int .i8 ((rd_T60 l0 x4_1).f2)] 60 (0, 0)) (by (with_reducible repeat (first | refine blk_drewN ?_ _ | refine blk_drew ?_ | refine blk_alloc ?_ _)); refine blk_put (cs := #[.int .i8 ((rd_T60 l0 x4_1).f0), .int .i8 ((rd_T60 l0 x4_1).f1), .int .i8 0]) ?_ 2 _ rfl; (with_reducible repeat (first | refine blk_drewN ?_ _ | refine blk_drew ?_ | refine blk_alloc ?_ _)); refine blk_put (cs := #[.int .i8 ((rd_T60 l0 x4_1).f0), .int .i8 0, .int .i8 0]) ?_ 1 _ rfl; (with_reducible repeat (first | refine blk_drewN ?_ _ | refine blk_drew ?_ | refine blk_alloc ?_ _)); refine blk_put (cs := #[.int .i8 0, .int .i8 0, .int .i8 0]) ?_ 0 _ rfl; (with_reducible repeat (first | refine blk_drewN ?_ _ | refine blk_drew ?_ | refine blk_alloc ?_ _)); exact BK358.out) hb); have n1_ := A_ (below_step (bs_ HB GE358) hb); clear BK358; clear HB; have BK358 := n0_; have HB := n1_; clear n0_ n1_; (try clear hb); (try clear hb2); (try clear hk); (try clear hi)))
            go_roundg kj2
            case measure => have := HK1.out; have := HJ2.out; omega
            case rel => exact ⟨(x3_2 ++ ((⟨#[43]⟩ : ByteArray) ++ t361)), (wrap64 (x4_1 + 1)), rs_, rs_, H', ⟨by have := HK1.out; have := HJ2.out; omega⟩, ⟨bl_ HB⟩⟩
           ·rw [if_neg c23] at H
            exact absurd H (by simp)
          ·rw [if_neg c22] at H
           exact absurd H (by simp)
         ·rw [if_neg c20] at H
          have c20b0 : (((rd_T60 l0 x4_1).f0) == 1) = false := beq_eq_false_iff_ne.mpr c20
          have c20b1 : (((rd_T60 l0 x4_1).f0) != 1) = true := bne_iff_ne.mpr c20
          by_cases c27 : ((rd_T60 l0 x4_1).f0) = 2
          ·rw [if_pos c27] at H
           have c27b0 : (((rd_T60 l0 x4_1).f0) == 2) = true := beq_iff_eq.mpr c27
           have c27b1 : (((rd_T60 l0 x4_1).f0) != 2) = false := bne_eq_false_iff_eq.mpr c27
           clear c27
           replace H := Option.bind_eq_some_iff.mp H
           obtain ⟨t362, A280, H⟩ := H
           replace H : (if 1 + t362.size ≤ 9223372036854775807 then (if x3_2.size + (1 + t362.size) ≤ 9223372036854775807 then (spec_l02MovesText.l0 kj2 l0 (x3_2 ++ ((⟨#[45]⟩ : ByteArray) ++ t362)) (wrap64 (x4_1 + 1))) else (none)) else (none)) = some r := H
           have A28 := Aside0.mk A280
           clear A280
           by_cases c29 : 1 + t362.size ≤ 9223372036854775807
           ·rw [if_pos c29] at H
            have c29b0 := eq_true c29
            have c29b1 : decide (1 + t362.size ≤ 9223372036854775807) = true := decide_eq_true c29
            try have c29b2 : (9223372036854775807 < 1 + t362.size) = False := eq_false (Nat.not_lt.2 c29)
            by_cases c30 : x3_2.size + (1 + t362.size) ≤ 9223372036854775807
            ·rw [if_pos c30] at H
             have c30b0 := eq_true c30
             have c30b1 : decide (x3_2.size + (1 + t362.size) ≤ 9223372036854775807) = true := decide_eq_true c30
             try have c30b2 : (9223372036854775807 < x3_2.size + (1 + t362.size)) = False := eq_false (Nat.not_lt.2 c30)
             have H' := Aside0.mk H
             clear H
             have p357 : 0 ≤ (x4_1 : Int) := asm_
             have q357 : x4_1 < (l0.length : Int) := asm_
             obtain ⟨ad357, e357, hx357_0, hx357_1, hx357_2⟩ := at_T60 HR0.out x4_1 p357 q357
             cases e357
             (try replace hx357_0 := (HB.out.cell (World.block_lt_of_cell? w _ hx357_0)).trans hx357_0)
             (try replace hx357_1 := (HB.out.cell (World.block_lt_of_cell? w _ hx357_1)).trans hx357_1)
             (try replace hx357_2 := (HB.out.cell (World.block_lt_of_cell? w _ hx357_2)).trans hx357_2)
             replace p357 := eq_true p357
             replace q357 := eq_true q357
             go_wp2_with (first | ((with_reducible refine gate_dst (N := 5) rfl ?_); refine box_event ?hg (N := 5) ?hd (cs := #[.int .i8 0, .int .i8 0, .int .i8 0]) (t := 60) ?hr ?_; (case hd => rfl); (case hg => rfl); (case hr => first | (go_simp; done) | (go_simp; rfl)); intro gb358 hg w31 hbox hb; have n0_ := A_ (below_step (bl_ HB) hb); have n1_ := A_ (hbox); have n2_ := A_ ((by rw [hg]; exact (below_size (bl_ HB)) : w.heap.size ≤ gb358)); have n3_ := n2_; clear HB; have HB := n0_; have BK358 := n1_; have GW358 := n2_; have GE358 := n3_; clear n0_ n1_ n2_ n3_; clear hb hbox hg; obtain ⟨hcz32_0, hcz32_1, hcz32_2, hfz32_0, hfz32_1, hfz32_2⟩ := cl3_ BK358) | ((with_reducible refine gate_callee (f := 96) rfl ?_); refine goesL_ (some 47) rfl rfl Try.func96 (by kernel_rfl) rfl #[.int .i8 ((rd_T60 l0 x4_1).f1)] rfl arg_ ?_; (with_reducible refine (spec_l02Letter.calls ((rd_T60 l0 x4_1).f1) t362 _ A28.out).mono ?_); rintro e w33 ⟨rfl, hb⟩; refine ⟨_, rfl, ?_⟩; have n0_ := A_ (blk_below (g := gb358) (o := .cells #[.int .i8 ((rd_T60 l0 x4_1).f0), .int .i8 ((rd_T60 l0 x4_1).f1), .int .i8 ((rd_T60 l0 x4_1).f2)] 60 (0, 0)) (by (with_reducible repeat (first | refine blk_drewN ?_ _ | refine blk_drew ?_ | refine blk_alloc ?_ _)); refine blk_put (cs := #[.int .i8 ((rd_T60 l0 x4_1).f0), .int .i8 ((rd_T60 l0 x4_1).f1), .int .i8 0]) ?_ 2 _ rfl; (with_reducible repeat (first | refine blk_drewN ?_ _ | refine blk_drew ?_ | refine blk_alloc ?_ _)); refine blk_put (cs := #[.int .i8 ((rd_T60 l0 x4_1).f0), .int .i8 0, .int .i8 0]) ?_ 1 _ rfl; (with_reducible repeat (first | refine blk_drewN ?_ _ | refine blk_drew ?_ | refine blk_alloc ?_ _)); refine blk_put (cs := #[.int .i8 0, .int .i8 0, .int .i8 0]) ?_ 0 _ rfl; (with_reducible repeat (first | refine blk_drewN ?_ _ | refine blk_drew ?_ | refine blk_alloc ?_ _)); exact BK358.out) hb); have n1_ := A_ (below_step (bs_ HB GE358) hb); clear BK358; clear HB; have BK358 := n0_; have HB := n1_; clear n0_ n1_; (try clear hb); (try clear hb2); (try clear hk); (try clear hi)))
             go_roundg kj2
             case measure => have := HK1.out; have := HJ2.out; omega
             case rel => exact ⟨(x3_2 ++ ((⟨#[45]⟩ : ByteArray) ++ t362)), (wrap64 (x4_1 + 1)), rs_, rs_, H', ⟨by have := HK1.out; have := HJ2.out; omega⟩, ⟨bl_ HB⟩⟩
            ·rw [if_neg c30] at H
             exact absurd H (by simp)
           ·rw [if_neg c29] at H
            exact absurd H (by simp)
          ·rw [if_neg c27] at H
           have c27b0 : (((rd_T60 l0 x4_1).f0) == 2) = false := beq_eq_false_iff_ne.mpr c27
           have c27b1 : (((rd_T60 l0 x4_1).f0) != 2) = true := bne_iff_ne.mpr c27
           have H' := Aside0.mk H
           clear H
           have p357 : 0 ≤ (x4_1 : Int) := asm_
           have q357 : x4_1 < (l0.length : Int) := asm_
           obtain ⟨ad357, e357, hx357_0, hx357_1, hx357_2⟩ := at_T60 HR0.out x4_1 p357 q357
           cases e357
           (try replace hx357_0 := (HB.out.cell (World.block_lt_of_cell? w _ hx357_0)).trans hx357_0)
           (try replace hx357_1 := (HB.out.cell (World.block_lt_of_cell? w _ hx357_1)).trans hx357_1)
           (try replace hx357_2 := (HB.out.cell (World.block_lt_of_cell? w _ hx357_2)).trans hx357_2)
           replace p357 := eq_true p357
           replace q357 := eq_true q357
           go_wp2_with (first | ((with_reducible refine gate_dst (N := 5) rfl ?_); refine box_event ?hg (N := 5) ?hd (cs := #[.int .i8 0, .int .i8 0, .int .i8 0]) (t := 60) ?hr ?_; (case hd => rfl); (case hg => rfl); (case hr => first | (go_simp; done) | (go_simp; rfl)); intro gb358 hg w34 hbox hb; have n0_ := A_ (below_step (bl_ HB) hb); have n1_ := A_ (hbox); have n2_ := A_ ((by rw [hg]; exact (below_size (bl_ HB)) : w.heap.size ≤ gb358)); have n3_ := n2_; clear HB; have HB := n0_; have BK358 := n1_; have GW358 := n2_; have GE358 := n3_; clear n0_ n1_ n2_ n3_; clear hb hbox hg; obtain ⟨hcz35_0, hcz35_1, hcz35_2, hfz35_0, hfz35_1, hfz35_2⟩ := cl3_ BK358))
           go_roundg kj2
           case measure => have := HK1.out; have := HJ2.out; omega
           case rel => exact ⟨(x3_2), (wrap64 (x4_1 + 1)), rs_, rs_, H', ⟨by have := HK1.out; have := HJ2.out; omega⟩, ⟨bs_ HB GE358⟩⟩
       ·rw [if_neg c7] at H
        exact absurd H (by simp)
      ·rw [if_neg c6] at H
       exact absurd H (by simp)
   ·rw [if_neg c2] at H
    have c2b0 : decide (x4_1 < (l0.length : Int)) = false := decide_eq_false c2
    clear c2
    obtain rfl := Option.some.inj H
    go_wp2
    go_ret
    exact ⟨by first | rfl | (simp [errW_none, errW_some] <;> rfl) | (simp [*, errW_none, errW_some] <;> rfl), bl_ HB⟩

end Go.Proofs.Ytodmfjophjhbeaa.M
