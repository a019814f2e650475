-- By this seat's own program over the kit's printer (arrays, functions told by hand); nothing of it is trusted: the kernel checks it.
import Derived.Test.YtodmfjophjhbeaaDoorMx0
namespace Go.Proofs.YtodmfjophjhbeaaDoor.M
open Go.RowKit Go.Proofs.YtodmfjophjhbeaaDoorW.PrintWords Go.Proofs.YtodmfjophjhbeaaDoorW.PrintLast Go.Proofs.YtodmfjophjhbeaaDoorW.PrintMore
attribute [local go_sem] max2_int min2_int max_two min_two max_three min_three max_four min_four   -- for this text's walks alone
set_option linter.unusedVariables false
set_option linter.unusedSimpArgs false

/-! ### spec_l00In: function 44 -/
def spec_l00In.f (a0 : Int) (a1 : Int) (a2 : Int) : Option (Bool) := if a0 ≥ a1 then (some (decide (a0 ≤ a2))) else (some false)
set_option maxHeartbeats 8000000 in
set_option maxRecDepth 100000 in
theorem spec_l00In.calls (a0 : Int) (a1 : Int) (a2 : Int) (r : Bool) (w : World) (h : spec_l00In.f a0 a1 a2 = some r) :
  Calls Tryd.prog 44 #[.int .i64 a0, .int .i64 a1, .int .i64 a2] w fun e w' => e = .returned (.bool r) ∧ Drawn0 w w' := by
 have H : (if a0 ≥ a1 then (some (decide (a0 ≤ a2))) else (some false)) = some r := h
 clear h
 by_cases c4 : a0 ≥ a1
 ·rw [if_pos c4] at H
  have c4b0 : decide (a1 ≤ a0) = true := decide_eq_true c4
  clear c4
  obtain rfl := Option.some.inj H
  go_enter Tryd.func44, Tryd.ntmps44
  go_wp2
  go_ret
  exact ⟨by first | rfl | (simp; done) | (simp [*]; done), by repeat (first | exact Drawn0.refl _ | apply Drawn0.step)⟩
 ·rw [if_neg c4] at H
  have c4b0 : decide (a1 ≤ a0) = false := decide_eq_false c4
  clear c4
  obtain rfl := Option.some.inj H
  go_enter Tryd.func44, Tryd.ntmps44
  go_wp2
  go_ret
  exact ⟨by first | rfl | (simp; done) | (simp [*]; done), by repeat (first | exact Drawn0.refl _ | apply Drawn0.step)⟩

/-! ### spec_l02Jug: function 45 -/
def spec_l02Jug.f (a0 : Int) : Option (Bool) := (spec_l00In.f (wrap64 (a0)) 0 3).bind fun t113 => (some t113)
set_option maxHeartbeats 8000000 in
set_option maxRecDepth 100000 in
theorem spec_l02Jug.calls (a0 : Int) (r : Bool) (w : World) (h : spec_l02Jug.f a0 = some r) :
  Calls Tryd.prog 45 #[.int .i8 a0] w fun e w' => e = .returned (.bool r) ∧ Drawn0 w w' := by
 have H : ((spec_l00In.f (wrap64 (a0)) 0 3).bind fun t113 => (some t113)) = some r := h
 clear h
 replace H := Option.bind_eq_some_iff.mp H
 obtain ⟨t113, A20, H⟩ := H
 replace H : (some t113) = some r := H
 have A2 := Aside0.mk A20
 clear A20
 obtain rfl := Option.some.inj H
 go_enter Tryd.func45, Tryd.ntmps45
 go_wp2_with (first | ((with_reducible refine gate_callee (f := 44) rfl ?_); refine goesL_ (some 5) rfl rfl Tryd.func44 (by kernel_rfl) rfl #[.int .i64 (wrap64 (a0)), .int .i64 0, .int .i64 3] rfl arg_ ?_; (with_reducible refine (spec_l00In.calls (wrap64 (a0)) 0 3 t113 _ A2.out).mono ?_); rintro e w' ⟨rfl, ⟨nd, rfl⟩⟩; refine ⟨_, rfl, ?_⟩))
 go_ret
 exact ⟨by first | rfl | (simp; done) | (simp [*]; done), by repeat (first | exact Drawn0.refl _ | apply Drawn0.step)⟩

/-! ### spec_l02Moves: function 27 -/
def spec_l02Moves.l0 : Nat → List (S56) → Int → Option (Bool)
 | 0, _, _ => none
 | k + 1, x0, x3 => if x3 < (x0.length : Int) then (if 0 ≤ x3 then ((spec_l00In.f (wrap64 ((rd_T56 x0 x3).f0)) 0 2).bind fun t116 => (if t116 = true then ((spec_l02Jug.f ((rd_T56 x0 x3).f1)).bind fun t117 => (if t117 = true then ((spec_l02Jug.f ((rd_T56 x0 x3).f2)).bind fun t118 => (if t118 = true then (if ((rd_T56 x0 x3).f0) = 0 then (spec_l02Moves.l0 k x0 (wrap64 (x3 + 1))) else (if ((rd_T56 x0 x3).f2) = 0 then (spec_l02Moves.l0 k x0 (wrap64 (x3 + 1))) else (some false))) else (some false))) else (some false))) else (some false))) else (none)) else (some (decide ((x0.length : Int) ≤ 200)))
def spec_l02Moves.f (k : Nat) (l0 : List (S56)) : Option (Bool) := spec_l02Moves.l0 k l0 0
theorem spec_l02Moves.mono_l : ∀ k, (∀ y0 y1, LeO (spec_l02Moves.l0 k y0 y1) (spec_l02Moves.l0 (k + 1) y0 y1))
 | 0 => fun _ _ r h => by simp [spec_l02Moves.l0] at h
 | k + 1 => by
  have ih0 := spec_l02Moves.mono_l k
  ·intro y0 y1
   unfold spec_l02Moves.l0
   repeat' first
   | (with_reducible exact ih0 _ _)
   | (with_reducible exact LeO.refl _)
   | (with_reducible exact LeO.none _)
   | (with_reducible refine LeO.ite ?_ ?_)
   | (with_reducible refine LeO.bind ?_ (fun _ => ?_))
   | exact ih0 _ _
   | exact LeO.none _
   | refine LeO.ite ?_ ?_
   | refine LeO.bind ?_ (fun _ => ?_)
theorem spec_l02Moves.mono : ∀ a0 k, LeO (spec_l02Moves.f k a0) (spec_l02Moves.f (k + 1) a0) := by
 intro a0 k
 have ih0 := spec_l02Moves.mono_l k
 unfold spec_l02Moves.f
 repeat' first
   | (with_reducible exact ih0 _ _)
   | (with_reducible exact LeO.refl _)
   | (with_reducible exact LeO.none _)
   | (with_reducible refine LeO.ite ?_ ?_)
   | (with_reducible refine LeO.bind ?_ (fun _ => ?_))
   | exact ih0 _ _
   | exact LeO.none _
   | refine LeO.ite ?_ ?_
   | refine LeO.bind ?_ (fun _ => ?_)
set_option maxHeartbeats 8000000 in
set_option maxRecDepth 100000 in
theorem spec_l02Moves.calls (k : Nat) (A0 : Option Addr) (c0 : Nat) (l0 : List (S56)) (r : Bool) (w : World) (hr0 : Kd.C k56 w A0 l0.length l0) (hc0 : l0.length ≤ c0) (h : spec_l02Moves.f k l0 = some r) :
  Calls Tryd.prog 27 #[.slice A0 l0.length c0] w fun e w' => e = .returned (.bool r) ∧ Below w.heap.size w w' := by
 have hu56 := Tryd.underlying56
 have HR0 := Aside0.mk hr0
 have HC0 := Aside0.mk hc0
 clear hr0 hc0
 have HB := A_ (Below.refl w.heap.size w)
 have H : (spec_l02Moves.l0 k l0 0) = some r := h
 clear h
 have H' := Aside0.mk H
 clear H
 go_enter Tryd.func27, Tryd.ntmps27
 go_wp2
 go_loopg [3] k (fun kq v3 w' => ∃ (x3_1 : Int), v3 = .int .i64 x3_1 ∧ Aside0 (spec_l02Moves.l0 kq l0 x3_1 = some r) ∧ Aside0 (kq ≤ k) ∧ Aside0 (Below w.heap.size w w'))
 case atStart => exact ⟨(0), rs_, H', ⟨Nat.le_refl _⟩, ⟨bl_ HB⟩⟩
 case round =>
  clear H'
  obtain ⟨x3_1, rfl, HA, HK1, HB⟩ := hrel
  cases gk with
  | zero => exact absurd HA.out (by simp [spec_l02Moves.l0])
  | succ k1 =>
   have H := HA.out
   clear HA
   simp only [spec_l02Moves.l0] at H
   by_cases c2 : x3_1 < (l0.length : Int)
   ·rw [if_pos c2] at H
    have c2b0 : decide (x3_1 < (l0.length : Int)) = true := decide_eq_true c2
    clear c2
    by_cases c3 : 0 ≤ x3_1
    ·rw [if_pos c3] at H
     have c3b0 : decide (0 ≤ x3_1) = true := decide_eq_true c3
     clear c3
     replace H := Option.bind_eq_some_iff.mp H
     obtain ⟨t116, A40, H⟩ := H
     replace H : (if t116 = true then ((spec_l02Jug.f ((rd_T56 l0 x3_1).f1)).bind fun t117 => (if t117 = true then ((spec_l02Jug.f ((rd_T56 l0 x3_1).f2)).bind fun t118 => (if t118 = true then (if ((rd_T56 l0 x3_1).f0) = 0 then (spec_l02Moves.l0 k1 l0 (wrap64 (x3_1 + 1))) else (if ((rd_T56 l0 x3_1).f2) = 0 then (spec_l02Moves.l0 k1 l0 (wrap64 (x3_1 + 1))) else (some false))) else (some false))) else (some false))) else (some false)) = some r := H
     have A4 := Aside0.mk A40
     clear A40
     by_cases c5 : t116 = true
     ·subst c5
      have H1 : ((spec_l02Jug.f ((rd_T56 l0 x3_1).f1)).bind fun t117 => (if t117 = true then ((spec_l02Jug.f ((rd_T56 l0 x3_1).f2)).bind fun t118 => (if t118 = true then (if ((rd_T56 l0 x3_1).f0) = 0 then (spec_l02Moves.l0 k1 l0 (wrap64 (x3_1 + 1))) else (if ((rd_T56 l0 x3_1).f2) = 0 then (spec_l02Moves.l0 k1 l0 (wrap64 (x3_1 + 1))) else (some false))) else (some false))) else (some false))) = some r := by rw [if_pos rfl] at H; exact H
      clear H
      have H := H1
      clear H1
      replace H := Option.bind_eq_some_iff.mp H
      obtain ⟨t117, A60, H⟩ := H
      replace H : (if t117 = true then ((spec_l02Jug.f ((rd_T56 l0 x3_1).f2)).bind fun t118 => (if t118 = true then (if ((rd_T56 l0 x3_1).f0) = 0 then (spec_l02Moves.l0 k1 l0 (wrap64 (x3_1 + 1))) else (if ((rd_T56 l0 x3_1).f2) = 0 then (spec_l02Moves.l0 k1 l0 (wrap64 (x3_1 + 1))) else (some false))) else (some false))) else (some false)) = some r := H
      have A6 := Aside0.mk A60
      clear A60
      by_cases c7 : t117 = true
      ·subst c7
       have H1 : ((spec_l02Jug.f ((rd_T56 l0 x3_1).f2)).bind fun t118 => (if t118 = true then (if ((rd_T56 l0 x3_1).f0) = 0 then (spec_l02Moves.l0 k1 l0 (wrap64 (x3_1 + 1))) else (if ((rd_T56 l0 x3_1).f2) = 0 then (spec_l02Moves.l0 k1 l0 (wrap64 (x3_1 + 1))) else (some false))) else (some false))) = some r := by rw [if_pos rfl] at H; exact H
       clear H
       have H := H1
       clear H1
       replace H := Option.bind_eq_some_iff.mp H
       obtain ⟨t118, A80, H⟩ := H
       replace H : (if t118 = true then (if ((rd_T56 l0 x3_1).f0) = 0 then (spec_l02Moves.l0 k1 l0 (wrap64 (x3_1 + 1))) else (if ((rd_T56 l0 x3_1).f2) = 0 then (spec_l02Moves.l0 k1 l0 (wrap64 (x3_1 + 1))) else (some false))) else (some false)) = some r := H
       have A8 := Aside0.mk A80
       clear A80
       by_cases c9 : t118 = true
       ·subst c9
        have H1 : (if ((rd_T56 l0 x3_1).f0) = 0 then (spec_l02Moves.l0 k1 l0 (wrap64 (x3_1 + 1))) else (if ((rd_T56 l0 x3_1).f2) = 0 then (spec_l02Moves.l0 k1 l0 (wrap64 (x3_1 + 1))) else (some false))) = some r := by rw [if_pos rfl] at H; exact H
        clear H
        have H := H1
        clear H1
        by_cases c10 : ((rd_T56 l0 x3_1).f0) = 0
        ·rw [if_pos c10] at H
         have c10b0 : (((rd_T56 l0 x3_1).f0) == 0) = true := beq_iff_eq.mpr c10
         have c10b1 : (((rd_T56 l0 x3_1).f0) != 0) = false := bne_eq_false_iff_eq.mpr c10
         clear c10
         have H' := Aside0.mk H
         clear H
         have p114 : 0 ≤ (x3_1 : Int) := asm_
         have q114 : x3_1 < (l0.length : Int) := asm_
         obtain ⟨ad114, e114, hx114_0, hx114_1, hx114_2⟩ := at_T56 HR0.out x3_1 p114 q114
         cases e114
         (try replace hx114_0 := (HB.out.cell (World.block_lt_of_cell? w _ hx114_0)).trans hx114_0)
         (try replace hx114_1 := (HB.out.cell (World.block_lt_of_cell? w _ hx114_1)).trans hx114_1)
         (try replace hx114_2 := (HB.out.cell (World.block_lt_of_cell? w _ hx114_2)).trans hx114_2)
         replace p114 := eq_true p114
         replace q114 := eq_true q114
         go_wp2_with (first | ((with_reducible refine gate_dst (N := 4) rfl ?_); refine box_event ?hg (N := 4) ?hd (cs := #[.int .i8 0, .int .i8 0, .int .i8 0]) (t := 56) ?hr ?_; (case hd => rfl); (case hg => rfl); (case hr => first | (go_simp; done) | (go_simp; rfl)); intro gb115 hg w11 hbox hb; have n0_ := A_ (below_step (bl_ HB) hb); have n1_ := A_ (hbox); have n2_ := A_ ((by rw [hg]; exact (below_size (bl_ HB)) : w.heap.size ≤ gb115)); have n3_ := n2_; clear HB; have HB := n0_; have BK115 := n1_; have GW115 := n2_; have GE115 := n3_; clear n0_ n1_ n2_ n3_; clear hb hbox hg; obtain ⟨hcz12_0, hcz12_1, hcz12_2, hfz12_0, hfz12_1, hfz12_2⟩ := cl3_ BK115) | ((with_reducible refine gate_callee (f := 44) rfl ?_); refine goesL_ (some 18) rfl rfl Tryd.func44 (by kernel_rfl) rfl #[.int .i64 (wrap64 ((rd_T56 l0 x3_1).f0)), .int .i64 0, .int .i64 2] rfl arg_ ?_; (with_reducible refine (spec_l00In.calls (wrap64 ((rd_T56 l0 x3_1).f0)) 0 2 true _ A4.out).mono ?_); rintro e w' ⟨rfl, ⟨nd, rfl⟩⟩; refine ⟨_, rfl, ?_⟩) | (go_at_call 45; (with_reducible refine (spec_l02Jug.calls ((rd_T56 l0 x3_1).f1) true _ A6.out).mono ?_); rintro e w' ⟨rfl, ⟨nd, rfl⟩⟩) | (go_at_call 45; (with_reducible refine (spec_l02Jug.calls ((rd_T56 l0 x3_1).f2) true _ A8.out).mono ?_); rintro e w' ⟨rfl, ⟨nd, rfl⟩⟩))
         go_roundg k1
         case measure => have := HK1.out; omega
         case rel => exact ⟨(wrap64 (x3_1 + 1)), rs_, H', ⟨by have := HK1.out; omega⟩, ⟨bs_ HB GE115⟩⟩
        ·rw [if_neg c10] at H
         have c10b0 : (((rd_T56 l0 x3_1).f0) == 0) = false := beq_eq_false_iff_ne.mpr c10
         have c10b1 : (((rd_T56 l0 x3_1).f0) != 0) = true := bne_iff_ne.mpr c10
         by_cases c13 : ((rd_T56 l0 x3_1).f2) = 0
         ·rw [if_pos c13] at H
          have c13b0 : (((rd_T56 l0 x3_1).f2) == 0) = true := beq_iff_eq.mpr c13
          have c13b1 : (((rd_T56 l0 x3_1).f2) != 0) = false := bne_eq_false_iff_eq.mpr c13
          clear c13
          have H' := Aside0.mk H
          clear H
          have p114 : 0 ≤ (x3_1 : Int) := asm_
          have q114 : x3_1 < (l0.length : Int) := asm_
          obtain ⟨ad114, e114, hx114_0, hx114_1, hx114_2⟩ := at_T56 HR0.out x3_1 p114 q114
          cases e114
          (try replace hx114_0 := (HB.out.cell (World.block_lt_of_cell? w _ hx114_0)).trans hx114_0)
          (try replace hx114_1 := (HB.out.cell (World.block_lt_of_cell? w _ hx114_1)).trans hx114_1)
          (try replace hx114_2 := (HB.out.cell (World.block_lt_of_cell? w _ hx114_2)).trans hx114_2)
          replace p114 := eq_true p114
          replace q114 := eq_true q114
          go_wp2_with (first | ((with_reducible refine gate_dst (N := 4) rfl ?_); refine box_event ?hg (N := 4) ?hd (cs := #[.int .i8 0, .int .i8 0, .int .i8 0]) (t := 56) ?hr ?_; (case hd => rfl); (case hg => rfl); (case hr => first | (go_simp; done) | (go_simp; rfl)); intro gb115 hg w14 hbox hb; have n0_ := A_ (below_step (bl_ HB) hb); have n1_ := A_ (hbox); have n2_ := A_ ((by rw [hg]; exact (below_size (bl_ HB)) : w.heap.size ≤ gb115)); have n3_ := n2_; clear HB; have HB := n0_; have BK115 := n1_; have GW115 := n2_; have GE115 := n3_; clear n0_ n1_ n2_ n3_; clear hb hbox hg; obtain ⟨hcz15_0, hcz15_1, hcz15_2, hfz15_0, hfz15_1, hfz15_2⟩ := cl3_ BK115) | ((with_reducible refine gate_callee (f := 44) rfl ?_); refine goesL_ (some 18) rfl rfl Tryd.func44 (by kernel_rfl) rfl #[.int .i64 (wrap64 ((rd_T56 l0 x3_1).f0)), .int .i64 0, .int .i64 2] rfl arg_ ?_; (with_reducible refine (spec_l00In.calls (wrap64 ((rd_T56 l0 x3_1).f0)) 0 2 true _ A4.out).mono ?_); rintro e w' ⟨rfl, ⟨nd, rfl⟩⟩; refine ⟨_, rfl, ?_⟩) | (go_at_call 45; (with_reducible refine (spec_l02Jug.calls ((rd_T56 l0 x3_1).f1) true _ A6.out).mono ?_); rintro e w' ⟨rfl, ⟨nd, rfl⟩⟩) | (go_at_call 45; (with_reducible refine (spec_l02Jug.calls ((rd_T56 l0 x3_1).f2) true _ A8.out).mono ?_); rintro e w' ⟨rfl, ⟨nd, rfl⟩⟩))
          go_roundg k1
          case measure => have := HK1.out; omega
          case rel => exact ⟨(wrap64 (x3_1 + 1)), rs_, H', ⟨by have := HK1.out; omega⟩, ⟨bs_ HB GE115⟩⟩
         ·rw [if_neg c13] at H
          have c13b0 : (((rd_T56 l0 x3_1).f2) == 0) = false := beq_eq_false_iff_ne.mpr c13
          have c13b1 : (((rd_T56 l0 x3_1).f2) != 0) = true := bne_iff_ne.mpr c13
          obtain rfl := Option.some.inj H
          have p114 : 0 ≤ (x3_1 : Int) := asm_
          have q114 : x3_1 < (l0.length : Int) := asm_
          obtain ⟨ad114, e114, hx114_0, hx114_1, hx114_2⟩ := at_T56 HR0.out x3_1 p114 q114
          cases e114
          (try replace hx114_0 := (HB.out.cell (World.block_lt_of_cell? w _ hx114_0)).trans hx114_0)
          (try replace hx114_1 := (HB.out.cell (World.block_lt_of_cell? w _ hx114_1)).trans hx114_1)
          (try replace hx114_2 := (HB.out.cell (World.block_lt_of_cell? w _ hx114_2)).trans hx114_2)
          replace p114 := eq_true p114
          replace q114 := eq_true q114
          go_wp2_with (first | ((with_reducible refine gate_dst (N := 4) rfl ?_); refine box_event ?hg (N := 4) ?hd (cs := #[.int .i8 0, .int .i8 0, .int .i8 0]) (t := 56) ?hr ?_; (case hd => rfl); (case hg => rfl); (case hr => first | (go_simp; done) | (go_simp; rfl)); intro gb115 hg w16 hbox hb; have n0_ := A_ (below_step (bl_ HB) hb); have n1_ := A_ (hbox); have n2_ := A_ ((by rw [hg]; exact (below_size (bl_ HB)) : w.heap.size ≤ gb115)); have n3_ := n2_; clear HB; have HB := n0_; have BK115 := n1_; have GW115 := n2_; have GE115 := n3_; clear n0_ n1_ n2_ n3_; clear hb hbox hg; obtain ⟨hcz17_0, hcz17_1, hcz17_2, hfz17_0, hfz17_1, hfz17_2⟩ := cl3_ BK115) | ((with_reducible refine gate_callee (f := 44) rfl ?_); refine goesL_ (some 18) rfl rfl Tryd.func44 (by kernel_rfl) rfl #[.int .i64 (wrap64 ((rd_T56 l0 x3_1).f0)), .int .i64 0, .int .i64 2] rfl arg_ ?_; (with_reducible refine (spec_l00In.calls (wrap64 ((rd_T56 l0 x3_1).f0)) 0 2 true _ A4.out).mono ?_); rintro e w' ⟨rfl, ⟨nd, rfl⟩⟩; refine ⟨_, rfl, ?_⟩) | (go_at_call 45; (with_reducible refine (spec_l02Jug.calls ((rd_T56 l0 x3_1).f1) true _ A6.out).mono ?_); rintro e w' ⟨rfl, ⟨nd, rfl⟩⟩) | (go_at_call 45; (with_reducible refine (spec_l02Jug.calls ((rd_T56 l0 x3_1).f2) true _ A8.out).mono ?_); rintro e w' ⟨rfl, ⟨nd, rfl⟩⟩))
          go_ret
          exact ⟨by first | rfl | (simp [errW_none, errW_some] <;> rfl) | (simp [*, errW_none, errW_some] <;> rfl), bs_ HB GE115⟩
       ·replace c9 := Bool.eq_false_iff.mpr c9
        subst c9
        have H1 : (some false) = some r := by rw [if_neg (show ¬ (false = true) by decide)] at H; exact H
        clear H
        have H := H1
        clear H1
        obtain rfl := Option.some.inj H
        have p114 : 0 ≤ (x3_1 : Int) := asm_
        have q114 : x3_1 < (l0.length : Int) := asm_
        obtain ⟨ad114, e114, hx114_0, hx114_1, hx114_2⟩ := at_T56 HR0.out x3_1 p114 q114
        cases e114
        (try replace hx114_0 := (HB.out.cell (World.block_lt_of_cell? w _ hx114_0)).trans hx114_0)
        (try replace hx114_1 := (HB.out.cell (World.block_lt_of_cell? w _ hx114_1)).trans hx114_1)
        (try replace hx114_2 := (HB.out.cell (World.block_lt_of_cell? w _ hx114_2)).trans hx114_2)
        replace p114 := eq_true p114
        replace q114 := eq_true q114
        go_wp2_with (first | ((with_reducible refine gate_dst (N := 4) rfl ?_); refine box_event ?hg (N := 4) ?hd (cs := #[.int .i8 0, .int .i8 0, .int .i8 0]) (t := 56) ?hr ?_; (case hd => rfl); (case hg => rfl); (case hr => first | (go_simp; done) | (go_simp; rfl)); intro gb115 hg w18 hbox hb; have n0_ := A_ (below_step (bl_ HB) hb); have n1_ := A_ (hbox); have n2_ := A_ ((by rw [hg]; exact (below_size (bl_ HB)) : w.heap.size ≤ gb115)); have n3_ := n2_; clear HB; have HB := n0_; have BK115 := n1_; have GW115 := n2_; have GE115 := n3_; clear n0_ n1_ n2_ n3_; clear hb hbox hg; obtain ⟨hcz19_0, hcz19_1, hcz19_2, hfz19_0, hfz19_1, hfz19_2⟩ := cl3_ BK115) | ((with_reducible refine gate_callee (f := 44) rfl ?_); refine goesL_ (some 18) rfl rfl Tryd.func44 (by kernel_rfl) rfl #[.int .i64 (wrap64 ((rd_T56 l0 x3_1).f0)), .int .i64 0, .int .i64 2] rfl arg_ ?_; (with_reducible refine (spec_l00In.calls (wrap64 ((rd_T56 l0 x3_1).f0)) 0 2 true _ A4.out).mono ?_); rintro e w' ⟨rfl, ⟨nd, rfl⟩⟩; refine ⟨_, rfl, ?_⟩) | (go_at_call 45; (with_reducible refine (spec_l02Jug.calls ((rd_T56 l0 x3_1).f1) true _ A6.out).mono ?_); rintro e w' ⟨rfl, ⟨nd, rfl⟩⟩) | (go_at_call 45; (with_reducible refine (spec_l02Jug.calls ((rd_T56 l0 x3_1).f2) false _ A8.out).mono ?_); rintro e w' ⟨rfl, ⟨nd, rfl⟩⟩))
        go_ret
        exact ⟨by first | rfl | (simp [errW_none, errW_some] <;> rfl) | (simp [*, errW_none, errW_some] <;> rfl), bs_ HB GE115⟩
      ·replace c7 := Bool.eq_false_iff.mpr c7
       subst c7
       have H1 : (some false) = some r := by rw [if_neg (show ¬ (false = true) by decide)] at H; exact H
       clear H
       have H := H1
       clear H1
       obtain rfl := Option.some.inj H
       have p114 : 0 ≤ (x3_1 : Int) := asm_
       have q114 : x3_1 < (l0.length : Int) := asm_
       obtain ⟨ad114, e114, hx114_0, hx114_1, hx114_2⟩ := at_T56 HR0.out x3_1 p114 q114
       cases e114
       (try replace hx114_0 := (HB.out.cell (World.block_lt_of_cell? w _ hx114_0)).trans hx114_0)
       (try replace hx114_1 := (HB.out.cell (World.block_lt_of_cell? w _ hx114_1)).trans hx114_1)
       (try replace hx114_2 := (HB.out.cell (World.block_lt_of_cell? w _ hx114_2)).trans hx114_2)
       replace p114 := eq_true p114
       replace q114 := eq_true q114
       go_wp2_with (first | ((with_reducible refine gate_dst (N := 4) rfl ?_); refine box_event ?hg (N := 4) ?hd (cs := #[.int .i8 0, .int .i8 0, .int .i8 0]) (t := 56) ?hr ?_; (case hd => rfl); (case hg => rfl); (case hr => first | (go_simp; done) | (go_simp; rfl)); intro gb115 hg w20 hbox hb; have n0_ := A_ (below_step (bl_ HB) hb); have n1_ := A_ (hbox); have n2_ := A_ ((by rw [hg]; exact (below_size (bl_ HB)) : w.heap.size ≤ gb115)); have n3_ := n2_; clear HB; have HB := n0_; have BK115 := n1_; have GW115 := n2_; have GE115 := n3_; clear n0_ n1_ n2_ n3_; clear hb hbox hg; obtain ⟨hcz21_0, hcz21_1, hcz21_2, hfz21_0, hfz21_1, hfz21_2⟩ := cl3_ BK115) | ((with_reducible refine gate_callee (f := 44) rfl ?_); refine goesL_ (some 18) rfl rfl Tryd.func44 (by kernel_rfl) rfl #[.int .i64 (wrap64 ((rd_T56 l0 x3_1).f0)), .int .i64 0, .int .i64 2] rfl arg_ ?_; (with_reducible refine (spec_l00In.calls (wrap64 ((rd_T56 l0 x3_1).f0)) 0 2 true _ A4.out).mono ?_); rintro e w' ⟨rfl, ⟨nd, rfl⟩⟩; refine ⟨_, rfl, ?_⟩) | (go_at_call 45; (with_reducible refine (spec_l02Jug.calls ((rd_T56 l0 x3_1).f1) false _ A6.out).mono ?_); rintro e w' ⟨rfl, ⟨nd, rfl⟩⟩))
       go_ret
       exact ⟨by first | rfl | (simp [errW_none, errW_some] <;> rfl) | (simp [*, errW_none, errW_some] <;> rfl), bs_ HB GE115⟩
     ·replace c5 := Bool.eq_false_iff.mpr c5
      subst c5
      have H1 : (some false) = some r := by rw [if_neg (show ¬ (false = true) by decide)] at H; exact H
      clear H
      have H := H1
      clear H1
      obtain rfl := Option.some.inj H
      have p114 : 0 ≤ (x3_1 : Int) := asm_
      have q114 : x3_1 < (l0.length : Int) := asm_
      obtain ⟨ad114, e114, hx114_0, hx114_1, hx114_2⟩ := at_T56 HR0.out x3_1 p114 q114
      cases e114
      (try replace hx114_0 := (HB.out.cell (World.block_lt_of_cell? w _ hx114_0)).trans hx114_0)
      (try replace hx114_1 := (HB.out.cell (World.block_lt_of_cell? w _ hx114_1)).trans hx114_1)
      (try replace hx114_2 := (HB.out.cell (World.block_lt_of_cell? w _ hx114_2)).trans hx114_2)
      replace p114 := eq_true p114
      replace q114 := eq_true q114
      go_wp2_with (first | ((with_reducible refine gate_dst (N := 4) rfl ?_); refine box_event ?hg (N := 4) ?hd (cs := #[.int .i8 0, .int .i8 0, .int .i8 0]) (t := 56) ?hr ?_; (case hd => rfl); (case hg => rfl); (case hr => first | (go_simp; done) | (go_simp; rfl)); intro gb115 hg w22 hbox hb; have n0_ := A_ (below_step (bl_ HB) hb); have n1_ := A_ (hbox); have n2_ := A_ ((by rw [hg]; exact (below_size (bl_ HB)) : w.heap.size ≤ gb115)); have n3_ := n2_; clear HB; have HB := n0_; have BK115 := n1_; have GW115 := n2_; have GE115 := n3_; clear n0_ n1_ n2_ n3_; clear hb hbox hg; obtain ⟨hcz23_0, hcz23_1, hcz23_2, hfz23_0, hfz23_1, hfz23_2⟩ := cl3_ BK115) | ((with_reducible refine gate_callee (f := 44) rfl ?_); refine goesL_ (some 18) rfl rfl Tryd.func44 (by kernel_rfl) rfl #[.int .i64 (wrap64 ((rd_T56 l0 x3_1).f0)), .int .i64 0, .int .i64 2] rfl arg_ ?_; (with_reducible refine (spec_l00In.calls (wrap64 ((rd_T56 l0 x3_1).f0)) 0 2 false _ A4.out).mono ?_); rintro e w' ⟨rfl, ⟨nd, rfl⟩⟩; refine ⟨_, rfl, ?_⟩))
      go_ret
      exact ⟨by first | rfl | (simp [errW_none, errW_some] <;> rfl) | (simp [*, errW_none, errW_some] <;> rfl), bs_ HB GE115⟩
    ·rw [if_neg c3] at H
     exact absurd H (by simp)
   ·rw [if_neg c2] at H
    have c2b0 : decide (x3_1 < (l0.length : Int)) = false := decide_eq_false c2
    clear c2
    obtain rfl := Option.some.inj H
    go_wp2
    go_ret
    exact ⟨by first | rfl | (simp [errW_none, errW_some] <;> rfl) | (simp [*, errW_none, errW_some] <;> rfl), bl_ HB⟩

end Go.Proofs.YtodmfjophjhbeaaDoor.M
