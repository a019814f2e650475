-- By this seat's own program over the kit's printer (arrays, functions told by hand); nothing of it is trusted: the kernel checks it.
import Derived.Test.YtkieplebdbdigaaMx0
namespace Go.Proofs.Ytkieplebdbdigaa.M
open Go.RowKit Go.Proofs.YtkieplebdbdigaaW.PrintWords Go.Proofs.YtkieplebdbdigaaW.PrintLast Go.Proofs.YtkieplebdbdigaaW.PrintMore
attribute [local go_sem] max2_int min2_int max_two min_two max_three min_three max_four min_four   -- for this text's walks alone
set_option linter.unusedVariables false
set_option linter.unusedSimpArgs false

/-! ### laws_heldWordS: function 27 -/
mutual
def laws_heldWordS.l0 : Nat → List (S41) → Int → Int → Option (Int)
 | 0, _, _, _ => none
 | k + 1, x0, x1, x5 => if x5 < (x0.length : Int) then (laws_heldWordS.l1 k x0 x1 x5 0) else (some x1)
def laws_heldWordS.l1 : Nat → List (S41) → Int → Int → Int → Option (Int)
 | 0, _, _, _, _ => none
 | k + 1, x0, x1, x5, x6 => if x6 < 4 then (if 0 ≤ x5 then (if x5 < (x0.length : Int) then (if 0 ≤ x6 then (if (rd [(rd_T41 x0 x5).f0, (rd_T41 x0 x5).f1, (rd_T41 x0 x5).f2, (rd_T41 x0 x5).f3] x6) = (IntKind.i8.wrap (x1)) then (laws_heldWordS.l1 k x0 (wrap64 (x1 + 1)) x5 (wrap64 (x6 + 1))) else (some (-1))) else (none)) else (none)) else (none)) else (laws_heldWordS.l0 k x0 x1 (wrap64 (x5 + 1)))
end
def laws_heldWordS.f (k : Nat) (l0 : List (S41)) (a1 : Int) : Option (Int) := laws_heldWordS.l0 k l0 a1 0
theorem laws_heldWordS.mono_l : ∀ k, (∀ y0 y1 y2, LeO (laws_heldWordS.l0 k y0 y1 y2) (laws_heldWordS.l0 (k + 1) y0 y1 y2)) ∧ (∀ y0 y1 y2 y3, LeO (laws_heldWordS.l1 k y0 y1 y2 y3) (laws_heldWordS.l1 (k + 1) y0 y1 y2 y3))
 | 0 => ⟨fun _ _ _ r h => by simp [laws_heldWordS.l0] at h, fun _ _ _ _ r h => by simp [laws_heldWordS.l1] at h⟩
 | k + 1 => by
  obtain ⟨ih0, ih1⟩ := laws_heldWordS.mono_l k
  refine ⟨?_, ?_⟩
  ·intro y0 y1 y2
   unfold laws_heldWordS.l0
   repeat' first
   | (with_reducible exact ih0 _ _ _)
   | (with_reducible exact ih1 _ _ _ _)
   | (with_reducible exact LeO.refl _)
   | (with_reducible exact LeO.none _)
   | (with_reducible refine LeO.ite ?_ ?_)
   | (with_reducible refine LeO.bind ?_ (fun _ => ?_))
   | exact ih0 _ _ _
   | exact ih1 _ _ _ _
   | exact LeO.none _
   | refine LeO.ite ?_ ?_
   | refine LeO.bind ?_ (fun _ => ?_)
  ·intro y0 y1 y2 y3
   unfold laws_heldWordS.l1
   repeat' first
   | (with_reducible exact ih0 _ _ _)
   | (with_reducible exact ih1 _ _ _ _)
   | (with_reducible exact LeO.refl _)
   | (with_reducible exact LeO.none _)
   | (with_reducible refine LeO.ite ?_ ?_)
   | (with_reducible refine LeO.bind ?_ (fun _ => ?_))
   | exact ih0 _ _ _
   | exact ih1 _ _ _ _
   | exact LeO.none _
   | refine LeO.ite ?_ ?_
   | refine LeO.bind ?_ (fun _ => ?_)
theorem laws_heldWordS.mono : ∀ a0 a1 k, LeO (laws_heldWordS.f k a0 a1) (laws_heldWordS.f (k + 1) a0 a1) := by
 intro a0 a1 k
 obtain ⟨ih0, ih1⟩ := laws_heldWordS.mono_l k
 unfold laws_heldWordS.f
 repeat' first
   | (with_reducible exact ih0 _ _ _)
   | (with_reducible exact ih1 _ _ _ _)
   | (with_reducible exact LeO.refl _)
   | (with_reducible exact LeO.none _)
   | (with_reducible refine LeO.ite ?_ ?_)
   | (with_reducible refine LeO.bind ?_ (fun _ => ?_))
   | exact ih0 _ _ _
   | exact ih1 _ _ _ _
   | exact LeO.none _
   | refine LeO.ite ?_ ?_
   | refine LeO.bind ?_ (fun _ => ?_)
set_option maxHeartbeats 8000000 in
set_option maxRecDepth 100000 in
theorem laws_heldWordS.calls (k : Nat) (A0 : Option Addr) (c0 : Nat) (l0 : List (S41)) (a1 : Int) (r : Int) (w : World) (hr0 : Kd.C k41 w A0 l0.length l0) (hc0 : l0.length ≤ c0) (h : laws_heldWordS.f k l0 a1 = some r) :
  Calls Try.prog 27 #[.slice A0 l0.length c0, .int .i64 a1] w fun e w' => e = .returned (.int .i64 r) ∧ Drawn0 w w' := by
 have HR0 := Aside0.mk hr0
 have HC0 := Aside0.mk hc0
 clear hr0 hc0
 have H : (laws_heldWordS.l0 k l0 a1 0) = some r := h
 clear h
 have H' := Aside0.mk H
 clear H
 go_enter Try.func27, Try.ntmps27
 go_wp2
 go_loopg [1, 5] k (fun kq v1 v5 w' => ∃ (x1_1 : Int) (x5_1 : Int), v1 = .int .i64 x1_1 ∧ v5 = .int .i64 x5_1 ∧ Aside0 (laws_heldWordS.l0 kq l0 x1_1 x5_1 = some r) ∧ Aside0 (kq ≤ k) ∧ Drawn0 w w')
 case atStart => exact ⟨(a1), (0), rs_, rs_, H', ⟨Nat.le_refl _⟩, by repeat (first | exact Drawn0.refl _ | apply Drawn0.step)⟩
 case round =>
  clear H'
  try clear c2
  try clear p2
  obtain ⟨x1_1, x5_1, rfl, rfl, HA, HK1, ⟨m1, rfl⟩⟩ := hrel
  cases gk with
  | zero => exact absurd HA.out (by simp [laws_heldWordS.l0])
  | succ k1 =>
   have H := HA.out
   clear HA
   simp only [laws_heldWordS.l0] at H
   by_cases c3 : x5_1 < (l0.length : Int)
   ·rw [if_pos c3] at H
    have c3b0 : decide (x5_1 < (l0.length : Int)) = true := decide_eq_true c3
    clear c3
    have H' := Aside0.mk H
    clear H
    go_wp2
    go_loopg [1, 6] k1 (fun kq v1 v6 w' => ∃ (x1_2 : Int) (x6_2 : Int), v1 = .int .i64 x1_2 ∧ v6 = .int .i64 x6_2 ∧ Aside0 (laws_heldWordS.l1 kq l0 x1_2 x5_1 x6_2 = some r) ∧ Aside0 (kq ≤ k1) ∧ Drawn0 w w')
    case atStart => exact ⟨(x1_1), (0), rs_, rs_, H', ⟨Nat.le_refl _⟩, by repeat (first | exact Drawn0.refl _ | apply Drawn0.step)⟩
    case round =>
     clear H'
     try clear c2
     try clear p2
     try clear c3
     try clear c3b0
     try clear p2
     obtain ⟨x1_2, x6_2, rfl, rfl, HA, HK2, ⟨m2, rfl⟩⟩ := hrel
     cases gk with
     | zero => exact absurd HA.out (by simp [laws_heldWordS.l1])
     | succ k2 =>
      have H := HA.out
      clear HA
      simp only [laws_heldWordS.l1] at H
      by_cases c4 : x6_2 < 4
      ·rw [if_pos c4] at H
       have c4b0 : decide (x6_2 < 4) = true := decide_eq_true c4
       clear c4
       by_cases c5 : 0 ≤ x5_1
       ·rw [if_pos c5] at H
        have c5b0 : decide (0 ≤ x5_1) = true := decide_eq_true c5
        clear c5
        by_cases c6 : x5_1 < (l0.length : Int)
        ·rw [if_pos c6] at H
         have c6b0 : decide (x5_1 < (l0.length : Int)) = true := decide_eq_true c6
         clear c6
         by_cases c7 : 0 ≤ x6_2
         ·rw [if_pos c7] at H
          have c7b0 : decide (0 ≤ x6_2) = true := decide_eq_true c7
          clear c7
          by_cases c9 : (rd [(rd_T41 l0 x5_1).f0, (rd_T41 l0 x5_1).f1, (rd_T41 l0 x5_1).f2, (rd_T41 l0 x5_1).f3] x6_2) = (IntKind.i8.wrap (x1_2))
          ·rw [if_pos c9] at H
           have c9b0 : ((rd [(rd_T41 l0 x5_1).f0, (rd_T41 l0 x5_1).f1, (rd_T41 l0 x5_1).f2, (rd_T41 l0 x5_1).f3] x6_2) == (IntKind.i8.wrap (x1_2))) = true := beq_iff_eq.mpr c9
           have c9b1 : ((rd [(rd_T41 l0 x5_1).f0, (rd_T41 l0 x5_1).f1, (rd_T41 l0 x5_1).f2, (rd_T41 l0 x5_1).f3] x6_2) != (IntKind.i8.wrap (x1_2))) = false := bne_eq_false_iff_eq.mpr c9
           clear c9
           have H' := Aside0.mk H
           clear H
           have p201 : 0 ≤ (x5_1 : Int) := asm_
           have q201 : x5_1 < (l0.length : Int) := asm_
           obtain ⟨ad201, e201, hx201_0, hx201_1, hx201_2, hx201_3⟩ := at_T41 HR0.out x5_1 p201 q201
           cases e201
           replace p201 := eq_true p201
           replace q201 := eq_true q201
           have p8 : 0 ≤ (x6_2 : Int) := asm_
           have q8 : (x6_2 : Int) < 4 := asm_
           have hx8 : ∀ W_ : World, (W_.cell? (ad201.add ((x5_1).toNat * 4)) = some (.int .i8 ((rd_T41 l0 x5_1).f0)) ∧ W_.cell? ⟨(ad201.add ((x5_1).toNat * 4)).block, (ad201.add ((x5_1).toNat * 4)).off + 1, none⟩ = some (.int .i8 ((rd_T41 l0 x5_1).f1)) ∧ W_.cell? ⟨(ad201.add ((x5_1).toNat * 4)).block, (ad201.add ((x5_1).toNat * 4)).off + 2, none⟩ = some (.int .i8 ((rd_T41 l0 x5_1).f2)) ∧ W_.cell? ⟨(ad201.add ((x5_1).toNat * 4)).block, (ad201.add ((x5_1).toNat * 4)).off + 3, none⟩ = some (.int .i8 ((rd_T41 l0 x5_1).f3))) → W_.cell? (Addr.add (ad201.add ((x5_1).toNat * 4)) (x6_2 : Int).toNat) = some (.int .i8 (rd [(rd_T41 l0 x5_1).f0, (rd_T41 l0 x5_1).f1, (rd_T41 l0 x5_1).f2, (rd_T41 l0 x5_1).f3] x6_2)) := fun W_ ⟨y0_, y1_, y2_, y3_⟩ => ard_at (k := .i8) (l := [(rd_T41 l0 x5_1).f0, (rd_T41 l0 x5_1).f1, (rd_T41 l0 x5_1).f2, (rd_T41 l0 x5_1).f3]) (a := (ad201.add ((x5_1).toNat * 4))) (fun n_ x_ h_ => by match n_, h_ with | 0, h_ => (cases h_; exact y0_) | 1, h_ => (cases h_; exact y1_) | 2, h_ => (cases h_; exact y2_) | 3, h_ => (cases h_; exact y3_) | n_ + 4, h_ => simp at h_) p8 q8
           replace hx8 := hx8 _ ⟨hx201_0, hx201_1, hx201_2, hx201_3⟩
           replace p8 := eq_true p8
           replace q8 := eq_true q8
           go_wp2
           go_roundg k2
           case measure => have := HK1.out; have := HK2.out; omega
           case rel => exact ⟨(wrap64 (x1_2 + 1)), (wrap64 (x6_2 + 1)), rs_, rs_, H', ⟨by have := HK1.out; have := HK2.out; omega⟩, by repeat (first | exact Drawn0.refl _ | apply Drawn0.step)⟩
          ·rw [if_neg c9] at H
           have c9b0 : ((rd [(rd_T41 l0 x5_1).f0, (rd_T41 l0 x5_1).f1, (rd_T41 l0 x5_1).f2, (rd_T41 l0 x5_1).f3] x6_2) == (IntKind.i8.wrap (x1_2))) = false := beq_eq_false_iff_ne.mpr c9
           have c9b1 : ((rd [(rd_T41 l0 x5_1).f0, (rd_T41 l0 x5_1).f1, (rd_T41 l0 x5_1).f2, (rd_T41 l0 x5_1).f3] x6_2) != (IntKind.i8.wrap (x1_2))) = true := bne_iff_ne.mpr c9
           obtain rfl := Option.some.inj H
           have p201 : 0 ≤ (x5_1 : Int) := asm_
           have q201 : x5_1 < (l0.length : Int) := asm_
           obtain ⟨ad201, e201, hx201_0, hx201_1, hx201_2, hx201_3⟩ := at_T41 HR0.out x5_1 p201 q201
           cases e201
           replace p201 := eq_true p201
           replace q201 := eq_true q201
           have p8 : 0 ≤ (x6_2 : Int) := asm_
           have q8 : (x6_2 : Int) < 4 := asm_
           have hx8 : ∀ W_ : World, (W_.cell? (ad201.add ((x5_1).toNat * 4)) = some (.int .i8 ((rd_T41 l0 x5_1).f0)) ∧ W_.cell? ⟨(ad201.add ((x5_1).toNat * 4)).block, (ad201.add ((x5_1).toNat * 4)).off + 1, none⟩ = some (.int .i8 ((rd_T41 l0 x5_1).f1)) ∧ W_.cell? ⟨(ad201.add ((x5_1).toNat * 4)).block, (ad201.add ((x5_1).toNat * 4)).off + 2, none⟩ = some (.int .i8 ((rd_T41 l0 x5_1).f2)) ∧ W_.cell? ⟨(ad201.add ((x5_1).toNat * 4)).block, (ad201.add ((x5_1).toNat * 4)).off + 3, none⟩ = some (.int .i8 ((rd_T41 l0 x5_1).f3))) → W_.cell? (Addr.add (ad201.add ((x5_1).toNat * 4)) (x6_2 : Int).toNat) = some (.int .i8 (rd [(rd_T41 l0 x5_1).f0, (rd_T41 l0 x5_1).f1, (rd_T41 l0 x5_1).f2, (rd_T41 l0 x5_1).f3] x6_2)) := fun W_ ⟨y0_, y1_, y2_, y3_⟩ => ard_at (k := .i8) (l := [(rd_T41 l0 x5_1).f0, (rd_T41 l0 x5_1).f1, (rd_T41 l0 x5_1).f2, (rd_T41 l0 x5_1).f3]) (a := (ad201.add ((x5_1).toNat * 4))) (fun n_ x_ h_ => by match n_, h_ with | 0, h_ => (cases h_; exact y0_) | 1, h_ => (cases h_; exact y1_) | 2, h_ => (cases h_; exact y2_) | 3, h_ => (cases h_; exact y3_) | n_ + 4, h_ => simp at h_) p8 q8
           replace hx8 := hx8 _ ⟨hx201_0, hx201_1, hx201_2, hx201_3⟩
           replace p8 := eq_true p8
           replace q8 := eq_true q8
           go_wp2
           go_ret
           exact ⟨by first | rfl | (simp; done) | (simp [*]; done), by repeat (first | exact Drawn0.refl _ | apply Drawn0.step)⟩
         ·rw [if_neg c7] at H
          exact absurd H (by simp)
        ·rw [if_neg c6] at H
         exact absurd H (by simp)
       ·rw [if_neg c5] at H
        exact absurd H (by simp)
      ·rw [if_neg c4] at H
       have c4b0 : decide (x6_2 < 4) = false := decide_eq_false c4
       clear c4
       have H' := Aside0.mk H
       clear H
       go_wp2
       go_roundg k2
       case measure => have := HK1.out; have := HK2.out; omega
       case rel => exact ⟨(x1_2), (wrap64 (x5_1 + 1)), rs_, rs_, H', ⟨by have := HK1.out; have := HK2.out; omega⟩, by repeat (first | exact Drawn0.refl _ | apply Drawn0.step)⟩
   ·rw [if_neg c3] at H
    have c3b0 : decide (x5_1 < (l0.length : Int)) = false := decide_eq_false c3
    clear c3
    obtain rfl := Option.some.inj H
    go_wp2
    go_ret
    exact ⟨by first | rfl | (simp; done) | (simp [*]; done), by repeat (first | exact Drawn0.refl _ | apply Drawn0.step)⟩

/-! ### laws_heldFixed: function 11 -/
def laws_heldFixed.f (k : Nat) (a0_0 : Int) (a0_1 : Int) (l0_2 : List (S41)) (a1 : Int) : Option (Int) := (laws_heldWordS.f k l0_2 a1).bind fun t203 => (if t203 < 0 then (some (-1)) else (some t203))
theorem laws_heldFixed.mono : ∀ a0 a1 a2 a3 k, LeO (laws_heldFixed.f k a0 a1 a2 a3) (laws_heldFixed.f (k + 1) a0 a1 a2 a3) := by
 intro a0 a1 a2 a3 k
 unfold laws_heldFixed.f
 repeat' first
   | (with_reducible exact laws_heldWordS.mono _ _ _)
   | (with_reducible exact LeO.refl _)
   | (with_reducible exact LeO.none _)
   | (with_reducible refine LeO.ite ?_ ?_)
   | (with_reducible refine LeO.bind ?_ (fun _ => ?_))
   | exact laws_heldWordS.mono _ _ _
   | exact LeO.none _
   | refine LeO.ite ?_ ?_
   | refine LeO.bind ?_ (fun _ => ?_)
set_option maxHeartbeats 8000000 in
set_option maxRecDepth 100000 in
theorem laws_heldFixed.calls (k : Nat) (a0_0 : Int) (a0_1 : Int) (A0_2 : Option Addr) (c0_2 : Nat) (l0_2 : List (S41)) (a1 : Int) (r : Int) (w : World) (hr0_2 : Kd.C k41 w A0_2 l0_2.length l0_2) (hc0_2 : l0_2.length ≤ c0_2) (h : laws_heldFixed.f k a0_0 a0_1 l0_2 a1 = some r) :
  Calls Try.prog 11 #[.agg #[.int .i8 a0_0, .int .i8 a0_1, .slice A0_2 l0_2.length c0_2], .int .i64 a1] w fun e w' => e = .returned (.int .i64 r) ∧ Below w.heap.size w w' := by
 have hu29 := Try.underlying29
 have HR0_2 := Aside0.mk hr0_2
 have HC0_2 := Aside0.mk hc0_2
 clear hr0_2 hc0_2
 have HB := A_ (Below.refl w.heap.size w)
 have H : ((laws_heldWordS.f k l0_2 a1).bind fun t203 => (if t203 < 0 then (some (-1)) else (some t203))) = some r := h
 clear h
 replace H := Option.bind_eq_some_iff.mp H
 obtain ⟨t203, A30, H⟩ := H
 replace H : (if t203 < 0 then (some (-1)) else (some t203)) = some r := H
 have A3 := Aside0.mk A30
 clear A30
 by_cases c4 : t203 < 0
 ·rw [if_pos c4] at H
  have c4b0 : decide (t203 < 0) = true := decide_eq_true c4
  clear c4
  obtain rfl := Option.some.inj H
  go_enter Try.func11, Try.ntmps11
  go_wp2_with (first | ((with_reducible refine gate_dst (N := 2) rfl ?_); refine box_event ?hg (N := 2) ?hd (cs := #[.int .i8 a0_0, .int .i8 a0_1, .slice A0_2 l0_2.length c0_2]) (t := 29) ?hr ?_; (case hd => rfl); (case hg => rfl); (case hr => first | (go_simp; done) | (go_simp; rfl)); intro gb202 hg w5 hbox hb; have n0_ := A_ (below_step (bl_ HB) hb); have n1_ := A_ (hbox); have n2_ := A_ ((by rw [hg]; exact (below_size (bl_ HB)) : w.heap.size ≤ gb202)); have n3_ := n2_; clear HB; have HB := n0_; have BK202 := n1_; have GW202 := n2_; have GE202 := n3_; clear n0_ n1_ n2_ n3_; clear hb hbox hg; obtain ⟨hcz6_0, hcz6_1, hcz6_2, hfz6_0, hfz6_1, hfz6_2⟩ := cl3_ BK202) | ((with_reducible refine gate_callee (f := 27) rfl ?_); refine goesL_ (some 8) rfl rfl Try.func27 (by kernel_rfl) rfl #[.slice A0_2 l0_2.length c0_2, .int .i64 a1] rfl arg_ ?_; (with_reducible refine (laws_heldWordS.calls k _ _ l0_2 a1 t203 _ ?side1 ?side2 A3.out).mono ?_); (case side1 => exact Kd.C_below HR0_2.out (bl_ HB)); (case side2 => exact HC0_2.out); rintro e w' ⟨rfl, ⟨nd, rfl⟩⟩; refine ⟨_, rfl, ?_⟩))
  go_ret
  exact ⟨by first | rfl | (simp [errW_none, errW_some] <;> rfl) | (simp [*, errW_none, errW_some] <;> rfl), bl_ HB⟩
 ·rw [if_neg c4] at H
  have c4b0 : decide (t203 < 0) = false := decide_eq_false c4
  clear c4
  obtain rfl := Option.some.inj H
  go_enter Try.func11, Try.ntmps11
  go_wp2_with (first | ((with_reducible refine gate_dst (N := 2) rfl ?_); refine box_event ?hg (N := 2) ?hd (cs := #[.int .i8 a0_0, .int .i8 a0_1, .slice A0_2 l0_2.length c0_2]) (t := 29) ?hr ?_; (case hd => rfl); (case hg => rfl); (case hr => first | (go_simp; done) | (go_simp; rfl)); intro gb202 hg w7 hbox hb; have n0_ := A_ (below_step (bl_ HB) hb); have n1_ := A_ (hbox); have n2_ := A_ ((by rw [hg]; exact (below_size (bl_ HB)) : w.heap.size ≤ gb202)); have n3_ := n2_; clear HB; have HB := n0_; have BK202 := n1_; have GW202 := n2_; have GE202 := n3_; clear n0_ n1_ n2_ n3_; clear hb hbox hg; obtain ⟨hcz8_0, hcz8_1, hcz8_2, hfz8_0, hfz8_1, hfz8_2⟩ := cl3_ BK202) | ((with_reducible refine gate_callee (f := 27) rfl ?_); refine goesL_ (some 8) rfl rfl Try.func27 (by kernel_rfl) rfl #[.slice A0_2 l0_2.length c0_2, .int .i64 a1] rfl arg_ ?_; (with_reducible refine (laws_heldWordS.calls k _ _ l0_2 a1 t203 _ ?side1 ?side2 A3.out).mono ?_); (case side1 => exact Kd.C_below HR0_2.out (bl_ HB)); (case side2 => exact HC0_2.out); rintro e w' ⟨rfl, ⟨nd, rfl⟩⟩; refine ⟨_, rfl, ?_⟩))
  go_ret
  exact ⟨by first | rfl | (simp [errW_none, errW_some] <;> rfl) | (simp [*, errW_none, errW_some] <;> rfl), bl_ HB⟩

end Go.Proofs.Ytkieplebdbdigaa.M
