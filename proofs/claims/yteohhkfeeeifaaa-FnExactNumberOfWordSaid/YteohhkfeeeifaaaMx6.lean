-- By this seat's own program over the kit's printer (arrays, functions told by hand); nothing of it is trusted: the kernel checks it.
import Derived.Test.YteohhkfeeeifaaaMx0
import Derived.Test.YteohhkfeeeifaaaMx2
import Derived.Test.YteohhkfeeeifaaaMx4
import Derived.Test.YteohhkfeeeifaaaMx5
namespace Go.Proofs.Yteohhkfeeeifaaa.M
open Go.RowKit Go.Proofs.YteohhkfeeeifaaaW.PrintWords Go.Proofs.YteohhkfeeeifaaaW.PrintLast Go.Proofs.YteohhkfeeeifaaaW.PrintMore
attribute [local go_sem] max2_int min2_int max_two min_two max_three min_three max_four min_four   -- for this text's walks alone
set_option linter.unusedVariables false
set_option linter.unusedSimpArgs false

/-! ### impl_numberOf: function 44 -/
def impl_numberOf.l0 : Nat → Int → List Int → Int → Int → Option (Int)
 | 0, _, _, _, _ => none
 | k + 1, x5, x9, x10, x11 => if x11 < x10 then (if 0 ≤ x11 then (if x11 < (x9.length : Int) then (impl_numberOf.l0 k (wrap64 ((wrap64 ((wrap64 (3 * x5)) + (wrap64 (rd x9 x11)))) + 1)) x9 x10 (wrap64 (x11 + 1))) else (none)) else (none)) else (some x5)
def impl_numberOf.f (k : Nat) (a0 : Int) (a1_0 : Int) (a1_1 : Int) (a1_2 : Int) (a1_3 : Int) : Option (Int) := if 0 ≤ a0 then (if a0 ≤ 4 then ((some ([a1_0, a1_1, a1_2, a1_3].take (a0 : Int).toNat : List Int)).bind fun y122 => (impl_numberOf.l0 k 0 y122 (y122.length : Int) 0)) else (none)) else (none)
theorem impl_numberOf.mono_l : ∀ k, (∀ y0 y1 y2 y3, LeO (impl_numberOf.l0 k y0 y1 y2 y3) (impl_numberOf.l0 (k + 1) y0 y1 y2 y3))
 | 0 => fun _ _ _ _ r h => by simp [impl_numberOf.l0] at h
 | k + 1 => by
  have ih0 := impl_numberOf.mono_l k
  ·intro y0 y1 y2 y3
   unfold impl_numberOf.l0
   repeat' first
   | (with_reducible exact ih0 _ _ _ _)
   | (with_reducible exact LeO.refl _)
   | (with_reducible exact LeO.none _)
   | (with_reducible refine LeO.ite ?_ ?_)
   | (with_reducible refine LeO.bind ?_ (fun _ => ?_))
   | exact ih0 _ _ _ _
   | exact LeO.none _
   | refine LeO.ite ?_ ?_
   | refine LeO.bind ?_ (fun _ => ?_)
theorem impl_numberOf.mono : ∀ a0 a1 a2 a3 a4 k, LeO (impl_numberOf.f k a0 a1 a2 a3 a4) (impl_numberOf.f (k + 1) a0 a1 a2 a3 a4) := by
 intro a0 a1 a2 a3 a4 k
 have ih0 := impl_numberOf.mono_l k
 unfold impl_numberOf.f
 repeat' first
   | (with_reducible exact ih0 _ _ _ _)
   | (with_reducible exact LeO.refl _)
   | (with_reducible exact LeO.none _)
   | (with_reducible refine LeO.ite ?_ ?_)
   | (with_reducible refine LeO.bind ?_ (fun _ => ?_))
   | exact ih0 _ _ _ _
   | exact LeO.none _
   | refine LeO.ite ?_ ?_
   | refine LeO.bind ?_ (fun _ => ?_)
set_option maxHeartbeats 8000000 in
set_option maxRecDepth 100000 in
theorem impl_numberOf.calls (k : Nat) (a0 : Int) (a1_0 : Int) (a1_1 : Int) (a1_2 : Int) (a1_3 : Int) (r : Int) (w : World) (h : impl_numberOf.f k a0 a1_0 a1_1 a1_2 a1_3 = some r) :
  Calls Try.prog 44 #[.int .i64 a0, .agg #[.int .i8 a1_0, .int .i8 a1_1, .int .i8 a1_2, .int .i8 a1_3]] w fun e w' => e = .returned (.int .i64 r) ∧ Below w.heap.size w w' := by
 have hu24 := Try.underlying24
 have HB := Aside0.mk (Below.refl w.heap.size w)
 have H : (if 0 ≤ a0 then (if a0 ≤ 4 then ((some ([a1_0, a1_1, a1_2, a1_3].take (a0 : Int).toNat : List Int)).bind fun y122 => (impl_numberOf.l0 k 0 y122 (y122.length : Int) 0)) else (none)) else (none)) = some r := h
 clear h
 by_cases c3 : 0 ≤ a0
 ·rw [if_pos c3] at H
  have c3b0 := eq_true c3
  have c3b1 : decide (0 ≤ a0) = true := decide_eq_true c3
  clear c3
  by_cases c4 : a0 ≤ 4
  ·rw [if_pos c4] at H
   have c4b0 := eq_true c4
   have c4b1 : decide (a0 ≤ 4) = true := decide_eq_true c4
   clear c4
   obtain ⟨y122, hy122⟩ : ∃ y_ : List Int, y_ = ([a1_0, a1_1, a1_2, a1_3].take (a0 : Int).toNat) := ⟨_, rfl⟩
   replace H : (impl_numberOf.l0 k 0 y122 (y122.length : Int) 0) = some r := by first | (rw [hy122]; with_reducible exact H) | (have H2_ := (Option.bind_some _ _).symm.trans H; rw [hy122]; with_reducible exact H2_) | (have H2_ := (Option.bind_some _ _).symm.trans H; with_reducible exact H2_) | with_reducible exact H | (rw [hy122]; exact H) | exact H
   have Ny122 := Aside0.mk hy122
   clear hy122
   have H' := Aside0.mk H
   clear H
   go_enter Try.func44, Try.ntmps44
   go_wp2_with (first | ((with_reducible refine gate_dst (N := 3) rfl ?_); refine box_event ?hg (N := 3) ?hd (cs := #[.int .i8 a1_0, .int .i8 a1_1, .int .i8 a1_2, .int .i8 a1_3]) (t := 24) ?hr ?_; (case hd => rfl); (case hg => rfl); (case hr => first | (go_simp; done) | (go_simp; rfl)); intro gb121 hg w5 hbox hb; have n0_ := Aside0.mk (below_step (bl_ HB) hb); have n1_ := Aside0.mk (hbox); have n2_ := Aside0.mk ((by rw [hg]; exact (below_size (bl_ HB)) : w.heap.size ≤ gb121)); have n3_ := Aside0.mk ((by rw [hg]; exact (below_size (bl_ HB)) : w.heap.size ≤ gb121)); clear HB; have HB := n0_; have BK121 := n1_; have GW121 := n2_; have GE121 := n3_; clear n0_ n1_ n2_ n3_; clear hb hbox hg; have p6 : (0 : Int) ≤ (a0 : Int) := asm_; have q6 : (a0 : Int) ≤ 4 := asm_; have hcut6 := arr_cut (P := Try.prog) (t := 24) (e := 22) Try.underlying24 (by kernel_rfl) ⟨gb121, 0, none⟩ .i64 (a0 : Int) p6 q6; have hr6 := arr_C (k := .i8) (l := [a1_0, a1_1, a1_2, a1_3]) (o := 0) BK121.out rfl (by simp) (a0 : Int).toNat (by simp; omega); have hy6 : y122.length = (a0 : Int).toNat := (by rw [Ny122.out]; simp; omega); rw [← Ny122.out] at hr6; rw [← hy6] at hcut6; have HR125 := Aside0.mk hr6; have HC125 := Aside0.mk (show y122.length ≤ 4 from by omega); clear hr6 hy6; replace p6 := eq_true p6; replace q6 := eq_true q6))
   go_loopg [5, 11] k (fun kq v5 v11 w' => ∃ (x5_1 : Int) (x11_1 : Int), v5 = .int .i64 x5_1 ∧ v11 = .int .i64 x11_1 ∧ Aside0 (impl_numberOf.l0 kq x5_1 y122 (y122.length : Int) x11_1 = some r) ∧ Aside0 (kq ≤ k) ∧ Aside0 (w'.heap[gb121]? = some (.cells #[.int .i8 a1_0, .int .i8 a1_1, .int .i8 a1_2, .int .i8 a1_3] 24 (0, 0))) ∧ Aside0 (Kd.C (Kd.int .i8) w' (some ⟨gb121, 0, none⟩) y122.length y122) ∧ Aside0 (Below w.heap.size w w'))
   case atStart => exact ⟨(0), (0), (by first | rfl | (simp; done) | (simp [*]; done)), (by first | rfl | (simp; done) | (simp [*]; done)), H', ⟨Nat.le_refl _⟩, ⟨pl_ BK121⟩, ⟨by repeat (first | (with_reducible exact HR125.out) | (with_reducible refine Kd.C_alloc ?_ _) | (with_reducible refine Kd.C_drewN ?_ _) | (with_reducible refine Kd.C_drew ?_) | exact HR125.out)⟩, ⟨by repeat (first | (with_reducible first | exact HB.out | apply below_alloc | apply pw_below_drewN | apply below_drew1 | refine below_set ?_ GE121.out) | exact HB.out)⟩⟩
   case round =>
    clear H'
    try clear p2
    try clear c3
    try clear c3b0
    try clear c3b1
    try clear c4
    try clear c4b0
    try clear c4b1
    try clear p6
    try clear q6
    try clear p6
    try clear q6
    obtain ⟨x5_1, x11_1, rfl, rfl, HA, HK1, BK121, HR125, HB⟩ := hrel
    cases gk with
    | zero => exact absurd HA.out (by simp [impl_numberOf.l0])
    | succ k1 =>
     have H := HA.out
     clear HA
     simp only [impl_numberOf.l0] at H
     by_cases c7 : x11_1 < (y122.length : Int)
     ·rw [if_pos c7] at H
      have c7b0 : decide (x11_1 < (y122.length : Int)) = true := decide_eq_true c7
      clear c7
      by_cases c8 : 0 ≤ x11_1
      ·rw [if_pos c8] at H
       have c8b0 : decide (0 ≤ x11_1) = true := decide_eq_true c8
       clear c8
       by_cases c9 : x11_1 < (y122.length : Int)
       ·rw [if_pos c9] at H
        have c9b0 : decide (x11_1 < (y122.length : Int)) = true := decide_eq_true c9
        clear c9
        have H' := Aside0.mk H
        clear H
        have p126 : 0 ≤ (x11_1 : Int) := asm_
        have q126 : x11_1 < (y122.length : Int) := asm_
        obtain ⟨ad126, e126, hx126_0⟩ := Kd.at_int HR125.out x11_1 p126 q126
        obtain rfl : ⟨gb121, 0, none⟩ = ad126 := (by injection e126)
        (first | simp only [add_plain] at hx126_0 | simp only [add_at] at hx126_0 | simp only [Addr.add, Nat.zero_add] at hx126_0 | skip)
        (try replace hx126_0 := (HB.out.cell (World.block_lt_of_cell? w _ hx126_0)).trans hx126_0)
        replace p126 := eq_true p126
        replace q126 := eq_true q126
        go_wp2
        go_roundg k1
        case measure => have := HK1.out; omega
        case rel => exact ⟨(wrap64 ((wrap64 ((wrap64 (3 * x5_1)) + (wrap64 (rd y122 x11_1)))) + 1)), (wrap64 (x11_1 + 1)), (by first | rfl | (simp; done) | (simp [*]; done)), (by first | rfl | (simp; done) | (simp [*]; done)), H', ⟨by have := HK1.out; omega⟩, ⟨pl_ BK121⟩, ⟨by repeat (first | (with_reducible exact HR125.out) | (with_reducible refine Kd.C_alloc ?_ _) | (with_reducible refine Kd.C_drewN ?_ _) | (with_reducible refine Kd.C_drew ?_) | exact HR125.out)⟩, ⟨by repeat (first | (with_reducible first | exact HB.out | apply below_alloc | apply pw_below_drewN | apply below_drew1 | refine below_set ?_ GE121.out) | exact HB.out)⟩⟩
       ·rw [if_neg c9] at H
        exact absurd H (by simp)
      ·rw [if_neg c8] at H
       exact absurd H (by simp)
     ·rw [if_neg c7] at H
      have c7b0 : decide (x11_1 < (y122.length : Int)) = false := decide_eq_false c7
      clear c7
      obtain rfl := Option.some.inj H
      go_wp2
      go_ret
      exact ⟨by first | rfl | (simp [errW_none, errW_some] <;> rfl) | (simp [*, errW_none, errW_some] <;> rfl), by repeat (first | (with_reducible first | exact HB.out | apply below_alloc | apply pw_below_drewN | apply below_drew1 | refine below_set ?_ GE121.out) | exact HB.out)⟩
  ·rw [if_neg c4] at H
   exact absurd H (by simp)
 ·rw [if_neg c3] at H
  exact absurd H (by simp)

/-! ### impl_NumberOfWord: function 21 -/
def impl_NumberOfWord.f (k : Nat) (a0 : Int) (a1_0 : Int) (a1_1 : Int) (a1_2 : Int) (a1_3 : Int) : Option (Int × Int) := (impl_wordCode.f k a0 a1_0 a1_1 a1_2 a1_3).bind fun t128 => (if t128 = 0 then ((impl_numberOf.f k a0 a1_0 a1_1 a1_2 a1_3).bind fun t129 => (some (t129, 0))) else (some (0, t128)))
theorem impl_NumberOfWord.mono : ∀ a0 a1 a2 a3 a4 k, LeO (impl_NumberOfWord.f k a0 a1 a2 a3 a4) (impl_NumberOfWord.f (k + 1) a0 a1 a2 a3 a4) := by
 intro a0 a1 a2 a3 a4 k
 unfold impl_NumberOfWord.f
 repeat' first
   | (with_reducible exact impl_numberOf.mono _ _ _ _ _ _)
   | (with_reducible exact impl_wordCode.mono _ _ _ _ _ _)
   | (with_reducible exact LeO.refl _)
   | (with_reducible exact LeO.none _)
   | (with_reducible refine LeO.ite ?_ ?_)
   | (with_reducible refine LeO.bind ?_ (fun _ => ?_))
   | exact impl_numberOf.mono _ _ _ _ _ _
   | exact impl_wordCode.mono _ _ _ _ _ _
   | exact LeO.none _
   | refine LeO.ite ?_ ?_
   | refine LeO.bind ?_ (fun _ => ?_)
set_option maxHeartbeats 8000000 in
set_option maxRecDepth 100000 in
theorem impl_NumberOfWord.calls (k : Nat) (a0 : Int) (a1_0 : Int) (a1_1 : Int) (a1_2 : Int) (a1_3 : Int) (r1 : Int) (r2 : Int) (w : World) (h : impl_NumberOfWord.f k a0 a1_0 a1_1 a1_2 a1_3 = some (r1, r2)) :
  Calls Try.prog 21 #[.int .i64 a0, .agg #[.int .i8 a1_0, .int .i8 a1_1, .int .i8 a1_2, .int .i8 a1_3]] w fun e w' => e = .returned (.tuple #[.int .i64 r1, .int .i64 r2]) ∧ Below w.heap.size w w' := by
 have hu24 := Try.underlying24
 have HB := Aside0.mk (Below.refl w.heap.size w)
 have H : ((impl_wordCode.f k a0 a1_0 a1_1 a1_2 a1_3).bind fun t128 => (if t128 = 0 then ((impl_numberOf.f k a0 a1_0 a1_1 a1_2 a1_3).bind fun t129 => (some (t129, 0))) else (some (0, t128)))) = some (r1, r2) := h
 clear h
 replace H := Option.bind_eq_some_iff.mp H
 obtain ⟨t128, A30, H⟩ := H
 replace H : (if t128 = 0 then ((impl_numberOf.f k a0 a1_0 a1_1 a1_2 a1_3).bind fun t129 => (some (t129, 0))) else (some (0, t128))) = some (r1, r2) := H
 have A3 := Aside0.mk A30
 clear A30
 by_cases c4 : t128 = 0
 ·rw [if_pos c4] at H
  have c4b0 : (t128 == 0) = true := beq_iff_eq.mpr c4
  have c4b1 : (t128 != 0) = false := bne_eq_false_iff_eq.mpr c4
  clear c4
  replace H := Option.bind_eq_some_iff.mp H
  obtain ⟨t129, A50, H⟩ := H
  replace H : (some (t129, 0)) = some (r1, r2) := H
  have A5 := Aside0.mk A50
  clear A50
  simp only [Option.some.injEq, Prod.mk.injEq] at H
  obtain ⟨rfl, rfl⟩ := H
  go_enter Try.func21, Try.ntmps21
  go_wp2_with (first | ((with_reducible refine gate_dst (N := 3) rfl ?_); refine box_event ?hg (N := 3) ?hd (cs := #[.int .i8 a1_0, .int .i8 a1_1, .int .i8 a1_2, .int .i8 a1_3]) (t := 24) ?hr ?_; (case hd => rfl); (case hg => rfl); (case hr => first | (go_simp; done) | (go_simp; rfl)); intro gb127 hg w6 hbox hb; have n0_ := Aside0.mk (below_step (bl_ HB) hb); have n1_ := Aside0.mk (hbox); have n2_ := Aside0.mk ((by rw [hg]; exact (below_size (bl_ HB)) : w.heap.size ≤ gb127)); have n3_ := Aside0.mk ((by rw [hg]; exact (below_size (bl_ HB)) : w.heap.size ≤ gb127)); clear HB; have HB := n0_; have BK127 := n1_; have GW127 := n2_; have GE127 := n3_; clear n0_ n1_ n2_ n3_; clear hb hbox hg; have hcz7_0 : w6.cell? ⟨gb127, 0, none⟩ = some (.int .i8 a1_0) := (blk_cell BK127.out 0).trans rfl; have hcz7_1 : w6.cell? ⟨gb127, 1, none⟩ = some (.int .i8 a1_1) := (blk_cell BK127.out 1).trans rfl; have hcz7_2 : w6.cell? ⟨gb127, 2, none⟩ = some (.int .i8 a1_2) := (blk_cell BK127.out 2).trans rfl; have hcz7_3 : w6.cell? ⟨gb127, 3, none⟩ = some (.int .i8 a1_3) := (blk_cell BK127.out 3).trans rfl; have hfz7_0 := blk_frozen BK127.out 0; have hfz7_1 := blk_frozen BK127.out 1; have hfz7_2 := blk_frozen BK127.out 2; have hfz7_3 := blk_frozen BK127.out 3) | ((with_reducible refine gate_callee (f := 43) rfl ?_); refine goesL_ (some 9) rfl rfl Try.func43 (by kernel_rfl) rfl #[.int .i64 a0, .agg #[.int .i8 a1_0, .int .i8 a1_1, .int .i8 a1_2, .int .i8 a1_3]] rfl (by (try simp only [List.map_toArray, List.map_cons, List.map_nil]); first | done | rfl | (simp only [List.length_drop, List.length_take]; rfl)) ?_; (with_reducible refine (impl_wordCode.calls k a0 a1_0 a1_1 a1_2 a1_3 t128 _ A3.out).mono ?_); rintro e w8 ⟨rfl, hb⟩; refine ⟨_, rfl, ?_⟩; have n0_ := Aside0.mk (blk_below (g := gb127) (o := .cells #[.int .i8 a1_0, .int .i8 a1_1, .int .i8 a1_2, .int .i8 a1_3] 24 (0, 0)) (pl_ BK127) hb); have n1_ := Aside0.mk (below_step (by repeat (first | (with_reducible first | exact HB.out | apply below_alloc | apply pw_below_drewN | apply below_drew1 | refine below_set ?_ GE127.out) | exact HB.out)) hb); clear BK127; clear HB; have BK127 := n0_; have HB := n1_; clear n0_ n1_; (try clear hb); (try clear hb2); (try clear hk); (try clear hi); have hcz9_0 : w8.cell? ⟨gb127, 0, none⟩ = some (.int .i8 a1_0) := (blk_cell BK127.out 0).trans rfl; have hcz9_1 : w8.cell? ⟨gb127, 1, none⟩ = some (.int .i8 a1_1) := (blk_cell BK127.out 1).trans rfl; have hcz9_2 : w8.cell? ⟨gb127, 2, none⟩ = some (.int .i8 a1_2) := (blk_cell BK127.out 2).trans rfl; have hcz9_3 : w8.cell? ⟨gb127, 3, none⟩ = some (.int .i8 a1_3) := (blk_cell BK127.out 3).trans rfl; have hfz9_0 := blk_frozen BK127.out 0; have hfz9_1 := blk_frozen BK127.out 1; have hfz9_2 := blk_frozen BK127.out 2; have hfz9_3 := blk_frozen BK127.out 3) | ((with_reducible refine gate_callee (f := 44) rfl ?_); refine goesL_ (some 15) rfl rfl Try.func44 (by kernel_rfl) rfl #[.int .i64 a0, .agg #[.int .i8 a1_0, .int .i8 a1_1, .int .i8 a1_2, .int .i8 a1_3]] rfl (by (try simp only [List.map_toArray, List.map_cons, List.map_nil]); first | done | rfl | (simp only [List.length_drop, List.length_take]; rfl)) ?_; (with_reducible refine (impl_numberOf.calls k a0 a1_0 a1_1 a1_2 a1_3 t129 _ A5.out).mono ?_); rintro e w10 ⟨rfl, hb⟩; refine ⟨_, rfl, ?_⟩; have n0_ := Aside0.mk (blk_below (g := gb127) (o := .cells #[.int .i8 a1_0, .int .i8 a1_1, .int .i8 a1_2, .int .i8 a1_3] 24 (0, 0)) (pl_ BK127) hb); have n1_ := Aside0.mk (below_step (by repeat (first | (with_reducible first | exact HB.out | apply below_alloc | apply pw_below_drewN | apply below_drew1 | refine below_set ?_ GE127.out) | exact HB.out)) hb); clear BK127; clear HB; have BK127 := n0_; have HB := n1_; clear n0_ n1_; (try clear hb); (try clear hb2); (try clear hk); (try clear hi)))
  go_ret2
  exact ⟨by first | rfl | (simp [errW_none, errW_some] <;> rfl) | (simp [*, errW_none, errW_some] <;> rfl), by repeat (first | (with_reducible first | exact HB.out | apply below_alloc | apply pw_below_drewN | apply below_drew1 | refine below_set ?_ GE127.out) | exact HB.out)⟩
 ·rw [if_neg c4] at H
  have c4b0 : (t128 == 0) = false := beq_eq_false_iff_ne.mpr c4
  have c4b1 : (t128 != 0) = true := bne_iff_ne.mpr c4
  simp only [Option.some.injEq, Prod.mk.injEq] at H
  obtain ⟨rfl, rfl⟩ := H
  go_enter Try.func21, Try.ntmps21
  go_wp2_with (first | ((with_reducible refine gate_dst (N := 3) rfl ?_); refine box_event ?hg (N := 3) ?hd (cs := #[.int .i8 a1_0, .int .i8 a1_1, .int .i8 a1_2, .int .i8 a1_3]) (t := 24) ?hr ?_; (case hd => rfl); (case hg => rfl); (case hr => first | (go_simp; done) | (go_simp; rfl)); intro gb127 hg w11 hbox hb; have n0_ := Aside0.mk (below_step (bl_ HB) hb); have n1_ := Aside0.mk (hbox); have n2_ := Aside0.mk ((by rw [hg]; exact (below_size (bl_ HB)) : w.heap.size ≤ gb127)); have n3_ := Aside0.mk ((by rw [hg]; exact (below_size (bl_ HB)) : w.heap.size ≤ gb127)); clear HB; have HB := n0_; have BK127 := n1_; have GW127 := n2_; have GE127 := n3_; clear n0_ n1_ n2_ n3_; clear hb hbox hg; have hcz12_0 : w11.cell? ⟨gb127, 0, none⟩ = some (.int .i8 a1_0) := (blk_cell BK127.out 0).trans rfl; have hcz12_1 : w11.cell? ⟨gb127, 1, none⟩ = some (.int .i8 a1_1) := (blk_cell BK127.out 1).trans rfl; have hcz12_2 : w11.cell? ⟨gb127, 2, none⟩ = some (.int .i8 a1_2) := (blk_cell BK127.out 2).trans rfl; have hcz12_3 : w11.cell? ⟨gb127, 3, none⟩ = some (.int .i8 a1_3) := (blk_cell BK127.out 3).trans rfl; have hfz12_0 := blk_frozen BK127.out 0; have hfz12_1 := blk_frozen BK127.out 1; have hfz12_2 := blk_frozen BK127.out 2; have hfz12_3 := blk_frozen BK127.out 3) | ((with_reducible refine gate_callee (f := 43) rfl ?_); refine goesL_ (some 9) rfl rfl Try.func43 (by kernel_rfl) rfl #[.int .i64 a0, .agg #[.int .i8 a1_0, .int .i8 a1_1, .int .i8 a1_2, .int .i8 a1_3]] rfl (by (try simp only [List.map_toArray, List.map_cons, List.map_nil]); first | done | rfl | (simp only [List.length_drop, List.length_take]; rfl)) ?_; (with_reducible refine (impl_wordCode.calls k a0 a1_0 a1_1 a1_2 a1_3 t128 _ A3.out).mono ?_); rintro e w13 ⟨rfl, hb⟩; refine ⟨_, rfl, ?_⟩; have n0_ := Aside0.mk (blk_below (g := gb127) (o := .cells #[.int .i8 a1_0, .int .i8 a1_1, .int .i8 a1_2, .int .i8 a1_3] 24 (0, 0)) (pl_ BK127) hb); have n1_ := Aside0.mk (below_step (by repeat (first | (with_reducible first | exact HB.out | apply below_alloc | apply pw_below_drewN | apply below_drew1 | refine below_set ?_ GE127.out) | exact HB.out)) hb); clear BK127; clear HB; have BK127 := n0_; have HB := n1_; clear n0_ n1_; (try clear hb); (try clear hb2); (try clear hk); (try clear hi)))
  go_ret2
  exact ⟨by first | rfl | (simp [errW_none, errW_some] <;> rfl) | (simp [*, errW_none, errW_some] <;> rfl), by repeat (first | (with_reducible first | exact HB.out | apply below_alloc | apply pw_below_drewN | apply below_drew1 | refine below_set ?_ GE127.out) | exact HB.out)⟩

/-! ### laws_FnExactNumberOfWord: function 7 -/
def laws_FnExactNumberOfWord.f (k : Nat) (a0 : Int) (a1_0 : Int) (a1_1 : Int) (a1_2 : Int) (a1_3 : Int) : Option (Bool) := (laws_toWord.f k a1_0 a1_1 a1_2 a1_3).bind fun bt131 => ((spec_NumberOfWord.f k a0 bt131.1 bt131.2.1 bt131.2.2.1 bt131.2.2.2).bind fun bt135 => ((laws_toWord.f k a1_0 a1_1 a1_2 a1_3).bind fun bt137 => ((impl_NumberOfWord.f k a0 bt137.1 bt137.2.1 bt137.2.2.1 bt137.2.2.2).bind fun bt141 => (if bt141.1 = bt135.1 then (if bt141.2 = bt135.2 then (some true) else (some false)) else (some false)))))
theorem laws_FnExactNumberOfWord.mono : ∀ a0 a1 a2 a3 a4 k, LeO (laws_FnExactNumberOfWord.f k a0 a1 a2 a3 a4) (laws_FnExactNumberOfWord.f (k + 1) a0 a1 a2 a3 a4) := by
 intro a0 a1 a2 a3 a4 k
 unfold laws_FnExactNumberOfWord.f
 repeat' first
   | (with_reducible exact impl_NumberOfWord.mono _ _ _ _ _ _)
   | (with_reducible exact laws_toWord.mono _ _ _ _ _)
   | (with_reducible exact spec_NumberOfWord.mono _ _ _ _ _ _)
   | (with_reducible exact LeO.refl _)
   | (with_reducible exact LeO.none _)
   | (with_reducible refine LeO.ite ?_ ?_)
   | (with_reducible refine LeO.bind ?_ (fun _ => ?_))
   | exact impl_NumberOfWord.mono _ _ _ _ _ _
   | exact laws_toWord.mono _ _ _ _ _
   | exact spec_NumberOfWord.mono _ _ _ _ _ _
   | exact LeO.none _
   | refine LeO.ite ?_ ?_
   | refine LeO.bind ?_ (fun _ => ?_)
set_option maxHeartbeats 8000000 in
set_option maxRecDepth 100000 in
theorem laws_FnExactNumberOfWord.calls (k : Nat) (a0 : Int) (a1_0 : Int) (a1_1 : Int) (a1_2 : Int) (a1_3 : Int) (r : Bool) (w : World) (h : laws_FnExactNumberOfWord.f k a0 a1_0 a1_1 a1_2 a1_3 = some r) :
  Calls Try.prog 7 #[.int .i64 a0, .agg #[.int .i8 a1_0, .int .i8 a1_1, .int .i8 a1_2, .int .i8 a1_3]] w fun e w' => e = .returned (.bool r) ∧ Below w.heap.size w w' := by
 have hu23 := Try.underlying23
 have HB := Aside0.mk (Below.refl w.heap.size w)
 have H : ((laws_toWord.f k a1_0 a1_1 a1_2 a1_3).bind fun bt131 => ((spec_NumberOfWord.f k a0 bt131.1 bt131.2.1 bt131.2.2.1 bt131.2.2.2).bind fun bt135 => ((laws_toWord.f k a1_0 a1_1 a1_2 a1_3).bind fun bt137 => ((impl_NumberOfWord.f k a0 bt137.1 bt137.2.1 bt137.2.2.1 bt137.2.2.2).bind fun bt141 => (if bt141.1 = bt135.1 then (if bt141.2 = bt135.2 then (some true) else (some false)) else (some false)))))) = some r := h
 clear h
 replace H := Option.bind_eq_some_iff.mp H
 obtain ⟨⟨t131, t132, t133, t134⟩, A30, H⟩ := H
 replace H : ((spec_NumberOfWord.f k a0 t131 t132 t133 t134).bind fun bt135 => ((laws_toWord.f k a1_0 a1_1 a1_2 a1_3).bind fun bt137 => ((impl_NumberOfWord.f k a0 bt137.1 bt137.2.1 bt137.2.2.1 bt137.2.2.2).bind fun bt141 => (if bt141.1 = bt135.1 then (if bt141.2 = bt135.2 then (some true) else (some false)) else (some false))))) = some r := H
 have A3 := Aside0.mk A30
 clear A30
 replace H := Option.bind_eq_some_iff.mp H
 obtain ⟨⟨t135, t136⟩, A40, H⟩ := H
 replace H : ((laws_toWord.f k a1_0 a1_1 a1_2 a1_3).bind fun bt137 => ((impl_NumberOfWord.f k a0 bt137.1 bt137.2.1 bt137.2.2.1 bt137.2.2.2).bind fun bt141 => (if bt141.1 = t135 then (if bt141.2 = t136 then (some true) else (some false)) else (some false)))) = some r := H
 have A4 := Aside0.mk A40
 clear A40
 replace H := Option.bind_eq_some_iff.mp H
 obtain ⟨⟨t137, t138, t139, t140⟩, A50, H⟩ := H
 replace H : ((impl_NumberOfWord.f k a0 t137 t138 t139 t140).bind fun bt141 => (if bt141.1 = t135 then (if bt141.2 = t136 then (some true) else (some false)) else (some false))) = some r := H
 have A5 := Aside0.mk A50
 clear A50
 replace H := Option.bind_eq_some_iff.mp H
 obtain ⟨⟨t141, t142⟩, A60, H⟩ := H
 replace H : (if t141 = t135 then (if t142 = t136 then (some true) else (some false)) else (some false)) = some r := H
 have A6 := Aside0.mk A60
 clear A60
 by_cases c7 : t141 = t135
 ·rw [if_pos c7] at H
  have c7b0 : (t141 == t135) = true := beq_iff_eq.mpr c7
  have c7b1 : (t141 != t135) = false := bne_eq_false_iff_eq.mpr c7
  clear c7
  by_cases c8 : t142 = t136
  ·rw [if_pos c8] at H
   have c8b0 : (t142 == t136) = true := beq_iff_eq.mpr c8
   have c8b1 : (t142 != t136) = false := bne_eq_false_iff_eq.mpr c8
   clear c8
   obtain rfl := Option.some.inj H
   go_enter Try.func7, Try.ntmps7
   go_wp2_with (first | ((with_reducible refine gate_dst (N := 3) rfl ?_); refine box_event ?hg (N := 3) ?hd (cs := #[.int .i8 a1_0, .int .i8 a1_1, .int .i8 a1_2, .int .i8 a1_3]) (t := 23) ?hr ?_; (case hd => rfl); (case hg => rfl); (case hr => first | (go_simp; done) | (go_simp; rfl)); intro gb130 hg w9 hbox hb; have n0_ := Aside0.mk (below_step (bl_ HB) hb); have n1_ := Aside0.mk (hbox); have n2_ := Aside0.mk ((by rw [hg]; exact (below_size (bl_ HB)) : w.heap.size ≤ gb130)); have n3_ := Aside0.mk ((by rw [hg]; exact (below_size (bl_ HB)) : w.heap.size ≤ gb130)); clear HB; have HB := n0_; have BK130 := n1_; have GW130 := n2_; have GE130 := n3_; clear n0_ n1_ n2_ n3_; clear hb hbox hg; have hcz10_0 : w9.cell? ⟨gb130, 0, none⟩ = some (.int .i8 a1_0) := (blk_cell BK130.out 0).trans rfl; have hcz10_1 : w9.cell? ⟨gb130, 1, none⟩ = some (.int .i8 a1_1) := (blk_cell BK130.out 1).trans rfl; have hcz10_2 : w9.cell? ⟨gb130, 2, none⟩ = some (.int .i8 a1_2) := (blk_cell BK130.out 2).trans rfl; have hcz10_3 : w9.cell? ⟨gb130, 3, none⟩ = some (.int .i8 a1_3) := (blk_cell BK130.out 3).trans rfl; have hfz10_0 := blk_frozen BK130.out 0; have hfz10_1 := blk_frozen BK130.out 1; have hfz10_2 := blk_frozen BK130.out 2; have hfz10_3 := blk_frozen BK130.out 3) | ((with_reducible refine gate_callee (f := 11) rfl ?_); refine goesL_ (some 12) rfl rfl Try.func11 (by kernel_rfl) rfl #[.agg #[.int .i8 a1_0, .int .i8 a1_1, .int .i8 a1_2, .int .i8 a1_3]] rfl (by (try simp only [List.map_toArray, List.map_cons, List.map_nil]); first | done | rfl | (simp only [List.length_drop, List.length_take]; rfl)) ?_; (with_reducible refine (laws_toWord.calls k a1_0 a1_1 a1_2 a1_3 t131 t132 t133 t134 _ A3.out).mono ?_); rintro e w11 ⟨rfl, hb⟩; refine ⟨_, rfl, ?_⟩; have n0_ := Aside0.mk (blk_below (g := gb130) (o := .cells #[.int .i8 a1_0, .int .i8 a1_1, .int .i8 a1_2, .int .i8 a1_3] 23 (0, 0)) (pl_ BK130) hb); have n1_ := Aside0.mk (below_step (by repeat (first | (with_reducible first | exact HB.out | apply below_alloc | apply pw_below_drewN | apply below_drew1 | refine below_set ?_ GE130.out) | exact HB.out)) hb); clear BK130; clear HB; have BK130 := n0_; have HB := n1_; clear n0_ n1_; (try clear hb); (try clear hb2); (try clear hk); (try clear hi)) | ((with_reducible refine gate_callee (f := 20) rfl ?_); refine goesL_ (some 13) rfl rfl Try.func20 (by kernel_rfl) rfl #[.int .i64 a0, .agg #[.int .i8 t131, .int .i8 t132, .int .i8 t133, .int .i8 t134]] rfl (by (try simp only [List.map_toArray, List.map_cons, List.map_nil]); first | done | rfl | (simp only [List.length_drop, List.length_take]; rfl)) ?_; (with_reducible refine (spec_NumberOfWord.calls k a0 t131 t132 t133 t134 t135 t136 _ A4.out).mono ?_); rintro e w12 ⟨rfl, hb⟩; refine ⟨_, rfl, ?_⟩; have n0_ := Aside0.mk (blk_below (g := gb130) (o := .cells #[.int .i8 a1_0, .int .i8 a1_1, .int .i8 a1_2, .int .i8 a1_3] 23 (0, 0)) (pl_ BK130) hb); have n1_ := Aside0.mk (below_step (by repeat (first | (with_reducible first | exact HB.out | apply below_alloc | apply pw_below_drewN | apply below_drew1 | refine below_set ?_ GE130.out) | exact HB.out)) hb); clear BK130; clear HB; have BK130 := n0_; have HB := n1_; clear n0_ n1_; (try clear hb); (try clear hb2); (try clear hk); (try clear hi); have hcz13_0 : w12.cell? ⟨gb130, 0, none⟩ = some (.int .i8 a1_0) := (blk_cell BK130.out 0).trans rfl; have hcz13_1 : w12.cell? ⟨gb130, 1, none⟩ = some (.int .i8 a1_1) := (blk_cell BK130.out 1).trans rfl; have hcz13_2 : w12.cell? ⟨gb130, 2, none⟩ = some (.int .i8 a1_2) := (blk_cell BK130.out 2).trans rfl; have hcz13_3 : w12.cell? ⟨gb130, 3, none⟩ = some (.int .i8 a1_3) := (blk_cell BK130.out 3).trans rfl; have hfz13_0 := blk_frozen BK130.out 0; have hfz13_1 := blk_frozen BK130.out 1; have hfz13_2 := blk_frozen BK130.out 2; have hfz13_3 := blk_frozen BK130.out 3) | ((with_reducible refine gate_callee (f := 11) rfl ?_); refine goesL_ (some 19) rfl rfl Try.func11 (by kernel_rfl) rfl #[.agg #[.int .i8 a1_0, .int .i8 a1_1, .int .i8 a1_2, .int .i8 a1_3]] rfl (by (try simp only [List.map_toArray, List.map_cons, List.map_nil]); first | done | rfl | (simp only [List.length_drop, List.length_take]; rfl)) ?_; (with_reducible refine (laws_toWord.calls k a1_0 a1_1 a1_2 a1_3 t137 t138 t139 t140 _ A5.out).mono ?_); rintro e w14 ⟨rfl, hb⟩; refine ⟨_, rfl, ?_⟩; have n0_ := Aside0.mk (blk_below (g := gb130) (o := .cells #[.int .i8 a1_0, .int .i8 a1_1, .int .i8 a1_2, .int .i8 a1_3] 23 (0, 0)) (pl_ BK130) hb); have n1_ := Aside0.mk (below_step (by repeat (first | (with_reducible first | exact HB.out | apply below_alloc | apply pw_below_drewN | apply below_drew1 | refine below_set ?_ GE130.out) | exact HB.out)) hb); clear BK130; clear HB; have BK130 := n0_; have HB := n1_; clear n0_ n1_; (try clear hb); (try clear hb2); (try clear hk); (try clear hi)) | ((with_reducible refine gate_callee (f := 21) rfl ?_); refine goesL_ (some 20) rfl rfl Try.func21 (by kernel_rfl) rfl #[.int .i64 a0, .agg #[.int .i8 t137, .int .i8 t138, .int .i8 t139, .int .i8 t140]] rfl (by (try simp only [List.map_toArray, List.map_cons, List.map_nil]); first | done | rfl | (simp only [List.length_drop, List.length_take]; rfl)) ?_; (with_reducible refine (impl_NumberOfWord.calls k a0 t137 t138 t139 t140 t141 t142 _ A6.out).mono ?_); rintro e w15 ⟨rfl, hb⟩; refine ⟨_, rfl, ?_⟩; have n0_ := Aside0.mk (blk_below (g := gb130) (o := .cells #[.int .i8 a1_0, .int .i8 a1_1, .int .i8 a1_2, .int .i8 a1_3] 23 (0, 0)) (pl_ BK130) hb); have n1_ := Aside0.mk (below_step (by repeat (first | (with_reducible first | exact HB.out | apply below_alloc | apply pw_below_drewN | apply below_drew1 | refine below_set ?_ GE130.out) | exact HB.out)) hb); clear BK130; clear HB; have BK130 := n0_; have HB := n1_; clear n0_ n1_; (try clear hb); (try clear hb2); (try clear hk); (try clear hi)))
   go_ret
   exact ⟨by first | rfl | (simp [errW_none, errW_some] <;> rfl) | (simp [*, errW_none, errW_some] <;> rfl), by repeat (first | (with_reducible first | exact HB.out | apply below_alloc | apply pw_below_drewN | apply below_drew1 | refine below_set ?_ GE130.out) | exact HB.out)⟩
  ·rw [if_neg c8] at H
   have c8b0 : (t142 == t136) = false := beq_eq_false_iff_ne.mpr c8
   have c8b1 : (t142 != t136) = true := bne_iff_ne.mpr c8
   obtain rfl := Option.some.inj H
   go_enter Try.func7, Try.ntmps7
   go_wp2_with (first | ((with_reducible refine gate_dst (N := 3) rfl ?_); refine box_event ?hg (N := 3) ?hd (cs := #[.int .i8 a1_0, .int .i8 a1_1, .int .i8 a1_2, .int .i8 a1_3]) (t := 23) ?hr ?_; (case hd => rfl); (case hg => rfl); (case hr => first | (go_simp; done) | (go_simp; rfl)); intro gb130 hg w16 hbox hb; have n0_ := Aside0.mk (below_step (bl_ HB) hb); have n1_ := Aside0.mk (hbox); have n2_ := Aside0.mk ((by rw [hg]; exact (below_size (bl_ HB)) : w.heap.size ≤ gb130)); have n3_ := Aside0.mk ((by rw [hg]; exact (below_size (bl_ HB)) : w.heap.size ≤ gb130)); clear HB; have HB := n0_; have BK130 := n1_; have GW130 := n2_; have GE130 := n3_; clear n0_ n1_ n2_ n3_; clear hb hbox hg; have hcz17_0 : w16.cell? ⟨gb130, 0, none⟩ = some (.int .i8 a1_0) := (blk_cell BK130.out 0).trans rfl; have hcz17_1 : w16.cell? ⟨gb130, 1, none⟩ = some (.int .i8 a1_1) := (blk_cell BK130.out 1).trans rfl; have hcz17_2 : w16.cell? ⟨gb130, 2, none⟩ = some (.int .i8 a1_2) := (blk_cell BK130.out 2).trans rfl; have hcz17_3 : w16.cell? ⟨gb130, 3, none⟩ = some (.int .i8 a1_3) := (blk_cell BK130.out 3).trans rfl; have hfz17_0 := blk_frozen BK130.out 0; have hfz17_1 := blk_frozen BK130.out 1; have hfz17_2 := blk_frozen BK130.out 2; have hfz17_3 := blk_frozen BK130.out 3) | ((with_reducible refine gate_callee (f := 11) rfl ?_); refine goesL_ (some 12) rfl rfl Try.func11 (by kernel_rfl) rfl #[.agg #[.int .i8 a1_0, .int .i8 a1_1, .int .i8 a1_2, .int .i8 a1_3]] rfl (by (try simp only [List.map_toArray, List.map_cons, List.map_nil]); first | done | rfl | (simp only [List.length_drop, List.length_take]; rfl)) ?_; (with_reducible refine (laws_toWord.calls k a1_0 a1_1 a1_2 a1_3 t131 t132 t133 t134 _ A3.out).mono ?_); rintro e w18 ⟨rfl, hb⟩; refine ⟨_, rfl, ?_⟩; have n0_ := Aside0.mk (blk_below (g := gb130) (o := .cells #[.int .i8 a1_0, .int .i8 a1_1, .int .i8 a1_2, .int .i8 a1_3] 23 (0, 0)) (pl_ BK130) hb); have n1_ := Aside0.mk (below_step (by repeat (first | (with_reducible first | exact HB.out | apply below_alloc | apply pw_below_drewN | apply below_drew1 | refine below_set ?_ GE130.out) | exact HB.out)) hb); clear BK130; clear HB; have BK130 := n0_; have HB := n1_; clear n0_ n1_; (try clear hb); (try clear hb2); (try clear hk); (try clear hi)) | ((with_reducible refine gate_callee (f := 20) rfl ?_); refine goesL_ (some 13) rfl rfl Try.func20 (by kernel_rfl) rfl #[.int .i64 a0, .agg #[.int .i8 t131, .int .i8 t132, .int .i8 t133, .int .i8 t134]] rfl (by (try simp only [List.map_toArray, List.map_cons, List.map_nil]); first | done | rfl | (simp only [List.length_drop, List.length_take]; rfl)) ?_; (with_reducible refine (spec_NumberOfWord.calls k a0 t131 t132 t133 t134 t135 t136 _ A4.out).mono ?_); rintro e w19 ⟨rfl, hb⟩; refine ⟨_, rfl, ?_⟩; have n0_ := Aside0.mk (blk_below (g := gb130) (o := .cells #[.int .i8 a1_0, .int .i8 a1_1, .int .i8 a1_2, .int .i8 a1_3] 23 (0, 0)) (pl_ BK130) hb); have n1_ := Aside0.mk (below_step (by repeat (first | (with_reducible first | exact HB.out | apply below_alloc | apply pw_below_drewN | apply below_drew1 | refine below_set ?_ GE130.out) | exact HB.out)) hb); clear BK130; clear HB; have BK130 := n0_; have HB := n1_; clear n0_ n1_; (try clear hb); (try clear hb2); (try clear hk); (try clear hi); have hcz20_0 : w19.cell? ⟨gb130, 0, none⟩ = some (.int .i8 a1_0) := (blk_cell BK130.out 0).trans rfl; have hcz20_1 : w19.cell? ⟨gb130, 1, none⟩ = some (.int .i8 a1_1) := (blk_cell BK130.out 1).trans rfl; have hcz20_2 : w19.cell? ⟨gb130, 2, none⟩ = some (.int .i8 a1_2) := (blk_cell BK130.out 2).trans rfl; have hcz20_3 : w19.cell? ⟨gb130, 3, none⟩ = some (.int .i8 a1_3) := (blk_cell BK130.out 3).trans rfl; have hfz20_0 := blk_frozen BK130.out 0; have hfz20_1 := blk_frozen BK130.out 1; have hfz20_2 := blk_frozen BK130.out 2; have hfz20_3 := blk_frozen BK130.out 3) | ((with_reducible refine gate_callee (f := 11) rfl ?_); refine goesL_ (some 19) rfl rfl Try.func11 (by kernel_rfl) rfl #[.agg #[.int .i8 a1_0, .int .i8 a1_1, .int .i8 a1_2, .int .i8 a1_3]] rfl (by (try simp only [List.map_toArray, List.map_cons, List.map_nil]); first | done | rfl | (simp only [List.length_drop, List.length_take]; rfl)) ?_; (with_reducible refine (laws_toWord.calls k a1_0 a1_1 a1_2 a1_3 t137 t138 t139 t140 _ A5.out).mono ?_); rintro e w21 ⟨rfl, hb⟩; refine ⟨_, rfl, ?_⟩; have n0_ := Aside0.mk (blk_below (g := gb130) (o := .cells #[.int .i8 a1_0, .int .i8 a1_1, .int .i8 a1_2, .int .i8 a1_3] 23 (0, 0)) (pl_ BK130) hb); have n1_ := Aside0.mk (below_step (by repeat (first | (with_reducible first | exact HB.out | apply below_alloc | apply pw_below_drewN | apply below_drew1 | refine below_set ?_ GE130.out) | exact HB.out)) hb); clear BK130; clear HB; have BK130 := n0_; have HB := n1_; clear n0_ n1_; (try clear hb); (try clear hb2); (try clear hk); (try clear hi)) | ((with_reducible refine gate_callee (f := 21) rfl ?_); refine goesL_ (some 20) rfl rfl Try.func21 (by kernel_rfl) rfl #[.int .i64 a0, .agg #[.int .i8 t137, .int .i8 t138, .int .i8 t139, .int .i8 t140]] rfl (by (try simp only [List.map_toArray, List.map_cons, List.map_nil]); first | done | rfl | (simp only [List.length_drop, List.length_take]; rfl)) ?_; (with_reducible refine (impl_NumberOfWord.calls k a0 t137 t138 t139 t140 t141 t142 _ A6.out).mono ?_); rintro e w22 ⟨rfl, hb⟩; refine ⟨_, rfl, ?_⟩; have n0_ := Aside0.mk (blk_below (g := gb130) (o := .cells #[.int .i8 a1_0, .int .i8 a1_1, .int .i8 a1_2, .int .i8 a1_3] 23 (0, 0)) (pl_ BK130) hb); have n1_ := Aside0.mk (below_step (by repeat (first | (with_reducible first | exact HB.out | apply below_alloc | apply pw_below_drewN | apply below_drew1 | refine below_set ?_ GE130.out) | exact HB.out)) hb); clear BK130; clear HB; have BK130 := n0_; have HB := n1_; clear n0_ n1_; (try clear hb); (try clear hb2); (try clear hk); (try clear hi)))
   go_ret
   exact ⟨by first | rfl | (simp [errW_none, errW_some] <;> rfl) | (simp [*, errW_none, errW_some] <;> rfl), by repeat (first | (with_reducible first | exact HB.out | apply below_alloc | apply pw_below_drewN | apply below_drew1 | refine below_set ?_ GE130.out) | exact HB.out)⟩
 ·rw [if_neg c7] at H
  have c7b0 : (t141 == t135) = false := beq_eq_false_iff_ne.mpr c7
  have c7b1 : (t141 != t135) = true := bne_iff_ne.mpr c7
  obtain rfl := Option.some.inj H
  go_enter Try.func7, Try.ntmps7
  go_wp2_with (first | ((with_reducible refine gate_dst (N := 3) rfl ?_); refine box_event ?hg (N := 3) ?hd (cs := #[.int .i8 a1_0, .int .i8 a1_1, .int .i8 a1_2, .int .i8 a1_3]) (t := 23) ?hr ?_; (case hd => rfl); (case hg => rfl); (case hr => first | (go_simp; done) | (go_simp; rfl)); intro gb130 hg w23 hbox hb; have n0_ := Aside0.mk (below_step (bl_ HB) hb); have n1_ := Aside0.mk (hbox); have n2_ := Aside0.mk ((by rw [hg]; exact (below_size (bl_ HB)) : w.heap.size ≤ gb130)); have n3_ := Aside0.mk ((by rw [hg]; exact (below_size (bl_ HB)) : w.heap.size ≤ gb130)); clear HB; have HB := n0_; have BK130 := n1_; have GW130 := n2_; have GE130 := n3_; clear n0_ n1_ n2_ n3_; clear hb hbox hg; have hcz24_0 : w23.cell? ⟨gb130, 0, none⟩ = some (.int .i8 a1_0) := (blk_cell BK130.out 0).trans rfl; have hcz24_1 : w23.cell? ⟨gb130, 1, none⟩ = some (.int .i8 a1_1) := (blk_cell BK130.out 1).trans rfl; have hcz24_2 : w23.cell? ⟨gb130, 2, none⟩ = some (.int .i8 a1_2) := (blk_cell BK130.out 2).trans rfl; have hcz24_3 : w23.cell? ⟨gb130, 3, none⟩ = some (.int .i8 a1_3) := (blk_cell BK130.out 3).trans rfl; have hfz24_0 := blk_frozen BK130.out 0; have hfz24_1 := blk_frozen BK130.out 1; have hfz24_2 := blk_frozen BK130.out 2; have hfz24_3 := blk_frozen BK130.out 3) | ((with_reducible refine gate_callee (f := 11) rfl ?_); refine goesL_ (some 12) rfl rfl Try.func11 (by kernel_rfl) rfl #[.agg #[.int .i8 a1_0, .int .i8 a1_1, .int .i8 a1_2, .int .i8 a1_3]] rfl (by (try simp only [List.map_toArray, List.map_cons, List.map_nil]); first | done | rfl | (simp only [List.length_drop, List.length_take]; rfl)) ?_; (with_reducible refine (laws_toWord.calls k a1_0 a1_1 a1_2 a1_3 t131 t132 t133 t134 _ A3.out).mono ?_); rintro e w25 ⟨rfl, hb⟩; refine ⟨_, rfl, ?_⟩; have n0_ := Aside0.mk (blk_below (g := gb130) (o := .cells #[.int .i8 a1_0, .int .i8 a1_1, .int .i8 a1_2, .int .i8 a1_3] 23 (0, 0)) (pl_ BK130) hb); have n1_ := Aside0.mk (below_step (by repeat (first | (with_reducible first | exact HB.out | apply below_alloc | apply pw_below_drewN | apply below_drew1 | refine below_set ?_ GE130.out) | exact HB.out)) hb); clear BK130; clear HB; have BK130 := n0_; have HB := n1_; clear n0_ n1_; (try clear hb); (try clear hb2); (try clear hk); (try clear hi)) | ((with_reducible refine gate_callee (f := 20) rfl ?_); refine goesL_ (some 13) rfl rfl Try.func20 (by kernel_rfl) rfl #[.int .i64 a0, .agg #[.int .i8 t131, .int .i8 t132, .int .i8 t133, .int .i8 t134]] rfl (by (try simp only [List.map_toArray, List.map_cons, List.map_nil]); first | done | rfl | (simp only [List.length_drop, List.length_take]; rfl)) ?_; (with_reducible refine (spec_NumberOfWord.calls k a0 t131 t132 t133 t134 t135 t136 _ A4.out).mono ?_); rintro e w26 ⟨rfl, hb⟩; refine ⟨_, rfl, ?_⟩; have n0_ := Aside0.mk (blk_below (g := gb130) (o := .cells #[.int .i8 a1_0, .int .i8 a1_1, .int .i8 a1_2, .int .i8 a1_3] 23 (0, 0)) (pl_ BK130) hb); have n1_ := Aside0.mk (below_step (by repeat (first | (with_reducible first | exact HB.out | apply below_alloc | apply pw_below_drewN | apply below_drew1 | refine below_set ?_ GE130.out) | exact HB.out)) hb); clear BK130; clear HB; have BK130 := n0_; have HB := n1_; clear n0_ n1_; (try clear hb); (try clear hb2); (try clear hk); (try clear hi); have hcz27_0 : w26.cell? ⟨gb130, 0, none⟩ = some (.int .i8 a1_0) := (blk_cell BK130.out 0).trans rfl; have hcz27_1 : w26.cell? ⟨gb130, 1, none⟩ = some (.int .i8 a1_1) := (blk_cell BK130.out 1).trans rfl; have hcz27_2 : w26.cell? ⟨gb130, 2, none⟩ = some (.int .i8 a1_2) := (blk_cell BK130.out 2).trans rfl; have hcz27_3 : w26.cell? ⟨gb130, 3, none⟩ = some (.int .i8 a1_3) := (blk_cell BK130.out 3).trans rfl; have hfz27_0 := blk_frozen BK130.out 0; have hfz27_1 := blk_frozen BK130.out 1; have hfz27_2 := blk_frozen BK130.out 2; have hfz27_3 := blk_frozen BK130.out 3) | ((with_reducible refine gate_callee (f := 11) rfl ?_); refine goesL_ (some 19) rfl rfl Try.func11 (by kernel_rfl) rfl #[.agg #[.int .i8 a1_0, .int .i8 a1_1, .int .i8 a1_2, .int .i8 a1_3]] rfl (by (try simp only [List.map_toArray, List.map_cons, List.map_nil]); first | done | rfl | (simp only [List.length_drop, List.length_take]; rfl)) ?_; (with_reducible refine (laws_toWord.calls k a1_0 a1_1 a1_2 a1_3 t137 t138 t139 t140 _ A5.out).mono ?_); rintro e w28 ⟨rfl, hb⟩; refine ⟨_, rfl, ?_⟩; have n0_ := Aside0.mk (blk_below (g := gb130) (o := .cells #[.int .i8 a1_0, .int .i8 a1_1, .int .i8 a1_2, .int .i8 a1_3] 23 (0, 0)) (pl_ BK130) hb); have n1_ := Aside0.mk (below_step (by repeat (first | (with_reducible first | exact HB.out | apply below_alloc | apply pw_below_drewN | apply below_drew1 | refine below_set ?_ GE130.out) | exact HB.out)) hb); clear BK130; clear HB; have BK130 := n0_; have HB := n1_; clear n0_ n1_; (try clear hb); (try clear hb2); (try clear hk); (try clear hi)) | ((with_reducible refine gate_callee (f := 21) rfl ?_); refine goesL_ (some 20) rfl rfl Try.func21 (by kernel_rfl) rfl #[.int .i64 a0, .agg #[.int .i8 t137, .int .i8 t138, .int .i8 t139, .int .i8 t140]] rfl (by (try simp only [List.map_toArray, List.map_cons, List.map_nil]); first | done | rfl | (simp only [List.length_drop, List.length_take]; rfl)) ?_; (with_reducible refine (impl_NumberOfWord.calls k a0 t137 t138 t139 t140 t141 t142 _ A6.out).mono ?_); rintro e w29 ⟨rfl, hb⟩; refine ⟨_, rfl, ?_⟩; have n0_ := Aside0.mk (blk_below (g := gb130) (o := .cells #[.int .i8 a1_0, .int .i8 a1_1, .int .i8 a1_2, .int .i8 a1_3] 23 (0, 0)) (pl_ BK130) hb); have n1_ := Aside0.mk (below_step (by repeat (first | (with_reducible first | exact HB.out | apply below_alloc | apply pw_below_drewN | apply below_drew1 | refine below_set ?_ GE130.out) | exact HB.out)) hb); clear BK130; clear HB; have BK130 := n0_; have HB := n1_; clear n0_ n1_; (try clear hb); (try clear hb2); (try clear hk); (try clear hi)))
  go_ret
  exact ⟨by first | rfl | (simp [errW_none, errW_some] <;> rfl) | (simp [*, errW_none, errW_some] <;> rfl), by repeat (first | (with_reducible first | exact HB.out | apply below_alloc | apply pw_below_drewN | apply below_drew1 | refine below_set ?_ GE130.out) | exact HB.out)⟩

end Go.Proofs.Yteohhkfeeeifaaa.M
