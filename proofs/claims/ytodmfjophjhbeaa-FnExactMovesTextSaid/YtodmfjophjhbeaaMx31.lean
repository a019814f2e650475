-- By this seat's own program over the kit's printer (arrays, functions told by hand); nothing of it is trusted: the kernel checks it.
import Derived.Test.YtodmfjophjhbeaaMx0
import Derived.Test.YtodmfjophjhbeaaMx30
import Derived.Test.YtodmfjophjhbeaaHJoin
namespace Go.Proofs.Ytodmfjophjhbeaa.M
open Go.RowKit Go.Proofs.YtodmfjophjhbeaaW.PrintWords Go.Proofs.YtodmfjophjhbeaaW.PrintLast Go.Proofs.YtodmfjophjhbeaaW.PrintMore
attribute [local go_sem] max2_int min2_int max_two min_two max_three min_three max_four min_four   -- for this text's walks alone
set_option linter.unusedVariables false
set_option linter.unusedSimpArgs false

/-! ### impl_MovesText: function 40 -/
def impl_MovesText.l0 : Nat → List (S60) → List ByteArray → List (S60) → Int → Int → Option (ByteArray)
 | 0, _, _, _, _, _ => none
 | k + 1, x0, x3, x9, x10, x11 => if x11 < x10 then (if 0 ≤ x11 then (if x11 < (x9.length : Int) then ((impl_Move_text.f k ((rd_T60 x9 x11).f0) ((rd_T60 x9 x11).f1) ((rd_T60 x9 x11).f2)).bind fun bt392 => (if bt392.2 = true then (if (x0.length : Int) > 200 then (some (⟨#[]⟩ : ByteArray)) else (if x3.length < 8796093022208 then (impl_MovesText.l0 k x0 (x3 ++ [bt392.1]) x9 x10 (wrap64 (x11 + 1))) else (none))) else (some (⟨#[]⟩ : ByteArray)))) else (none)) else (none)) else ((strings_Join.f x3 (⟨#[32]⟩ : ByteArray)).bind fun t397 => (some t397))
def impl_MovesText.f (k : Nat) (l0 : List (S60)) : Option (ByteArray) := impl_MovesText.l0 k l0 (([] : List ByteArray)) l0 (l0.length : Int) 0
theorem impl_MovesText.mono_l : ∀ k, (∀ y0 y1 y2 y3 y4, LeO (impl_MovesText.l0 k y0 y1 y2 y3 y4) (impl_MovesText.l0 (k + 1) y0 y1 y2 y3 y4))
 | 0 => fun _ _ _ _ _ r h => by simp [impl_MovesText.l0] at h
 | k + 1 => by
  have ih0 := impl_MovesText.mono_l k
  ·intro y0 y1 y2 y3 y4
   unfold impl_MovesText.l0
   repeat' first
   | (with_reducible exact ih0 _ _ _ _ _)
   | (with_reducible exact impl_Move_text.mono _ _ _ _)
   | (with_reducible exact LeO.refl _)
   | (with_reducible exact LeO.none _)
   | (with_reducible refine LeO.ite ?_ ?_)
   | (with_reducible refine LeO.bind ?_ (fun _ => ?_))
   | exact ih0 _ _ _ _ _
   | exact impl_Move_text.mono _ _ _ _
   | exact LeO.none _
   | refine LeO.ite ?_ ?_
   | refine LeO.bind ?_ (fun _ => ?_)
theorem impl_MovesText.mono : ∀ a0 k, LeO (impl_MovesText.f k a0) (impl_MovesText.f (k + 1) a0) := by
 intro a0 k
 have ih0 := impl_MovesText.mono_l k
 unfold impl_MovesText.f
 repeat' first
   | (with_reducible exact ih0 _ _ _ _ _)
   | (with_reducible exact impl_Move_text.mono _ _ _ _)
   | (with_reducible exact LeO.refl _)
   | (with_reducible exact LeO.none _)
   | (with_reducible refine LeO.ite ?_ ?_)
   | (with_reducible refine LeO.bind ?_ (fun _ => ?_))
   | exact ih0 _ _ _ _ _
   | exact impl_Move_text.mono _ _ _ _
   | exact LeO.none _
   | refine LeO.ite ?_ ?_
   | refine LeO.bind ?_ (fun _ => ?_)
set_option maxHeartbeats 8000000 in
set_option maxRecDepth 100000 in
theorem impl_MovesText.calls (k : Nat) (A0 : Option Addr) (c0 : Nat) (l0 : List (S60)) (r : ByteArray) (w : World) (hr0 : Kd.C k60 w A0 l0.length l0) (hc0 : l0.length ≤ c0) (h : impl_MovesText.f k l0 = some r) :
  Calls Try.prog 40 #[.slice A0 l0.length c0] w fun e w' => e = .returned (.string r) ∧ Below w.heap.size w w' := by
 have hu60 := Try.underlying60
 have HR0 := Aside0.mk hr0
 have HC0 := Aside0.mk hc0
 clear hr0 hc0
 have HB := A_ (Below.refl w.heap.size w)
 have H : (impl_MovesText.l0 k l0 (([] : List ByteArray)) l0 (l0.length : Int) 0) = some r := h
 clear h
 obtain ⟨y387, hy387⟩ : ∃ y_ : List ByteArray, y_ = (([] : List ByteArray)) := ⟨_, rfl⟩
 replace H : (impl_MovesText.l0 k l0 y387 l0 (l0.length : Int) 0) = some r := by first | (rw [hy387]; with_reducible exact H) | (have H2_ := (Option.bind_some _ _).symm.trans H; rw [hy387]; with_reducible exact H2_) | (have H2_ := (Option.bind_some _ _).symm.trans H; with_reducible exact H2_) | with_reducible exact H | (rw [hy387]; exact H) | exact H
 have Ny387 := Aside0.mk hy387
 clear hy387
 have H' := Aside0.mk H
 clear H
 go_enter Try.func40, Try.ntmps40
 go_wp2_with (first | ((with_reducible refine gate_dst (N := 8) rfl ?_); refine Kd.R_lit Kd.string _ 9 ?hg (N := 8) ?hd (xs := ([] : List ByteArray)) (inner := []) (ok := fun _ => True) (okp := fun _ => True) ?hr ?hp (fun _ hk => hk) trivial (Below.refl _ _) (Nat.le_refl _) (by simp) ?_; (case hd => rfl); (case hg => rfl); (case hr => first | (go_simp; done) | (go_simp; rfl)); (case hp => exact (Reps.none _ _)); intro v388 w2 ho3 hb hg_ hnew_; clear hg_ hnew_; (first | rw [← Ny387.out] at ho3 | (simp only [Int.reduceToNat] at ho3; rw [← Ny387.out] at ho3)); have n0_ := A_ (Kd.R_lower ho3 (below_size (bl_ HB))); have n1_ := A_ (below_step (bl_ HB) hb); clear HB; have HO389 := n0_; have HB := n1_; clear n0_ n1_; clear hb ho3))
 go_loopg [3, 11] k (fun kq v3 v11 w' => ∃ (x3_1 : List ByteArray) (x11_1 : Int), v11 = .int .i64 x11_1 ∧ Aside0 (impl_MovesText.l0 kq l0 x3_1 l0 (l0.length : Int) x11_1 = some r) ∧ Aside0 (kq ≤ k) ∧ Aside0 (Kd.R Kd.string 9 w' w.heap.size (fun _ => True) v3 x3_1) ∧ Aside0 (Below w.heap.size w w'))
 case atStart => exact ⟨(y387), (0), rs_, H', ⟨Nat.le_refl _⟩, ⟨pr_ HO389⟩, ⟨bl_ HB⟩⟩
 case round =>
  clear H'
  try clear p2
  obtain ⟨x3_1, x11_1, rfl, HA, HK1, HO_3, HB⟩ := hrel
  cases gk with
  | zero => exact absurd HA.out (by simp [impl_MovesText.l0])
  | succ k1 =>
   have H := HA.out
   clear HA
   simp only [impl_MovesText.l0] at H
   by_cases c4 : x11_1 < (l0.length : Int)
   ·rw [if_pos c4] at H
    have c4b0 : decide (x11_1 < (l0.length : Int)) = true := decide_eq_true c4
    clear c4
    by_cases c5 : 0 ≤ x11_1
    ·rw [if_pos c5] at H
     have c5b0 : decide (0 ≤ x11_1) = true := decide_eq_true c5
     clear c5
     by_cases c6 : x11_1 < (l0.length : Int)
     ·rw [if_pos c6] at H
      have c6b0 : decide (x11_1 < (l0.length : Int)) = true := decide_eq_true c6
      clear c6
      replace H := Option.bind_eq_some_iff.mp H
      obtain ⟨⟨t392, t393⟩, A70, H⟩ := H
      replace H : (if t393 = true then (if (l0.length : Int) > 200 then (some (⟨#[]⟩ : ByteArray)) else (if x3_1.length < 8796093022208 then (impl_MovesText.l0 k1 l0 (x3_1 ++ [t392]) l0 (l0.length : Int) (wrap64 (x11_1 + 1))) else (none))) else (some (⟨#[]⟩ : ByteArray))) = some r := H
      have A7 := Aside0.mk A70
      clear A70
      by_cases c8 : t393 = true
      ·subst c8
       have H1 : (if (l0.length : Int) > 200 then (some (⟨#[]⟩ : ByteArray)) else (if x3_1.length < 8796093022208 then (impl_MovesText.l0 k1 l0 (x3_1 ++ [t392]) l0 (l0.length : Int) (wrap64 (x11_1 + 1))) else (none))) = some r := by rw [if_pos rfl] at H; exact H
       clear H
       have H := H1
       clear H1
       by_cases c9 : (l0.length : Int) > 200
       ·rw [if_pos c9] at H
        have c9b0 : decide (200 < (l0.length : Int)) = true := decide_eq_true c9
        have c9b1 : decide (200 < l0.length) = true := decide_eq_true (by omega)
        clear c9
        obtain rfl := Option.some.inj H
        have p390 : 0 ≤ (x11_1 : Int) := asm_
        have q390 : x11_1 < (l0.length : Int) := asm_
        obtain ⟨ad390, e390, hx390_0, hx390_1, hx390_2⟩ := at_T60 HR0.out x11_1 p390 q390
        cases e390
        (try replace hx390_0 := (HB.out.cell (World.block_lt_of_cell? w _ hx390_0)).trans hx390_0)
        (try replace hx390_1 := (HB.out.cell (World.block_lt_of_cell? w _ hx390_1)).trans hx390_1)
        (try replace hx390_2 := (HB.out.cell (World.block_lt_of_cell? w _ hx390_2)).trans hx390_2)
        replace p390 := eq_true p390
        replace q390 := eq_true q390
        go_wp2_with (first | ((with_reducible refine gate_dst (N := 5) rfl ?_); refine box_event ?hg (N := 5) ?hd (cs := #[.int .i8 0, .int .i8 0, .int .i8 0]) (t := 60) ?hr ?_; (case hd => rfl); (case hg => rfl); (case hr => first | (go_simp; done) | (go_simp; rfl)); intro gb391 hg w10 hbox hb; have n0_ := A_ (Kd.R_below (pr_ HO_3) hb); have n1_ := A_ (below_step (bl_ HB) hb); have n2_ := A_ (hbox); have n3_ := A_ ((by rw [hg]; exact (below_size (bl_ HB)) : w.heap.size ≤ gb391)); have n4_ := n3_; clear HO_3; clear HB; have HO_3 := n0_; have HB := n1_; have BK391 := n2_; have GW391 := n3_; have GE391 := n4_; clear n0_ n1_ n2_ n3_ n4_; clear hb hbox hg; obtain ⟨hcz11_0, hcz11_1, hcz11_2, hfz11_0, hfz11_1, hfz11_2⟩ := cl3_ BK391) | ((with_reducible refine gate_callee (f := 82) rfl ?_); refine goesL_ (some 17) rfl rfl Try.func82 (by kernel_rfl) rfl #[.agg #[.int .i8 ((rd_T60 l0 x11_1).f0), .int .i8 ((rd_T60 l0 x11_1).f1), .int .i8 ((rd_T60 l0 x11_1).f2)]] rfl arg_ ?_; (with_reducible refine (impl_Move_text.calls k1 ((rd_T60 l0 x11_1).f0) ((rd_T60 l0 x11_1).f1) ((rd_T60 l0 x11_1).f2) t392 true _ A7.out).mono ?_); rintro e w12 ⟨rfl, hb⟩; refine ⟨_, rfl, ?_⟩; have n0_ := A_ (Kd.R_below (by (with_reducible repeat (first | apply Kd.R_alloc | apply Kd.R_drewN | apply Kd.R_drew)); exact (rf3_ HO_3 BK391 (by decide))) hb); have n1_ := A_ (blk_below (g := gb391) (o := .cells #[.int .i8 ((rd_T60 l0 x11_1).f0), .int .i8 ((rd_T60 l0 x11_1).f1), .int .i8 ((rd_T60 l0 x11_1).f2)] 60 (0, 0)) (by (with_reducible repeat (first | refine blk_drewN ?_ _ | refine blk_drew ?_ | refine blk_alloc ?_ _)); refine blk_put (cs := #[.int .i8 ((rd_T60 l0 x11_1).f0), .int .i8 ((rd_T60 l0 x11_1).f1), .int .i8 0]) ?_ 2 _ rfl; (with_reducible repeat (first | refine blk_drewN ?_ _ | refine blk_drew ?_ | refine blk_alloc ?_ _)); refine blk_put (cs := #[.int .i8 ((rd_T60 l0 x11_1).f0), .int .i8 0, .int .i8 0]) ?_ 1 _ rfl; (with_reducible repeat (first | refine blk_drewN ?_ _ | refine blk_drew ?_ | refine blk_alloc ?_ _)); refine blk_put (cs := #[.int .i8 0, .int .i8 0, .int .i8 0]) ?_ 0 _ rfl; (with_reducible repeat (first | refine blk_drewN ?_ _ | refine blk_drew ?_ | refine blk_alloc ?_ _)); exact BK391.out) hb); have n2_ := A_ (below_step (bs_ HB GE391) hb); clear HO_3; clear BK391; clear HB; have HO_3 := n0_; have BK391 := n1_; have HB := n2_; clear n0_ n1_ n2_; (try clear hb); (try clear hb2); (try clear hk); (try clear hi)))
        go_ret
        exact ⟨by first | rfl | (simp [errW_none, errW_some] <;> rfl) | (simp [*, errW_none, errW_some] <;> rfl), bl_ HB⟩
       ·rw [if_neg c9] at H
        have c9b0 : decide (200 < (l0.length : Int)) = false := decide_eq_false c9
        have c9b1 : decide (200 < l0.length) = false := decide_eq_false (by omega)
        clear c9
        by_cases c13 : x3_1.length < 8796093022208
        ·rw [if_pos c13] at H
         have LMc13 := Aside0.mk c13
         clear c13
         obtain ⟨y394, hy394⟩ : ∃ y_ : List ByteArray, y_ = (x3_1 ++ [t392]) := ⟨_, rfl⟩
         replace H : (impl_MovesText.l0 k1 l0 y394 l0 (l0.length : Int) (wrap64 (x11_1 + 1))) = some r := by first | (rw [hy394]; with_reducible exact H) | (have H2_ := (Option.bind_some _ _).symm.trans H; rw [hy394]; with_reducible exact H2_) | (have H2_ := (Option.bind_some _ _).symm.trans H; with_reducible exact H2_) | with_reducible exact H | (rw [hy394]; exact H) | exact H
         have Ny394 := Aside0.mk hy394
         clear hy394
         have H' := Aside0.mk H
         clear H
         have p390 : 0 ≤ (x11_1 : Int) := asm_
         have q390 : x11_1 < (l0.length : Int) := asm_
         obtain ⟨ad390, e390, hx390_0, hx390_1, hx390_2⟩ := at_T60 HR0.out x11_1 p390 q390
         cases e390
         (try replace hx390_0 := (HB.out.cell (World.block_lt_of_cell? w _ hx390_0)).trans hx390_0)
         (try replace hx390_1 := (HB.out.cell (World.block_lt_of_cell? w _ hx390_1)).trans hx390_1)
         (try replace hx390_2 := (HB.out.cell (World.block_lt_of_cell? w _ hx390_2)).trans hx390_2)
         replace p390 := eq_true p390
         replace q390 := eq_true q390
         go_wp2_with (first | ((with_reducible refine gate_dst (N := 5) rfl ?_); refine box_event ?hg (N := 5) ?hd (cs := #[.int .i8 0, .int .i8 0, .int .i8 0]) (t := 60) ?hr ?_; (case hd => rfl); (case hg => rfl); (case hr => first | (go_simp; done) | (go_simp; rfl)); intro gb391 hg w14 hbox hb; have n0_ := A_ (Kd.R_below (pr_ HO_3) hb); have n1_ := A_ (below_step (bl_ HB) hb); have n2_ := A_ (hbox); have n3_ := A_ ((by rw [hg]; exact (below_size (bl_ HB)) : w.heap.size ≤ gb391)); have n4_ := n3_; clear HO_3; clear HB; have HO_3 := n0_; have HB := n1_; have BK391 := n2_; have GW391 := n3_; have GE391 := n4_; clear n0_ n1_ n2_ n3_ n4_; clear hb hbox hg; obtain ⟨hcz15_0, hcz15_1, hcz15_2, hfz15_0, hfz15_1, hfz15_2⟩ := cl3_ BK391) | ((with_reducible refine gate_callee (f := 82) rfl ?_); refine goesL_ (some 17) rfl rfl Try.func82 (by kernel_rfl) rfl #[.agg #[.int .i8 ((rd_T60 l0 x11_1).f0), .int .i8 ((rd_T60 l0 x11_1).f1), .int .i8 ((rd_T60 l0 x11_1).f2)]] rfl arg_ ?_; (with_reducible refine (impl_Move_text.calls k1 ((rd_T60 l0 x11_1).f0) ((rd_T60 l0 x11_1).f1) ((rd_T60 l0 x11_1).f2) t392 true _ A7.out).mono ?_); rintro e w16 ⟨rfl, hb⟩; refine ⟨_, rfl, ?_⟩; have n0_ := A_ (Kd.R_below (by (with_reducible repeat (first | apply Kd.R_alloc | apply Kd.R_drewN | apply Kd.R_drew)); exact (rf3_ HO_3 BK391 (by decide))) hb); have n1_ := A_ (blk_below (g := gb391) (o := .cells #[.int .i8 ((rd_T60 l0 x11_1).f0), .int .i8 ((rd_T60 l0 x11_1).f1), .int .i8 ((rd_T60 l0 x11_1).f2)] 60 (0, 0)) (by (with_reducible repeat (first | refine blk_drewN ?_ _ | refine blk_drew ?_ | refine blk_alloc ?_ _)); refine blk_put (cs := #[.int .i8 ((rd_T60 l0 x11_1).f0), .int .i8 ((rd_T60 l0 x11_1).f1), .int .i8 0]) ?_ 2 _ rfl; (with_reducible repeat (first | refine blk_drewN ?_ _ | refine blk_drew ?_ | refine blk_alloc ?_ _)); refine blk_put (cs := #[.int .i8 ((rd_T60 l0 x11_1).f0), .int .i8 0, .int .i8 0]) ?_ 1 _ rfl; (with_reducible repeat (first | refine blk_drewN ?_ _ | refine blk_drew ?_ | refine blk_alloc ?_ _)); refine blk_put (cs := #[.int .i8 0, .int .i8 0, .int .i8 0]) ?_ 0 _ rfl; (with_reducible repeat (first | refine blk_drewN ?_ _ | refine blk_drew ?_ | refine blk_alloc ?_ _)); exact BK391.out) hb); have n2_ := A_ (below_step (bs_ HB GE391) hb); clear HO_3; clear BK391; clear HB; have HO_3 := n0_; have BK391 := n1_; have HB := n2_; clear n0_ n1_ n2_; (try clear hb); (try clear hb2); (try clear hk); (try clear hi)) | ((with_reducible refine gate_builtin (b := .append) (xs := #[.tmp 27, .tmp 29]) rfl ?_); at_builtin; refine Kd.R_append Kd.string (w0 := w) w.heap.size rfl (.tmp 27) (.tmp 29) 94 9 (.string ⟨#[]⟩) 16 rfl Try.underlying94 info9 rfl (by decide) (by omega) u3 x3_1 t392 [.string t392] (fun _ => True) (fun _ => False) rfl rfl ?aP (fun _ hk => hk.elim) ?aF ?aO ?aB ?aS ?aL ?_; (case aP => exact rfl); (case aB => exact (bl_ HB)); (case aF => exact (fun _ _ => trivial)); (case aO => exact (pr_ HO_3)); (case aS => exact (below_size (bl_ HB))); (case aL => have := LMc13.out; omega); intro v395 w17 ho hb hg hat; rw [← Ny394.out] at ho; have n0_ := A_ (blk_grown (pl_ BK391) hg (Kd.R_ne HO_3.out BK391.out (by decide))); have n1_ := A_ (hb); have n2_ := A_ (ho); clear BK391; clear HB; clear HO_3; have BK391 := n0_; have HB := n1_; have HO396 := n2_; clear n0_ n1_ n2_; clear ho hb hg hat))
         go_roundg k1
         case measure => have := HK1.out; omega
         case rel => exact ⟨(y394), (wrap64 (x11_1 + 1)), rs_, H', ⟨by have := HK1.out; omega⟩, ⟨pr_ HO396⟩, ⟨bl_ HB⟩⟩
        ·rw [if_neg c13] at H
         exact absurd H (by simp)
      ·replace c8 := Bool.eq_false_iff.mpr c8
       subst c8
       have H1 : (some (⟨#[]⟩ : ByteArray)) = some r := by rw [if_neg (show ¬ (false = true) by decide)] at H; exact H
       clear H
       have H := H1
       clear H1
       obtain rfl := Option.some.inj H
       have p390 : 0 ≤ (x11_1 : Int) := asm_
       have q390 : x11_1 < (l0.length : Int) := asm_
       obtain ⟨ad390, e390, hx390_0, hx390_1, hx390_2⟩ := at_T60 HR0.out x11_1 p390 q390
       cases e390
       (try replace hx390_0 := (HB.out.cell (World.block_lt_of_cell? w _ hx390_0)).trans hx390_0)
       (try replace hx390_1 := (HB.out.cell (World.block_lt_of_cell? w _ hx390_1)).trans hx390_1)
       (try replace hx390_2 := (HB.out.cell (World.block_lt_of_cell? w _ hx390_2)).trans hx390_2)
       replace p390 := eq_true p390
       replace q390 := eq_true q390
       go_wp2_with (first | ((with_reducible refine gate_dst (N := 5) rfl ?_); refine box_event ?hg (N := 5) ?hd (cs := #[.int .i8 0, .int .i8 0, .int .i8 0]) (t := 60) ?hr ?_; (case hd => rfl); (case hg => rfl); (case hr => first | (go_simp; done) | (go_simp; rfl)); intro gb391 hg w18 hbox hb; have n0_ := A_ (Kd.R_below (pr_ HO_3) hb); have n1_ := A_ (below_step (bl_ HB) hb); have n2_ := A_ (hbox); have n3_ := A_ ((by rw [hg]; exact (below_size (bl_ HB)) : w.heap.size ≤ gb391)); have n4_ := n3_; clear HO_3; clear HB; have HO_3 := n0_; have HB := n1_; have BK391 := n2_; have GW391 := n3_; have GE391 := n4_; clear n0_ n1_ n2_ n3_ n4_; clear hb hbox hg; obtain ⟨hcz19_0, hcz19_1, hcz19_2, hfz19_0, hfz19_1, hfz19_2⟩ := cl3_ BK391) | ((with_reducible refine gate_callee (f := 82) rfl ?_); refine goesL_ (some 17) rfl rfl Try.func82 (by kernel_rfl) rfl #[.agg #[.int .i8 ((rd_T60 l0 x11_1).f0), .int .i8 ((rd_T60 l0 x11_1).f1), .int .i8 ((rd_T60 l0 x11_1).f2)]] rfl arg_ ?_; (with_reducible refine (impl_Move_text.calls k1 ((rd_T60 l0 x11_1).f0) ((rd_T60 l0 x11_1).f1) ((rd_T60 l0 x11_1).f2) t392 false _ A7.out).mono ?_); rintro e w20 ⟨rfl, hb⟩; refine ⟨_, rfl, ?_⟩; have n0_ := A_ (Kd.R_below (by (with_reducible repeat (first | apply Kd.R_alloc | apply Kd.R_drewN | apply Kd.R_drew)); exact (rf3_ HO_3 BK391 (by decide))) hb); have n1_ := A_ (blk_below (g := gb391) (o := .cells #[.int .i8 ((rd_T60 l0 x11_1).f0), .int .i8 ((rd_T60 l0 x11_1).f1), .int .i8 ((rd_T60 l0 x11_1).f2)] 60 (0, 0)) (by (with_reducible repeat (first | refine blk_drewN ?_ _ | refine blk_drew ?_ | refine blk_alloc ?_ _)); refine blk_put (cs := #[.int .i8 ((rd_T60 l0 x11_1).f0), .int .i8 ((rd_T60 l0 x11_1).f1), .int .i8 0]) ?_ 2 _ rfl; (with_reducible repeat (first | refine blk_drewN ?_ _ | refine blk_drew ?_ | refine blk_alloc ?_ _)); refine blk_put (cs := #[.int .i8 ((rd_T60 l0 x11_1).f0), .int .i8 0, .int .i8 0]) ?_ 1 _ rfl; (with_reducible repeat (first | refine blk_drewN ?_ _ | refine blk_drew ?_ | refine blk_alloc ?_ _)); refine blk_put (cs := #[.int .i8 0, .int .i8 0, .int .i8 0]) ?_ 0 _ rfl; (with_reducible repeat (first | refine blk_drewN ?_ _ | refine blk_drew ?_ | refine blk_alloc ?_ _)); exact BK391.out) hb); have n2_ := A_ (below_step (bs_ HB GE391) hb); clear HO_3; clear BK391; clear HB; have HO_3 := n0_; have BK391 := n1_; have HB := n2_; clear n0_ n1_ n2_; (try clear hb); (try clear hb2); (try clear hk); (try clear hi)))
       go_ret
       exact ⟨by first | rfl | (simp [errW_none, errW_some] <;> rfl) | (simp [*, errW_none, errW_some] <;> rfl), bl_ HB⟩
     ·rw [if_neg c6] at H
      exact absurd H (by simp)
    ·rw [if_neg c5] at H
     exact absurd H (by simp)
   ·rw [if_neg c4] at H
    have c4b0 : decide (x11_1 < (l0.length : Int)) = false := decide_eq_false c4
    clear c4
    replace H := Option.bind_eq_some_iff.mp H
    obtain ⟨t397, A210, H⟩ := H
    replace H : (some t397) = some r := H
    have A21 := Aside0.mk A210
    clear A210
    obtain rfl := Option.some.inj H
    obtain ⟨Ao22, co22, eo22⟩ := Kd.R_slice HO_3.out
    subst eo22
    go_wp2_with (first | ((with_reducible refine gate_callee (f := 83) rfl ?_); refine goesL_ (some 33) rfl rfl Try.func83 (by kernel_rfl) rfl #[.slice Ao22 x3_1.length co22, .string (⟨#[32]⟩ : ByteArray)] rfl arg_ ?_; (with_reducible refine (strings_Join.calls _ _ x3_1 (⟨#[32]⟩ : ByteArray) t397 _ ?side1 ?side2 A21.out).mono ?_); (case side1 => repeat (first | exact (Kd.R_reads' HO_3.out).2.2 | (with_reducible refine Kd.C_alloc ?_ _) | (with_reducible refine Kd.C_drewN ?_ _) | (with_reducible refine Kd.C_drew ?_))); (case side2 => exact (Kd.R_reads' HO_3.out).2.1); rintro e w23 ⟨rfl, hb⟩; refine ⟨_, rfl, ?_⟩; have n0_ := A_ (Kd.R_below (pr_ HO_3) hb); have n1_ := A_ (below_step (bl_ HB) hb); clear HO_3; clear HB; have HO_3 := n0_; have HB := n1_; clear n0_ n1_; (try clear hb); (try clear hb2); (try clear hk); (try clear hi)))
    go_ret
    exact ⟨by first | rfl | (simp [errW_none, errW_some] <;> rfl) | (simp [*, errW_none, errW_some] <;> rfl), bl_ HB⟩

/-! ### laws_eqMove: function 84 -/
def laws_eqMove.f (a0_0 : Int) (a0_1 : Int) (a0_2 : Int) (a1_0 : Int) (a1_1 : Int) (a1_2 : Int) : Option (Bool) := if a0_0 = a1_0 then (if a0_1 = a1_1 then (if a0_2 = a1_2 then (some true) else (some false)) else (some false)) else (some false)
set_option maxHeartbeats 8000000 in
set_option maxRecDepth 100000 in
theorem laws_eqMove.calls (a0_0 : Int) (a0_1 : Int) (a0_2 : Int) (a1_0 : Int) (a1_1 : Int) (a1_2 : Int) (r : Bool) (w : World) (h : laws_eqMove.f a0_0 a0_1 a0_2 a1_0 a1_1 a1_2 = some r) :
  Calls Try.prog 84 #[.agg #[.int .i8 a0_0, .int .i8 a0_1, .int .i8 a0_2], .agg #[.int .i8 a1_0, .int .i8 a1_1, .int .i8 a1_2]] w fun e w' => e = .returned (.bool r) ∧ Below w.heap.size w w' := by
 have hu60 := Try.underlying60
 have HB := A_ (Below.refl w.heap.size w)
 have H : (if a0_0 = a1_0 then (if a0_1 = a1_1 then (if a0_2 = a1_2 then (some true) else (some false)) else (some false)) else (some false)) = some r := h
 clear h
 by_cases c3 : a0_0 = a1_0
 ·rw [if_pos c3] at H
  have c3b0 : (a0_0 == a1_0) = true := beq_iff_eq.mpr c3
  have c3b1 : (a0_0 != a1_0) = false := bne_eq_false_iff_eq.mpr c3
  clear c3
  by_cases c4 : a0_1 = a1_1
  ·rw [if_pos c4] at H
   have c4b0 : (a0_1 == a1_1) = true := beq_iff_eq.mpr c4
   have c4b1 : (a0_1 != a1_1) = false := bne_eq_false_iff_eq.mpr c4
   clear c4
   by_cases c5 : a0_2 = a1_2
   ·rw [if_pos c5] at H
    have c5b0 : (a0_2 == a1_2) = true := beq_iff_eq.mpr c5
    have c5b1 : (a0_2 != a1_2) = false := bne_eq_false_iff_eq.mpr c5
    clear c5
    obtain rfl := Option.some.inj H
    go_enter Try.func84, Try.ntmps84
    go_wp2_with (first | ((with_reducible refine gate_dst (N := 2) rfl ?_); refine box_event ?hg (N := 2) ?hd (cs := #[.int .i8 a0_0, .int .i8 a0_1, .int .i8 a0_2]) (t := 60) ?hr ?_; (case hd => rfl); (case hg => rfl); (case hr => first | (go_simp; done) | (go_simp; rfl)); intro gb398 hg w6 hbox hb; have n0_ := A_ (below_step (bl_ HB) hb); have n1_ := A_ (hbox); have n2_ := A_ ((by rw [hg]; exact (below_size (bl_ HB)) : w.heap.size ≤ gb398)); have n3_ := n2_; clear HB; have HB := n0_; have BK398 := n1_; have GW398 := n2_; have GE398 := n3_; clear n0_ n1_ n2_ n3_; clear hb hbox hg) | ((with_reducible refine gate_dst (N := 3) rfl ?_); refine box_event ?hg (N := 3) ?hd (cs := #[.int .i8 a1_0, .int .i8 a1_1, .int .i8 a1_2]) (t := 60) ?hr ?_; (case hd => rfl); (case hg => rfl); (case hr => first | (go_simp; done) | (go_simp; rfl)); intro gb399 hg w7 hbox hb; have n0_ := A_ (blk_below (pl_ BK398) hb); have n1_ := A_ (below_step (bl_ HB) hb); have n2_ := A_ (hbox); have n3_ := A_ ((by rw [hg]; exact (below_size (bl_ HB)) : w.heap.size ≤ gb399)); have n4_ := n3_; have n5_ := A_ ((by rw [hg]; exact Nat.ne_of_lt (blk_lt (pl_ BK398)) : gb398 ≠ gb399)); have n6_ := Aside0.mk n5_.out.symm; clear BK398; clear HB; have BK398 := n0_; have HB := n1_; have BK399 := n2_; have GW399 := n3_; have GE399 := n4_; have NB398_399 := n5_; have NB399_398 := n6_; clear n0_ n1_ n2_ n3_ n4_ n5_ n6_; clear hb hbox hg; have hnb8 := NB398_399.out; have hnc8 := NB399_398.out; obtain ⟨hcz9_0, hcz9_1, hcz9_2, hfz9_0, hfz9_1, hfz9_2⟩ := cl3_ BK398; obtain ⟨hcz10_0, hcz10_1, hcz10_2, hfz10_0, hfz10_1, hfz10_2⟩ := cl3_ BK399))
    go_ret
    exact ⟨by first | rfl | (simp [errW_none, errW_some] <;> rfl) | (simp [*, errW_none, errW_some] <;> rfl), bl_ HB⟩
   ·rw [if_neg c5] at H
    have c5b0 : (a0_2 == a1_2) = false := beq_eq_false_iff_ne.mpr c5
    have c5b1 : (a0_2 != a1_2) = true := bne_iff_ne.mpr c5
    obtain rfl := Option.some.inj H
    go_enter Try.func84, Try.ntmps84
    go_wp2_with (first | ((with_reducible refine gate_dst (N := 2) rfl ?_); refine box_event ?hg (N := 2) ?hd (cs := #[.int .i8 a0_0, .int .i8 a0_1, .int .i8 a0_2]) (t := 60) ?hr ?_; (case hd => rfl); (case hg => rfl); (case hr => first | (go_simp; done) | (go_simp; rfl)); intro gb398 hg w11 hbox hb; have n0_ := A_ (below_step (bl_ HB) hb); have n1_ := A_ (hbox); have n2_ := A_ ((by rw [hg]; exact (below_size (bl_ HB)) : w.heap.size ≤ gb398)); have n3_ := n2_; clear HB; have HB := n0_; have BK398 := n1_; have GW398 := n2_; have GE398 := n3_; clear n0_ n1_ n2_ n3_; clear hb hbox hg) | ((with_reducible refine gate_dst (N := 3) rfl ?_); refine box_event ?hg (N := 3) ?hd (cs := #[.int .i8 a1_0, .int .i8 a1_1, .int .i8 a1_2]) (t := 60) ?hr ?_; (case hd => rfl); (case hg => rfl); (case hr => first | (go_simp; done) | (go_simp; rfl)); intro gb399 hg w12 hbox hb; have n0_ := A_ (blk_below (pl_ BK398) hb); have n1_ := A_ (below_step (bl_ HB) hb); have n2_ := A_ (hbox); have n3_ := A_ ((by rw [hg]; exact (below_size (bl_ HB)) : w.heap.size ≤ gb399)); have n4_ := n3_; have n5_ := A_ ((by rw [hg]; exact Nat.ne_of_lt (blk_lt (pl_ BK398)) : gb398 ≠ gb399)); have n6_ := Aside0.mk n5_.out.symm; clear BK398; clear HB; have BK398 := n0_; have HB := n1_; have BK399 := n2_; have GW399 := n3_; have GE399 := n4_; have NB398_399 := n5_; have NB399_398 := n6_; clear n0_ n1_ n2_ n3_ n4_ n5_ n6_; clear hb hbox hg; have hnb13 := NB398_399.out; have hnc13 := NB399_398.out; obtain ⟨hcz14_0, hcz14_1, hcz14_2, hfz14_0, hfz14_1, hfz14_2⟩ := cl3_ BK398; obtain ⟨hcz15_0, hcz15_1, hcz15_2, hfz15_0, hfz15_1, hfz15_2⟩ := cl3_ BK399))
    go_ret
    exact ⟨by first | rfl | (simp [errW_none, errW_some] <;> rfl) | (simp [*, errW_none, errW_some] <;> rfl), bl_ HB⟩
  ·rw [if_neg c4] at H
   have c4b0 : (a0_1 == a1_1) = false := beq_eq_false_iff_ne.mpr c4
   have c4b1 : (a0_1 != a1_1) = true := bne_iff_ne.mpr c4
   obtain rfl := Option.some.inj H
   go_enter Try.func84, Try.ntmps84
   go_wp2_with (first | ((with_reducible refine gate_dst (N := 2) rfl ?_); refine box_event ?hg (N := 2) ?hd (cs := #[.int .i8 a0_0, .int .i8 a0_1, .int .i8 a0_2]) (t := 60) ?hr ?_; (case hd => rfl); (case hg => rfl); (case hr => first | (go_simp; done) | (go_simp; rfl)); intro gb398 hg w16 hbox hb; have n0_ := A_ (below_step (bl_ HB) hb); have n1_ := A_ (hbox); have n2_ := A_ ((by rw [hg]; exact (below_size (bl_ HB)) : w.heap.size ≤ gb398)); have n3_ := n2_; clear HB; have HB := n0_; have BK398 := n1_; have GW398 := n2_; have GE398 := n3_; clear n0_ n1_ n2_ n3_; clear hb hbox hg) | ((with_reducible refine gate_dst (N := 3) rfl ?_); refine box_event ?hg (N := 3) ?hd (cs := #[.int .i8 a1_0, .int .i8 a1_1, .int .i8 a1_2]) (t := 60) ?hr ?_; (case hd => rfl); (case hg => rfl); (case hr => first | (go_simp; done) | (go_simp; rfl)); intro gb399 hg w17 hbox hb; have n0_ := A_ (blk_below (pl_ BK398) hb); have n1_ := A_ (below_step (bl_ HB) hb); have n2_ := A_ (hbox); have n3_ := A_ ((by rw [hg]; exact (below_size (bl_ HB)) : w.heap.size ≤ gb399)); have n4_ := n3_; have n5_ := A_ ((by rw [hg]; exact Nat.ne_of_lt (blk_lt (pl_ BK398)) : gb398 ≠ gb399)); have n6_ := Aside0.mk n5_.out.symm; clear BK398; clear HB; have BK398 := n0_; have HB := n1_; have BK399 := n2_; have GW399 := n3_; have GE399 := n4_; have NB398_399 := n5_; have NB399_398 := n6_; clear n0_ n1_ n2_ n3_ n4_ n5_ n6_; clear hb hbox hg; have hnb18 := NB398_399.out; have hnc18 := NB399_398.out; obtain ⟨hcz19_0, hcz19_1, hcz19_2, hfz19_0, hfz19_1, hfz19_2⟩ := cl3_ BK398; obtain ⟨hcz20_0, hcz20_1, hcz20_2, hfz20_0, hfz20_1, hfz20_2⟩ := cl3_ BK399))
   go_ret
   exact ⟨by first | rfl | (simp [errW_none, errW_some] <;> rfl) | (simp [*, errW_none, errW_some] <;> rfl), bl_ HB⟩
 ·rw [if_neg c3] at H
  have c3b0 : (a0_0 == a1_0) = false := beq_eq_false_iff_ne.mpr c3
  have c3b1 : (a0_0 != a1_0) = true := bne_iff_ne.mpr c3
  obtain rfl := Option.some.inj H
  go_enter Try.func84, Try.ntmps84
  go_wp2_with (first | ((with_reducible refine gate_dst (N := 2) rfl ?_); refine box_event ?hg (N := 2) ?hd (cs := #[.int .i8 a0_0, .int .i8 a0_1, .int .i8 a0_2]) (t := 60) ?hr ?_; (case hd => rfl); (case hg => rfl); (case hr => first | (go_simp; done) | (go_simp; rfl)); intro gb398 hg w21 hbox hb; have n0_ := A_ (below_step (bl_ HB) hb); have n1_ := A_ (hbox); have n2_ := A_ ((by rw [hg]; exact (below_size (bl_ HB)) : w.heap.size ≤ gb398)); have n3_ := n2_; clear HB; have HB := n0_; have BK398 := n1_; have GW398 := n2_; have GE398 := n3_; clear n0_ n1_ n2_ n3_; clear hb hbox hg) | ((with_reducible refine gate_dst (N := 3) rfl ?_); refine box_event ?hg (N := 3) ?hd (cs := #[.int .i8 a1_0, .int .i8 a1_1, .int .i8 a1_2]) (t := 60) ?hr ?_; (case hd => rfl); (case hg => rfl); (case hr => first | (go_simp; done) | (go_simp; rfl)); intro gb399 hg w22 hbox hb; have n0_ := A_ (blk_below (pl_ BK398) hb); have n1_ := A_ (below_step (bl_ HB) hb); have n2_ := A_ (hbox); have n3_ := A_ ((by rw [hg]; exact (below_size (bl_ HB)) : w.heap.size ≤ gb399)); have n4_ := n3_; have n5_ := A_ ((by rw [hg]; exact Nat.ne_of_lt (blk_lt (pl_ BK398)) : gb398 ≠ gb399)); have n6_ := Aside0.mk n5_.out.symm; clear BK398; clear HB; have BK398 := n0_; have HB := n1_; have BK399 := n2_; have GW399 := n3_; have GE399 := n4_; have NB398_399 := n5_; have NB399_398 := n6_; clear n0_ n1_ n2_ n3_ n4_ n5_ n6_; clear hb hbox hg; have hnb23 := NB398_399.out; have hnc23 := NB399_398.out; obtain ⟨hcz24_0, hcz24_1, hcz24_2, hfz24_0, hfz24_1, hfz24_2⟩ := cl3_ BK398; obtain ⟨hcz25_0, hcz25_1, hcz25_2, hfz25_0, hfz25_1, hfz25_2⟩ := cl3_ BK399))
  go_ret
  exact ⟨by first | rfl | (simp [errW_none, errW_some] <;> rfl) | (simp [*, errW_none, errW_some] <;> rfl), bl_ HB⟩

end Go.Proofs.Ytodmfjophjhbeaa.M
