-- By this seat's own program over the kit's printer (arrays, functions told by hand); nothing of it is trusted: the kernel checks it.
import Derived.Test.YtodmfjophjhbeaaDoorMx0
import Derived.Test.YtodmfjophjhbeaaDoorMx5
namespace Go.Proofs.YtodmfjophjhbeaaDoor.M
open Go.RowKit Go.Proofs.YtodmfjophjhbeaaDoorW.PrintWords Go.Proofs.YtodmfjophjhbeaaDoorW.PrintLast Go.Proofs.YtodmfjophjhbeaaDoorW.PrintMore
attribute [local go_sem] max2_int min2_int max_two min_two max_three min_three max_four min_four   -- for this text's walks alone
set_option linter.unusedVariables false
set_option linter.unusedSimpArgs false

/-! ### impl_readMove: function 29 -/
mutual
def impl_readMove.l0 : Nat → ByteArray → Int → Option (Int × Int × Int × Bool)
 | 0, _, _ => none
 | k + 1, x0, x4 => if x4 ≤ 2 then (impl_readMove.l1 k x0 x4 0) else (some (0, 0, 0, false))
def impl_readMove.l1 : Nat → ByteArray → Int → Int → Option (Int × Int × Int × Bool)
 | 0, _, _, _ => none
 | k + 1, x0, x4, x14 => if x14 < 4 then (impl_readMove.l2 k x0 x4 x14 x14 0) else (impl_readMove.l0 k x0 (IntKind.i8.wrap (x4 + 1)))
def impl_readMove.l2 : Nat → ByteArray → Int → Int → Int → Int → Option (Int × Int × Int × Bool)
 | 0, _, _, _, _, _ => none
 | k + 1, x0, x4, x5, x14, x17 => if x17 < 4 then ((impl_Move_text.f k x4 x5 x17).bind fun bt154 => (if bt154.2 = true then (if bt154.1.toList = x0.toList then (some (x4, x5, x17, true)) else (impl_readMove.l2 k x0 x4 x5 x14 (IntKind.i8.wrap (x17 + 1)))) else (impl_readMove.l2 k x0 x4 x5 x14 (IntKind.i8.wrap (x17 + 1))))) else (impl_readMove.l1 k x0 x4 (IntKind.i8.wrap (x14 + 1)))
end
def impl_readMove.f (k : Nat) (a0 : ByteArray) : Option (Int × Int × Int × Bool) := impl_readMove.l0 k a0 0
theorem impl_readMove.mono_l : ∀ k, (∀ y0 y1, LeO (impl_readMove.l0 k y0 y1) (impl_readMove.l0 (k + 1) y0 y1)) ∧ (∀ y0 y1 y2, LeO (impl_readMove.l1 k y0 y1 y2) (impl_readMove.l1 (k + 1) y0 y1 y2)) ∧ (∀ y0 y1 y2 y3 y4, LeO (impl_readMove.l2 k y0 y1 y2 y3 y4) (impl_readMove.l2 (k + 1) y0 y1 y2 y3 y4))
 | 0 => ⟨fun _ _ r h => by simp [impl_readMove.l0] at h, fun _ _ _ r h => by simp [impl_readMove.l1] at h, fun _ _ _ _ _ r h => by simp [impl_readMove.l2] at h⟩
 | k + 1 => by
  obtain ⟨ih0, ih1, ih2⟩ := impl_readMove.mono_l k
  refine ⟨?_, ?_, ?_⟩
  ·intro y0 y1
   unfold impl_readMove.l0
   repeat' first
   | (with_reducible exact ih0 _ _)
   | (with_reducible exact ih1 _ _ _)
   | (with_reducible exact ih2 _ _ _ _ _)
   | (with_reducible exact impl_Move_text.mono _ _ _ _)
   | (with_reducible exact LeO.refl _)
   | (with_reducible exact LeO.none _)
   | (with_reducible refine LeO.ite ?_ ?_)
   | (with_reducible refine LeO.bind ?_ (fun _ => ?_))
   | exact ih0 _ _
   | exact ih1 _ _ _
   | exact ih2 _ _ _ _ _
   | exact impl_Move_text.mono _ _ _ _
   | exact LeO.none _
   | refine LeO.ite ?_ ?_
   | refine LeO.bind ?_ (fun _ => ?_)
  ·intro y0 y1 y2
   unfold impl_readMove.l1
   repeat' first
   | (with_reducible exact ih0 _ _)
   | (with_reducible exact ih1 _ _ _)
   | (with_reducible exact ih2 _ _ _ _ _)
   | (with_reducible exact impl_Move_text.mono _ _ _ _)
   | (with_reducible exact LeO.refl _)
   | (with_reducible exact LeO.none _)
   | (with_reducible refine LeO.ite ?_ ?_)
   | (with_reducible refine LeO.bind ?_ (fun _ => ?_))
   | exact ih0 _ _
   | exact ih1 _ _ _
   | exact ih2 _ _ _ _ _
   | exact impl_Move_text.mono _ _ _ _
   | exact LeO.none _
   | refine LeO.ite ?_ ?_
   | refine LeO.bind ?_ (fun _ => ?_)
  ·intro y0 y1 y2 y3 y4
   unfold impl_readMove.l2
   repeat' first
   | (with_reducible exact ih0 _ _)
   | (with_reducible exact ih1 _ _ _)
   | (with_reducible exact ih2 _ _ _ _ _)
   | (with_reducible exact impl_Move_text.mono _ _ _ _)
   | (with_reducible exact LeO.refl _)
   | (with_reducible exact LeO.none _)
   | (with_reducible refine LeO.ite ?_ ?_)
   | (with_reducible refine LeO.bind ?_ (fun _ => ?_))
   | exact ih0 _ _
   | exact ih1 _ _ _
   | exact ih2 _ _ _ _ _
   | exact impl_Move_text.mono _ _ _ _
   | exact LeO.none _
   | refine LeO.ite ?_ ?_
   | refine LeO.bind ?_ (fun _ => ?_)
theorem impl_readMove.mono : ∀ a0 k, LeO (impl_readMove.f k a0) (impl_readMove.f (k + 1) a0) := by
 intro a0 k
 obtain ⟨ih0, ih1, ih2⟩ := impl_readMove.mono_l k
 unfold impl_readMove.f
 repeat' first
   | (with_reducible exact ih0 _ _)
   | (with_reducible exact ih1 _ _ _)
   | (with_reducible exact ih2 _ _ _ _ _)
   | (with_reducible exact impl_Move_text.mono _ _ _ _)
   | (with_reducible exact LeO.refl _)
   | (with_reducible exact LeO.none _)
   | (with_reducible refine LeO.ite ?_ ?_)
   | (with_reducible refine LeO.bind ?_ (fun _ => ?_))
   | exact ih0 _ _
   | exact ih1 _ _ _
   | exact ih2 _ _ _ _ _
   | exact impl_Move_text.mono _ _ _ _
   | exact LeO.none _
   | refine LeO.ite ?_ ?_
   | refine LeO.bind ?_ (fun _ => ?_)
set_option maxHeartbeats 8000000 in
set_option maxRecDepth 100000 in
theorem impl_readMove.calls (k : Nat) (a0 : ByteArray) (r1 : Int) (r2 : Int) (r3 : Int) (r4 : Bool) (w : World) (h : impl_readMove.f k a0 = some (r1, r2, r3, r4)) :
  Calls Tryd.prog 29 #[.string a0] w fun e w' => e = .returned (.tuple #[.agg #[.int .i8 r1, .int .i8 r2, .int .i8 r3], .bool r4]) ∧ Below w.heap.size w w' := by
 have hu56 := Tryd.underlying56
 have HB := A_ (Below.refl w.heap.size w)
 have H : (impl_readMove.l0 k a0 0) = some (r1, r2, r3, r4) := h
 clear h
 have H' := Aside0.mk H
 clear H
 go_enter Tryd.func29, Tryd.ntmps29
 go_wp2_with (first | ((with_reducible refine gate_dst (N := 2) rfl ?_); refine box_event ?hg (N := 2) ?hd (cs := #[.int .i8 0, .int .i8 0, .int .i8 0]) (t := 56) ?hr ?_; (case hd => rfl); (case hg => rfl); (case hr => first | (go_simp; done) | (go_simp; rfl)); intro gb152 hg w2 hbox hb; have n0_ := A_ (below_step (bl_ HB) hb); have n1_ := A_ (hbox); have n2_ := A_ ((by rw [hg]; exact (below_size (bl_ HB)) : w.heap.size ≤ gb152)); have n3_ := n2_; clear HB; have HB := n0_; have BK152 := n1_; have GW152 := n2_; have GE152 := n3_; clear n0_ n1_ n2_ n3_; clear hb hbox hg))
 go_loopg [4] k (fun kq v4 w' => ∃ (x4_1 : Int) (x153000_1 : Int) (x153001_1 : Int) (x153002_1 : Int), v4 = .int .i8 x4_1 ∧ Aside0 (impl_readMove.l0 kq a0 x4_1 = some (r1, r2, r3, r4)) ∧ Aside0 (kq ≤ k) ∧ Aside0 (w'.heap[gb152]? = some (.cells #[.int .i8 x153000_1, .int .i8 x153001_1, .int .i8 x153002_1] 56 (0, 0))) ∧ Aside0 (Below w.heap.size w w'))
 case atStart => exact ⟨(0), (0), (0), (0), rs_, H', ⟨Nat.le_refl _⟩, ⟨pl_ BK152⟩, ⟨bl_ HB⟩⟩
 case round =>
  clear H'
  try clear c2
  try clear p2
  obtain ⟨x4_1, x153000_1, x153001_1, x153002_1, rfl, HA, HK1, BK152, HB⟩ := hrel
  cases gk with
  | zero => exact absurd HA.out (by simp [impl_readMove.l0])
  | succ k1 =>
   have H := HA.out
   clear HA
   simp only [impl_readMove.l0] at H
   by_cases c3 : x4_1 ≤ 2
   ·rw [if_pos c3] at H
    have c3b0 : decide (x4_1 ≤ 2) = true := decide_eq_true c3
    clear c3
    have H' := Aside0.mk H
    clear H
    go_wp2
    go_loopg [14] k1 (fun kq v14 w' => ∃ (x14_2 : Int) (x153000_2 : Int) (x153001_2 : Int) (x153002_2 : Int), v14 = .int .i8 x14_2 ∧ Aside0 (impl_readMove.l1 kq a0 x4_1 x14_2 = some (r1, r2, r3, r4)) ∧ Aside0 (kq ≤ k1) ∧ Aside0 (w'.heap[gb152]? = some (.cells #[.int .i8 x153000_2, .int .i8 x153001_2, .int .i8 x153002_2] 56 (0, 0))) ∧ Aside0 (Below w.heap.size w w'))
    case atStart => exact ⟨(0), (x153000_1), (x153001_1), (x153002_1), rs_, H', ⟨Nat.le_refl _⟩, ⟨pl_ BK152⟩, ⟨bl_ HB⟩⟩
    case round =>
     clear H'
     try clear c2
     try clear p2
     try clear c3
     try clear c3b0
     try clear p2
     obtain ⟨x14_2, x153000_2, x153001_2, x153002_2, rfl, HA, HK2, BK152, HB⟩ := hrel
     cases gk with
     | zero => exact absurd HA.out (by simp [impl_readMove.l1])
     | succ k2 =>
      have H := HA.out
      clear HA
      simp only [impl_readMove.l1] at H
      by_cases c4 : x14_2 < 4
      ·rw [if_pos c4] at H
       have c4b0 : decide (x14_2 < 4) = true := decide_eq_true c4
       clear c4
       have H' := Aside0.mk H
       clear H
       go_wp2
       go_loopg [17] k2 (fun kq v17 w' => ∃ (x17_3 : Int) (x153000_3 : Int) (x153001_3 : Int) (x153002_3 : Int), v17 = .int .i8 x17_3 ∧ Aside0 (impl_readMove.l2 kq a0 x4_1 x14_2 x14_2 x17_3 = some (r1, r2, r3, r4)) ∧ Aside0 (kq ≤ k2) ∧ Aside0 (w'.heap[gb152]? = some (.cells #[.int .i8 x153000_3, .int .i8 x153001_3, .int .i8 x153002_3] 56 (0, 0))) ∧ Aside0 (Below w.heap.size w w'))
       case atStart => exact ⟨(0), (x153000_2), (x153001_2), (x153002_2), rs_, H', ⟨Nat.le_refl _⟩, ⟨pl_ BK152⟩, ⟨bl_ HB⟩⟩
       case round =>
        clear H'
        try clear c2
        try clear p2
        try clear c3
        try clear c3b0
        try clear c4
        try clear c4b0
        try clear p2
        obtain ⟨x17_3, x153000_3, x153001_3, x153002_3, rfl, HA, HK3, BK152, HB⟩ := hrel
        cases gk with
        | zero => exact absurd HA.out (by simp [impl_readMove.l2])
        | succ k3 =>
         have H := HA.out
         clear HA
         simp only [impl_readMove.l2] at H
         by_cases c5 : x17_3 < 4
         ·rw [if_pos c5] at H
          have c5b0 : decide (x17_3 < 4) = true := decide_eq_true c5
          clear c5
          replace H := Option.bind_eq_some_iff.mp H
          obtain ⟨⟨t154, t155⟩, A60, H⟩ := H
          replace H : (if t155 = true then (if t154.toList = a0.toList then (some (x4_1, x14_2, x17_3, true)) else (impl_readMove.l2 k3 a0 x4_1 x14_2 x14_2 (IntKind.i8.wrap (x17_3 + 1)))) else (impl_readMove.l2 k3 a0 x4_1 x14_2 x14_2 (IntKind.i8.wrap (x17_3 + 1)))) = some (r1, r2, r3, r4) := H
          have A6 := Aside0.mk A60
          clear A60
          by_cases c7 : t155 = true
          ·subst c7
           have H1 : (if t154.toList = a0.toList then (some (x4_1, x14_2, x17_3, true)) else (impl_readMove.l2 k3 a0 x4_1 x14_2 x14_2 (IntKind.i8.wrap (x17_3 + 1)))) = some (r1, r2, r3, r4) := by rw [if_pos rfl] at H; exact H
           clear H
           have H := H1
           clear H1
           by_cases c8 : t154.toList = a0.toList
           ·rw [if_pos c8] at H
            have c8b0 : (t154.toList == a0.toList) = true := beq_iff_eq.mpr c8
            have c8b1 : (t154.toList != a0.toList) = false := bne_eq_false_iff_eq.mpr c8
            clear c8
            simp only [Option.some.injEq, Prod.mk.injEq] at H
            obtain ⟨rfl, rfl, rfl, rfl⟩ := H
            go_wp2_with (first | ((with_reducible refine gate_dst (N := 7) rfl ?_); refine box_event ?hg (N := 7) ?hd (cs := #[.int .i8 0, .int .i8 0, .int .i8 0]) (t := 56) ?hr ?_; (case hd => rfl); (case hg => rfl); (case hr => first | (go_simp; done) | (go_simp; rfl)); intro gb153 hg w9 hbox hb; have n0_ := A_ (blk_below (pl_ BK152) hb); have n1_ := A_ (below_step (bl_ HB) hb); have n2_ := A_ (hbox); have n3_ := A_ ((by rw [hg]; exact (below_size (bl_ HB)) : w.heap.size ≤ gb153)); have n4_ := n3_; have n5_ := A_ ((by rw [hg]; exact Nat.ne_of_lt (blk_lt (pl_ BK152)) : gb152 ≠ gb153)); have n6_ := Aside0.mk n5_.out.symm; clear BK152; clear HB; have BK152 := n0_; have HB := n1_; have BK153 := n2_; have GW153 := n3_; have GE153 := n4_; have NB152_153 := n5_; have NB153_152 := n6_; clear n0_ n1_ n2_ n3_ n4_ n5_ n6_; clear hb hbox hg; have hnb10 := NB153_152.out; have hnc10 := NB152_153.out; obtain ⟨hcz11_0, hcz11_1, hcz11_2, hfz11_0, hfz11_1, hfz11_2⟩ := cl3_ BK153) | ((with_reducible refine gate_callee (f := 47) rfl ?_); refine goesL_ (some 26) rfl rfl Tryd.func47 (by kernel_rfl) rfl #[.agg #[.int .i8 x4_1, .int .i8 x14_2, .int .i8 x17_3]] rfl arg_ ?_; (with_reducible refine (impl_Move_text.calls k3 x4_1 x14_2 x17_3 t154 true _ A6.out).mono ?_); rintro e w12 ⟨rfl, hb⟩; refine ⟨_, rfl, ?_⟩; have n0_ := A_ (blk_below (g := gb152) (o := .cells #[.int .i8 x153000_3, .int .i8 x153001_3, .int .i8 x153002_3] 56 (0, 0)) (pf_ BK152 NB152_153) hb); have n1_ := A_ (blk_below (g := gb153) (o := .cells #[.int .i8 x4_1, .int .i8 x14_2, .int .i8 x17_3] 56 (0, 0)) (by (with_reducible repeat (first | refine blk_drewN ?_ _ | refine blk_drew ?_ | refine blk_alloc ?_ _)); refine blk_put (cs := #[.int .i8 x4_1, .int .i8 x14_2, .int .i8 0]) ?_ 2 _ rfl; (with_reducible repeat (first | refine blk_drewN ?_ _ | refine blk_drew ?_ | refine blk_alloc ?_ _)); refine blk_put (cs := #[.int .i8 x4_1, .int .i8 0, .int .i8 0]) ?_ 1 _ rfl; (with_reducible repeat (first | refine blk_drewN ?_ _ | refine blk_drew ?_ | refine blk_alloc ?_ _)); refine blk_put (cs := #[.int .i8 0, .int .i8 0, .int .i8 0]) ?_ 0 _ rfl; (with_reducible repeat (first | refine blk_drewN ?_ _ | refine blk_drew ?_ | refine blk_alloc ?_ _)); exact BK153.out) hb); have n2_ := A_ (below_step (bs_ HB GE153) hb); clear BK152; clear BK153; clear HB; have BK152 := n0_; have BK153 := n1_; have HB := n2_; clear n0_ n1_ n2_; (try clear hb); (try clear hb2); (try clear hk); (try clear hi); obtain ⟨hcz13_0, hcz13_1, hcz13_2, hfz13_0, hfz13_1, hfz13_2⟩ := cl3_ BK153; obtain ⟨hcz14_0, hcz14_1, hcz14_2, hfz14_0, hfz14_1, hfz14_2⟩ := cl3_ BK152))
            refine bodyPost_ret (results_ct rfl _ _ gb152 56 #[.int .i8 x4_1, .int .i8 x14_2, .int .i8 x17_3] (0, 0) _ rfl (by (with_reducible repeat (first | refine blk_drewN ?_ _ | refine blk_drew ?_ | refine blk_alloc ?_ _)); refine blk_put (cs := #[.int .i8 x4_1, .int .i8 x14_2, .int .i8 x153002_3]) ?_ 2 _ rfl; (with_reducible repeat (first | refine blk_drewN ?_ _ | refine blk_drew ?_ | refine blk_alloc ?_ _)); refine blk_put (cs := #[.int .i8 x4_1, .int .i8 x153001_3, .int .i8 x153002_3]) ?_ 1 _ rfl; (with_reducible repeat (first | refine blk_drewN ?_ _ | refine blk_drew ?_ | refine blk_alloc ?_ _)); refine blk_put (cs := #[.int .i8 x153000_3, .int .i8 x153001_3, .int .i8 x153002_3]) ?_ 0 _ rfl; (with_reducible repeat (first | refine blk_drewN ?_ _ | refine blk_drew ?_ | refine blk_alloc ?_ _)); exact BK152.out) Tryd.underlying56 rfl (by kernel_rfl)) rfl ?_
            exact ⟨by first | rfl | (simp [errW_none, errW_some] <;> rfl) | (simp [*, errW_none, errW_some] <;> rfl), bs_ HB GE152⟩
           ·rw [if_neg c8] at H
            have c8b0 : (t154.toList == a0.toList) = false := beq_eq_false_iff_ne.mpr c8
            have c8b1 : (t154.toList != a0.toList) = true := bne_iff_ne.mpr c8
            have H' := Aside0.mk H
            clear H
            go_wp2_with (first | ((with_reducible refine gate_dst (N := 7) rfl ?_); refine box_event ?hg (N := 7) ?hd (cs := #[.int .i8 0, .int .i8 0, .int .i8 0]) (t := 56) ?hr ?_; (case hd => rfl); (case hg => rfl); (case hr => first | (go_simp; done) | (go_simp; rfl)); intro gb153 hg w15 hbox hb; have n0_ := A_ (blk_below (pl_ BK152) hb); have n1_ := A_ (below_step (bl_ HB) hb); have n2_ := A_ (hbox); have n3_ := A_ ((by rw [hg]; exact (below_size (bl_ HB)) : w.heap.size ≤ gb153)); have n4_ := n3_; have n5_ := A_ ((by rw [hg]; exact Nat.ne_of_lt (blk_lt (pl_ BK152)) : gb152 ≠ gb153)); have n6_ := Aside0.mk n5_.out.symm; clear BK152; clear HB; have BK152 := n0_; have HB := n1_; have BK153 := n2_; have GW153 := n3_; have GE153 := n4_; have NB152_153 := n5_; have NB153_152 := n6_; clear n0_ n1_ n2_ n3_ n4_ n5_ n6_; clear hb hbox hg; have hnb16 := NB153_152.out; have hnc16 := NB152_153.out; obtain ⟨hcz17_0, hcz17_1, hcz17_2, hfz17_0, hfz17_1, hfz17_2⟩ := cl3_ BK153) | ((with_reducible refine gate_callee (f := 47) rfl ?_); refine goesL_ (some 26) rfl rfl Tryd.func47 (by kernel_rfl) rfl #[.agg #[.int .i8 x4_1, .int .i8 x14_2, .int .i8 x17_3]] rfl arg_ ?_; (with_reducible refine (impl_Move_text.calls k3 x4_1 x14_2 x17_3 t154 true _ A6.out).mono ?_); rintro e w18 ⟨rfl, hb⟩; refine ⟨_, rfl, ?_⟩; have n0_ := A_ (blk_below (g := gb152) (o := .cells #[.int .i8 x153000_3, .int .i8 x153001_3, .int .i8 x153002_3] 56 (0, 0)) (pf_ BK152 NB152_153) hb); have n1_ := A_ (blk_below (g := gb153) (o := .cells #[.int .i8 x4_1, .int .i8 x14_2, .int .i8 x17_3] 56 (0, 0)) (by (with_reducible repeat (first | refine blk_drewN ?_ _ | refine blk_drew ?_ | refine blk_alloc ?_ _)); refine blk_put (cs := #[.int .i8 x4_1, .int .i8 x14_2, .int .i8 0]) ?_ 2 _ rfl; (with_reducible repeat (first | refine blk_drewN ?_ _ | refine blk_drew ?_ | refine blk_alloc ?_ _)); refine blk_put (cs := #[.int .i8 x4_1, .int .i8 0, .int .i8 0]) ?_ 1 _ rfl; (with_reducible repeat (first | refine blk_drewN ?_ _ | refine blk_drew ?_ | refine blk_alloc ?_ _)); refine blk_put (cs := #[.int .i8 0, .int .i8 0, .int .i8 0]) ?_ 0 _ rfl; (with_reducible repeat (first | refine blk_drewN ?_ _ | refine blk_drew ?_ | refine blk_alloc ?_ _)); exact BK153.out) hb); have n2_ := A_ (below_step (bs_ HB GE153) hb); clear BK152; clear BK153; clear HB; have BK152 := n0_; have BK153 := n1_; have HB := n2_; clear n0_ n1_ n2_; (try clear hb); (try clear hb2); (try clear hk); (try clear hi)))
            go_roundg k3
            case measure => have := HK1.out; have := HK2.out; have := HK3.out; omega
            case rel => exact ⟨(IntKind.i8.wrap (x17_3 + 1)), (x153000_3), (x153001_3), (x153002_3), rs_, H', ⟨by have := HK1.out; have := HK2.out; have := HK3.out; omega⟩, ⟨pl_ BK152⟩, ⟨bl_ HB⟩⟩
          ·replace c7 := Bool.eq_false_iff.mpr c7
           subst c7
           have H1 : (impl_readMove.l2 k3 a0 x4_1 x14_2 x14_2 (IntKind.i8.wrap (x17_3 + 1))) = some (r1, r2, r3, r4) := by rw [if_neg (show ¬ (false = true) by decide)] at H; exact H
           clear H
           have H := H1
           clear H1
           have H' := Aside0.mk H
           clear H
           go_wp2_with (first | ((with_reducible refine gate_dst (N := 7) rfl ?_); refine box_event ?hg (N := 7) ?hd (cs := #[.int .i8 0, .int .i8 0, .int .i8 0]) (t := 56) ?hr ?_; (case hd => rfl); (case hg => rfl); (case hr => first | (go_simp; done) | (go_simp; rfl)); intro gb153 hg w19 hbox hb; have n0_ := A_ (blk_below (pl_ BK152) hb); have n1_ := A_ (below_step (bl_ HB) hb); have n2_ := A_ (hbox); have n3_ := A_ ((by rw [hg]; exact (below_size (bl_ HB)) : w.heap.size ≤ gb153)); have n4_ := n3_; have n5_ := A_ ((by rw [hg]; exact Nat.ne_of_lt (blk_lt (pl_ BK152)) : gb152 ≠ gb153)); have n6_ := Aside0.mk n5_.out.symm; clear BK152; clear HB; have BK152 := n0_; have HB := n1_; have BK153 := n2_; have GW153 := n3_; have GE153 := n4_; have NB152_153 := n5_; have NB153_152 := n6_; clear n0_ n1_ n2_ n3_ n4_ n5_ n6_; clear hb hbox hg; have hnb20 := NB153_152.out; have hnc20 := NB152_153.out; obtain ⟨hcz21_0, hcz21_1, hcz21_2, hfz21_0, hfz21_1, hfz21_2⟩ := cl3_ BK153) | ((with_reducible refine gate_callee (f := 47) rfl ?_); refine goesL_ (some 26) rfl rfl Tryd.func47 (by kernel_rfl) rfl #[.agg #[.int .i8 x4_1, .int .i8 x14_2, .int .i8 x17_3]] rfl arg_ ?_; (with_reducible refine (impl_Move_text.calls k3 x4_1 x14_2 x17_3 t154 false _ A6.out).mono ?_); rintro e w22 ⟨rfl, hb⟩; refine ⟨_, rfl, ?_⟩; have n0_ := A_ (blk_below (g := gb152) (o := .cells #[.int .i8 x153000_3, .int .i8 x153001_3, .int .i8 x153002_3] 56 (0, 0)) (pf_ BK152 NB152_153) hb); have n1_ := A_ (blk_below (g := gb153) (o := .cells #[.int .i8 x4_1, .int .i8 x14_2, .int .i8 x17_3] 56 (0, 0)) (by (with_reducible repeat (first | refine blk_drewN ?_ _ | refine blk_drew ?_ | refine blk_alloc ?_ _)); refine blk_put (cs := #[.int .i8 x4_1, .int .i8 x14_2, .int .i8 0]) ?_ 2 _ rfl; (with_reducible repeat (first | refine blk_drewN ?_ _ | refine blk_drew ?_ | refine blk_alloc ?_ _)); refine blk_put (cs := #[.int .i8 x4_1, .int .i8 0, .int .i8 0]) ?_ 1 _ rfl; (with_reducible repeat (first | refine blk_drewN ?_ _ | refine blk_drew ?_ | refine blk_alloc ?_ _)); refine blk_put (cs := #[.int .i8 0, .int .i8 0, .int .i8 0]) ?_ 0 _ rfl; (with_reducible repeat (first | refine blk_drewN ?_ _ | refine blk_drew ?_ | refine blk_alloc ?_ _)); exact BK153.out) hb); have n2_ := A_ (below_step (bs_ HB GE153) hb); clear BK152; clear BK153; clear HB; have BK152 := n0_; have BK153 := n1_; have HB := n2_; clear n0_ n1_ n2_; (try clear hb); (try clear hb2); (try clear hk); (try clear hi)))
           go_roundg k3
           case measure => have := HK1.out; have := HK2.out; have := HK3.out; omega
           case rel => exact ⟨(IntKind.i8.wrap (x17_3 + 1)), (x153000_3), (x153001_3), (x153002_3), rs_, H', ⟨by have := HK1.out; have := HK2.out; have := HK3.out; omega⟩, ⟨pl_ BK152⟩, ⟨bl_ HB⟩⟩
         ·rw [if_neg c5] at H
          have c5b0 : decide (x17_3 < 4) = false := decide_eq_false c5
          clear c5
          have H' := Aside0.mk H
          clear H
          go_wp2
          go_roundg k3
          case measure => have := HK1.out; have := HK2.out; have := HK3.out; omega
          case rel => exact ⟨(IntKind.i8.wrap (x14_2 + 1)), (x153000_3), (x153001_3), (x153002_3), rs_, H', ⟨by have := HK1.out; have := HK2.out; have := HK3.out; omega⟩, ⟨pl_ BK152⟩, ⟨bl_ HB⟩⟩
      ·rw [if_neg c4] at H
       have c4b0 : decide (x14_2 < 4) = false := decide_eq_false c4
       clear c4
       have H' := Aside0.mk H
       clear H
       go_wp2
       go_roundg k2
       case measure => have := HK1.out; have := HK2.out; omega
       case rel => exact ⟨(IntKind.i8.wrap (x4_1 + 1)), (x153000_2), (x153001_2), (x153002_2), rs_, H', ⟨by have := HK1.out; have := HK2.out; omega⟩, ⟨pl_ BK152⟩, ⟨bl_ HB⟩⟩
   ·rw [if_neg c3] at H
    have c3b0 : decide (x4_1 ≤ 2) = false := decide_eq_false c3
    clear c3
    simp only [Option.some.injEq, Prod.mk.injEq] at H
    obtain ⟨rfl, rfl, rfl, rfl⟩ := H
    obtain ⟨hcz23_0, hcz23_1, hcz23_2, hfz23_0, hfz23_1, hfz23_2⟩ := cl3_ BK152
    go_wp2
    refine bodyPost_ret (results_ct rfl _ _ gb152 56 #[.int .i8 0, .int .i8 0, .int .i8 0] (0, 0) _ rfl (by (with_reducible repeat (first | refine blk_drewN ?_ _ | refine blk_drew ?_ | refine blk_alloc ?_ _)); refine blk_put (cs := #[.int .i8 0, .int .i8 0, .int .i8 x153002_1]) ?_ 2 _ rfl; (with_reducible repeat (first | refine blk_drewN ?_ _ | refine blk_drew ?_ | refine blk_alloc ?_ _)); refine blk_put (cs := #[.int .i8 0, .int .i8 x153001_1, .int .i8 x153002_1]) ?_ 1 _ rfl; (with_reducible repeat (first | refine blk_drewN ?_ _ | refine blk_drew ?_ | refine blk_alloc ?_ _)); refine blk_put (cs := #[.int .i8 x153000_1, .int .i8 x153001_1, .int .i8 x153002_1]) ?_ 0 _ rfl; (with_reducible repeat (first | refine blk_drewN ?_ _ | refine blk_drew ?_ | refine blk_alloc ?_ _)); exact BK152.out) Tryd.underlying56 rfl (by kernel_rfl)) rfl ?_
    exact ⟨by first | rfl | (simp [errW_none, errW_some] <;> rfl) | (simp [*, errW_none, errW_some] <;> rfl), bs_ HB GE152⟩

end Go.Proofs.YtodmfjophjhbeaaDoor.M
