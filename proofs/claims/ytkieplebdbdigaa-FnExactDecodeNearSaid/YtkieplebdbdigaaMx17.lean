-- By this seat's own program over the kit's printer (arrays, functions told by hand); nothing of it is trusted: the kernel checks it.
import Derived.Test.YtkieplebdbdigaaMx0
import Derived.Test.YtkieplebdbdigaaMx16
namespace Go.Proofs.Ytkieplebdbdigaa.M
open Go.RowKit Go.Proofs.YtkieplebdbdigaaW.PrintWords Go.Proofs.YtkieplebdbdigaaW.PrintLast Go.Proofs.YtkieplebdbdigaaW.PrintMore
attribute [local go_sem] max2_int min2_int max_two min_two max_three min_three max_four min_four   -- for this text's walks alone
set_option linter.unusedVariables false
set_option linter.unusedSimpArgs false

/-! ### impl_Case_33_at_35: function 33 -/
def impl_Case_33_at_35.l0 : Nat → List (S38) → Int → Int → Int → Int → List (S41) → Int → Int → Int → Int → Int → Option ((List (S38)))
 | 0, _, _, _, _, _, _, _, _, _, _, _ => none
 | k + 1, x0, x5, x6, x262000, x262001, x262002, x263000, x263001, x263002, x263003, x264000 => if x6 < (x0.length : Int) then (if 0 ≤ x6 then ((impl_DecodeNear_1_35.f k ((rd_T38 x0 x6).f0) ((rd_T38 x0 x6).f1) x262000 x262001 x262002 x263000 x263001 x263002 x263003 x264000).bind fun t267 => (if t267 = true then (impl_Case_33_at_35.l0 k x0 x5 (wrap64 (x6 + 1)) x262000 x262001 x262002 x263000 x263001 x263002 x263003 x264000) else (if 0 ≤ x5 then (if x5 < (x0.length : Int) then (impl_Case_33_at_35.l0 k (x0.set (x5 : Int).toNat (⟨(rd_T38 x0 x6).f0, (rd_T38 x0 x6).f1⟩ : S38)) (wrap64 (x5 + 1)) (wrap64 (x6 + 1)) x262000 x262001 x262002 x263000 x263001 x263002 x263003 x264000) else (none)) else (none)))) else (none)) else (if 0 ≤ x5 then (if x5 ≤ (x0.length : Int) then (some ((x0.take (x5 : Int).toNat ++ List.replicate (x0.length - (x5 : Int).toNat) z38).take (x5 : Int).toNat)) else (none)) else (none))
def impl_Case_33_at_35.f (k : Nat) (l0 : List (S38)) (a1_0 : Int) (a1_1 : Int) (l1_2 : List (S41)) (a1_3 : Int) (a1_4 : Int) (a1_5 : Int) (a1_6 : Int) (a1_7 : Int) : Option ((List (S38))) := (impl_Case_47_at_35.f k l0 a1_0 a1_1 l1_2 a1_3 a1_4 a1_5 a1_6 a1_7).bind fun t264 => (if t264 = (-1) then (some l0) else (impl_Case_33_at_35.l0 k l0 t264 (wrap64 (t264 + 1)) a1_0 a1_1 l1_2 a1_3 a1_4 a1_5 a1_6 a1_7))
theorem impl_Case_33_at_35.mono_l : ∀ k, (∀ y0 y1 y2 y3 y4 y5 y6 y7 y8 y9 y10, LeO (impl_Case_33_at_35.l0 k y0 y1 y2 y3 y4 y5 y6 y7 y8 y9 y10) (impl_Case_33_at_35.l0 (k + 1) y0 y1 y2 y3 y4 y5 y6 y7 y8 y9 y10))
 | 0 => fun _ _ _ _ _ _ _ _ _ _ _ r h => by simp [impl_Case_33_at_35.l0] at h
 | k + 1 => by
  have ih0 := impl_Case_33_at_35.mono_l k
  ·intro y0 y1 y2 y3 y4 y5 y6 y7 y8 y9 y10
   unfold impl_Case_33_at_35.l0
   repeat' first
   | (with_reducible exact ih0 _ _ _ _ _ _ _ _ _ _ _)
   | (with_reducible exact impl_Case_47_at_35.mono _ _ _ _ _ _ _ _ _ _)
   | (with_reducible exact impl_DecodeNear_1_35.mono _ _ _ _ _ _ _ _ _ _ _)
   | (with_reducible exact LeO.refl _)
   | (with_reducible exact LeO.none _)
   | (with_reducible refine LeO.ite ?_ ?_)
   | (with_reducible refine LeO.bind ?_ (fun _ => ?_))
   | exact ih0 _ _ _ _ _ _ _ _ _ _ _
   | exact impl_Case_47_at_35.mono _ _ _ _ _ _ _ _ _ _
   | exact impl_DecodeNear_1_35.mono _ _ _ _ _ _ _ _ _ _ _
   | exact LeO.none _
   | refine LeO.ite ?_ ?_
   | refine LeO.bind ?_ (fun _ => ?_)
theorem impl_Case_33_at_35.mono : ∀ a0 a1 a2 a3 a4 a5 a6 a7 a8 k, LeO (impl_Case_33_at_35.f k a0 a1 a2 a3 a4 a5 a6 a7 a8) (impl_Case_33_at_35.f (k + 1) a0 a1 a2 a3 a4 a5 a6 a7 a8) := by
 intro a0 a1 a2 a3 a4 a5 a6 a7 a8 k
 have ih0 := impl_Case_33_at_35.mono_l k
 unfold impl_Case_33_at_35.f
 repeat' first
   | (with_reducible exact ih0 _ _ _ _ _ _ _ _ _ _ _)
   | (with_reducible exact impl_Case_47_at_35.mono _ _ _ _ _ _ _ _ _ _)
   | (with_reducible exact impl_DecodeNear_1_35.mono _ _ _ _ _ _ _ _ _ _ _)
   | (with_reducible exact LeO.refl _)
   | (with_reducible exact LeO.none _)
   | (with_reducible refine LeO.ite ?_ ?_)
   | (with_reducible refine LeO.bind ?_ (fun _ => ?_))
   | exact ih0 _ _ _ _ _ _ _ _ _ _ _
   | exact impl_Case_47_at_35.mono _ _ _ _ _ _ _ _ _ _
   | exact impl_DecodeNear_1_35.mono _ _ _ _ _ _ _ _ _ _ _
   | exact LeO.none _
   | refine LeO.ite ?_ ?_
   | refine LeO.bind ?_ (fun _ => ?_)
set_option maxHeartbeats 8000000 in
set_option maxRecDepth 100000 in
theorem impl_Case_33_at_35.calls (k : Nat) (P0_ : Nat → Prop) (u9000_ : Value) (l0 : List (S38)) (gp1_0 : Nat) (gp1_1 : Nat) (gp1_2 : Nat) (a1_0 : Int) (a1_1 : Int) (A1_2 : Option Addr) (c1_2 : Nat) (l1_2 : List (S41)) (a1_3 : Int) (a1_4 : Int) (a1_5 : Int) (a1_6 : Int) (a1_7 : Int) (r : List (S38)) (w0 w : World) (hB : Below w0.heap.size w0 w) (ho0 : Kd.R k38 38 w w0.heap.size P0_ u9000_ l0) (hb1_0 : w.heap[gp1_0]? = some (.cells #[.int .i8 a1_0, .int .i8 a1_1, .slice A1_2 l1_2.length c1_2] 29 (0, 0))) (hb1_1 : w.heap[gp1_1]? = some (.cells #[.int .i8 a1_3, .int .i8 a1_4, .int .i8 a1_5, .int .i8 a1_6] 41 (0, 0))) (hb1_2 : w.heap[gp1_2]? = some (.cells #[.int .i64 a1_7] 2 (0, 0))) (hr1_2 : ∀ W_, Kept w W_ (fun k_ => P0_ k_) → Kd.C k41 W_ A1_2 l1_2.length l1_2) (hc1_2 : l1_2.length ≤ c1_2) (h : impl_Case_33_at_35.f k l0 a1_0 a1_1 l1_2 a1_3 a1_4 a1_5 a1_6 a1_7 = some r) :
  Calls Try.prog 33 #[u9000_, .func (.func 35) #[] #[.pointer (some ⟨gp1_0, 0, none⟩), .pointer (some ⟨gp1_1, 0, none⟩), .pointer (some ⟨gp1_2, 0, none⟩)]] w fun e w' => ∃ v0_ : Value, e = .returned (v0_) ∧ Kd.R k38 38 w' w0.heap.size (fun k_ => (P0_ k_ ∨ w.heap.size ≤ k_)) v0_ r ∧ Below w0.heap.size w0 w' ∧ Kept w w' (fun k_ => P0_ k_) := by
 have hu38 := Try.underlying38
 have HO0 := A_ (show Kd.R k38 38 w w0.heap.size (fun k_ => (P0_ k_ ∨ w.heap.size ≤ k_)) u9000_ l0 from Kd.R_mono ho0 (fun k_ hk => (.inl hk)))
 have HR1_2 := Aside0.mk hr1_2
 have HC1_2 := Aside0.mk hc1_2
 clear hr1_2 hc1_2
 have HK := A_ (Kept.refl w (fun k_ => P0_ k_))
 have BK261 := Aside0.mk hb1_0
 clear hb1_0
 have BK262 := Aside0.mk hb1_1
 clear hb1_1
 have BK263 := Aside0.mk hb1_2
 clear hb1_2
 have HW0 := Aside0.mk hB.size
 have HB := Aside0.mk hB
 clear hB
 have H : ((impl_Case_47_at_35.f k l0 a1_0 a1_1 l1_2 a1_3 a1_4 a1_5 a1_6 a1_7).bind fun t264 => (if t264 = (-1) then (some l0) else (impl_Case_33_at_35.l0 k l0 t264 (wrap64 (t264 + 1)) a1_0 a1_1 l1_2 a1_3 a1_4 a1_5 a1_6 a1_7))) = some r := h
 clear h
 replace H := Option.bind_eq_some_iff.mp H
 obtain ⟨t264, A30, H⟩ := H
 replace H : (if t264 = (-1) then (some l0) else (impl_Case_33_at_35.l0 k l0 t264 (wrap64 (t264 + 1)) a1_0 a1_1 l1_2 a1_3 a1_4 a1_5 a1_6 a1_7)) = some r := H
 have A3 := Aside0.mk A30
 clear A30
 by_cases c4 : t264 = (-1)
 ·rw [if_pos c4] at H
  have c4b0 : (t264 == (-1)) = true := beq_iff_eq.mpr c4
  have c4b1 : (t264 != (-1)) = false := bne_eq_false_iff_eq.mpr c4
  clear c4
  obtain rfl := Option.some.inj H
  obtain ⟨Ao5, co5, eo5⟩ := Kd.R_slice HO0.out
  subst eo5
  go_enter Try.func33, Try.ntmps33
  go_wp2_with (first | ((with_reducible refine gate_callee (f := 47) rfl ?_); refine goesL_ (some 10) rfl rfl Try.func47 (by kernel_rfl) rfl #[.slice Ao5 l0.length co5, .func (.func 35) #[] #[.pointer (some ⟨gp1_0, 0, none⟩), .pointer (some ⟨gp1_1, 0, none⟩), .pointer (some ⟨gp1_2, 0, none⟩)]] rfl arg_ ?_; (with_reducible refine (impl_Case_47_at_35.calls k _ _ l0 gp1_0 gp1_1 gp1_2 a1_0 a1_1 A1_2 c1_2 l1_2 a1_3 a1_4 a1_5 a1_6 a1_7 t264 _ ?side1 ?side2 ?side3 ?side4 ?side5 ?side6 ?side7 A3.out).mono ?_); (case side1 => repeat (first | exact (Kd.R_reads' HO0.out).2.2 | (with_reducible refine Kd.C_alloc ?_ _) | (with_reducible refine Kd.C_drewN ?_ _) | (with_reducible refine Kd.C_drew ?_))); (case side2 => exact (Kd.R_reads' HO0.out).2.1); (case side3 => exact (pl_ BK261)); (case side4 => exact (pl_ BK262)); (case side5 => exact (pl_ BK263)); (case side6 => exact Kd.C_kept_now HR1_2.out (by repeat (first | (with_reducible first | exact HK.out | apply Kept.alloc | apply Kept.drewN | apply Kept.drew | refine Kept.setCell ?_ (.inr GW261.out) _ | refine Kept.setCell ?_ (.inr GW262.out) _ | refine Kept.setCell ?_ (.inr GW263.out) _) | exact HK.out))); (case side7 => exact HC1_2.out); rintro e w6 ⟨rfl, hb⟩; refine ⟨_, rfl, ?_⟩; have n0_ := A_ (Kd.R_below (pr_ HO0) hb); have n1_ := A_ (blk_below (pl_ BK261) hb); have n2_ := A_ (blk_below (pl_ BK262) hb); have n3_ := A_ (blk_below (pl_ BK263) hb); have n4_ := A_ (Kept.below (S := (fun k_ => P0_ k_)) (by repeat (first | (with_reducible first | exact HK.out | apply Kept.alloc | apply Kept.drewN | apply Kept.drew | refine Kept.setCell ?_ (.inr GW261.out) _ | refine Kept.setCell ?_ (.inr GW262.out) _ | refine Kept.setCell ?_ (.inr GW263.out) _) | exact HK.out)) hb); have n5_ := A_ (below_step (bl_ HB) hb); clear HO0; clear BK261; clear BK262; clear BK263; clear HK; clear HB; have HO0 := n0_; have BK261 := n1_; have BK262 := n2_; have BK263 := n3_; have HK := n4_; have HB := n5_; clear n0_ n1_ n2_ n3_ n4_ n5_; (try clear hb); (try clear hb2); (try clear hk); (try clear hi)))
  go_ret
  exact ⟨_, by first | rfl | (simp [errW_none, errW_some] <;> rfl) | (simp [*, errW_none, errW_some] <;> rfl), pr_ HO0, bl_ HB, by repeat (first | (with_reducible first | exact HK.out | apply Kept.alloc | apply Kept.drewN | apply Kept.drew | refine Kept.setCell ?_ (.inr GW261.out) _ | refine Kept.setCell ?_ (.inr GW262.out) _ | refine Kept.setCell ?_ (.inr GW263.out) _) | exact HK.out)⟩
 ·rw [if_neg c4] at H
  have c4b0 : (t264 == (-1)) = false := beq_eq_false_iff_ne.mpr c4
  have c4b1 : (t264 != (-1)) = true := bne_iff_ne.mpr c4
  have H' := Aside0.mk H
  clear H
  obtain ⟨Ao7, co7, eo7⟩ := Kd.R_slice HO0.out
  subst eo7
  go_enter Try.func33, Try.ntmps33
  go_wp2_with (first | ((with_reducible refine gate_callee (f := 47) rfl ?_); refine goesL_ (some 10) rfl rfl Try.func47 (by kernel_rfl) rfl #[.slice Ao7 l0.length co7, .func (.func 35) #[] #[.pointer (some ⟨gp1_0, 0, none⟩), .pointer (some ⟨gp1_1, 0, none⟩), .pointer (some ⟨gp1_2, 0, none⟩)]] rfl arg_ ?_; (with_reducible refine (impl_Case_47_at_35.calls k _ _ l0 gp1_0 gp1_1 gp1_2 a1_0 a1_1 A1_2 c1_2 l1_2 a1_3 a1_4 a1_5 a1_6 a1_7 t264 _ ?side1 ?side2 ?side3 ?side4 ?side5 ?side6 ?side7 A3.out).mono ?_); (case side1 => repeat (first | exact (Kd.R_reads' HO0.out).2.2 | (with_reducible refine Kd.C_alloc ?_ _) | (with_reducible refine Kd.C_drewN ?_ _) | (with_reducible refine Kd.C_drew ?_))); (case side2 => exact (Kd.R_reads' HO0.out).2.1); (case side3 => exact (pl_ BK261)); (case side4 => exact (pl_ BK262)); (case side5 => exact (pl_ BK263)); (case side6 => exact Kd.C_kept_now HR1_2.out (by repeat (first | (with_reducible first | exact HK.out | apply Kept.alloc | apply Kept.drewN | apply Kept.drew | refine Kept.setCell ?_ (.inr GW261.out) _ | refine Kept.setCell ?_ (.inr GW262.out) _ | refine Kept.setCell ?_ (.inr GW263.out) _) | exact HK.out))); (case side7 => exact HC1_2.out); rintro e w8 ⟨rfl, hb⟩; refine ⟨_, rfl, ?_⟩; have n0_ := A_ (Kd.R_below (pr_ HO0) hb); have n1_ := A_ (blk_below (pl_ BK261) hb); have n2_ := A_ (blk_below (pl_ BK262) hb); have n3_ := A_ (blk_below (pl_ BK263) hb); have n4_ := A_ (Kept.below (S := (fun k_ => P0_ k_)) (by repeat (first | (with_reducible first | exact HK.out | apply Kept.alloc | apply Kept.drewN | apply Kept.drew | refine Kept.setCell ?_ (.inr GW261.out) _ | refine Kept.setCell ?_ (.inr GW262.out) _ | refine Kept.setCell ?_ (.inr GW263.out) _) | exact HK.out)) hb); have n5_ := A_ (below_step (bl_ HB) hb); clear HO0; clear BK261; clear BK262; clear BK263; clear HK; clear HB; have HO0 := n0_; have BK261 := n1_; have BK262 := n2_; have BK263 := n3_; have HK := n4_; have HB := n5_; clear n0_ n1_ n2_ n3_ n4_ n5_; (try clear hb); (try clear hb2); (try clear hk); (try clear hi)))
  go_loopg [5, 6] k (fun kq v5 v6 w' => ∃ (x0_1 : List (S38)) (x5_1 : Int) (x6_1 : Int), v5 = .int .i64 x5_1 ∧ v6 = .int .i64 x6_1 ∧ Aside0 (impl_Case_33_at_35.l0 kq x0_1 x5_1 x6_1 a1_0 a1_1 l1_2 a1_3 a1_4 a1_5 a1_6 a1_7 = some r) ∧ Aside0 (kq ≤ k) ∧ Aside0 (Kd.R k38 38 w' w0.heap.size (fun k_ => (P0_ k_ ∨ w.heap.size ≤ k_)) (.slice Ao7 l0.length co7) x0_1) ∧ Aside0 (w'.heap[gp1_0]? = some (.cells #[.int .i8 a1_0, .int .i8 a1_1, (.slice A1_2 l1_2.length c1_2)] 29 (0, 0))) ∧ Aside0 (w'.heap[gp1_1]? = some (.cells #[.int .i8 a1_3, .int .i8 a1_4, .int .i8 a1_5, .int .i8 a1_6] 41 (0, 0))) ∧ Aside0 (w'.heap[gp1_2]? = some (.cells #[.int .i64 a1_7] 2 (0, 0))) ∧ Aside0 (Kept w w' (fun k_ => P0_ k_)) ∧ Aside0 (Below w0.heap.size w0 w'))
  case atStart => exact ⟨(l0), (t264), (wrap64 (t264 + 1)), rs_, rs_, H', ⟨Nat.le_refl _⟩, ⟨pr_ HO0⟩, ⟨pl_ BK261⟩, ⟨pl_ BK262⟩, ⟨pl_ BK263⟩, ⟨by repeat (first | (with_reducible first | exact HK.out | apply Kept.alloc | apply Kept.drewN | apply Kept.drew | refine Kept.setCell ?_ (.inr GW261.out) _ | refine Kept.setCell ?_ (.inr GW262.out) _ | refine Kept.setCell ?_ (.inr GW263.out) _) | exact HK.out)⟩, ⟨bl_ HB⟩⟩
  case round =>
   clear H'
   try clear c1
   try clear p1
   try clear p2
   try clear c4
   try clear c4b0
   try clear c4b1
   try clear p6
   obtain ⟨x0_1, x5_1, x6_1, rfl, rfl, HA, HK1, HO_0, BK261, BK262, BK263, HK, HB⟩ := hrel
   have hl0_1 := (Kd.R_reads' HO_0.out).1
   rw [hl0_1] at HO_0
   (try simp only [hl0_1])
   (try simp only [hl0_1] at BK261)
   (try simp only [hl0_1] at BK262)
   (try simp only [hl0_1] at BK263)
   cases gk with
   | zero => exact absurd HA.out (by simp [impl_Case_33_at_35.l0])
   | succ k1 =>
    have H := HA.out
    clear HA
    simp only [impl_Case_33_at_35.l0] at H
    by_cases c9 : x6_1 < (x0_1.length : Int)
    ·rw [if_pos c9] at H
     have c9b0 : decide (x6_1 < (x0_1.length : Int)) = true := decide_eq_true c9
     clear c9
     by_cases c10 : 0 ≤ x6_1
     ·rw [if_pos c10] at H
      have c10b0 : decide (0 ≤ x6_1) = true := decide_eq_true c10
      clear c10
      replace H := Option.bind_eq_some_iff.mp H
      obtain ⟨t267, A110, H⟩ := H
      replace H : (if t267 = true then (impl_Case_33_at_35.l0 k1 x0_1 x5_1 (wrap64 (x6_1 + 1)) a1_0 a1_1 l1_2 a1_3 a1_4 a1_5 a1_6 a1_7) else (if 0 ≤ x5_1 then (if x5_1 < (x0_1.length : Int) then (impl_Case_33_at_35.l0 k1 (x0_1.set (x5_1 : Int).toNat (⟨(rd_T38 x0_1 x6_1).f0, (rd_T38 x0_1 x6_1).f1⟩ : S38)) (wrap64 (x5_1 + 1)) (wrap64 (x6_1 + 1)) a1_0 a1_1 l1_2 a1_3 a1_4 a1_5 a1_6 a1_7) else (none)) else (none))) = some r := H
      have A11 := Aside0.mk A110
      clear A110
      by_cases c12 : t267 = true
      ·subst c12
       have H1 : (impl_Case_33_at_35.l0 k1 x0_1 x5_1 (wrap64 (x6_1 + 1)) a1_0 a1_1 l1_2 a1_3 a1_4 a1_5 a1_6 a1_7) = some r := by rw [if_pos rfl] at H; exact H
       clear H
       have H := H1
       clear H1
       have H' := Aside0.mk H
       clear H
       have p265 : 0 ≤ (x6_1 : Int) := asm_
       have q265 : x6_1 < (x0_1.length : Int) := asm_
       obtain ⟨ad265, e265, hx265_0, hx265_1⟩ := at_T38 (Kd.R_reads' HO_0.out).2.2 x6_1 p265 q265
       cases e265
       replace p265 := eq_true p265
       replace q265 := eq_true q265
       go_wp2_with (first | ((with_reducible refine gate_dst (N := 7) rfl ?_); refine box_event ?hg (N := 7) ?hd (cs := #[.int .i8 0, .bool false]) (t := 38) ?hr ?_; (case hd => rfl); (case hg => rfl); (case hr => first | (go_simp; done) | (go_simp; rfl)); intro gb266 hg w13 hbox hb; have n0_ := A_ (Kd.R_below (Kd.R_elderB (pr_ HO_0) gb266 (Nat.le_of_eq hg.symm)) hb); have n1_ := A_ (blk_below (pl_ BK261) hb); have n2_ := A_ (blk_below (pl_ BK262) hb); have n3_ := A_ (blk_below (pl_ BK263) hb); have n4_ := A_ (Kept.below (S := (fun k_ => P0_ k_)) (by repeat (first | (with_reducible first | exact HK.out | apply Kept.alloc | apply Kept.drewN | apply Kept.drew | refine Kept.setCell ?_ (.inr GW261.out) _ | refine Kept.setCell ?_ (.inr GW262.out) _ | refine Kept.setCell ?_ (.inr GW263.out) _) | exact HK.out)) hb); have n5_ := A_ (below_step (bl_ HB) hb); have n6_ := A_ (hbox); have n7_ := A_ ((by rw [hg]; exact (by first | exact HK.out.1 | exact (show Kept w _ (fun k_ => P0_ k_) from by repeat (first | (with_reducible first | exact HK.out | apply Kept.alloc | apply Kept.drewN | apply Kept.drew | refine Kept.setCell ?_ (.inr GW261.out) _ | refine Kept.setCell ?_ (.inr GW262.out) _ | refine Kept.setCell ?_ (.inr GW263.out) _) | exact HK.out)).1) : w.heap.size ≤ gb266)); have n8_ := A_ ((by rw [hg]; exact (below_size (bl_ HB)) : w0.heap.size ≤ gb266)); have n9_ := A_ ((by rw [hg]; exact Nat.ne_of_lt (blk_lt (pl_ BK261)) : gp1_0 ≠ gb266)); have n10_ := Aside0.mk n9_.out.symm; have n11_ := A_ ((by rw [hg]; exact Nat.ne_of_lt (blk_lt (pl_ BK262)) : gp1_1 ≠ gb266)); have n12_ := Aside0.mk n11_.out.symm; have n13_ := A_ ((by rw [hg]; exact Nat.ne_of_lt (blk_lt (pl_ BK263)) : gp1_2 ≠ gb266)); have n14_ := Aside0.mk n13_.out.symm; clear HO_0; clear BK261; clear BK262; clear BK263; clear HK; clear HB; have HO_0 := n0_; have BK261 := n1_; have BK262 := n2_; have BK263 := n3_; have HK := n4_; have HB := n5_; have BK266 := n6_; have GW266 := n7_; have GE266 := n8_; have NB261_266 := n9_; have NB266_261 := n10_; have NB262_266 := n11_; have NB266_262 := n12_; have NB263_266 := n13_; have NB266_263 := n14_; clear n0_ n1_ n2_ n3_ n4_ n5_ n6_ n7_ n8_ n9_ n10_ n11_ n12_ n13_ n14_; clear hb hbox hg; have hnb14 := NB266_261.out; have hnc14 := NB261_266.out; have hnb15 := NB266_262.out; have hnc15 := NB262_266.out; have hnb16 := NB266_263.out; have hnc16 := NB263_266.out; obtain ⟨hcz17_0, hcz17_1, hfz17_0, hfz17_1⟩ := cl2_ BK266) | (go_at_call 35; (with_reducible refine (impl_DecodeNear_1_35.calls k1 ((rd_T38 x0_1 x6_1).f0) ((rd_T38 x0_1 x6_1).f1) gp1_0 a1_0 a1_1 A1_2 c1_2 l1_2 gp1_1 a1_3 a1_4 a1_5 a1_6 gp1_2 a1_7 true _ ?side1 ?side2 ?side3 ?side4 ?side5 A11.out).mono ?_); (case side1 => exact (pf_ BK261 NB261_266)); (case side2 => exact Kd.C_kept_now HR1_2.out (by repeat (first | (with_reducible first | exact HK.out | apply Kept.alloc | apply Kept.drewN | apply Kept.drew | refine Kept.setCell ?_ (.inr GW261.out) _ | refine Kept.setCell ?_ (.inr GW262.out) _ | refine Kept.setCell ?_ (.inr GW263.out) _ | refine Kept.setCell ?_ (.inr GW266.out) _) | exact HK.out))); (case side3 => exact HC1_2.out); (case side4 => exact (pf_ BK262 NB262_266)); (case side5 => exact (pf_ BK263 NB263_266)); rintro e w18 ⟨rfl, hb⟩; have n0_ := A_ (Kd.R_below (by (with_reducible repeat (first | apply Kd.R_alloc | apply Kd.R_drewN | apply Kd.R_drew)); exact (Kd.R_mono (Kd.R_far (p := ⟨gb266, 1, none⟩) (Kd.R_far (p := ⟨gb266, 0, none⟩) (Kd.R_mono HO_0.out (fun k_ hk => (⟨hk, hk.2⟩ : _ ∧ k_ ≠ gb266))) (fun _ hk => hk.2) (.int .i8 ((rd_T38 x0_1 x6_1).f0))) (fun _ hk => hk.2) (.bool ((rd_T38 x0_1 x6_1).f1))) (fun _ h_ => h_.1))) hb); have n1_ := A_ (blk_below (g := gp1_0) (o := .cells #[.int .i8 a1_0, .int .i8 a1_1, .slice A1_2 l1_2.length c1_2] 29 (0, 0)) (pf_ BK261 NB261_266) hb); have n2_ := A_ (blk_below (g := gp1_1) (o := .cells #[.int .i8 a1_3, .int .i8 a1_4, .int .i8 a1_5, .int .i8 a1_6] 41 (0, 0)) (pf_ BK262 NB262_266) hb); have n3_ := A_ (blk_below (g := gp1_2) (o := .cells #[.int .i64 a1_7] 2 (0, 0)) (pf_ BK263 NB263_266) hb); have n4_ := A_ (blk_below (g := gb266) (o := .cells #[.int .i8 ((rd_T38 x0_1 x6_1).f0), .bool ((rd_T38 x0_1 x6_1).f1)] 38 (0, 0)) (by (with_reducible repeat (first | refine blk_drewN ?_ _ | refine blk_drew ?_ | refine blk_alloc ?_ _)); refine blk_put (cs := #[.int .i8 ((rd_T38 x0_1 x6_1).f0), .bool false]) ?_ 1 _ rfl; (with_reducible repeat (first | refine blk_drewN ?_ _ | refine blk_drew ?_ | refine blk_alloc ?_ _)); refine blk_put (cs := #[.int .i8 0, .bool false]) ?_ 0 _ rfl; (with_reducible repeat (first | refine blk_drewN ?_ _ | refine blk_drew ?_ | refine blk_alloc ?_ _)); exact BK266.out) hb); have n5_ := A_ (Kept.below (S := (fun k_ => P0_ k_)) (by repeat (first | (with_reducible first | exact HK.out | apply Kept.alloc | apply Kept.drewN | apply Kept.drew | refine Kept.setCell ?_ (.inr GW261.out) _ | refine Kept.setCell ?_ (.inr GW262.out) _ | refine Kept.setCell ?_ (.inr GW263.out) _ | refine Kept.setCell ?_ (.inr GW266.out) _) | exact HK.out)) hb); have n6_ := A_ (below_step (bs_ HB GE266) hb); clear HO_0; clear BK261; clear BK262; clear BK263; clear BK266; clear HK; clear HB; have HO_0 := n0_; have BK261 := n1_; have BK262 := n2_; have BK263 := n3_; have BK266 := n4_; have HK := n5_; have HB := n6_; clear n0_ n1_ n2_ n3_ n4_ n5_ n6_; (try clear hb); (try clear hb2); (try clear hk); (try clear hi)))
       (try simp only [← hl0_1])
       go_roundg k1
       case measure => have := HK1.out; omega
       case rel => exact ⟨(x0_1), (x5_1), (wrap64 (x6_1 + 1)), rs_, rs_, H', ⟨by have := HK1.out; omega⟩, ⟨by (try simp only [hl0_1]); (with_reducible repeat (first | apply Kd.R_alloc | apply Kd.R_drewN | apply Kd.R_drew)); exact Kd.R_mono HO_0.out (fun _ hk => hk.1)⟩, ⟨by (try simp only [hl0_1]); (with_reducible repeat (first | refine blk_drewN ?_ _ | refine blk_drew ?_ | refine blk_alloc ?_ _)); exact BK261.out⟩, ⟨by (try simp only [hl0_1]); (with_reducible repeat (first | refine blk_drewN ?_ _ | refine blk_drew ?_ | refine blk_alloc ?_ _)); exact BK262.out⟩, ⟨by (try simp only [hl0_1]); (with_reducible repeat (first | refine blk_drewN ?_ _ | refine blk_drew ?_ | refine blk_alloc ?_ _)); exact BK263.out⟩, ⟨by repeat (first | (with_reducible first | exact HK.out | apply Kept.alloc | apply Kept.drewN | apply Kept.drew | refine Kept.setCell ?_ (.inr GW261.out) _ | refine Kept.setCell ?_ (.inr GW262.out) _ | refine Kept.setCell ?_ (.inr GW263.out) _ | refine Kept.setCell ?_ (.inr GW266.out) _) | exact HK.out)⟩, ⟨bl_ HB⟩⟩
      ·replace c12 := Bool.eq_false_iff.mpr c12
       subst c12
       have H1 : (if 0 ≤ x5_1 then (if x5_1 < (x0_1.length : Int) then (impl_Case_33_at_35.l0 k1 (x0_1.set (x5_1 : Int).toNat (⟨(rd_T38 x0_1 x6_1).f0, (rd_T38 x0_1 x6_1).f1⟩ : S38)) (wrap64 (x5_1 + 1)) (wrap64 (x6_1 + 1)) a1_0 a1_1 l1_2 a1_3 a1_4 a1_5 a1_6 a1_7) else (none)) else (none)) = some r := by rw [if_neg (show ¬ (false = true) by decide)] at H; exact H
       clear H
       have H := H1
       clear H1
       by_cases c19 : 0 ≤ x5_1
       ·rw [if_pos c19] at H
        have c19b0 : decide (0 ≤ x5_1) = true := decide_eq_true c19
        clear c19
        by_cases c20 : x5_1 < (x0_1.length : Int)
        ·rw [if_pos c20] at H
         have c20b0 : decide (x5_1 < (x0_1.length : Int)) = true := decide_eq_true c20
         clear c20
         obtain ⟨y268, hy268⟩ : ∃ y_ : List (S38), y_ = (x0_1.set (x5_1 : Int).toNat (⟨(rd_T38 x0_1 x6_1).f0, (rd_T38 x0_1 x6_1).f1⟩ : S38)) := ⟨_, rfl⟩
         replace H : (impl_Case_33_at_35.l0 k1 y268 (wrap64 (x5_1 + 1)) (wrap64 (x6_1 + 1)) a1_0 a1_1 l1_2 a1_3 a1_4 a1_5 a1_6 a1_7) = some r := by first | (rw [hy268]; with_reducible exact H) | (have H2_ := (Option.bind_some _ _).symm.trans H; rw [hy268]; with_reducible exact H2_) | (have H2_ := (Option.bind_some _ _).symm.trans H; with_reducible exact H2_) | with_reducible exact H | (rw [hy268]; exact H) | exact H
         have Ny268 := Aside0.mk hy268
         clear hy268
         have H' := Aside0.mk H
         clear H
         have p265 : 0 ≤ (x6_1 : Int) := asm_
         have q265 : x6_1 < (x0_1.length : Int) := asm_
         obtain ⟨ad265, e265, hx265_0, hx265_1⟩ := at_T38 (Kd.R_reads' HO_0.out).2.2 x6_1 p265 q265
         cases e265
         replace p265 := eq_true p265
         replace q265 := eq_true q265
         go_wp2_with (first | ((with_reducible refine gate_dst (N := 7) rfl ?_); refine box_event ?hg (N := 7) ?hd (cs := #[.int .i8 0, .bool false]) (t := 38) ?hr ?_; (case hd => rfl); (case hg => rfl); (case hr => first | (go_simp; done) | (go_simp; rfl)); intro gb266 hg w22 hbox hb; have n0_ := A_ (Kd.R_below (Kd.R_elderB (pr_ HO_0) gb266 (Nat.le_of_eq hg.symm)) hb); have n1_ := A_ (blk_below (pl_ BK261) hb); have n2_ := A_ (blk_below (pl_ BK262) hb); have n3_ := A_ (blk_below (pl_ BK263) hb); have n4_ := A_ (Kept.below (S := (fun k_ => P0_ k_)) (by repeat (first | (with_reducible first | exact HK.out | apply Kept.alloc | apply Kept.drewN | apply Kept.drew | refine Kept.setCell ?_ (.inr GW261.out) _ | refine Kept.setCell ?_ (.inr GW262.out) _ | refine Kept.setCell ?_ (.inr GW263.out) _) | exact HK.out)) hb); have n5_ := A_ (below_step (bl_ HB) hb); have n6_ := A_ (hbox); have n7_ := A_ ((by rw [hg]; exact (by first | exact HK.out.1 | exact (show Kept w _ (fun k_ => P0_ k_) from by repeat (first | (with_reducible first | exact HK.out | apply Kept.alloc | apply Kept.drewN | apply Kept.drew | refine Kept.setCell ?_ (.inr GW261.out) _ | refine Kept.setCell ?_ (.inr GW262.out) _ | refine Kept.setCell ?_ (.inr GW263.out) _) | exact HK.out)).1) : w.heap.size ≤ gb266)); have n8_ := A_ ((by rw [hg]; exact (below_size (bl_ HB)) : w0.heap.size ≤ gb266)); have n9_ := A_ ((by rw [hg]; exact Nat.ne_of_lt (blk_lt (pl_ BK261)) : gp1_0 ≠ gb266)); have n10_ := Aside0.mk n9_.out.symm; have n11_ := A_ ((by rw [hg]; exact Nat.ne_of_lt (blk_lt (pl_ BK262)) : gp1_1 ≠ gb266)); have n12_ := Aside0.mk n11_.out.symm; have n13_ := A_ ((by rw [hg]; exact Nat.ne_of_lt (blk_lt (pl_ BK263)) : gp1_2 ≠ gb266)); have n14_ := Aside0.mk n13_.out.symm; clear HO_0; clear BK261; clear BK262; clear BK263; clear HK; clear HB; have HO_0 := n0_; have BK261 := n1_; have BK262 := n2_; have BK263 := n3_; have HK := n4_; have HB := n5_; have BK266 := n6_; have GW266 := n7_; have GE266 := n8_; have NB261_266 := n9_; have NB266_261 := n10_; have NB262_266 := n11_; have NB266_262 := n12_; have NB263_266 := n13_; have NB266_263 := n14_; clear n0_ n1_ n2_ n3_ n4_ n5_ n6_ n7_ n8_ n9_ n10_ n11_ n12_ n13_ n14_; clear hb hbox hg; have hnb23 := NB266_261.out; have hnc23 := NB261_266.out; have hnb24 := NB266_262.out; have hnc24 := NB262_266.out; have hnb25 := NB266_263.out; have hnc25 := NB263_266.out; obtain ⟨hcz26_0, hcz26_1, hfz26_0, hfz26_1⟩ := cl2_ BK266) | (go_at_call 35; (with_reducible refine (impl_DecodeNear_1_35.calls k1 ((rd_T38 x0_1 x6_1).f0) ((rd_T38 x0_1 x6_1).f1) gp1_0 a1_0 a1_1 A1_2 c1_2 l1_2 gp1_1 a1_3 a1_4 a1_5 a1_6 gp1_2 a1_7 false _ ?side1 ?side2 ?side3 ?side4 ?side5 A11.out).mono ?_); (case side1 => exact (pf_ BK261 NB261_266)); (case side2 => exact Kd.C_kept_now HR1_2.out (by repeat (first | (with_reducible first | exact HK.out | apply Kept.alloc | apply Kept.drewN | apply Kept.drew | refine Kept.setCell ?_ (.inr GW261.out) _ | refine Kept.setCell ?_ (.inr GW262.out) _ | refine Kept.setCell ?_ (.inr GW263.out) _ | refine Kept.setCell ?_ (.inr GW266.out) _) | exact HK.out))); (case side3 => exact HC1_2.out); (case side4 => exact (pf_ BK262 NB262_266)); (case side5 => exact (pf_ BK263 NB263_266)); rintro e w27 ⟨rfl, hb⟩; have n0_ := A_ (Kd.R_below (by (with_reducible repeat (first | apply Kd.R_alloc | apply Kd.R_drewN | apply Kd.R_drew)); exact (Kd.R_mono (Kd.R_far (p := ⟨gb266, 1, none⟩) (Kd.R_far (p := ⟨gb266, 0, none⟩) (Kd.R_mono HO_0.out (fun k_ hk => (⟨hk, hk.2⟩ : _ ∧ k_ ≠ gb266))) (fun _ hk => hk.2) (.int .i8 ((rd_T38 x0_1 x6_1).f0))) (fun _ hk => hk.2) (.bool ((rd_T38 x0_1 x6_1).f1))) (fun _ h_ => h_.1))) hb); have n1_ := A_ (blk_below (g := gp1_0) (o := .cells #[.int .i8 a1_0, .int .i8 a1_1, .slice A1_2 l1_2.length c1_2] 29 (0, 0)) (pf_ BK261 NB261_266) hb); have n2_ := A_ (blk_below (g := gp1_1) (o := .cells #[.int .i8 a1_3, .int .i8 a1_4, .int .i8 a1_5, .int .i8 a1_6] 41 (0, 0)) (pf_ BK262 NB262_266) hb); have n3_ := A_ (blk_below (g := gp1_2) (o := .cells #[.int .i64 a1_7] 2 (0, 0)) (pf_ BK263 NB263_266) hb); have n4_ := A_ (blk_below (g := gb266) (o := .cells #[.int .i8 ((rd_T38 x0_1 x6_1).f0), .bool ((rd_T38 x0_1 x6_1).f1)] 38 (0, 0)) (by (with_reducible repeat (first | refine blk_drewN ?_ _ | refine blk_drew ?_ | refine blk_alloc ?_ _)); refine blk_put (cs := #[.int .i8 ((rd_T38 x0_1 x6_1).f0), .bool false]) ?_ 1 _ rfl; (with_reducible repeat (first | refine blk_drewN ?_ _ | refine blk_drew ?_ | refine blk_alloc ?_ _)); refine blk_put (cs := #[.int .i8 0, .bool false]) ?_ 0 _ rfl; (with_reducible repeat (first | refine blk_drewN ?_ _ | refine blk_drew ?_ | refine blk_alloc ?_ _)); exact BK266.out) hb); have n5_ := A_ (Kept.below (S := (fun k_ => P0_ k_)) (by repeat (first | (with_reducible first | exact HK.out | apply Kept.alloc | apply Kept.drewN | apply Kept.drew | refine Kept.setCell ?_ (.inr GW261.out) _ | refine Kept.setCell ?_ (.inr GW262.out) _ | refine Kept.setCell ?_ (.inr GW263.out) _ | refine Kept.setCell ?_ (.inr GW266.out) _) | exact HK.out)) hb); have n6_ := A_ (below_step (bs_ HB GE266) hb); clear HO_0; clear BK261; clear BK262; clear BK263; clear BK266; clear HK; clear HB; have HO_0 := n0_; have BK261 := n1_; have BK262 := n2_; have BK263 := n3_; have BK266 := n4_; have HK := n5_; have HB := n6_; clear n0_ n1_ n2_ n3_ n4_ n5_ n6_; (try clear hb); (try clear hb2); (try clear hk); (try clear hi); obtain ⟨hcz28_0, hcz28_1, hfz28_0, hfz28_1⟩ := cl2_ BK266; have p21 : 0 ≤ (x5_1 : Int) := asm_; have q21 : (x5_1 : Int) < ((x0_1.length : Int) : Int) := asm_; obtain ⟨go21, co21, eo21, gb21, gl21, cl21, HG21⟩ := Kd.R_form HO_0.out (by omega); (first | cases eo21 | (injection eo21 with ea_ en_ ec_; (first | subst ea_ | (injection ea_ with ea_; subst ea_)); subst ec_; clear en_)); have GB21 := Aside0.mk gb21; have GG21 := Aside0.mk HG21; clear gb21 gl21 HG21; have HMgo21 := A_ (show (P0_ go21 ∨ w.heap.size ≤ go21) from (HO_0.out.1 _ rfl).1); (first | simp only [add_plain] at hx265_0 | skip); (first | simp only [add_plain] at hx265_1 | skip); obtain ⟨ce21, hcl21, hM21, hcc21, hfr21⟩ := Kd.R_elem HO_0.out z38 (x5_1 : Int) p21 q21; obtain rfl := k38_openM hM21; have hx21_0 : w27.cell? ⟨go21, (x5_1 : Int).toNat * 2, none⟩ = some (.int .i8 ((rd_T38 x0_1 x5_1).f0)) := hcc21 0 _ rfl; have hx21_1 : w27.cell? ⟨go21, (x5_1 : Int).toNat * 2 + 1, none⟩ = some (.bool ((rd_T38 x0_1 x5_1).f1)) := hcc21 1 _ rfl; have hf21_0 : w27.frozen? ⟨go21, (x5_1 : Int).toNat * 2, none⟩ = false := hfr21 0; have hf21_1 : w27.frozen? ⟨go21, (x5_1 : Int).toNat * 2 + 1, none⟩ = false := hfr21 1; clear hcl21 hcc21 hfr21 hM21; replace p21 := eq_true p21; replace q21 := eq_true q21; have HX29 := A_ (show Kd.R k38 38 w27 w0.heap.size (fun k_ => (P0_ k_ ∨ w.heap.size ≤ k_) ∧ k_ ≠ gb266) (.slice (some ⟨go21, 0, none⟩) x0_1.length co7) x0_1 from (pr_ HO_0)); obtain ⟨ce29, hcl29, hM29, hcc29, hfr29⟩ := Kd.R_elem HX29.out z38 (x5_1 : Int) (asm_) (by have h_ : (x5_1 : Int) < ((x0_1.length : Int) : Int) := asm_; first | exact h_ | (have e_ := (Kd.R_reads' HO_0.out).1; omega) | simpa using h_); obtain rfl := k38_openM hM29; have HP29 := Kd.R_seg HX29.out (x5_1 : Int) (asm_) (by have h_ : (x5_1 : Int) < ((x0_1.length : Int) : Int) := asm_; first | exact h_ | (have e_ := (Kd.R_reads' HO_0.out).1; omega) | simpa using h_) (seg := [.int .i8 ((rd_T38 x0_1 x6_1).f0), .bool ((rd_T38 x0_1 x6_1).f1)]) (j := 0) hcl29 hcc29 (show 2 ≤ 2 from by decide) (x' := (⟨(rd_T38 x0_1 x6_1).f0, (rd_T38 x0_1 x6_1).f1⟩ : S38)) (k38_mkM _ _ _ (⟨(rd_T38 x0_1 x6_1).f0, (rd_T38 x0_1 x6_1).f1⟩ : S38) ) (fun _ hk => hk); have hx29_0 := hcc29 0 _ rfl; (try simp only [show (k38).sz = 2 from rfl, Nat.mul_one, Nat.add_zero] at hx29_0); have hf29_0 := hfr29 0; (try simp only [show (k38).sz = 2 from rfl, Nat.mul_one, Nat.add_zero] at hf29_0); have hx29_1 := hcc29 1 _ rfl; (try simp only [show (k38).sz = 2 from rfl, Nat.mul_one, Nat.add_zero] at hx29_1); have hf29_1 := hfr29 1; (try simp only [show (k38).sz = 2 from rfl, Nat.mul_one, Nat.add_zero] at hf29_1); clear hcl29 hcc29 hfr29 hM29) | ((with_reducible refine gate_store (t := 38) (p := 33) rfl ?_); refine store_event (t := 38) (p := 33) (v := ?vo_w30) (w1 := ((w27.setCell ⟨go21, (x5_1 : Int).toNat * 2, none⟩ (.int .i8 ((rd_T38 x0_1 x6_1).f0))).setCell ⟨go21, (x5_1 : Int).toNat * 2 + 1, none⟩ (.bool ((rd_T38 x0_1 x6_1).f1)))) ?hg ?ho ?hn ?hr ?_; (case ho => rfl); (case hg => rfl); (case hn => rfl); (case hr => first | (go_simp; done) | (go_simp; rfl)); intro w30 hw; have hg : w27.grownBy w30 (some go21) := (by rw [hw]; exact HP29.2); have hp_ : Kd.R k38 38 w30 w0.heap.size (fun k_ => (P0_ k_ ∨ w.heap.size ≤ k_) ∧ k_ ≠ gb266) (.slice (some ⟨go21, 0, none⟩) x0_1.length co7) y268 := (by rw [hw, Ny268.out]; exact HP29.1); clear HP29; have n0_ := A_ (hp_); have n1_ := A_ (blk_grown (pl_ BK261) hg (Kd.R_ne HO_0.out BK261.out (by decide))); have n2_ := A_ (blk_grown (pl_ BK262) hg (Kd.R_ne HO_0.out BK262.out (by decide))); have n3_ := A_ (blk_grown (pl_ BK263) hg (Kd.R_ne HO_0.out BK263.out (by decide))); have n4_ := A_ (blk_grown (pl_ BK266) hg (Kd.R_away HO_0.out (fun _ hk => hk.2))); have n5_ := A_ ((by rw [hw]; exact below_set (below_set (HB.out) GB21.out) GB21.out : Below w0.heap.size w0 w30)); have n6_ := A_ (Kept.of_grown (S := (fun k_ => P0_ k_)) hg (by repeat (first | (with_reducible first | exact HK.out | apply Kept.alloc | apply Kept.drewN | apply Kept.drew | refine Kept.setCell ?_ (.inr GW261.out) _ | refine Kept.setCell ?_ (.inr GW262.out) _ | refine Kept.setCell ?_ (.inr GW263.out) _ | refine Kept.setCell ?_ (.inr GW266.out) _) | exact HK.out)) (fun k_ e_ => (HO_0.out.1 k_ e_).1)); clear HO_0; clear BK261; clear BK262; clear BK263; clear BK266; clear HB; clear HK; have HO_0 := n0_; have BK261 := n1_; have BK262 := n2_; have BK263 := n3_; have BK266 := n4_; have HB := n5_; have HK := n6_; clear n0_ n1_ n2_ n3_ n4_ n5_ n6_; clear hg hw hp_))
         (try simp only [← hl0_1])
         go_roundg k1
         case measure => have := HK1.out; omega
         case rel => exact ⟨(y268), (wrap64 (x5_1 + 1)), (wrap64 (x6_1 + 1)), rs_, rs_, H', ⟨by have := HK1.out; omega⟩, ⟨by (try simp only [hl0_1]); (with_reducible repeat (first | apply Kd.R_alloc | apply Kd.R_drewN | apply Kd.R_drew)); exact Kd.R_mono HO_0.out (fun _ hk => hk.1)⟩, ⟨by (try simp only [hl0_1]); (with_reducible repeat (first | refine blk_drewN ?_ _ | refine blk_drew ?_ | refine blk_alloc ?_ _)); exact BK261.out⟩, ⟨by (try simp only [hl0_1]); (with_reducible repeat (first | refine blk_drewN ?_ _ | refine blk_drew ?_ | refine blk_alloc ?_ _)); exact BK262.out⟩, ⟨by (try simp only [hl0_1]); (with_reducible repeat (first | refine blk_drewN ?_ _ | refine blk_drew ?_ | refine blk_alloc ?_ _)); exact BK263.out⟩, ⟨by repeat (first | (with_reducible first | exact HK.out | apply Kept.alloc | apply Kept.drewN | apply Kept.drew | refine Kept.setCell ?_ (.inr GW261.out) _ | refine Kept.setCell ?_ (.inr GW262.out) _ | refine Kept.setCell ?_ (.inr GW263.out) _ | refine Kept.setCell ?_ (.inr GW266.out) _) | exact HK.out)⟩, ⟨bl_ HB⟩⟩
        ·rw [if_neg c20] at H
         exact absurd H (by simp)
       ·rw [if_neg c19] at H
        exact absurd H (by simp)
     ·rw [if_neg c10] at H
      exact absurd H (by simp)
    ·rw [if_neg c9] at H
     have c9b0 : decide (x6_1 < (x0_1.length : Int)) = false := decide_eq_false c9
     clear c9
     by_cases c31 : 0 ≤ x5_1
     ·rw [if_pos c31] at H
      have c31b0 := eq_true c31
      have c31b1 : decide (0 ≤ x5_1) = true := decide_eq_true c31
      clear c31
      by_cases c32 : x5_1 ≤ (x0_1.length : Int)
      ·rw [if_pos c32] at H
       have c32b0 := eq_true c32
       have c32b1 : decide (x5_1 ≤ (x0_1.length : Int)) = true := decide_eq_true c32
       clear c32
       obtain ⟨y269, hy269⟩ : ∃ y_ : List (S38), y_ = (x0_1.drop (x5_1 : Int).toNat) := ⟨_, rfl⟩
       replace H : (some ((x0_1.take (x5_1 : Int).toNat ++ List.replicate (x0_1.length - (x5_1 : Int).toNat) z38).take (x5_1 : Int).toNat)) = some r := by first | (rw [hy269]; with_reducible exact H) | (have H2_ := (Option.bind_some _ _).symm.trans H; rw [hy269]; with_reducible exact H2_) | (have H2_ := (Option.bind_some _ _).symm.trans H; with_reducible exact H2_) | with_reducible exact H | (rw [hy269]; exact H) | exact H
       have Ny269 := Aside0.mk hy269
       clear hy269
       obtain ⟨y273, hy273⟩ : ∃ y_ : List (S38), y_ = (x0_1.take (x5_1 : Int).toNat ++ List.replicate (x0_1.length - (x5_1 : Int).toNat) z38) := ⟨_, rfl⟩
       replace H : (some (y273.take (x5_1 : Int).toNat)) = some r := by first | (rw [hy273]; with_reducible exact H) | (have H2_ := (Option.bind_some _ _).symm.trans H; rw [hy273]; with_reducible exact H2_) | (have H2_ := (Option.bind_some _ _).symm.trans H; with_reducible exact H2_) | with_reducible exact H | (rw [hy273]; exact H) | exact H
       have Ny273 := Aside0.mk hy273
       clear hy273
       have c33b0 := eq_true (asm_ : x5_1 ≤ (x0_1.length : Int))
       obtain ⟨y274, hy274⟩ : ∃ y_ : List (S38), y_ = (y273.take (x5_1 : Int).toNat) := ⟨_, rfl⟩
       replace H : (some y274) = some r := by first | (rw [hy274]; with_reducible exact H) | (have H2_ := (Option.bind_some _ _).symm.trans H; rw [hy274]; with_reducible exact H2_) | (have H2_ := (Option.bind_some _ _).symm.trans H; with_reducible exact H2_) | with_reducible exact H | (rw [hy274]; exact H) | exact H
       have Ny274 := Aside0.mk hy274
       clear hy274
       obtain rfl := Option.some.inj H
       have q34 : (x5_1 : Int) ≤ ((x0_1.length : Int) : Int) := asm_
       obtain ⟨i034, hi034, _, hsz34, _⟩ := info_parts info38
       have hroom34 : x0_1.length ≤ co7 := (Kd.R_reads' HO_0.out).2.1
       have hC34 : Kd.C k38 _ Ao7 x0_1.length x0_1 := (Kd.R_reads' HO_0.out).2.2
       have q034 : (0 : Int) ≤ (x5_1 : Int) := asm_
       have hcut34 := cut_from (P := Try.prog) 57 38 .i64 Try.underlying57 hi034 2 hsz34 Ao7 x0_1.length co7 x5_1 q034 q34
       have hr34 := Kd.C_drop (m := (x5_1 : Int).toNat) (c := co7) hC34 (by omega) hroom34
       obtain ⟨A34, hA34⟩ : ∃ A1, A1 = (if co7 = (x5_1 : Int).toNat then Ao7 else (Ao7 : Option Addr).map (·.add ((x5_1 : Int).toNat * 2))) := ⟨_, rfl⟩
       obtain ⟨c34, hc34⟩ : ∃ c1, c1 = co7 - (x5_1 : Int).toNat := ⟨_, rfl⟩
       have hy34 : y269.length = x0_1.length - (x5_1 : Int).toNat := (by rw [Ny269.out, List.length_drop] <;> omega)
       rw [show (x0_1).drop (x5_1 : Int).toNat = y269 from Ny269.out.symm] at hr34
       replace hr34 : Kd.C k38 _ A34 y269.length y269 := (by rw [hA34]; exact hr34)
       rw [← hy34, ← hA34, ← hc34] at hcut34
       have HR272 := Aside0.mk hr34
       have HC272 := A_ (show y269.length ≤ c34 from by rw [hy34, hc34]; exact Nat.sub_le_sub_right hroom34 _)
       clear hr34 hC34 hroom34 hi034 hsz34 hc34
       have KY34 := Aside0.mk hy34
       have KA34 := Aside0.mk hA34
       clear hy34 hA34
       have KL34 := A_ (show (x5_1 : Int).toNat ≤ x0_1.length from by omega)
       replace q34 := eq_true q34
       go_wp2_with (first | ((with_reducible refine gate_builtin (b := .clear) (xs := #[.tmp 38]) rfl ?_); refine R_clearcut k38 (w0 := w0) w0.heap.size rfl (.tmp 38) 57 38 rfl Try.underlying57 info38 rfl (by decide) (fun w_ ok_ => k38_mkM w_ _ ok_ z38) (n := x0_1.length) (c := co7) (k := (x5_1 : Int).toNat) rfl KA34.out ?hm (pr_ HO_0) ?hk (bl_ HB) (below_size (bl_ HB)) ?_; (case hm => have hn_ := (Kd.R_reads' HO_0.out).1; have hl_ := KY34.out; omega); (case hk => have hn_ := (Kd.R_reads' HO_0.out).1; have hl_ := KL34.out; omega); intro w35 ho hb hg; rw [← Ny273.out] at ho; have n0_ := A_ (ho); have n1_ := A_ (blk_grown (pl_ BK261) hg (Kd.R_ne HO_0.out BK261.out (by decide))); have n2_ := A_ (blk_grown (pl_ BK262) hg (Kd.R_ne HO_0.out BK262.out (by decide))); have n3_ := A_ (blk_grown (pl_ BK263) hg (Kd.R_ne HO_0.out BK263.out (by decide))); have n4_ := A_ (hb); have n5_ := A_ (Kept.of_grown (S := (fun k_ => P0_ k_)) hg (by repeat (first | (with_reducible first | exact HK.out | apply Kept.alloc | apply Kept.drewN | apply Kept.drew | refine Kept.setCell ?_ (.inr GW261.out) _ | refine Kept.setCell ?_ (.inr GW262.out) _ | refine Kept.setCell ?_ (.inr GW263.out) _) | exact HK.out)) (fun k_ e_ => (HO_0.out.1 k_ e_))); clear HO_0; clear BK261; clear BK262; clear BK263; clear HB; clear HK; have HO_0 := n0_; have BK261 := n1_; have BK262 := n2_; have BK263 := n3_; have HB := n4_; have HK := n5_; clear n0_ n1_ n2_ n3_ n4_ n5_; clear ho hb hg; have hln_y273 := Nat.le_of_eq (Kd.R_reads' HO_0.out).1; have q36 : (x5_1 : Int) ≤ ((x0_1.length : Int) : Int) := asm_; obtain ⟨i036, hi036, _, hsz36, _⟩ := info_parts info38; have hcut36 := cut_to (P := Try.prog) 57 38 .i64 Try.underlying57 hi036 Ao7 x0_1.length co7 x5_1 (asm_) q36 (Kd.R_reads' HO_0.out).2.1; have hr36 := Kd.R_take (m := (x5_1 : Int).toNat) HO_0.out (by omega); have hy36 : y274.length = (x5_1 : Int).toNat := (by rw [Ny274.out, List.length_take]; omega); rw [← Ny274.out] at hr36; rw [← hy36] at hr36 hcut36; clear hy36 hi036 hsz36 HO_0; have HO276 := Aside0.mk hr36; clear hr36; replace q36 := eq_true q36))
       go_ret
       exact ⟨_, by first | rfl | (simp [errW_none, errW_some] <;> rfl) | (simp [*, errW_none, errW_some] <;> rfl), pr_ HO276, bl_ HB, by repeat (first | (with_reducible first | exact HK.out | apply Kept.alloc | apply Kept.drewN | apply Kept.drew | refine Kept.setCell ?_ (.inr GW261.out) _ | refine Kept.setCell ?_ (.inr GW262.out) _ | refine Kept.setCell ?_ (.inr GW263.out) _) | exact HK.out)⟩
      ·rw [if_neg c32] at H
       exact absurd H (by simp)
     ·rw [if_neg c31] at H
      exact absurd H (by simp)

end Go.Proofs.Ytkieplebdbdigaa.M
