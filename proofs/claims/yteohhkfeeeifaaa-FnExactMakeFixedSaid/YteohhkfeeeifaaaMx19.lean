-- By this seat's own program over the kit's printer (arrays, functions told by hand); nothing of it is trusted: the kernel checks it.
import Derived.Test.YteohhkfeeeifaaaMx0
import Derived.Test.YteohhkfeeeifaaaMx10
import Derived.Test.YteohhkfeeeifaaaMx14
import Derived.Test.YteohhkfeeeifaaaMx17
import Derived.Test.YteohhkfeeeifaaaMx18
namespace Go.Proofs.Yteohhkfeeeifaaa.M
open Go.RowKit Go.Proofs.YteohhkfeeeifaaaW.PrintWords Go.Proofs.YteohhkfeeeifaaaW.PrintLast Go.Proofs.YteohhkfeeeifaaaW.PrintMore
attribute [local go_sem] max2_int min2_int max_two min_two max_three min_three max_four min_four   -- for this text's walks alone
set_option linter.unusedVariables false
set_option linter.unusedSimpArgs false

/-! ### laws_FnExactMakeFixed: function 9 -/
mutual
def laws_FnExactMakeFixed.j0 : Nat → Int → Int → Int → Int → Bool → Int → Int → List (S24) → Int → Int → List (S24) → Option (Bool)
 | 0, _, _, _, _, _, _, _, _, _, _, _ => none
 | k + 1, x0, x1, x2, x8, x37, x230000, x230001, x230002, x237000, x237001, x237002 => if x37 = true then (some false) else ((laws_markFixed.f k x237000 x237001 x237002 1).bind fun bt238 => ((laws_heldFixed.f k x237000 x237001 bt238.2 1).bind fun t240 => (if t240 < 0 then (some false) else (if t240 = bt238.1 then ((impl_MakeFixed.f k x0 x1 x2).bind fun bt241 => ((laws_eqFixed.f k bt241.1 bt241.2.1 bt241.2.2.1 x230000 x230001 x230002).bind fun t248 => (if t248 = true then (laws_FnExactMakeFixed.j1 k bt238.1 (bt241.2.2.2 != x8) x237000 x237001 bt238.2) else (laws_FnExactMakeFixed.j1 k bt238.1 true x237000 x237001 bt238.2)))) else (some false)))))
def laws_FnExactMakeFixed.j1 : Nat → Int → Bool → Int → Int → List (S24) → Option (Bool)
 | 0, _, _, _, _, _ => none
 | k + 1, x11, x64, x237000, x237001, x237002 => if x64 = true then (some false) else ((laws_heldFixed.f k x237000 x237001 x237002 1).bind fun t249 => (if t249 < 0 then (some false) else (if t249 = x11 then (some true) else (some false))))
end
def laws_FnExactMakeFixed.f (k : Nat) (a0 : Int) (a1 : Int) (a2 : Int) : Option (Bool) := (spec_MakeFixed.f k a0 a1 a2).bind fun bt223 => ((impl_MakeFixed.f k a0 a1 a2).bind fun bt230 => ((laws_eqFixed.f k bt230.1 bt230.2.1 bt230.2.2.1 bt223.1 bt223.2.1 bt223.2.2.1).bind fun t237 => (if t237 = true then (laws_FnExactMakeFixed.j0 k a0 a1 a2 bt223.2.2.2 (bt230.2.2.2 != bt223.2.2.2) bt223.1 bt223.2.1 bt223.2.2.1 bt230.1 bt230.2.1 bt230.2.2.1) else (laws_FnExactMakeFixed.j0 k a0 a1 a2 bt223.2.2.2 true bt223.1 bt223.2.1 bt223.2.2.1 bt230.1 bt230.2.1 bt230.2.2.1))))
theorem laws_FnExactMakeFixed.mono_l : ∀ k, (∀ y0 y1 y2 y3 y4 y5 y6 y7 y8 y9 y10, LeO (laws_FnExactMakeFixed.j0 k y0 y1 y2 y3 y4 y5 y6 y7 y8 y9 y10) (laws_FnExactMakeFixed.j0 (k + 1) y0 y1 y2 y3 y4 y5 y6 y7 y8 y9 y10)) ∧ (∀ y0 y1 y2 y3 y4, LeO (laws_FnExactMakeFixed.j1 k y0 y1 y2 y3 y4) (laws_FnExactMakeFixed.j1 (k + 1) y0 y1 y2 y3 y4))
 | 0 => ⟨fun _ _ _ _ _ _ _ _ _ _ _ r h => by simp [laws_FnExactMakeFixed.j0] at h, fun _ _ _ _ _ r h => by simp [laws_FnExactMakeFixed.j1] at h⟩
 | k + 1 => by
  obtain ⟨ih0, ih1⟩ := laws_FnExactMakeFixed.mono_l k
  refine ⟨?_, ?_⟩
  ·intro y0 y1 y2 y3 y4 y5 y6 y7 y8 y9 y10
   unfold laws_FnExactMakeFixed.j0
   repeat' first
   | (with_reducible exact ih0 _ _ _ _ _ _ _ _ _ _ _)
   | (with_reducible exact ih1 _ _ _ _ _)
   | (with_reducible exact impl_MakeFixed.mono _ _ _ _)
   | (with_reducible exact laws_eqFixed.mono _ _ _ _ _ _ _)
   | (with_reducible exact laws_heldFixed.mono _ _ _ _ _)
   | (with_reducible exact laws_markFixed.mono _ _ _ _ _)
   | (with_reducible exact spec_MakeFixed.mono _ _ _ _)
   | (with_reducible exact LeO.refl _)
   | (with_reducible exact LeO.none _)
   | (with_reducible refine LeO.ite ?_ ?_)
   | (with_reducible refine LeO.bind ?_ (fun _ => ?_))
   | exact ih0 _ _ _ _ _ _ _ _ _ _ _
   | exact ih1 _ _ _ _ _
   | exact impl_MakeFixed.mono _ _ _ _
   | exact laws_eqFixed.mono _ _ _ _ _ _ _
   | exact laws_heldFixed.mono _ _ _ _ _
   | exact laws_markFixed.mono _ _ _ _ _
   | exact spec_MakeFixed.mono _ _ _ _
   | exact LeO.none _
   | refine LeO.ite ?_ ?_
   | refine LeO.bind ?_ (fun _ => ?_)
  ·intro y0 y1 y2 y3 y4
   unfold laws_FnExactMakeFixed.j1
   repeat' first
   | (with_reducible exact ih0 _ _ _ _ _ _ _ _ _ _ _)
   | (with_reducible exact ih1 _ _ _ _ _)
   | (with_reducible exact impl_MakeFixed.mono _ _ _ _)
   | (with_reducible exact laws_eqFixed.mono _ _ _ _ _ _ _)
   | (with_reducible exact laws_heldFixed.mono _ _ _ _ _)
   | (with_reducible exact laws_markFixed.mono _ _ _ _ _)
   | (with_reducible exact spec_MakeFixed.mono _ _ _ _)
   | (with_reducible exact LeO.refl _)
   | (with_reducible exact LeO.none _)
   | (with_reducible refine LeO.ite ?_ ?_)
   | (with_reducible refine LeO.bind ?_ (fun _ => ?_))
   | exact ih0 _ _ _ _ _ _ _ _ _ _ _
   | exact ih1 _ _ _ _ _
   | exact impl_MakeFixed.mono _ _ _ _
   | exact laws_eqFixed.mono _ _ _ _ _ _ _
   | exact laws_heldFixed.mono _ _ _ _ _
   | exact laws_markFixed.mono _ _ _ _ _
   | exact spec_MakeFixed.mono _ _ _ _
   | exact LeO.none _
   | refine LeO.ite ?_ ?_
   | refine LeO.bind ?_ (fun _ => ?_)
theorem laws_FnExactMakeFixed.mono : ∀ a0 a1 a2 k, LeO (laws_FnExactMakeFixed.f k a0 a1 a2) (laws_FnExactMakeFixed.f (k + 1) a0 a1 a2) := by
 intro a0 a1 a2 k
 obtain ⟨ih0, ih1⟩ := laws_FnExactMakeFixed.mono_l k
 unfold laws_FnExactMakeFixed.f
 repeat' first
   | (with_reducible exact ih0 _ _ _ _ _ _ _ _ _ _ _)
   | (with_reducible exact ih1 _ _ _ _ _)
   | (with_reducible exact impl_MakeFixed.mono _ _ _ _)
   | (with_reducible exact laws_eqFixed.mono _ _ _ _ _ _ _)
   | (with_reducible exact laws_heldFixed.mono _ _ _ _ _)
   | (with_reducible exact laws_markFixed.mono _ _ _ _ _)
   | (with_reducible exact spec_MakeFixed.mono _ _ _ _)
   | (with_reducible exact LeO.refl _)
   | (with_reducible exact LeO.none _)
   | (with_reducible refine LeO.ite ?_ ?_)
   | (with_reducible refine LeO.bind ?_ (fun _ => ?_))
   | exact ih0 _ _ _ _ _ _ _ _ _ _ _
   | exact ih1 _ _ _ _ _
   | exact impl_MakeFixed.mono _ _ _ _
   | exact laws_eqFixed.mono _ _ _ _ _ _ _
   | exact laws_heldFixed.mono _ _ _ _ _
   | exact laws_markFixed.mono _ _ _ _ _
   | exact spec_MakeFixed.mono _ _ _ _
   | exact LeO.none _
   | refine LeO.ite ?_ ?_
   | refine LeO.bind ?_ (fun _ => ?_)
set_option maxHeartbeats 8000000 in
set_option maxRecDepth 100000 in
theorem laws_FnExactMakeFixed.calls (k : Nat) (a0 : Int) (a1 : Int) (a2 : Int) (r : Bool) (w : World) (h : laws_FnExactMakeFixed.f k a0 a1 a2 = some r) :
  Calls Try.prog 9 #[.int .i64 a0, .int .i64 a1, .int .i64 a2] w fun e w' => e = .returned (.bool r) ∧ Below w.heap.size w w' := by
 have hu40 := Try.underlying40
 have HB := Aside0.mk (Below.refl w.heap.size w)
 have H : ((spec_MakeFixed.f k a0 a1 a2).bind fun bt223 => ((impl_MakeFixed.f k a0 a1 a2).bind fun bt230 => ((laws_eqFixed.f k bt230.1 bt230.2.1 bt230.2.2.1 bt223.1 bt223.2.1 bt223.2.2.1).bind fun t237 => (if t237 = true then (laws_FnExactMakeFixed.j0 k a0 a1 a2 bt223.2.2.2 (bt230.2.2.2 != bt223.2.2.2) bt223.1 bt223.2.1 bt223.2.2.1 bt230.1 bt230.2.1 bt230.2.2.1) else (laws_FnExactMakeFixed.j0 k a0 a1 a2 bt223.2.2.2 true bt223.1 bt223.2.1 bt223.2.2.1 bt230.1 bt230.2.1 bt230.2.2.1))))) = some r := h
 clear h
 replace H := Option.bind_eq_some_iff.mp H
 obtain ⟨⟨t223, t224, t225, t228⟩, A40, H⟩ := H
 replace H : ((impl_MakeFixed.f k a0 a1 a2).bind fun bt230 => ((laws_eqFixed.f k bt230.1 bt230.2.1 bt230.2.2.1 t223 t224 t225).bind fun t237 => (if t237 = true then (laws_FnExactMakeFixed.j0 k a0 a1 a2 t228 (bt230.2.2.2 != t228) t223 t224 t225 bt230.1 bt230.2.1 bt230.2.2.1) else (laws_FnExactMakeFixed.j0 k a0 a1 a2 t228 true t223 t224 t225 bt230.1 bt230.2.1 bt230.2.2.1)))) = some r := H
 have A4 := Aside0.mk A40
 clear A40
 replace H := Option.bind_eq_some_iff.mp H
 obtain ⟨⟨t230, t231, t232, t235⟩, A50, H⟩ := H
 replace H : ((laws_eqFixed.f k t230 t231 t232 t223 t224 t225).bind fun t237 => (if t237 = true then (laws_FnExactMakeFixed.j0 k a0 a1 a2 t228 (t235 != t228) t223 t224 t225 t230 t231 t232) else (laws_FnExactMakeFixed.j0 k a0 a1 a2 t228 true t223 t224 t225 t230 t231 t232))) = some r := H
 have A5 := Aside0.mk A50
 clear A50
 have HC6 := Aside0.mk H
 clear H
 go_enter Try.func9, Try.ntmps9
 go_upto_region 3 with (first | ((with_reducible refine gate_callee (f := 24) rfl ?_); refine goesL_ (some 19) rfl rfl Try.func24 (by kernel_rfl) rfl #[.int .i64 a0, .int .i64 a1, .int .i64 a2] rfl (by (try simp only [List.map_toArray, List.map_cons, List.map_nil]); first | done | rfl | (simp only [List.length_drop, List.length_take]; rfl)) ?_; (with_reducible refine (spec_MakeFixed.calls k a0 a1 a2 t223 t224 t225 t228 _ A4.out).mono ?_); rintro e w7 ⟨v226, rfl, ho0, hb⟩; refine ⟨_, rfl, ?_⟩; have n0_ := Aside0.mk (Kd.R_lower ho0 (below_size (bl_ HB))); have n1_ := Aside0.mk (below_step (bl_ HB) hb); clear HB; have HO227 := n0_; have HB := n1_; clear n0_ n1_; (try clear hb); (try clear hb2); (try clear hk); (try clear hi); (try clear ho0)) | ((with_reducible refine gate_dst (N := 7) rfl ?_); refine box_event ?hg (N := 7) ?hd (cs := #[.int .i8 0, .int .i8 0, .slice none 0 0]) (t := 40) ?hr ?_; (case hd => rfl); (case hg => rfl); (case hr => first | (go_simp; done) | (go_simp; rfl)); intro gb229 hg w8 hbox hb; have n0_ := Aside0.mk (Kd.R_below (pr_ HO227) hb); have n1_ := Aside0.mk (below_step (bl_ HB) hb); have n2_ := Aside0.mk (hbox); have n3_ := Aside0.mk ((by rw [hg]; exact (below_size (bl_ HB)) : w.heap.size ≤ gb229)); have n4_ := Aside0.mk ((by rw [hg]; exact (below_size (bl_ HB)) : w.heap.size ≤ gb229)); clear HO227; clear HB; have HO227 := n0_; have HB := n1_; have BK229 := n2_; have GW229 := n3_; have GE229 := n4_; clear n0_ n1_ n2_ n3_ n4_; clear hb hbox hg; have hcz9_0 : w8.cell? ⟨gb229, 0, none⟩ = some (.int .i8 0) := (blk_cell BK229.out 0).trans rfl; have hcz9_1 : w8.cell? ⟨gb229, 1, none⟩ = some (.int .i8 0) := (blk_cell BK229.out 1).trans rfl; have hcz9_2 : w8.cell? ⟨gb229, 2, none⟩ = some (.slice none 0 0) := (blk_cell BK229.out 2).trans rfl; have hfz9_0 := blk_frozen BK229.out 0; have hfz9_1 := blk_frozen BK229.out 1; have hfz9_2 := blk_frozen BK229.out 2; obtain ⟨Ao10, co10, eo10⟩ := Kd.R_slice HO227.out; subst eo10) | ((with_reducible refine gate_callee (f := 25) rfl ?_); refine goesL_ (some 26) rfl rfl Try.func25 (by kernel_rfl) rfl #[.int .i64 a0, .int .i64 a1, .int .i64 a2] rfl (by (try simp only [List.map_toArray, List.map_cons, List.map_nil]); first | done | rfl | (simp only [List.length_drop, List.length_take]; rfl)) ?_; (with_reducible refine (impl_MakeFixed.calls k a0 a1 a2 t230 t231 t232 t235 _ A5.out).mono ?_); rintro e w11 ⟨v233, rfl, ho0, hb⟩; refine ⟨_, rfl, ?_⟩; have n0_ := Aside0.mk (Kd.R_elder' (by (with_reducible repeat (first | apply Kd.R_alloc | apply Kd.R_drewN | apply Kd.R_drew)); exact (Kd.R_mono (Kd.R_far (p := ⟨gb229, 2, none⟩) (Kd.R_far (p := ⟨gb229, 1, none⟩) (Kd.R_far (p := ⟨gb229, 0, none⟩) (Kd.R_types HO227.out BK229.out (by decide)) (fun _ hk => hk.2) (.int .i8 t223)) (fun _ hk => hk.2) (.int .i8 t224)) (fun _ hk => hk.2) (.slice Ao10 t225.length co10)) (fun _ h_ => h_.1))) (Kd.R_base ho0) hb); have n1_ := Aside0.mk (Kd.R_lower (Kd.R_new' ho0 (Kd.R_lt (by (with_reducible repeat (first | apply Kd.R_alloc | apply Kd.R_drewN | apply Kd.R_drew)); exact (Kd.R_mono (Kd.R_far (p := ⟨gb229, 2, none⟩) (Kd.R_far (p := ⟨gb229, 1, none⟩) (Kd.R_far (p := ⟨gb229, 0, none⟩) (Kd.R_types HO227.out BK229.out (by decide)) (fun _ hk => hk.2) (.int .i8 t223)) (fun _ hk => hk.2) (.int .i8 t224)) (fun _ hk => hk.2) (.slice Ao10 t225.length co10)) (fun _ h_ => h_.1))))) (below_size (by repeat (first | (with_reducible first | exact HB.out | apply below_alloc | apply pw_below_drewN | apply below_drew1 | refine below_set ?_ GE229.out) | exact HB.out)))); have n2_ := Aside0.mk (blk_below (g := gb229) (o := .cells #[.int .i8 t223, .int .i8 t224, .slice Ao10 t225.length co10] 40 (0, 0)) (by (with_reducible repeat (first | refine blk_drewN ?_ _ | refine blk_drew ?_ | refine blk_alloc ?_ _)); refine blk_put (cs := #[.int .i8 t223, .int .i8 t224, .slice none 0 0]) ?_ 2 _ rfl; (with_reducible repeat (first | refine blk_drewN ?_ _ | refine blk_drew ?_ | refine blk_alloc ?_ _)); refine blk_put (cs := #[.int .i8 t223, .int .i8 0, .slice none 0 0]) ?_ 1 _ rfl; (with_reducible repeat (first | refine blk_drewN ?_ _ | refine blk_drew ?_ | refine blk_alloc ?_ _)); refine blk_put (cs := #[.int .i8 0, .int .i8 0, .slice none 0 0]) ?_ 0 _ rfl; (with_reducible repeat (first | refine blk_drewN ?_ _ | refine blk_drew ?_ | refine blk_alloc ?_ _)); exact BK229.out) hb); have n3_ := Aside0.mk (below_step (by repeat (first | (with_reducible first | exact HB.out | apply below_alloc | apply pw_below_drewN | apply below_drew1 | refine below_set ?_ GE229.out) | exact HB.out)) hb); clear HO227; clear BK229; clear HB; have HO227 := n0_; have HO234 := n1_; have BK229 := n2_; have HB := n3_; clear n0_ n1_ n2_ n3_; (try clear hb); (try clear hb2); (try clear hk); (try clear hi); (try clear ho0)) | ((with_reducible refine gate_dst (N := 9) rfl ?_); refine box_event ?hg (N := 9) ?hd (cs := #[.int .i8 0, .int .i8 0, .slice none 0 0]) (t := 40) ?hr ?_; (case hd => rfl); (case hg => rfl); (case hr => first | (go_simp; done) | (go_simp; rfl)); intro gb236 hg w12 hbox hb; have n0_ := Aside0.mk (Kd.R_below (pr_ HO227) hb); have n1_ := Aside0.mk (Kd.R_below (pr_ HO234) hb); have n2_ := Aside0.mk (blk_below (g := gb229) (o := .cells #[.int .i8 t223, .int .i8 t224, .slice Ao10 t225.length co10] 40 (0, 0)) (pl_ BK229) hb); have n3_ := Aside0.mk (below_step (by repeat (first | (with_reducible first | exact HB.out | apply below_alloc | apply pw_below_drewN | apply below_drew1 | refine below_set ?_ GE229.out) | exact HB.out)) hb); have n4_ := Aside0.mk (hbox); have n5_ := Aside0.mk ((by rw [hg]; exact (below_size (by repeat (first | (with_reducible first | exact HB.out | apply below_alloc | apply pw_below_drewN | apply below_drew1 | refine below_set ?_ GE229.out) | exact HB.out))) : w.heap.size ≤ gb236)); have n6_ := Aside0.mk ((by rw [hg]; exact (below_size (by repeat (first | (with_reducible first | exact HB.out | apply below_alloc | apply pw_below_drewN | apply below_drew1 | refine below_set ?_ GE229.out) | exact HB.out))) : w.heap.size ≤ gb236)); have n7_ := Aside0.mk ((by rw [hg]; exact Nat.ne_of_lt (blk_lt (g := gb229) (o := .cells #[.int .i8 t223, .int .i8 t224, .slice Ao10 t225.length co10] 40 (0, 0)) (pl_ BK229)) : gb229 ≠ gb236)); have n8_ := Aside0.mk ((by rw [hg]; exact Nat.ne_of_gt (blk_lt (g := gb229) (o := .cells #[.int .i8 t223, .int .i8 t224, .slice Ao10 t225.length co10] 40 (0, 0)) (pl_ BK229)) : gb236 ≠ gb229)); clear HO227; clear HO234; clear BK229; clear HB; have HO227 := n0_; have HO234 := n1_; have BK229 := n2_; have HB := n3_; have BK236 := n4_; have GW236 := n5_; have GE236 := n6_; have NB229_236 := n7_; have NB236_229 := n8_; clear n0_ n1_ n2_ n3_ n4_ n5_ n6_ n7_ n8_; clear hb hbox hg; have hnb13 := NB236_229.out; have hnc13 := NB229_236.out; have hcz14_0 : w12.cell? ⟨gb236, 0, none⟩ = some (.int .i8 0) := (blk_cell BK236.out 0).trans rfl; have hcz14_1 : w12.cell? ⟨gb236, 1, none⟩ = some (.int .i8 0) := (blk_cell BK236.out 1).trans rfl; have hcz14_2 : w12.cell? ⟨gb236, 2, none⟩ = some (.slice none 0 0) := (blk_cell BK236.out 2).trans rfl; have hfz14_0 := blk_frozen BK236.out 0; have hfz14_1 := blk_frozen BK236.out 1; have hfz14_2 := blk_frozen BK236.out 2; obtain ⟨Ao15, co15, eo15⟩ := Kd.R_slice HO234.out; subst eo15))
 (try simp only [Act.put, List.setIfInBounds_toArray, List.set_cons_zero, List.set_cons_succ])
 go_cut [37] (fun v37 wc => ∃ (kq : Nat) (x37_5 : Bool), v37 = .bool x37_5 ∧ Aside0 (laws_FnExactMakeFixed.j0 kq a0 a1 a2 t228 x37_5 t223 t224 t225 t230 t231 t232 = some r) ∧ Aside0 (kq ≤ k) ∧ Aside0 (Kd.R k24 24 wc w.heap.size (fun k_ => some k_ ≠ ((.slice Ao15 t232.length co15) : Value).ownBlock) (.slice Ao10 t225.length co10) t225) ∧ Aside0 (Kd.R k24 24 wc w.heap.size (fun k_ => some k_ ≠ ((.slice Ao10 t225.length co10) : Value).ownBlock) (.slice Ao15 t232.length co15) t232) ∧ Aside0 (wc.heap[gb229]? = some (.cells #[.int .i8 t223, .int .i8 t224, (.slice Ao10 t225.length co10)] 40 (0, 0))) ∧ Aside0 (wc.heap[gb236]? = some (.cells #[.int .i8 t230, .int .i8 t231, (.slice Ao15 t232.length co15)] 40 (0, 0))) ∧ Aside0 (Below w.heap.size w wc))
 case first =>
  have H := HC6.out
  clear HC6
  replace H := Option.bind_eq_some_iff.mp H
  obtain ⟨t237, A160, H⟩ := H
  replace H : (if t237 = true then (laws_FnExactMakeFixed.j0 k a0 a1 a2 t228 (t235 != t228) t223 t224 t225 t230 t231 t232) else (laws_FnExactMakeFixed.j0 k a0 a1 a2 t228 true t223 t224 t225 t230 t231 t232)) = some r := H
  have A16 := Aside0.mk A160
  clear A160
  by_cases c17 : t237 = true
  ·subst c17
   have H1 : (laws_FnExactMakeFixed.j0 k a0 a1 a2 t228 (t235 != t228) t223 t224 t225 t230 t231 t232) = some r := by rw [if_pos rfl] at H; exact H
   clear H
   have H := H1
   clear H1
   have H' := Aside0.mk H
   clear H
   have hnb18 := NB236_229.out
   have hnc18 := NB229_236.out
   have hcz19_0 : w12.cell? ⟨gb236, 0, none⟩ = some (.int .i8 0) := (blk_cell BK236.out 0).trans rfl
   have hcz19_1 : w12.cell? ⟨gb236, 1, none⟩ = some (.int .i8 0) := (blk_cell BK236.out 1).trans rfl
   have hcz19_2 : w12.cell? ⟨gb236, 2, none⟩ = some (.slice none 0 0) := (blk_cell BK236.out 2).trans rfl
   have hfz19_0 := blk_frozen BK236.out 0
   have hfz19_1 := blk_frozen BK236.out 1
   have hfz19_2 := blk_frozen BK236.out 2
   have hcz20_0 : w12.cell? ⟨gb229, 0, none⟩ = some (.int .i8 t223) := (blk_cell BK229.out 0).trans rfl
   have hcz20_1 : w12.cell? ⟨gb229, 1, none⟩ = some (.int .i8 t224) := (blk_cell BK229.out 1).trans rfl
   have hcz20_2 : w12.cell? ⟨gb229, 2, none⟩ = some (.slice Ao10 t225.length co10) := (blk_cell BK229.out 2).trans rfl
   have hfz20_0 := blk_frozen BK229.out 0
   have hfz20_1 := blk_frozen BK229.out 1
   have hfz20_2 := blk_frozen BK229.out 2
   go_wp2_with (first | ((with_reducible refine gate_callee (f := 26) rfl ?_); refine goesL_ (some 31) rfl rfl Try.func26 (by kernel_rfl) rfl #[.agg #[.int .i8 t230, .int .i8 t231, .slice Ao15 t232.length co15], .agg #[.int .i8 t223, .int .i8 t224, .slice Ao10 t225.length co10]] rfl (by (try simp only [List.map_toArray, List.map_cons, List.map_nil]); first | done | rfl | (simp only [List.length_drop, List.length_take]; rfl)) ?_; (with_reducible refine (laws_eqFixed.calls k t230 t231 _ _ t232 t223 t224 _ _ t225 true _ ?side1 ?side2 ?side3 ?side4 A16.out).mono ?_); (case side1 => refine (Kd.R_reads' (e := 24) (base := w.heap.size) (ok := fun k_ => (True ∧ some k_ ≠ (.slice Ao10 t225.length co10 : Value).ownBlock)) (n := t232.length) (c := co15) ?_).2.2; exact (by (with_reducible repeat (first | apply Kd.R_alloc | apply Kd.R_drewN | apply Kd.R_drew)); exact (Kd.R_mono (Kd.R_far (p := ⟨gb236, 2, none⟩) (Kd.R_far (p := ⟨gb236, 1, none⟩) (Kd.R_far (p := ⟨gb236, 0, none⟩) (Kd.R_types HO234.out BK236.out (by decide)) (fun _ hk => hk.2) (.int .i8 t230)) (fun _ hk => hk.2) (.int .i8 t231)) (fun _ hk => hk.2) (.slice Ao15 t232.length co15)) (fun _ h_ => h_.1)))); (case side2 => exact (Kd.R_reads' HO234.out).2.1); (case side3 => refine (Kd.R_reads' (e := 24) (base := w.heap.size) (ok := fun k_ => (True ∧ some k_ ≠ (.slice Ao15 t232.length co15 : Value).ownBlock)) (n := t225.length) (c := co10) ?_).2.2; exact (by (with_reducible repeat (first | apply Kd.R_alloc | apply Kd.R_drewN | apply Kd.R_drew)); exact (Kd.R_mono (Kd.R_far (p := ⟨gb236, 2, none⟩) (Kd.R_far (p := ⟨gb236, 1, none⟩) (Kd.R_far (p := ⟨gb236, 0, none⟩) (Kd.R_types HO227.out BK236.out (by decide)) (fun _ hk => hk.2) (.int .i8 t230)) (fun _ hk => hk.2) (.int .i8 t231)) (fun _ hk => hk.2) (.slice Ao15 t232.length co15)) (fun _ h_ => h_.1)))); (case side4 => exact (Kd.R_reads' HO227.out).2.1); rintro e w21 ⟨rfl, hb⟩; refine ⟨_, rfl, ?_⟩; have n0_ := Aside0.mk (Kd.R_below (by (with_reducible repeat (first | apply Kd.R_alloc | apply Kd.R_drewN | apply Kd.R_drew)); exact (Kd.R_mono (Kd.R_far (p := ⟨gb236, 2, none⟩) (Kd.R_far (p := ⟨gb236, 1, none⟩) (Kd.R_far (p := ⟨gb236, 0, none⟩) (Kd.R_types HO227.out BK236.out (by decide)) (fun _ hk => hk.2) (.int .i8 t230)) (fun _ hk => hk.2) (.int .i8 t231)) (fun _ hk => hk.2) (.slice Ao15 t232.length co15)) (fun _ h_ => h_.1))) hb); have n1_ := Aside0.mk (Kd.R_below (by (with_reducible repeat (first | apply Kd.R_alloc | apply Kd.R_drewN | apply Kd.R_drew)); exact (Kd.R_mono (Kd.R_far (p := ⟨gb236, 2, none⟩) (Kd.R_far (p := ⟨gb236, 1, none⟩) (Kd.R_far (p := ⟨gb236, 0, none⟩) (Kd.R_types HO234.out BK236.out (by decide)) (fun _ hk => hk.2) (.int .i8 t230)) (fun _ hk => hk.2) (.int .i8 t231)) (fun _ hk => hk.2) (.slice Ao15 t232.length co15)) (fun _ h_ => h_.1))) hb); have n2_ := Aside0.mk (blk_below (g := gb229) (o := .cells #[.int .i8 t223, .int .i8 t224, .slice Ao10 t225.length co10] 40 (0, 0)) (by (with_reducible repeat (first | refine blk_drewN ?_ _ | refine blk_drew ?_ | refine blk_alloc ?_ _)); refine blk_far ?_ NB229_236.out _; (with_reducible repeat (first | refine blk_drewN ?_ _ | refine blk_drew ?_ | refine blk_alloc ?_ _)); refine blk_far ?_ NB229_236.out _; (with_reducible repeat (first | refine blk_drewN ?_ _ | refine blk_drew ?_ | refine blk_alloc ?_ _)); refine blk_far ?_ NB229_236.out _; (with_reducible repeat (first | refine blk_drewN ?_ _ | refine blk_drew ?_ | refine blk_alloc ?_ _)); exact BK229.out) hb); have n3_ := Aside0.mk (blk_below (g := gb236) (o := .cells #[.int .i8 t230, .int .i8 t231, .slice Ao15 t232.length co15] 40 (0, 0)) (by (with_reducible repeat (first | refine blk_drewN ?_ _ | refine blk_drew ?_ | refine blk_alloc ?_ _)); refine blk_put (cs := #[.int .i8 t230, .int .i8 t231, .slice none 0 0]) ?_ 2 _ rfl; (with_reducible repeat (first | refine blk_drewN ?_ _ | refine blk_drew ?_ | refine blk_alloc ?_ _)); refine blk_put (cs := #[.int .i8 t230, .int .i8 0, .slice none 0 0]) ?_ 1 _ rfl; (with_reducible repeat (first | refine blk_drewN ?_ _ | refine blk_drew ?_ | refine blk_alloc ?_ _)); refine blk_put (cs := #[.int .i8 0, .int .i8 0, .slice none 0 0]) ?_ 0 _ rfl; (with_reducible repeat (first | refine blk_drewN ?_ _ | refine blk_drew ?_ | refine blk_alloc ?_ _)); exact BK236.out) hb); have n4_ := Aside0.mk (below_step (by repeat (first | (with_reducible first | exact HB.out | apply below_alloc | apply pw_below_drewN | apply below_drew1 | refine below_set ?_ GE229.out | refine below_set ?_ GE236.out) | exact HB.out)) hb); clear HO227; clear HO234; clear BK229; clear BK236; clear HB; have HO227 := n0_; have HO234 := n1_; have BK229 := n2_; have BK236 := n3_; have HB := n4_; clear n0_ n1_ n2_ n3_ n4_; (try clear hb); (try clear hb2); (try clear hk); (try clear hi)))
   go_meet
   case rel => exact ⟨_, ((t235 != t228)), (by first | rfl | (simp; done) | (simp [*]; done)), H', ⟨by first | omega | exact Nat.le_refl _⟩, ⟨by (with_reducible repeat (first | apply Kd.R_alloc | apply Kd.R_drewN | apply Kd.R_drew)); exact Kd.R_mono HO227.out (fun _ hk => hk.2)⟩, ⟨by (with_reducible repeat (first | apply Kd.R_alloc | apply Kd.R_drewN | apply Kd.R_drew)); exact Kd.R_mono HO234.out (fun _ hk => hk.2)⟩, ⟨pl_ BK229⟩, ⟨pl_ BK236⟩, ⟨by repeat (first | (with_reducible first | exact HB.out | apply below_alloc | apply pw_below_drewN | apply below_drew1 | refine below_set ?_ GE229.out | refine below_set ?_ GE236.out) | exact HB.out)⟩⟩
  ·replace c17 := Bool.eq_false_iff.mpr c17
   subst c17
   have H1 : (laws_FnExactMakeFixed.j0 k a0 a1 a2 t228 true t223 t224 t225 t230 t231 t232) = some r := by rw [if_neg (show ¬ (false = true) by decide)] at H; exact H
   clear H
   have H := H1
   clear H1
   have H' := Aside0.mk H
   clear H
   have hnb22 := NB236_229.out
   have hnc22 := NB229_236.out
   have hcz23_0 : w12.cell? ⟨gb236, 0, none⟩ = some (.int .i8 0) := (blk_cell BK236.out 0).trans rfl
   have hcz23_1 : w12.cell? ⟨gb236, 1, none⟩ = some (.int .i8 0) := (blk_cell BK236.out 1).trans rfl
   have hcz23_2 : w12.cell? ⟨gb236, 2, none⟩ = some (.slice none 0 0) := (blk_cell BK236.out 2).trans rfl
   have hfz23_0 := blk_frozen BK236.out 0
   have hfz23_1 := blk_frozen BK236.out 1
   have hfz23_2 := blk_frozen BK236.out 2
   have hcz24_0 : w12.cell? ⟨gb229, 0, none⟩ = some (.int .i8 t223) := (blk_cell BK229.out 0).trans rfl
   have hcz24_1 : w12.cell? ⟨gb229, 1, none⟩ = some (.int .i8 t224) := (blk_cell BK229.out 1).trans rfl
   have hcz24_2 : w12.cell? ⟨gb229, 2, none⟩ = some (.slice Ao10 t225.length co10) := (blk_cell BK229.out 2).trans rfl
   have hfz24_0 := blk_frozen BK229.out 0
   have hfz24_1 := blk_frozen BK229.out 1
   have hfz24_2 := blk_frozen BK229.out 2
   go_wp2_with (first | ((with_reducible refine gate_callee (f := 26) rfl ?_); refine goesL_ (some 31) rfl rfl Try.func26 (by kernel_rfl) rfl #[.agg #[.int .i8 t230, .int .i8 t231, .slice Ao15 t232.length co15], .agg #[.int .i8 t223, .int .i8 t224, .slice Ao10 t225.length co10]] rfl (by (try simp only [List.map_toArray, List.map_cons, List.map_nil]); first | done | rfl | (simp only [List.length_drop, List.length_take]; rfl)) ?_; (with_reducible refine (laws_eqFixed.calls k t230 t231 _ _ t232 t223 t224 _ _ t225 false _ ?side1 ?side2 ?side3 ?side4 A16.out).mono ?_); (case side1 => refine (Kd.R_reads' (e := 24) (base := w.heap.size) (ok := fun k_ => (True ∧ some k_ ≠ (.slice Ao10 t225.length co10 : Value).ownBlock)) (n := t232.length) (c := co15) ?_).2.2; exact (by (with_reducible repeat (first | apply Kd.R_alloc | apply Kd.R_drewN | apply Kd.R_drew)); exact (Kd.R_mono (Kd.R_far (p := ⟨gb236, 2, none⟩) (Kd.R_far (p := ⟨gb236, 1, none⟩) (Kd.R_far (p := ⟨gb236, 0, none⟩) (Kd.R_types HO234.out BK236.out (by decide)) (fun _ hk => hk.2) (.int .i8 t230)) (fun _ hk => hk.2) (.int .i8 t231)) (fun _ hk => hk.2) (.slice Ao15 t232.length co15)) (fun _ h_ => h_.1)))); (case side2 => exact (Kd.R_reads' HO234.out).2.1); (case side3 => refine (Kd.R_reads' (e := 24) (base := w.heap.size) (ok := fun k_ => (True ∧ some k_ ≠ (.slice Ao15 t232.length co15 : Value).ownBlock)) (n := t225.length) (c := co10) ?_).2.2; exact (by (with_reducible repeat (first | apply Kd.R_alloc | apply Kd.R_drewN | apply Kd.R_drew)); exact (Kd.R_mono (Kd.R_far (p := ⟨gb236, 2, none⟩) (Kd.R_far (p := ⟨gb236, 1, none⟩) (Kd.R_far (p := ⟨gb236, 0, none⟩) (Kd.R_types HO227.out BK236.out (by decide)) (fun _ hk => hk.2) (.int .i8 t230)) (fun _ hk => hk.2) (.int .i8 t231)) (fun _ hk => hk.2) (.slice Ao15 t232.length co15)) (fun _ h_ => h_.1)))); (case side4 => exact (Kd.R_reads' HO227.out).2.1); rintro e w25 ⟨rfl, hb⟩; refine ⟨_, rfl, ?_⟩; have n0_ := Aside0.mk (Kd.R_below (by (with_reducible repeat (first | apply Kd.R_alloc | apply Kd.R_drewN | apply Kd.R_drew)); exact (Kd.R_mono (Kd.R_far (p := ⟨gb236, 2, none⟩) (Kd.R_far (p := ⟨gb236, 1, none⟩) (Kd.R_far (p := ⟨gb236, 0, none⟩) (Kd.R_types HO227.out BK236.out (by decide)) (fun _ hk => hk.2) (.int .i8 t230)) (fun _ hk => hk.2) (.int .i8 t231)) (fun _ hk => hk.2) (.slice Ao15 t232.length co15)) (fun _ h_ => h_.1))) hb); have n1_ := Aside0.mk (Kd.R_below (by (with_reducible repeat (first | apply Kd.R_alloc | apply Kd.R_drewN | apply Kd.R_drew)); exact (Kd.R_mono (Kd.R_far (p := ⟨gb236, 2, none⟩) (Kd.R_far (p := ⟨gb236, 1, none⟩) (Kd.R_far (p := ⟨gb236, 0, none⟩) (Kd.R_types HO234.out BK236.out (by decide)) (fun _ hk => hk.2) (.int .i8 t230)) (fun _ hk => hk.2) (.int .i8 t231)) (fun _ hk => hk.2) (.slice Ao15 t232.length co15)) (fun _ h_ => h_.1))) hb); have n2_ := Aside0.mk (blk_below (g := gb229) (o := .cells #[.int .i8 t223, .int .i8 t224, .slice Ao10 t225.length co10] 40 (0, 0)) (by (with_reducible repeat (first | refine blk_drewN ?_ _ | refine blk_drew ?_ | refine blk_alloc ?_ _)); refine blk_far ?_ NB229_236.out _; (with_reducible repeat (first | refine blk_drewN ?_ _ | refine blk_drew ?_ | refine blk_alloc ?_ _)); refine blk_far ?_ NB229_236.out _; (with_reducible repeat (first | refine blk_drewN ?_ _ | refine blk_drew ?_ | refine blk_alloc ?_ _)); refine blk_far ?_ NB229_236.out _; (with_reducible repeat (first | refine blk_drewN ?_ _ | refine blk_drew ?_ | refine blk_alloc ?_ _)); exact BK229.out) hb); have n3_ := Aside0.mk (blk_below (g := gb236) (o := .cells #[.int .i8 t230, .int .i8 t231, .slice Ao15 t232.length co15] 40 (0, 0)) (by (with_reducible repeat (first | refine blk_drewN ?_ _ | refine blk_drew ?_ | refine blk_alloc ?_ _)); refine blk_put (cs := #[.int .i8 t230, .int .i8 t231, .slice none 0 0]) ?_ 2 _ rfl; (with_reducible repeat (first | refine blk_drewN ?_ _ | refine blk_drew ?_ | refine blk_alloc ?_ _)); refine blk_put (cs := #[.int .i8 t230, .int .i8 0, .slice none 0 0]) ?_ 1 _ rfl; (with_reducible repeat (first | refine blk_drewN ?_ _ | refine blk_drew ?_ | refine blk_alloc ?_ _)); refine blk_put (cs := #[.int .i8 0, .int .i8 0, .slice none 0 0]) ?_ 0 _ rfl; (with_reducible repeat (first | refine blk_drewN ?_ _ | refine blk_drew ?_ | refine blk_alloc ?_ _)); exact BK236.out) hb); have n4_ := Aside0.mk (below_step (by repeat (first | (with_reducible first | exact HB.out | apply below_alloc | apply pw_below_drewN | apply below_drew1 | refine below_set ?_ GE229.out | refine below_set ?_ GE236.out) | exact HB.out)) hb); clear HO227; clear HO234; clear BK229; clear BK236; clear HB; have HO227 := n0_; have HO234 := n1_; have BK229 := n2_; have BK236 := n3_; have HB := n4_; clear n0_ n1_ n2_ n3_ n4_; (try clear hb); (try clear hb2); (try clear hk); (try clear hi)))
   go_meet
   case rel => exact ⟨_, (true), (by first | rfl | (simp; done) | (simp [*]; done)), H', ⟨by first | omega | exact Nat.le_refl _⟩, ⟨by (with_reducible repeat (first | apply Kd.R_alloc | apply Kd.R_drewN | apply Kd.R_drew)); exact Kd.R_mono HO227.out (fun _ hk => hk.2)⟩, ⟨by (with_reducible repeat (first | apply Kd.R_alloc | apply Kd.R_drewN | apply Kd.R_drew)); exact Kd.R_mono HO234.out (fun _ hk => hk.2)⟩, ⟨pl_ BK229⟩, ⟨pl_ BK236⟩, ⟨by repeat (first | (with_reducible first | exact HB.out | apply below_alloc | apply pw_below_drewN | apply below_drew1 | refine below_set ?_ GE229.out | refine below_set ?_ GE236.out) | exact HB.out)⟩⟩
 case rest =>
  clear HC6
  try clear c1
  try clear c2
  try clear p2
  try clear c9
  try clear c13
  try clear c17
  try clear c18
  try clear c22
  try clear c24
  try clear c25
  try clear hcz14_0
  try clear hcz14_1
  try clear hcz14_2
  try clear hcz19_0
  try clear hcz19_1
  try clear hcz19_2
  try clear hcz20_0
  try clear hcz20_1
  try clear hcz20_2
  try clear hcz23_0
  try clear hcz23_1
  try clear hcz23_2
  try clear hcz24_0
  try clear hcz24_1
  try clear hcz24_2
  try clear hcz9_0
  try clear hcz9_1
  try clear hcz9_2
  try clear hfz14_0
  try clear hfz14_1
  try clear hfz14_2
  try clear hfz19_0
  try clear hfz19_1
  try clear hfz19_2
  try clear hfz20_0
  try clear hfz20_1
  try clear hfz20_2
  try clear hfz23_0
  try clear hfz23_1
  try clear hfz23_2
  try clear hfz24_0
  try clear hfz24_1
  try clear hfz24_2
  try clear hfz9_0
  try clear hfz9_1
  try clear hfz9_2
  obtain ⟨kq, x37_5, rfl, HA, HJ5, HO_230002, HO_237002, BK229, BK236, HB⟩ := hcut
  cases kq with
  | zero => exact absurd HA.out (by simp [laws_FnExactMakeFixed.j0])
  | succ kj5 =>
   have H := HA.out
   clear HA
   simp only [laws_FnExactMakeFixed.j0] at H
   by_cases c26 : x37_5 = true
   ·subst c26
    have H1 : (some false) = some r := by rw [if_pos rfl] at H; exact H
    clear H
    have H := H1
    clear H1
    obtain rfl := Option.some.inj H
    go_wp2
    go_ret
    exact ⟨by first | rfl | (simp [errW_none, errW_some] <;> rfl) | (simp [*, errW_none, errW_some] <;> rfl), by repeat (first | (with_reducible first | exact HB.out | apply below_alloc | apply pw_below_drewN | apply below_drew1 | refine below_set ?_ GE229.out | refine below_set ?_ GE236.out) | exact HB.out)⟩
   ·replace c26 := Bool.eq_false_iff.mpr c26
    subst c26
    have H1 : ((laws_markFixed.f kj5 t230 t231 t232 1).bind fun bt238 => ((laws_heldFixed.f kj5 t230 t231 bt238.2 1).bind fun t240 => (if t240 < 0 then (some false) else (if t240 = bt238.1 then ((impl_MakeFixed.f kj5 a0 a1 a2).bind fun bt241 => ((laws_eqFixed.f kj5 bt241.1 bt241.2.1 bt241.2.2.1 t223 t224 t225).bind fun t248 => (if t248 = true then (laws_FnExactMakeFixed.j1 kj5 bt238.1 (bt241.2.2.2 != t228) t230 t231 bt238.2) else (laws_FnExactMakeFixed.j1 kj5 bt238.1 true t230 t231 bt238.2)))) else (some false))))) = some r := by rw [if_neg (show ¬ (false = true) by decide)] at H; exact H
    clear H
    have H := H1
    clear H1
    replace H := Option.bind_eq_some_iff.mp H
    obtain ⟨⟨t238, t239⟩, A270, H⟩ := H
    replace H : ((laws_heldFixed.f kj5 t230 t231 t239 1).bind fun t240 => (if t240 < 0 then (some false) else (if t240 = t238 then ((impl_MakeFixed.f kj5 a0 a1 a2).bind fun bt241 => ((laws_eqFixed.f kj5 bt241.1 bt241.2.1 bt241.2.2.1 t223 t224 t225).bind fun t248 => (if t248 = true then (laws_FnExactMakeFixed.j1 kj5 t238 (bt241.2.2.2 != t228) t230 t231 t239) else (laws_FnExactMakeFixed.j1 kj5 t238 true t230 t231 t239)))) else (some false)))) = some r := H
    have A27 := Aside0.mk A270
    clear A270
    replace H := Option.bind_eq_some_iff.mp H
    obtain ⟨t240, A280, H⟩ := H
    replace H : (if t240 < 0 then (some false) else (if t240 = t238 then ((impl_MakeFixed.f kj5 a0 a1 a2).bind fun bt241 => ((laws_eqFixed.f kj5 bt241.1 bt241.2.1 bt241.2.2.1 t223 t224 t225).bind fun t248 => (if t248 = true then (laws_FnExactMakeFixed.j1 kj5 t238 (bt241.2.2.2 != t228) t230 t231 t239) else (laws_FnExactMakeFixed.j1 kj5 t238 true t230 t231 t239)))) else (some false))) = some r := H
    have A28 := Aside0.mk A280
    clear A280
    by_cases c29 : t240 < 0
    ·rw [if_pos c29] at H
     have c29b0 : decide (t240 < 0) = true := decide_eq_true c29
     clear c29
     obtain rfl := Option.some.inj H
     have hnb30 := NB236_229.out
     have hnc30 := NB229_236.out
     have hcz31_0 : wc.cell? ⟨gb236, 0, none⟩ = some (.int .i8 t230) := (blk_cell BK236.out 0).trans rfl
     have hcz31_1 : wc.cell? ⟨gb236, 1, none⟩ = some (.int .i8 t231) := (blk_cell BK236.out 1).trans rfl
     have hcz31_2 : wc.cell? ⟨gb236, 2, none⟩ = some (.slice Ao15 t232.length co15) := (blk_cell BK236.out 2).trans rfl
     have hfz31_0 := blk_frozen BK236.out 0
     have hfz31_1 := blk_frozen BK236.out 1
     have hfz31_2 := blk_frozen BK236.out 2
     go_wp2_with (first | ((with_reducible refine gate_callee (f := 27) rfl ?_); refine goesL_ (some 40) rfl rfl Try.func27 (by kernel_rfl) rfl #[.agg #[.int .i8 t230, .int .i8 t231, .slice Ao15 t232.length co15], .int .i64 1] rfl (by (try simp only [List.map_toArray, List.map_cons, List.map_nil]); first | done | rfl | (simp only [List.length_drop, List.length_take]; rfl)) ?_; (with_reducible refine (laws_markFixed.calls kj5 t230 t231 (fun k_ => some k_ = (.slice Ao15 t232.length co15 : Value).ownBlock) (.slice Ao15 t232.length co15) t232 1 t238 t239 w _ ?side1 ?side2 A27.out).mono ?_); (case side1 => repeat (first | (with_reducible first | exact HB.out | apply below_alloc | apply pw_below_drewN | apply below_drew1 | refine below_set ?_ GE229.out | refine below_set ?_ GE236.out) | exact HB.out)); (case side2 => exact Kd.R_tight rfl HO_237002.out); rintro e w32 ⟨rfl, hy0, hb, hkp⟩; refine ⟨_, rfl, ?_⟩; have n0_ := Aside0.mk (Kd.R_mono (ok' := fun k_ => some k_ ≠ (.slice Ao15 t232.length co15 : Value).ownBlock) (Kd.R_keptB (HO_230002.out) hkp (fun k_ hk_ hs_ => (hk_) hs_)) (fun k_ hk_ => hk_.1)); have n1_ := Aside0.mk (Kd.R_reok rfl hy0 (fun k_ e_ => HO_237002.out.1 k_ e_)); have n2_ := Aside0.mk (blk_kept (pl_ BK229) hkp (fun hs_ => (fun e_ => (Kd.R_ne HO_237002.out BK229.out (by decide)) e_) hs_)); have n3_ := Aside0.mk (blk_kept (pl_ BK236) hkp (fun hs_ => (fun e_ => (Kd.R_ne HO_237002.out BK236.out (by decide)) e_) hs_)); have n4_ := Aside0.mk (hb); clear HO_230002; clear HO_237002; clear BK229; clear BK236; clear HB; have HO_230002 := n0_; have HO_237002 := n1_; have BK229 := n2_; have BK236 := n3_; have HB := n4_; clear n0_ n1_ n2_ n3_ n4_; (try clear hb); (try clear hkp); (try clear hy0); have hcz33_0 : w32.cell? ⟨gb236, 0, none⟩ = some (.int .i8 t230) := (blk_cell BK236.out 0).trans rfl; have hcz33_1 : w32.cell? ⟨gb236, 1, none⟩ = some (.int .i8 t231) := (blk_cell BK236.out 1).trans rfl; have hcz33_2 : w32.cell? ⟨gb236, 2, none⟩ = some (.slice Ao15 t232.length co15) := (blk_cell BK236.out 2).trans rfl; have hfz33_0 := blk_frozen BK236.out 0; have hfz33_1 := blk_frozen BK236.out 1; have hfz33_2 := blk_frozen BK236.out 2) | ((with_reducible refine gate_callee (f := 28) rfl ?_); refine goesL_ (some 43) rfl rfl Try.func28 (by kernel_rfl) rfl #[.agg #[.int .i8 t230, .int .i8 t231, .slice Ao15 t239.length co15], .int .i64 1] rfl (by (try simp only [List.map_toArray, List.map_cons, List.map_nil]); first | done | (rw [show t239.length = t232.length from (Kd.R_reads' HO_237002.out).1.symm] <;> rfl) | rfl | (simp only [List.length_drop, List.length_take]; rfl)) ?_; (with_reducible refine (laws_heldFixed.calls kj5 t230 t231 _ _ t239 1 t240 _ ?side1 ?side2 A28.out).mono ?_); (case side1 => repeat (first | exact (Kd.R_reads' HO_237002.out).2.2 | (with_reducible refine Kd.C_alloc ?_ _) | (with_reducible refine Kd.C_drewN ?_ _) | (with_reducible refine Kd.C_drew ?_))); (case side2 => rw [show t239.length = t232.length from (Kd.R_reads' HO_237002.out).1.symm]; exact (Kd.R_reads' HO_237002.out).2.1); rintro e w34 ⟨rfl, hb⟩; refine ⟨_, rfl, ?_⟩; have n0_ := Aside0.mk (Kd.R_below (pr_ HO_230002) hb); have n1_ := Aside0.mk (Kd.R_below (pr_ HO_237002) hb); have n2_ := Aside0.mk (blk_below (g := gb229) (o := .cells #[.int .i8 t223, .int .i8 t224, .slice Ao10 t225.length co10] 40 (0, 0)) (pl_ BK229) hb); have n3_ := Aside0.mk (blk_below (g := gb236) (o := .cells #[.int .i8 t230, .int .i8 t231, .slice Ao15 t232.length co15] 40 (0, 0)) (pl_ BK236) hb); have n4_ := Aside0.mk (below_step (by repeat (first | (with_reducible first | exact HB.out | apply below_alloc | apply pw_below_drewN | apply below_drew1 | refine below_set ?_ GE229.out | refine below_set ?_ GE236.out) | exact HB.out)) hb); clear HO_230002; clear HO_237002; clear BK229; clear BK236; clear HB; have HO_230002 := n0_; have HO_237002 := n1_; have BK229 := n2_; have BK236 := n3_; have HB := n4_; clear n0_ n1_ n2_ n3_ n4_; (try clear hb); (try clear hb2); (try clear hk); (try clear hi)))
     go_ret
     exact ⟨by first | rfl | (simp [errW_none, errW_some] <;> rfl) | (simp [*, errW_none, errW_some] <;> rfl), by repeat (first | (with_reducible first | exact HB.out | apply below_alloc | apply pw_below_drewN | apply below_drew1 | refine below_set ?_ GE229.out | refine below_set ?_ GE236.out) | exact HB.out)⟩
    ·rw [if_neg c29] at H
     have c29b0 : decide (t240 < 0) = false := decide_eq_false c29
     clear c29
     by_cases c35 : t240 = t238
     ·rw [if_pos c35] at H
      have c35b0 : (t240 == t238) = true := beq_iff_eq.mpr c35
      have c35b1 : (t240 != t238) = false := bne_eq_false_iff_eq.mpr c35
      clear c35
      replace H := Option.bind_eq_some_iff.mp H
      obtain ⟨⟨t241, t242, t243, t246⟩, A360, H⟩ := H
      replace H : ((laws_eqFixed.f kj5 t241 t242 t243 t223 t224 t225).bind fun t248 => (if t248 = true then (laws_FnExactMakeFixed.j1 kj5 t238 (t246 != t228) t230 t231 t239) else (laws_FnExactMakeFixed.j1 kj5 t238 true t230 t231 t239))) = some r := H
      have A36 := Aside0.mk A360
      clear A360
      have HC37 := Aside0.mk H
      clear H
      have hnb38 := NB236_229.out
      have hnc38 := NB229_236.out
      have hcz39_0 : wc.cell? ⟨gb236, 0, none⟩ = some (.int .i8 t230) := (blk_cell BK236.out 0).trans rfl
      have hcz39_1 : wc.cell? ⟨gb236, 1, none⟩ = some (.int .i8 t231) := (blk_cell BK236.out 1).trans rfl
      have hcz39_2 : wc.cell? ⟨gb236, 2, none⟩ = some (.slice Ao15 t232.length co15) := (blk_cell BK236.out 2).trans rfl
      have hfz39_0 := blk_frozen BK236.out 0
      have hfz39_1 := blk_frozen BK236.out 1
      have hfz39_2 := blk_frozen BK236.out 2
      go_upto_region 14 with (first | ((with_reducible refine gate_callee (f := 27) rfl ?_); refine goesL_ (some 40) rfl rfl Try.func27 (by kernel_rfl) rfl #[.agg #[.int .i8 t230, .int .i8 t231, .slice Ao15 t232.length co15], .int .i64 1] rfl (by (try simp only [List.map_toArray, List.map_cons, List.map_nil]); first | done | rfl | (simp only [List.length_drop, List.length_take]; rfl)) ?_; (with_reducible refine (laws_markFixed.calls kj5 t230 t231 (fun k_ => some k_ = (.slice Ao15 t232.length co15 : Value).ownBlock) (.slice Ao15 t232.length co15) t232 1 t238 t239 w _ ?side1 ?side2 A27.out).mono ?_); (case side1 => repeat (first | (with_reducible first | exact HB.out | apply below_alloc | apply pw_below_drewN | apply below_drew1 | refine below_set ?_ GE229.out | refine below_set ?_ GE236.out) | exact HB.out)); (case side2 => exact Kd.R_tight rfl HO_237002.out); rintro e w40 ⟨rfl, hy0, hb, hkp⟩; refine ⟨_, rfl, ?_⟩; have n0_ := Aside0.mk (Kd.R_mono (ok' := fun k_ => some k_ ≠ (.slice Ao15 t232.length co15 : Value).ownBlock) (Kd.R_keptB (HO_230002.out) hkp (fun k_ hk_ hs_ => (hk_) hs_)) (fun k_ hk_ => hk_.1)); have n1_ := Aside0.mk (Kd.R_reok rfl hy0 (fun k_ e_ => HO_237002.out.1 k_ e_)); have n2_ := Aside0.mk (blk_kept (pl_ BK229) hkp (fun hs_ => (fun e_ => (Kd.R_ne HO_237002.out BK229.out (by decide)) e_) hs_)); have n3_ := Aside0.mk (blk_kept (pl_ BK236) hkp (fun hs_ => (fun e_ => (Kd.R_ne HO_237002.out BK236.out (by decide)) e_) hs_)); have n4_ := Aside0.mk (hb); clear HO_230002; clear HO_237002; clear BK229; clear BK236; clear HB; have HO_230002 := n0_; have HO_237002 := n1_; have BK229 := n2_; have BK236 := n3_; have HB := n4_; clear n0_ n1_ n2_ n3_ n4_; (try clear hb); (try clear hkp); (try clear hy0); have hcz41_0 : w40.cell? ⟨gb236, 0, none⟩ = some (.int .i8 t230) := (blk_cell BK236.out 0).trans rfl; have hcz41_1 : w40.cell? ⟨gb236, 1, none⟩ = some (.int .i8 t231) := (blk_cell BK236.out 1).trans rfl; have hcz41_2 : w40.cell? ⟨gb236, 2, none⟩ = some (.slice Ao15 t232.length co15) := (blk_cell BK236.out 2).trans rfl; have hfz41_0 := blk_frozen BK236.out 0; have hfz41_1 := blk_frozen BK236.out 1; have hfz41_2 := blk_frozen BK236.out 2) | ((with_reducible refine gate_callee (f := 28) rfl ?_); refine goesL_ (some 43) rfl rfl Try.func28 (by kernel_rfl) rfl #[.agg #[.int .i8 t230, .int .i8 t231, .slice Ao15 t239.length co15], .int .i64 1] rfl (by (try simp only [List.map_toArray, List.map_cons, List.map_nil]); first | done | (rw [show t239.length = t232.length from (Kd.R_reads' HO_237002.out).1.symm] <;> rfl) | rfl | (simp only [List.length_drop, List.length_take]; rfl)) ?_; (with_reducible refine (laws_heldFixed.calls kj5 t230 t231 _ _ t239 1 t240 _ ?side1 ?side2 A28.out).mono ?_); (case side1 => repeat (first | exact (Kd.R_reads' HO_237002.out).2.2 | (with_reducible refine Kd.C_alloc ?_ _) | (with_reducible refine Kd.C_drewN ?_ _) | (with_reducible refine Kd.C_drew ?_))); (case side2 => rw [show t239.length = t232.length from (Kd.R_reads' HO_237002.out).1.symm]; exact (Kd.R_reads' HO_237002.out).2.1); rintro e w42 ⟨rfl, hb⟩; refine ⟨_, rfl, ?_⟩; have n0_ := Aside0.mk (Kd.R_below (pr_ HO_230002) hb); have n1_ := Aside0.mk (Kd.R_below (pr_ HO_237002) hb); have n2_ := Aside0.mk (blk_below (g := gb229) (o := .cells #[.int .i8 t223, .int .i8 t224, .slice Ao10 t225.length co10] 40 (0, 0)) (pl_ BK229) hb); have n3_ := Aside0.mk (blk_below (g := gb236) (o := .cells #[.int .i8 t230, .int .i8 t231, .slice Ao15 t232.length co15] 40 (0, 0)) (pl_ BK236) hb); have n4_ := Aside0.mk (below_step (by repeat (first | (with_reducible first | exact HB.out | apply below_alloc | apply pw_below_drewN | apply below_drew1 | refine below_set ?_ GE229.out | refine below_set ?_ GE236.out) | exact HB.out)) hb); clear HO_230002; clear HO_237002; clear BK229; clear BK236; clear HB; have HO_230002 := n0_; have HO_237002 := n1_; have BK229 := n2_; have BK236 := n3_; have HB := n4_; clear n0_ n1_ n2_ n3_ n4_; (try clear hb); (try clear hb2); (try clear hk); (try clear hi)) | ((with_reducible refine gate_callee (f := 25) rfl ?_); refine goesL_ (some 53) rfl rfl Try.func25 (by kernel_rfl) rfl #[.int .i64 a0, .int .i64 a1, .int .i64 a2] rfl (by (try simp only [List.map_toArray, List.map_cons, List.map_nil]); first | done | rfl | (simp only [List.length_drop, List.length_take]; rfl)) ?_; (with_reducible refine (impl_MakeFixed.calls kj5 a0 a1 a2 t241 t242 t243 t246 _ A36.out).mono ?_); rintro e w43 ⟨v244, rfl, ho0, hb⟩; refine ⟨_, rfl, ?_⟩; have n0_ := Aside0.mk (Kd.R_elder' (pr_ HO_230002) (Kd.R_base ho0) hb); have n1_ := Aside0.mk (Kd.R_elder' (pr_ HO_237002) (Kd.R_base ho0) hb); have n2_ := Aside0.mk (Kd.R_lower (Kd.R_new' (Kd.R_new' ho0 (Kd.R_lt (pr_ HO_230002))) (Kd.R_lt (pr_ HO_237002))) (below_size (by repeat (first | (with_reducible first | exact HB.out | apply below_alloc | apply pw_below_drewN | apply below_drew1 | refine below_set ?_ GE229.out | refine below_set ?_ GE236.out) | exact HB.out)))); have n3_ := Aside0.mk (blk_below (g := gb229) (o := .cells #[.int .i8 t223, .int .i8 t224, .slice Ao10 t225.length co10] 40 (0, 0)) (pl_ BK229) hb); have n4_ := Aside0.mk (blk_below (g := gb236) (o := .cells #[.int .i8 t230, .int .i8 t231, .slice Ao15 t232.length co15] 40 (0, 0)) (pl_ BK236) hb); have n5_ := Aside0.mk (below_step (by repeat (first | (with_reducible first | exact HB.out | apply below_alloc | apply pw_below_drewN | apply below_drew1 | refine below_set ?_ GE229.out | refine below_set ?_ GE236.out) | exact HB.out)) hb); clear HO_230002; clear HO_237002; clear BK229; clear BK236; clear HB; have HO_230002 := n0_; have HO_237002 := n1_; have HO245 := n2_; have BK229 := n3_; have BK236 := n4_; have HB := n5_; clear n0_ n1_ n2_ n3_ n4_ n5_; (try clear hb); (try clear hb2); (try clear hk); (try clear hi); (try clear ho0)) | ((with_reducible refine gate_dst (N := 13) rfl ?_); refine box_event ?hg (N := 13) ?hd (cs := #[.int .i8 0, .int .i8 0, .slice none 0 0]) (t := 40) ?hr ?_; (case hd => rfl); (case hg => rfl); (case hr => first | (go_simp; done) | (go_simp; rfl)); intro gb247 hg w44 hbox hb; have n0_ := Aside0.mk (Kd.R_below (pr_ HO_230002) hb); have n1_ := Aside0.mk (Kd.R_below (pr_ HO_237002) hb); have n2_ := Aside0.mk (Kd.R_below (pr_ HO245) hb); have n3_ := Aside0.mk (blk_below (g := gb229) (o := .cells #[.int .i8 t223, .int .i8 t224, .slice Ao10 t225.length co10] 40 (0, 0)) (pl_ BK229) hb); have n4_ := Aside0.mk (blk_below (g := gb236) (o := .cells #[.int .i8 t230, .int .i8 t231, .slice Ao15 t232.length co15] 40 (0, 0)) (pl_ BK236) hb); have n5_ := Aside0.mk (below_step (by repeat (first | (with_reducible first | exact HB.out | apply below_alloc | apply pw_below_drewN | apply below_drew1 | refine below_set ?_ GE229.out | refine below_set ?_ GE236.out) | exact HB.out)) hb); have n6_ := Aside0.mk (hbox); have n7_ := Aside0.mk ((by rw [hg]; exact (below_size (by repeat (first | (with_reducible first | exact HB.out | apply below_alloc | apply pw_below_drewN | apply below_drew1 | refine below_set ?_ GE229.out | refine below_set ?_ GE236.out) | exact HB.out))) : w.heap.size ≤ gb247)); have n8_ := Aside0.mk ((by rw [hg]; exact (below_size (by repeat (first | (with_reducible first | exact HB.out | apply below_alloc | apply pw_below_drewN | apply below_drew1 | refine below_set ?_ GE229.out | refine below_set ?_ GE236.out) | exact HB.out))) : w.heap.size ≤ gb247)); have n9_ := Aside0.mk ((by rw [hg]; exact Nat.ne_of_lt (blk_lt (g := gb229) (o := .cells #[.int .i8 t223, .int .i8 t224, .slice Ao10 t225.length co10] 40 (0, 0)) (pl_ BK229)) : gb229 ≠ gb247)); have n10_ := Aside0.mk ((by rw [hg]; exact Nat.ne_of_gt (blk_lt (g := gb229) (o := .cells #[.int .i8 t223, .int .i8 t224, .slice Ao10 t225.length co10] 40 (0, 0)) (pl_ BK229)) : gb247 ≠ gb229)); have n11_ := Aside0.mk ((by rw [hg]; exact Nat.ne_of_lt (blk_lt (g := gb236) (o := .cells #[.int .i8 t230, .int .i8 t231, .slice Ao15 t232.length co15] 40 (0, 0)) (pl_ BK236)) : gb236 ≠ gb247)); have n12_ := Aside0.mk ((by rw [hg]; exact Nat.ne_of_gt (blk_lt (g := gb236) (o := .cells #[.int .i8 t230, .int .i8 t231, .slice Ao15 t232.length co15] 40 (0, 0)) (pl_ BK236)) : gb247 ≠ gb236)); clear HO_230002; clear HO_237002; clear HO245; clear BK229; clear BK236; clear HB; have HO_230002 := n0_; have HO_237002 := n1_; have HO245 := n2_; have BK229 := n3_; have BK236 := n4_; have HB := n5_; have BK247 := n6_; have GW247 := n7_; have GE247 := n8_; have NB229_247 := n9_; have NB247_229 := n10_; have NB236_247 := n11_; have NB247_236 := n12_; clear n0_ n1_ n2_ n3_ n4_ n5_ n6_ n7_ n8_ n9_ n10_ n11_ n12_; clear hb hbox hg; have hnb45 := NB247_229.out; have hnc45 := NB229_247.out; have hnb46 := NB247_236.out; have hnc46 := NB236_247.out; have hcz47_0 : w44.cell? ⟨gb247, 0, none⟩ = some (.int .i8 0) := (blk_cell BK247.out 0).trans rfl; have hcz47_1 : w44.cell? ⟨gb247, 1, none⟩ = some (.int .i8 0) := (blk_cell BK247.out 1).trans rfl; have hcz47_2 : w44.cell? ⟨gb247, 2, none⟩ = some (.slice none 0 0) := (blk_cell BK247.out 2).trans rfl; have hfz47_0 := blk_frozen BK247.out 0; have hfz47_1 := blk_frozen BK247.out 1; have hfz47_2 := blk_frozen BK247.out 2; obtain ⟨Ao48, co48, eo48⟩ := Kd.R_slice HO245.out; subst eo48))
      (try simp only [Act.put, List.setIfInBounds_toArray, List.set_cons_zero, List.set_cons_succ])
      go_cut [64] (fun v64 wc => ∃ (kq : Nat) (x64_36 : Bool), v64 = .bool x64_36 ∧ Aside0 (laws_FnExactMakeFixed.j1 kq t238 x64_36 t230 t231 t239 = some r) ∧ Aside0 (kq ≤ kj5) ∧ Aside0 (Kd.R k24 24 wc w.heap.size (fun k_ => some k_ ≠ ((.slice Ao15 t232.length co15) : Value).ownBlock ∧ some k_ ≠ ((.slice Ao48 t243.length co48) : Value).ownBlock) (.slice Ao10 t225.length co10) t225) ∧ Aside0 (Kd.R k24 24 wc w.heap.size (fun k_ => some k_ ≠ ((.slice Ao10 t225.length co10) : Value).ownBlock ∧ some k_ ≠ ((.slice Ao48 t243.length co48) : Value).ownBlock) (.slice Ao15 t232.length co15) t239) ∧ Aside0 (Kd.R k24 24 wc w.heap.size (fun k_ => some k_ ≠ ((.slice Ao10 t225.length co10) : Value).ownBlock ∧ some k_ ≠ ((.slice Ao15 t232.length co15) : Value).ownBlock) (.slice Ao48 t243.length co48) t243) ∧ Aside0 (wc.heap[gb229]? = some (.cells #[.int .i8 t223, .int .i8 t224, (.slice Ao10 t225.length co10)] 40 (0, 0))) ∧ Aside0 (wc.heap[gb236]? = some (.cells #[.int .i8 t230, .int .i8 t231, (.slice Ao15 t232.length co15)] 40 (0, 0))) ∧ Aside0 (wc.heap[gb247]? = some (.cells #[.int .i8 t241, .int .i8 t242, (.slice Ao48 t243.length co48)] 40 (0, 0))) ∧ Aside0 (Below w.heap.size w wc))
      case first =>
       have H := HC37.out
       clear HC37
       replace H := Option.bind_eq_some_iff.mp H
       obtain ⟨t248, A490, H⟩ := H
       replace H : (if t248 = true then (laws_FnExactMakeFixed.j1 kj5 t238 (t246 != t228) t230 t231 t239) else (laws_FnExactMakeFixed.j1 kj5 t238 true t230 t231 t239)) = some r := H
       have A49 := Aside0.mk A490
       clear A490
       by_cases c50 : t248 = true
       ·subst c50
        have H1 : (laws_FnExactMakeFixed.j1 kj5 t238 (t246 != t228) t230 t231 t239) = some r := by rw [if_pos rfl] at H; exact H
        clear H
        have H := H1
        clear H1
        have H' := Aside0.mk H
        clear H
        have hnb51 := NB247_229.out
        have hnc51 := NB229_247.out
        have hnb52 := NB247_236.out
        have hnc52 := NB236_247.out
        have hcz53_0 : w44.cell? ⟨gb247, 0, none⟩ = some (.int .i8 0) := (blk_cell BK247.out 0).trans rfl
        have hcz53_1 : w44.cell? ⟨gb247, 1, none⟩ = some (.int .i8 0) := (blk_cell BK247.out 1).trans rfl
        have hcz53_2 : w44.cell? ⟨gb247, 2, none⟩ = some (.slice none 0 0) := (blk_cell BK247.out 2).trans rfl
        have hfz53_0 := blk_frozen BK247.out 0
        have hfz53_1 := blk_frozen BK247.out 1
        have hfz53_2 := blk_frozen BK247.out 2
        have hnb54 := NB229_236.out
        have hnc54 := NB236_229.out
        have hcz55_0 : w44.cell? ⟨gb229, 0, none⟩ = some (.int .i8 t223) := (blk_cell BK229.out 0).trans rfl
        have hcz55_1 : w44.cell? ⟨gb229, 1, none⟩ = some (.int .i8 t224) := (blk_cell BK229.out 1).trans rfl
        have hcz55_2 : w44.cell? ⟨gb229, 2, none⟩ = some (.slice Ao10 t225.length co10) := (blk_cell BK229.out 2).trans rfl
        have hfz55_0 := blk_frozen BK229.out 0
        have hfz55_1 := blk_frozen BK229.out 1
        have hfz55_2 := blk_frozen BK229.out 2
        go_wp2_with (first | ((with_reducible refine gate_callee (f := 26) rfl ?_); refine goesL_ (some 58) rfl rfl Try.func26 (by kernel_rfl) rfl #[.agg #[.int .i8 t241, .int .i8 t242, .slice Ao48 t243.length co48], .agg #[.int .i8 t223, .int .i8 t224, .slice Ao10 t225.length co10]] rfl (by (try simp only [List.map_toArray, List.map_cons, List.map_nil]); first | done | rfl | (simp only [List.length_drop, List.length_take]; rfl)) ?_; (with_reducible refine (laws_eqFixed.calls kj5 t241 t242 _ _ t243 t223 t224 _ _ t225 true _ ?side1 ?side2 ?side3 ?side4 A49.out).mono ?_); (case side1 => refine (Kd.R_reads' (e := 24) (base := w.heap.size) (ok := fun k_ => ((True ∧ some k_ ≠ (.slice Ao10 t225.length co10 : Value).ownBlock) ∧ some k_ ≠ (.slice Ao15 t232.length co15 : Value).ownBlock)) (n := t243.length) (c := co48) ?_).2.2; exact (by (with_reducible repeat (first | apply Kd.R_alloc | apply Kd.R_drewN | apply Kd.R_drew)); exact (Kd.R_mono (Kd.R_far (p := ⟨gb247, 2, none⟩) (Kd.R_far (p := ⟨gb247, 1, none⟩) (Kd.R_far (p := ⟨gb247, 0, none⟩) (Kd.R_types HO245.out BK247.out (by decide)) (fun _ hk => hk.2) (.int .i8 t241)) (fun _ hk => hk.2) (.int .i8 t242)) (fun _ hk => hk.2) (.slice Ao48 t243.length co48)) (fun _ h_ => h_.1)))); (case side2 => exact (Kd.R_reads' HO245.out).2.1); (case side3 => refine (Kd.R_reads' (e := 24) (base := w.heap.size) (ok := fun k_ => (some k_ ≠ (.slice Ao15 t232.length co15 : Value).ownBlock ∧ some k_ ≠ (.slice Ao48 t243.length co48 : Value).ownBlock)) (n := t225.length) (c := co10) ?_).2.2; exact (by (with_reducible repeat (first | apply Kd.R_alloc | apply Kd.R_drewN | apply Kd.R_drew)); exact (Kd.R_mono (Kd.R_far (p := ⟨gb247, 2, none⟩) (Kd.R_far (p := ⟨gb247, 1, none⟩) (Kd.R_far (p := ⟨gb247, 0, none⟩) (Kd.R_types HO_230002.out BK247.out (by decide)) (fun _ hk => hk.2) (.int .i8 t241)) (fun _ hk => hk.2) (.int .i8 t242)) (fun _ hk => hk.2) (.slice Ao48 t243.length co48)) (fun _ h_ => h_.1)))); (case side4 => exact (Kd.R_reads' HO_230002.out).2.1); rintro e w56 ⟨rfl, hb⟩; refine ⟨_, rfl, ?_⟩; have n0_ := Aside0.mk (Kd.R_below (by (with_reducible repeat (first | apply Kd.R_alloc | apply Kd.R_drewN | apply Kd.R_drew)); exact (Kd.R_mono (Kd.R_far (p := ⟨gb247, 2, none⟩) (Kd.R_far (p := ⟨gb247, 1, none⟩) (Kd.R_far (p := ⟨gb247, 0, none⟩) (Kd.R_types HO_230002.out BK247.out (by decide)) (fun _ hk => hk.2) (.int .i8 t241)) (fun _ hk => hk.2) (.int .i8 t242)) (fun _ hk => hk.2) (.slice Ao48 t243.length co48)) (fun _ h_ => h_.1))) hb); have n1_ := Aside0.mk (Kd.R_below (by (with_reducible repeat (first | apply Kd.R_alloc | apply Kd.R_drewN | apply Kd.R_drew)); exact (Kd.R_mono (Kd.R_far (p := ⟨gb247, 2, none⟩) (Kd.R_far (p := ⟨gb247, 1, none⟩) (Kd.R_far (p := ⟨gb247, 0, none⟩) (Kd.R_types HO_237002.out BK247.out (by decide)) (fun _ hk => hk.2) (.int .i8 t241)) (fun _ hk => hk.2) (.int .i8 t242)) (fun _ hk => hk.2) (.slice Ao48 t243.length co48)) (fun _ h_ => h_.1))) hb); have n2_ := Aside0.mk (Kd.R_below (by (with_reducible repeat (first | apply Kd.R_alloc | apply Kd.R_drewN | apply Kd.R_drew)); exact (Kd.R_mono (Kd.R_far (p := ⟨gb247, 2, none⟩) (Kd.R_far (p := ⟨gb247, 1, none⟩) (Kd.R_far (p := ⟨gb247, 0, none⟩) (Kd.R_types HO245.out BK247.out (by decide)) (fun _ hk => hk.2) (.int .i8 t241)) (fun _ hk => hk.2) (.int .i8 t242)) (fun _ hk => hk.2) (.slice Ao48 t243.length co48)) (fun _ h_ => h_.1))) hb); have n3_ := Aside0.mk (blk_below (g := gb229) (o := .cells #[.int .i8 t223, .int .i8 t224, .slice Ao10 t225.length co10] 40 (0, 0)) (by (with_reducible repeat (first | refine blk_drewN ?_ _ | refine blk_drew ?_ | refine blk_alloc ?_ _)); refine blk_far ?_ NB229_247.out _; (with_reducible repeat (first | refine blk_drewN ?_ _ | refine blk_drew ?_ | refine blk_alloc ?_ _)); refine blk_far ?_ NB229_247.out _; (with_reducible repeat (first | refine blk_drewN ?_ _ | refine blk_drew ?_ | refine blk_alloc ?_ _)); refine blk_far ?_ NB229_247.out _; (with_reducible repeat (first | refine blk_drewN ?_ _ | refine blk_drew ?_ | refine blk_alloc ?_ _)); exact BK229.out) hb); have n4_ := Aside0.mk (blk_below (g := gb236) (o := .cells #[.int .i8 t230, .int .i8 t231, .slice Ao15 t232.length co15] 40 (0, 0)) (by (with_reducible repeat (first | refine blk_drewN ?_ _ | refine blk_drew ?_ | refine blk_alloc ?_ _)); refine blk_far ?_ NB236_247.out _; (with_reducible repeat (first | refine blk_drewN ?_ _ | refine blk_drew ?_ | refine blk_alloc ?_ _)); refine blk_far ?_ NB236_247.out _; (with_reducible repeat (first | refine blk_drewN ?_ _ | refine blk_drew ?_ | refine blk_alloc ?_ _)); refine blk_far ?_ NB236_247.out _; (with_reducible repeat (first | refine blk_drewN ?_ _ | refine blk_drew ?_ | refine blk_alloc ?_ _)); exact BK236.out) hb); have n5_ := Aside0.mk (blk_below (g := gb247) (o := .cells #[.int .i8 t241, .int .i8 t242, .slice Ao48 t243.length co48] 40 (0, 0)) (by (with_reducible repeat (first | refine blk_drewN ?_ _ | refine blk_drew ?_ | refine blk_alloc ?_ _)); refine blk_put (cs := #[.int .i8 t241, .int .i8 t242, .slice none 0 0]) ?_ 2 _ rfl; (with_reducible repeat (first | refine blk_drewN ?_ _ | refine blk_drew ?_ | refine blk_alloc ?_ _)); refine blk_put (cs := #[.int .i8 t241, .int .i8 0, .slice none 0 0]) ?_ 1 _ rfl; (with_reducible repeat (first | refine blk_drewN ?_ _ | refine blk_drew ?_ | refine blk_alloc ?_ _)); refine blk_put (cs := #[.int .i8 0, .int .i8 0, .slice none 0 0]) ?_ 0 _ rfl; (with_reducible repeat (first | refine blk_drewN ?_ _ | refine blk_drew ?_ | refine blk_alloc ?_ _)); exact BK247.out) hb); have n6_ := Aside0.mk (below_step (by repeat (first | (with_reducible first | exact HB.out | apply below_alloc | apply pw_below_drewN | apply below_drew1 | refine below_set ?_ GE229.out | refine below_set ?_ GE236.out | refine below_set ?_ GE247.out) | exact HB.out)) hb); clear HO_230002; clear HO_237002; clear HO245; clear BK229; clear BK236; clear BK247; clear HB; have HO_230002 := n0_; have HO_237002 := n1_; have HO245 := n2_; have BK229 := n3_; have BK236 := n4_; have BK247 := n5_; have HB := n6_; clear n0_ n1_ n2_ n3_ n4_ n5_ n6_; (try clear hb); (try clear hb2); (try clear hk); (try clear hi)))
        go_meet
        case rel => exact ⟨_, ((t246 != t228)), (by first | rfl | (simp; done) | (simp [*]; done)), H', ⟨by have := HJ5.out; first | omega | exact Nat.le_refl _⟩, ⟨pr_ HO_230002⟩, ⟨pr_ HO_237002⟩, ⟨by (with_reducible repeat (first | apply Kd.R_alloc | apply Kd.R_drewN | apply Kd.R_drew)); exact Kd.R_mono HO245.out (fun _ hk => ⟨hk.1.2, hk.2⟩)⟩, ⟨pl_ BK229⟩, ⟨pl_ BK236⟩, ⟨pl_ BK247⟩, ⟨by repeat (first | (with_reducible first | exact HB.out | apply below_alloc | apply pw_below_drewN | apply below_drew1 | refine below_set ?_ GE229.out | refine below_set ?_ GE236.out | refine below_set ?_ GE247.out) | exact HB.out)⟩⟩
       ·replace c50 := Bool.eq_false_iff.mpr c50
        subst c50
        have H1 : (laws_FnExactMakeFixed.j1 kj5 t238 true t230 t231 t239) = some r := by rw [if_neg (show ¬ (false = true) by decide)] at H; exact H
        clear H
        have H := H1
        clear H1
        have H' := Aside0.mk H
        clear H
        have hnb57 := NB247_229.out
        have hnc57 := NB229_247.out
        have hnb58 := NB247_236.out
        have hnc58 := NB236_247.out
        have hcz59_0 : w44.cell? ⟨gb247, 0, none⟩ = some (.int .i8 0) := (blk_cell BK247.out 0).trans rfl
        have hcz59_1 : w44.cell? ⟨gb247, 1, none⟩ = some (.int .i8 0) := (blk_cell BK247.out 1).trans rfl
        have hcz59_2 : w44.cell? ⟨gb247, 2, none⟩ = some (.slice none 0 0) := (blk_cell BK247.out 2).trans rfl
        have hfz59_0 := blk_frozen BK247.out 0
        have hfz59_1 := blk_frozen BK247.out 1
        have hfz59_2 := blk_frozen BK247.out 2
        have hnb60 := NB229_236.out
        have hnc60 := NB236_229.out
        have hcz61_0 : w44.cell? ⟨gb229, 0, none⟩ = some (.int .i8 t223) := (blk_cell BK229.out 0).trans rfl
        have hcz61_1 : w44.cell? ⟨gb229, 1, none⟩ = some (.int .i8 t224) := (blk_cell BK229.out 1).trans rfl
        have hcz61_2 : w44.cell? ⟨gb229, 2, none⟩ = some (.slice Ao10 t225.length co10) := (blk_cell BK229.out 2).trans rfl
        have hfz61_0 := blk_frozen BK229.out 0
        have hfz61_1 := blk_frozen BK229.out 1
        have hfz61_2 := blk_frozen BK229.out 2
        go_wp2_with (first | ((with_reducible refine gate_callee (f := 26) rfl ?_); refine goesL_ (some 58) rfl rfl Try.func26 (by kernel_rfl) rfl #[.agg #[.int .i8 t241, .int .i8 t242, .slice Ao48 t243.length co48], .agg #[.int .i8 t223, .int .i8 t224, .slice Ao10 t225.length co10]] rfl (by (try simp only [List.map_toArray, List.map_cons, List.map_nil]); first | done | rfl | (simp only [List.length_drop, List.length_take]; rfl)) ?_; (with_reducible refine (laws_eqFixed.calls kj5 t241 t242 _ _ t243 t223 t224 _ _ t225 false _ ?side1 ?side2 ?side3 ?side4 A49.out).mono ?_); (case side1 => refine (Kd.R_reads' (e := 24) (base := w.heap.size) (ok := fun k_ => ((True ∧ some k_ ≠ (.slice Ao10 t225.length co10 : Value).ownBlock) ∧ some k_ ≠ (.slice Ao15 t232.length co15 : Value).ownBlock)) (n := t243.length) (c := co48) ?_).2.2; exact (by (with_reducible repeat (first | apply Kd.R_alloc | apply Kd.R_drewN | apply Kd.R_drew)); exact (Kd.R_mono (Kd.R_far (p := ⟨gb247, 2, none⟩) (Kd.R_far (p := ⟨gb247, 1, none⟩) (Kd.R_far (p := ⟨gb247, 0, none⟩) (Kd.R_types HO245.out BK247.out (by decide)) (fun _ hk => hk.2) (.int .i8 t241)) (fun _ hk => hk.2) (.int .i8 t242)) (fun _ hk => hk.2) (.slice Ao48 t243.length co48)) (fun _ h_ => h_.1)))); (case side2 => exact (Kd.R_reads' HO245.out).2.1); (case side3 => refine (Kd.R_reads' (e := 24) (base := w.heap.size) (ok := fun k_ => (some k_ ≠ (.slice Ao15 t232.length co15 : Value).ownBlock ∧ some k_ ≠ (.slice Ao48 t243.length co48 : Value).ownBlock)) (n := t225.length) (c := co10) ?_).2.2; exact (by (with_reducible repeat (first | apply Kd.R_alloc | apply Kd.R_drewN | apply Kd.R_drew)); exact (Kd.R_mono (Kd.R_far (p := ⟨gb247, 2, none⟩) (Kd.R_far (p := ⟨gb247, 1, none⟩) (Kd.R_far (p := ⟨gb247, 0, none⟩) (Kd.R_types HO_230002.out BK247.out (by decide)) (fun _ hk => hk.2) (.int .i8 t241)) (fun _ hk => hk.2) (.int .i8 t242)) (fun _ hk => hk.2) (.slice Ao48 t243.length co48)) (fun _ h_ => h_.1)))); (case side4 => exact (Kd.R_reads' HO_230002.out).2.1); rintro e w62 ⟨rfl, hb⟩; refine ⟨_, rfl, ?_⟩; have n0_ := Aside0.mk (Kd.R_below (by (with_reducible repeat (first | apply Kd.R_alloc | apply Kd.R_drewN | apply Kd.R_drew)); exact (Kd.R_mono (Kd.R_far (p := ⟨gb247, 2, none⟩) (Kd.R_far (p := ⟨gb247, 1, none⟩) (Kd.R_far (p := ⟨gb247, 0, none⟩) (Kd.R_types HO_230002.out BK247.out (by decide)) (fun _ hk => hk.2) (.int .i8 t241)) (fun _ hk => hk.2) (.int .i8 t242)) (fun _ hk => hk.2) (.slice Ao48 t243.length co48)) (fun _ h_ => h_.1))) hb); have n1_ := Aside0.mk (Kd.R_below (by (with_reducible repeat (first | apply Kd.R_alloc | apply Kd.R_drewN | apply Kd.R_drew)); exact (Kd.R_mono (Kd.R_far (p := ⟨gb247, 2, none⟩) (Kd.R_far (p := ⟨gb247, 1, none⟩) (Kd.R_far (p := ⟨gb247, 0, none⟩) (Kd.R_types HO_237002.out BK247.out (by decide)) (fun _ hk => hk.2) (.int .i8 t241)) (fun _ hk => hk.2) (.int .i8 t242)) (fun _ hk => hk.2) (.slice Ao48 t243.length co48)) (fun _ h_ => h_.1))) hb); have n2_ := Aside0.mk (Kd.R_below (by (with_reducible repeat (first | apply Kd.R_alloc | apply Kd.R_drewN | apply Kd.R_drew)); exact (Kd.R_mono (Kd.R_far (p := ⟨gb247, 2, none⟩) (Kd.R_far (p := ⟨gb247, 1, none⟩) (Kd.R_far (p := ⟨gb247, 0, none⟩) (Kd.R_types HO245.out BK247.out (by decide)) (fun _ hk => hk.2) (.int .i8 t241)) (fun _ hk => hk.2) (.int .i8 t242)) (fun _ hk => hk.2) (.slice Ao48 t243.length co48)) (fun _ h_ => h_.1))) hb); have n3_ := Aside0.mk (blk_below (g := gb229) (o := .cells #[.int .i8 t223, .int .i8 t224, .slice Ao10 t225.length co10] 40 (0, 0)) (by (with_reducible repeat (first | refine blk_drewN ?_ _ | refine blk_drew ?_ | refine blk_alloc ?_ _)); refine blk_far ?_ NB229_247.out _; (with_reducible repeat (first | refine blk_drewN ?_ _ | refine blk_drew ?_ | refine blk_alloc ?_ _)); refine blk_far ?_ NB229_247.out _; (with_reducible repeat (first | refine blk_drewN ?_ _ | refine blk_drew ?_ | refine blk_alloc ?_ _)); refine blk_far ?_ NB229_247.out _; (with_reducible repeat (first | refine blk_drewN ?_ _ | refine blk_drew ?_ | refine blk_alloc ?_ _)); exact BK229.out) hb); have n4_ := Aside0.mk (blk_below (g := gb236) (o := .cells #[.int .i8 t230, .int .i8 t231, .slice Ao15 t232.length co15] 40 (0, 0)) (by (with_reducible repeat (first | refine blk_drewN ?_ _ | refine blk_drew ?_ | refine blk_alloc ?_ _)); refine blk_far ?_ NB236_247.out _; (with_reducible repeat (first | refine blk_drewN ?_ _ | refine blk_drew ?_ | refine blk_alloc ?_ _)); refine blk_far ?_ NB236_247.out _; (with_reducible repeat (first | refine blk_drewN ?_ _ | refine blk_drew ?_ | refine blk_alloc ?_ _)); refine blk_far ?_ NB236_247.out _; (with_reducible repeat (first | refine blk_drewN ?_ _ | refine blk_drew ?_ | refine blk_alloc ?_ _)); exact BK236.out) hb); have n5_ := Aside0.mk (blk_below (g := gb247) (o := .cells #[.int .i8 t241, .int .i8 t242, .slice Ao48 t243.length co48] 40 (0, 0)) (by (with_reducible repeat (first | refine blk_drewN ?_ _ | refine blk_drew ?_ | refine blk_alloc ?_ _)); refine blk_put (cs := #[.int .i8 t241, .int .i8 t242, .slice none 0 0]) ?_ 2 _ rfl; (with_reducible repeat (first | refine blk_drewN ?_ _ | refine blk_drew ?_ | refine blk_alloc ?_ _)); refine blk_put (cs := #[.int .i8 t241, .int .i8 0, .slice none 0 0]) ?_ 1 _ rfl; (with_reducible repeat (first | refine blk_drewN ?_ _ | refine blk_drew ?_ | refine blk_alloc ?_ _)); refine blk_put (cs := #[.int .i8 0, .int .i8 0, .slice none 0 0]) ?_ 0 _ rfl; (with_reducible repeat (first | refine blk_drewN ?_ _ | refine blk_drew ?_ | refine blk_alloc ?_ _)); exact BK247.out) hb); have n6_ := Aside0.mk (below_step (by repeat (first | (with_reducible first | exact HB.out | apply below_alloc | apply pw_below_drewN | apply below_drew1 | refine below_set ?_ GE229.out | refine below_set ?_ GE236.out | refine below_set ?_ GE247.out) | exact HB.out)) hb); clear HO_230002; clear HO_237002; clear HO245; clear BK229; clear BK236; clear BK247; clear HB; have HO_230002 := n0_; have HO_237002 := n1_; have HO245 := n2_; have BK229 := n3_; have BK236 := n4_; have BK247 := n5_; have HB := n6_; clear n0_ n1_ n2_ n3_ n4_ n5_ n6_; (try clear hb); (try clear hb2); (try clear hk); (try clear hi)))
        go_meet
        case rel => exact ⟨_, (true), (by first | rfl | (simp; done) | (simp [*]; done)), H', ⟨by have := HJ5.out; first | omega | exact Nat.le_refl _⟩, ⟨pr_ HO_230002⟩, ⟨pr_ HO_237002⟩, ⟨by (with_reducible repeat (first | apply Kd.R_alloc | apply Kd.R_drewN | apply Kd.R_drew)); exact Kd.R_mono HO245.out (fun _ hk => ⟨hk.1.2, hk.2⟩)⟩, ⟨pl_ BK229⟩, ⟨pl_ BK236⟩, ⟨pl_ BK247⟩, ⟨by repeat (first | (with_reducible first | exact HB.out | apply below_alloc | apply pw_below_drewN | apply below_drew1 | refine below_set ?_ GE229.out | refine below_set ?_ GE236.out | refine below_set ?_ GE247.out) | exact HB.out)⟩⟩
      case rest =>
       clear HC37
       try clear c1
       try clear c2
       try clear p2
       try clear c3
       try clear c4
       try clear c5
       try clear c6
       try clear c9
       try clear c13
       try clear c17
       try clear c18
       try clear c22
       try clear c24
       try clear c25
       try clear c26
       try clear c27
       try clear c28
       try clear c29
       try clear c29b0
       try clear c30
       try clear c35
       try clear c35b0
       try clear c35b1
       try clear c38
       try clear c45
       try clear c46
       try clear c50
       try clear c51
       try clear c52
       try clear c54
       try clear c57
       try clear c58
       try clear c60
       try clear hcz14_0
       try clear hcz14_1
       try clear hcz14_2
       try clear hcz19_0
       try clear hcz19_1
       try clear hcz19_2
       try clear hcz20_0
       try clear hcz20_1
       try clear hcz20_2
       try clear hcz23_0
       try clear hcz23_1
       try clear hcz23_2
       try clear hcz24_0
       try clear hcz24_1
       try clear hcz24_2
       try clear hcz31_0
       try clear hcz31_1
       try clear hcz31_2
       try clear hcz33_0
       try clear hcz33_1
       try clear hcz33_2
       try clear hcz39_0
       try clear hcz39_1
       try clear hcz39_2
       try clear hcz41_0
       try clear hcz41_1
       try clear hcz41_2
       try clear hcz47_0
       try clear hcz47_1
       try clear hcz47_2
       try clear hcz53_0
       try clear hcz53_1
       try clear hcz53_2
       try clear hcz55_0
       try clear hcz55_1
       try clear hcz55_2
       try clear hcz59_0
       try clear hcz59_1
       try clear hcz59_2
       try clear hcz61_0
       try clear hcz61_1
       try clear hcz61_2
       try clear hcz9_0
       try clear hcz9_1
       try clear hcz9_2
       try clear hfz14_0
       try clear hfz14_1
       try clear hfz14_2
       try clear hfz19_0
       try clear hfz19_1
       try clear hfz19_2
       try clear hfz20_0
       try clear hfz20_1
       try clear hfz20_2
       try clear hfz23_0
       try clear hfz23_1
       try clear hfz23_2
       try clear hfz24_0
       try clear hfz24_1
       try clear hfz24_2
       try clear hfz31_0
       try clear hfz31_1
       try clear hfz31_2
       try clear hfz33_0
       try clear hfz33_1
       try clear hfz33_2
       try clear hfz39_0
       try clear hfz39_1
       try clear hfz39_2
       try clear hfz41_0
       try clear hfz41_1
       try clear hfz41_2
       try clear hfz47_0
       try clear hfz47_1
       try clear hfz47_2
       try clear hfz53_0
       try clear hfz53_1
       try clear hfz53_2
       try clear hfz55_0
       try clear hfz55_1
       try clear hfz55_2
       try clear hfz59_0
       try clear hfz59_1
       try clear hfz59_2
       try clear hfz61_0
       try clear hfz61_1
       try clear hfz61_2
       try clear hfz9_0
       try clear hfz9_1
       try clear hfz9_2
       try clear p2
       obtain ⟨kq, x64_36, rfl, HA, HJ36, HO_230002, HO_237002, HO_248002, BK229, BK236, BK247, HB⟩ := hcut
       have hl237002_36 := (Kd.R_reads' HO_237002.out).1
       rw [hl237002_36] at HO_237002
       (try simp only [hl237002_36])
       (try simp only [hl237002_36] at BK229)
       (try simp only [hl237002_36] at BK236)
       (try simp only [hl237002_36] at BK247)
       (try simp only [hl237002_36] at HO_230002)
       (try simp only [hl237002_36] at HO_248002)
       cases kq with
       | zero => exact absurd HA.out (by simp [laws_FnExactMakeFixed.j1])
       | succ kj36 =>
        have H := HA.out
        clear HA
        simp only [laws_FnExactMakeFixed.j1] at H
        by_cases c63 : x64_36 = true
        ·subst c63
         have H1 : (some false) = some r := by rw [if_pos rfl] at H; exact H
         clear H
         have H := H1
         clear H1
         obtain rfl := Option.some.inj H
         go_wp2
         go_ret
         exact ⟨by first | rfl | (simp [errW_none, errW_some] <;> rfl) | (simp [*, errW_none, errW_some] <;> rfl), by repeat (first | (with_reducible first | exact HB.out | apply below_alloc | apply pw_below_drewN | apply below_drew1 | refine below_set ?_ GE229.out | refine below_set ?_ GE236.out | refine below_set ?_ GE247.out) | exact HB.out)⟩
        ·replace c63 := Bool.eq_false_iff.mpr c63
         subst c63
         have H1 : ((laws_heldFixed.f kj36 t230 t231 t239 1).bind fun t249 => (if t249 < 0 then (some false) else (if t249 = t238 then (some true) else (some false)))) = some r := by rw [if_neg (show ¬ (false = true) by decide)] at H; exact H
         clear H
         have H := H1
         clear H1
         replace H := Option.bind_eq_some_iff.mp H
         obtain ⟨t249, A640, H⟩ := H
         replace H : (if t249 < 0 then (some false) else (if t249 = t238 then (some true) else (some false))) = some r := H
         have A64 := Aside0.mk A640
         clear A640
         by_cases c65 : t249 < 0
         ·rw [if_pos c65] at H
          have c65b0 : decide (t249 < 0) = true := decide_eq_true c65
          clear c65
          obtain rfl := Option.some.inj H
          have hnb66 := NB236_229.out
          have hnc66 := NB229_236.out
          have hnb67 := NB236_247.out
          have hnc67 := NB247_236.out
          have hcz68_0 : wc.cell? ⟨gb236, 0, none⟩ = some (.int .i8 t230) := (blk_cell BK236.out 0).trans rfl
          have hcz68_1 : wc.cell? ⟨gb236, 1, none⟩ = some (.int .i8 t231) := (blk_cell BK236.out 1).trans rfl
          have hcz68_2 : wc.cell? ⟨gb236, 2, none⟩ = some (.slice Ao15 t239.length co15) := (blk_cell BK236.out 2).trans rfl
          have hfz68_0 := blk_frozen BK236.out 0
          have hfz68_1 := blk_frozen BK236.out 1
          have hfz68_2 := blk_frozen BK236.out 2
          go_wp2_with (first | ((with_reducible refine gate_callee (f := 28) rfl ?_); refine goesL_ (some 67) rfl rfl Try.func28 (by kernel_rfl) rfl #[.agg #[.int .i8 t230, .int .i8 t231, .slice Ao15 t239.length co15], .int .i64 1] rfl (by (try simp only [List.map_toArray, List.map_cons, List.map_nil]); first | done | rfl | (simp only [List.length_drop, List.length_take]; rfl)) ?_; (with_reducible refine (laws_heldFixed.calls kj36 t230 t231 _ _ t239 1 t249 _ ?side1 ?side2 A64.out).mono ?_); (case side1 => repeat (first | exact (Kd.R_reads' HO_237002.out).2.2 | (with_reducible refine Kd.C_alloc ?_ _) | (with_reducible refine Kd.C_drewN ?_ _) | (with_reducible refine Kd.C_drew ?_))); (case side2 => exact (Kd.R_reads' HO_237002.out).2.1); rintro e w69 ⟨rfl, hb⟩; refine ⟨_, rfl, ?_⟩; have n0_ := Aside0.mk (Kd.R_below (pr_ HO_230002) hb); have n1_ := Aside0.mk (Kd.R_below (pr_ HO_237002) hb); have n2_ := Aside0.mk (Kd.R_below (pr_ HO_248002) hb); have n3_ := Aside0.mk (blk_below (g := gb229) (o := .cells #[.int .i8 t223, .int .i8 t224, .slice Ao10 t225.length co10] 40 (0, 0)) (pl_ BK229) hb); have n4_ := Aside0.mk (blk_below (g := gb236) (o := .cells #[.int .i8 t230, .int .i8 t231, .slice Ao15 t239.length co15] 40 (0, 0)) (pl_ BK236) hb); have n5_ := Aside0.mk (blk_below (g := gb247) (o := .cells #[.int .i8 t241, .int .i8 t242, .slice Ao48 t243.length co48] 40 (0, 0)) (pl_ BK247) hb); have n6_ := Aside0.mk (below_step (by repeat (first | (with_reducible first | exact HB.out | apply below_alloc | apply pw_below_drewN | apply below_drew1 | refine below_set ?_ GE229.out | refine below_set ?_ GE236.out | refine below_set ?_ GE247.out) | exact HB.out)) hb); clear HO_230002; clear HO_237002; clear HO_248002; clear BK229; clear BK236; clear BK247; clear HB; have HO_230002 := n0_; have HO_237002 := n1_; have HO_248002 := n2_; have BK229 := n3_; have BK236 := n4_; have BK247 := n5_; have HB := n6_; clear n0_ n1_ n2_ n3_ n4_ n5_ n6_; (try clear hb); (try clear hb2); (try clear hk); (try clear hi)))
          go_ret
          exact ⟨by first | rfl | (simp [errW_none, errW_some] <;> rfl) | (simp [*, errW_none, errW_some] <;> rfl), by repeat (first | (with_reducible first | exact HB.out | apply below_alloc | apply pw_below_drewN | apply below_drew1 | refine below_set ?_ GE229.out | refine below_set ?_ GE236.out | refine below_set ?_ GE247.out) | exact HB.out)⟩
         ·rw [if_neg c65] at H
          have c65b0 : decide (t249 < 0) = false := decide_eq_false c65
          clear c65
          by_cases c70 : t249 = t238
          ·rw [if_pos c70] at H
           have c70b0 : (t249 == t238) = true := beq_iff_eq.mpr c70
           have c70b1 : (t249 != t238) = false := bne_eq_false_iff_eq.mpr c70
           clear c70
           obtain rfl := Option.some.inj H
           have hnb71 := NB236_229.out
           have hnc71 := NB229_236.out
           have hnb72 := NB236_247.out
           have hnc72 := NB247_236.out
           have hcz73_0 : wc.cell? ⟨gb236, 0, none⟩ = some (.int .i8 t230) := (blk_cell BK236.out 0).trans rfl
           have hcz73_1 : wc.cell? ⟨gb236, 1, none⟩ = some (.int .i8 t231) := (blk_cell BK236.out 1).trans rfl
           have hcz73_2 : wc.cell? ⟨gb236, 2, none⟩ = some (.slice Ao15 t239.length co15) := (blk_cell BK236.out 2).trans rfl
           have hfz73_0 := blk_frozen BK236.out 0
           have hfz73_1 := blk_frozen BK236.out 1
           have hfz73_2 := blk_frozen BK236.out 2
           go_wp2_with (first | ((with_reducible refine gate_callee (f := 28) rfl ?_); refine goesL_ (some 67) rfl rfl Try.func28 (by kernel_rfl) rfl #[.agg #[.int .i8 t230, .int .i8 t231, .slice Ao15 t239.length co15], .int .i64 1] rfl (by (try simp only [List.map_toArray, List.map_cons, List.map_nil]); first | done | rfl | (simp only [List.length_drop, List.length_take]; rfl)) ?_; (with_reducible refine (laws_heldFixed.calls kj36 t230 t231 _ _ t239 1 t249 _ ?side1 ?side2 A64.out).mono ?_); (case side1 => repeat (first | exact (Kd.R_reads' HO_237002.out).2.2 | (with_reducible refine Kd.C_alloc ?_ _) | (with_reducible refine Kd.C_drewN ?_ _) | (with_reducible refine Kd.C_drew ?_))); (case side2 => exact (Kd.R_reads' HO_237002.out).2.1); rintro e w74 ⟨rfl, hb⟩; refine ⟨_, rfl, ?_⟩; have n0_ := Aside0.mk (Kd.R_below (pr_ HO_230002) hb); have n1_ := Aside0.mk (Kd.R_below (pr_ HO_237002) hb); have n2_ := Aside0.mk (Kd.R_below (pr_ HO_248002) hb); have n3_ := Aside0.mk (blk_below (g := gb229) (o := .cells #[.int .i8 t223, .int .i8 t224, .slice Ao10 t225.length co10] 40 (0, 0)) (pl_ BK229) hb); have n4_ := Aside0.mk (blk_below (g := gb236) (o := .cells #[.int .i8 t230, .int .i8 t231, .slice Ao15 t239.length co15] 40 (0, 0)) (pl_ BK236) hb); have n5_ := Aside0.mk (blk_below (g := gb247) (o := .cells #[.int .i8 t241, .int .i8 t242, .slice Ao48 t243.length co48] 40 (0, 0)) (pl_ BK247) hb); have n6_ := Aside0.mk (below_step (by repeat (first | (with_reducible first | exact HB.out | apply below_alloc | apply pw_below_drewN | apply below_drew1 | refine below_set ?_ GE229.out | refine below_set ?_ GE236.out | refine below_set ?_ GE247.out) | exact HB.out)) hb); clear HO_230002; clear HO_237002; clear HO_248002; clear BK229; clear BK236; clear BK247; clear HB; have HO_230002 := n0_; have HO_237002 := n1_; have HO_248002 := n2_; have BK229 := n3_; have BK236 := n4_; have BK247 := n5_; have HB := n6_; clear n0_ n1_ n2_ n3_ n4_ n5_ n6_; (try clear hb); (try clear hb2); (try clear hk); (try clear hi)))
           go_ret
           exact ⟨by first | rfl | (simp [errW_none, errW_some] <;> rfl) | (simp [*, errW_none, errW_some] <;> rfl), by repeat (first | (with_reducible first | exact HB.out | apply below_alloc | apply pw_below_drewN | apply below_drew1 | refine below_set ?_ GE229.out | refine below_set ?_ GE236.out | refine below_set ?_ GE247.out) | exact HB.out)⟩
          ·rw [if_neg c70] at H
           have c70b0 : (t249 == t238) = false := beq_eq_false_iff_ne.mpr c70
           have c70b1 : (t249 != t238) = true := bne_iff_ne.mpr c70
           obtain rfl := Option.some.inj H
           have hnb75 := NB236_229.out
           have hnc75 := NB229_236.out
           have hnb76 := NB236_247.out
           have hnc76 := NB247_236.out
           have hcz77_0 : wc.cell? ⟨gb236, 0, none⟩ = some (.int .i8 t230) := (blk_cell BK236.out 0).trans rfl
           have hcz77_1 : wc.cell? ⟨gb236, 1, none⟩ = some (.int .i8 t231) := (blk_cell BK236.out 1).trans rfl
           have hcz77_2 : wc.cell? ⟨gb236, 2, none⟩ = some (.slice Ao15 t239.length co15) := (blk_cell BK236.out 2).trans rfl
           have hfz77_0 := blk_frozen BK236.out 0
           have hfz77_1 := blk_frozen BK236.out 1
           have hfz77_2 := blk_frozen BK236.out 2
           go_wp2_with (first | ((with_reducible refine gate_callee (f := 28) rfl ?_); refine goesL_ (some 67) rfl rfl Try.func28 (by kernel_rfl) rfl #[.agg #[.int .i8 t230, .int .i8 t231, .slice Ao15 t239.length co15], .int .i64 1] rfl (by (try simp only [List.map_toArray, List.map_cons, List.map_nil]); first | done | rfl | (simp only [List.length_drop, List.length_take]; rfl)) ?_; (with_reducible refine (laws_heldFixed.calls kj36 t230 t231 _ _ t239 1 t249 _ ?side1 ?side2 A64.out).mono ?_); (case side1 => repeat (first | exact (Kd.R_reads' HO_237002.out).2.2 | (with_reducible refine Kd.C_alloc ?_ _) | (with_reducible refine Kd.C_drewN ?_ _) | (with_reducible refine Kd.C_drew ?_))); (case side2 => exact (Kd.R_reads' HO_237002.out).2.1); rintro e w78 ⟨rfl, hb⟩; refine ⟨_, rfl, ?_⟩; have n0_ := Aside0.mk (Kd.R_below (pr_ HO_230002) hb); have n1_ := Aside0.mk (Kd.R_below (pr_ HO_237002) hb); have n2_ := Aside0.mk (Kd.R_below (pr_ HO_248002) hb); have n3_ := Aside0.mk (blk_below (g := gb229) (o := .cells #[.int .i8 t223, .int .i8 t224, .slice Ao10 t225.length co10] 40 (0, 0)) (pl_ BK229) hb); have n4_ := Aside0.mk (blk_below (g := gb236) (o := .cells #[.int .i8 t230, .int .i8 t231, .slice Ao15 t239.length co15] 40 (0, 0)) (pl_ BK236) hb); have n5_ := Aside0.mk (blk_below (g := gb247) (o := .cells #[.int .i8 t241, .int .i8 t242, .slice Ao48 t243.length co48] 40 (0, 0)) (pl_ BK247) hb); have n6_ := Aside0.mk (below_step (by repeat (first | (with_reducible first | exact HB.out | apply below_alloc | apply pw_below_drewN | apply below_drew1 | refine below_set ?_ GE229.out | refine below_set ?_ GE236.out | refine below_set ?_ GE247.out) | exact HB.out)) hb); clear HO_230002; clear HO_237002; clear HO_248002; clear BK229; clear BK236; clear BK247; clear HB; have HO_230002 := n0_; have HO_237002 := n1_; have HO_248002 := n2_; have BK229 := n3_; have BK236 := n4_; have BK247 := n5_; have HB := n6_; clear n0_ n1_ n2_ n3_ n4_ n5_ n6_; (try clear hb); (try clear hb2); (try clear hk); (try clear hi)))
           go_ret
           exact ⟨by first | rfl | (simp [errW_none, errW_some] <;> rfl) | (simp [*, errW_none, errW_some] <;> rfl), by repeat (first | (with_reducible first | exact HB.out | apply below_alloc | apply pw_below_drewN | apply below_drew1 | refine below_set ?_ GE229.out | refine below_set ?_ GE236.out | refine below_set ?_ GE247.out) | exact HB.out)⟩
     ·rw [if_neg c35] at H
      have c35b0 : (t240 == t238) = false := beq_eq_false_iff_ne.mpr c35
      have c35b1 : (t240 != t238) = true := bne_iff_ne.mpr c35
      obtain rfl := Option.some.inj H
      have hnb79 := NB236_229.out
      have hnc79 := NB229_236.out
      have hcz80_0 : wc.cell? ⟨gb236, 0, none⟩ = some (.int .i8 t230) := (blk_cell BK236.out 0).trans rfl
      have hcz80_1 : wc.cell? ⟨gb236, 1, none⟩ = some (.int .i8 t231) := (blk_cell BK236.out 1).trans rfl
      have hcz80_2 : wc.cell? ⟨gb236, 2, none⟩ = some (.slice Ao15 t232.length co15) := (blk_cell BK236.out 2).trans rfl
      have hfz80_0 := blk_frozen BK236.out 0
      have hfz80_1 := blk_frozen BK236.out 1
      have hfz80_2 := blk_frozen BK236.out 2
      go_wp2_with (first | ((with_reducible refine gate_callee (f := 27) rfl ?_); refine goesL_ (some 40) rfl rfl Try.func27 (by kernel_rfl) rfl #[.agg #[.int .i8 t230, .int .i8 t231, .slice Ao15 t232.length co15], .int .i64 1] rfl (by (try simp only [List.map_toArray, List.map_cons, List.map_nil]); first | done | rfl | (simp only [List.length_drop, List.length_take]; rfl)) ?_; (with_reducible refine (laws_markFixed.calls kj5 t230 t231 (fun k_ => some k_ = (.slice Ao15 t232.length co15 : Value).ownBlock) (.slice Ao15 t232.length co15) t232 1 t238 t239 w _ ?side1 ?side2 A27.out).mono ?_); (case side1 => repeat (first | (with_reducible first | exact HB.out | apply below_alloc | apply pw_below_drewN | apply below_drew1 | refine below_set ?_ GE229.out | refine below_set ?_ GE236.out) | exact HB.out)); (case side2 => exact Kd.R_tight rfl HO_237002.out); rintro e w81 ⟨rfl, hy0, hb, hkp⟩; refine ⟨_, rfl, ?_⟩; have n0_ := Aside0.mk (Kd.R_mono (ok' := fun k_ => some k_ ≠ (.slice Ao15 t232.length co15 : Value).ownBlock) (Kd.R_keptB (HO_230002.out) hkp (fun k_ hk_ hs_ => (hk_) hs_)) (fun k_ hk_ => hk_.1)); have n1_ := Aside0.mk (Kd.R_reok rfl hy0 (fun k_ e_ => HO_237002.out.1 k_ e_)); have n2_ := Aside0.mk (blk_kept (pl_ BK229) hkp (fun hs_ => (fun e_ => (Kd.R_ne HO_237002.out BK229.out (by decide)) e_) hs_)); have n3_ := Aside0.mk (blk_kept (pl_ BK236) hkp (fun hs_ => (fun e_ => (Kd.R_ne HO_237002.out BK236.out (by decide)) e_) hs_)); have n4_ := Aside0.mk (hb); clear HO_230002; clear HO_237002; clear BK229; clear BK236; clear HB; have HO_230002 := n0_; have HO_237002 := n1_; have BK229 := n2_; have BK236 := n3_; have HB := n4_; clear n0_ n1_ n2_ n3_ n4_; (try clear hb); (try clear hkp); (try clear hy0); have hcz82_0 : w81.cell? ⟨gb236, 0, none⟩ = some (.int .i8 t230) := (blk_cell BK236.out 0).trans rfl; have hcz82_1 : w81.cell? ⟨gb236, 1, none⟩ = some (.int .i8 t231) := (blk_cell BK236.out 1).trans rfl; have hcz82_2 : w81.cell? ⟨gb236, 2, none⟩ = some (.slice Ao15 t232.length co15) := (blk_cell BK236.out 2).trans rfl; have hfz82_0 := blk_frozen BK236.out 0; have hfz82_1 := blk_frozen BK236.out 1; have hfz82_2 := blk_frozen BK236.out 2) | ((with_reducible refine gate_callee (f := 28) rfl ?_); refine goesL_ (some 43) rfl rfl Try.func28 (by kernel_rfl) rfl #[.agg #[.int .i8 t230, .int .i8 t231, .slice Ao15 t239.length co15], .int .i64 1] rfl (by (try simp only [List.map_toArray, List.map_cons, List.map_nil]); first | done | (rw [show t239.length = t232.length from (Kd.R_reads' HO_237002.out).1.symm] <;> rfl) | rfl | (simp only [List.length_drop, List.length_take]; rfl)) ?_; (with_reducible refine (laws_heldFixed.calls kj5 t230 t231 _ _ t239 1 t240 _ ?side1 ?side2 A28.out).mono ?_); (case side1 => repeat (first | exact (Kd.R_reads' HO_237002.out).2.2 | (with_reducible refine Kd.C_alloc ?_ _) | (with_reducible refine Kd.C_drewN ?_ _) | (with_reducible refine Kd.C_drew ?_))); (case side2 => rw [show t239.length = t232.length from (Kd.R_reads' HO_237002.out).1.symm]; exact (Kd.R_reads' HO_237002.out).2.1); rintro e w83 ⟨rfl, hb⟩; refine ⟨_, rfl, ?_⟩; have n0_ := Aside0.mk (Kd.R_below (pr_ HO_230002) hb); have n1_ := Aside0.mk (Kd.R_below (pr_ HO_237002) hb); have n2_ := Aside0.mk (blk_below (g := gb229) (o := .cells #[.int .i8 t223, .int .i8 t224, .slice Ao10 t225.length co10] 40 (0, 0)) (pl_ BK229) hb); have n3_ := Aside0.mk (blk_below (g := gb236) (o := .cells #[.int .i8 t230, .int .i8 t231, .slice Ao15 t232.length co15] 40 (0, 0)) (pl_ BK236) hb); have n4_ := Aside0.mk (below_step (by repeat (first | (with_reducible first | exact HB.out | apply below_alloc | apply pw_below_drewN | apply below_drew1 | refine below_set ?_ GE229.out | refine below_set ?_ GE236.out) | exact HB.out)) hb); clear HO_230002; clear HO_237002; clear BK229; clear BK236; clear HB; have HO_230002 := n0_; have HO_237002 := n1_; have BK229 := n2_; have BK236 := n3_; have HB := n4_; clear n0_ n1_ n2_ n3_ n4_; (try clear hb); (try clear hb2); (try clear hk); (try clear hi)))
      go_ret
      exact ⟨by first | rfl | (simp [errW_none, errW_some] <;> rfl) | (simp [*, errW_none, errW_some] <;> rfl), by repeat (first | (with_reducible first | exact HB.out | apply below_alloc | apply pw_below_drewN | apply below_drew1 | refine below_set ?_ GE229.out | refine below_set ?_ GE236.out) | exact HB.out)⟩

/-- THE ONE PURE STATEMENT of laws_FnExactMakeFixed: yours. -/
def laws_FnExactMakeFixed.Pure : Prop := ∀ (a0 : Int) (a1 : Int) (a2 : Int), (Lit.int .i64 a0).wf = true → (Lit.int .i64 a1).wf = true → (Lit.int .i64 a2).wf = true → ∃ k, laws_FnExactMakeFixed.f k a0 a1 a2 = some true
theorem laws_FnExactMakeFixed.walk (P : laws_FnExactMakeFixed.Pure) (a0 : Int) (a1 : Int) (a2 : Int) (w : World) (w0 : (Lit.int .i64 a0).wf = true) (w1 : (Lit.int .i64 a1).wf = true) (w2 : (Lit.int .i64 a2).wf = true) :
  Calls Try.prog 9 #[.int .i64 a0, .int .i64 a1, .int .i64 a2] w fun e w' => e = .returned (.bool true) ∧ Below w.heap.size w w' := by
 obtain ⟨k, h⟩ := P a0 a1 a2 w0 w1 w2
 refine (laws_FnExactMakeFixed.calls k a0 a1 a2 true w h).mono ?_
 rintro e w' ⟨rfl, hd⟩
 exact ⟨rfl, hd⟩

end Go.Proofs.Yteohhkfeeeifaaa.M
