-- By this seat's own program over the kit's printer (arrays, functions told by hand); nothing of it is trusted: the kernel checks it.
import Derived.Test.YteohhkfeeeifaaaMx0
import Derived.Test.YteohhkfeeeifaaaMx1
import Derived.Test.YteohhkfeeeifaaaMx7
import Derived.Test.YteohhkfeeeifaaaMx8
import Derived.Test.YteohhkfeeeifaaaMx9
namespace Go.Proofs.Yteohhkfeeeifaaa.M
open Go.RowKit Go.Proofs.YteohhkfeeeifaaaW.PrintWords Go.Proofs.YteohhkfeeeifaaaW.PrintLast Go.Proofs.YteohhkfeeeifaaaW.PrintMore
attribute [local go_sem] max2_int min2_int max_two min_two max_three min_three max_four min_four   -- for this text's walks alone
set_option linter.unusedVariables false
set_option linter.unusedSimpArgs false

/-! ### spec_MakeFixed: function 24 -/
mutual
def spec_MakeFixed.j0 : Nat → Int → Int → Int → Bool → Option (Int × Int × (List (S24)) × Int)
 | 0, _, _, _, _ => none
 | k + 1, x0, x1, x2, x24 => if x24 = true then (some (0, 0, ([] : List (S24)), 2)) else (if (Int.tmod x2 3) = 0 then (spec_MakeFixed.l0 k x0 x1 x2 0 (IntKind.i8.wrap (x0)) (IntKind.i8.wrap (x1)) ([] : List (S24))) else (some (0, 0, ([] : List (S24)), 4)))
def spec_MakeFixed.l0 : Nat → Int → Int → Int → Int → Int → Int → List (S24) → Option (Int × Int × (List (S24)) × Int)
 | 0, _, _, _, _, _, _, _ => none
 | k + 1, x0, x1, x2, x9, x156000, x156001, x156002 => (spec_l03Power.f k (wrap64 (x0 - 1))).bind fun t156 => (if x9 < t156 then (spec_MakeFixed.j2 k x0 x1 x2 x9 (decide ((x156002.length : Int) < x2)) x156000 x156001 x156002) else (spec_MakeFixed.j2 k x0 x1 x2 x9 false x156000 x156001 x156002))
def spec_MakeFixed.j2 : Nat → Int → Int → Int → Int → Bool → Int → Int → List (S24) → Option (Int × Int × (List (S24)) × Int)
 | 0, _, _, _, _, _, _, _, _ => none
 | k + 1, x0, x1, x2, x9, x46, x156000, x156001, x156002 => if x46 = true then ((spec_l04At.f k x0 x9).bind fun bt157 => (if x1 = 2 then ((spec_l04Turns.f k x0 bt157.1 bt157.2.1 bt157.2.2.1 bt157.2.2.2).bind fun t162 => (if t162 = true then (spec_MakeFixed.j3 k x0 x1 x2 x9 (x9 == 0) x156000 x156001 x156002 bt157.1 bt157.2.1 bt157.2.2.1 bt157.2.2.2) else (spec_MakeFixed.j3 k x0 x1 x2 x9 true x156000 x156001 x156002 bt157.1 bt157.2.1 bt157.2.2.1 bt157.2.2.2))) else (spec_MakeFixed.j3 k x0 x1 x2 x9 (x9 == 0) x156000 x156001 x156002 bt157.1 bt157.2.1 bt157.2.2.1 bt157.2.2.2))) else (if (x156002.length : Int) < x2 then (some (0, 0, ([] : List (S24)), 6)) else (some (x156000, x156001, x156002, 0)))
def spec_MakeFixed.j3 : Nat → Int → Int → Int → Int → Bool → Int → Int → List (S24) → Int → Int → Int → Int → Option (Int × Int × (List (S24)) × Int)
 | 0, _, _, _, _, _, _, _, _, _, _, _, _ => none
 | k + 1, x0, x1, x2, x9, x63, x156000, x156001, x156002, x162000, x162001, x162002, x162003 => if x63 = true then (spec_MakeFixed.l0 k x0 x1 x2 (wrap64 (x9 + 1)) x156000 x156001 x156002) else (spec_MakeFixed.l1 k x0 x1 x2 x9 0 x156000 x156001 x156002 x162000 x162001 x162002 x162003)
def spec_MakeFixed.l1 : Nat → Int → Int → Int → Int → Int → Int → Int → List (S24) → Int → Int → Int → Int → Option (Int × Int × (List (S24)) × Int)
 | 0, _, _, _, _, _, _, _, _, _, _, _, _ => none
 | k + 1, x0, x1, x2, x9, x11, x156000, x156001, x156002, x162000, x162001, x162002, x162003 => if x11 < 3 then (if x156002.length < 35184372088832 then ((spec_l04NextWord.f k x0 x162000 x162001 x162002 x162003).bind fun bt166 => (spec_MakeFixed.l1 k x0 x1 x2 x9 (wrap64 (x11 + 1)) x156000 x156001 (x156002 ++ [(⟨x162000, x162001, x162002, x162003⟩ : S24)]) bt166.1 bt166.2.1 bt166.2.2.1 bt166.2.2.2)) else (none)) else (spec_MakeFixed.l0 k x0 x1 x2 (wrap64 (x9 + 1)) x156000 x156001 x156002)
end
def spec_MakeFixed.f (k : Nat) (a0 : Int) (a1 : Int) (a2 : Int) : Option (Int × Int × (List (S24)) × Int) := (spec_l04Letters.f a0).bind fun t152 => (if t152 = true then ((spec_l04Kind.f a1).bind fun t153 => (if t153 = true then ((spec_l00In.f a2 1 80).bind fun t154 => (spec_MakeFixed.j0 k a0 a1 a2 (!t154))) else (spec_MakeFixed.j0 k a0 a1 a2 true))) else (spec_MakeFixed.j0 k a0 a1 a2 true))
theorem spec_MakeFixed.mono_l : ∀ k, (∀ y0 y1 y2 y3, LeO (spec_MakeFixed.j0 k y0 y1 y2 y3) (spec_MakeFixed.j0 (k + 1) y0 y1 y2 y3)) ∧ (∀ y0 y1 y2 y3 y4 y5 y6, LeO (spec_MakeFixed.l0 k y0 y1 y2 y3 y4 y5 y6) (spec_MakeFixed.l0 (k + 1) y0 y1 y2 y3 y4 y5 y6)) ∧ (∀ y0 y1 y2 y3 y4 y5 y6 y7, LeO (spec_MakeFixed.j2 k y0 y1 y2 y3 y4 y5 y6 y7) (spec_MakeFixed.j2 (k + 1) y0 y1 y2 y3 y4 y5 y6 y7)) ∧ (∀ y0 y1 y2 y3 y4 y5 y6 y7 y8 y9 y10 y11, LeO (spec_MakeFixed.j3 k y0 y1 y2 y3 y4 y5 y6 y7 y8 y9 y10 y11) (spec_MakeFixed.j3 (k + 1) y0 y1 y2 y3 y4 y5 y6 y7 y8 y9 y10 y11)) ∧ (∀ y0 y1 y2 y3 y4 y5 y6 y7 y8 y9 y10 y11, LeO (spec_MakeFixed.l1 k y0 y1 y2 y3 y4 y5 y6 y7 y8 y9 y10 y11) (spec_MakeFixed.l1 (k + 1) y0 y1 y2 y3 y4 y5 y6 y7 y8 y9 y10 y11))
 | 0 => ⟨fun _ _ _ _ r h => by simp [spec_MakeFixed.j0] at h, fun _ _ _ _ _ _ _ r h => by simp [spec_MakeFixed.l0] at h, fun _ _ _ _ _ _ _ _ r h => by simp [spec_MakeFixed.j2] at h, fun _ _ _ _ _ _ _ _ _ _ _ _ r h => by simp [spec_MakeFixed.j3] at h, fun _ _ _ _ _ _ _ _ _ _ _ _ r h => by simp [spec_MakeFixed.l1] at h⟩
 | k + 1 => by
  obtain ⟨ih0, ih1, ih2, ih3, ih4⟩ := spec_MakeFixed.mono_l k
  refine ⟨?_, ?_, ?_, ?_, ?_⟩
  ·intro y0 y1 y2 y3
   unfold spec_MakeFixed.j0
   repeat' first
   | (with_reducible exact ih0 _ _ _ _)
   | (with_reducible exact ih1 _ _ _ _ _ _ _)
   | (with_reducible exact ih2 _ _ _ _ _ _ _ _)
   | (with_reducible exact ih3 _ _ _ _ _ _ _ _ _ _ _ _)
   | (with_reducible exact ih4 _ _ _ _ _ _ _ _ _ _ _ _)
   | (with_reducible exact spec_l03Power.mono _ _)
   | (with_reducible exact spec_l04At.mono _ _ _)
   | (with_reducible exact spec_l04NextWord.mono _ _ _ _ _ _)
   | (with_reducible exact spec_l04Turns.mono _ _ _ _ _ _)
   | (with_reducible exact LeO.refl _)
   | (with_reducible exact LeO.none _)
   | (with_reducible refine LeO.ite ?_ ?_)
   | (with_reducible refine LeO.bind ?_ (fun _ => ?_))
   | exact ih0 _ _ _ _
   | exact ih1 _ _ _ _ _ _ _
   | exact ih2 _ _ _ _ _ _ _ _
   | exact ih3 _ _ _ _ _ _ _ _ _ _ _ _
   | exact ih4 _ _ _ _ _ _ _ _ _ _ _ _
   | exact spec_l03Power.mono _ _
   | exact spec_l04At.mono _ _ _
   | exact spec_l04NextWord.mono _ _ _ _ _ _
   | exact spec_l04Turns.mono _ _ _ _ _ _
   | exact LeO.none _
   | refine LeO.ite ?_ ?_
   | refine LeO.bind ?_ (fun _ => ?_)
  ·intro y0 y1 y2 y3 y4 y5 y6
   unfold spec_MakeFixed.l0
   repeat' first
   | (with_reducible exact ih0 _ _ _ _)
   | (with_reducible exact ih1 _ _ _ _ _ _ _)
   | (with_reducible exact ih2 _ _ _ _ _ _ _ _)
   | (with_reducible exact ih3 _ _ _ _ _ _ _ _ _ _ _ _)
   | (with_reducible exact ih4 _ _ _ _ _ _ _ _ _ _ _ _)
   | (with_reducible exact spec_l03Power.mono _ _)
   | (with_reducible exact spec_l04At.mono _ _ _)
   | (with_reducible exact spec_l04NextWord.mono _ _ _ _ _ _)
   | (with_reducible exact spec_l04Turns.mono _ _ _ _ _ _)
   | (with_reducible exact LeO.refl _)
   | (with_reducible exact LeO.none _)
   | (with_reducible refine LeO.ite ?_ ?_)
   | (with_reducible refine LeO.bind ?_ (fun _ => ?_))
   | exact ih0 _ _ _ _
   | exact ih1 _ _ _ _ _ _ _
   | exact ih2 _ _ _ _ _ _ _ _
   | exact ih3 _ _ _ _ _ _ _ _ _ _ _ _
   | exact ih4 _ _ _ _ _ _ _ _ _ _ _ _
   | exact spec_l03Power.mono _ _
   | exact spec_l04At.mono _ _ _
   | exact spec_l04NextWord.mono _ _ _ _ _ _
   | exact spec_l04Turns.mono _ _ _ _ _ _
   | exact LeO.none _
   | refine LeO.ite ?_ ?_
   | refine LeO.bind ?_ (fun _ => ?_)
  ·intro y0 y1 y2 y3 y4 y5 y6 y7
   unfold spec_MakeFixed.j2
   repeat' first
   | (with_reducible exact ih0 _ _ _ _)
   | (with_reducible exact ih1 _ _ _ _ _ _ _)
   | (with_reducible exact ih2 _ _ _ _ _ _ _ _)
   | (with_reducible exact ih3 _ _ _ _ _ _ _ _ _ _ _ _)
   | (with_reducible exact ih4 _ _ _ _ _ _ _ _ _ _ _ _)
   | (with_reducible exact spec_l03Power.mono _ _)
   | (with_reducible exact spec_l04At.mono _ _ _)
   | (with_reducible exact spec_l04NextWord.mono _ _ _ _ _ _)
   | (with_reducible exact spec_l04Turns.mono _ _ _ _ _ _)
   | (with_reducible exact LeO.refl _)
   | (with_reducible exact LeO.none _)
   | (with_reducible refine LeO.ite ?_ ?_)
   | (with_reducible refine LeO.bind ?_ (fun _ => ?_))
   | exact ih0 _ _ _ _
   | exact ih1 _ _ _ _ _ _ _
   | exact ih2 _ _ _ _ _ _ _ _
   | exact ih3 _ _ _ _ _ _ _ _ _ _ _ _
   | exact ih4 _ _ _ _ _ _ _ _ _ _ _ _
   | exact spec_l03Power.mono _ _
   | exact spec_l04At.mono _ _ _
   | exact spec_l04NextWord.mono _ _ _ _ _ _
   | exact spec_l04Turns.mono _ _ _ _ _ _
   | exact LeO.none _
   | refine LeO.ite ?_ ?_
   | refine LeO.bind ?_ (fun _ => ?_)
  ·intro y0 y1 y2 y3 y4 y5 y6 y7 y8 y9 y10 y11
   unfold spec_MakeFixed.j3
   repeat' first
   | (with_reducible exact ih0 _ _ _ _)
   | (with_reducible exact ih1 _ _ _ _ _ _ _)
   | (with_reducible exact ih2 _ _ _ _ _ _ _ _)
   | (with_reducible exact ih3 _ _ _ _ _ _ _ _ _ _ _ _)
   | (with_reducible exact ih4 _ _ _ _ _ _ _ _ _ _ _ _)
   | (with_reducible exact spec_l03Power.mono _ _)
   | (with_reducible exact spec_l04At.mono _ _ _)
   | (with_reducible exact spec_l04NextWord.mono _ _ _ _ _ _)
   | (with_reducible exact spec_l04Turns.mono _ _ _ _ _ _)
   | (with_reducible exact LeO.refl _)
   | (with_reducible exact LeO.none _)
   | (with_reducible refine LeO.ite ?_ ?_)
   | (with_reducible refine LeO.bind ?_ (fun _ => ?_))
   | exact ih0 _ _ _ _
   | exact ih1 _ _ _ _ _ _ _
   | exact ih2 _ _ _ _ _ _ _ _
   | exact ih3 _ _ _ _ _ _ _ _ _ _ _ _
   | exact ih4 _ _ _ _ _ _ _ _ _ _ _ _
   | exact spec_l03Power.mono _ _
   | exact spec_l04At.mono _ _ _
   | exact spec_l04NextWord.mono _ _ _ _ _ _
   | exact spec_l04Turns.mono _ _ _ _ _ _
   | exact LeO.none _
   | refine LeO.ite ?_ ?_
   | refine LeO.bind ?_ (fun _ => ?_)
  ·intro y0 y1 y2 y3 y4 y5 y6 y7 y8 y9 y10 y11
   unfold spec_MakeFixed.l1
   repeat' first
   | (with_reducible exact ih0 _ _ _ _)
   | (with_reducible exact ih1 _ _ _ _ _ _ _)
   | (with_reducible exact ih2 _ _ _ _ _ _ _ _)
   | (with_reducible exact ih3 _ _ _ _ _ _ _ _ _ _ _ _)
   | (with_reducible exact ih4 _ _ _ _ _ _ _ _ _ _ _ _)
   | (with_reducible exact spec_l03Power.mono _ _)
   | (with_reducible exact spec_l04At.mono _ _ _)
   | (with_reducible exact spec_l04NextWord.mono _ _ _ _ _ _)
   | (with_reducible exact spec_l04Turns.mono _ _ _ _ _ _)
   | (with_reducible exact LeO.refl _)
   | (with_reducible exact LeO.none _)
   | (with_reducible refine LeO.ite ?_ ?_)
   | (with_reducible refine LeO.bind ?_ (fun _ => ?_))
   | exact ih0 _ _ _ _
   | exact ih1 _ _ _ _ _ _ _
   | exact ih2 _ _ _ _ _ _ _ _
   | exact ih3 _ _ _ _ _ _ _ _ _ _ _ _
   | exact ih4 _ _ _ _ _ _ _ _ _ _ _ _
   | exact spec_l03Power.mono _ _
   | exact spec_l04At.mono _ _ _
   | exact spec_l04NextWord.mono _ _ _ _ _ _
   | exact spec_l04Turns.mono _ _ _ _ _ _
   | exact LeO.none _
   | refine LeO.ite ?_ ?_
   | refine LeO.bind ?_ (fun _ => ?_)
theorem spec_MakeFixed.mono : ∀ a0 a1 a2 k, LeO (spec_MakeFixed.f k a0 a1 a2) (spec_MakeFixed.f (k + 1) a0 a1 a2) := by
 intro a0 a1 a2 k
 obtain ⟨ih0, ih1, ih2, ih3, ih4⟩ := spec_MakeFixed.mono_l k
 unfold spec_MakeFixed.f
 repeat' first
   | (with_reducible exact ih0 _ _ _ _)
   | (with_reducible exact ih1 _ _ _ _ _ _ _)
   | (with_reducible exact ih2 _ _ _ _ _ _ _ _)
   | (with_reducible exact ih3 _ _ _ _ _ _ _ _ _ _ _ _)
   | (with_reducible exact ih4 _ _ _ _ _ _ _ _ _ _ _ _)
   | (with_reducible exact spec_l03Power.mono _ _)
   | (with_reducible exact spec_l04At.mono _ _ _)
   | (with_reducible exact spec_l04NextWord.mono _ _ _ _ _ _)
   | (with_reducible exact spec_l04Turns.mono _ _ _ _ _ _)
   | (with_reducible exact LeO.refl _)
   | (with_reducible exact LeO.none _)
   | (with_reducible refine LeO.ite ?_ ?_)
   | (with_reducible refine LeO.bind ?_ (fun _ => ?_))
   | exact ih0 _ _ _ _
   | exact ih1 _ _ _ _ _ _ _
   | exact ih2 _ _ _ _ _ _ _ _
   | exact ih3 _ _ _ _ _ _ _ _ _ _ _ _
   | exact ih4 _ _ _ _ _ _ _ _ _ _ _ _
   | exact spec_l03Power.mono _ _
   | exact spec_l04At.mono _ _ _
   | exact spec_l04NextWord.mono _ _ _ _ _ _
   | exact spec_l04Turns.mono _ _ _ _ _ _
   | exact LeO.none _
   | refine LeO.ite ?_ ?_
   | refine LeO.bind ?_ (fun _ => ?_)
set_option maxHeartbeats 8000000 in
set_option maxRecDepth 100000 in
theorem spec_MakeFixed.calls (k : Nat) (a0 : Int) (a1 : Int) (a2 : Int) (r1 : Int) (r2 : Int) (r3 : List (S24)) (r4 : Int) (w : World) (h : spec_MakeFixed.f k a0 a1 a2 = some (r1, r2, r3, r4)) :
  Calls Try.prog 24 #[.int .i64 a0, .int .i64 a1, .int .i64 a2] w fun e w' => ∃ v2_ : Value, e = .returned (.tuple #[.agg #[.int .i8 r1, .int .i8 r2, v2_], .int .i64 r4]) ∧ Kd.R k24 24 w' w.heap.size (fun _ => True) v2_ r3 ∧ Below w.heap.size w w' := by
 have hu40 := Try.underlying40
 have hu24 := Try.underlying24
 have HB := Aside0.mk (Below.refl w.heap.size w)
 have H : ((spec_l04Letters.f a0).bind fun t152 => (if t152 = true then ((spec_l04Kind.f a1).bind fun t153 => (if t153 = true then ((spec_l00In.f a2 1 80).bind fun t154 => (spec_MakeFixed.j0 k a0 a1 a2 (!t154))) else (spec_MakeFixed.j0 k a0 a1 a2 true))) else (spec_MakeFixed.j0 k a0 a1 a2 true))) = some (r1, r2, r3, r4) := h
 clear h
 have HC4 := Aside0.mk H
 clear H
 go_enter Try.func24, Try.ntmps24
 go_upto_region 1 with (first | ((with_reducible refine gate_dst (N := 6) rfl ?_); (try (refine gate_guard (by rfl) ?_; dsimp only)); refine box_event ?hg (N := 6) ?hd (cs := #[.int .i8 0, .int .i8 0, .slice none 0 0]) (t := 40) ?hr ?_; (case hd => rfl); (case hg => rfl); (case hr => first | (go_simp; done) | (go_simp; rfl)); intro gb151 hg w5 hbox hb; have n0_ := Aside0.mk (below_step (bl_ HB) hb); have n1_ := Aside0.mk (hbox); have n2_ := Aside0.mk ((by rw [hg]; exact (below_size (bl_ HB)) : w.heap.size ≤ gb151)); have n3_ := Aside0.mk ((by rw [hg]; exact (below_size (bl_ HB)) : w.heap.size ≤ gb151)); clear HB; have HB := n0_; have BK151 := n1_; have GW151 := n2_; have GE151 := n3_; clear n0_ n1_ n2_ n3_; clear hb hbox hg))
 (try simp only [Act.put, List.setIfInBounds_toArray, List.set_cons_zero, List.set_cons_succ])
 go_cut [24] (fun v24 wc => ∃ (kq : Nat) (x24_3 : Bool), v24 = .bool x24_3 ∧ Aside0 (spec_MakeFixed.j0 kq a0 a1 a2 x24_3 = some (r1, r2, r3, r4)) ∧ Aside0 (kq ≤ k) ∧ Aside0 (wc.heap[gb151]? = some (.cells #[.int .i8 0, .int .i8 0, (.slice none 0 0)] 40 (0, 0))) ∧ Aside0 (Below w.heap.size w wc))
 case first =>
  have H := HC4.out
  clear HC4
  replace H := Option.bind_eq_some_iff.mp H
  obtain ⟨t152, A60, H⟩ := H
  replace H : (if t152 = true then ((spec_l04Kind.f a1).bind fun t153 => (if t153 = true then ((spec_l00In.f a2 1 80).bind fun t154 => (spec_MakeFixed.j0 k a0 a1 a2 (!t154))) else (spec_MakeFixed.j0 k a0 a1 a2 true))) else (spec_MakeFixed.j0 k a0 a1 a2 true)) = some (r1, r2, r3, r4) := H
  have A6 := Aside0.mk A60
  clear A60
  by_cases c7 : t152 = true
  ·subst c7
   have H1 : ((spec_l04Kind.f a1).bind fun t153 => (if t153 = true then ((spec_l00In.f a2 1 80).bind fun t154 => (spec_MakeFixed.j0 k a0 a1 a2 (!t154))) else (spec_MakeFixed.j0 k a0 a1 a2 true))) = some (r1, r2, r3, r4) := by rw [if_pos rfl] at H; exact H
   clear H
   have H := H1
   clear H1
   replace H := Option.bind_eq_some_iff.mp H
   obtain ⟨t153, A80, H⟩ := H
   replace H : (if t153 = true then ((spec_l00In.f a2 1 80).bind fun t154 => (spec_MakeFixed.j0 k a0 a1 a2 (!t154))) else (spec_MakeFixed.j0 k a0 a1 a2 true)) = some (r1, r2, r3, r4) := H
   have A8 := Aside0.mk A80
   clear A80
   by_cases c9 : t153 = true
   ·subst c9
    have H1 : ((spec_l00In.f a2 1 80).bind fun t154 => (spec_MakeFixed.j0 k a0 a1 a2 (!t154))) = some (r1, r2, r3, r4) := by rw [if_pos rfl] at H; exact H
    clear H
    have H := H1
    clear H1
    replace H := Option.bind_eq_some_iff.mp H
    obtain ⟨t154, A100, H⟩ := H
    replace H : (spec_MakeFixed.j0 k a0 a1 a2 (!t154)) = some (r1, r2, r3, r4) := H
    have A10 := Aside0.mk A100
    clear A100
    have H' := Aside0.mk H
    clear H
    go_wp2_with (first | ((with_reducible refine gate_callee (f := 32) rfl ?_); refine goesL_ (some 13) rfl rfl Try.func32 (by kernel_rfl) rfl #[.int .i64 a0] rfl (by (try simp only [List.map_toArray, List.map_cons, List.map_nil]); first | done | rfl | (simp only [List.length_drop, List.length_take]; rfl)) ?_; (with_reducible refine (spec_l04Letters.calls a0 true _ A6.out).mono ?_); rintro e w' ⟨rfl, ⟨nd, rfl⟩⟩; refine ⟨_, rfl, ?_⟩) | (go_at_call 33; (with_reducible refine (spec_l04Kind.calls a1 true _ A8.out).mono ?_); rintro e w' ⟨rfl, ⟨nd, rfl⟩⟩) | (go_at_call 37; (with_reducible refine (spec_l00In.calls a2 1 80 t154 _ A10.out).mono ?_); rintro e w' ⟨rfl, ⟨nd, rfl⟩⟩))
    go_meet
    case rel => exact ⟨_, (!t154), (by first | rfl | (simp; done) | (simp [*]; done)), H', ⟨by first | omega | exact Nat.le_refl _⟩, ⟨pl_ BK151⟩, ⟨by repeat (first | (with_reducible first | exact HB.out | apply below_alloc | apply pw_below_drewN | apply below_drew1 | refine below_set ?_ GE151.out) | exact HB.out)⟩⟩
   ·replace c9 := Bool.eq_false_iff.mpr c9
    subst c9
    have H1 : (spec_MakeFixed.j0 k a0 a1 a2 true) = some (r1, r2, r3, r4) := by rw [if_neg (show ¬ (false = true) by decide)] at H; exact H
    clear H
    have H := H1
    clear H1
    have H' := Aside0.mk H
    clear H
    go_wp2_with (first | ((with_reducible refine gate_callee (f := 32) rfl ?_); refine goesL_ (some 13) rfl rfl Try.func32 (by kernel_rfl) rfl #[.int .i64 a0] rfl (by (try simp only [List.map_toArray, List.map_cons, List.map_nil]); first | done | rfl | (simp only [List.length_drop, List.length_take]; rfl)) ?_; (with_reducible refine (spec_l04Letters.calls a0 true _ A6.out).mono ?_); rintro e w' ⟨rfl, ⟨nd, rfl⟩⟩; refine ⟨_, rfl, ?_⟩) | (go_at_call 33; (with_reducible refine (spec_l04Kind.calls a1 false _ A8.out).mono ?_); rintro e w' ⟨rfl, ⟨nd, rfl⟩⟩))
    go_meet
    case rel => exact ⟨_, (true), (by first | rfl | (simp; done) | (simp [*]; done)), H', ⟨by first | omega | exact Nat.le_refl _⟩, ⟨pl_ BK151⟩, ⟨by repeat (first | (with_reducible first | exact HB.out | apply below_alloc | apply pw_below_drewN | apply below_drew1 | refine below_set ?_ GE151.out) | exact HB.out)⟩⟩
  ·replace c7 := Bool.eq_false_iff.mpr c7
   subst c7
   have H1 : (spec_MakeFixed.j0 k a0 a1 a2 true) = some (r1, r2, r3, r4) := by rw [if_neg (show ¬ (false = true) by decide)] at H; exact H
   clear H
   have H := H1
   clear H1
   have H' := Aside0.mk H
   clear H
   go_wp2_with (first | ((with_reducible refine gate_callee (f := 32) rfl ?_); refine goesL_ (some 13) rfl rfl Try.func32 (by kernel_rfl) rfl #[.int .i64 a0] rfl (by (try simp only [List.map_toArray, List.map_cons, List.map_nil]); first | done | rfl | (simp only [List.length_drop, List.length_take]; rfl)) ?_; (with_reducible refine (spec_l04Letters.calls a0 false _ A6.out).mono ?_); rintro e w' ⟨rfl, ⟨nd, rfl⟩⟩; refine ⟨_, rfl, ?_⟩))
   go_meet
   case rel => exact ⟨_, (true), (by first | rfl | (simp; done) | (simp [*]; done)), H', ⟨by first | omega | exact Nat.le_refl _⟩, ⟨pl_ BK151⟩, ⟨by repeat (first | (with_reducible first | exact HB.out | apply below_alloc | apply pw_below_drewN | apply below_drew1 | refine below_set ?_ GE151.out) | exact HB.out)⟩⟩
 case rest =>
  clear HC4
  try clear c2
  try clear p2
  try clear c3
  try clear c7
  try clear c9
  obtain ⟨kq, x24_3, rfl, HA, HJ3, BK151, HB⟩ := hcut
  cases kq with
  | zero => exact absurd HA.out (by simp [spec_MakeFixed.j0])
  | succ kj3 =>
   have H := HA.out
   clear HA
   simp only [spec_MakeFixed.j0] at H
   by_cases c11 : x24_3 = true
   ·subst c11
    have H1 : (some (0, 0, ([] : List (S24)), 2)) = some (r1, r2, r3, r4) := by rw [if_pos rfl] at H; exact H
    clear H
    have H := H1
    clear H1
    simp only [Option.some.injEq, Prod.mk.injEq] at H
    obtain ⟨rfl, rfl, rfl, rfl⟩ := H
    have hcz12_0 : wc.cell? ⟨gb151, 0, none⟩ = some (.int .i8 0) := (blk_cell BK151.out 0).trans rfl
    have hcz12_1 : wc.cell? ⟨gb151, 1, none⟩ = some (.int .i8 0) := (blk_cell BK151.out 1).trans rfl
    have hcz12_2 : wc.cell? ⟨gb151, 2, none⟩ = some (.slice none 0 0) := (blk_cell BK151.out 2).trans rfl
    have hfz12_0 := blk_frozen BK151.out 0
    have hfz12_1 := blk_frozen BK151.out 1
    have hfz12_2 := blk_frozen BK151.out 2
    go_wp2
    refine bodyPost_ret (results_ct rfl _ _ gb151 40 #[.int .i8 0, .int .i8 0, .slice none 0 0] (0, 0) _ rfl (by (with_reducible repeat (first | refine blk_drewN ?_ _ | refine blk_drew ?_ | refine blk_alloc ?_ _)); refine blk_put (cs := #[.int .i8 0, .int .i8 0, .slice none 0 0]) ?_ 2 _ rfl; (with_reducible repeat (first | refine blk_drewN ?_ _ | refine blk_drew ?_ | refine blk_alloc ?_ _)); refine blk_put (cs := #[.int .i8 0, .int .i8 0, .slice none 0 0]) ?_ 1 _ rfl; (with_reducible repeat (first | refine blk_drewN ?_ _ | refine blk_drew ?_ | refine blk_alloc ?_ _)); refine blk_put (cs := #[.int .i8 0, .int .i8 0, .slice none 0 0]) ?_ 0 _ rfl; (with_reducible repeat (first | refine blk_drewN ?_ _ | refine blk_drew ?_ | refine blk_alloc ?_ _)); exact BK151.out) Try.underlying40 rfl (by kernel_rfl)) rfl ?_
    exact ⟨_, by first | rfl | (simp [errW_none, errW_some] <;> rfl) | (simp [*, errW_none, errW_some] <;> rfl), by first | exact Kd.R_nil _ _ _ _ _ | exact Kd.N_nil _ _ _ _ _ | exact Kd.V_nil _ _ _ _ _ | exact Kd.Q_nil _ _ _ _ _ | exact Kd.S_nil _ _ _ _ _, by repeat (first | (with_reducible first | exact HB.out | apply below_alloc | apply pw_below_drewN | apply below_drew1 | refine below_set ?_ GE151.out) | exact HB.out)⟩
   ·replace c11 := Bool.eq_false_iff.mpr c11
    subst c11
    have H1 : (if (Int.tmod a2 3) = 0 then (spec_MakeFixed.l0 kj3 a0 a1 a2 0 (IntKind.i8.wrap (a0)) (IntKind.i8.wrap (a1)) ([] : List (S24))) else (some (0, 0, ([] : List (S24)), 4))) = some (r1, r2, r3, r4) := by rw [if_neg (show ¬ (false = true) by decide)] at H; exact H
    clear H
    have H := H1
    clear H1
    by_cases c13 : (Int.tmod a2 3) = 0
    ·rw [if_pos c13] at H
     have c13b0 : ((Int.tmod a2 3) == 0) = true := beq_iff_eq.mpr c13
     have c13b1 : ((Int.tmod a2 3) != 0) = false := bne_eq_false_iff_eq.mpr c13
     clear c13
     have H' := Aside0.mk H
     clear H
     go_wp2_with (first | ((with_reducible refine gate_dst (N := 8) rfl ?_); (try (refine gate_guard (by rfl) ?_; dsimp only)); refine box_event ?hg (N := 8) ?hd (cs := #[.int .i8 0, .int .i8 0, .slice none 0 0]) (t := 40) ?hr ?_; (case hd => rfl); (case hg => rfl); (case hr => first | (go_simp; done) | (go_simp; rfl)); intro gb155 hg w14 hbox hb; have n0_ := Aside0.mk (blk_below (g := gb151) (o := .cells #[.int .i8 0, .int .i8 0, .slice none 0 0] 40 (0, 0)) (pl_ BK151) hb); have n1_ := Aside0.mk (below_step (by repeat (first | (with_reducible first | exact HB.out | apply below_alloc | apply pw_below_drewN | apply below_drew1 | refine below_set ?_ GE151.out) | exact HB.out)) hb); have n2_ := Aside0.mk (hbox); have n3_ := Aside0.mk ((by rw [hg]; exact (below_size (by repeat (first | (with_reducible first | exact HB.out | apply below_alloc | apply pw_below_drewN | apply below_drew1 | refine below_set ?_ GE151.out) | exact HB.out))) : w.heap.size ≤ gb155)); have n4_ := Aside0.mk ((by rw [hg]; exact (below_size (by repeat (first | (with_reducible first | exact HB.out | apply below_alloc | apply pw_below_drewN | apply below_drew1 | refine below_set ?_ GE151.out) | exact HB.out))) : w.heap.size ≤ gb155)); have n5_ := Aside0.mk ((by rw [hg]; exact Nat.ne_of_lt (blk_lt (g := gb151) (o := .cells #[.int .i8 0, .int .i8 0, .slice none 0 0] 40 (0, 0)) (pl_ BK151)) : gb151 ≠ gb155)); have n6_ := Aside0.mk ((by rw [hg]; exact Nat.ne_of_gt (blk_lt (g := gb151) (o := .cells #[.int .i8 0, .int .i8 0, .slice none 0 0] 40 (0, 0)) (pl_ BK151)) : gb155 ≠ gb151)); clear BK151; clear HB; have BK151 := n0_; have HB := n1_; have BK155 := n2_; have GW155 := n3_; have GE155 := n4_; have NB151_155 := n5_; have NB155_151 := n6_; clear n0_ n1_ n2_ n3_ n4_ n5_ n6_; clear hb hbox hg; have hnb15 := NB155_151.out; have hnc15 := NB151_155.out; have hcz16_0 : w14.cell? ⟨gb155, 0, none⟩ = some (.int .i8 0) := (blk_cell BK155.out 0).trans rfl; have hcz16_1 : w14.cell? ⟨gb155, 1, none⟩ = some (.int .i8 0) := (blk_cell BK155.out 1).trans rfl; have hcz16_2 : w14.cell? ⟨gb155, 2, none⟩ = some (.slice none 0 0) := (blk_cell BK155.out 2).trans rfl; have hfz16_0 := blk_frozen BK155.out 0; have hfz16_1 := blk_frozen BK155.out 1; have hfz16_2 := blk_frozen BK155.out 2))
     go_loopg [9] kj3 (fun kq v9 w' => ∃ (x9_2 : Int) (x156002_2 : List (S24)) (u156002 : Value), v9 = .int .i64 x9_2 ∧ Aside0 (spec_MakeFixed.l0 kq a0 a1 a2 x9_2 (IntKind.i8.wrap (a0)) (IntKind.i8.wrap (a1)) x156002_2 = some (r1, r2, r3, r4)) ∧ Aside0 (kq ≤ kj3) ∧ Aside0 (Kd.R k24 24 w' w.heap.size (fun _ => True) u156002 x156002_2) ∧ Aside0 (w'.heap[gb151]? = some (.cells #[.int .i8 0, .int .i8 0, (.slice none 0 0)] 40 (0, 0))) ∧ Aside0 (w'.heap[gb155]? = some (.cells #[.int .i8 (IntKind.i8.wrap (a0)), .int .i8 (IntKind.i8.wrap (a1)), u156002] 40 (0, 0))) ∧ Aside0 (Below w.heap.size w w'))
     case atStart => exact ⟨(0), (([] : List (S24))), (.slice none 0 0), (by first | rfl | (simp; done) | (simp [*]; done)), H', ⟨Nat.le_refl _⟩, ⟨by first | exact Kd.R_nil _ _ _ _ _ | exact Kd.N_nil _ _ _ _ _ | exact Kd.V_nil _ _ _ _ _ | exact Kd.Q_nil _ _ _ _ _ | exact Kd.S_nil _ _ _ _ _⟩, ⟨by (with_reducible repeat (first | refine blk_drewN ?_ _ | refine blk_drew ?_ | refine blk_alloc ?_ _)); refine blk_far ?_ NB151_155.out _; (with_reducible repeat (first | refine blk_drewN ?_ _ | refine blk_drew ?_ | refine blk_alloc ?_ _)); refine blk_far ?_ NB151_155.out _; (with_reducible repeat (first | refine blk_drewN ?_ _ | refine blk_drew ?_ | refine blk_alloc ?_ _)); refine blk_far ?_ NB151_155.out _; (with_reducible repeat (first | refine blk_drewN ?_ _ | refine blk_drew ?_ | refine blk_alloc ?_ _)); exact BK151.out⟩, ⟨by (with_reducible repeat (first | refine blk_drewN ?_ _ | refine blk_drew ?_ | refine blk_alloc ?_ _)); refine blk_put (cs := #[.int .i8 (IntKind.i8.wrap (a0)), .int .i8 (IntKind.i8.wrap (a1)), .slice none 0 0]) ?_ 2 _ rfl; (with_reducible repeat (first | refine blk_drewN ?_ _ | refine blk_drew ?_ | refine blk_alloc ?_ _)); refine blk_put (cs := #[.int .i8 (IntKind.i8.wrap (a0)), .int .i8 0, .slice none 0 0]) ?_ 1 _ rfl; (with_reducible repeat (first | refine blk_drewN ?_ _ | refine blk_drew ?_ | refine blk_alloc ?_ _)); refine blk_put (cs := #[.int .i8 0, .int .i8 0, .slice none 0 0]) ?_ 0 _ rfl; (with_reducible repeat (first | refine blk_drewN ?_ _ | refine blk_drew ?_ | refine blk_alloc ?_ _)); exact BK155.out⟩, ⟨by repeat (first | (with_reducible first | exact HB.out | apply below_alloc | apply pw_below_drewN | apply below_drew1 | refine below_set ?_ GE151.out | refine below_set ?_ GE155.out) | exact HB.out)⟩⟩
     case round =>
      clear H'
      try clear c1
      try clear c2
      try clear p2
      try clear c3
      try clear c7
      try clear c9
      try clear c11
      try clear c13
      try clear c13b0
      try clear c13b1
      try clear c15
      try clear hcz12_0
      try clear hcz12_1
      try clear hcz12_2
      try clear hcz16_0
      try clear hcz16_1
      try clear hcz16_2
      try clear hfz12_0
      try clear hfz12_1
      try clear hfz12_2
      try clear hfz16_0
      try clear hfz16_1
      try clear hfz16_2
      try clear p2
      obtain ⟨x9_2, x156002_2, u156002, rfl, HA, HK2, HO_156002, BK151, BK155, HB⟩ := hrel
      cases gk with
      | zero => exact absurd HA.out (by simp [spec_MakeFixed.l0])
      | succ k2 =>
       have H := HA.out
       clear HA
       simp only [spec_MakeFixed.l0] at H
       have HC17 := Aside0.mk H
       clear H
       go_upto_region 7 with (fail)
       go_cut [46] (fun v46 wc => ∃ (kq : Nat) (x46_16 : Bool), v46 = .bool x46_16 ∧ Aside0 (spec_MakeFixed.j2 kq a0 a1 a2 x9_2 x46_16 (IntKind.i8.wrap (a0)) (IntKind.i8.wrap (a1)) x156002_2 = some (r1, r2, r3, r4)) ∧ Aside0 (kq ≤ k2) ∧ Aside0 (Kd.R k24 24 wc w.heap.size (fun _ => True) u156002 x156002_2) ∧ Aside0 (wc.heap[gb151]? = some (.cells #[.int .i8 0, .int .i8 0, (.slice none 0 0)] 40 (0, 0))) ∧ Aside0 (wc.heap[gb155]? = some (.cells #[.int .i8 (IntKind.i8.wrap (a0)), .int .i8 (IntKind.i8.wrap (a1)), u156002] 40 (0, 0))) ∧ Aside0 (Below w.heap.size w wc))
       case first =>
        have H := HC17.out
        clear HC17
        replace H := Option.bind_eq_some_iff.mp H
        obtain ⟨t156, A180, H⟩ := H
        replace H : (if x9_2 < t156 then (spec_MakeFixed.j2 k2 a0 a1 a2 x9_2 (decide ((x156002_2.length : Int) < a2)) (IntKind.i8.wrap (a0)) (IntKind.i8.wrap (a1)) x156002_2) else (spec_MakeFixed.j2 k2 a0 a1 a2 x9_2 false (IntKind.i8.wrap (a0)) (IntKind.i8.wrap (a1)) x156002_2)) = some (r1, r2, r3, r4) := H
        have A18 := Aside0.mk A180
        clear A180
        by_cases c19 : x9_2 < t156
        ·rw [if_pos c19] at H
         have c19b0 : decide (x9_2 < t156) = true := decide_eq_true c19
         clear c19
         (first | rw [c19b0] | (simp only [i64_w, i32_w]; rw [c19b0]) | skip)
         have H' := Aside0.mk H
         clear H
         go_wp2_with (first | ((with_reducible refine gate_callee (f := 34) rfl ?_); refine goesL_ (some 38) rfl rfl Try.func34 (by kernel_rfl) rfl #[.int .i64 (wrap64 (a0 - 1))] rfl (by (try simp only [List.map_toArray, List.map_cons, List.map_nil]); first | done | rfl | (simp only [List.length_drop, List.length_take]; rfl)) ?_; (with_reducible refine (spec_l03Power.calls k2 (wrap64 (a0 - 1)) t156 _ A18.out).mono ?_); rintro e w' ⟨rfl, ⟨nd, rfl⟩⟩; refine ⟨_, rfl, ?_⟩; have hnb20 := NB155_151.out; have hnc20 := NB151_155.out; have hcz21_0 : wr.cell? ⟨gb155, 0, none⟩ = some (.int .i8 (IntKind.i8.wrap (a0))) := (blk_cell BK155.out 0).trans rfl; have hcz21_1 : wr.cell? ⟨gb155, 1, none⟩ = some (.int .i8 (IntKind.i8.wrap (a1))) := (blk_cell BK155.out 1).trans rfl; have hcz21_2 : wr.cell? ⟨gb155, 2, none⟩ = some (u156002) := (blk_cell BK155.out 2).trans rfl; have hfz21_0 := blk_frozen BK155.out 0; have hfz21_1 := blk_frozen BK155.out 1; have hfz21_2 := blk_frozen BK155.out 2; obtain ⟨Ao22, co22, eo22⟩ := Kd.R_slice HO_156002.out; subst eo22))
         go_meet
         case rel => exact ⟨_, (decide ((x156002_2.length : Int) < a2)), (by first | rfl | (simp; done) | (simp [*]; done)), H', ⟨by have := HJ3.out; have := HK2.out; first | omega | exact Nat.le_refl _⟩, ⟨pr_ HO_156002⟩, ⟨pl_ BK151⟩, ⟨pl_ BK155⟩, ⟨by repeat (first | (with_reducible first | exact HB.out | apply below_alloc | apply pw_below_drewN | apply below_drew1 | refine below_set ?_ GE151.out | refine below_set ?_ GE155.out) | exact HB.out)⟩⟩
        ·rw [if_neg c19] at H
         have c19b0 : decide (x9_2 < t156) = false := decide_eq_false c19
         clear c19
         (first | rw [c19b0] | (simp only [i64_w, i32_w]; rw [c19b0]) | skip)
         have H' := Aside0.mk H
         clear H
         go_wp2_with (first | ((with_reducible refine gate_callee (f := 34) rfl ?_); refine goesL_ (some 38) rfl rfl Try.func34 (by kernel_rfl) rfl #[.int .i64 (wrap64 (a0 - 1))] rfl (by (try simp only [List.map_toArray, List.map_cons, List.map_nil]); first | done | rfl | (simp only [List.length_drop, List.length_take]; rfl)) ?_; (with_reducible refine (spec_l03Power.calls k2 (wrap64 (a0 - 1)) t156 _ A18.out).mono ?_); rintro e w' ⟨rfl, ⟨nd, rfl⟩⟩; refine ⟨_, rfl, ?_⟩))
         go_meet
         case rel => exact ⟨_, (false), (by first | rfl | (simp; done) | (simp [*]; done)), H', ⟨by have := HJ3.out; have := HK2.out; first | omega | exact Nat.le_refl _⟩, ⟨pr_ HO_156002⟩, ⟨pl_ BK151⟩, ⟨pl_ BK155⟩, ⟨by repeat (first | (with_reducible first | exact HB.out | apply below_alloc | apply pw_below_drewN | apply below_drew1 | refine below_set ?_ GE151.out | refine below_set ?_ GE155.out) | exact HB.out)⟩⟩
       case rest =>
        clear HC17
        try clear c1
        try clear c2
        try clear p2
        try clear c3
        try clear p6
        try clear c7
        try clear c9
        try clear c11
        try clear c13
        try clear c13b0
        try clear c13b1
        try clear c15
        try clear c19
        try clear c19b0
        try clear c20
        try clear hcz12_0
        try clear hcz12_1
        try clear hcz12_2
        try clear hcz16_0
        try clear hcz16_1
        try clear hcz16_2
        try clear hcz21_0
        try clear hcz21_1
        try clear hcz21_2
        try clear hfz12_0
        try clear hfz12_1
        try clear hfz12_2
        try clear hfz16_0
        try clear hfz16_1
        try clear hfz16_2
        try clear hfz21_0
        try clear hfz21_1
        try clear hfz21_2
        try clear p2
        obtain ⟨kq, x46_16, rfl, HA, HJ16, HO_156002, BK151, BK155, HB⟩ := hcut
        cases kq with
        | zero => exact absurd HA.out (by simp [spec_MakeFixed.j2])
        | succ kj16 =>
         have H := HA.out
         clear HA
         simp only [spec_MakeFixed.j2] at H
         by_cases c23 : x46_16 = true
         ·subst c23
          have H1 : ((spec_l04At.f kj16 a0 x9_2).bind fun bt157 => (if a1 = 2 then ((spec_l04Turns.f kj16 a0 bt157.1 bt157.2.1 bt157.2.2.1 bt157.2.2.2).bind fun t162 => (if t162 = true then (spec_MakeFixed.j3 kj16 a0 a1 a2 x9_2 (x9_2 == 0) (IntKind.i8.wrap (a0)) (IntKind.i8.wrap (a1)) x156002_2 bt157.1 bt157.2.1 bt157.2.2.1 bt157.2.2.2) else (spec_MakeFixed.j3 kj16 a0 a1 a2 x9_2 true (IntKind.i8.wrap (a0)) (IntKind.i8.wrap (a1)) x156002_2 bt157.1 bt157.2.1 bt157.2.2.1 bt157.2.2.2))) else (spec_MakeFixed.j3 kj16 a0 a1 a2 x9_2 (x9_2 == 0) (IntKind.i8.wrap (a0)) (IntKind.i8.wrap (a1)) x156002_2 bt157.1 bt157.2.1 bt157.2.2.1 bt157.2.2.2))) = some (r1, r2, r3, r4) := by rw [if_pos rfl] at H; exact H
          clear H
          have H := H1
          clear H1
          replace H := Option.bind_eq_some_iff.mp H
          obtain ⟨⟨t157, t158, t159, t160⟩, A240, H⟩ := H
          replace H : (if a1 = 2 then ((spec_l04Turns.f kj16 a0 t157 t158 t159 t160).bind fun t162 => (if t162 = true then (spec_MakeFixed.j3 kj16 a0 a1 a2 x9_2 (x9_2 == 0) (IntKind.i8.wrap (a0)) (IntKind.i8.wrap (a1)) x156002_2 t157 t158 t159 t160) else (spec_MakeFixed.j3 kj16 a0 a1 a2 x9_2 true (IntKind.i8.wrap (a0)) (IntKind.i8.wrap (a1)) x156002_2 t157 t158 t159 t160))) else (spec_MakeFixed.j3 kj16 a0 a1 a2 x9_2 (x9_2 == 0) (IntKind.i8.wrap (a0)) (IntKind.i8.wrap (a1)) x156002_2 t157 t158 t159 t160)) = some (r1, r2, r3, r4) := H
          have A24 := Aside0.mk A240
          clear A240
          have HC25 := Aside0.mk H
          clear H
          go_upto_region 10 with (first | ((with_reducible refine gate_callee (f := 38) rfl ?_); refine goesL_ (some 51) rfl rfl Try.func38 (by kernel_rfl) rfl #[.int .i64 a0, .int .i64 x9_2] rfl (by (try simp only [List.map_toArray, List.map_cons, List.map_nil]); first | done | rfl | (simp only [List.length_drop, List.length_take]; rfl)) ?_; (with_reducible refine (spec_l04At.calls kj16 a0 x9_2 t157 t158 t159 t160 _ A24.out).mono ?_); rintro e w26 ⟨rfl, hb⟩; refine ⟨_, rfl, ?_⟩; have n0_ := Aside0.mk (Kd.R_below (pr_ HO_156002) hb); have n1_ := Aside0.mk (blk_below (g := gb151) (o := .cells #[.int .i8 0, .int .i8 0, .slice none 0 0] 40 (0, 0)) (pl_ BK151) hb); have n2_ := Aside0.mk (blk_below (g := gb155) (o := .cells #[.int .i8 (IntKind.i8.wrap (a0)), .int .i8 (IntKind.i8.wrap (a1)), u156002] 40 (0, 0)) (pl_ BK155) hb); have n3_ := Aside0.mk (below_step (by repeat (first | (with_reducible first | exact HB.out | apply below_alloc | apply pw_below_drewN | apply below_drew1 | refine below_set ?_ GE151.out | refine below_set ?_ GE155.out) | exact HB.out)) hb); clear HO_156002; clear BK151; clear BK155; clear HB; have HO_156002 := n0_; have BK151 := n1_; have BK155 := n2_; have HB := n3_; clear n0_ n1_ n2_ n3_; (try clear hb); (try clear hb2); (try clear hk); (try clear hi)) | ((with_reducible refine gate_dst (N := 10) rfl ?_); (try (refine gate_guard (by rfl) ?_; dsimp only)); refine box_event ?hg (N := 10) ?hd (cs := #[.int .i8 0, .int .i8 0, .int .i8 0, .int .i8 0]) (t := 24) ?hr ?_; (case hd => rfl); (case hg => rfl); (case hr => first | (go_simp; done) | (go_simp; rfl)); intro gb161 hg w27 hbox hb; have n0_ := Aside0.mk (Kd.R_below (Kd.R_elderB (pr_ HO_156002) gb161 (Nat.le_of_eq hg.symm)) hb); have n1_ := Aside0.mk (blk_below (g := gb151) (o := .cells #[.int .i8 0, .int .i8 0, .slice none 0 0] 40 (0, 0)) (pl_ BK151) hb); have n2_ := Aside0.mk (blk_below (g := gb155) (o := .cells #[.int .i8 (IntKind.i8.wrap (a0)), .int .i8 (IntKind.i8.wrap (a1)), u156002] 40 (0, 0)) (pl_ BK155) hb); have n3_ := Aside0.mk (below_step (by repeat (first | (with_reducible first | exact HB.out | apply below_alloc | apply pw_below_drewN | apply below_drew1 | refine below_set ?_ GE151.out | refine below_set ?_ GE155.out) | exact HB.out)) hb); have n4_ := Aside0.mk (hbox); have n5_ := Aside0.mk ((by rw [hg]; exact (below_size (by repeat (first | (with_reducible first | exact HB.out | apply below_alloc | apply pw_below_drewN | apply below_drew1 | refine below_set ?_ GE151.out | refine below_set ?_ GE155.out) | exact HB.out))) : w.heap.size ≤ gb161)); have n6_ := Aside0.mk ((by rw [hg]; exact (below_size (by repeat (first | (with_reducible first | exact HB.out | apply below_alloc | apply pw_below_drewN | apply below_drew1 | refine below_set ?_ GE151.out | refine below_set ?_ GE155.out) | exact HB.out))) : w.heap.size ≤ gb161)); have n7_ := Aside0.mk ((by rw [hg]; exact Nat.ne_of_lt (blk_lt (g := gb151) (o := .cells #[.int .i8 0, .int .i8 0, .slice none 0 0] 40 (0, 0)) (pl_ BK151)) : gb151 ≠ gb161)); have n8_ := Aside0.mk ((by rw [hg]; exact Nat.ne_of_gt (blk_lt (g := gb151) (o := .cells #[.int .i8 0, .int .i8 0, .slice none 0 0] 40 (0, 0)) (pl_ BK151)) : gb161 ≠ gb151)); have n9_ := Aside0.mk ((by rw [hg]; exact Nat.ne_of_lt (blk_lt (g := gb155) (o := .cells #[.int .i8 (IntKind.i8.wrap (a0)), .int .i8 (IntKind.i8.wrap (a1)), u156002] 40 (0, 0)) (pl_ BK155)) : gb155 ≠ gb161)); have n10_ := Aside0.mk ((by rw [hg]; exact Nat.ne_of_gt (blk_lt (g := gb155) (o := .cells #[.int .i8 (IntKind.i8.wrap (a0)), .int .i8 (IntKind.i8.wrap (a1)), u156002] 40 (0, 0)) (pl_ BK155)) : gb161 ≠ gb155)); clear HO_156002; clear BK151; clear BK155; clear HB; have HO_156002 := n0_; have BK151 := n1_; have BK155 := n2_; have HB := n3_; have BK161 := n4_; have GW161 := n5_; have GE161 := n6_; have NB151_161 := n7_; have NB161_151 := n8_; have NB155_161 := n9_; have NB161_155 := n10_; clear n0_ n1_ n2_ n3_ n4_ n5_ n6_ n7_ n8_ n9_ n10_; clear hb hbox hg; have hnb28 := NB161_151.out; have hnc28 := NB151_161.out; have hnb29 := NB161_155.out; have hnc29 := NB155_161.out; have hcz30_0 : w27.cell? ⟨gb161, 0, none⟩ = some (.int .i8 0) := (blk_cell BK161.out 0).trans rfl; have hcz30_1 : w27.cell? ⟨gb161, 1, none⟩ = some (.int .i8 0) := (blk_cell BK161.out 1).trans rfl; have hcz30_2 : w27.cell? ⟨gb161, 2, none⟩ = some (.int .i8 0) := (blk_cell BK161.out 2).trans rfl; have hcz30_3 : w27.cell? ⟨gb161, 3, none⟩ = some (.int .i8 0) := (blk_cell BK161.out 3).trans rfl; have hfz30_0 := blk_frozen BK161.out 0; have hfz30_1 := blk_frozen BK161.out 1; have hfz30_2 := blk_frozen BK161.out 2; have hfz30_3 := blk_frozen BK161.out 3))
          (try simp only [Act.put, List.setIfInBounds_toArray, List.set_cons_zero, List.set_cons_succ])
          go_cut [63] (fun v63 wc => ∃ (kq : Nat) (x63_24 : Bool), v63 = .bool x63_24 ∧ Aside0 (spec_MakeFixed.j3 kq a0 a1 a2 x9_2 x63_24 (IntKind.i8.wrap (a0)) (IntKind.i8.wrap (a1)) x156002_2 t157 t158 t159 t160 = some (r1, r2, r3, r4)) ∧ Aside0 (kq ≤ kj16) ∧ Aside0 (Kd.R k24 24 wc w.heap.size (fun k_ => k_ ≠ gb161) u156002 x156002_2) ∧ Aside0 (wc.heap[gb151]? = some (.cells #[.int .i8 0, .int .i8 0, (.slice none 0 0)] 40 (0, 0))) ∧ Aside0 (wc.heap[gb155]? = some (.cells #[.int .i8 (IntKind.i8.wrap (a0)), .int .i8 (IntKind.i8.wrap (a1)), u156002] 40 (0, 0))) ∧ Aside0 (wc.heap[gb161]? = some (.cells #[.int .i8 t157, .int .i8 t158, .int .i8 t159, .int .i8 t160] 24 (0, 0))) ∧ Aside0 (Below w.heap.size w wc))
          case first =>
           have H := HC25.out
           clear HC25
           by_cases c31 : a1 = 2
           ·rw [if_pos c31] at H
            have c31b0 : (a1 == 2) = true := beq_iff_eq.mpr c31
            have c31b1 : (a1 != 2) = false := bne_eq_false_iff_eq.mpr c31
            clear c31
            (first | rw [c31b0] | (simp only [i64_w, i32_w]; rw [c31b0]) | skip)
            replace H := Option.bind_eq_some_iff.mp H
            obtain ⟨t162, A320, H⟩ := H
            replace H : (if t162 = true then (spec_MakeFixed.j3 kj16 a0 a1 a2 x9_2 (x9_2 == 0) (IntKind.i8.wrap (a0)) (IntKind.i8.wrap (a1)) x156002_2 t157 t158 t159 t160) else (spec_MakeFixed.j3 kj16 a0 a1 a2 x9_2 true (IntKind.i8.wrap (a0)) (IntKind.i8.wrap (a1)) x156002_2 t157 t158 t159 t160)) = some (r1, r2, r3, r4) := H
            have A32 := Aside0.mk A320
            clear A320
            by_cases c33 : t162 = true
            ·subst c33
             have H1 : (spec_MakeFixed.j3 kj16 a0 a1 a2 x9_2 (x9_2 == 0) (IntKind.i8.wrap (a0)) (IntKind.i8.wrap (a1)) x156002_2 t157 t158 t159 t160) = some (r1, r2, r3, r4) := by rw [if_pos rfl] at H; exact H
             clear H
             have H := H1
             clear H1
             have H' := Aside0.mk H
             clear H
             have hnb34 := NB161_151.out
             have hnc34 := NB151_161.out
             have hnb35 := NB161_155.out
             have hnc35 := NB155_161.out
             have hcz36_0 : w27.cell? ⟨gb161, 0, none⟩ = some (.int .i8 0) := (blk_cell BK161.out 0).trans rfl
             have hcz36_1 : w27.cell? ⟨gb161, 1, none⟩ = some (.int .i8 0) := (blk_cell BK161.out 1).trans rfl
             have hcz36_2 : w27.cell? ⟨gb161, 2, none⟩ = some (.int .i8 0) := (blk_cell BK161.out 2).trans rfl
             have hcz36_3 : w27.cell? ⟨gb161, 3, none⟩ = some (.int .i8 0) := (blk_cell BK161.out 3).trans rfl
             have hfz36_0 := blk_frozen BK161.out 0
             have hfz36_1 := blk_frozen BK161.out 1
             have hfz36_2 := blk_frozen BK161.out 2
             have hfz36_3 := blk_frozen BK161.out 3
             go_wp2_with (first | (go_at_call 47; (with_reducible refine (spec_l04Turns.calls kj16 a0 t157 t158 t159 t160 true _ A32.out).mono ?_); rintro e w37 ⟨rfl, hb⟩; have n0_ := Aside0.mk (Kd.R_below (by (with_reducible repeat (first | apply Kd.R_alloc | apply Kd.R_drewN | apply Kd.R_drew)); exact (Kd.R_mono (Kd.R_far (p := ⟨gb161, 3, none⟩) (Kd.R_far (p := ⟨gb161, 2, none⟩) (Kd.R_far (p := ⟨gb161, 1, none⟩) (Kd.R_far (p := ⟨gb161, 0, none⟩) (Kd.R_mono HO_156002.out (fun k_ hk => (⟨hk, hk.2⟩ : _ ∧ k_ ≠ gb161))) (fun _ hk => hk.2) (.int .i8 t157)) (fun _ hk => hk.2) (.int .i8 t158)) (fun _ hk => hk.2) (.int .i8 t159)) (fun _ hk => hk.2) (.int .i8 t160)) (fun _ h_ => h_.1))) hb); have n1_ := Aside0.mk (blk_below (g := gb151) (o := .cells #[.int .i8 0, .int .i8 0, .slice none 0 0] 40 (0, 0)) (by (with_reducible repeat (first | refine blk_drewN ?_ _ | refine blk_drew ?_ | refine blk_alloc ?_ _)); refine blk_far ?_ NB151_161.out _; (with_reducible repeat (first | refine blk_drewN ?_ _ | refine blk_drew ?_ | refine blk_alloc ?_ _)); refine blk_far ?_ NB151_161.out _; (with_reducible repeat (first | refine blk_drewN ?_ _ | refine blk_drew ?_ | refine blk_alloc ?_ _)); refine blk_far ?_ NB151_161.out _; (with_reducible repeat (first | refine blk_drewN ?_ _ | refine blk_drew ?_ | refine blk_alloc ?_ _)); refine blk_far ?_ NB151_161.out _; (with_reducible repeat (first | refine blk_drewN ?_ _ | refine blk_drew ?_ | refine blk_alloc ?_ _)); exact BK151.out) hb); have n2_ := Aside0.mk (blk_below (g := gb155) (o := .cells #[.int .i8 (IntKind.i8.wrap (a0)), .int .i8 (IntKind.i8.wrap (a1)), u156002] 40 (0, 0)) (by (with_reducible repeat (first | refine blk_drewN ?_ _ | refine blk_drew ?_ | refine blk_alloc ?_ _)); refine blk_far ?_ NB155_161.out _; (with_reducible repeat (first | refine blk_drewN ?_ _ | refine blk_drew ?_ | refine blk_alloc ?_ _)); refine blk_far ?_ NB155_161.out _; (with_reducible repeat (first | refine blk_drewN ?_ _ | refine blk_drew ?_ | refine blk_alloc ?_ _)); refine blk_far ?_ NB155_161.out _; (with_reducible repeat (first | refine blk_drewN ?_ _ | refine blk_drew ?_ | refine blk_alloc ?_ _)); refine blk_far ?_ NB155_161.out _; (with_reducible repeat (first | refine blk_drewN ?_ _ | refine blk_drew ?_ | refine blk_alloc ?_ _)); exact BK155.out) hb); have n3_ := Aside0.mk (blk_below (g := gb161) (o := .cells #[.int .i8 t157, .int .i8 t158, .int .i8 t159, .int .i8 t160] 24 (0, 0)) (by (with_reducible repeat (first | refine blk_drewN ?_ _ | refine blk_drew ?_ | refine blk_alloc ?_ _)); refine blk_put (cs := #[.int .i8 t157, .int .i8 t158, .int .i8 t159, .int .i8 0]) ?_ 3 _ rfl; (with_reducible repeat (first | refine blk_drewN ?_ _ | refine blk_drew ?_ | refine blk_alloc ?_ _)); refine blk_put (cs := #[.int .i8 t157, .int .i8 t158, .int .i8 0, .int .i8 0]) ?_ 2 _ rfl; (with_reducible repeat (first | refine blk_drewN ?_ _ | refine blk_drew ?_ | refine blk_alloc ?_ _)); refine blk_put (cs := #[.int .i8 t157, .int .i8 0, .int .i8 0, .int .i8 0]) ?_ 1 _ rfl; (with_reducible repeat (first | refine blk_drewN ?_ _ | refine blk_drew ?_ | refine blk_alloc ?_ _)); refine blk_put (cs := #[.int .i8 0, .int .i8 0, .int .i8 0, .int .i8 0]) ?_ 0 _ rfl; (with_reducible repeat (first | refine blk_drewN ?_ _ | refine blk_drew ?_ | refine blk_alloc ?_ _)); exact BK161.out) hb); have n4_ := Aside0.mk (below_step (by repeat (first | (with_reducible first | exact HB.out | apply below_alloc | apply pw_below_drewN | apply below_drew1 | refine below_set ?_ GE151.out | refine below_set ?_ GE155.out | refine below_set ?_ GE161.out) | exact HB.out)) hb); clear HO_156002; clear BK151; clear BK155; clear BK161; clear HB; have HO_156002 := n0_; have BK151 := n1_; have BK155 := n2_; have BK161 := n3_; have HB := n4_; clear n0_ n1_ n2_ n3_ n4_; (try clear hb); (try clear hb2); (try clear hk); (try clear hi)))
             go_meet
             case rel => exact ⟨_, ((x9_2 == 0)), (by first | rfl | (simp; done) | (simp [*]; done)), H', ⟨by have := HJ3.out; have := HK2.out; have := HJ16.out; first | omega | exact Nat.le_refl _⟩, ⟨by (with_reducible repeat (first | apply Kd.R_alloc | apply Kd.R_drewN | apply Kd.R_drew)); exact Kd.R_mono HO_156002.out (fun _ hk => hk.2)⟩, ⟨pl_ BK151⟩, ⟨pl_ BK155⟩, ⟨pl_ BK161⟩, ⟨by repeat (first | (with_reducible first | exact HB.out | apply below_alloc | apply pw_below_drewN | apply below_drew1 | refine below_set ?_ GE151.out | refine below_set ?_ GE155.out | refine below_set ?_ GE161.out) | exact HB.out)⟩⟩
            ·replace c33 := Bool.eq_false_iff.mpr c33
             subst c33
             have H1 : (spec_MakeFixed.j3 kj16 a0 a1 a2 x9_2 true (IntKind.i8.wrap (a0)) (IntKind.i8.wrap (a1)) x156002_2 t157 t158 t159 t160) = some (r1, r2, r3, r4) := by rw [if_neg (show ¬ (false = true) by decide)] at H; exact H
             clear H
             have H := H1
             clear H1
             have H' := Aside0.mk H
             clear H
             have hnb38 := NB161_151.out
             have hnc38 := NB151_161.out
             have hnb39 := NB161_155.out
             have hnc39 := NB155_161.out
             have hcz40_0 : w27.cell? ⟨gb161, 0, none⟩ = some (.int .i8 0) := (blk_cell BK161.out 0).trans rfl
             have hcz40_1 : w27.cell? ⟨gb161, 1, none⟩ = some (.int .i8 0) := (blk_cell BK161.out 1).trans rfl
             have hcz40_2 : w27.cell? ⟨gb161, 2, none⟩ = some (.int .i8 0) := (blk_cell BK161.out 2).trans rfl
             have hcz40_3 : w27.cell? ⟨gb161, 3, none⟩ = some (.int .i8 0) := (blk_cell BK161.out 3).trans rfl
             have hfz40_0 := blk_frozen BK161.out 0
             have hfz40_1 := blk_frozen BK161.out 1
             have hfz40_2 := blk_frozen BK161.out 2
             have hfz40_3 := blk_frozen BK161.out 3
             go_wp2_with (first | (go_at_call 47; (with_reducible refine (spec_l04Turns.calls kj16 a0 t157 t158 t159 t160 false _ A32.out).mono ?_); rintro e w41 ⟨rfl, hb⟩; have n0_ := Aside0.mk (Kd.R_below (by (with_reducible repeat (first | apply Kd.R_alloc | apply Kd.R_drewN | apply Kd.R_drew)); exact (Kd.R_mono (Kd.R_far (p := ⟨gb161, 3, none⟩) (Kd.R_far (p := ⟨gb161, 2, none⟩) (Kd.R_far (p := ⟨gb161, 1, none⟩) (Kd.R_far (p := ⟨gb161, 0, none⟩) (Kd.R_mono HO_156002.out (fun k_ hk => (⟨hk, hk.2⟩ : _ ∧ k_ ≠ gb161))) (fun _ hk => hk.2) (.int .i8 t157)) (fun _ hk => hk.2) (.int .i8 t158)) (fun _ hk => hk.2) (.int .i8 t159)) (fun _ hk => hk.2) (.int .i8 t160)) (fun _ h_ => h_.1))) hb); have n1_ := Aside0.mk (blk_below (g := gb151) (o := .cells #[.int .i8 0, .int .i8 0, .slice none 0 0] 40 (0, 0)) (by (with_reducible repeat (first | refine blk_drewN ?_ _ | refine blk_drew ?_ | refine blk_alloc ?_ _)); refine blk_far ?_ NB151_161.out _; (with_reducible repeat (first | refine blk_drewN ?_ _ | refine blk_drew ?_ | refine blk_alloc ?_ _)); refine blk_far ?_ NB151_161.out _; (with_reducible repeat (first | refine blk_drewN ?_ _ | refine blk_drew ?_ | refine blk_alloc ?_ _)); refine blk_far ?_ NB151_161.out _; (with_reducible repeat (first | refine blk_drewN ?_ _ | refine blk_drew ?_ | refine blk_alloc ?_ _)); refine blk_far ?_ NB151_161.out _; (with_reducible repeat (first | refine blk_drewN ?_ _ | refine blk_drew ?_ | refine blk_alloc ?_ _)); exact BK151.out) hb); have n2_ := Aside0.mk (blk_below (g := gb155) (o := .cells #[.int .i8 (IntKind.i8.wrap (a0)), .int .i8 (IntKind.i8.wrap (a1)), u156002] 40 (0, 0)) (by (with_reducible repeat (first | refine blk_drewN ?_ _ | refine blk_drew ?_ | refine blk_alloc ?_ _)); refine blk_far ?_ NB155_161.out _; (with_reducible repeat (first | refine blk_drewN ?_ _ | refine blk_drew ?_ | refine blk_alloc ?_ _)); refine blk_far ?_ NB155_161.out _; (with_reducible repeat (first | refine blk_drewN ?_ _ | refine blk_drew ?_ | refine blk_alloc ?_ _)); refine blk_far ?_ NB155_161.out _; (with_reducible repeat (first | refine blk_drewN ?_ _ | refine blk_drew ?_ | refine blk_alloc ?_ _)); refine blk_far ?_ NB155_161.out _; (with_reducible repeat (first | refine blk_drewN ?_ _ | refine blk_drew ?_ | refine blk_alloc ?_ _)); exact BK155.out) hb); have n3_ := Aside0.mk (blk_below (g := gb161) (o := .cells #[.int .i8 t157, .int .i8 t158, .int .i8 t159, .int .i8 t160] 24 (0, 0)) (by (with_reducible repeat (first | refine blk_drewN ?_ _ | refine blk_drew ?_ | refine blk_alloc ?_ _)); refine blk_put (cs := #[.int .i8 t157, .int .i8 t158, .int .i8 t159, .int .i8 0]) ?_ 3 _ rfl; (with_reducible repeat (first | refine blk_drewN ?_ _ | refine blk_drew ?_ | refine blk_alloc ?_ _)); refine blk_put (cs := #[.int .i8 t157, .int .i8 t158, .int .i8 0, .int .i8 0]) ?_ 2 _ rfl; (with_reducible repeat (first | refine blk_drewN ?_ _ | refine blk_drew ?_ | refine blk_alloc ?_ _)); refine blk_put (cs := #[.int .i8 t157, .int .i8 0, .int .i8 0, .int .i8 0]) ?_ 1 _ rfl; (with_reducible repeat (first | refine blk_drewN ?_ _ | refine blk_drew ?_ | refine blk_alloc ?_ _)); refine blk_put (cs := #[.int .i8 0, .int .i8 0, .int .i8 0, .int .i8 0]) ?_ 0 _ rfl; (with_reducible repeat (first | refine blk_drewN ?_ _ | refine blk_drew ?_ | refine blk_alloc ?_ _)); exact BK161.out) hb); have n4_ := Aside0.mk (below_step (by repeat (first | (with_reducible first | exact HB.out | apply below_alloc | apply pw_below_drewN | apply below_drew1 | refine below_set ?_ GE151.out | refine below_set ?_ GE155.out | refine below_set ?_ GE161.out) | exact HB.out)) hb); clear HO_156002; clear BK151; clear BK155; clear BK161; clear HB; have HO_156002 := n0_; have BK151 := n1_; have BK155 := n2_; have BK161 := n3_; have HB := n4_; clear n0_ n1_ n2_ n3_ n4_; (try clear hb); (try clear hb2); (try clear hk); (try clear hi)))
             go_meet
             case rel => exact ⟨_, (true), (by first | rfl | (simp; done) | (simp [*]; done)), H', ⟨by have := HJ3.out; have := HK2.out; have := HJ16.out; first | omega | exact Nat.le_refl _⟩, ⟨by (with_reducible repeat (first | apply Kd.R_alloc | apply Kd.R_drewN | apply Kd.R_drew)); exact Kd.R_mono HO_156002.out (fun _ hk => hk.2)⟩, ⟨pl_ BK151⟩, ⟨pl_ BK155⟩, ⟨pl_ BK161⟩, ⟨by repeat (first | (with_reducible first | exact HB.out | apply below_alloc | apply pw_below_drewN | apply below_drew1 | refine below_set ?_ GE151.out | refine below_set ?_ GE155.out | refine below_set ?_ GE161.out) | exact HB.out)⟩⟩
           ·rw [if_neg c31] at H
            have c31b0 : (a1 == 2) = false := beq_eq_false_iff_ne.mpr c31
            have c31b1 : (a1 != 2) = true := bne_iff_ne.mpr c31
            (first | rw [c31b0] | (simp only [i64_w, i32_w]; rw [c31b0]) | skip)
            have H' := Aside0.mk H
            clear H
            go_wp2
            go_meet
            case rel => exact ⟨_, ((x9_2 == 0)), (by first | rfl | (simp; done) | (simp [*]; done)), H', ⟨by have := HJ3.out; have := HK2.out; have := HJ16.out; first | omega | exact Nat.le_refl _⟩, ⟨by (with_reducible repeat (first | apply Kd.R_alloc | apply Kd.R_drewN | apply Kd.R_drew)); exact Kd.R_mono (Kd.R_far (p := ⟨gb161, 3, none⟩) (Kd.R_far (p := ⟨gb161, 2, none⟩) (Kd.R_far (p := ⟨gb161, 1, none⟩) (Kd.R_far (p := ⟨gb161, 0, none⟩) (Kd.R_mono HO_156002.out (fun k_ hk => (⟨hk, hk.2⟩ : _ ∧ k_ ≠ gb161))) (fun _ hk => hk.2) (.int .i8 t157)) (fun _ hk => hk.2) (.int .i8 t158)) (fun _ hk => hk.2) (.int .i8 t159)) (fun _ hk => hk.2) (.int .i8 t160)) (fun _ hk => hk.1.2)⟩, ⟨by (with_reducible repeat (first | refine blk_drewN ?_ _ | refine blk_drew ?_ | refine blk_alloc ?_ _)); refine blk_far ?_ NB151_161.out _; (with_reducible repeat (first | refine blk_drewN ?_ _ | refine blk_drew ?_ | refine blk_alloc ?_ _)); refine blk_far ?_ NB151_161.out _; (with_reducible repeat (first | refine blk_drewN ?_ _ | refine blk_drew ?_ | refine blk_alloc ?_ _)); refine blk_far ?_ NB151_161.out _; (with_reducible repeat (first | refine blk_drewN ?_ _ | refine blk_drew ?_ | refine blk_alloc ?_ _)); refine blk_far ?_ NB151_161.out _; (with_reducible repeat (first | refine blk_drewN ?_ _ | refine blk_drew ?_ | refine blk_alloc ?_ _)); exact BK151.out⟩, ⟨by (with_reducible repeat (first | refine blk_drewN ?_ _ | refine blk_drew ?_ | refine blk_alloc ?_ _)); refine blk_far ?_ NB155_161.out _; (with_reducible repeat (first | refine blk_drewN ?_ _ | refine blk_drew ?_ | refine blk_alloc ?_ _)); refine blk_far ?_ NB155_161.out _; (with_reducible repeat (first | refine blk_drewN ?_ _ | refine blk_drew ?_ | refine blk_alloc ?_ _)); refine blk_far ?_ NB155_161.out _; (with_reducible repeat (first | refine blk_drewN ?_ _ | refine blk_drew ?_ | refine blk_alloc ?_ _)); refine blk_far ?_ NB155_161.out _; (with_reducible repeat (first | refine blk_drewN ?_ _ | refine blk_drew ?_ | refine blk_alloc ?_ _)); exact BK155.out⟩, ⟨by (with_reducible repeat (first | refine blk_drewN ?_ _ | refine blk_drew ?_ | refine blk_alloc ?_ _)); refine blk_put (cs := #[.int .i8 t157, .int .i8 t158, .int .i8 t159, .int .i8 0]) ?_ 3 _ rfl; (with_reducible repeat (first | refine blk_drewN ?_ _ | refine blk_drew ?_ | refine blk_alloc ?_ _)); refine blk_put (cs := #[.int .i8 t157, .int .i8 t158, .int .i8 0, .int .i8 0]) ?_ 2 _ rfl; (with_reducible repeat (first | refine blk_drewN ?_ _ | refine blk_drew ?_ | refine blk_alloc ?_ _)); refine blk_put (cs := #[.int .i8 t157, .int .i8 0, .int .i8 0, .int .i8 0]) ?_ 1 _ rfl; (with_reducible repeat (first | refine blk_drewN ?_ _ | refine blk_drew ?_ | refine blk_alloc ?_ _)); refine blk_put (cs := #[.int .i8 0, .int .i8 0, .int .i8 0, .int .i8 0]) ?_ 0 _ rfl; (with_reducible repeat (first | refine blk_drewN ?_ _ | refine blk_drew ?_ | refine blk_alloc ?_ _)); exact BK161.out⟩, ⟨by repeat (first | (with_reducible first | exact HB.out | apply below_alloc | apply pw_below_drewN | apply below_drew1 | refine below_set ?_ GE151.out | refine below_set ?_ GE155.out | refine below_set ?_ GE161.out) | exact HB.out)⟩⟩
          case rest =>
           clear HC25
           try clear c1
           try clear c2
           try clear p2
           try clear c3
           try clear p6
           try clear c7
           try clear c9
           try clear c11
           try clear c13
           try clear c13b0
           try clear c13b1
           try clear c15
           try clear c19
           try clear c19b0
           try clear c20
           try clear c23
           try clear c24
           try clear c28
           try clear c29
           try clear c31
           try clear c31b0
           try clear c31b1
           try clear c32
           try clear c33
           try clear c34
           try clear c35
           try clear c38
           try clear c39
           try clear hcz12_0
           try clear hcz12_1
           try clear hcz12_2
           try clear hcz16_0
           try clear hcz16_1
           try clear hcz16_2
           try clear hcz21_0
           try clear hcz21_1
           try clear hcz21_2
           try clear hcz30_0
           try clear hcz30_1
           try clear hcz30_2
           try clear hcz30_3
           try clear hcz36_0
           try clear hcz36_1
           try clear hcz36_2
           try clear hcz36_3
           try clear hcz40_0
           try clear hcz40_1
           try clear hcz40_2
           try clear hcz40_3
           try clear hfz12_0
           try clear hfz12_1
           try clear hfz12_2
           try clear hfz16_0
           try clear hfz16_1
           try clear hfz16_2
           try clear hfz21_0
           try clear hfz21_1
           try clear hfz21_2
           try clear hfz30_0
           try clear hfz30_1
           try clear hfz30_2
           try clear hfz30_3
           try clear hfz36_0
           try clear hfz36_1
           try clear hfz36_2
           try clear hfz36_3
           try clear hfz40_0
           try clear hfz40_1
           try clear hfz40_2
           try clear hfz40_3
           try clear p2
           try clear p6
           obtain ⟨kq, x63_24, rfl, HA, HJ24, HO_156002, BK151, BK155, BK161, HB⟩ := hcut
           cases kq with
           | zero => exact absurd HA.out (by simp [spec_MakeFixed.j3])
           | succ kj24 =>
            have H := HA.out
            clear HA
            simp only [spec_MakeFixed.j3] at H
            by_cases c42 : x63_24 = true
            ·subst c42
             have H1 : (spec_MakeFixed.l0 kj24 a0 a1 a2 (wrap64 (x9_2 + 1)) (IntKind.i8.wrap (a0)) (IntKind.i8.wrap (a1)) x156002_2) = some (r1, r2, r3, r4) := by rw [if_pos rfl] at H; exact H
             clear H
             have H := H1
             clear H1
             have H' := Aside0.mk H
             clear H
             go_wp2
             go_roundg kj24
             case measure => have := HJ3.out; have := HK2.out; have := HJ16.out; have := HJ24.out; omega
             case rel => exact ⟨(wrap64 (x9_2 + 1)), (x156002_2), (u156002), (by first | rfl | (simp; done) | (simp [*]; done)), H', ⟨by have := HJ3.out; have := HK2.out; have := HJ16.out; have := HJ24.out; omega⟩, ⟨by (with_reducible repeat (first | apply Kd.R_alloc | apply Kd.R_drewN | apply Kd.R_drew)); exact Kd.R_mono HO_156002.out (fun _ hk => trivial)⟩, ⟨pl_ BK151⟩, ⟨pl_ BK155⟩, ⟨by repeat (first | (with_reducible first | exact HB.out | apply below_alloc | apply pw_below_drewN | apply below_drew1 | refine below_set ?_ GE151.out | refine below_set ?_ GE155.out | refine below_set ?_ GE161.out) | exact HB.out)⟩⟩
            ·replace c42 := Bool.eq_false_iff.mpr c42
             subst c42
             have H1 : (spec_MakeFixed.l1 kj24 a0 a1 a2 x9_2 0 (IntKind.i8.wrap (a0)) (IntKind.i8.wrap (a1)) x156002_2 t157 t158 t159 t160) = some (r1, r2, r3, r4) := by rw [if_neg (show ¬ (false = true) by decide)] at H; exact H
             clear H
             have H := H1
             clear H1
             have H' := Aside0.mk H
             clear H
             go_wp2
             go_loopg [11] kj24 (fun kq v11 w' => ∃ (x11_5 : Int) (x156002_5 : List (S24)) (x162000_5 : Int) (x162001_5 : Int) (x162002_5 : Int) (x162003_5 : Int) (u156002 : Value), v11 = .int .i64 x11_5 ∧ Aside0 (spec_MakeFixed.l1 kq a0 a1 a2 x9_2 x11_5 (IntKind.i8.wrap (a0)) (IntKind.i8.wrap (a1)) x156002_5 x162000_5 x162001_5 x162002_5 x162003_5 = some (r1, r2, r3, r4)) ∧ Aside0 (kq ≤ kj24) ∧ Aside0 (Kd.R k24 24 w' w.heap.size (fun k_ => k_ ≠ gb161) u156002 x156002_5) ∧ Aside0 (w'.heap[gb151]? = some (.cells #[.int .i8 0, .int .i8 0, (.slice none 0 0)] 40 (0, 0))) ∧ Aside0 (w'.heap[gb155]? = some (.cells #[.int .i8 (IntKind.i8.wrap (a0)), .int .i8 (IntKind.i8.wrap (a1)), u156002] 40 (0, 0))) ∧ Aside0 (w'.heap[gb161]? = some (.cells #[.int .i8 x162000_5, .int .i8 x162001_5, .int .i8 x162002_5, .int .i8 x162003_5] 24 (0, 0))) ∧ Aside0 (Below w.heap.size w w'))
             case atStart => exact ⟨(0), (x156002_2), (t157), (t158), (t159), (t160), (u156002), (by first | rfl | (simp; done) | (simp [*]; done)), H', ⟨Nat.le_refl _⟩, ⟨pr_ HO_156002⟩, ⟨pl_ BK151⟩, ⟨pl_ BK155⟩, ⟨pl_ BK161⟩, ⟨by repeat (first | (with_reducible first | exact HB.out | apply below_alloc | apply pw_below_drewN | apply below_drew1 | refine below_set ?_ GE151.out | refine below_set ?_ GE155.out | refine below_set ?_ GE161.out) | exact HB.out)⟩⟩
             case round =>
              clear H'
              try clear c1
              try clear c2
              try clear p2
              try clear c3
              try clear c4
              try clear p6
              try clear c7
              try clear c9
              try clear c11
              try clear c13
              try clear c13b0
              try clear c13b1
              try clear c15
              try clear c19
              try clear c19b0
              try clear c20
              try clear c23
              try clear c24
              try clear c28
              try clear c29
              try clear c31
              try clear c31b0
              try clear c31b1
              try clear c32
              try clear c33
              try clear c34
              try clear c35
              try clear c38
              try clear c39
              try clear c42
              try clear hcz12_0
              try clear hcz12_1
              try clear hcz12_2
              try clear hcz16_0
              try clear hcz16_1
              try clear hcz16_2
              try clear hcz21_0
              try clear hcz21_1
              try clear hcz21_2
              try clear hcz30_0
              try clear hcz30_1
              try clear hcz30_2
              try clear hcz30_3
              try clear hcz36_0
              try clear hcz36_1
              try clear hcz36_2
              try clear hcz36_3
              try clear hcz40_0
              try clear hcz40_1
              try clear hcz40_2
              try clear hcz40_3
              try clear hfz12_0
              try clear hfz12_1
              try clear hfz12_2
              try clear hfz16_0
              try clear hfz16_1
              try clear hfz16_2
              try clear hfz21_0
              try clear hfz21_1
              try clear hfz21_2
              try clear hfz30_0
              try clear hfz30_1
              try clear hfz30_2
              try clear hfz30_3
              try clear hfz36_0
              try clear hfz36_1
              try clear hfz36_2
              try clear hfz36_3
              try clear hfz40_0
              try clear hfz40_1
              try clear hfz40_2
              try clear hfz40_3
              try clear p2
              try clear p6
              obtain ⟨x11_5, x156002_5, x162000_5, x162001_5, x162002_5, x162003_5, u156002, rfl, HA, HK5, HO_156002, BK151, BK155, BK161, HB⟩ := hrel
              cases gk with
              | zero => exact absurd HA.out (by simp [spec_MakeFixed.l1])
              | succ k5 =>
               have H := HA.out
               clear HA
               simp only [spec_MakeFixed.l1] at H
               by_cases c43 : x11_5 < 3
               ·rw [if_pos c43] at H
                have c43b0 : decide (x11_5 < 3) = true := decide_eq_true c43
                clear c43
                by_cases c44 : x156002_5.length < 35184372088832
                ·rw [if_pos c44] at H
                 have LMc44 := Aside0.mk c44
                 clear c44
                 obtain ⟨y163, hy163⟩ : ∃ y_ : List (S24), y_ = (x156002_5 ++ [(⟨x162000_5, x162001_5, x162002_5, x162003_5⟩ : S24)]) := ⟨_, rfl⟩
                 replace H : ((spec_l04NextWord.f k5 a0 x162000_5 x162001_5 x162002_5 x162003_5).bind fun bt166 => (spec_MakeFixed.l1 k5 a0 a1 a2 x9_2 (wrap64 (x11_5 + 1)) (IntKind.i8.wrap (a0)) (IntKind.i8.wrap (a1)) y163 bt166.1 bt166.2.1 bt166.2.2.1 bt166.2.2.2)) = some (r1, r2, r3, r4) := by first | (rw [hy163]; with_reducible exact H) | (have H2_ := (Option.bind_some _ _).symm.trans H; rw [hy163]; with_reducible exact H2_) | (have H2_ := (Option.bind_some _ _).symm.trans H; with_reducible exact H2_) | with_reducible exact H | (rw [hy163]; exact H) | exact H
                 have Ny163 := Aside0.mk hy163
                 clear hy163
                 replace H := Option.bind_eq_some_iff.mp H
                 obtain ⟨⟨t166, t167, t168, t169⟩, A450, H⟩ := H
                 replace H : (spec_MakeFixed.l1 k5 a0 a1 a2 x9_2 (wrap64 (x11_5 + 1)) (IntKind.i8.wrap (a0)) (IntKind.i8.wrap (a1)) y163 t166 t167 t168 t169) = some (r1, r2, r3, r4) := H
                 have A45 := Aside0.mk A450
                 clear A450
                 have H' := Aside0.mk H
                 clear H
                 have hnb46 := NB155_151.out
                 have hnc46 := NB151_155.out
                 have hnb47 := NB155_161.out
                 have hnc47 := NB161_155.out
                 have hcz48_0 : wr.cell? ⟨gb155, 0, none⟩ = some (.int .i8 (IntKind.i8.wrap (a0))) := (blk_cell BK155.out 0).trans rfl
                 have hcz48_1 : wr.cell? ⟨gb155, 1, none⟩ = some (.int .i8 (IntKind.i8.wrap (a1))) := (blk_cell BK155.out 1).trans rfl
                 have hcz48_2 : wr.cell? ⟨gb155, 2, none⟩ = some (u156002) := (blk_cell BK155.out 2).trans rfl
                 have hfz48_0 := blk_frozen BK155.out 0
                 have hfz48_1 := blk_frozen BK155.out 1
                 have hfz48_2 := blk_frozen BK155.out 2
                 have hnb49 := NB161_151.out
                 have hnc49 := NB151_161.out
                 have hcz50_0 : wr.cell? ⟨gb161, 0, none⟩ = some (.int .i8 x162000_5) := (blk_cell BK161.out 0).trans rfl
                 have hcz50_1 : wr.cell? ⟨gb161, 1, none⟩ = some (.int .i8 x162001_5) := (blk_cell BK161.out 1).trans rfl
                 have hcz50_2 : wr.cell? ⟨gb161, 2, none⟩ = some (.int .i8 x162002_5) := (blk_cell BK161.out 2).trans rfl
                 have hcz50_3 : wr.cell? ⟨gb161, 3, none⟩ = some (.int .i8 x162003_5) := (blk_cell BK161.out 3).trans rfl
                 have hfz50_0 := blk_frozen BK161.out 0
                 have hfz50_1 := blk_frozen BK161.out 1
                 have hfz50_2 := blk_frozen BK161.out 2
                 have hfz50_3 := blk_frozen BK161.out 3
                 go_wp2_with (first | ((with_reducible refine gate_builtin (b := .append) (xs := #[.tmp 69, .tmp 71]) rfl ?_); (try (refine gate_guard (by rfl) ?_; dsimp only)); at_builtin; refine Kd.R_append k24 (w0 := w) w.heap.size rfl (.tmp 69) (.tmp 71) 38 24 (.agg #[(.int .i8 0), (.int .i8 0), (.int .i8 0), (.int .i8 0)]) 4 rfl Try.underlying38 info24 rfl (by decide) (by omega) u156002 x156002_5 (⟨x162000_5, x162001_5, x162002_5, x162003_5⟩ : S24) [.int .i8 x162000_5, .int .i8 x162001_5, .int .i8 x162002_5, .int .i8 x162003_5] (fun k_ => k_ ≠ gb161) (fun _ => False) rfl rfl ?aP (fun _ hk => hk.elim) ?aF ?aO ?aB ?aS ?aL ?_; (case aP => exact k24_mkM _ _ _ (⟨x162000_5, x162001_5, x162002_5, x162003_5⟩ : S24)); (case aB => exact (by repeat (first | (with_reducible first | exact HB.out | apply below_alloc | apply pw_below_drewN | apply below_drew1 | refine below_set ?_ GE151.out | refine below_set ?_ GE155.out | refine below_set ?_ GE161.out) | exact HB.out))); (case aF => exact (fun k_ hk => Kd.freshB (g := gb161) (o := .cells #[.int .i8 x162000_5, .int .i8 x162001_5, .int .i8 x162002_5, .int .i8 x162003_5] 24 (0, 0)) (pl_ BK161) k_ hk)); (case aO => exact (pr_ HO_156002)); (case aS => exact (below_size (by repeat (first | (with_reducible first | exact HB.out | apply below_alloc | apply pw_below_drewN | apply below_drew1 | refine below_set ?_ GE151.out | refine below_set ?_ GE155.out | refine below_set ?_ GE161.out) | exact HB.out)))); (case aL => have := LMc44.out; omega); intro v164 w51 ho hb hg hat; rw [← Ny163.out] at ho; have n0_ := Aside0.mk (blk_grown (g := gb151) (o := .cells #[.int .i8 0, .int .i8 0, .slice none 0 0] 40 (0, 0)) (pl_ BK151) hg (Kd.R_ne HO_156002.out BK151.out (by decide))); have n1_ := Aside0.mk (blk_grown (g := gb155) (o := .cells #[.int .i8 (IntKind.i8.wrap (a0)), .int .i8 (IntKind.i8.wrap (a1)), u156002] 40 (0, 0)) (pl_ BK155) hg (Kd.R_ne HO_156002.out BK155.out (by decide))); have n2_ := Aside0.mk (blk_grown (g := gb161) (o := .cells #[.int .i8 x162000_5, .int .i8 x162001_5, .int .i8 x162002_5, .int .i8 x162003_5] 24 (0, 0)) (pl_ BK161) hg (Kd.R_away HO_156002.out (fun _ hk => hk))); have n3_ := Aside0.mk (hb); have n4_ := Aside0.mk (ho); clear BK151; clear BK155; clear BK161; clear HB; clear HO_156002; have BK151 := n0_; have BK155 := n1_; have BK161 := n2_; have HB := n3_; have HO165 := n4_; clear n0_ n1_ n2_ n3_ n4_; clear ho hb hg hat; obtain ⟨Ao52, co52, eo52⟩ := Kd.R_slice HO165.out; subst eo52; have hcz53_0 : w51.cell? ⟨gb155, 0, none⟩ = some (.int .i8 (IntKind.i8.wrap (a0))) := (blk_cell BK155.out 0).trans rfl; have hcz53_1 : w51.cell? ⟨gb155, 1, none⟩ = some (.int .i8 (IntKind.i8.wrap (a1))) := (blk_cell BK155.out 1).trans rfl; have hcz53_2 : w51.cell? ⟨gb155, 2, none⟩ = some (u156002) := (blk_cell BK155.out 2).trans rfl; have hfz53_0 := blk_frozen BK155.out 0; have hfz53_1 := blk_frozen BK155.out 1; have hfz53_2 := blk_frozen BK155.out 2; have hcz54_0 : w51.cell? ⟨gb161, 0, none⟩ = some (.int .i8 x162000_5) := (blk_cell BK161.out 0).trans rfl; have hcz54_1 : w51.cell? ⟨gb161, 1, none⟩ = some (.int .i8 x162001_5) := (blk_cell BK161.out 1).trans rfl; have hcz54_2 : w51.cell? ⟨gb161, 2, none⟩ = some (.int .i8 x162002_5) := (blk_cell BK161.out 2).trans rfl; have hcz54_3 : w51.cell? ⟨gb161, 3, none⟩ = some (.int .i8 x162003_5) := (blk_cell BK161.out 3).trans rfl; have hfz54_0 := blk_frozen BK161.out 0; have hfz54_1 := blk_frozen BK161.out 1; have hfz54_2 := blk_frozen BK161.out 2; have hfz54_3 := blk_frozen BK161.out 3) | ((with_reducible refine gate_callee (f := 45) rfl ?_); refine goesL_ (some 76) rfl rfl Try.func45 (by kernel_rfl) rfl #[.int .i64 a0, .agg #[.int .i8 x162000_5, .int .i8 x162001_5, .int .i8 x162002_5, .int .i8 x162003_5]] rfl (by (try simp only [List.map_toArray, List.map_cons, List.map_nil]); first | done | rfl | (simp only [List.length_drop, List.length_take]; rfl)) ?_; (with_reducible refine (spec_l04NextWord.calls k5 a0 x162000_5 x162001_5 x162002_5 x162003_5 t166 t167 t168 t169 _ A45.out).mono ?_); rintro e w55 ⟨rfl, hb⟩; refine ⟨_, rfl, ?_⟩; have n0_ := Aside0.mk (Kd.R_below (by (with_reducible repeat (first | apply Kd.R_alloc | apply Kd.R_drewN | apply Kd.R_drew)); exact (Kd.R_mono (Kd.R_far (p := ⟨gb155, 2, none⟩) (Kd.R_types HO165.out BK155.out (by decide)) (fun _ hk => hk.2) (.slice Ao52 y163.length co52)) (fun _ h_ => h_.1))) hb); have n1_ := Aside0.mk (blk_below (g := gb151) (o := .cells #[.int .i8 0, .int .i8 0, .slice none 0 0] 40 (0, 0)) (by (with_reducible repeat (first | refine blk_drewN ?_ _ | refine blk_drew ?_ | refine blk_alloc ?_ _)); refine blk_far ?_ NB151_155.out _; (with_reducible repeat (first | refine blk_drewN ?_ _ | refine blk_drew ?_ | refine blk_alloc ?_ _)); exact BK151.out) hb); have n2_ := Aside0.mk (blk_below (g := gb155) (o := .cells #[.int .i8 (IntKind.i8.wrap (a0)), .int .i8 (IntKind.i8.wrap (a1)), .slice Ao52 y163.length co52] 40 (0, 0)) (by (with_reducible repeat (first | refine blk_drewN ?_ _ | refine blk_drew ?_ | refine blk_alloc ?_ _)); refine blk_put (cs := #[.int .i8 (IntKind.i8.wrap (a0)), .int .i8 (IntKind.i8.wrap (a1)), u156002]) ?_ 2 _ rfl; (with_reducible repeat (first | refine blk_drewN ?_ _ | refine blk_drew ?_ | refine blk_alloc ?_ _)); exact BK155.out) hb); have n3_ := Aside0.mk (blk_below (g := gb161) (o := .cells #[.int .i8 x162000_5, .int .i8 x162001_5, .int .i8 x162002_5, .int .i8 x162003_5] 24 (0, 0)) (by (with_reducible repeat (first | refine blk_drewN ?_ _ | refine blk_drew ?_ | refine blk_alloc ?_ _)); refine blk_far ?_ NB161_155.out _; (with_reducible repeat (first | refine blk_drewN ?_ _ | refine blk_drew ?_ | refine blk_alloc ?_ _)); exact BK161.out) hb); have n4_ := Aside0.mk (below_step (by repeat (first | (with_reducible first | exact HB.out | apply below_alloc | apply pw_below_drewN | apply below_drew1 | refine below_set ?_ GE151.out | refine below_set ?_ GE155.out | refine below_set ?_ GE161.out) | exact HB.out)) hb); clear HO165; clear BK151; clear BK155; clear BK161; clear HB; have HO165 := n0_; have BK151 := n1_; have BK155 := n2_; have BK161 := n3_; have HB := n4_; clear n0_ n1_ n2_ n3_ n4_; (try clear hb); (try clear hb2); (try clear hk); (try clear hi); have hcz56_0 : w55.cell? ⟨gb161, 0, none⟩ = some (.int .i8 x162000_5) := (blk_cell BK161.out 0).trans rfl; have hcz56_1 : w55.cell? ⟨gb161, 1, none⟩ = some (.int .i8 x162001_5) := (blk_cell BK161.out 1).trans rfl; have hcz56_2 : w55.cell? ⟨gb161, 2, none⟩ = some (.int .i8 x162002_5) := (blk_cell BK161.out 2).trans rfl; have hcz56_3 : w55.cell? ⟨gb161, 3, none⟩ = some (.int .i8 x162003_5) := (blk_cell BK161.out 3).trans rfl; have hfz56_0 := blk_frozen BK161.out 0; have hfz56_1 := blk_frozen BK161.out 1; have hfz56_2 := blk_frozen BK161.out 2; have hfz56_3 := blk_frozen BK161.out 3))
                 go_roundg k5
                 case measure => have := HJ3.out; have := HK2.out; have := HJ16.out; have := HJ24.out; have := HK5.out; omega
                 case rel => exact ⟨(wrap64 (x11_5 + 1)), (y163), (t166), (t167), (t168), (t169), (.slice Ao52 y163.length co52), (by first | rfl | (simp; done) | (simp [*]; done)), H', ⟨by have := HJ3.out; have := HK2.out; have := HJ16.out; have := HJ24.out; have := HK5.out; omega⟩, ⟨by (with_reducible repeat (first | apply Kd.R_alloc | apply Kd.R_drewN | apply Kd.R_drew)); exact Kd.R_mono (Kd.R_far (p := ⟨gb161, 3, none⟩) (Kd.R_far (p := ⟨gb161, 2, none⟩) (Kd.R_far (p := ⟨gb161, 1, none⟩) (Kd.R_far (p := ⟨gb161, 0, none⟩) (Kd.R_mono HO165.out (fun k_ hk => (⟨hk, hk⟩ : _ ∧ k_ ≠ gb161))) (fun _ hk => hk.2) (.int .i8 t166)) (fun _ hk => hk.2) (.int .i8 t167)) (fun _ hk => hk.2) (.int .i8 t168)) (fun _ hk => hk.2) (.int .i8 t169)) (fun _ hk => hk.1)⟩, ⟨by (with_reducible repeat (first | refine blk_drewN ?_ _ | refine blk_drew ?_ | refine blk_alloc ?_ _)); refine blk_far ?_ NB151_161.out _; (with_reducible repeat (first | refine blk_drewN ?_ _ | refine blk_drew ?_ | refine blk_alloc ?_ _)); refine blk_far ?_ NB151_161.out _; (with_reducible repeat (first | refine blk_drewN ?_ _ | refine blk_drew ?_ | refine blk_alloc ?_ _)); refine blk_far ?_ NB151_161.out _; (with_reducible repeat (first | refine blk_drewN ?_ _ | refine blk_drew ?_ | refine blk_alloc ?_ _)); refine blk_far ?_ NB151_161.out _; (with_reducible repeat (first | refine blk_drewN ?_ _ | refine blk_drew ?_ | refine blk_alloc ?_ _)); exact BK151.out⟩, ⟨by (with_reducible repeat (first | refine blk_drewN ?_ _ | refine blk_drew ?_ | refine blk_alloc ?_ _)); refine blk_far ?_ NB155_161.out _; (with_reducible repeat (first | refine blk_drewN ?_ _ | refine blk_drew ?_ | refine blk_alloc ?_ _)); refine blk_far ?_ NB155_161.out _; (with_reducible repeat (first | refine blk_drewN ?_ _ | refine blk_drew ?_ | refine blk_alloc ?_ _)); refine blk_far ?_ NB155_161.out _; (with_reducible repeat (first | refine blk_drewN ?_ _ | refine blk_drew ?_ | refine blk_alloc ?_ _)); refine blk_far ?_ NB155_161.out _; (with_reducible repeat (first | refine blk_drewN ?_ _ | refine blk_drew ?_ | refine blk_alloc ?_ _)); exact BK155.out⟩, ⟨by (with_reducible repeat (first | refine blk_drewN ?_ _ | refine blk_drew ?_ | refine blk_alloc ?_ _)); refine blk_put (cs := #[.int .i8 t166, .int .i8 t167, .int .i8 t168, .int .i8 x162003_5]) ?_ 3 _ rfl; (with_reducible repeat (first | refine blk_drewN ?_ _ | refine blk_drew ?_ | refine blk_alloc ?_ _)); refine blk_put (cs := #[.int .i8 t166, .int .i8 t167, .int .i8 x162002_5, .int .i8 x162003_5]) ?_ 2 _ rfl; (with_reducible repeat (first | refine blk_drewN ?_ _ | refine blk_drew ?_ | refine blk_alloc ?_ _)); refine blk_put (cs := #[.int .i8 t166, .int .i8 x162001_5, .int .i8 x162002_5, .int .i8 x162003_5]) ?_ 1 _ rfl; (with_reducible repeat (first | refine blk_drewN ?_ _ | refine blk_drew ?_ | refine blk_alloc ?_ _)); refine blk_put (cs := #[.int .i8 x162000_5, .int .i8 x162001_5, .int .i8 x162002_5, .int .i8 x162003_5]) ?_ 0 _ rfl; (with_reducible repeat (first | refine blk_drewN ?_ _ | refine blk_drew ?_ | refine blk_alloc ?_ _)); exact BK161.out⟩, ⟨by repeat (first | (with_reducible first | exact HB.out | apply below_alloc | apply pw_below_drewN | apply below_drew1 | refine below_set ?_ GE151.out | refine below_set ?_ GE155.out | refine below_set ?_ GE161.out) | exact HB.out)⟩⟩
                ·rw [if_neg c44] at H
                 exact absurd H (by simp)
               ·rw [if_neg c43] at H
                have c43b0 : decide (x11_5 < 3) = false := decide_eq_false c43
                clear c43
                have H' := Aside0.mk H
                clear H
                go_wp2
                go_roundg k5
                case measure => have := HJ3.out; have := HK2.out; have := HJ16.out; have := HJ24.out; have := HK5.out; omega
                case rel => exact ⟨(wrap64 (x9_2 + 1)), (x156002_5), (u156002), (by first | rfl | (simp; done) | (simp [*]; done)), H', ⟨by have := HJ3.out; have := HK2.out; have := HJ16.out; have := HJ24.out; have := HK5.out; omega⟩, ⟨by (with_reducible repeat (first | apply Kd.R_alloc | apply Kd.R_drewN | apply Kd.R_drew)); exact Kd.R_mono HO_156002.out (fun _ hk => trivial)⟩, ⟨pl_ BK151⟩, ⟨pl_ BK155⟩, ⟨by repeat (first | (with_reducible first | exact HB.out | apply below_alloc | apply pw_below_drewN | apply below_drew1 | refine below_set ?_ GE151.out | refine below_set ?_ GE155.out | refine below_set ?_ GE161.out) | exact HB.out)⟩⟩
         ·replace c23 := Bool.eq_false_iff.mpr c23
          subst c23
          have H1 : (if (x156002_2.length : Int) < a2 then (some (0, 0, ([] : List (S24)), 6)) else (some ((IntKind.i8.wrap (a0)), (IntKind.i8.wrap (a1)), x156002_2, 0))) = some (r1, r2, r3, r4) := by rw [if_neg (show ¬ (false = true) by decide)] at H; exact H
          clear H
          have H := H1
          clear H1
          by_cases c57 : (x156002_2.length : Int) < a2
          ·rw [if_pos c57] at H
           have c57b0 : decide ((x156002_2.length : Int) < a2) = true := decide_eq_true c57
           clear c57
           simp only [Option.some.injEq, Prod.mk.injEq] at H
           obtain ⟨rfl, rfl, rfl, rfl⟩ := H
           have hnb58 := NB155_151.out
           have hnc58 := NB151_155.out
           have hcz59_0 : wc.cell? ⟨gb155, 0, none⟩ = some (.int .i8 (IntKind.i8.wrap (a0))) := (blk_cell BK155.out 0).trans rfl
           have hcz59_1 : wc.cell? ⟨gb155, 1, none⟩ = some (.int .i8 (IntKind.i8.wrap (a1))) := (blk_cell BK155.out 1).trans rfl
           have hcz59_2 : wc.cell? ⟨gb155, 2, none⟩ = some (u156002) := (blk_cell BK155.out 2).trans rfl
           have hfz59_0 := blk_frozen BK155.out 0
           have hfz59_1 := blk_frozen BK155.out 1
           have hfz59_2 := blk_frozen BK155.out 2
           obtain ⟨Ao60, co60, eo60⟩ := Kd.R_slice HO_156002.out
           subst eo60
           have hcz61_0 : wc.cell? ⟨gb151, 0, none⟩ = some (.int .i8 0) := (blk_cell BK151.out 0).trans rfl
           have hcz61_1 : wc.cell? ⟨gb151, 1, none⟩ = some (.int .i8 0) := (blk_cell BK151.out 1).trans rfl
           have hcz61_2 : wc.cell? ⟨gb151, 2, none⟩ = some (.slice none 0 0) := (blk_cell BK151.out 2).trans rfl
           have hfz61_0 := blk_frozen BK151.out 0
           have hfz61_1 := blk_frozen BK151.out 1
           have hfz61_2 := blk_frozen BK151.out 2
           go_wp2
           refine bodyPost_ret (results_ct rfl _ _ gb151 40 #[.int .i8 0, .int .i8 0, .slice none 0 0] (0, 0) _ rfl (by (with_reducible repeat (first | refine blk_drewN ?_ _ | refine blk_drew ?_ | refine blk_alloc ?_ _)); refine blk_put (cs := #[.int .i8 0, .int .i8 0, .slice none 0 0]) ?_ 2 _ rfl; (with_reducible repeat (first | refine blk_drewN ?_ _ | refine blk_drew ?_ | refine blk_alloc ?_ _)); refine blk_put (cs := #[.int .i8 0, .int .i8 0, .slice none 0 0]) ?_ 1 _ rfl; (with_reducible repeat (first | refine blk_drewN ?_ _ | refine blk_drew ?_ | refine blk_alloc ?_ _)); refine blk_put (cs := #[.int .i8 0, .int .i8 0, .slice none 0 0]) ?_ 0 _ rfl; (with_reducible repeat (first | refine blk_drewN ?_ _ | refine blk_drew ?_ | refine blk_alloc ?_ _)); exact BK151.out) Try.underlying40 rfl (by kernel_rfl)) rfl ?_
           exact ⟨_, by first | rfl | (simp [errW_none, errW_some] <;> rfl) | (simp [*, errW_none, errW_some] <;> rfl), by first | exact Kd.R_nil _ _ _ _ _ | exact Kd.N_nil _ _ _ _ _ | exact Kd.V_nil _ _ _ _ _ | exact Kd.Q_nil _ _ _ _ _ | exact Kd.S_nil _ _ _ _ _, by repeat (first | (with_reducible first | exact HB.out | apply below_alloc | apply pw_below_drewN | apply below_drew1 | refine below_set ?_ GE151.out | refine below_set ?_ GE155.out) | exact HB.out)⟩
          ·rw [if_neg c57] at H
           have c57b0 : decide ((x156002_2.length : Int) < a2) = false := decide_eq_false c57
           clear c57
           simp only [Option.some.injEq, Prod.mk.injEq] at H
           obtain ⟨rfl, rfl, rfl, rfl⟩ := H
           have hnb62 := NB155_151.out
           have hnc62 := NB151_155.out
           have hcz63_0 : wc.cell? ⟨gb155, 0, none⟩ = some (.int .i8 (IntKind.i8.wrap (a0))) := (blk_cell BK155.out 0).trans rfl
           have hcz63_1 : wc.cell? ⟨gb155, 1, none⟩ = some (.int .i8 (IntKind.i8.wrap (a1))) := (blk_cell BK155.out 1).trans rfl
           have hcz63_2 : wc.cell? ⟨gb155, 2, none⟩ = some (u156002) := (blk_cell BK155.out 2).trans rfl
           have hfz63_0 := blk_frozen BK155.out 0
           have hfz63_1 := blk_frozen BK155.out 1
           have hfz63_2 := blk_frozen BK155.out 2
           obtain ⟨Ao64, co64, eo64⟩ := Kd.R_slice HO_156002.out
           subst eo64
           have hcz65_0 : wc.cell? ⟨gb151, 0, none⟩ = some (.int .i8 0) := (blk_cell BK151.out 0).trans rfl
           have hcz65_1 : wc.cell? ⟨gb151, 1, none⟩ = some (.int .i8 0) := (blk_cell BK151.out 1).trans rfl
           have hcz65_2 : wc.cell? ⟨gb151, 2, none⟩ = some (.slice none 0 0) := (blk_cell BK151.out 2).trans rfl
           have hfz65_0 := blk_frozen BK151.out 0
           have hfz65_1 := blk_frozen BK151.out 1
           have hfz65_2 := blk_frozen BK151.out 2
           go_wp2
           refine bodyPost_ret (results_ct rfl _ _ gb151 40 #[.int .i8 (IntKind.i8.wrap (a0)), .int .i8 (IntKind.i8.wrap (a1)), .slice Ao64 x156002_2.length co64] (0, 0) _ rfl (by (with_reducible repeat (first | refine blk_drewN ?_ _ | refine blk_drew ?_ | refine blk_alloc ?_ _)); refine blk_put (cs := #[.int .i8 (IntKind.i8.wrap (a0)), .int .i8 (IntKind.i8.wrap (a1)), .slice none 0 0]) ?_ 2 _ rfl; (with_reducible repeat (first | refine blk_drewN ?_ _ | refine blk_drew ?_ | refine blk_alloc ?_ _)); refine blk_put (cs := #[.int .i8 (IntKind.i8.wrap (a0)), .int .i8 0, .slice none 0 0]) ?_ 1 _ rfl; (with_reducible repeat (first | refine blk_drewN ?_ _ | refine blk_drew ?_ | refine blk_alloc ?_ _)); refine blk_put (cs := #[.int .i8 0, .int .i8 0, .slice none 0 0]) ?_ 0 _ rfl; (with_reducible repeat (first | refine blk_drewN ?_ _ | refine blk_drew ?_ | refine blk_alloc ?_ _)); exact BK151.out) Try.underlying40 rfl (by kernel_rfl)) rfl ?_
           exact ⟨_, by first | rfl | (simp [errW_none, errW_some] <;> rfl) | (simp [*, errW_none, errW_some] <;> rfl), by (with_reducible repeat (first | apply Kd.R_alloc | apply Kd.R_drewN | apply Kd.R_drew)); exact Kd.R_mono (Kd.R_far (p := ⟨gb151, 2, none⟩) (Kd.R_far (p := ⟨gb151, 1, none⟩) (Kd.R_far (p := ⟨gb151, 0, none⟩) (Kd.R_types HO_156002.out BK151.out (by decide)) (fun _ hk => hk.2) (.int .i8 (IntKind.i8.wrap (a0)))) (fun _ hk => hk.2) (.int .i8 (IntKind.i8.wrap (a1)))) (fun _ hk => hk.2) (.slice Ao64 x156002_2.length co64)) (fun _ hk => trivial), by repeat (first | (with_reducible first | exact HB.out | apply below_alloc | apply pw_below_drewN | apply below_drew1 | refine below_set ?_ GE151.out | refine below_set ?_ GE155.out) | exact HB.out)⟩
    ·rw [if_neg c13] at H
     have c13b0 : ((Int.tmod a2 3) == 0) = false := beq_eq_false_iff_ne.mpr c13
     have c13b1 : ((Int.tmod a2 3) != 0) = true := bne_iff_ne.mpr c13
     simp only [Option.some.injEq, Prod.mk.injEq] at H
     obtain ⟨rfl, rfl, rfl, rfl⟩ := H
     have hcz66_0 : wc.cell? ⟨gb151, 0, none⟩ = some (.int .i8 0) := (blk_cell BK151.out 0).trans rfl
     have hcz66_1 : wc.cell? ⟨gb151, 1, none⟩ = some (.int .i8 0) := (blk_cell BK151.out 1).trans rfl
     have hcz66_2 : wc.cell? ⟨gb151, 2, none⟩ = some (.slice none 0 0) := (blk_cell BK151.out 2).trans rfl
     have hfz66_0 := blk_frozen BK151.out 0
     have hfz66_1 := blk_frozen BK151.out 1
     have hfz66_2 := blk_frozen BK151.out 2
     go_wp2
     refine bodyPost_ret (results_ct rfl _ _ gb151 40 #[.int .i8 0, .int .i8 0, .slice none 0 0] (0, 0) _ rfl (by (with_reducible repeat (first | refine blk_drewN ?_ _ | refine blk_drew ?_ | refine blk_alloc ?_ _)); refine blk_put (cs := #[.int .i8 0, .int .i8 0, .slice none 0 0]) ?_ 2 _ rfl; (with_reducible repeat (first | refine blk_drewN ?_ _ | refine blk_drew ?_ | refine blk_alloc ?_ _)); refine blk_put (cs := #[.int .i8 0, .int .i8 0, .slice none 0 0]) ?_ 1 _ rfl; (with_reducible repeat (first | refine blk_drewN ?_ _ | refine blk_drew ?_ | refine blk_alloc ?_ _)); refine blk_put (cs := #[.int .i8 0, .int .i8 0, .slice none 0 0]) ?_ 0 _ rfl; (with_reducible repeat (first | refine blk_drewN ?_ _ | refine blk_drew ?_ | refine blk_alloc ?_ _)); exact BK151.out) Try.underlying40 rfl (by kernel_rfl)) rfl ?_
     exact ⟨_, by first | rfl | (simp [errW_none, errW_some] <;> rfl) | (simp [*, errW_none, errW_some] <;> rfl), by first | exact Kd.R_nil _ _ _ _ _ | exact Kd.N_nil _ _ _ _ _ | exact Kd.V_nil _ _ _ _ _ | exact Kd.Q_nil _ _ _ _ _ | exact Kd.S_nil _ _ _ _ _, by repeat (first | (with_reducible first | exact HB.out | apply below_alloc | apply pw_below_drewN | apply below_drew1 | refine below_set ?_ GE151.out) | exact HB.out)⟩

end Go.Proofs.Yteohhkfeeeifaaa.M
