-- By this seat's own program over the kit's printer (arrays, functions told by hand); nothing of it is trusted: the kernel checks it.
import Derived.Test.YteohhkfeeeifaaaMx0
import Derived.Test.YteohhkfeeeifaaaMx1
import Derived.Test.YteohhkfeeeifaaaMx11
import Derived.Test.YteohhkfeeeifaaaMx12
import Derived.Test.YteohhkfeeeifaaaMx13
namespace Go.Proofs.Yteohhkfeeeifaaa.M
open Go.RowKit Go.Proofs.YteohhkfeeeifaaaW.PrintWords Go.Proofs.YteohhkfeeeifaaaW.PrintLast Go.Proofs.YteohhkfeeeifaaaW.PrintMore
attribute [local go_sem] max2_int min2_int max_two min_two max_three min_three max_four min_four   -- for this text's walks alone
set_option linter.unusedVariables false
set_option linter.unusedSimpArgs false

/-! ### impl_MakeFixed: function 25 -/
mutual
def impl_MakeFixed.j0 : Nat → Int → Int → Int → Bool → Option (Int × Int × (List (S24)) × Int)
 | 0, _, _, _, _ => none
 | k + 1, x0, x1, x2, x11 => if x11 = true then (some (0, 0, ([] : List (S24)), 2)) else (if (Int.tmod x2 3) = 0 then ((impl_power.f k x0).bind fun t181 => (impl_MakeFixed.l0 k x0 x1 x2 t181 0 (IntKind.i8.wrap (x0)) (IntKind.i8.wrap (x1)) ([] : List (S24)))) else (some (0, 0, ([] : List (S24)), 4)))
def impl_MakeFixed.l0 : Nat → Int → Int → Int → Int → Int → Int → Int → List (S24) → Option (Int × Int × (List (S24)) × Int)
 | 0, _, _, _, _, _, _, _, _ => none
 | k + 1, x0, x1, x2, x37, x38, x181000, x181001, x181002 => if x38 < x37 then ((impl_wordAt.f k x0 x38).bind fun bt183 => ((impl_Word.f x181002).bind fun t188 => (if t188 < x2 then ((impl_begins.f k x0 x1 bt183.1 bt183.2.1 bt183.2.2.1 bt183.2.2.2).bind fun t189 => (impl_MakeFixed.j2 k x0 x1 x2 x37 x38 t189 x181000 x181001 x181002 bt183.1 bt183.2.1 bt183.2.2.1 bt183.2.2.2)) else (impl_MakeFixed.j2 k x0 x1 x2 x37 x38 false x181000 x181001 x181002 bt183.1 bt183.2.1 bt183.2.2.1 bt183.2.2.2)))) else ((impl_Word.f x181002).bind fun t182 => (if t182 < x2 then (some (0, 0, ([] : List (S24)), 6)) else (some (x181000, x181001, x181002, 0))))
def impl_MakeFixed.j2 : Nat → Int → Int → Int → Int → Int → Bool → Int → Int → List (S24) → Int → Int → Int → Int → Option (Int × Int × (List (S24)) × Int)
 | 0, _, _, _, _, _, _, _, _, _, _, _, _, _ => none
 | k + 1, x0, x1, x2, x37, x38, x54, x181000, x181001, x181002, x188000, x188001, x188002, x188003 => if x54 = true then ((impl_next.f k x0 x188000 x188001 x188002 x188003).bind fun bt190 => ((impl_next.f k x0 x188000 x188001 x188002 x188003).bind fun bt194 => ((impl_next.f k x0 bt194.1 bt194.2.1 bt194.2.2.1 bt194.2.2.2).bind fun bt198 => ((some (([(⟨x188000, x188001, x188002, x188003⟩ : S24), (⟨bt190.1, bt190.2.1, bt190.2.2.1, bt190.2.2.2⟩ : S24), (⟨bt198.1, bt198.2.1, bt198.2.2.1, bt198.2.2.2⟩ : S24)] : List (S24)) : List (S24))).bind fun y202 => (if x181002.length + y202.length < 35184372088832 then (impl_MakeFixed.l0 k x0 x1 x2 x37 (wrap64 (x38 + 1)) x181000 x181001 (x181002 ++ y202)) else (none)))))) else (impl_MakeFixed.l0 k x0 x1 x2 x37 (wrap64 (x38 + 1)) x181000 x181001 x181002)
end
def impl_MakeFixed.f (k : Nat) (a0 : Int) (a1 : Int) (a2 : Int) : Option (Int × Int × (List (S24)) × Int) := (impl_areLetters.f a0).bind fun t177 => (if t177 = true then ((impl_isKind.f a1).bind fun t178 => (if t178 = true then ((impl_within.f a2 1 80).bind fun t179 => (impl_MakeFixed.j0 k a0 a1 a2 (!t179))) else (impl_MakeFixed.j0 k a0 a1 a2 true))) else (impl_MakeFixed.j0 k a0 a1 a2 true))
theorem impl_MakeFixed.mono_l : ∀ k, (∀ y0 y1 y2 y3, LeO (impl_MakeFixed.j0 k y0 y1 y2 y3) (impl_MakeFixed.j0 (k + 1) y0 y1 y2 y3)) ∧ (∀ y0 y1 y2 y3 y4 y5 y6 y7, LeO (impl_MakeFixed.l0 k y0 y1 y2 y3 y4 y5 y6 y7) (impl_MakeFixed.l0 (k + 1) y0 y1 y2 y3 y4 y5 y6 y7)) ∧ (∀ y0 y1 y2 y3 y4 y5 y6 y7 y8 y9 y10 y11 y12, LeO (impl_MakeFixed.j2 k y0 y1 y2 y3 y4 y5 y6 y7 y8 y9 y10 y11 y12) (impl_MakeFixed.j2 (k + 1) y0 y1 y2 y3 y4 y5 y6 y7 y8 y9 y10 y11 y12))
 | 0 => ⟨fun _ _ _ _ r h => by simp [impl_MakeFixed.j0] at h, fun _ _ _ _ _ _ _ _ r h => by simp [impl_MakeFixed.l0] at h, fun _ _ _ _ _ _ _ _ _ _ _ _ _ r h => by simp [impl_MakeFixed.j2] at h⟩
 | k + 1 => by
  obtain ⟨ih0, ih1, ih2⟩ := impl_MakeFixed.mono_l k
  refine ⟨?_, ?_, ?_⟩
  ·intro y0 y1 y2 y3
   unfold impl_MakeFixed.j0
   repeat' first
   | (with_reducible exact ih0 _ _ _ _)
   | (with_reducible exact ih1 _ _ _ _ _ _ _ _)
   | (with_reducible exact ih2 _ _ _ _ _ _ _ _ _ _ _ _ _)
   | (with_reducible exact impl_begins.mono _ _ _ _ _ _ _)
   | (with_reducible exact impl_next.mono _ _ _ _ _ _)
   | (with_reducible exact impl_power.mono _ _)
   | (with_reducible exact impl_wordAt.mono _ _ _)
   | (with_reducible exact LeO.refl _)
   | (with_reducible exact LeO.none _)
   | (with_reducible refine LeO.ite ?_ ?_)
   | (with_reducible refine LeO.bind ?_ (fun _ => ?_))
   | exact ih0 _ _ _ _
   | exact ih1 _ _ _ _ _ _ _ _
   | exact ih2 _ _ _ _ _ _ _ _ _ _ _ _ _
   | exact impl_begins.mono _ _ _ _ _ _ _
   | exact impl_next.mono _ _ _ _ _ _
   | exact impl_power.mono _ _
   | exact impl_wordAt.mono _ _ _
   | exact LeO.none _
   | refine LeO.ite ?_ ?_
   | refine LeO.bind ?_ (fun _ => ?_)
  ·intro y0 y1 y2 y3 y4 y5 y6 y7
   unfold impl_MakeFixed.l0
   repeat' first
   | (with_reducible exact ih0 _ _ _ _)
   | (with_reducible exact ih1 _ _ _ _ _ _ _ _)
   | (with_reducible exact ih2 _ _ _ _ _ _ _ _ _ _ _ _ _)
   | (with_reducible exact impl_begins.mono _ _ _ _ _ _ _)
   | (with_reducible exact impl_next.mono _ _ _ _ _ _)
   | (with_reducible exact impl_power.mono _ _)
   | (with_reducible exact impl_wordAt.mono _ _ _)
   | (with_reducible exact LeO.refl _)
   | (with_reducible exact LeO.none _)
   | (with_reducible refine LeO.ite ?_ ?_)
   | (with_reducible refine LeO.bind ?_ (fun _ => ?_))
   | exact ih0 _ _ _ _
   | exact ih1 _ _ _ _ _ _ _ _
   | exact ih2 _ _ _ _ _ _ _ _ _ _ _ _ _
   | exact impl_begins.mono _ _ _ _ _ _ _
   | exact impl_next.mono _ _ _ _ _ _
   | exact impl_power.mono _ _
   | exact impl_wordAt.mono _ _ _
   | exact LeO.none _
   | refine LeO.ite ?_ ?_
   | refine LeO.bind ?_ (fun _ => ?_)
  ·intro y0 y1 y2 y3 y4 y5 y6 y7 y8 y9 y10 y11 y12
   unfold impl_MakeFixed.j2
   repeat' first
   | (with_reducible exact ih0 _ _ _ _)
   | (with_reducible exact ih1 _ _ _ _ _ _ _ _)
   | (with_reducible exact ih2 _ _ _ _ _ _ _ _ _ _ _ _ _)
   | (with_reducible exact impl_begins.mono _ _ _ _ _ _ _)
   | (with_reducible exact impl_next.mono _ _ _ _ _ _)
   | (with_reducible exact impl_power.mono _ _)
   | (with_reducible exact impl_wordAt.mono _ _ _)
   | (with_reducible exact LeO.refl _)
   | (with_reducible exact LeO.none _)
   | (with_reducible refine LeO.ite ?_ ?_)
   | (with_reducible refine LeO.bind ?_ (fun _ => ?_))
   | exact ih0 _ _ _ _
   | exact ih1 _ _ _ _ _ _ _ _
   | exact ih2 _ _ _ _ _ _ _ _ _ _ _ _ _
   | exact impl_begins.mono _ _ _ _ _ _ _
   | exact impl_next.mono _ _ _ _ _ _
   | exact impl_power.mono _ _
   | exact impl_wordAt.mono _ _ _
   | exact LeO.none _
   | refine LeO.ite ?_ ?_
   | refine LeO.bind ?_ (fun _ => ?_)
theorem impl_MakeFixed.mono : ∀ a0 a1 a2 k, LeO (impl_MakeFixed.f k a0 a1 a2) (impl_MakeFixed.f (k + 1) a0 a1 a2) := by
 intro a0 a1 a2 k
 obtain ⟨ih0, ih1, ih2⟩ := impl_MakeFixed.mono_l k
 unfold impl_MakeFixed.f
 repeat' first
   | (with_reducible exact ih0 _ _ _ _)
   | (with_reducible exact ih1 _ _ _ _ _ _ _ _)
   | (with_reducible exact ih2 _ _ _ _ _ _ _ _ _ _ _ _ _)
   | (with_reducible exact impl_begins.mono _ _ _ _ _ _ _)
   | (with_reducible exact impl_next.mono _ _ _ _ _ _)
   | (with_reducible exact impl_power.mono _ _)
   | (with_reducible exact impl_wordAt.mono _ _ _)
   | (with_reducible exact LeO.refl _)
   | (with_reducible exact LeO.none _)
   | (with_reducible refine LeO.ite ?_ ?_)
   | (with_reducible refine LeO.bind ?_ (fun _ => ?_))
   | exact ih0 _ _ _ _
   | exact ih1 _ _ _ _ _ _ _ _
   | exact ih2 _ _ _ _ _ _ _ _ _ _ _ _ _
   | exact impl_begins.mono _ _ _ _ _ _ _
   | exact impl_next.mono _ _ _ _ _ _
   | exact impl_power.mono _ _
   | exact impl_wordAt.mono _ _ _
   | exact LeO.none _
   | refine LeO.ite ?_ ?_
   | refine LeO.bind ?_ (fun _ => ?_)
def impl_MakeFixed.T11 : Bool × List (List Nat × List Nat) := (true, [([], []), ([0], [0]), ([], []), ([], []), ([], []), ([3, 4], [3, 4]), ([], []), ([], []), ([], []), ([7, 8, 5], [7, 8]), ([6, 9, 9], [6, 9]), ([2, 5, 10], [2, 5, 10]), ([1, 11, 10], [1, 11]), ([0, 1, 2, 3, 4, 5, 6, 7, 8, 9, 10, 11, 12], []), ([13, 12, 12, 0, 1, 2, 3, 4, 5, 6, 7, 8, 9, 10, 11, 12], [12, 13])])
def impl_MakeFixed.B11 : List Nat := [0, 1, 0, 0, 0, 24, 0, 0, 0, 440, 1016, 2044, 4095, 8191, 16383]
theorem impl_MakeFixed.tab11 : rtab .any (opsOf Try.f25 11) = impl_MakeFixed.T11 := by kernel_rfl
theorem impl_MakeFixed.bits11 : waitsOk impl_MakeFixed.T11.2 impl_MakeFixed.B11 = true := by kernel_rfl
set_option maxHeartbeats 8000000 in
set_option maxRecDepth 100000 in
theorem impl_MakeFixed.calls (k : Nat) (a0 : Int) (a1 : Int) (a2 : Int) (r1 : Int) (r2 : Int) (r3 : List (S24)) (r4 : Int) (w : World) (h : impl_MakeFixed.f k a0 a1 a2 = some (r1, r2, r3, r4)) :
  Calls Try.prog 25 #[.int .i64 a0, .int .i64 a1, .int .i64 a2] w fun e w' => ∃ v2_ : Value, e = .returned (.tuple #[.agg #[.int .i8 r1, .int .i8 r2, v2_], .int .i64 r4]) ∧ Kd.R k24 24 w' w.heap.size (fun _ => True) v2_ r3 ∧ Below w.heap.size w w' := by
 have hu40 := Try.underlying40
 have hu24 := Try.underlying24
 have HB := Aside0.mk (Below.refl w.heap.size w)
 have H : ((impl_areLetters.f a0).bind fun t177 => (if t177 = true then ((impl_isKind.f a1).bind fun t178 => (if t178 = true then ((impl_within.f a2 1 80).bind fun t179 => (impl_MakeFixed.j0 k a0 a1 a2 (!t179))) else (impl_MakeFixed.j0 k a0 a1 a2 true))) else (impl_MakeFixed.j0 k a0 a1 a2 true))) = some (r1, r2, r3, r4) := h
 clear h
 have HC4 := Aside0.mk H
 clear H
 go_enter Try.func25, Try.ntmps25
 go_upto_region 1 with (first | ((with_reducible refine gate_dst (N := 6) rfl ?_); refine box_event ?hg (N := 6) ?hd (cs := #[.int .i8 0, .int .i8 0, .slice none 0 0]) (t := 40) ?hr ?_; (case hd => rfl); (case hg => rfl); (case hr => first | (go_simp; done) | (go_simp; rfl)); intro gb176 hg w5 hbox hb; have n0_ := Aside0.mk (below_step (bl_ HB) hb); have n1_ := Aside0.mk (hbox); have n2_ := Aside0.mk ((by rw [hg]; exact (below_size (bl_ HB)) : w.heap.size ≤ gb176)); have n3_ := Aside0.mk ((by rw [hg]; exact (below_size (bl_ HB)) : w.heap.size ≤ gb176)); clear HB; have HB := n0_; have BK176 := n1_; have GW176 := n2_; have GE176 := n3_; clear n0_ n1_ n2_ n3_; clear hb hbox hg))
 (try simp only [Act.put, List.setIfInBounds_toArray, List.set_cons_zero, List.set_cons_succ])
 go_cut [11] (fun v11 wc => ∃ (kq : Nat) (x11_3 : Bool), v11 = .bool x11_3 ∧ Aside0 (impl_MakeFixed.j0 kq a0 a1 a2 x11_3 = some (r1, r2, r3, r4)) ∧ Aside0 (kq ≤ k) ∧ Aside0 (wc.heap[gb176]? = some (.cells #[.int .i8 0, .int .i8 0, (.slice none 0 0)] 40 (0, 0))) ∧ Aside0 (Below w.heap.size w wc))
 case first =>
  have H := HC4.out
  clear HC4
  replace H := Option.bind_eq_some_iff.mp H
  obtain ⟨t177, A60, H⟩ := H
  replace H : (if t177 = true then ((impl_isKind.f a1).bind fun t178 => (if t178 = true then ((impl_within.f a2 1 80).bind fun t179 => (impl_MakeFixed.j0 k a0 a1 a2 (!t179))) else (impl_MakeFixed.j0 k a0 a1 a2 true))) else (impl_MakeFixed.j0 k a0 a1 a2 true)) = some (r1, r2, r3, r4) := H
  have A6 := Aside0.mk A60
  clear A60
  by_cases c7 : t177 = true
  ·subst c7
   have H1 : ((impl_isKind.f a1).bind fun t178 => (if t178 = true then ((impl_within.f a2 1 80).bind fun t179 => (impl_MakeFixed.j0 k a0 a1 a2 (!t179))) else (impl_MakeFixed.j0 k a0 a1 a2 true))) = some (r1, r2, r3, r4) := by rw [if_pos rfl] at H; exact H
   clear H
   have H := H1
   clear H1
   replace H := Option.bind_eq_some_iff.mp H
   obtain ⟨t178, A80, H⟩ := H
   replace H : (if t178 = true then ((impl_within.f a2 1 80).bind fun t179 => (impl_MakeFixed.j0 k a0 a1 a2 (!t179))) else (impl_MakeFixed.j0 k a0 a1 a2 true)) = some (r1, r2, r3, r4) := H
   have A8 := Aside0.mk A80
   clear A80
   by_cases c9 : t178 = true
   ·subst c9
    have H1 : ((impl_within.f a2 1 80).bind fun t179 => (impl_MakeFixed.j0 k a0 a1 a2 (!t179))) = some (r1, r2, r3, r4) := by rw [if_pos rfl] at H; exact H
    clear H
    have H := H1
    clear H1
    replace H := Option.bind_eq_some_iff.mp H
    obtain ⟨t179, A100, H⟩ := H
    replace H : (impl_MakeFixed.j0 k a0 a1 a2 (!t179)) = some (r1, r2, r3, r4) := H
    have A10 := Aside0.mk A100
    clear A100
    have H' := Aside0.mk H
    clear H
    go_wp2_with (first | ((with_reducible refine gate_callee (f := 31) rfl ?_); refine goesL_ (some 13) rfl rfl Try.func31 (by kernel_rfl) rfl #[.int .i64 a0] rfl (by (try simp only [List.map_toArray, List.map_cons, List.map_nil]); first | done | rfl | (simp only [List.length_drop, List.length_take]; rfl)) ?_; (with_reducible refine (impl_areLetters.calls a0 true _ A6.out).mono ?_); rintro e w' ⟨rfl, ⟨nd, rfl⟩⟩; refine ⟨_, rfl, ?_⟩) | (go_at_call 35; (with_reducible refine (impl_isKind.calls a1 true _ A8.out).mono ?_); rintro e w' ⟨rfl, ⟨nd, rfl⟩⟩) | (go_at_call 39; (with_reducible refine (impl_within.calls a2 1 80 t179 _ A10.out).mono ?_); rintro e w' ⟨rfl, ⟨nd, rfl⟩⟩))
    go_meet
    case rel => exact ⟨_, (!t179), (by first | rfl | (simp; done) | (simp [*]; done)), H', ⟨by first | omega | exact Nat.le_refl _⟩, ⟨pl_ BK176⟩, ⟨by repeat (first | (with_reducible first | exact HB.out | apply below_alloc | apply pw_below_drewN | apply below_drew1 | refine below_set ?_ GE176.out) | exact HB.out)⟩⟩
   ·replace c9 := Bool.eq_false_iff.mpr c9
    subst c9
    have H1 : (impl_MakeFixed.j0 k a0 a1 a2 true) = some (r1, r2, r3, r4) := by rw [if_neg (show ¬ (false = true) by decide)] at H; exact H
    clear H
    have H := H1
    clear H1
    have H' := Aside0.mk H
    clear H
    go_wp2_with (first | ((with_reducible refine gate_callee (f := 31) rfl ?_); refine goesL_ (some 13) rfl rfl Try.func31 (by kernel_rfl) rfl #[.int .i64 a0] rfl (by (try simp only [List.map_toArray, List.map_cons, List.map_nil]); first | done | rfl | (simp only [List.length_drop, List.length_take]; rfl)) ?_; (with_reducible refine (impl_areLetters.calls a0 true _ A6.out).mono ?_); rintro e w' ⟨rfl, ⟨nd, rfl⟩⟩; refine ⟨_, rfl, ?_⟩) | (go_at_call 35; (with_reducible refine (impl_isKind.calls a1 false _ A8.out).mono ?_); rintro e w' ⟨rfl, ⟨nd, rfl⟩⟩))
    go_meet
    case rel => exact ⟨_, (true), (by first | rfl | (simp; done) | (simp [*]; done)), H', ⟨by first | omega | exact Nat.le_refl _⟩, ⟨pl_ BK176⟩, ⟨by repeat (first | (with_reducible first | exact HB.out | apply below_alloc | apply pw_below_drewN | apply below_drew1 | refine below_set ?_ GE176.out) | exact HB.out)⟩⟩
  ·replace c7 := Bool.eq_false_iff.mpr c7
   subst c7
   have H1 : (impl_MakeFixed.j0 k a0 a1 a2 true) = some (r1, r2, r3, r4) := by rw [if_neg (show ¬ (false = true) by decide)] at H; exact H
   clear H
   have H := H1
   clear H1
   have H' := Aside0.mk H
   clear H
   go_wp2_with (first | ((with_reducible refine gate_callee (f := 31) rfl ?_); refine goesL_ (some 13) rfl rfl Try.func31 (by kernel_rfl) rfl #[.int .i64 a0] rfl (by (try simp only [List.map_toArray, List.map_cons, List.map_nil]); first | done | rfl | (simp only [List.length_drop, List.length_take]; rfl)) ?_; (with_reducible refine (impl_areLetters.calls a0 false _ A6.out).mono ?_); rintro e w' ⟨rfl, ⟨nd, rfl⟩⟩; refine ⟨_, rfl, ?_⟩))
   go_meet
   case rel => exact ⟨_, (true), (by first | rfl | (simp; done) | (simp [*]; done)), H', ⟨by first | omega | exact Nat.le_refl _⟩, ⟨pl_ BK176⟩, ⟨by repeat (first | (with_reducible first | exact HB.out | apply below_alloc | apply pw_below_drewN | apply below_drew1 | refine below_set ?_ GE176.out) | exact HB.out)⟩⟩
 case rest =>
  clear HC4
  try clear c2
  try clear p2
  try clear c3
  try clear c7
  try clear c9
  obtain ⟨kq, x11_3, rfl, HA, HJ3, BK176, HB⟩ := hcut
  cases kq with
  | zero => exact absurd HA.out (by simp [impl_MakeFixed.j0])
  | succ kj3 =>
   have H := HA.out
   clear HA
   simp only [impl_MakeFixed.j0] at H
   by_cases c11 : x11_3 = true
   ·subst c11
    have H1 : (some (0, 0, ([] : List (S24)), 2)) = some (r1, r2, r3, r4) := by rw [if_pos rfl] at H; exact H
    clear H
    have H := H1
    clear H1
    simp only [Option.some.injEq, Prod.mk.injEq] at H
    obtain ⟨rfl, rfl, rfl, rfl⟩ := H
    have hcz12_0 : wc.cell? ⟨gb176, 0, none⟩ = some (.int .i8 0) := (blk_cell BK176.out 0).trans rfl
    have hcz12_1 : wc.cell? ⟨gb176, 1, none⟩ = some (.int .i8 0) := (blk_cell BK176.out 1).trans rfl
    have hcz12_2 : wc.cell? ⟨gb176, 2, none⟩ = some (.slice none 0 0) := (blk_cell BK176.out 2).trans rfl
    have hfz12_0 := blk_frozen BK176.out 0
    have hfz12_1 := blk_frozen BK176.out 1
    have hfz12_2 := blk_frozen BK176.out 2
    go_wp2
    refine bodyPost_ret (results_ct rfl _ _ gb176 40 #[.int .i8 0, .int .i8 0, .slice none 0 0] (0, 0) _ rfl (by (with_reducible repeat (first | refine blk_drewN ?_ _ | refine blk_drew ?_ | refine blk_alloc ?_ _)); refine blk_put (cs := #[.int .i8 0, .int .i8 0, .slice none 0 0]) ?_ 2 _ rfl; (with_reducible repeat (first | refine blk_drewN ?_ _ | refine blk_drew ?_ | refine blk_alloc ?_ _)); refine blk_put (cs := #[.int .i8 0, .int .i8 0, .slice none 0 0]) ?_ 1 _ rfl; (with_reducible repeat (first | refine blk_drewN ?_ _ | refine blk_drew ?_ | refine blk_alloc ?_ _)); refine blk_put (cs := #[.int .i8 0, .int .i8 0, .slice none 0 0]) ?_ 0 _ rfl; (with_reducible repeat (first | refine blk_drewN ?_ _ | refine blk_drew ?_ | refine blk_alloc ?_ _)); exact BK176.out) Try.underlying40 rfl (by kernel_rfl)) rfl ?_
    exact ⟨_, by first | rfl | (simp [errW_none, errW_some] <;> rfl) | (simp [*, errW_none, errW_some] <;> rfl), by first | exact Kd.R_nil _ _ _ _ _ | exact Kd.N_nil _ _ _ _ _ | exact Kd.V_nil _ _ _ _ _ | exact Kd.Q_nil _ _ _ _ _ | exact Kd.S_nil _ _ _ _ _, by repeat (first | (with_reducible first | exact HB.out | apply below_alloc | apply pw_below_drewN | apply below_drew1 | refine below_set ?_ GE176.out) | exact HB.out)⟩
   ·replace c11 := Bool.eq_false_iff.mpr c11
    subst c11
    have H1 : (if (Int.tmod a2 3) = 0 then ((impl_power.f kj3 a0).bind fun t181 => (impl_MakeFixed.l0 kj3 a0 a1 a2 t181 0 (IntKind.i8.wrap (a0)) (IntKind.i8.wrap (a1)) ([] : List (S24)))) else (some (0, 0, ([] : List (S24)), 4))) = some (r1, r2, r3, r4) := by rw [if_neg (show ¬ (false = true) by decide)] at H; exact H
    clear H
    have H := H1
    clear H1
    by_cases c13 : (Int.tmod a2 3) = 0
    ·rw [if_pos c13] at H
     have c13b0 : ((Int.tmod a2 3) == 0) = true := beq_iff_eq.mpr c13
     have c13b1 : ((Int.tmod a2 3) != 0) = false := bne_eq_false_iff_eq.mpr c13
     clear c13
     replace H := Option.bind_eq_some_iff.mp H
     obtain ⟨t181, A140, H⟩ := H
     replace H : (impl_MakeFixed.l0 kj3 a0 a1 a2 t181 0 (IntKind.i8.wrap (a0)) (IntKind.i8.wrap (a1)) ([] : List (S24))) = some (r1, r2, r3, r4) := H
     have A14 := Aside0.mk A140
     clear A140
     have H' := Aside0.mk H
     clear H
     go_wp2_with (first | ((with_reducible refine gate_dst (N := 8) rfl ?_); refine box_event ?hg (N := 8) ?hd (cs := #[.int .i8 0, .int .i8 0, .slice none 0 0]) (t := 40) ?hr ?_; (case hd => rfl); (case hg => rfl); (case hr => first | (go_simp; done) | (go_simp; rfl)); intro gb180 hg w15 hbox hb; have n0_ := Aside0.mk (blk_below (g := gb176) (o := .cells #[.int .i8 0, .int .i8 0, .slice none 0 0] 40 (0, 0)) (pl_ BK176) hb); have n1_ := Aside0.mk (below_step (by repeat (first | (with_reducible first | exact HB.out | apply below_alloc | apply pw_below_drewN | apply below_drew1 | refine below_set ?_ GE176.out) | exact HB.out)) hb); have n2_ := Aside0.mk (hbox); have n3_ := Aside0.mk ((by rw [hg]; exact (below_size (by repeat (first | (with_reducible first | exact HB.out | apply below_alloc | apply pw_below_drewN | apply below_drew1 | refine below_set ?_ GE176.out) | exact HB.out))) : w.heap.size ≤ gb180)); have n4_ := Aside0.mk ((by rw [hg]; exact (below_size (by repeat (first | (with_reducible first | exact HB.out | apply below_alloc | apply pw_below_drewN | apply below_drew1 | refine below_set ?_ GE176.out) | exact HB.out))) : w.heap.size ≤ gb180)); have n5_ := Aside0.mk ((by rw [hg]; exact Nat.ne_of_lt (blk_lt (g := gb176) (o := .cells #[.int .i8 0, .int .i8 0, .slice none 0 0] 40 (0, 0)) (pl_ BK176)) : gb176 ≠ gb180)); have n6_ := Aside0.mk ((by rw [hg]; exact Nat.ne_of_gt (blk_lt (g := gb176) (o := .cells #[.int .i8 0, .int .i8 0, .slice none 0 0] 40 (0, 0)) (pl_ BK176)) : gb180 ≠ gb176)); clear BK176; clear HB; have BK176 := n0_; have HB := n1_; have BK180 := n2_; have GW180 := n3_; have GE180 := n4_; have NB176_180 := n5_; have NB180_176 := n6_; clear n0_ n1_ n2_ n3_ n4_ n5_ n6_; clear hb hbox hg; have hnb16 := NB180_176.out; have hnc16 := NB176_180.out; have hcz17_0 : w15.cell? ⟨gb180, 0, none⟩ = some (.int .i8 0) := (blk_cell BK180.out 0).trans rfl; have hcz17_1 : w15.cell? ⟨gb180, 1, none⟩ = some (.int .i8 0) := (blk_cell BK180.out 1).trans rfl; have hcz17_2 : w15.cell? ⟨gb180, 2, none⟩ = some (.slice none 0 0) := (blk_cell BK180.out 2).trans rfl; have hfz17_0 := blk_frozen BK180.out 0; have hfz17_1 := blk_frozen BK180.out 1; have hfz17_2 := blk_frozen BK180.out 2) | ((with_reducible refine gate_callee (f := 36) rfl ?_); refine goesL_ (some 37) rfl rfl Try.func36 (by kernel_rfl) rfl #[.int .i64 a0] rfl (by (try simp only [List.map_toArray, List.map_cons, List.map_nil]); first | done | rfl | (simp only [List.length_drop, List.length_take]; rfl)) ?_; (with_reducible refine (impl_power.calls kj3 a0 t181 _ A14.out).mono ?_); rintro e w' ⟨rfl, ⟨nd, rfl⟩⟩; refine ⟨_, rfl, ?_⟩))
     go_loopg [38] kj3 (fun kq v38 w' => ∃ (x38_2 : Int) (x181002_2 : List (S24)) (u181002 : Value), v38 = .int .i64 x38_2 ∧ Aside0 (impl_MakeFixed.l0 kq a0 a1 a2 t181 x38_2 (IntKind.i8.wrap (a0)) (IntKind.i8.wrap (a1)) x181002_2 = some (r1, r2, r3, r4)) ∧ Aside0 (kq ≤ kj3) ∧ Aside0 (Kd.R k24 24 w' w.heap.size (fun _ => True) u181002 x181002_2) ∧ Aside0 (w'.heap[gb176]? = some (.cells #[.int .i8 0, .int .i8 0, (.slice none 0 0)] 40 (0, 0))) ∧ Aside0 (w'.heap[gb180]? = some (.cells #[.int .i8 (IntKind.i8.wrap (a0)), .int .i8 (IntKind.i8.wrap (a1)), u181002] 40 (0, 0))) ∧ Aside0 (Below w.heap.size w w'))
     case atStart => exact ⟨(0), (([] : List (S24))), (.slice none 0 0), (by first | rfl | (simp; done) | (simp [*]; done)), H', ⟨Nat.le_refl _⟩, ⟨by first | exact Kd.R_nil _ _ _ _ _ | exact Kd.N_nil _ _ _ _ _ | exact Kd.V_nil _ _ _ _ _ | exact Kd.Q_nil _ _ _ _ _ | exact Kd.S_nil _ _ _ _ _⟩, ⟨by (with_reducible repeat (first | refine blk_drewN ?_ _ | refine blk_drew ?_ | refine blk_alloc ?_ _)); refine blk_far ?_ NB176_180.out _; (with_reducible repeat (first | refine blk_drewN ?_ _ | refine blk_drew ?_ | refine blk_alloc ?_ _)); refine blk_far ?_ NB176_180.out _; (with_reducible repeat (first | refine blk_drewN ?_ _ | refine blk_drew ?_ | refine blk_alloc ?_ _)); refine blk_far ?_ NB176_180.out _; (with_reducible repeat (first | refine blk_drewN ?_ _ | refine blk_drew ?_ | refine blk_alloc ?_ _)); exact BK176.out⟩, ⟨by (with_reducible repeat (first | refine blk_drewN ?_ _ | refine blk_drew ?_ | refine blk_alloc ?_ _)); refine blk_put (cs := #[.int .i8 (IntKind.i8.wrap (a0)), .int .i8 (IntKind.i8.wrap (a1)), .slice none 0 0]) ?_ 2 _ rfl; (with_reducible repeat (first | refine blk_drewN ?_ _ | refine blk_drew ?_ | refine blk_alloc ?_ _)); refine blk_put (cs := #[.int .i8 (IntKind.i8.wrap (a0)), .int .i8 0, .slice none 0 0]) ?_ 1 _ rfl; (with_reducible repeat (first | refine blk_drewN ?_ _ | refine blk_drew ?_ | refine blk_alloc ?_ _)); refine blk_put (cs := #[.int .i8 0, .int .i8 0, .slice none 0 0]) ?_ 0 _ rfl; (with_reducible repeat (first | refine blk_drewN ?_ _ | refine blk_drew ?_ | refine blk_alloc ?_ _)); exact BK180.out⟩, ⟨by repeat (first | (with_reducible first | exact HB.out | apply below_alloc | apply pw_below_drewN | apply below_drew1 | refine below_set ?_ GE176.out | refine below_set ?_ GE180.out) | exact HB.out)⟩⟩
     case round =>
      clear H'
      try clear c1
      try clear c2
      try clear p2
      try clear c3
      try clear c7
      try clear c9
      try clear c11
      try clear c13
      try clear c13b0
      try clear c13b1
      try clear c16
      try clear hcz12_0
      try clear hcz12_1
      try clear hcz12_2
      try clear hcz17_0
      try clear hcz17_1
      try clear hcz17_2
      try clear hfz12_0
      try clear hfz12_1
      try clear hfz12_2
      try clear hfz17_0
      try clear hfz17_1
      try clear hfz17_2
      try clear p2
      obtain ⟨x38_2, x181002_2, u181002, rfl, HA, HK2, HO_181002, BK176, BK180, HB⟩ := hrel
      cases gk with
      | zero => exact absurd HA.out (by simp [impl_MakeFixed.l0])
      | succ k2 =>
       have H := HA.out
       clear HA
       simp only [impl_MakeFixed.l0] at H
       by_cases c18 : x38_2 < t181
       ·rw [if_pos c18] at H
        have c18b0 : decide (x38_2 < t181) = true := decide_eq_true c18
        clear c18
        replace H := Option.bind_eq_some_iff.mp H
        obtain ⟨⟨t183, t184, t185, t186⟩, A190, H⟩ := H
        replace H : ((impl_Word.f x181002_2).bind fun t188 => (if t188 < a2 then ((impl_begins.f k2 a0 a1 t183 t184 t185 t186).bind fun t189 => (impl_MakeFixed.j2 k2 a0 a1 a2 t181 x38_2 t189 (IntKind.i8.wrap (a0)) (IntKind.i8.wrap (a1)) x181002_2 t183 t184 t185 t186)) else (impl_MakeFixed.j2 k2 a0 a1 a2 t181 x38_2 false (IntKind.i8.wrap (a0)) (IntKind.i8.wrap (a1)) x181002_2 t183 t184 t185 t186))) = some (r1, r2, r3, r4) := H
        have A19 := Aside0.mk A190
        clear A190
        have HC20 := Aside0.mk H
        clear H
        go_upto_region 10 with (first | ((with_reducible refine gate_callee (f := 40) rfl ?_); refine goesL_ (some 43) rfl rfl Try.func40 (by kernel_rfl) rfl #[.int .i64 a0, .int .i64 x38_2] rfl (by (try simp only [List.map_toArray, List.map_cons, List.map_nil]); first | done | rfl | (simp only [List.length_drop, List.length_take]; rfl)) ?_; (with_reducible refine (impl_wordAt.calls k2 a0 x38_2 t183 t184 t185 t186 _ A19.out).mono ?_); rintro e w21 ⟨rfl, hb⟩; refine ⟨_, rfl, ?_⟩; have n0_ := Aside0.mk (Kd.R_below (pr_ HO_181002) hb); have n1_ := Aside0.mk (blk_below (g := gb176) (o := .cells #[.int .i8 0, .int .i8 0, .slice none 0 0] 40 (0, 0)) (pl_ BK176) hb); have n2_ := Aside0.mk (blk_below (g := gb180) (o := .cells #[.int .i8 (IntKind.i8.wrap (a0)), .int .i8 (IntKind.i8.wrap (a1)), u181002] 40 (0, 0)) (pl_ BK180) hb); have n3_ := Aside0.mk (below_step (by repeat (first | (with_reducible first | exact HB.out | apply below_alloc | apply pw_below_drewN | apply below_drew1 | refine below_set ?_ GE176.out | refine below_set ?_ GE180.out) | exact HB.out)) hb); clear HO_181002; clear BK176; clear BK180; clear HB; have HO_181002 := n0_; have BK176 := n1_; have BK180 := n2_; have HB := n3_; clear n0_ n1_ n2_ n3_; (try clear hb); (try clear hb2); (try clear hk); (try clear hi)) | ((with_reducible refine gate_dst (N := 10) rfl ?_); refine box_event ?hg (N := 10) ?hd (cs := #[.int .i8 0, .int .i8 0, .int .i8 0, .int .i8 0]) (t := 24) ?hr ?_; (case hd => rfl); (case hg => rfl); (case hr => first | (go_simp; done) | (go_simp; rfl)); intro gb187 hg w22 hbox hb; have n0_ := Aside0.mk (Kd.R_below (Kd.R_elderB (pr_ HO_181002) gb187 (Nat.le_of_eq hg.symm)) hb); have n1_ := Aside0.mk (blk_below (g := gb176) (o := .cells #[.int .i8 0, .int .i8 0, .slice none 0 0] 40 (0, 0)) (pl_ BK176) hb); have n2_ := Aside0.mk (blk_below (g := gb180) (o := .cells #[.int .i8 (IntKind.i8.wrap (a0)), .int .i8 (IntKind.i8.wrap (a1)), u181002] 40 (0, 0)) (pl_ BK180) hb); have n3_ := Aside0.mk (below_step (by repeat (first | (with_reducible first | exact HB.out | apply below_alloc | apply pw_below_drewN | apply below_drew1 | refine below_set ?_ GE176.out | refine below_set ?_ GE180.out) | exact HB.out)) hb); have n4_ := Aside0.mk (hbox); have n5_ := Aside0.mk ((by rw [hg]; exact (below_size (by repeat (first | (with_reducible first | exact HB.out | apply below_alloc | apply pw_below_drewN | apply below_drew1 | refine below_set ?_ GE176.out | refine below_set ?_ GE180.out) | exact HB.out))) : w.heap.size ≤ gb187)); have n6_ := Aside0.mk ((by rw [hg]; exact (below_size (by repeat (first | (with_reducible first | exact HB.out | apply below_alloc | apply pw_below_drewN | apply below_drew1 | refine below_set ?_ GE176.out | refine below_set ?_ GE180.out) | exact HB.out))) : w.heap.size ≤ gb187)); have n7_ := Aside0.mk ((by rw [hg]; exact Nat.ne_of_lt (blk_lt (g := gb176) (o := .cells #[.int .i8 0, .int .i8 0, .slice none 0 0] 40 (0, 0)) (pl_ BK176)) : gb176 ≠ gb187)); have n8_ := Aside0.mk ((by rw [hg]; exact Nat.ne_of_gt (blk_lt (g := gb176) (o := .cells #[.int .i8 0, .int .i8 0, .slice none 0 0] 40 (0, 0)) (pl_ BK176)) : gb187 ≠ gb176)); have n9_ := Aside0.mk ((by rw [hg]; exact Nat.ne_of_lt (blk_lt (g := gb180) (o := .cells #[.int .i8 (IntKind.i8.wrap (a0)), .int .i8 (IntKind.i8.wrap (a1)), u181002] 40 (0, 0)) (pl_ BK180)) : gb180 ≠ gb187)); have n10_ := Aside0.mk ((by rw [hg]; exact Nat.ne_of_gt (blk_lt (g := gb180) (o := .cells #[.int .i8 (IntKind.i8.wrap (a0)), .int .i8 (IntKind.i8.wrap (a1)), u181002] 40 (0, 0)) (pl_ BK180)) : gb187 ≠ gb180)); clear HO_181002; clear BK176; clear BK180; clear HB; have HO_181002 := n0_; have BK176 := n1_; have BK180 := n2_; have HB := n3_; have BK187 := n4_; have GW187 := n5_; have GE187 := n6_; have NB176_187 := n7_; have NB187_176 := n8_; have NB180_187 := n9_; have NB187_180 := n10_; clear n0_ n1_ n2_ n3_ n4_ n5_ n6_ n7_ n8_ n9_ n10_; clear hb hbox hg; have hnb23 := NB187_176.out; have hnc23 := NB176_187.out; have hnb24 := NB187_180.out; have hnc24 := NB180_187.out; have hcz25_0 : w22.cell? ⟨gb187, 0, none⟩ = some (.int .i8 0) := (blk_cell BK187.out 0).trans rfl; have hcz25_1 : w22.cell? ⟨gb187, 1, none⟩ = some (.int .i8 0) := (blk_cell BK187.out 1).trans rfl; have hcz25_2 : w22.cell? ⟨gb187, 2, none⟩ = some (.int .i8 0) := (blk_cell BK187.out 2).trans rfl; have hcz25_3 : w22.cell? ⟨gb187, 3, none⟩ = some (.int .i8 0) := (blk_cell BK187.out 3).trans rfl; have hfz25_0 := blk_frozen BK187.out 0; have hfz25_1 := blk_frozen BK187.out 1; have hfz25_2 := blk_frozen BK187.out 2; have hfz25_3 := blk_frozen BK187.out 3))
        (try simp only [Act.put, List.setIfInBounds_toArray, List.set_cons_zero, List.set_cons_succ])
        go_cut [54] (fun v54 wc => ∃ (kq : Nat) (x54_19 : Bool), v54 = .bool x54_19 ∧ Aside0 (impl_MakeFixed.j2 kq a0 a1 a2 t181 x38_2 x54_19 (IntKind.i8.wrap (a0)) (IntKind.i8.wrap (a1)) x181002_2 t183 t184 t185 t186 = some (r1, r2, r3, r4)) ∧ Aside0 (kq ≤ k2) ∧ Aside0 (Kd.R k24 24 wc w.heap.size (fun k_ => k_ ≠ gb187) u181002 x181002_2) ∧ Aside0 (wc.heap[gb176]? = some (.cells #[.int .i8 0, .int .i8 0, (.slice none 0 0)] 40 (0, 0))) ∧ Aside0 (wc.heap[gb180]? = some (.cells #[.int .i8 (IntKind.i8.wrap (a0)), .int .i8 (IntKind.i8.wrap (a1)), u181002] 40 (0, 0))) ∧ Aside0 (wc.heap[gb187]? = some (.cells #[.int .i8 t183, .int .i8 t184, .int .i8 t185, .int .i8 t186] 24 (0, 0))) ∧ Aside0 (Below w.heap.size w wc))
        case first =>
         have H := HC20.out
         clear HC20
         replace H := Option.bind_eq_some_iff.mp H
         obtain ⟨t188, A260, H⟩ := H
         replace H : (if t188 < a2 then ((impl_begins.f k2 a0 a1 t183 t184 t185 t186).bind fun t189 => (impl_MakeFixed.j2 k2 a0 a1 a2 t181 x38_2 t189 (IntKind.i8.wrap (a0)) (IntKind.i8.wrap (a1)) x181002_2 t183 t184 t185 t186)) else (impl_MakeFixed.j2 k2 a0 a1 a2 t181 x38_2 false (IntKind.i8.wrap (a0)) (IntKind.i8.wrap (a1)) x181002_2 t183 t184 t185 t186)) = some (r1, r2, r3, r4) := H
         have A26 := Aside0.mk A260
         clear A260
         by_cases c27 : t188 < a2
         ·rw [if_pos c27] at H
          have c27b0 : decide (t188 < a2) = true := decide_eq_true c27
          clear c27
          (first | rw [c27b0] | (simp only [i64_w, i32_w]; rw [c27b0]) | skip)
          replace H := Option.bind_eq_some_iff.mp H
          obtain ⟨t189, A280, H⟩ := H
          replace H : (impl_MakeFixed.j2 k2 a0 a1 a2 t181 x38_2 t189 (IntKind.i8.wrap (a0)) (IntKind.i8.wrap (a1)) x181002_2 t183 t184 t185 t186) = some (r1, r2, r3, r4) := H
          have A28 := Aside0.mk A280
          clear A280
          have H' := Aside0.mk H
          clear H
          have hnb29 := NB180_176.out
          have hnc29 := NB176_180.out
          have hnb30 := NB180_187.out
          have hnc30 := NB187_180.out
          have hcz31_0 : w22.cell? ⟨gb180, 0, none⟩ = some (.int .i8 (IntKind.i8.wrap (a0))) := (blk_cell BK180.out 0).trans rfl
          have hcz31_1 : w22.cell? ⟨gb180, 1, none⟩ = some (.int .i8 (IntKind.i8.wrap (a1))) := (blk_cell BK180.out 1).trans rfl
          have hcz31_2 : w22.cell? ⟨gb180, 2, none⟩ = some (u181002) := (blk_cell BK180.out 2).trans rfl
          have hfz31_0 := blk_frozen BK180.out 0
          have hfz31_1 := blk_frozen BK180.out 1
          have hfz31_2 := blk_frozen BK180.out 2
          obtain ⟨Ao32, co32, eo32⟩ := Kd.R_slice HO_181002.out
          subst eo32
          go_wp2_with (first | ((with_reducible refine gate_callee (f := 48) rfl ?_); refine goesL_ (some 46) rfl rfl Try.func48 (by kernel_rfl) rfl #[.slice Ao32 x181002_2.length co32] rfl (by (try simp only [List.map_toArray, List.map_cons, List.map_nil]); first | done | rfl | (simp only [List.length_drop, List.length_take]; rfl)) ?_; (with_reducible refine (impl_Word.calls _ _ x181002_2 t188 _ ?side1 ?side2 A26.out).mono ?_); (case side1 => refine (Kd.R_reads' (e := 24) (base := w.heap.size) (ok := fun k_ => (True ∧ k_ ≠ gb187)) (n := x181002_2.length) (c := co32) ?_).2.2; exact (by (with_reducible repeat (first | apply Kd.R_alloc | apply Kd.R_drewN | apply Kd.R_drew)); exact (Kd.R_mono (Kd.R_far (p := ⟨gb187, 3, none⟩) (Kd.R_far (p := ⟨gb187, 2, none⟩) (Kd.R_far (p := ⟨gb187, 1, none⟩) (Kd.R_far (p := ⟨gb187, 0, none⟩) (Kd.R_mono HO_181002.out (fun k_ hk => (⟨hk, hk.2⟩ : _ ∧ k_ ≠ gb187))) (fun _ hk => hk.2) (.int .i8 t183)) (fun _ hk => hk.2) (.int .i8 t184)) (fun _ hk => hk.2) (.int .i8 t185)) (fun _ hk => hk.2) (.int .i8 t186)) (fun _ h_ => h_.1)))); (case side2 => exact (Kd.R_reads' HO_181002.out).2.1); rintro e w' ⟨rfl, ⟨nd, rfl⟩⟩; refine ⟨_, rfl, ?_⟩; have hnb33 := NB187_176.out; have hnc33 := NB176_187.out; have hcz34_0 : w22.cell? ⟨gb187, 0, none⟩ = some (.int .i8 0) := (blk_cell BK187.out 0).trans rfl; have hcz34_1 : w22.cell? ⟨gb187, 1, none⟩ = some (.int .i8 0) := (blk_cell BK187.out 1).trans rfl; have hcz34_2 : w22.cell? ⟨gb187, 2, none⟩ = some (.int .i8 0) := (blk_cell BK187.out 2).trans rfl; have hcz34_3 : w22.cell? ⟨gb187, 3, none⟩ = some (.int .i8 0) := (blk_cell BK187.out 3).trans rfl; have hfz34_0 := blk_frozen BK187.out 0; have hfz34_1 := blk_frozen BK187.out 1; have hfz34_2 := blk_frozen BK187.out 2; have hfz34_3 := blk_frozen BK187.out 3) | (go_at_call 49; (with_reducible refine (impl_begins.calls k2 a0 a1 t183 t184 t185 t186 t189 _ A28.out).mono ?_); rintro e w35 ⟨rfl, hb⟩; have n0_ := Aside0.mk (Kd.R_below (by (with_reducible repeat (first | apply Kd.R_alloc | apply Kd.R_drewN | apply Kd.R_drew)); exact (Kd.R_mono (Kd.R_far (p := ⟨gb187, 3, none⟩) (Kd.R_far (p := ⟨gb187, 2, none⟩) (Kd.R_far (p := ⟨gb187, 1, none⟩) (Kd.R_far (p := ⟨gb187, 0, none⟩) (Kd.R_mono HO_181002.out (fun k_ hk => (⟨hk, hk.2⟩ : _ ∧ k_ ≠ gb187))) (fun _ hk => hk.2) (.int .i8 t183)) (fun _ hk => hk.2) (.int .i8 t184)) (fun _ hk => hk.2) (.int .i8 t185)) (fun _ hk => hk.2) (.int .i8 t186)) (fun _ h_ => h_.1))) hb); have n1_ := Aside0.mk (blk_below (g := gb176) (o := .cells #[.int .i8 0, .int .i8 0, .slice none 0 0] 40 (0, 0)) (by (with_reducible repeat (first | refine blk_drewN ?_ _ | refine blk_drew ?_ | refine blk_alloc ?_ _)); refine blk_far ?_ NB176_187.out _; (with_reducible repeat (first | refine blk_drewN ?_ _ | refine blk_drew ?_ | refine blk_alloc ?_ _)); refine blk_far ?_ NB176_187.out _; (with_reducible repeat (first | refine blk_drewN ?_ _ | refine blk_drew ?_ | refine blk_alloc ?_ _)); refine blk_far ?_ NB176_187.out _; (with_reducible repeat (first | refine blk_drewN ?_ _ | refine blk_drew ?_ | refine blk_alloc ?_ _)); refine blk_far ?_ NB176_187.out _; (with_reducible repeat (first | refine blk_drewN ?_ _ | refine blk_drew ?_ | refine blk_alloc ?_ _)); exact BK176.out) hb); have n2_ := Aside0.mk (blk_below (g := gb180) (o := .cells #[.int .i8 (IntKind.i8.wrap (a0)), .int .i8 (IntKind.i8.wrap (a1)), .slice Ao32 x181002_2.length co32] 40 (0, 0)) (by (with_reducible repeat (first | refine blk_drewN ?_ _ | refine blk_drew ?_ | refine blk_alloc ?_ _)); refine blk_far ?_ NB180_187.out _; (with_reducible repeat (first | refine blk_drewN ?_ _ | refine blk_drew ?_ | refine blk_alloc ?_ _)); refine blk_far ?_ NB180_187.out _; (with_reducible repeat (first | refine blk_drewN ?_ _ | refine blk_drew ?_ | refine blk_alloc ?_ _)); refine blk_far ?_ NB180_187.out _; (with_reducible repeat (first | refine blk_drewN ?_ _ | refine blk_drew ?_ | refine blk_alloc ?_ _)); refine blk_far ?_ NB180_187.out _; (with_reducible repeat (first | refine blk_drewN ?_ _ | refine blk_drew ?_ | refine blk_alloc ?_ _)); exact BK180.out) hb); have n3_ := Aside0.mk (blk_below (g := gb187) (o := .cells #[.int .i8 t183, .int .i8 t184, .int .i8 t185, .int .i8 t186] 24 (0, 0)) (by (with_reducible repeat (first | refine blk_drewN ?_ _ | refine blk_drew ?_ | refine blk_alloc ?_ _)); refine blk_put (cs := #[.int .i8 t183, .int .i8 t184, .int .i8 t185, .int .i8 0]) ?_ 3 _ rfl; (with_reducible repeat (first | refine blk_drewN ?_ _ | refine blk_drew ?_ | refine blk_alloc ?_ _)); refine blk_put (cs := #[.int .i8 t183, .int .i8 t184, .int .i8 0, .int .i8 0]) ?_ 2 _ rfl; (with_reducible repeat (first | refine blk_drewN ?_ _ | refine blk_drew ?_ | refine blk_alloc ?_ _)); refine blk_put (cs := #[.int .i8 t183, .int .i8 0, .int .i8 0, .int .i8 0]) ?_ 1 _ rfl; (with_reducible repeat (first | refine blk_drewN ?_ _ | refine blk_drew ?_ | refine blk_alloc ?_ _)); refine blk_put (cs := #[.int .i8 0, .int .i8 0, .int .i8 0, .int .i8 0]) ?_ 0 _ rfl; (with_reducible repeat (first | refine blk_drewN ?_ _ | refine blk_drew ?_ | refine blk_alloc ?_ _)); exact BK187.out) hb); have n4_ := Aside0.mk (below_step (by repeat (first | (with_reducible first | exact HB.out | apply below_alloc | apply pw_below_drewN | apply below_drew1 | refine below_set ?_ GE176.out | refine below_set ?_ GE180.out | refine below_set ?_ GE187.out) | exact HB.out)) hb); clear HO_181002; clear BK176; clear BK180; clear BK187; clear HB; have HO_181002 := n0_; have BK176 := n1_; have BK180 := n2_; have BK187 := n3_; have HB := n4_; clear n0_ n1_ n2_ n3_ n4_; (try clear hb); (try clear hb2); (try clear hk); (try clear hi)))
          go_meet
          case rel => exact ⟨_, (t189), (by first | rfl | (simp; done) | (simp [*]; done)), H', ⟨by have := HJ3.out; have := HK2.out; first | omega | exact Nat.le_refl _⟩, ⟨by (with_reducible repeat (first | apply Kd.R_alloc | apply Kd.R_drewN | apply Kd.R_drew)); exact Kd.R_mono HO_181002.out (fun _ hk => hk.2)⟩, ⟨pl_ BK176⟩, ⟨pl_ BK180⟩, ⟨pl_ BK187⟩, ⟨by repeat (first | (with_reducible first | exact HB.out | apply below_alloc | apply pw_below_drewN | apply below_drew1 | refine below_set ?_ GE176.out | refine below_set ?_ GE180.out | refine below_set ?_ GE187.out) | exact HB.out)⟩⟩
         ·rw [if_neg c27] at H
          have c27b0 : decide (t188 < a2) = false := decide_eq_false c27
          clear c27
          (first | rw [c27b0] | (simp only [i64_w, i32_w]; rw [c27b0]) | skip)
          have H' := Aside0.mk H
          clear H
          have hnb36 := NB180_176.out
          have hnc36 := NB176_180.out
          have hnb37 := NB180_187.out
          have hnc37 := NB187_180.out
          have hcz38_0 : w22.cell? ⟨gb180, 0, none⟩ = some (.int .i8 (IntKind.i8.wrap (a0))) := (blk_cell BK180.out 0).trans rfl
          have hcz38_1 : w22.cell? ⟨gb180, 1, none⟩ = some (.int .i8 (IntKind.i8.wrap (a1))) := (blk_cell BK180.out 1).trans rfl
          have hcz38_2 : w22.cell? ⟨gb180, 2, none⟩ = some (u181002) := (blk_cell BK180.out 2).trans rfl
          have hfz38_0 := blk_frozen BK180.out 0
          have hfz38_1 := blk_frozen BK180.out 1
          have hfz38_2 := blk_frozen BK180.out 2
          obtain ⟨Ao39, co39, eo39⟩ := Kd.R_slice HO_181002.out
          subst eo39
          go_wp2_with (first | ((with_reducible refine gate_callee (f := 48) rfl ?_); refine goesL_ (some 46) rfl rfl Try.func48 (by kernel_rfl) rfl #[.slice Ao39 x181002_2.length co39] rfl (by (try simp only [List.map_toArray, List.map_cons, List.map_nil]); first | done | rfl | (simp only [List.length_drop, List.length_take]; rfl)) ?_; (with_reducible refine (impl_Word.calls _ _ x181002_2 t188 _ ?side1 ?side2 A26.out).mono ?_); (case side1 => refine (Kd.R_reads' (e := 24) (base := w.heap.size) (ok := fun k_ => (True ∧ k_ ≠ gb187)) (n := x181002_2.length) (c := co39) ?_).2.2; exact (by (with_reducible repeat (first | apply Kd.R_alloc | apply Kd.R_drewN | apply Kd.R_drew)); exact (Kd.R_mono (Kd.R_far (p := ⟨gb187, 3, none⟩) (Kd.R_far (p := ⟨gb187, 2, none⟩) (Kd.R_far (p := ⟨gb187, 1, none⟩) (Kd.R_far (p := ⟨gb187, 0, none⟩) (Kd.R_mono HO_181002.out (fun k_ hk => (⟨hk, hk.2⟩ : _ ∧ k_ ≠ gb187))) (fun _ hk => hk.2) (.int .i8 t183)) (fun _ hk => hk.2) (.int .i8 t184)) (fun _ hk => hk.2) (.int .i8 t185)) (fun _ hk => hk.2) (.int .i8 t186)) (fun _ h_ => h_.1)))); (case side2 => exact (Kd.R_reads' HO_181002.out).2.1); rintro e w' ⟨rfl, ⟨nd, rfl⟩⟩; refine ⟨_, rfl, ?_⟩))
          go_meet
          case rel => exact ⟨_, (false), (by first | rfl | (simp; done) | (simp [*]; done)), H', ⟨by have := HJ3.out; have := HK2.out; first | omega | exact Nat.le_refl _⟩, ⟨by (with_reducible repeat (first | apply Kd.R_alloc | apply Kd.R_drewN | apply Kd.R_drew)); exact Kd.R_mono (Kd.R_far (p := ⟨gb187, 3, none⟩) (Kd.R_far (p := ⟨gb187, 2, none⟩) (Kd.R_far (p := ⟨gb187, 1, none⟩) (Kd.R_far (p := ⟨gb187, 0, none⟩) (Kd.R_mono HO_181002.out (fun k_ hk => (⟨hk, hk.2⟩ : _ ∧ k_ ≠ gb187))) (fun _ hk => hk.2) (.int .i8 t183)) (fun _ hk => hk.2) (.int .i8 t184)) (fun _ hk => hk.2) (.int .i8 t185)) (fun _ hk => hk.2) (.int .i8 t186)) (fun _ hk => hk.1.2)⟩, ⟨by (with_reducible repeat (first | refine blk_drewN ?_ _ | refine blk_drew ?_ | refine blk_alloc ?_ _)); refine blk_far ?_ NB176_187.out _; (with_reducible repeat (first | refine blk_drewN ?_ _ | refine blk_drew ?_ | refine blk_alloc ?_ _)); refine blk_far ?_ NB176_187.out _; (with_reducible repeat (first | refine blk_drewN ?_ _ | refine blk_drew ?_ | refine blk_alloc ?_ _)); refine blk_far ?_ NB176_187.out _; (with_reducible repeat (first | refine blk_drewN ?_ _ | refine blk_drew ?_ | refine blk_alloc ?_ _)); refine blk_far ?_ NB176_187.out _; (with_reducible repeat (first | refine blk_drewN ?_ _ | refine blk_drew ?_ | refine blk_alloc ?_ _)); exact BK176.out⟩, ⟨by (with_reducible repeat (first | refine blk_drewN ?_ _ | refine blk_drew ?_ | refine blk_alloc ?_ _)); refine blk_far ?_ NB180_187.out _; (with_reducible repeat (first | refine blk_drewN ?_ _ | refine blk_drew ?_ | refine blk_alloc ?_ _)); refine blk_far ?_ NB180_187.out _; (with_reducible repeat (first | refine blk_drewN ?_ _ | refine blk_drew ?_ | refine blk_alloc ?_ _)); refine blk_far ?_ NB180_187.out _; (with_reducible repeat (first | refine blk_drewN ?_ _ | refine blk_drew ?_ | refine blk_alloc ?_ _)); refine blk_far ?_ NB180_187.out _; (with_reducible repeat (first | refine blk_drewN ?_ _ | refine blk_drew ?_ | refine blk_alloc ?_ _)); exact BK180.out⟩, ⟨by (with_reducible repeat (first | refine blk_drewN ?_ _ | refine blk_drew ?_ | refine blk_alloc ?_ _)); refine blk_put (cs := #[.int .i8 t183, .int .i8 t184, .int .i8 t185, .int .i8 0]) ?_ 3 _ rfl; (with_reducible repeat (first | refine blk_drewN ?_ _ | refine blk_drew ?_ | refine blk_alloc ?_ _)); refine blk_put (cs := #[.int .i8 t183, .int .i8 t184, .int .i8 0, .int .i8 0]) ?_ 2 _ rfl; (with_reducible repeat (first | refine blk_drewN ?_ _ | refine blk_drew ?_ | refine blk_alloc ?_ _)); refine blk_put (cs := #[.int .i8 t183, .int .i8 0, .int .i8 0, .int .i8 0]) ?_ 1 _ rfl; (with_reducible repeat (first | refine blk_drewN ?_ _ | refine blk_drew ?_ | refine blk_alloc ?_ _)); refine blk_put (cs := #[.int .i8 0, .int .i8 0, .int .i8 0, .int .i8 0]) ?_ 0 _ rfl; (with_reducible repeat (first | refine blk_drewN ?_ _ | refine blk_drew ?_ | refine blk_alloc ?_ _)); exact BK187.out⟩, ⟨by repeat (first | (with_reducible first | exact HB.out | apply below_alloc | apply pw_below_drewN | apply below_drew1 | refine below_set ?_ GE176.out | refine below_set ?_ GE180.out | refine below_set ?_ GE187.out) | exact HB.out)⟩⟩
        case rest =>
         clear HC20
         try clear c1
         try clear c2
         try clear p2
         try clear c3
         try clear c4
         try clear c7
         try clear c9
         try clear c11
         try clear c13
         try clear c13b0
         try clear c13b1
         try clear c16
         try clear c18
         try clear c18b0
         try clear c23
         try clear c24
         try clear c25
         try clear c27
         try clear c27b0
         try clear c29
         try clear c30
         try clear c31
         try clear c33
         try clear c36
         try clear c37
         try clear hcz12_0
         try clear hcz12_1
         try clear hcz12_2
         try clear hcz17_0
         try clear hcz17_1
         try clear hcz17_2
         try clear hcz25_0
         try clear hcz25_1
         try clear hcz25_2
         try clear hcz25_3
         try clear hcz31_0
         try clear hcz31_1
         try clear hcz31_2
         try clear hcz34_0
         try clear hcz34_1
         try clear hcz34_2
         try clear hcz34_3
         try clear hcz38_0
         try clear hcz38_1
         try clear hcz38_2
         try clear hfz12_0
         try clear hfz12_1
         try clear hfz12_2
         try clear hfz17_0
         try clear hfz17_1
         try clear hfz17_2
         try clear hfz25_0
         try clear hfz25_1
         try clear hfz25_2
         try clear hfz25_3
         try clear hfz31_0
         try clear hfz31_1
         try clear hfz31_2
         try clear hfz34_0
         try clear hfz34_1
         try clear hfz34_2
         try clear hfz34_3
         try clear hfz38_0
         try clear hfz38_1
         try clear hfz38_2
         try clear p2
         obtain ⟨kq, x54_19, rfl, HA, HJ19, HO_181002, BK176, BK180, BK187, HB⟩ := hcut
         cases kq with
         | zero => exact absurd HA.out (by simp [impl_MakeFixed.j2])
         | succ kj19 =>
          have H := HA.out
          clear HA
          simp only [impl_MakeFixed.j2] at H
          by_cases c40 : x54_19 = true
          ·subst c40
           have H1 : ((impl_next.f kj19 a0 t183 t184 t185 t186).bind fun bt190 => ((impl_next.f kj19 a0 t183 t184 t185 t186).bind fun bt194 => ((impl_next.f kj19 a0 bt194.1 bt194.2.1 bt194.2.2.1 bt194.2.2.2).bind fun bt198 => ((some (([(⟨t183, t184, t185, t186⟩ : S24), (⟨bt190.1, bt190.2.1, bt190.2.2.1, bt190.2.2.2⟩ : S24), (⟨bt198.1, bt198.2.1, bt198.2.2.1, bt198.2.2.2⟩ : S24)] : List (S24)) : List (S24))).bind fun y202 => (if x181002_2.length + y202.length < 35184372088832 then (impl_MakeFixed.l0 kj19 a0 a1 a2 t181 (wrap64 (x38_2 + 1)) (IntKind.i8.wrap (a0)) (IntKind.i8.wrap (a1)) (x181002_2 ++ y202)) else (none)))))) = some (r1, r2, r3, r4) := by rw [if_pos rfl] at H; exact H
           clear H
           have H := H1
           clear H1
           replace H := Option.bind_eq_some_iff.mp H
           obtain ⟨⟨t190, t191, t192, t193⟩, A410, H⟩ := H
           replace H : ((impl_next.f kj19 a0 t183 t184 t185 t186).bind fun bt194 => ((impl_next.f kj19 a0 bt194.1 bt194.2.1 bt194.2.2.1 bt194.2.2.2).bind fun bt198 => ((some (([(⟨t183, t184, t185, t186⟩ : S24), (⟨t190, t191, t192, t193⟩ : S24), (⟨bt198.1, bt198.2.1, bt198.2.2.1, bt198.2.2.2⟩ : S24)] : List (S24)) : List (S24))).bind fun y202 => (if x181002_2.length + y202.length < 35184372088832 then (impl_MakeFixed.l0 kj19 a0 a1 a2 t181 (wrap64 (x38_2 + 1)) (IntKind.i8.wrap (a0)) (IntKind.i8.wrap (a1)) (x181002_2 ++ y202)) else (none))))) = some (r1, r2, r3, r4) := H
           have A41 := Aside0.mk A410
           clear A410
           replace H := Option.bind_eq_some_iff.mp H
           obtain ⟨⟨t194, t195, t196, t197⟩, A420, H⟩ := H
           replace H : ((impl_next.f kj19 a0 t194 t195 t196 t197).bind fun bt198 => ((some (([(⟨t183, t184, t185, t186⟩ : S24), (⟨t190, t191, t192, t193⟩ : S24), (⟨bt198.1, bt198.2.1, bt198.2.2.1, bt198.2.2.2⟩ : S24)] : List (S24)) : List (S24))).bind fun y202 => (if x181002_2.length + y202.length < 35184372088832 then (impl_MakeFixed.l0 kj19 a0 a1 a2 t181 (wrap64 (x38_2 + 1)) (IntKind.i8.wrap (a0)) (IntKind.i8.wrap (a1)) (x181002_2 ++ y202)) else (none)))) = some (r1, r2, r3, r4) := H
           have A42 := Aside0.mk A420
           clear A420
           replace H := Option.bind_eq_some_iff.mp H
           obtain ⟨⟨t198, t199, t200, t201⟩, A430, H⟩ := H
           replace H : ((some (([(⟨t183, t184, t185, t186⟩ : S24), (⟨t190, t191, t192, t193⟩ : S24), (⟨t198, t199, t200, t201⟩ : S24)] : List (S24)) : List (S24))).bind fun y202 => (if x181002_2.length + y202.length < 35184372088832 then (impl_MakeFixed.l0 kj19 a0 a1 a2 t181 (wrap64 (x38_2 + 1)) (IntKind.i8.wrap (a0)) (IntKind.i8.wrap (a1)) (x181002_2 ++ y202)) else (none))) = some (r1, r2, r3, r4) := H
           have A43 := Aside0.mk A430
           clear A430
           obtain ⟨y202, hy202⟩ : ∃ y_ : List (S24), y_ = (([(⟨t183, t184, t185, t186⟩ : S24), (⟨t190, t191, t192, t193⟩ : S24), (⟨t198, t199, t200, t201⟩ : S24)] : List (S24))) := ⟨_, rfl⟩
           replace H : (if x181002_2.length + y202.length < 35184372088832 then (impl_MakeFixed.l0 kj19 a0 a1 a2 t181 (wrap64 (x38_2 + 1)) (IntKind.i8.wrap (a0)) (IntKind.i8.wrap (a1)) (x181002_2 ++ y202)) else (none)) = some (r1, r2, r3, r4) := by first | (rw [hy202]; with_reducible exact H) | (have H2_ := (Option.bind_some _ _).symm.trans H; rw [hy202]; with_reducible exact H2_) | (have H2_ := (Option.bind_some _ _).symm.trans H; with_reducible exact H2_) | with_reducible exact H | (rw [hy202]; exact H) | exact H
           have Ny202 := Aside0.mk hy202
           clear hy202
           by_cases c44 : x181002_2.length + y202.length < 35184372088832
           ·rw [if_pos c44] at H
            have LMc44 := Aside0.mk c44
            clear c44
            obtain ⟨y205, hy205⟩ : ∃ y_ : List (S24), y_ = (x181002_2 ++ y202) := ⟨_, rfl⟩
            replace H : (impl_MakeFixed.l0 kj19 a0 a1 a2 t181 (wrap64 (x38_2 + 1)) (IntKind.i8.wrap (a0)) (IntKind.i8.wrap (a1)) y205) = some (r1, r2, r3, r4) := by first | (rw [hy205]; with_reducible exact H) | (have H2_ := (Option.bind_some _ _).symm.trans H; rw [hy205]; with_reducible exact H2_) | (have H2_ := (Option.bind_some _ _).symm.trans H; with_reducible exact H2_) | with_reducible exact H | (rw [hy205]; exact H) | exact H
            have Ny205 := Aside0.mk hy205
            clear hy205
            have H' := Aside0.mk H
            clear H
            try go_wp2
            have n0_ := Aside0.mk (Kd.R_drew HO_181002.out)
            have n1_ := Aside0.mk (blk_drew BK176.out)
            have n2_ := Aside0.mk (blk_drew BK180.out)
            have n3_ := Aside0.mk (blk_drew BK187.out)
            have n4_ := Aside0.mk (below_drew1 HB.out)
            clear HO_181002
            clear BK176
            clear BK180
            clear BK187
            clear HB
            have HO_181002 := n0_
            have BK176 := n1_
            have BK180 := n2_
            have BK187 := n3_
            have HB := n4_
            clear n0_ n1_ n2_ n3_ n4_
            refine start_ (n := 15) (S := fun w' => w'.cell? ⟨gb180, 0, none⟩ = some (.int .i8 (IntKind.i8.wrap (a0))) ∧ w'.cell? ⟨gb180, 1, none⟩ = some (.int .i8 (IntKind.i8.wrap (a1))) ∧ w'.cell? ⟨gb180, 2, none⟩ = some (u181002) ∧ w'.cell? ⟨gb187, 0, none⟩ = some (.int .i8 t183) ∧ w'.cell? ⟨gb187, 1, none⟩ = some (.int .i8 t184) ∧ w'.cell? ⟨gb187, 2, none⟩ = some (.int .i8 t185) ∧ w'.cell? ⟨gb187, 3, none⟩ = some (.int .i8 t186)) (ds := [14]) #[false, false, false, false, false, false, false, false, false, false, false, false, false, false, false] (by kernel_rfl) rfl rfl ⟨(blk_cell BK180.out 0).trans rfl, (blk_cell BK180.out 1).trans rfl, (blk_cell BK180.out 2).trans rfl, (blk_cell BK187.out 0).trans rfl, (blk_cell BK187.out 1).trans rfl, (blk_cell BK187.out 2).trans rfl, (blk_cell BK187.out 3).trans rfl⟩ (fun hHeld => ?_); refine with_tabW impl_MakeFixed.tab11 impl_MakeFixed.bits11 (fun HT_ HW_ => ?_)
            generalize wc.drew = w45 at HO_181002 BK176 BK180 BK187 HB hHeld ⊢
            refine pure_ (i := 0) (N := some 55) (v := ?_) (a' := ?_) #[true, false, false, false, false, false, false, false, false, false, false, false, false, false, false] rfl rfl (any_of HT_.out (by kernel_rfl)) (fun _ _ _ h => h) (Or.inl ⟨by rfl, ?_⟩) ?_ ?_
            rotate_left
            ·intro w'
             go_simp
             with_reducible rfl
            rotate_left
            ·simp only [Act.put, List.setIfInBounds_toArray, List.set_cons_zero, List.set_cons_succ, i64_w, i32_w]
             rfl
            refine pure_ (i := 3) (N := some 58) (v := ?_) (a' := ?_) #[true, false, false, true, false, false, false, false, false, false, false, false, false, false, false] rfl rfl (any_of HT_.out (by kernel_rfl)) (fun _ _ _ h => h) (Or.inl ⟨by rfl, ?_⟩) ?_ ?_
            rotate_left
            ·intro w'
             go_simp
             with_reducible rfl
            rotate_left
            ·simp only [Act.put, List.setIfInBounds_toArray, List.set_cons_zero, List.set_cons_succ, i64_w, i32_w]
             rfl
            refine pure_ (i := 6) (N := some 61) (v := ?_) (a' := ?_) #[true, false, false, true, false, false, true, false, false, false, false, false, false, false, false] rfl rfl (any_of HT_.out (by kernel_rfl)) (fun _ _ _ h => h) (Or.inl ⟨by rfl, ?_⟩) ?_ ?_
            rotate_left
            ·intro w'
             go_simp
             with_reducible rfl
            rotate_left
            ·simp only [Act.put, List.setIfInBounds_toArray, List.set_cons_zero, List.set_cons_succ, i64_w, i32_w]
             rfl
            refine pure_ (i := 7) (N := some 62) (v := ?_) (a' := ?_) #[true, false, false, true, false, false, true, true, false, false, false, false, false, false, false] rfl rfl (any_of HT_.out (by kernel_rfl)) (fun _ _ _ h => h) (Or.inl ⟨by rfl, ?_⟩) ?_ ?_
            rotate_left
            ·intro w'
             go_simp
             with_reducible rfl
            rotate_left
            ·simp only [Act.put, List.setIfInBounds_toArray, List.set_cons_zero, List.set_cons_succ, i64_w, i32_w]
             rfl
            refine take_ (i := 1) (N := some 56) (v := ?_) (a' := ?_) #[true, true, false, true, false, false, true, true, false, false, false, false, false, false, false] rfl rfl (take_ofW HT_.out HW_.out (by kernel_rfl)) (fun _ _ _ h => h) (Or.inl ⟨by rfl, ?_⟩) hHeld ?_ ?_
            rotate_left
            ·rintro w' ⟨s0, s1, s2, s3, s4, s5, s6⟩
             go_simp
             with_reducible rfl
            rotate_left
            ·simp only [Act.put, List.setIfInBounds_toArray, List.set_cons_zero, List.set_cons_succ, i64_w, i32_w]
             rfl
            refine take_ (i := 2) (N := some 57) (v := ?_) (a' := ?_) #[true, true, true, true, false, false, true, true, false, false, false, false, false, false, false] rfl rfl (take_ofW HT_.out HW_.out (by kernel_rfl)) (fun _ _ _ h => h) (Or.inl ⟨by rfl, ?_⟩) hHeld ?_ ?_
            rotate_left
            ·rintro w' ⟨s0, s1, s2, s3, s4, s5, s6⟩
             go_simp
             with_reducible rfl
            rotate_left
            ·simp only [Act.put, List.setIfInBounds_toArray, List.set_cons_zero, List.set_cons_succ, i64_w, i32_w]
             rfl
            refine take_ (i := 4) (N := some 59) (v := ?_) (a' := ?_) #[true, true, true, true, true, false, true, true, false, false, false, false, false, false, false] rfl rfl (take_ofW HT_.out HW_.out (by kernel_rfl)) (fun _ _ _ h => h) (Or.inl ⟨by rfl, ?_⟩) hHeld ?_ ?_
            rotate_left
            ·rintro w' ⟨s0, s1, s2, s3, s4, s5, s6⟩
             go_simp
             with_reducible rfl
            rotate_left
            ·simp only [Act.put, List.setIfInBounds_toArray, List.set_cons_zero, List.set_cons_succ, i64_w, i32_w]
             rfl
            refine take_ (i := 8) (N := some 63) (v := ?_) (a' := ?_) #[true, true, true, true, true, false, true, true, true, false, false, false, false, false, false] rfl rfl (take_ofW HT_.out HW_.out (by kernel_rfl)) (fun _ _ _ h => h) (Or.inl ⟨by rfl, ?_⟩) hHeld ?_ ?_
            rotate_left
            ·rintro w' ⟨s0, s1, s2, s3, s4, s5, s6⟩
             go_simp
             with_reducible rfl
            rotate_left
            ·simp only [Act.put, List.setIfInBounds_toArray, List.set_cons_zero, List.set_cons_succ, i64_w, i32_w]
             rfl
            refine one_ (i := 5) (N := some 60) #[true, true, true, true, true, true, true, true, true, false, false, false, false, false, false] rfl rfl (one_of HT_.out (by kernel_rfl)) (by decide) (fun K hK => ?_)
            refine goes_ Try.func46 (by kernel_rfl) rfl #[.int .i64 a0, .agg #[.int .i8 t183, .int .i8 t184, .int .i8 t185, .int .i8 t186]] (by rfl) rfl rfl (by (try simp only [List.map_toArray, List.map_cons, List.map_nil]); first | done | rfl | (simp only [List.length_drop, List.length_take]; rfl)) ?_
            with_reducible refine (impl_next.calls kj19 a0 t183 t184 t185 t186 t190 t191 t192 t193 _ A41.out).mono ?_
            rintro e w46 ⟨rfl, hb⟩
            refine ⟨_, rfl, ?_⟩
            have n0_ := Aside0.mk (Kd.R_below (pr_ HO_181002) hb)
            have n1_ := Aside0.mk (blk_below (g := gb176) (o := .cells #[.int .i8 0, .int .i8 0, .slice none 0 0] 40 (0, 0)) (pl_ BK176) hb)
            have n2_ := Aside0.mk (blk_below (g := gb180) (o := .cells #[.int .i8 (IntKind.i8.wrap (a0)), .int .i8 (IntKind.i8.wrap (a1)), u181002] 40 (0, 0)) (pl_ BK180) hb)
            have n3_ := Aside0.mk (blk_below (g := gb187) (o := .cells #[.int .i8 t183, .int .i8 t184, .int .i8 t185, .int .i8 t186] 24 (0, 0)) (pl_ BK187) hb)
            have n4_ := Aside0.mk (below_step (by repeat (first | (with_reducible first | exact HB.out | apply below_alloc | apply pw_below_drewN | apply below_drew1 | refine below_set ?_ GE176.out | refine below_set ?_ GE180.out | refine below_set ?_ GE187.out) | exact HB.out)) hb)
            clear HO_181002
            clear BK176
            clear BK180
            clear BK187
            clear HB
            have HO_181002 := n0_
            have BK176 := n1_
            have BK180 := n2_
            have BK187 := n3_
            have HB := n4_
            clear n0_ n1_ n2_ n3_ n4_
            (try clear hb)
            (try clear hb2)
            (try clear hk)
            (try clear hi)
            refine hK.out _ _ ⟨(blk_cell BK180.out 0).trans rfl, (blk_cell BK180.out 1).trans rfl, (blk_cell BK180.out 2).trans rfl, (blk_cell BK187.out 0).trans rfl, (blk_cell BK187.out 1).trans rfl, (blk_cell BK187.out 2).trans rfl, (blk_cell BK187.out 3).trans rfl⟩ (fun hHeld => ?_)
            clear hK K
            refine norm_ (a' := ?_) ?_ ?_
            rotate_left
            ·show Act.put _ (some 60) _ = _
             simp only [Act.put, List.setIfInBounds_toArray, List.set_cons_zero, List.set_cons_succ, i64_w, i32_w]
             rfl
            refine one_ (i := 9) (N := some 64) #[true, true, true, true, true, true, true, true, true, true, false, false, false, false, false] rfl rfl (one_of HT_.out (by kernel_rfl)) (by decide) (fun K hK => ?_)
            refine goes_ Try.func46 (by kernel_rfl) rfl #[.int .i64 a0, .agg #[.int .i8 t183, .int .i8 t184, .int .i8 t185, .int .i8 t186]] (by rfl) rfl rfl (by (try simp only [List.map_toArray, List.map_cons, List.map_nil]); first | done | rfl | (simp only [List.length_drop, List.length_take]; rfl)) ?_
            with_reducible refine (impl_next.calls kj19 a0 t183 t184 t185 t186 t194 t195 t196 t197 _ A42.out).mono ?_
            rintro e w47 ⟨rfl, hb⟩
            refine ⟨_, rfl, ?_⟩
            have n0_ := Aside0.mk (Kd.R_below (pr_ HO_181002) hb)
            have n1_ := Aside0.mk (blk_below (g := gb176) (o := .cells #[.int .i8 0, .int .i8 0, .slice none 0 0] 40 (0, 0)) (pl_ BK176) hb)
            have n2_ := Aside0.mk (blk_below (g := gb180) (o := .cells #[.int .i8 (IntKind.i8.wrap (a0)), .int .i8 (IntKind.i8.wrap (a1)), u181002] 40 (0, 0)) (pl_ BK180) hb)
            have n3_ := Aside0.mk (blk_below (g := gb187) (o := .cells #[.int .i8 t183, .int .i8 t184, .int .i8 t185, .int .i8 t186] 24 (0, 0)) (pl_ BK187) hb)
            have n4_ := Aside0.mk (below_step (by repeat (first | (with_reducible first | exact HB.out | apply below_alloc | apply pw_below_drewN | apply below_drew1 | refine below_set ?_ GE176.out | refine below_set ?_ GE180.out | refine below_set ?_ GE187.out) | exact HB.out)) hb)
            clear HO_181002
            clear BK176
            clear BK180
            clear BK187
            clear HB
            have HO_181002 := n0_
            have BK176 := n1_
            have BK180 := n2_
            have BK187 := n3_
            have HB := n4_
            clear n0_ n1_ n2_ n3_ n4_
            (try clear hb)
            (try clear hb2)
            (try clear hk)
            (try clear hi)
            refine hK.out _ _ ⟨(blk_cell BK180.out 0).trans rfl, (blk_cell BK180.out 1).trans rfl, (blk_cell BK180.out 2).trans rfl, (blk_cell BK187.out 0).trans rfl, (blk_cell BK187.out 1).trans rfl, (blk_cell BK187.out 2).trans rfl, (blk_cell BK187.out 3).trans rfl⟩ (fun hHeld => ?_)
            clear hK K
            refine norm_ (a' := ?_) ?_ ?_
            rotate_left
            ·show Act.put _ (some 64) _ = _
             simp only [Act.put, List.setIfInBounds_toArray, List.set_cons_zero, List.set_cons_succ, i64_w, i32_w]
             rfl
            refine one_ (i := 10) (N := some 65) #[true, true, true, true, true, true, true, true, true, true, true, false, false, false, false] rfl rfl (one_of HT_.out (by kernel_rfl)) (by decide) (fun K hK => ?_)
            refine goes_ Try.func46 (by kernel_rfl) rfl #[.int .i64 a0, .agg #[.int .i8 t194, .int .i8 t195, .int .i8 t196, .int .i8 t197]] (by rfl) rfl rfl (by (try simp only [List.map_toArray, List.map_cons, List.map_nil]); first | done | rfl | (simp only [List.length_drop, List.length_take]; rfl)) ?_
            with_reducible refine (impl_next.calls kj19 a0 t194 t195 t196 t197 t198 t199 t200 t201 _ A43.out).mono ?_
            rintro e w48 ⟨rfl, hb⟩
            refine ⟨_, rfl, ?_⟩
            have n0_ := Aside0.mk (Kd.R_below (pr_ HO_181002) hb)
            have n1_ := Aside0.mk (blk_below (g := gb176) (o := .cells #[.int .i8 0, .int .i8 0, .slice none 0 0] 40 (0, 0)) (pl_ BK176) hb)
            have n2_ := Aside0.mk (blk_below (g := gb180) (o := .cells #[.int .i8 (IntKind.i8.wrap (a0)), .int .i8 (IntKind.i8.wrap (a1)), u181002] 40 (0, 0)) (pl_ BK180) hb)
            have n3_ := Aside0.mk (blk_below (g := gb187) (o := .cells #[.int .i8 t183, .int .i8 t184, .int .i8 t185, .int .i8 t186] 24 (0, 0)) (pl_ BK187) hb)
            have n4_ := Aside0.mk (below_step (by repeat (first | (with_reducible first | exact HB.out | apply below_alloc | apply pw_below_drewN | apply below_drew1 | refine below_set ?_ GE176.out | refine below_set ?_ GE180.out | refine below_set ?_ GE187.out) | exact HB.out)) hb)
            clear HO_181002
            clear BK176
            clear BK180
            clear BK187
            clear HB
            have HO_181002 := n0_
            have BK176 := n1_
            have BK180 := n2_
            have BK187 := n3_
            have HB := n4_
            clear n0_ n1_ n2_ n3_ n4_
            (try clear hb)
            (try clear hb2)
            (try clear hk)
            (try clear hi)
            refine hK.out _ _ ⟨(blk_cell BK180.out 0).trans rfl, (blk_cell BK180.out 1).trans rfl, (blk_cell BK180.out 2).trans rfl, (blk_cell BK187.out 0).trans rfl, (blk_cell BK187.out 1).trans rfl, (blk_cell BK187.out 2).trans rfl, (blk_cell BK187.out 3).trans rfl⟩ (fun hHeld => ?_)
            clear hK K
            refine norm_ (a' := ?_) ?_ ?_
            rotate_left
            ·show Act.put _ (some 65) _ = _
             simp only [Act.put, List.setIfInBounds_toArray, List.set_cons_zero, List.set_cons_succ, i64_w, i32_w]
             rfl
            refine one_ (i := 11) (N := some 66) #[true, true, true, true, true, true, true, true, true, true, true, true, false, false, false] rfl rfl (one_of HT_.out (by kernel_rfl)) (by decide) (fun K hK => ?_)
            refine Kd.R_lit_step k24 _ 24 ?hg (N := 66) ?hd (xs := ([(⟨t183, t184, t185, t186⟩ : S24), (⟨t190, t191, t192, t193⟩ : S24), (⟨t198, t199, t200, t201⟩ : S24)] : List (S24))) (inner := [.int .i8 t183, .int .i8 t184, .int .i8 t185, .int .i8 t186, .int .i8 t190, .int .i8 t191, .int .i8 t192, .int .i8 t193, .int .i8 t198, .int .i8 t199, .int .i8 t200, .int .i8 t201]) (ok := fun _ => True) (okp := fun _ => True) ?hr ?hp (fun _ hk => hk) trivial (Below.refl _ _) (Nat.le_refl _) (by simp) ?_; (case hd => rfl); (case hg => rfl); (case hr => first | (go_simp; done) | (go_simp; rfl)); (case hp => exact (Reps.c4 (show Kd.M k24 _ _ _ (⟨t183, t184, t185, t186⟩ : S24) [.int .i8 t183, .int .i8 t184, .int .i8 t185, .int .i8 t186] from (k24_mkM _ _ _ (⟨t183, t184, t185, t186⟩ : S24) )) (Reps.c4 (show Kd.M k24 _ _ _ (⟨t190, t191, t192, t193⟩ : S24) [.int .i8 t190, .int .i8 t191, .int .i8 t192, .int .i8 t193] from (k24_mkM _ _ _ (⟨t190, t191, t192, t193⟩ : S24) )) (Reps.c4 (show Kd.M k24 _ _ _ (⟨t198, t199, t200, t201⟩ : S24) [.int .i8 t198, .int .i8 t199, .int .i8 t200, .int .i8 t201] from (k24_mkM _ _ _ (⟨t198, t199, t200, t201⟩ : S24) )) (Reps.none _ _)))))
            intro v203 w49 ho50 hb hg_ hnew_
            clear hg_ hnew_
            (first | rw [← Ny202.out] at ho50 | (simp only [Int.reduceToNat] at ho50; rw [← Ny202.out] at ho50))
            have n0_ := Aside0.mk (Kd.R_elder' (pr_ HO_181002) (Kd.R_base ho50) hb)
            have n1_ := Aside0.mk (Kd.R_lower (Kd.R_newB (Kd.R_new' ho50 (Kd.R_lt (pr_ HO_181002))) (g := gb187) (o := .cells #[.int .i8 t183, .int .i8 t184, .int .i8 t185, .int .i8 t186] 24 (0, 0)) (pl_ BK187)) (below_size (by repeat (first | (with_reducible first | exact HB.out | apply below_alloc | apply pw_below_drewN | apply below_drew1 | refine below_set ?_ GE176.out | refine below_set ?_ GE180.out | refine below_set ?_ GE187.out) | exact HB.out))))
            have n2_ := Aside0.mk (blk_below (g := gb176) (o := .cells #[.int .i8 0, .int .i8 0, .slice none 0 0] 40 (0, 0)) (pl_ BK176) hb)
            have n3_ := Aside0.mk (blk_below (g := gb180) (o := .cells #[.int .i8 (IntKind.i8.wrap (a0)), .int .i8 (IntKind.i8.wrap (a1)), u181002] 40 (0, 0)) (pl_ BK180) hb)
            have n4_ := Aside0.mk (blk_below (g := gb187) (o := .cells #[.int .i8 t183, .int .i8 t184, .int .i8 t185, .int .i8 t186] 24 (0, 0)) (pl_ BK187) hb)
            have n5_ := Aside0.mk (below_step (by repeat (first | (with_reducible first | exact HB.out | apply below_alloc | apply pw_below_drewN | apply below_drew1 | refine below_set ?_ GE176.out | refine below_set ?_ GE180.out | refine below_set ?_ GE187.out) | exact HB.out)) hb)
            clear HO_181002
            clear BK176
            clear BK180
            clear BK187
            clear HB
            have HO_181002 := n0_
            have HO204 := n1_
            have BK176 := n2_
            have BK180 := n3_
            have BK187 := n4_
            have HB := n5_
            clear n0_ n1_ n2_ n3_ n4_ n5_
            clear hb ho50
            obtain ⟨Ao52, co52, eo52⟩ := Kd.R_slice HO204.out
            (first | subst eo52 | (injection eo52 with f1_ f2_ f3_; have f4_ := f1_.symm; have f5_ := f3_.symm; clear f1_ f2_ f3_; subst f4_; subst f5_))
            refine hK.out _ _ ⟨(blk_cell BK180.out 0).trans rfl, (blk_cell BK180.out 1).trans rfl, (blk_cell BK180.out 2).trans rfl, (blk_cell BK187.out 0).trans rfl, (blk_cell BK187.out 1).trans rfl, (blk_cell BK187.out 2).trans rfl, (blk_cell BK187.out 3).trans rfl⟩ (fun hHeld => ?_)
            clear hK K
            refine norm_ (a' := ?_) ?_ ?_
            rotate_left
            ·show Act.put _ (some 66) _ = _
             simp only [Act.put, List.setIfInBounds_toArray, List.set_cons_zero, List.set_cons_succ, i64_w, i32_w]
             rfl
            refine one_ (i := 12) (N := some 67) #[true, true, true, true, true, true, true, true, true, true, true, true, true, false, false] rfl rfl (one_of HT_.out (by kernel_rfl)) (by decide) (fun K hK => ?_)
            refine Kd.R_append_rows_step k24 (w0 := w) w.heap.size (by rfl) (.tmp 56) (.tmp 66) 38 24 (.agg #[(.int .i8 0), (.int .i8 0), (.int .i8 0), (.int .i8 0)]) 4 rfl Try.underlying38 info24 rfl (by decide) (by omega) u181002 x181002_2 y202 _ _ _ (fun k_ => some k_ ≠ (.slice Ao52 y202.length co52 : Value).ownBlock ∧ k_ ≠ gb187) (fun _ => False) rfl rfl ?aO ?aR (fun _ _ h => h) (fun _ h => h.elim) ?aF ?aB ?aS ?aL ?_
            (case aR => repeat (first | exact (Kd.R_reads' HO204.out).2.2 | (with_reducible refine Kd.C_alloc ?_ _) | (with_reducible refine Kd.C_drewN ?_ _) | (with_reducible refine Kd.C_drew ?_)))
            (case aB => exact (by repeat (first | (with_reducible first | exact HB.out | apply below_alloc | apply pw_below_drewN | apply below_drew1 | refine below_set ?_ GE176.out | refine below_set ?_ GE180.out | refine below_set ?_ GE187.out) | exact HB.out)))
            (case aF => exact (fun k_ hk => ⟨Kd.fresh' (Kd.R_lt (pr_ HO204)) k_ hk, Kd.freshB (g := gb187) (o := .cells #[.int .i8 t183, .int .i8 t184, .int .i8 t185, .int .i8 t186] 24 (0, 0)) (pl_ BK187) k_ hk⟩))
            (case aO => exact (by (with_reducible repeat (first | apply Kd.R_alloc | apply Kd.R_drewN | apply Kd.R_drew)); exact Kd.R_mono HO_181002.out (fun _ hk => ⟨hk.2, hk.1⟩)))
            (case aS => exact (below_size (by repeat (first | (with_reducible first | exact HB.out | apply below_alloc | apply pw_below_drewN | apply below_drew1 | refine below_set ?_ GE176.out | refine below_set ?_ GE180.out | refine below_set ?_ GE187.out) | exact HB.out))))
            (case aL => have := LMc44.out; omega)
            intro v206 w51 ho hb hg hat
            rw [← Ny205.out] at ho
            have n0_ := Aside0.mk (blk_grown (g := gb176) (o := .cells #[.int .i8 0, .int .i8 0, .slice none 0 0] 40 (0, 0)) (pl_ BK176) hg (Kd.R_ne HO_181002.out BK176.out (by decide)))
            have n1_ := Aside0.mk (blk_grown (g := gb180) (o := .cells #[.int .i8 (IntKind.i8.wrap (a0)), .int .i8 (IntKind.i8.wrap (a1)), u181002] 40 (0, 0)) (pl_ BK180) hg (Kd.R_ne HO_181002.out BK180.out (by decide)))
            have n2_ := Aside0.mk (blk_grown (g := gb187) (o := .cells #[.int .i8 t183, .int .i8 t184, .int .i8 t185, .int .i8 t186] 24 (0, 0)) (pl_ BK187) hg (Kd.R_away HO_181002.out (fun _ hk => hk.1)))
            have n3_ := Aside0.mk (Kd.R_after (ok := (fun k_ => k_ ≠ gb187)) (by (with_reducible repeat (first | apply Kd.R_alloc | apply Kd.R_drewN | apply Kd.R_drew)); exact Kd.R_mono HO204.out (fun _ hk => ⟨hk.2, hk.1.2⟩)) hg hat)
            have n4_ := Aside0.mk (hb)
            have n5_ := Aside0.mk (ho)
            clear BK176
            clear BK180
            clear BK187
            clear HO204
            clear HB
            clear HO_181002
            have BK176 := n0_
            have BK180 := n1_
            have BK187 := n2_
            have HO204 := n3_
            have HB := n4_
            have HO207 := n5_
            clear n0_ n1_ n2_ n3_ n4_ n5_
            clear ho hb hg hat
            obtain ⟨Ao53, co53, eo53⟩ := Kd.R_slice HO207.out
            (first | subst eo53 | (injection eo53 with f1_ f2_ f3_; have f4_ := f1_.symm; have f5_ := f3_.symm; clear f1_ f2_ f3_; subst f4_; subst f5_))
            refine hK.out _ _ ⟨(blk_cell BK180.out 0).trans rfl, (blk_cell BK180.out 1).trans rfl, (blk_cell BK180.out 2).trans rfl, (blk_cell BK187.out 0).trans rfl, (blk_cell BK187.out 1).trans rfl, (blk_cell BK187.out 2).trans rfl, (blk_cell BK187.out 3).trans rfl⟩ (fun hHeld => ?_)
            clear hK K
            refine norm_ (a' := ?_) ?_ ?_
            rotate_left
            ·show Act.put _ (some 67) _ = _
             simp only [Act.put, List.setIfInBounds_toArray, List.set_cons_zero, List.set_cons_succ, i64_w, i32_w]
             rfl
            refine pure_ (i := 13) (N := some 68) (v := ?_) (a' := ?_) #[true, true, true, true, true, true, true, true, true, true, true, true, true, true, false] rfl rfl (any_of HT_.out (by kernel_rfl)) (fun _ _ _ h => h) (Or.inl ⟨by rfl, ?_⟩) ?_ ?_
            rotate_left
            ·intro w'
             go_simp
             with_reducible rfl
            rotate_left
            ·simp only [Act.put, List.setIfInBounds_toArray, List.set_cons_zero, List.set_cons_succ, i64_w, i32_w]
             rfl
            refine last_ (i := 14) (N := none) #[true, true, true, true, true, true, true, true, true, true, true, true, true, true, true] rfl rfl (one_of HT_.out (by kernel_rfl)) (by decide) (fun K hK => ?_)
            have hs54 : w51.cell? ⟨gb180, 2, none⟩ = some (u181002) := (blk_cell BK180.out 2).trans rfl
            have hfs54 := blk_frozen BK180.out 2
            have hns54_0 := NB176_180.out
            have hns54_2 := NB187_180.out
            have hms54_0 := NB180_176.out
            have hms54_2 := NB180_187.out
            refine skip_ (w1 := ?_) (by rfl) rfl ?_ ?_
            rotate_left
            ·go_simp
             rfl
            refine hK.out _ _ ?_
            clear hK K
            refine done_ (done_of HT_.out (by kernel_rfl)) ?_
            try go_wp2
            go_roundg kj19
            case measure => have := HJ3.out; have := HK2.out; have := HJ19.out; omega
            case rel => exact ⟨(wrap64 (x38_2 + 1)), (y205), (.slice Ao53 y205.length co53), (by first | rfl | (simp; done) | (simp [*]; done)), H', ⟨by have := HJ3.out; have := HK2.out; have := HJ19.out; omega⟩, ⟨by (with_reducible repeat (first | apply Kd.R_alloc | apply Kd.R_drewN | apply Kd.R_drew)); exact Kd.R_mono (Kd.R_far (p := ⟨gb180, 2, none⟩) (Kd.R_types HO207.out BK180.out (by decide)) (fun _ hk => hk.2) (.slice Ao53 y205.length co53)) (fun _ hk => trivial)⟩, ⟨by (with_reducible repeat (first | refine blk_drewN ?_ _ | refine blk_drew ?_ | refine blk_alloc ?_ _)); refine blk_far ?_ NB176_180.out _; (with_reducible repeat (first | refine blk_drewN ?_ _ | refine blk_drew ?_ | refine blk_alloc ?_ _)); exact BK176.out⟩, ⟨by (with_reducible repeat (first | refine blk_drewN ?_ _ | refine blk_drew ?_ | refine blk_alloc ?_ _)); refine blk_put (cs := #[.int .i8 (IntKind.i8.wrap (a0)), .int .i8 (IntKind.i8.wrap (a1)), u181002]) ?_ 2 _ rfl; (with_reducible repeat (first | refine blk_drewN ?_ _ | refine blk_drew ?_ | refine blk_alloc ?_ _)); exact BK180.out⟩, ⟨by repeat (first | (with_reducible first | exact HB.out | apply below_alloc | apply pw_below_drewN | apply below_drew1 | refine below_set ?_ GE176.out | refine below_set ?_ GE180.out | refine below_set ?_ GE187.out) | exact HB.out)⟩⟩
           ·rw [if_neg c44] at H
            exact absurd H (by simp)
          ·replace c40 := Bool.eq_false_iff.mpr c40
           subst c40
           have H1 : (impl_MakeFixed.l0 kj19 a0 a1 a2 t181 (wrap64 (x38_2 + 1)) (IntKind.i8.wrap (a0)) (IntKind.i8.wrap (a1)) x181002_2) = some (r1, r2, r3, r4) := by rw [if_neg (show ¬ (false = true) by decide)] at H; exact H
           clear H
           have H := H1
           clear H1
           have H' := Aside0.mk H
           clear H
           go_wp2
           go_roundg kj19
           case measure => have := HJ3.out; have := HK2.out; have := HJ19.out; omega
           case rel => exact ⟨(wrap64 (x38_2 + 1)), (x181002_2), (u181002), (by first | rfl | (simp; done) | (simp [*]; done)), H', ⟨by have := HJ3.out; have := HK2.out; have := HJ19.out; omega⟩, ⟨by (with_reducible repeat (first | apply Kd.R_alloc | apply Kd.R_drewN | apply Kd.R_drew)); exact Kd.R_mono HO_181002.out (fun _ hk => trivial)⟩, ⟨pl_ BK176⟩, ⟨pl_ BK180⟩, ⟨by repeat (first | (with_reducible first | exact HB.out | apply below_alloc | apply pw_below_drewN | apply below_drew1 | refine below_set ?_ GE176.out | refine below_set ?_ GE180.out | refine below_set ?_ GE187.out) | exact HB.out)⟩⟩
       ·rw [if_neg c18] at H
        have c18b0 : decide (x38_2 < t181) = false := decide_eq_false c18
        clear c18
        replace H := Option.bind_eq_some_iff.mp H
        obtain ⟨t182, A550, H⟩ := H
        replace H : (if t182 < a2 then (some (0, 0, ([] : List (S24)), 6)) else (some ((IntKind.i8.wrap (a0)), (IntKind.i8.wrap (a1)), x181002_2, 0))) = some (r1, r2, r3, r4) := H
        have A55 := Aside0.mk A550
        clear A550
        by_cases c56 : t182 < a2
        ·rw [if_pos c56] at H
         have c56b0 : decide (t182 < a2) = true := decide_eq_true c56
         clear c56
         simp only [Option.some.injEq, Prod.mk.injEq] at H
         obtain ⟨rfl, rfl, rfl, rfl⟩ := H
         have hnb57 := NB180_176.out
         have hnc57 := NB176_180.out
         have hcz58_0 : wr.cell? ⟨gb180, 0, none⟩ = some (.int .i8 (IntKind.i8.wrap (a0))) := (blk_cell BK180.out 0).trans rfl
         have hcz58_1 : wr.cell? ⟨gb180, 1, none⟩ = some (.int .i8 (IntKind.i8.wrap (a1))) := (blk_cell BK180.out 1).trans rfl
         have hcz58_2 : wr.cell? ⟨gb180, 2, none⟩ = some (u181002) := (blk_cell BK180.out 2).trans rfl
         have hfz58_0 := blk_frozen BK180.out 0
         have hfz58_1 := blk_frozen BK180.out 1
         have hfz58_2 := blk_frozen BK180.out 2
         obtain ⟨Ao59, co59, eo59⟩ := Kd.R_slice HO_181002.out
         subst eo59
         go_wp2_with (first | ((with_reducible refine gate_callee (f := 48) rfl ?_); refine goesL_ (some 72) rfl rfl Try.func48 (by kernel_rfl) rfl #[.slice Ao59 x181002_2.length co59] rfl (by (try simp only [List.map_toArray, List.map_cons, List.map_nil]); first | done | rfl | (simp only [List.length_drop, List.length_take]; rfl)) ?_; (with_reducible refine (impl_Word.calls _ _ x181002_2 t182 _ ?side1 ?side2 A55.out).mono ?_); (case side1 => repeat (first | exact (Kd.R_reads' HO_181002.out).2.2 | (with_reducible refine Kd.C_alloc ?_ _) | (with_reducible refine Kd.C_drewN ?_ _) | (with_reducible refine Kd.C_drew ?_))); (case side2 => exact (Kd.R_reads' HO_181002.out).2.1); rintro e w' ⟨rfl, ⟨nd, rfl⟩⟩; refine ⟨_, rfl, ?_⟩; (try (rw [drewN_self wr]; generalize hq_ : World.drewN wr _ = wr; have n0_ : Aside0 (Kd.R k24 24 wr w.heap.size (fun _ => True) (.slice Ao59 x181002_2.length co59) x181002_2) := ⟨by rw [← hq_]; exact (pr_ HO_181002)⟩; have n1_ : Aside0 (wr.heap[gb176]? = some (.cells #[.int .i8 0, .int .i8 0, .slice none 0 0] 40 (0, 0))) := ⟨by rw [← hq_]; exact (pl_ BK176)⟩; have n2_ : Aside0 (wr.heap[gb180]? = some (.cells #[.int .i8 (IntKind.i8.wrap (a0)), .int .i8 (IntKind.i8.wrap (a1)), .slice Ao59 x181002_2.length co59] 40 (0, 0))) := ⟨by rw [← hq_]; exact (pl_ BK180)⟩; have n3_ : Aside0 (Below w.heap.size w wr) := ⟨by rw [← hq_]; exact (by repeat (first | (with_reducible first | exact HB.out | apply below_alloc | apply pw_below_drewN | apply below_drew1 | refine below_set ?_ GE176.out | refine below_set ?_ GE180.out) | exact HB.out))⟩; clear HO_181002 BK176 BK180 HB hq_; have HO_181002 := n0_; have BK176 := n1_; have BK180 := n2_; have HB := n3_; clear n0_ n1_ n2_ n3_)); have hcz60_0 : wr.cell? ⟨gb176, 0, none⟩ = some (.int .i8 0) := (blk_cell BK176.out 0).trans rfl; have hcz60_1 : wr.cell? ⟨gb176, 1, none⟩ = some (.int .i8 0) := (blk_cell BK176.out 1).trans rfl; have hcz60_2 : wr.cell? ⟨gb176, 2, none⟩ = some (.slice none 0 0) := (blk_cell BK176.out 2).trans rfl; have hfz60_0 := blk_frozen BK176.out 0; have hfz60_1 := blk_frozen BK176.out 1; have hfz60_2 := blk_frozen BK176.out 2))
         refine bodyPost_ret (results_ct rfl _ _ gb176 40 #[.int .i8 0, .int .i8 0, .slice none 0 0] (0, 0) _ rfl (by (with_reducible repeat (first | refine blk_drewN ?_ _ | refine blk_drew ?_ | refine blk_alloc ?_ _)); refine blk_put (cs := #[.int .i8 0, .int .i8 0, .slice none 0 0]) ?_ 2 _ rfl; (with_reducible repeat (first | refine blk_drewN ?_ _ | refine blk_drew ?_ | refine blk_alloc ?_ _)); refine blk_put (cs := #[.int .i8 0, .int .i8 0, .slice none 0 0]) ?_ 1 _ rfl; (with_reducible repeat (first | refine blk_drewN ?_ _ | refine blk_drew ?_ | refine blk_alloc ?_ _)); refine blk_put (cs := #[.int .i8 0, .int .i8 0, .slice none 0 0]) ?_ 0 _ rfl; (with_reducible repeat (first | refine blk_drewN ?_ _ | refine blk_drew ?_ | refine blk_alloc ?_ _)); exact BK176.out) Try.underlying40 rfl (by kernel_rfl)) rfl ?_
         exact ⟨_, by first | rfl | (simp [errW_none, errW_some] <;> rfl) | (simp [*, errW_none, errW_some] <;> rfl), by first | exact Kd.R_nil _ _ _ _ _ | exact Kd.N_nil _ _ _ _ _ | exact Kd.V_nil _ _ _ _ _ | exact Kd.Q_nil _ _ _ _ _ | exact Kd.S_nil _ _ _ _ _, by repeat (first | (with_reducible first | exact HB.out | apply below_alloc | apply pw_below_drewN | apply below_drew1 | refine below_set ?_ GE176.out | refine below_set ?_ GE180.out) | exact HB.out)⟩
        ·rw [if_neg c56] at H
         have c56b0 : decide (t182 < a2) = false := decide_eq_false c56
         clear c56
         simp only [Option.some.injEq, Prod.mk.injEq] at H
         obtain ⟨rfl, rfl, rfl, rfl⟩ := H
         have hnb61 := NB180_176.out
         have hnc61 := NB176_180.out
         have hcz62_0 : wr.cell? ⟨gb180, 0, none⟩ = some (.int .i8 (IntKind.i8.wrap (a0))) := (blk_cell BK180.out 0).trans rfl
         have hcz62_1 : wr.cell? ⟨gb180, 1, none⟩ = some (.int .i8 (IntKind.i8.wrap (a1))) := (blk_cell BK180.out 1).trans rfl
         have hcz62_2 : wr.cell? ⟨gb180, 2, none⟩ = some (u181002) := (blk_cell BK180.out 2).trans rfl
         have hfz62_0 := blk_frozen BK180.out 0
         have hfz62_1 := blk_frozen BK180.out 1
         have hfz62_2 := blk_frozen BK180.out 2
         obtain ⟨Ao63, co63, eo63⟩ := Kd.R_slice HO_181002.out
         subst eo63
         go_wp2_with (first | ((with_reducible refine gate_callee (f := 48) rfl ?_); refine goesL_ (some 72) rfl rfl Try.func48 (by kernel_rfl) rfl #[.slice Ao63 x181002_2.length co63] rfl (by (try simp only [List.map_toArray, List.map_cons, List.map_nil]); first | done | rfl | (simp only [List.length_drop, List.length_take]; rfl)) ?_; (with_reducible refine (impl_Word.calls _ _ x181002_2 t182 _ ?side1 ?side2 A55.out).mono ?_); (case side1 => repeat (first | exact (Kd.R_reads' HO_181002.out).2.2 | (with_reducible refine Kd.C_alloc ?_ _) | (with_reducible refine Kd.C_drewN ?_ _) | (with_reducible refine Kd.C_drew ?_))); (case side2 => exact (Kd.R_reads' HO_181002.out).2.1); rintro e w' ⟨rfl, ⟨nd, rfl⟩⟩; refine ⟨_, rfl, ?_⟩; (try (rw [drewN_self wr]; generalize hq_ : World.drewN wr _ = wr; have n0_ : Aside0 (Kd.R k24 24 wr w.heap.size (fun _ => True) (.slice Ao63 x181002_2.length co63) x181002_2) := ⟨by rw [← hq_]; exact (pr_ HO_181002)⟩; have n1_ : Aside0 (wr.heap[gb176]? = some (.cells #[.int .i8 0, .int .i8 0, .slice none 0 0] 40 (0, 0))) := ⟨by rw [← hq_]; exact (pl_ BK176)⟩; have n2_ : Aside0 (wr.heap[gb180]? = some (.cells #[.int .i8 (IntKind.i8.wrap (a0)), .int .i8 (IntKind.i8.wrap (a1)), .slice Ao63 x181002_2.length co63] 40 (0, 0))) := ⟨by rw [← hq_]; exact (pl_ BK180)⟩; have n3_ : Aside0 (Below w.heap.size w wr) := ⟨by rw [← hq_]; exact (by repeat (first | (with_reducible first | exact HB.out | apply below_alloc | apply pw_below_drewN | apply below_drew1 | refine below_set ?_ GE176.out | refine below_set ?_ GE180.out) | exact HB.out))⟩; clear HO_181002 BK176 BK180 HB hq_; have HO_181002 := n0_; have BK176 := n1_; have BK180 := n2_; have HB := n3_; clear n0_ n1_ n2_ n3_)); have hcz64_0 : wr.cell? ⟨gb180, 0, none⟩ = some (.int .i8 (IntKind.i8.wrap (a0))) := (blk_cell BK180.out 0).trans rfl; have hcz64_1 : wr.cell? ⟨gb180, 1, none⟩ = some (.int .i8 (IntKind.i8.wrap (a1))) := (blk_cell BK180.out 1).trans rfl; have hcz64_2 : wr.cell? ⟨gb180, 2, none⟩ = some (.slice Ao63 x181002_2.length co63) := (blk_cell BK180.out 2).trans rfl; have hfz64_0 := blk_frozen BK180.out 0; have hfz64_1 := blk_frozen BK180.out 1; have hfz64_2 := blk_frozen BK180.out 2; have hcz65_0 : wr.cell? ⟨gb176, 0, none⟩ = some (.int .i8 0) := (blk_cell BK176.out 0).trans rfl; have hcz65_1 : wr.cell? ⟨gb176, 1, none⟩ = some (.int .i8 0) := (blk_cell BK176.out 1).trans rfl; have hcz65_2 : wr.cell? ⟨gb176, 2, none⟩ = some (.slice none 0 0) := (blk_cell BK176.out 2).trans rfl; have hfz65_0 := blk_frozen BK176.out 0; have hfz65_1 := blk_frozen BK176.out 1; have hfz65_2 := blk_frozen BK176.out 2))
         refine bodyPost_ret (results_ct rfl _ _ gb176 40 #[.int .i8 (IntKind.i8.wrap (a0)), .int .i8 (IntKind.i8.wrap (a1)), .slice Ao63 x181002_2.length co63] (0, 0) _ rfl (by (with_reducible repeat (first | refine blk_drewN ?_ _ | refine blk_drew ?_ | refine blk_alloc ?_ _)); refine blk_put (cs := #[.int .i8 (IntKind.i8.wrap (a0)), .int .i8 (IntKind.i8.wrap (a1)), .slice none 0 0]) ?_ 2 _ rfl; (with_reducible repeat (first | refine blk_drewN ?_ _ | refine blk_drew ?_ | refine blk_alloc ?_ _)); refine blk_put (cs := #[.int .i8 (IntKind.i8.wrap (a0)), .int .i8 0, .slice none 0 0]) ?_ 1 _ rfl; (with_reducible repeat (first | refine blk_drewN ?_ _ | refine blk_drew ?_ | refine blk_alloc ?_ _)); refine blk_put (cs := #[.int .i8 0, .int .i8 0, .slice none 0 0]) ?_ 0 _ rfl; (with_reducible repeat (first | refine blk_drewN ?_ _ | refine blk_drew ?_ | refine blk_alloc ?_ _)); exact BK176.out) Try.underlying40 rfl (by kernel_rfl)) rfl ?_
         exact ⟨_, by first | rfl | (simp [errW_none, errW_some] <;> rfl) | (simp [*, errW_none, errW_some] <;> rfl), by (with_reducible repeat (first | apply Kd.R_alloc | apply Kd.R_drewN | apply Kd.R_drew)); exact Kd.R_mono (Kd.R_far (p := ⟨gb176, 2, none⟩) (Kd.R_far (p := ⟨gb176, 1, none⟩) (Kd.R_far (p := ⟨gb176, 0, none⟩) (Kd.R_types HO_181002.out BK176.out (by decide)) (fun _ hk => hk.2) (.int .i8 (IntKind.i8.wrap (a0)))) (fun _ hk => hk.2) (.int .i8 (IntKind.i8.wrap (a1)))) (fun _ hk => hk.2) (.slice Ao63 x181002_2.length co63)) (fun _ hk => trivial), by repeat (first | (with_reducible first | exact HB.out | apply below_alloc | apply pw_below_drewN | apply below_drew1 | refine below_set ?_ GE176.out | refine below_set ?_ GE180.out) | exact HB.out)⟩
    ·rw [if_neg c13] at H
     have c13b0 : ((Int.tmod a2 3) == 0) = false := beq_eq_false_iff_ne.mpr c13
     have c13b1 : ((Int.tmod a2 3) != 0) = true := bne_iff_ne.mpr c13
     simp only [Option.some.injEq, Prod.mk.injEq] at H
     obtain ⟨rfl, rfl, rfl, rfl⟩ := H
     have hcz66_0 : wc.cell? ⟨gb176, 0, none⟩ = some (.int .i8 0) := (blk_cell BK176.out 0).trans rfl
     have hcz66_1 : wc.cell? ⟨gb176, 1, none⟩ = some (.int .i8 0) := (blk_cell BK176.out 1).trans rfl
     have hcz66_2 : wc.cell? ⟨gb176, 2, none⟩ = some (.slice none 0 0) := (blk_cell BK176.out 2).trans rfl
     have hfz66_0 := blk_frozen BK176.out 0
     have hfz66_1 := blk_frozen BK176.out 1
     have hfz66_2 := blk_frozen BK176.out 2
     go_wp2
     refine bodyPost_ret (results_ct rfl _ _ gb176 40 #[.int .i8 0, .int .i8 0, .slice none 0 0] (0, 0) _ rfl (by (with_reducible repeat (first | refine blk_drewN ?_ _ | refine blk_drew ?_ | refine blk_alloc ?_ _)); refine blk_put (cs := #[.int .i8 0, .int .i8 0, .slice none 0 0]) ?_ 2 _ rfl; (with_reducible repeat (first | refine blk_drewN ?_ _ | refine blk_drew ?_ | refine blk_alloc ?_ _)); refine blk_put (cs := #[.int .i8 0, .int .i8 0, .slice none 0 0]) ?_ 1 _ rfl; (with_reducible repeat (first | refine blk_drewN ?_ _ | refine blk_drew ?_ | refine blk_alloc ?_ _)); refine blk_put (cs := #[.int .i8 0, .int .i8 0, .slice none 0 0]) ?_ 0 _ rfl; (with_reducible repeat (first | refine blk_drewN ?_ _ | refine blk_drew ?_ | refine blk_alloc ?_ _)); exact BK176.out) Try.underlying40 rfl (by kernel_rfl)) rfl ?_
     exact ⟨_, by first | rfl | (simp [errW_none, errW_some] <;> rfl) | (simp [*, errW_none, errW_some] <;> rfl), by first | exact Kd.R_nil _ _ _ _ _ | exact Kd.N_nil _ _ _ _ _ | exact Kd.V_nil _ _ _ _ _ | exact Kd.Q_nil _ _ _ _ _ | exact Kd.S_nil _ _ _ _ _, by repeat (first | (with_reducible first | exact HB.out | apply below_alloc | apply pw_below_drewN | apply below_drew1 | refine below_set ?_ GE176.out) | exact HB.out)⟩

end Go.Proofs.Yteohhkfeeeifaaa.M
