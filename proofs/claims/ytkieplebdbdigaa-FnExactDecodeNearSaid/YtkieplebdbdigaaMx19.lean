-- By this seat's own program over the kit's printer (arrays, functions told by hand); nothing of it is trusted: the kernel checks it.
import Derived.Test.YtkieplebdbdigaaMx0
import Derived.Test.YtkieplebdbdigaaMx1
import Derived.Test.YtkieplebdbdigaaMx4
import Derived.Test.YtkieplebdbdigaaMx11
import Derived.Test.YtkieplebdbdigaaMx18
namespace Go.Proofs.Ytkieplebdbdigaa.M
open Go.RowKit Go.Proofs.YtkieplebdbdigaaW.PrintWords Go.Proofs.YtkieplebdbdigaaW.PrintLast Go.Proofs.YtkieplebdbdigaaW.PrintMore
attribute [local go_sem] max2_int min2_int max_two min_two max_three min_three max_four min_four   -- for this text's walks alone
set_option linter.unusedVariables false
set_option linter.unusedSimpArgs false

/-! ### laws_FnExactDecodeNear: function 4 -/
def laws_FnExactDecodeNear.j0 : Nat → Bool → Int → Int → List (S36) → Int → Int → List (S41) → Option (Bool)
 | 0, _, _, _, _, _, _, _ => none
 | k + 1, x45, x294000, x294001, x294002, x315000, x315001, x315002 => if x45 = true then (some false) else ((laws_toFixed.f k x294000 x294001 x294002).bind fun bt324 => ((laws_eqFixed.f k x315000 x315001 x315002 bt324.1 bt324.2.1 bt324.2.2).bind fun t329 => (if t329 = true then (some true) else (some false))))
def laws_FnExactDecodeNear.f (k : Nat) (a0_0 : Int) (a0_1 : Int) (l0_2 : List (S36)) (a1_0 : Int) (a1_1 : Int) (a1_2 : Int) (a1_3 : Int) (a2 : Int) : Option (Bool) := (laws_szFixed.f a0_0 a0_1 l0_2 1048576).bind fun t295 => (if t295 < 0 then (some true) else ((laws_toFixed.f k a0_0 a0_1 l0_2).bind fun bt296 => ((laws_toWord.f k a1_0 a1_1 a1_2 a1_3).bind fun bt301 => ((spec_DecodeNear.f k bt296.1 bt296.2.1 bt296.2.2 bt301.1 bt301.2.1 bt301.2.2.1 bt301.2.2.2 a2).bind fun bt305 => ((laws_toFixed.f k a0_0 a0_1 l0_2).bind fun bt309 => ((laws_toWord.f k a1_0 a1_1 a1_2 a1_3).bind fun bt315 => ((impl_DecodeNear.f k bt309.1 bt309.2.1 bt309.2.2 bt315.1 bt315.2.1 bt315.2.2.1 bt315.2.2.2 a2).bind fun bt319 => ((laws_eqCase.f bt319.1 bt319.2.1 bt305.1 bt305.2.1).bind fun t323 => (if t323 = true then (laws_FnExactDecodeNear.j0 k (bt319.2.2 != bt305.2.2) a0_0 a0_1 l0_2 bt309.1 bt309.2.1 bt309.2.2) else (laws_FnExactDecodeNear.j0 k true a0_0 a0_1 l0_2 bt309.1 bt309.2.1 bt309.2.2))))))))))
theorem laws_FnExactDecodeNear.mono_l : ∀ k, (∀ y0 y1 y2 y3 y4 y5 y6, LeO (laws_FnExactDecodeNear.j0 k y0 y1 y2 y3 y4 y5 y6) (laws_FnExactDecodeNear.j0 (k + 1) y0 y1 y2 y3 y4 y5 y6))
 | 0 => fun _ _ _ _ _ _ _ r h => by simp [laws_FnExactDecodeNear.j0] at h
 | k + 1 => by
  have ih0 := laws_FnExactDecodeNear.mono_l k
  ·intro y0 y1 y2 y3 y4 y5 y6
   unfold laws_FnExactDecodeNear.j0
   repeat' first
   | (with_reducible exact ih0 _ _ _ _ _ _ _)
   | (with_reducible exact impl_DecodeNear.mono _ _ _ _ _ _ _ _ _)
   | (with_reducible exact laws_eqFixed.mono _ _ _ _ _ _ _)
   | (with_reducible exact laws_toFixed.mono _ _ _ _)
   | (with_reducible exact laws_toWord.mono _ _ _ _ _)
   | (with_reducible exact spec_DecodeNear.mono _ _ _ _ _ _ _ _ _)
   | (with_reducible exact LeO.refl _)
   | (with_reducible exact LeO.none _)
   | (with_reducible refine LeO.ite ?_ ?_)
   | (with_reducible refine LeO.bind ?_ (fun _ => ?_))
   | exact ih0 _ _ _ _ _ _ _
   | exact impl_DecodeNear.mono _ _ _ _ _ _ _ _ _
   | exact laws_eqFixed.mono _ _ _ _ _ _ _
   | exact laws_toFixed.mono _ _ _ _
   | exact laws_toWord.mono _ _ _ _ _
   | exact spec_DecodeNear.mono _ _ _ _ _ _ _ _ _
   | exact LeO.none _
   | refine LeO.ite ?_ ?_
   | refine LeO.bind ?_ (fun _ => ?_)
theorem laws_FnExactDecodeNear.mono : ∀ a0 a1 a2 a3 a4 a5 a6 a7 k, LeO (laws_FnExactDecodeNear.f k a0 a1 a2 a3 a4 a5 a6 a7) (laws_FnExactDecodeNear.f (k + 1) a0 a1 a2 a3 a4 a5 a6 a7) := by
 intro a0 a1 a2 a3 a4 a5 a6 a7 k
 have ih0 := laws_FnExactDecodeNear.mono_l k
 unfold laws_FnExactDecodeNear.f
 repeat' first
   | (with_reducible exact ih0 _ _ _ _ _ _ _)
   | (with_reducible exact impl_DecodeNear.mono _ _ _ _ _ _ _ _ _)
   | (with_reducible exact laws_eqFixed.mono _ _ _ _ _ _ _)
   | (with_reducible exact laws_toFixed.mono _ _ _ _)
   | (with_reducible exact laws_toWord.mono _ _ _ _ _)
   | (with_reducible exact spec_DecodeNear.mono _ _ _ _ _ _ _ _ _)
   | (with_reducible exact LeO.refl _)
   | (with_reducible exact LeO.none _)
   | (with_reducible refine LeO.ite ?_ ?_)
   | (with_reducible refine LeO.bind ?_ (fun _ => ?_))
   | exact ih0 _ _ _ _ _ _ _
   | exact impl_DecodeNear.mono _ _ _ _ _ _ _ _ _
   | exact laws_eqFixed.mono _ _ _ _ _ _ _
   | exact laws_toFixed.mono _ _ _ _
   | exact laws_toWord.mono _ _ _ _ _
   | exact spec_DecodeNear.mono _ _ _ _ _ _ _ _ _
   | exact LeO.none _
   | refine LeO.ite ?_ ?_
   | refine LeO.bind ?_ (fun _ => ?_)
def laws_FnExactDecodeNear.T5 : Bool × List (List Nat × List Nat) := (true, [([], []), ([0], [0]), ([], []), ([2, 1], [2]), ([], []), ([1, 3, 4, 3], [1, 3, 4]), ([5], [5]), ([6], [6]), ([6], [6]), ([], []), ([9, 7, 5, 0, 1, 2, 3, 4, 5, 6, 7, 9], [7, 9]), ([8, 10, 0, 1, 2, 3, 4, 5, 6, 7, 8, 9, 10], [8])])
def laws_FnExactDecodeNear.B5 : List Nat := [0, 1, 0, 7, 0, 31, 63, 127, 127, 0, 767, 2047]
theorem laws_FnExactDecodeNear.tab5 : rtab .any (opsOf Try.f4 5) = laws_FnExactDecodeNear.T5 := by kernel_rfl
theorem laws_FnExactDecodeNear.bits5 : waitsOk laws_FnExactDecodeNear.T5.2 laws_FnExactDecodeNear.B5 = true := by kernel_rfl
def laws_FnExactDecodeNear.T7 : Bool × List (List Nat × List Nat) := (true, [([], []), ([], []), ([1], [1]), ([], []), ([0, 2, 3, 2], [0, 2, 3]), ([4], [4]), ([5], [5]), ([5], [5]), ([], []), ([8, 6, 4, 0, 1, 2, 3, 4, 5, 6, 8], [6, 8]), ([7, 9, 0, 1, 2, 3, 4, 5, 6, 7, 8, 9], [7])])
def laws_FnExactDecodeNear.B7 : List Nat := [0, 0, 2, 0, 15, 31, 63, 63, 0, 383, 1023]
theorem laws_FnExactDecodeNear.tab7 : rtab .any (opsOf Try.f4 7) = laws_FnExactDecodeNear.T7 := by kernel_rfl
theorem laws_FnExactDecodeNear.bits7 : waitsOk laws_FnExactDecodeNear.T7.2 laws_FnExactDecodeNear.B7 = true := by kernel_rfl
set_option maxHeartbeats 8000000 in
set_option maxRecDepth 100000 in
theorem laws_FnExactDecodeNear.calls (k : Nat) (a0_0 : Int) (a0_1 : Int) (A0_2 : Option Addr) (c0_2 : Nat) (l0_2 : List (S36)) (a1_0 : Int) (a1_1 : Int) (a1_2 : Int) (a1_3 : Int) (a2 : Int) (r : Bool) (w : World) (hr0_2 : Kd.C k36 w A0_2 l0_2.length l0_2) (hc0_2 : l0_2.length ≤ c0_2) (h : laws_FnExactDecodeNear.f k a0_0 a0_1 l0_2 a1_0 a1_1 a1_2 a1_3 a2 = some r) :
  Calls Try.prog 4 #[.agg #[.int .i8 a0_0, .int .i8 a0_1, .slice A0_2 l0_2.length c0_2], .agg #[.int .i8 a1_0, .int .i8 a1_1, .int .i8 a1_2, .int .i8 a1_3], .int .i64 a2] w fun e w' => e = .returned (.bool r) ∧ Below w.heap.size w w' := by
 have hu25 := Try.underlying25
 have hu36 := Try.underlying36
 have hu38 := Try.underlying38
 have hu29 := Try.underlying29
 have HR0_2 := Aside0.mk hr0_2
 have HC0_2 := Aside0.mk hc0_2
 clear hr0_2 hc0_2
 have HB := A_ (Below.refl w.heap.size w)
 have H : ((laws_szFixed.f a0_0 a0_1 l0_2 1048576).bind fun t295 => (if t295 < 0 then (some true) else ((laws_toFixed.f k a0_0 a0_1 l0_2).bind fun bt296 => ((laws_toWord.f k a1_0 a1_1 a1_2 a1_3).bind fun bt301 => ((spec_DecodeNear.f k bt296.1 bt296.2.1 bt296.2.2 bt301.1 bt301.2.1 bt301.2.2.1 bt301.2.2.2 a2).bind fun bt305 => ((laws_toFixed.f k a0_0 a0_1 l0_2).bind fun bt309 => ((laws_toWord.f k a1_0 a1_1 a1_2 a1_3).bind fun bt315 => ((impl_DecodeNear.f k bt309.1 bt309.2.1 bt309.2.2 bt315.1 bt315.2.1 bt315.2.2.1 bt315.2.2.2 a2).bind fun bt319 => ((laws_eqCase.f bt319.1 bt319.2.1 bt305.1 bt305.2.1).bind fun t323 => (if t323 = true then (laws_FnExactDecodeNear.j0 k (bt319.2.2 != bt305.2.2) a0_0 a0_1 l0_2 bt309.1 bt309.2.1 bt309.2.2) else (laws_FnExactDecodeNear.j0 k true a0_0 a0_1 l0_2 bt309.1 bt309.2.1 bt309.2.2))))))))))) = some r := h
 clear h
 replace H := Option.bind_eq_some_iff.mp H
 obtain ⟨t295, A40, H⟩ := H
 replace H : (if t295 < 0 then (some true) else ((laws_toFixed.f k a0_0 a0_1 l0_2).bind fun bt296 => ((laws_toWord.f k a1_0 a1_1 a1_2 a1_3).bind fun bt301 => ((spec_DecodeNear.f k bt296.1 bt296.2.1 bt296.2.2 bt301.1 bt301.2.1 bt301.2.2.1 bt301.2.2.2 a2).bind fun bt305 => ((laws_toFixed.f k a0_0 a0_1 l0_2).bind fun bt309 => ((laws_toWord.f k a1_0 a1_1 a1_2 a1_3).bind fun bt315 => ((impl_DecodeNear.f k bt309.1 bt309.2.1 bt309.2.2 bt315.1 bt315.2.1 bt315.2.2.1 bt315.2.2.2 a2).bind fun bt319 => ((laws_eqCase.f bt319.1 bt319.2.1 bt305.1 bt305.2.1).bind fun t323 => (if t323 = true then (laws_FnExactDecodeNear.j0 k (bt319.2.2 != bt305.2.2) a0_0 a0_1 l0_2 bt309.1 bt309.2.1 bt309.2.2) else (laws_FnExactDecodeNear.j0 k true a0_0 a0_1 l0_2 bt309.1 bt309.2.1 bt309.2.2)))))))))) = some r := H
 have A4 := Aside0.mk A40
 clear A40
 by_cases c5 : t295 < 0
 ·rw [if_pos c5] at H
  have c5b0 : decide (t295 < 0) = true := decide_eq_true c5
  clear c5
  obtain rfl := Option.some.inj H
  go_enter Try.func4, Try.ntmps4
  go_wp2_with (first | ((with_reducible refine gate_dst (N := 3) rfl ?_); refine box_event ?hg (N := 3) ?hd (cs := #[.int .i8 a0_0, .int .i8 a0_1, .slice A0_2 l0_2.length c0_2]) (t := 25) ?hr ?_; (case hd => rfl); (case hg => rfl); (case hr => first | (go_simp; done) | (go_simp; rfl)); intro gb293 hg w6 hbox hb; have n0_ := A_ (below_step (bl_ HB) hb); have n1_ := A_ (hbox); have n2_ := A_ ((by rw [hg]; exact (below_size (bl_ HB)) : w.heap.size ≤ gb293)); have n3_ := n2_; clear HB; have HB := n0_; have BK293 := n1_; have GW293 := n2_; have GE293 := n3_; clear n0_ n1_ n2_ n3_; clear hb hbox hg) | ((with_reducible refine gate_dst (N := 4) rfl ?_); refine box_event ?hg (N := 4) ?hd (cs := #[.int .i8 a1_0, .int .i8 a1_1, .int .i8 a1_2, .int .i8 a1_3]) (t := 36) ?hr ?_; (case hd => rfl); (case hg => rfl); (case hr => first | (go_simp; done) | (go_simp; rfl)); intro gb294 hg w7 hbox hb; have n0_ := A_ (blk_below (pl_ BK293) hb); have n1_ := A_ (below_step (bl_ HB) hb); have n2_ := A_ (hbox); have n3_ := A_ ((by rw [hg]; exact (below_size (bl_ HB)) : w.heap.size ≤ gb294)); have n4_ := n3_; have n5_ := A_ ((by rw [hg]; exact Nat.ne_of_lt (blk_lt (pl_ BK293)) : gb293 ≠ gb294)); have n6_ := Aside0.mk n5_.out.symm; clear BK293; clear HB; have BK293 := n0_; have HB := n1_; have BK294 := n2_; have GW294 := n3_; have GE294 := n4_; have NB293_294 := n5_; have NB294_293 := n6_; clear n0_ n1_ n2_ n3_ n4_ n5_ n6_; clear hb hbox hg; have hnb8 := NB293_294.out; have hnc8 := NB294_293.out; obtain ⟨hcz9_0, hcz9_1, hcz9_2, hfz9_0, hfz9_1, hfz9_2⟩ := cl3_ BK293) | ((with_reducible refine gate_callee (f := 5) rfl ?_); refine goesL_ (some 15) rfl rfl Try.func5 (by kernel_rfl) rfl #[.agg #[.int .i8 a0_0, .int .i8 a0_1, .slice A0_2 l0_2.length c0_2], .int .i64 1048576] rfl arg_ ?_; (with_reducible refine (laws_szFixed.calls a0_0 a0_1 _ _ l0_2 1048576 t295 _ ?side1 ?side2 A4.out).mono ?_); (case side1 => exact Kd.C_below HR0_2.out (bl_ HB)); (case side2 => exact HC0_2.out); rintro e w10 ⟨rfl, hb⟩; refine ⟨_, rfl, ?_⟩; have n0_ := A_ (blk_below (pl_ BK293) hb); have n1_ := A_ (blk_below (pl_ BK294) hb); have n2_ := A_ (below_step (bl_ HB) hb); clear BK293; clear BK294; clear HB; have BK293 := n0_; have BK294 := n1_; have HB := n2_; clear n0_ n1_ n2_; (try clear hb); (try clear hb2); (try clear hk); (try clear hi)))
  go_ret
  exact ⟨by first | rfl | (simp [errW_none, errW_some] <;> rfl) | (simp [*, errW_none, errW_some] <;> rfl), bl_ HB⟩
 ·rw [if_neg c5] at H
  have c5b0 : decide (t295 < 0) = false := decide_eq_false c5
  clear c5
  replace H := Option.bind_eq_some_iff.mp H
  obtain ⟨⟨t296, t297, t298⟩, A110, H⟩ := H
  replace H : ((laws_toWord.f k a1_0 a1_1 a1_2 a1_3).bind fun bt301 => ((spec_DecodeNear.f k t296 t297 t298 bt301.1 bt301.2.1 bt301.2.2.1 bt301.2.2.2 a2).bind fun bt305 => ((laws_toFixed.f k a0_0 a0_1 l0_2).bind fun bt309 => ((laws_toWord.f k a1_0 a1_1 a1_2 a1_3).bind fun bt315 => ((impl_DecodeNear.f k bt309.1 bt309.2.1 bt309.2.2 bt315.1 bt315.2.1 bt315.2.2.1 bt315.2.2.2 a2).bind fun bt319 => ((laws_eqCase.f bt319.1 bt319.2.1 bt305.1 bt305.2.1).bind fun t323 => (if t323 = true then (laws_FnExactDecodeNear.j0 k (bt319.2.2 != bt305.2.2) a0_0 a0_1 l0_2 bt309.1 bt309.2.1 bt309.2.2) else (laws_FnExactDecodeNear.j0 k true a0_0 a0_1 l0_2 bt309.1 bt309.2.1 bt309.2.2)))))))) = some r := H
  have A11 := Aside0.mk A110
  clear A110
  replace H := Option.bind_eq_some_iff.mp H
  obtain ⟨⟨t301, t302, t303, t304⟩, A120, H⟩ := H
  replace H : ((spec_DecodeNear.f k t296 t297 t298 t301 t302 t303 t304 a2).bind fun bt305 => ((laws_toFixed.f k a0_0 a0_1 l0_2).bind fun bt309 => ((laws_toWord.f k a1_0 a1_1 a1_2 a1_3).bind fun bt315 => ((impl_DecodeNear.f k bt309.1 bt309.2.1 bt309.2.2 bt315.1 bt315.2.1 bt315.2.2.1 bt315.2.2.2 a2).bind fun bt319 => ((laws_eqCase.f bt319.1 bt319.2.1 bt305.1 bt305.2.1).bind fun t323 => (if t323 = true then (laws_FnExactDecodeNear.j0 k (bt319.2.2 != bt305.2.2) a0_0 a0_1 l0_2 bt309.1 bt309.2.1 bt309.2.2) else (laws_FnExactDecodeNear.j0 k true a0_0 a0_1 l0_2 bt309.1 bt309.2.1 bt309.2.2))))))) = some r := H
  have A12 := Aside0.mk A120
  clear A120
  replace H := Option.bind_eq_some_iff.mp H
  obtain ⟨⟨t305, t306, t307⟩, A130, H⟩ := H
  replace H : ((laws_toFixed.f k a0_0 a0_1 l0_2).bind fun bt309 => ((laws_toWord.f k a1_0 a1_1 a1_2 a1_3).bind fun bt315 => ((impl_DecodeNear.f k bt309.1 bt309.2.1 bt309.2.2 bt315.1 bt315.2.1 bt315.2.2.1 bt315.2.2.2 a2).bind fun bt319 => ((laws_eqCase.f bt319.1 bt319.2.1 t305 t306).bind fun t323 => (if t323 = true then (laws_FnExactDecodeNear.j0 k (bt319.2.2 != t307) a0_0 a0_1 l0_2 bt309.1 bt309.2.1 bt309.2.2) else (laws_FnExactDecodeNear.j0 k true a0_0 a0_1 l0_2 bt309.1 bt309.2.1 bt309.2.2)))))) = some r := H
  have A13 := Aside0.mk A130
  clear A130
  replace H := Option.bind_eq_some_iff.mp H
  obtain ⟨⟨t309, t310, t311⟩, A140, H⟩ := H
  replace H : ((laws_toWord.f k a1_0 a1_1 a1_2 a1_3).bind fun bt315 => ((impl_DecodeNear.f k t309 t310 t311 bt315.1 bt315.2.1 bt315.2.2.1 bt315.2.2.2 a2).bind fun bt319 => ((laws_eqCase.f bt319.1 bt319.2.1 t305 t306).bind fun t323 => (if t323 = true then (laws_FnExactDecodeNear.j0 k (bt319.2.2 != t307) a0_0 a0_1 l0_2 t309 t310 t311) else (laws_FnExactDecodeNear.j0 k true a0_0 a0_1 l0_2 t309 t310 t311))))) = some r := H
  have A14 := Aside0.mk A140
  clear A140
  replace H := Option.bind_eq_some_iff.mp H
  obtain ⟨⟨t315, t316, t317, t318⟩, A150, H⟩ := H
  replace H : ((impl_DecodeNear.f k t309 t310 t311 t315 t316 t317 t318 a2).bind fun bt319 => ((laws_eqCase.f bt319.1 bt319.2.1 t305 t306).bind fun t323 => (if t323 = true then (laws_FnExactDecodeNear.j0 k (bt319.2.2 != t307) a0_0 a0_1 l0_2 t309 t310 t311) else (laws_FnExactDecodeNear.j0 k true a0_0 a0_1 l0_2 t309 t310 t311)))) = some r := H
  have A15 := Aside0.mk A150
  clear A150
  replace H := Option.bind_eq_some_iff.mp H
  obtain ⟨⟨t319, t320, t321⟩, A160, H⟩ := H
  replace H : ((laws_eqCase.f t319 t320 t305 t306).bind fun t323 => (if t323 = true then (laws_FnExactDecodeNear.j0 k (t321 != t307) a0_0 a0_1 l0_2 t309 t310 t311) else (laws_FnExactDecodeNear.j0 k true a0_0 a0_1 l0_2 t309 t310 t311))) = some r := H
  have A16 := Aside0.mk A160
  clear A160
  have HC17 := Aside0.mk H
  clear H
  go_enter Try.func4, Try.ntmps4
  try go_wp2_with (first | ((with_reducible refine gate_dst (N := 3) rfl ?_); refine box_event ?hg (N := 3) ?hd (cs := #[.int .i8 a0_0, .int .i8 a0_1, .slice A0_2 l0_2.length c0_2]) (t := 25) ?hr ?_; (case hd => rfl); (case hg => rfl); (case hr => first | (go_simp; done) | (go_simp; rfl)); intro gb293 hg w18 hbox hb; have n0_ := A_ (below_step (bl_ HB) hb); have n1_ := A_ (hbox); have n2_ := A_ ((by rw [hg]; exact (below_size (bl_ HB)) : w.heap.size ≤ gb293)); have n3_ := n2_; clear HB; have HB := n0_; have BK293 := n1_; have GW293 := n2_; have GE293 := n3_; clear n0_ n1_ n2_ n3_; clear hb hbox hg) | ((with_reducible refine gate_dst (N := 4) rfl ?_); refine box_event ?hg (N := 4) ?hd (cs := #[.int .i8 a1_0, .int .i8 a1_1, .int .i8 a1_2, .int .i8 a1_3]) (t := 36) ?hr ?_; (case hd => rfl); (case hg => rfl); (case hr => first | (go_simp; done) | (go_simp; rfl)); intro gb294 hg w19 hbox hb; have n0_ := A_ (blk_below (pl_ BK293) hb); have n1_ := A_ (below_step (bl_ HB) hb); have n2_ := A_ (hbox); have n3_ := A_ ((by rw [hg]; exact (below_size (bl_ HB)) : w.heap.size ≤ gb294)); have n4_ := n3_; have n5_ := A_ ((by rw [hg]; exact Nat.ne_of_lt (blk_lt (pl_ BK293)) : gb293 ≠ gb294)); have n6_ := Aside0.mk n5_.out.symm; clear BK293; clear HB; have BK293 := n0_; have HB := n1_; have BK294 := n2_; have GW294 := n3_; have GE294 := n4_; have NB293_294 := n5_; have NB294_293 := n6_; clear n0_ n1_ n2_ n3_ n4_ n5_ n6_; clear hb hbox hg; have hnb20 := NB293_294.out; have hnc20 := NB294_293.out; obtain ⟨hcz21_0, hcz21_1, hcz21_2, hfz21_0, hfz21_1, hfz21_2⟩ := cl3_ BK293) | ((with_reducible refine gate_callee (f := 5) rfl ?_); refine goesL_ (some 15) rfl rfl Try.func5 (by kernel_rfl) rfl #[.agg #[.int .i8 a0_0, .int .i8 a0_1, .slice A0_2 l0_2.length c0_2], .int .i64 1048576] rfl arg_ ?_; (with_reducible refine (laws_szFixed.calls a0_0 a0_1 _ _ l0_2 1048576 t295 _ ?side1 ?side2 A4.out).mono ?_); (case side1 => exact Kd.C_below HR0_2.out (bl_ HB)); (case side2 => exact HC0_2.out); rintro e w22 ⟨rfl, hb⟩; refine ⟨_, rfl, ?_⟩; have n0_ := A_ (blk_below (pl_ BK293) hb); have n1_ := A_ (blk_below (pl_ BK294) hb); have n2_ := A_ (below_step (bl_ HB) hb); clear BK293; clear BK294; clear HB; have BK293 := n0_; have BK294 := n1_; have HB := n2_; clear n0_ n1_ n2_; (try clear hb); (try clear hb2); (try clear hk); (try clear hi)))
  have n0_ := A_ (blk_drew BK293.out)
  have n1_ := A_ (blk_drew BK294.out)
  have n2_ := A_ (below_drew1 HB.out)
  clear BK293
  clear BK294
  clear HB
  have BK293 := n0_
  have BK294 := n1_
  have HB := n2_
  clear n0_ n1_ n2_
  refine start_ (n := 12) (S := fun w' => w'.cell? ⟨gb293, 0, none⟩ = some (.int .i8 a0_0) ∧ w'.cell? ⟨gb293, 1, none⟩ = some (.int .i8 a0_1) ∧ w'.cell? ⟨gb293, 2, none⟩ = some (.slice A0_2 l0_2.length c0_2) ∧ w'.cell? ⟨gb294, 0, none⟩ = some (.int .i8 a1_0) ∧ w'.cell? ⟨gb294, 1, none⟩ = some (.int .i8 a1_1) ∧ w'.cell? ⟨gb294, 2, none⟩ = some (.int .i8 a1_2) ∧ w'.cell? ⟨gb294, 3, none⟩ = some (.int .i8 a1_3)) (ds := []) #[false, false, false, false, false, false, false, false, false, false, false, false] (by kernel_rfl) rfl rfl ⟨(blk_cell BK293.out 0).trans rfl, (blk_cell BK293.out 1).trans rfl, (blk_cell BK293.out 2).trans rfl, (blk_cell BK294.out 0).trans rfl, (blk_cell BK294.out 1).trans rfl, (blk_cell BK294.out 2).trans rfl, (blk_cell BK294.out 3).trans rfl⟩ (fun hHeld => ?_); refine with_tabW laws_FnExactDecodeNear.tab5 laws_FnExactDecodeNear.bits5 (fun HT_ HW_ => ?_)
  generalize w22.drew = w23 at BK293 BK294 HB hHeld ⊢
  refine pure_ (i := 4) (N := some 23) (v := ?_) (a' := ?_) #[false, false, false, false, true, false, false, false, false, false, false, false] rfl rfl (any_of HT_.out (by kernel_rfl)) (fun _ _ _ h => h) (Or.inl ⟨by rfl, ?_⟩) ?_ ?_
  rotate_left
  ·intro w'
   go_simp
   with_reducible rfl
  rotate_left
  ·simp only [Act.put, sp_]
   rfl
  refine take_ (i := 0) (N := some 19) (v := ?_) (a' := ?_) #[true, false, false, false, true, false, false, false, false, false, false, false] rfl rfl (take_ofW HT_.out HW_.out (by kernel_rfl)) (fun _ _ _ h => h) (Or.inl ⟨by rfl, ?_⟩) hHeld ?_ ?_
  rotate_left
  ·rintro w' ⟨s0, s1, s2, s3, s4, s5, s6⟩
   go_simp
   with_reducible rfl
  rotate_left
  ·simp only [Act.put, sp_]
   rfl
  refine take_ (i := 2) (N := some 21) (v := ?_) (a' := ?_) #[true, false, true, false, true, false, false, false, false, false, false, false] rfl rfl (take_ofW HT_.out HW_.out (by kernel_rfl)) (fun _ _ _ h => h) (Or.inl ⟨by rfl, ?_⟩) hHeld ?_ ?_
  rotate_left
  ·rintro w' ⟨s0, s1, s2, s3, s4, s5, s6⟩
   go_simp
   with_reducible rfl
  rotate_left
  ·simp only [Act.put, sp_]
   rfl
  refine join_ (σ := Value × Nat) 2 #[true, true, true, true, true, true, true, true, true, true, false, false] (fun s_ => [(20, .agg #[.int .i8 t296, .int .i8 t297, s_.1]), (22, .agg #[.int .i8 t301, .int .i8 t302, .int .i8 t303, .int .i8 t304]), (24, .tuple #[.agg #[.int .i8 t305, .bool t306], .int .i64 t307]), (8, .pointer (some ⟨s_.2, 0, none⟩)), (18, .tuple #[.agg #[.int .i8 t305, .bool t306], .int .i64 t307]), (25, .agg #[.int .i8 t305, .bool t306]), (26, .int .i64 t307)]) (fun s_ w' => (w'.cell? ⟨gb293, 0, none⟩ = some (.int .i8 a0_0) ∧ w'.cell? ⟨gb293, 1, none⟩ = some (.int .i8 a0_1) ∧ w'.cell? ⟨gb293, 2, none⟩ = some (.slice A0_2 l0_2.length c0_2) ∧ w'.cell? ⟨gb294, 0, none⟩ = some (.int .i8 a1_0) ∧ w'.cell? ⟨gb294, 1, none⟩ = some (.int .i8 a1_1) ∧ w'.cell? ⟨gb294, 2, none⟩ = some (.int .i8 a1_2) ∧ w'.cell? ⟨gb294, 3, none⟩ = some (.int .i8 a1_3)) ∧ (Kd.R k41 41 w' w.heap.size (fun _ => True) s_.1 t298) ∧ (w'.heap[gb293]? = some (.cells #[.int .i8 a0_0, .int .i8 a0_1, .slice A0_2 l0_2.length c0_2] 25 (0, 0))) ∧ (w'.heap[gb294]? = some (.cells #[.int .i8 a1_0, .int .i8 a1_1, .int .i8 a1_2, .int .i8 a1_3] 36 (0, 0))) ∧ (w'.heap[s_.2]? = some (.cells #[.int .i8 0, .bool false] 38 (0, 0))) ∧ (w.heap.size ≤ s_.2) ∧ (w.heap.size ≤ s_.2) ∧ (gb293 ≠ s_.2) ∧ (s_.2 ≠ gb293) ∧ (gb294 ≠ s_.2) ∧ (s_.2 ≠ gb294) ∧ (Below w.heap.size w w')) ?_ ?_
  rotate_left
  ·intro hCont
   refine two_ (i := 1) (j := 9) (Ni := some 20) (Nj := some 8) #[true, true, true, false, true, false, false, false, false, false, false, false] #[true, false, true, false, true, false, false, false, false, true, false, false] rfl rfl rfl rfl (two_of HT_.out (by kernel_rfl)) (by decide) (by decide) (fun K hK => ?_) (fun K hK => ?_)
   ·skip
    refine goes_ Try.func7 (by kernel_rfl) rfl #[.agg #[.int .i8 a0_0, .int .i8 a0_1, .slice A0_2 l0_2.length c0_2]] (by rfl) rfl rfl arg_ ?_
    with_reducible refine (laws_toFixed.calls k a0_0 a0_1 _ _ l0_2 t296 t297 t298 _ ?side1 ?side2 A11.out).mono ?_
    (case side1 => exact Kd.C_below HR0_2.out (bl_ HB))
    (case side2 => exact HC0_2.out)
    rintro e w24 ⟨v299, rfl, ho0, hb⟩
    refine ⟨_, rfl, ?_⟩
    have n0_ := A_ (Kd.R_lower ho0 (below_size (bl_ HB)))
    have n1_ := A_ (blk_below (pl_ BK293) hb)
    have n2_ := A_ (blk_below (pl_ BK294) hb)
    have n3_ := A_ (below_step (bl_ HB) hb)
    clear BK293
    clear BK294
    clear HB
    have HO300 := n0_
    have BK293 := n1_
    have BK294 := n2_
    have HB := n3_
    clear n0_ n1_ n2_ n3_
    (try clear hb)
    (try clear hb2)
    (try clear hk)
    (try clear hi)
    (try clear ho0)
    refine hK.out _ _ ⟨(blk_cell BK293.out 0).trans rfl, (blk_cell BK293.out 1).trans rfl, (blk_cell BK293.out 2).trans rfl, (blk_cell BK294.out 0).trans rfl, (blk_cell BK294.out 1).trans rfl, (blk_cell BK294.out 2).trans rfl, (blk_cell BK294.out 3).trans rfl⟩ (fun hHeld => ?_)
    clear hK K
    refine norm_ (a' := ?_) ?_ ?_
    rotate_left
    ·show Act.put _ (some 20) _ = _
     simp only [Act.put, sp_]
     rfl
    refine two_ (i := 3) (j := 9) (Ni := some 22) (Nj := some 8) #[true, true, true, true, true, false, false, false, false, false, false, false] #[true, true, true, false, true, false, false, false, false, true, false, false] rfl rfl rfl rfl (two_of HT_.out (by kernel_rfl)) (by decide) (by decide) (fun K hK => ?_) (fun K hK => ?_)
    ·skip
     refine goes_ Try.func13 (by kernel_rfl) rfl #[.agg #[.int .i8 a1_0, .int .i8 a1_1, .int .i8 a1_2, .int .i8 a1_3]] (by rfl) rfl rfl arg_ ?_
     with_reducible refine (laws_toWord.calls k a1_0 a1_1 a1_2 a1_3 t301 t302 t303 t304 _ A12.out).mono ?_
     rintro e w25 ⟨rfl, hb⟩
     refine ⟨_, rfl, ?_⟩
     have n0_ := A_ (Kd.R_below (pr_ HO300) hb)
     have n1_ := A_ (blk_below (pl_ BK293) hb)
     have n2_ := A_ (blk_below (pl_ BK294) hb)
     have n3_ := A_ (below_step (bl_ HB) hb)
     clear HO300
     clear BK293
     clear BK294
     clear HB
     have HO300 := n0_
     have BK293 := n1_
     have BK294 := n2_
     have HB := n3_
     clear n0_ n1_ n2_ n3_
     (try clear hb)
     (try clear hb2)
     (try clear hk)
     (try clear hi)
     obtain ⟨Ao26, co26, eo26⟩ := Kd.R_slice HO300.out
     (first | subst eo26 | (injection eo26 with f1_ f2_ f3_; have f4_ := f1_.symm; have f5_ := f3_.symm; clear f1_ f2_ f3_; subst f4_; subst f5_))
     refine hK.out _ _ ⟨(blk_cell BK293.out 0).trans rfl, (blk_cell BK293.out 1).trans rfl, (blk_cell BK293.out 2).trans rfl, (blk_cell BK294.out 0).trans rfl, (blk_cell BK294.out 1).trans rfl, (blk_cell BK294.out 2).trans rfl, (blk_cell BK294.out 3).trans rfl⟩ (fun hHeld => ?_)
     clear hK K
     refine norm_ (a' := ?_) ?_ ?_
     rotate_left
     ·show Act.put _ (some 22) _ = _
      simp only [Act.put, sp_]
      rfl
     refine two_ (i := 5) (j := 9) (Ni := some 24) (Nj := some 8) #[true, true, true, true, true, true, false, false, false, false, false, false] #[true, true, true, true, true, false, false, false, false, true, false, false] rfl rfl rfl rfl (two_of HT_.out (by kernel_rfl)) (by decide) (by decide) (fun K hK => ?_) (fun K hK => ?_)
     ·skip
      refine goes_ Try.func12 (by kernel_rfl) rfl #[.agg #[.int .i8 t296, .int .i8 t297, .slice Ao26 t298.length co26], .agg #[.int .i8 t301, .int .i8 t302, .int .i8 t303, .int .i8 t304], .int .i64 a2] (by rfl) rfl rfl arg_ ?_
      with_reducible refine (spec_DecodeNear.calls k t296 t297 _ _ t298 t301 t302 t303 t304 a2 t305 t306 t307 _ ?side1 ?side2 A13.out).mono ?_
      (case side1 => repeat (first | exact (Kd.R_reads' HO300.out).2.2 | (with_reducible refine Kd.C_alloc ?_ _) | (with_reducible refine Kd.C_drewN ?_ _) | (with_reducible refine Kd.C_drew ?_)))
      (case side2 => exact (Kd.R_reads' HO300.out).2.1)
      rintro e w27 ⟨rfl, hb⟩
      refine ⟨_, rfl, ?_⟩
      have n0_ := A_ (Kd.R_below (pr_ HO300) hb)
      have n1_ := A_ (blk_below (pl_ BK293) hb)
      have n2_ := A_ (blk_below (pl_ BK294) hb)
      have n3_ := A_ (below_step (bl_ HB) hb)
      clear HO300
      clear BK293
      clear BK294
      clear HB
      have HO300 := n0_
      have BK293 := n1_
      have BK294 := n2_
      have HB := n3_
      clear n0_ n1_ n2_ n3_
      (try clear hb)
      (try clear hb2)
      (try clear hk)
      (try clear hi)
      refine hK.out _ _ ⟨(blk_cell BK293.out 0).trans rfl, (blk_cell BK293.out 1).trans rfl, (blk_cell BK293.out 2).trans rfl, (blk_cell BK294.out 0).trans rfl, (blk_cell BK294.out 1).trans rfl, (blk_cell BK294.out 2).trans rfl, (blk_cell BK294.out 3).trans rfl⟩ (fun hHeld => ?_)
      clear hK K
      refine norm_ (a' := ?_) ?_ ?_
      rotate_left
      ·show Act.put _ (some 24) _ = _
       simp only [Act.put, sp_]
       rfl
      refine pure_ (i := 6) (N := some 18) (v := ?_) (a' := ?_) #[true, true, true, true, true, true, true, false, false, false, false, false] rfl rfl (any_of HT_.out (by kernel_rfl)) (fun _ _ _ h => h) (Or.inl ⟨by rfl, ?_⟩) ?_ ?_
      rotate_left
      ·intro w'
       go_simp
       with_reducible rfl
      rotate_left
      ·simp only [Act.put, sp_]
       rfl
      refine pure_ (i := 7) (N := some 25) (v := ?_) (a' := ?_) #[true, true, true, true, true, true, true, true, false, false, false, false] rfl rfl (any_of HT_.out (by kernel_rfl)) (fun _ _ _ h => h) (Or.inl ⟨by rfl, ?_⟩) ?_ ?_
      rotate_left
      ·intro w'
       go_simp
       with_reducible rfl
      rotate_left
      ·simp only [Act.put, sp_]
       rfl
      refine pure_ (i := 8) (N := some 26) (v := ?_) (a' := ?_) #[true, true, true, true, true, true, true, true, true, false, false, false] rfl rfl (any_of HT_.out (by kernel_rfl)) (fun _ _ _ h => h) (Or.inl ⟨by rfl, ?_⟩) ?_ ?_
      rotate_left
      ·intro w'
       go_simp
       with_reducible rfl
      rotate_left
      ·simp only [Act.put, sp_]
       rfl
      refine one_ (i := 9) (N := some 8) #[true, true, true, true, true, true, true, true, true, true, false, false] rfl rfl (one_of HT_.out (by kernel_rfl)) (by decide) (fun K hK => ?_)
      refine box_step ?hg (N := 8) ?hd (cs := #[.int .i8 0, .bool false]) (t := 38) ?hr ?_; (case hd => rfl); (case hg => rfl); (case hr => first | (go_simp; done) | (go_simp; rfl))
      intro gb308 hg w28 hbox hb
      have n0_ := A_ (Kd.R_below (pr_ HO300) hb)
      have n1_ := A_ (blk_below (pl_ BK293) hb)
      have n2_ := A_ (blk_below (pl_ BK294) hb)
      have n3_ := A_ (below_step (bl_ HB) hb)
      have n4_ := A_ (hbox)
      have n5_ := A_ ((by rw [hg]; exact (below_size (bl_ HB)) : w.heap.size ≤ gb308))
      have n6_ := n5_
      have n7_ := A_ ((by rw [hg]; exact Nat.ne_of_lt (blk_lt (pl_ BK293)) : gb293 ≠ gb308))
      have n8_ := Aside0.mk n7_.out.symm
      have n9_ := A_ ((by rw [hg]; exact Nat.ne_of_lt (blk_lt (pl_ BK294)) : gb294 ≠ gb308))
      have n10_ := Aside0.mk n9_.out.symm
      clear HO300
      clear BK293
      clear BK294
      clear HB
      have HO300 := n0_
      have BK293 := n1_
      have BK294 := n2_
      have HB := n3_
      have BK308 := n4_
      have GW308 := n5_
      have GE308 := n6_
      have NB293_308 := n7_
      have NB308_293 := n8_
      have NB294_308 := n9_
      have NB308_294 := n10_
      clear n0_ n1_ n2_ n3_ n4_ n5_ n6_ n7_ n8_ n9_ n10_
      clear hb hbox hg
      refine hK.out _ _ ⟨(blk_cell BK293.out 0).trans rfl, (blk_cell BK293.out 1).trans rfl, (blk_cell BK293.out 2).trans rfl, (blk_cell BK294.out 0).trans rfl, (blk_cell BK294.out 1).trans rfl, (blk_cell BK294.out 2).trans rfl, (blk_cell BK294.out 3).trans rfl⟩ (fun hHeld => ?_)
      clear hK K
      refine norm_ (a' := ?_) ?_ ?_
      rotate_left
      ·show Act.put _ (some 8) _ = _
       simp only [Act.put, sp_]
       rfl
      exact norm_ pa_ (hCont (.slice Ao26 t298.length co26, gb308) _ ⟨hHeld, (pr_ HO300), (pl_ BK293), (pl_ BK294), (pl_ BK308), GW308.out, GE308.out, NB293_308.out, NB308_293.out, NB294_308.out, NB308_294.out, (bl_ HB)⟩)
     ·skip
      refine box_step ?hg (N := 8) ?hd (cs := #[.int .i8 0, .bool false]) (t := 38) ?hr ?_; (case hd => rfl); (case hg => rfl); (case hr => first | (go_simp; done) | (go_simp; rfl))
      intro gb308 hg w26 hbox hb
      have n0_ := A_ (Kd.R_below (pr_ HO300) hb)
      have n1_ := A_ (blk_below (pl_ BK293) hb)
      have n2_ := A_ (blk_below (pl_ BK294) hb)
      have n3_ := A_ (below_step (bl_ HB) hb)
      have n4_ := A_ (hbox)
      have n5_ := A_ ((by rw [hg]; exact (below_size (bl_ HB)) : w.heap.size ≤ gb308))
      have n6_ := n5_
      have n7_ := A_ ((by rw [hg]; exact Nat.ne_of_lt (blk_lt (pl_ BK293)) : gb293 ≠ gb308))
      have n8_ := Aside0.mk n7_.out.symm
      have n9_ := A_ ((by rw [hg]; exact Nat.ne_of_lt (blk_lt (pl_ BK294)) : gb294 ≠ gb308))
      have n10_ := Aside0.mk n9_.out.symm
      clear HO300
      clear BK293
      clear BK294
      clear HB
      have HO300 := n0_
      have BK293 := n1_
      have BK294 := n2_
      have HB := n3_
      have BK308 := n4_
      have GW308 := n5_
      have GE308 := n6_
      have NB293_308 := n7_
      have NB308_293 := n8_
      have NB294_308 := n9_
      have NB308_294 := n10_
      clear n0_ n1_ n2_ n3_ n4_ n5_ n6_ n7_ n8_ n9_ n10_
      clear hb hbox hg
      obtain ⟨Ao27, co27, eo27⟩ := Kd.R_slice HO300.out
      (first | subst eo27 | (injection eo27 with f1_ f2_ f3_; have f4_ := f1_.symm; have f5_ := f3_.symm; clear f1_ f2_ f3_; subst f4_; subst f5_))
      refine hK.out _ _ ⟨(blk_cell BK293.out 0).trans rfl, (blk_cell BK293.out 1).trans rfl, (blk_cell BK293.out 2).trans rfl, (blk_cell BK294.out 0).trans rfl, (blk_cell BK294.out 1).trans rfl, (blk_cell BK294.out 2).trans rfl, (blk_cell BK294.out 3).trans rfl⟩ (fun hHeld => ?_)
      clear hK K
      refine norm_ (a' := ?_) ?_ ?_
      rotate_left
      ·show Act.put _ (some 8) _ = _
       simp only [Act.put, sp_]
       rfl
      refine one_ (i := 5) (N := some 24) #[true, true, true, true, true, true, false, false, false, true, false, false] rfl rfl (one_of HT_.out (by kernel_rfl)) (by decide) (fun K hK => ?_)
      refine goes_ Try.func12 (by kernel_rfl) rfl #[.agg #[.int .i8 t296, .int .i8 t297, .slice Ao27 t298.length co27], .agg #[.int .i8 t301, .int .i8 t302, .int .i8 t303, .int .i8 t304], .int .i64 a2] (by rfl) rfl rfl arg_ ?_
      with_reducible refine (spec_DecodeNear.calls k t296 t297 _ _ t298 t301 t302 t303 t304 a2 t305 t306 t307 _ ?side1 ?side2 A13.out).mono ?_
      (case side1 => repeat (first | exact (Kd.R_reads' HO300.out).2.2 | (with_reducible refine Kd.C_alloc ?_ _) | (with_reducible refine Kd.C_drewN ?_ _) | (with_reducible refine Kd.C_drew ?_)))
      (case side2 => exact (Kd.R_reads' HO300.out).2.1)
      rintro e w28 ⟨rfl, hb⟩
      refine ⟨_, rfl, ?_⟩
      have n0_ := A_ (Kd.R_below (pr_ HO300) hb)
      have n1_ := A_ (blk_below (pl_ BK293) hb)
      have n2_ := A_ (blk_below (pl_ BK294) hb)
      have n3_ := A_ (blk_below (pl_ BK308) hb)
      have n4_ := A_ (below_step (bl_ HB) hb)
      clear HO300
      clear BK293
      clear BK294
      clear BK308
      clear HB
      have HO300 := n0_
      have BK293 := n1_
      have BK294 := n2_
      have BK308 := n3_
      have HB := n4_
      clear n0_ n1_ n2_ n3_ n4_
      (try clear hb)
      (try clear hb2)
      (try clear hk)
      (try clear hi)
      refine hK.out _ _ ⟨(blk_cell BK293.out 0).trans rfl, (blk_cell BK293.out 1).trans rfl, (blk_cell BK293.out 2).trans rfl, (blk_cell BK294.out 0).trans rfl, (blk_cell BK294.out 1).trans rfl, (blk_cell BK294.out 2).trans rfl, (blk_cell BK294.out 3).trans rfl⟩ (fun hHeld => ?_)
      clear hK K
      refine norm_ (a' := ?_) ?_ ?_
      rotate_left
      ·show Act.put _ (some 24) _ = _
       simp only [Act.put, sp_]
       rfl
      refine pure_ (i := 6) (N := some 18) (v := ?_) (a' := ?_) #[true, true, true, true, true, true, true, false, false, true, false, false] rfl rfl (any_of HT_.out (by kernel_rfl)) (fun _ _ _ h => h) (Or.inl ⟨by rfl, ?_⟩) ?_ ?_
      rotate_left
      ·intro w'
       go_simp
       with_reducible rfl
      rotate_left
      ·simp only [Act.put, sp_]
       rfl
      refine pure_ (i := 7) (N := some 25) (v := ?_) (a' := ?_) #[true, true, true, true, true, true, true, true, false, true, false, false] rfl rfl (any_of HT_.out (by kernel_rfl)) (fun _ _ _ h => h) (Or.inl ⟨by rfl, ?_⟩) ?_ ?_
      rotate_left
      ·intro w'
       go_simp
       with_reducible rfl
      rotate_left
      ·simp only [Act.put, sp_]
       rfl
      refine pure_ (i := 8) (N := some 26) (v := ?_) (a' := ?_) #[true, true, true, true, true, true, true, true, true, true, false, false] rfl rfl (any_of HT_.out (by kernel_rfl)) (fun _ _ _ h => h) (Or.inl ⟨by rfl, ?_⟩) ?_ ?_
      rotate_left
      ·intro w'
       go_simp
       with_reducible rfl
      rotate_left
      ·simp only [Act.put, sp_]
       rfl
      exact norm_ pa_ (hCont (.slice Ao27 t298.length co27, gb308) _ ⟨hHeld, (pr_ HO300), (pl_ BK293), (pl_ BK294), (pl_ BK308), GW308.out, GE308.out, NB293_308.out, NB308_293.out, NB294_308.out, NB308_294.out, (bl_ HB)⟩)
    ·skip
     refine box_step ?hg (N := 8) ?hd (cs := #[.int .i8 0, .bool false]) (t := 38) ?hr ?_; (case hd => rfl); (case hg => rfl); (case hr => first | (go_simp; done) | (go_simp; rfl))
     intro gb308 hg w25 hbox hb
     have n0_ := A_ (Kd.R_below (pr_ HO300) hb)
     have n1_ := A_ (blk_below (pl_ BK293) hb)
     have n2_ := A_ (blk_below (pl_ BK294) hb)
     have n3_ := A_ (below_step (bl_ HB) hb)
     have n4_ := A_ (hbox)
     have n5_ := A_ ((by rw [hg]; exact (below_size (bl_ HB)) : w.heap.size ≤ gb308))
     have n6_ := n5_
     have n7_ := A_ ((by rw [hg]; exact Nat.ne_of_lt (blk_lt (pl_ BK293)) : gb293 ≠ gb308))
     have n8_ := Aside0.mk n7_.out.symm
     have n9_ := A_ ((by rw [hg]; exact Nat.ne_of_lt (blk_lt (pl_ BK294)) : gb294 ≠ gb308))
     have n10_ := Aside0.mk n9_.out.symm
     clear HO300
     clear BK293
     clear BK294
     clear HB
     have HO300 := n0_
     have BK293 := n1_
     have BK294 := n2_
     have HB := n3_
     have BK308 := n4_
     have GW308 := n5_
     have GE308 := n6_
     have NB293_308 := n7_
     have NB308_293 := n8_
     have NB294_308 := n9_
     have NB308_294 := n10_
     clear n0_ n1_ n2_ n3_ n4_ n5_ n6_ n7_ n8_ n9_ n10_
     clear hb hbox hg
     refine hK.out _ _ ⟨(blk_cell BK293.out 0).trans rfl, (blk_cell BK293.out 1).trans rfl, (blk_cell BK293.out 2).trans rfl, (blk_cell BK294.out 0).trans rfl, (blk_cell BK294.out 1).trans rfl, (blk_cell BK294.out 2).trans rfl, (blk_cell BK294.out 3).trans rfl⟩ (fun hHeld => ?_)
     clear hK K
     refine norm_ (a' := ?_) ?_ ?_
     rotate_left
     ·show Act.put _ (some 8) _ = _
      simp only [Act.put, sp_]
      rfl
     refine one_ (i := 3) (N := some 22) #[true, true, true, true, true, false, false, false, false, true, false, false] rfl rfl (one_of HT_.out (by kernel_rfl)) (by decide) (fun K hK => ?_)
     refine goes_ Try.func13 (by kernel_rfl) rfl #[.agg #[.int .i8 a1_0, .int .i8 a1_1, .int .i8 a1_2, .int .i8 a1_3]] (by rfl) rfl rfl arg_ ?_
     with_reducible refine (laws_toWord.calls k a1_0 a1_1 a1_2 a1_3 t301 t302 t303 t304 _ A12.out).mono ?_
     rintro e w26 ⟨rfl, hb⟩
     refine ⟨_, rfl, ?_⟩
     have n0_ := A_ (Kd.R_below (pr_ HO300) hb)
     have n1_ := A_ (blk_below (pl_ BK293) hb)
     have n2_ := A_ (blk_below (pl_ BK294) hb)
     have n3_ := A_ (blk_below (pl_ BK308) hb)
     have n4_ := A_ (below_step (bl_ HB) hb)
     clear HO300
     clear BK293
     clear BK294
     clear BK308
     clear HB
     have HO300 := n0_
     have BK293 := n1_
     have BK294 := n2_
     have BK308 := n3_
     have HB := n4_
     clear n0_ n1_ n2_ n3_ n4_
     (try clear hb)
     (try clear hb2)
     (try clear hk)
     (try clear hi)
     obtain ⟨Ao27, co27, eo27⟩ := Kd.R_slice HO300.out
     (first | subst eo27 | (injection eo27 with f1_ f2_ f3_; have f4_ := f1_.symm; have f5_ := f3_.symm; clear f1_ f2_ f3_; subst f4_; subst f5_))
     refine hK.out _ _ ⟨(blk_cell BK293.out 0).trans rfl, (blk_cell BK293.out 1).trans rfl, (blk_cell BK293.out 2).trans rfl, (blk_cell BK294.out 0).trans rfl, (blk_cell BK294.out 1).trans rfl, (blk_cell BK294.out 2).trans rfl, (blk_cell BK294.out 3).trans rfl⟩ (fun hHeld => ?_)
     clear hK K
     refine norm_ (a' := ?_) ?_ ?_
     rotate_left
     ·show Act.put _ (some 22) _ = _
      simp only [Act.put, sp_]
      rfl
     refine one_ (i := 5) (N := some 24) #[true, true, true, true, true, true, false, false, false, true, false, false] rfl rfl (one_of HT_.out (by kernel_rfl)) (by decide) (fun K hK => ?_)
     refine goes_ Try.func12 (by kernel_rfl) rfl #[.agg #[.int .i8 t296, .int .i8 t297, .slice Ao27 t298.length co27], .agg #[.int .i8 t301, .int .i8 t302, .int .i8 t303, .int .i8 t304], .int .i64 a2] (by rfl) rfl rfl arg_ ?_
     with_reducible refine (spec_DecodeNear.calls k t296 t297 _ _ t298 t301 t302 t303 t304 a2 t305 t306 t307 _ ?side1 ?side2 A13.out).mono ?_
     (case side1 => repeat (first | exact (Kd.R_reads' HO300.out).2.2 | (with_reducible refine Kd.C_alloc ?_ _) | (with_reducible refine Kd.C_drewN ?_ _) | (with_reducible refine Kd.C_drew ?_)))
     (case side2 => exact (Kd.R_reads' HO300.out).2.1)
     rintro e w28 ⟨rfl, hb⟩
     refine ⟨_, rfl, ?_⟩
     have n0_ := A_ (Kd.R_below (pr_ HO300) hb)
     have n1_ := A_ (blk_below (pl_ BK293) hb)
     have n2_ := A_ (blk_below (pl_ BK294) hb)
     have n3_ := A_ (blk_below (pl_ BK308) hb)
     have n4_ := A_ (below_step (bl_ HB) hb)
     clear HO300
     clear BK293
     clear BK294
     clear BK308
     clear HB
     have HO300 := n0_
     have BK293 := n1_
     have BK294 := n2_
     have BK308 := n3_
     have HB := n4_
     clear n0_ n1_ n2_ n3_ n4_
     (try clear hb)
     (try clear hb2)
     (try clear hk)
     (try clear hi)
     refine hK.out _ _ ⟨(blk_cell BK293.out 0).trans rfl, (blk_cell BK293.out 1).trans rfl, (blk_cell BK293.out 2).trans rfl, (blk_cell BK294.out 0).trans rfl, (blk_cell BK294.out 1).trans rfl, (blk_cell BK294.out 2).trans rfl, (blk_cell BK294.out 3).trans rfl⟩ (fun hHeld => ?_)
     clear hK K
     refine norm_ (a' := ?_) ?_ ?_
     rotate_left
     ·show Act.put _ (some 24) _ = _
      simp only [Act.put, sp_]
      rfl
     refine pure_ (i := 6) (N := some 18) (v := ?_) (a' := ?_) #[true, true, true, true, true, true, true, false, false, true, false, false] rfl rfl (any_of HT_.out (by kernel_rfl)) (fun _ _ _ h => h) (Or.inl ⟨by rfl, ?_⟩) ?_ ?_
     rotate_left
     ·intro w'
      go_simp
      with_reducible rfl
     rotate_left
     ·simp only [Act.put, sp_]
      rfl
     refine pure_ (i := 7) (N := some 25) (v := ?_) (a' := ?_) #[true, true, true, true, true, true, true, true, false, true, false, false] rfl rfl (any_of HT_.out (by kernel_rfl)) (fun _ _ _ h => h) (Or.inl ⟨by rfl, ?_⟩) ?_ ?_
     rotate_left
     ·intro w'
      go_simp
      with_reducible rfl
     rotate_left
     ·simp only [Act.put, sp_]
      rfl
     refine pure_ (i := 8) (N := some 26) (v := ?_) (a' := ?_) #[true, true, true, true, true, true, true, true, true, true, false, false] rfl rfl (any_of HT_.out (by kernel_rfl)) (fun _ _ _ h => h) (Or.inl ⟨by rfl, ?_⟩) ?_ ?_
     rotate_left
     ·intro w'
      go_simp
      with_reducible rfl
     rotate_left
     ·simp only [Act.put, sp_]
      rfl
     exact norm_ pa_ (hCont (.slice Ao27 t298.length co27, gb308) _ ⟨hHeld, (pr_ HO300), (pl_ BK293), (pl_ BK294), (pl_ BK308), GW308.out, GE308.out, NB293_308.out, NB308_293.out, NB294_308.out, NB308_294.out, (bl_ HB)⟩)
   ·skip
    refine box_step ?hg (N := 8) ?hd (cs := #[.int .i8 0, .bool false]) (t := 38) ?hr ?_; (case hd => rfl); (case hg => rfl); (case hr => first | (go_simp; done) | (go_simp; rfl))
    intro gb308 hg w24 hbox hb
    have n0_ := A_ (blk_below (pl_ BK293) hb)
    have n1_ := A_ (blk_below (pl_ BK294) hb)
    have n2_ := A_ (below_step (bl_ HB) hb)
    have n3_ := A_ (hbox)
    have n4_ := A_ ((by rw [hg]; exact (below_size (bl_ HB)) : w.heap.size ≤ gb308))
    have n5_ := n4_
    have n6_ := A_ ((by rw [hg]; exact Nat.ne_of_lt (blk_lt (pl_ BK293)) : gb293 ≠ gb308))
    have n7_ := Aside0.mk n6_.out.symm
    have n8_ := A_ ((by rw [hg]; exact Nat.ne_of_lt (blk_lt (pl_ BK294)) : gb294 ≠ gb308))
    have n9_ := Aside0.mk n8_.out.symm
    clear BK293
    clear BK294
    clear HB
    have BK293 := n0_
    have BK294 := n1_
    have HB := n2_
    have BK308 := n3_
    have GW308 := n4_
    have GE308 := n5_
    have NB293_308 := n6_
    have NB308_293 := n7_
    have NB294_308 := n8_
    have NB308_294 := n9_
    clear n0_ n1_ n2_ n3_ n4_ n5_ n6_ n7_ n8_ n9_
    clear hb hbox hg
    refine hK.out _ _ ⟨(blk_cell BK293.out 0).trans rfl, (blk_cell BK293.out 1).trans rfl, (blk_cell BK293.out 2).trans rfl, (blk_cell BK294.out 0).trans rfl, (blk_cell BK294.out 1).trans rfl, (blk_cell BK294.out 2).trans rfl, (blk_cell BK294.out 3).trans rfl⟩ (fun hHeld => ?_)
    clear hK K
    refine norm_ (a' := ?_) ?_ ?_
    rotate_left
    ·show Act.put _ (some 8) _ = _
     simp only [Act.put, sp_]
     rfl
    refine one_ (i := 1) (N := some 20) #[true, true, true, false, true, false, false, false, false, true, false, false] rfl rfl (one_of HT_.out (by kernel_rfl)) (by decide) (fun K hK => ?_)
    refine goes_ Try.func7 (by kernel_rfl) rfl #[.agg #[.int .i8 a0_0, .int .i8 a0_1, .slice A0_2 l0_2.length c0_2]] (by rfl) rfl rfl arg_ ?_
    with_reducible refine (laws_toFixed.calls k a0_0 a0_1 _ _ l0_2 t296 t297 t298 _ ?side1 ?side2 A11.out).mono ?_
    (case side1 => exact Kd.C_below HR0_2.out (bl_ HB))
    (case side2 => exact HC0_2.out)
    rintro e w25 ⟨v299, rfl, ho0, hb⟩
    refine ⟨_, rfl, ?_⟩
    have n0_ := A_ (Kd.R_lower ho0 (below_size (bl_ HB)))
    have n1_ := A_ (blk_below (pl_ BK293) hb)
    have n2_ := A_ (blk_below (pl_ BK294) hb)
    have n3_ := A_ (blk_below (pl_ BK308) hb)
    have n4_ := A_ (below_step (bl_ HB) hb)
    clear BK293
    clear BK294
    clear BK308
    clear HB
    have HO300 := n0_
    have BK293 := n1_
    have BK294 := n2_
    have BK308 := n3_
    have HB := n4_
    clear n0_ n1_ n2_ n3_ n4_
    (try clear hb)
    (try clear hb2)
    (try clear hk)
    (try clear hi)
    (try clear ho0)
    refine hK.out _ _ ⟨(blk_cell BK293.out 0).trans rfl, (blk_cell BK293.out 1).trans rfl, (blk_cell BK293.out 2).trans rfl, (blk_cell BK294.out 0).trans rfl, (blk_cell BK294.out 1).trans rfl, (blk_cell BK294.out 2).trans rfl, (blk_cell BK294.out 3).trans rfl⟩ (fun hHeld => ?_)
    clear hK K
    refine norm_ (a' := ?_) ?_ ?_
    rotate_left
    ·show Act.put _ (some 20) _ = _
     simp only [Act.put, sp_]
     rfl
    refine one_ (i := 3) (N := some 22) #[true, true, true, true, true, false, false, false, false, true, false, false] rfl rfl (one_of HT_.out (by kernel_rfl)) (by decide) (fun K hK => ?_)
    refine goes_ Try.func13 (by kernel_rfl) rfl #[.agg #[.int .i8 a1_0, .int .i8 a1_1, .int .i8 a1_2, .int .i8 a1_3]] (by rfl) rfl rfl arg_ ?_
    with_reducible refine (laws_toWord.calls k a1_0 a1_1 a1_2 a1_3 t301 t302 t303 t304 _ A12.out).mono ?_
    rintro e w26 ⟨rfl, hb⟩
    refine ⟨_, rfl, ?_⟩
    have n0_ := A_ (Kd.R_below (pr_ HO300) hb)
    have n1_ := A_ (blk_below (pl_ BK293) hb)
    have n2_ := A_ (blk_below (pl_ BK294) hb)
    have n3_ := A_ (blk_below (pl_ BK308) hb)
    have n4_ := A_ (below_step (bl_ HB) hb)
    clear HO300
    clear BK293
    clear BK294
    clear BK308
    clear HB
    have HO300 := n0_
    have BK293 := n1_
    have BK294 := n2_
    have BK308 := n3_
    have HB := n4_
    clear n0_ n1_ n2_ n3_ n4_
    (try clear hb)
    (try clear hb2)
    (try clear hk)
    (try clear hi)
    obtain ⟨Ao27, co27, eo27⟩ := Kd.R_slice HO300.out
    (first | subst eo27 | (injection eo27 with f1_ f2_ f3_; have f4_ := f1_.symm; have f5_ := f3_.symm; clear f1_ f2_ f3_; subst f4_; subst f5_))
    refine hK.out _ _ ⟨(blk_cell BK293.out 0).trans rfl, (blk_cell BK293.out 1).trans rfl, (blk_cell BK293.out 2).trans rfl, (blk_cell BK294.out 0).trans rfl, (blk_cell BK294.out 1).trans rfl, (blk_cell BK294.out 2).trans rfl, (blk_cell BK294.out 3).trans rfl⟩ (fun hHeld => ?_)
    clear hK K
    refine norm_ (a' := ?_) ?_ ?_
    rotate_left
    ·show Act.put _ (some 22) _ = _
     simp only [Act.put, sp_]
     rfl
    refine one_ (i := 5) (N := some 24) #[true, true, true, true, true, true, false, false, false, true, false, false] rfl rfl (one_of HT_.out (by kernel_rfl)) (by decide) (fun K hK => ?_)
    refine goes_ Try.func12 (by kernel_rfl) rfl #[.agg #[.int .i8 t296, .int .i8 t297, .slice Ao27 t298.length co27], .agg #[.int .i8 t301, .int .i8 t302, .int .i8 t303, .int .i8 t304], .int .i64 a2] (by rfl) rfl rfl arg_ ?_
    with_reducible refine (spec_DecodeNear.calls k t296 t297 _ _ t298 t301 t302 t303 t304 a2 t305 t306 t307 _ ?side1 ?side2 A13.out).mono ?_
    (case side1 => repeat (first | exact (Kd.R_reads' HO300.out).2.2 | (with_reducible refine Kd.C_alloc ?_ _) | (with_reducible refine Kd.C_drewN ?_ _) | (with_reducible refine Kd.C_drew ?_)))
    (case side2 => exact (Kd.R_reads' HO300.out).2.1)
    rintro e w28 ⟨rfl, hb⟩
    refine ⟨_, rfl, ?_⟩
    have n0_ := A_ (Kd.R_below (pr_ HO300) hb)
    have n1_ := A_ (blk_below (pl_ BK293) hb)
    have n2_ := A_ (blk_below (pl_ BK294) hb)
    have n3_ := A_ (blk_below (pl_ BK308) hb)
    have n4_ := A_ (below_step (bl_ HB) hb)
    clear HO300
    clear BK293
    clear BK294
    clear BK308
    clear HB
    have HO300 := n0_
    have BK293 := n1_
    have BK294 := n2_
    have BK308 := n3_
    have HB := n4_
    clear n0_ n1_ n2_ n3_ n4_
    (try clear hb)
    (try clear hb2)
    (try clear hk)
    (try clear hi)
    refine hK.out _ _ ⟨(blk_cell BK293.out 0).trans rfl, (blk_cell BK293.out 1).trans rfl, (blk_cell BK293.out 2).trans rfl, (blk_cell BK294.out 0).trans rfl, (blk_cell BK294.out 1).trans rfl, (blk_cell BK294.out 2).trans rfl, (blk_cell BK294.out 3).trans rfl⟩ (fun hHeld => ?_)
    clear hK K
    refine norm_ (a' := ?_) ?_ ?_
    rotate_left
    ·show Act.put _ (some 24) _ = _
     simp only [Act.put, sp_]
     rfl
    refine pure_ (i := 6) (N := some 18) (v := ?_) (a' := ?_) #[true, true, true, true, true, true, true, false, false, true, false, false] rfl rfl (any_of HT_.out (by kernel_rfl)) (fun _ _ _ h => h) (Or.inl ⟨by rfl, ?_⟩) ?_ ?_
    rotate_left
    ·intro w'
     go_simp
     with_reducible rfl
    rotate_left
    ·simp only [Act.put, sp_]
     rfl
    refine pure_ (i := 7) (N := some 25) (v := ?_) (a' := ?_) #[true, true, true, true, true, true, true, true, false, true, false, false] rfl rfl (any_of HT_.out (by kernel_rfl)) (fun _ _ _ h => h) (Or.inl ⟨by rfl, ?_⟩) ?_ ?_
    rotate_left
    ·intro w'
     go_simp
     with_reducible rfl
    rotate_left
    ·simp only [Act.put, sp_]
     rfl
    refine pure_ (i := 8) (N := some 26) (v := ?_) (a' := ?_) #[true, true, true, true, true, true, true, true, true, true, false, false] rfl rfl (any_of HT_.out (by kernel_rfl)) (fun _ _ _ h => h) (Or.inl ⟨by rfl, ?_⟩) ?_ ?_
    rotate_left
    ·intro w'
     go_simp
     with_reducible rfl
    rotate_left
    ·simp only [Act.put, sp_]
     rfl
    exact norm_ pa_ (hCont (.slice Ao27 t298.length co27, gb308) _ ⟨hHeld, (pr_ HO300), (pl_ BK293), (pl_ BK294), (pl_ BK308), GW308.out, GE308.out, NB293_308.out, NB308_293.out, NB294_308.out, NB308_294.out, (bl_ HB)⟩)
  rintro ⟨v299, gb308⟩ w29 ⟨hS_, h0_, h1_, h2_, h3_, h4_, h5_, h6_, h7_, h8_, h9_, h10_⟩
  have n0_ : Aside0 (Kd.R k41 41 w29 w.heap.size (fun _ => True) v299 t298) := ⟨h0_⟩
  have n1_ : Aside0 (w29.heap[gb293]? = some (.cells #[.int .i8 a0_0, .int .i8 a0_1, .slice A0_2 l0_2.length c0_2] 25 (0, 0))) := ⟨h1_⟩
  have n2_ : Aside0 (w29.heap[gb294]? = some (.cells #[.int .i8 a1_0, .int .i8 a1_1, .int .i8 a1_2, .int .i8 a1_3] 36 (0, 0))) := ⟨h2_⟩
  have n3_ : Aside0 (w29.heap[gb308]? = some (.cells #[.int .i8 0, .bool false] 38 (0, 0))) := ⟨h3_⟩
  have n4_ : Aside0 (w.heap.size ≤ gb308) := ⟨h4_⟩
  have n5_ : Aside0 (w.heap.size ≤ gb308) := ⟨h5_⟩
  have n6_ : Aside0 (gb293 ≠ gb308) := ⟨h6_⟩
  have n7_ : Aside0 (gb308 ≠ gb293) := ⟨h7_⟩
  have n8_ : Aside0 (gb294 ≠ gb308) := ⟨h8_⟩
  have n9_ : Aside0 (gb308 ≠ gb294) := ⟨h9_⟩
  have n10_ : Aside0 (Below w.heap.size w w29) := ⟨h10_⟩
  clear BK293
  clear BK294
  clear HB
  clear h0_ h1_ h2_ h3_ h4_ h5_ h6_ h7_ h8_ h9_ h10_
  have HO300 := n0_
  have BK293 := n1_
  have BK294 := n2_
  have BK308 := n3_
  have GW308 := n4_
  have GE308 := n5_
  have NB293_308 := n6_
  have NB308_293 := n7_
  have NB294_308 := n8_
  have NB308_294 := n9_
  have HB := n10_
  clear n0_ n1_ n2_ n3_ n4_ n5_ n6_ n7_ n8_ n9_ n10_
  have hHeld : w29.cell? ⟨gb293, 0, none⟩ = some (.int .i8 a0_0) ∧ w29.cell? ⟨gb293, 1, none⟩ = some (.int .i8 a0_1) ∧ w29.cell? ⟨gb293, 2, none⟩ = some (.slice A0_2 l0_2.length c0_2) ∧ w29.cell? ⟨gb294, 0, none⟩ = some (.int .i8 a1_0) ∧ w29.cell? ⟨gb294, 1, none⟩ = some (.int .i8 a1_1) ∧ w29.cell? ⟨gb294, 2, none⟩ = some (.int .i8 a1_2) ∧ w29.cell? ⟨gb294, 3, none⟩ = some (.int .i8 a1_3) := hS_
  refine norm_ (a' := ?_) ?_ ?_
  rotate_left
  ·simp only [putAll, Act.put, List.setIfInBounds_toArray, List.set_cons_zero, List.set_cons_succ]
   rfl
  refine one_ (i := 10) (N := none) #[true, true, true, true, true, true, true, true, true, true, true, false] rfl rfl (one_of HT_.out (by kernel_rfl)) (by decide) (fun K hK => ?_)
  have hs30 : w29.cell? ⟨gb308, 0, none⟩ = some (.int .i8 0) := (blk_cell BK308.out 0).trans rfl
  have hfs30 := blk_frozen BK308.out 0
  have hns30_0 := NB293_308.out
  have hns30_1 := NB294_308.out
  have hms30_0 := NB308_293.out
  have hms30_1 := NB308_294.out
  have hs31 : w29.cell? ⟨gb308, 1, none⟩ = some (.bool false) := (blk_cell BK308.out 1).trans rfl
  have hfs31 := blk_frozen BK308.out 1
  have hns31_0 := NB293_308.out
  have hns31_1 := NB294_308.out
  have hms31_0 := NB308_293.out
  have hms31_1 := NB308_294.out
  refine skip_ (w1 := ?_) (by rfl) rfl ?_ ?_
  rotate_left
  ·go_simp
   rfl
  refine hK.out _ _ ⟨((cell_far (p := ⟨gb308, _, none⟩) NB293_308.out _).trans (((cell_far (p := ⟨gb308, _, none⟩) NB293_308.out _).trans (hHeld.1)))), ((cell_far (p := ⟨gb308, _, none⟩) NB293_308.out _).trans (((cell_far (p := ⟨gb308, _, none⟩) NB293_308.out _).trans (hHeld.2.1)))), ((cell_far (p := ⟨gb308, _, none⟩) NB293_308.out _).trans (((cell_far (p := ⟨gb308, _, none⟩) NB293_308.out _).trans (hHeld.2.2.1)))), ((cell_far (p := ⟨gb308, _, none⟩) NB294_308.out _).trans (((cell_far (p := ⟨gb308, _, none⟩) NB294_308.out _).trans (hHeld.2.2.2.1)))), ((cell_far (p := ⟨gb308, _, none⟩) NB294_308.out _).trans (((cell_far (p := ⟨gb308, _, none⟩) NB294_308.out _).trans (hHeld.2.2.2.2.1)))), ((cell_far (p := ⟨gb308, _, none⟩) NB294_308.out _).trans (((cell_far (p := ⟨gb308, _, none⟩) NB294_308.out _).trans (hHeld.2.2.2.2.2.1)))), ((cell_far (p := ⟨gb308, _, none⟩) NB294_308.out _).trans (((cell_far (p := ⟨gb308, _, none⟩) NB294_308.out _).trans (hHeld.2.2.2.2.2.2))))⟩ (fun hHeld => ?_)
  clear hK K
  refine pure_ (i := 11) (N := some 9) (v := ?_) (a' := ?_) #[true, true, true, true, true, true, true, true, true, true, true, true] rfl rfl (any_of HT_.out (by kernel_rfl)) (fun _ _ _ h => h) (Or.inl ⟨by rfl, ?_⟩) ?_ ?_
  rotate_left
  ·intro w'
   go_simp
   with_reducible rfl
  rotate_left
  ·simp only [Act.put, sp_]
   rfl
  refine done_ (done_of HT_.out (by kernel_rfl)) ?_
  have hnb32 := NB293_308.out
  have hnc32 := NB308_293.out
  obtain ⟨hcz33_0, hcz33_1, hcz33_2, hfz33_0, hfz33_1, hfz33_2⟩ := cl3_ BK293
  try go_wp2_with (first | ((with_reducible refine gate_callee (f := 7) rfl ?_); refine goesL_ (some 28) rfl rfl Try.func7 (by kernel_rfl) rfl #[.agg #[.int .i8 a0_0, .int .i8 a0_1, .slice A0_2 l0_2.length c0_2]] rfl arg_ ?_; (with_reducible refine (laws_toFixed.calls k a0_0 a0_1 _ _ l0_2 t309 t310 t311 _ ?side1 ?side2 A14.out).mono ?_); (case side1 => exact Kd.C_below HR0_2.out (bs_ HB GE308)); (case side2 => exact HC0_2.out); rintro e w34 ⟨v312, rfl, ho0, hb⟩; refine ⟨_, rfl, ?_⟩; have n0_ := A_ (Kd.R_elder' (by (with_reducible repeat (first | apply Kd.R_alloc | apply Kd.R_drewN | apply Kd.R_drew)); exact (rf2_ HO300 BK308 (by decide))) (Kd.R_base ho0) hb); have n1_ := A_ (Kd.R_lower (Kd.R_new' ho0 (Kd.R_lt (by (with_reducible repeat (first | apply Kd.R_alloc | apply Kd.R_drewN | apply Kd.R_drew)); exact (rf2_ HO300 BK308 (by decide))))) (below_size (bs_ HB GE308))); have n2_ := A_ (blk_below (g := gb293) (o := .cells #[.int .i8 a0_0, .int .i8 a0_1, .slice A0_2 l0_2.length c0_2] 25 (0, 0)) (pf_ BK293 NB293_308) hb); have n3_ := A_ (blk_below (g := gb294) (o := .cells #[.int .i8 a1_0, .int .i8 a1_1, .int .i8 a1_2, .int .i8 a1_3] 36 (0, 0)) (pf_ BK294 NB294_308) hb); have n4_ := A_ (blk_below (g := gb308) (o := .cells #[.int .i8 t305, .bool t306] 38 (0, 0)) (by (with_reducible repeat (first | refine blk_drewN ?_ _ | refine blk_drew ?_ | refine blk_alloc ?_ _)); refine blk_put (cs := #[.int .i8 t305, .bool false]) ?_ 1 _ rfl; (with_reducible repeat (first | refine blk_drewN ?_ _ | refine blk_drew ?_ | refine blk_alloc ?_ _)); refine blk_put (cs := #[.int .i8 0, .bool false]) ?_ 0 _ rfl; (with_reducible repeat (first | refine blk_drewN ?_ _ | refine blk_drew ?_ | refine blk_alloc ?_ _)); exact BK308.out) hb); have n5_ := A_ (below_step (bs_ HB GE308) hb); clear HO300; clear BK293; clear BK294; clear BK308; clear HB; have HO300 := n0_; have HO313 := n1_; have BK293 := n2_; have BK294 := n3_; have BK308 := n4_; have HB := n5_; clear n0_ n1_ n2_ n3_ n4_ n5_; (try clear hb); (try clear hb2); (try clear hk); (try clear hi); (try clear ho0)) | ((with_reducible refine gate_dst (N := 10) rfl ?_); refine box_event ?hg (N := 10) ?hd (cs := #[.int .i8 0, .int .i8 0, .slice none 0 0]) (t := 29) ?hr ?_; (case hd => rfl); (case hg => rfl); (case hr => first | (go_simp; done) | (go_simp; rfl)); intro gb314 hg w35 hbox hb; have n0_ := A_ (Kd.R_below (pr_ HO300) hb); have n1_ := A_ (Kd.R_below (pr_ HO313) hb); have n2_ := A_ (blk_below (pl_ BK293) hb); have n3_ := A_ (blk_below (pl_ BK294) hb); have n4_ := A_ (blk_below (pl_ BK308) hb); have n5_ := A_ (below_step (bl_ HB) hb); have n6_ := A_ (hbox); have n7_ := A_ ((by rw [hg]; exact (below_size (bl_ HB)) : w.heap.size ≤ gb314)); have n8_ := n7_; have n9_ := A_ ((by rw [hg]; exact Nat.ne_of_lt (blk_lt (pl_ BK293)) : gb293 ≠ gb314)); have n10_ := Aside0.mk n9_.out.symm; have n11_ := A_ ((by rw [hg]; exact Nat.ne_of_lt (blk_lt (pl_ BK294)) : gb294 ≠ gb314)); have n12_ := Aside0.mk n11_.out.symm; have n13_ := A_ ((by rw [hg]; exact Nat.ne_of_lt (blk_lt (pl_ BK308)) : gb308 ≠ gb314)); have n14_ := Aside0.mk n13_.out.symm; clear HO300; clear HO313; clear BK293; clear BK294; clear BK308; clear HB; have HO300 := n0_; have HO313 := n1_; have BK293 := n2_; have BK294 := n3_; have BK308 := n4_; have HB := n5_; have BK314 := n6_; have GW314 := n7_; have GE314 := n8_; have NB293_314 := n9_; have NB314_293 := n10_; have NB294_314 := n11_; have NB314_294 := n12_; have NB308_314 := n13_; have NB314_308 := n14_; clear n0_ n1_ n2_ n3_ n4_ n5_ n6_ n7_ n8_ n9_ n10_ n11_ n12_ n13_ n14_; clear hb hbox hg; have hnb36 := NB314_293.out; have hnc36 := NB293_314.out; have hnb37 := NB314_294.out; have hnc37 := NB294_314.out; have hnb38 := NB314_308.out; have hnc38 := NB308_314.out; obtain ⟨hcz39_0, hcz39_1, hcz39_2, hfz39_0, hfz39_1, hfz39_2⟩ := cl3_ BK314; obtain ⟨Ao40, co40, eo40⟩ := Kd.R_slice HO313.out; subst eo40))
  have n0_ : Aside0 (Kd.R k41 41 (((w35.setCell ⟨gb314, 0, none⟩ (.int .i8 t309)).setCell ⟨gb314, 1, none⟩ (.int .i8 t310)).setCell ⟨gb314, 2, none⟩ (.slice Ao40 t311.length co40)) w.heap.size (fun k_ => some k_ ≠ (.slice Ao40 t311.length co40 : Value).ownBlock) v299 t298) := ⟨by (with_reducible repeat (first | apply Kd.R_alloc | apply Kd.R_drewN | apply Kd.R_drew)); exact Kd.R_mono (Kd.R_far (p := ⟨gb314, 2, none⟩) (Kd.R_far (p := ⟨gb314, 1, none⟩) (Kd.R_far (p := ⟨gb314, 0, none⟩) (Kd.R_types HO300.out BK314.out (by decide)) (fun _ hk => hk.2) (.int .i8 t309)) (fun _ hk => hk.2) (.int .i8 t310)) (fun _ hk => hk.2) (.slice Ao40 t311.length co40)) (fun _ hk => hk.1.2)⟩
  have n1_ : Aside0 (Kd.R k41 41 (((w35.setCell ⟨gb314, 0, none⟩ (.int .i8 t309)).setCell ⟨gb314, 1, none⟩ (.int .i8 t310)).setCell ⟨gb314, 2, none⟩ (.slice Ao40 t311.length co40)) w.heap.size (fun k_ => some k_ ≠ (v299 : Value).ownBlock) (.slice Ao40 t311.length co40) t311) := ⟨by (with_reducible repeat (first | apply Kd.R_alloc | apply Kd.R_drewN | apply Kd.R_drew)); exact Kd.R_mono (Kd.R_far (p := ⟨gb314, 2, none⟩) (Kd.R_far (p := ⟨gb314, 1, none⟩) (Kd.R_far (p := ⟨gb314, 0, none⟩) (Kd.R_types HO313.out BK314.out (by decide)) (fun _ hk => hk.2) (.int .i8 t309)) (fun _ hk => hk.2) (.int .i8 t310)) (fun _ hk => hk.2) (.slice Ao40 t311.length co40)) (fun _ hk => hk.1.2)⟩
  have n2_ : Aside0 ((((w35.setCell ⟨gb314, 0, none⟩ (.int .i8 t309)).setCell ⟨gb314, 1, none⟩ (.int .i8 t310)).setCell ⟨gb314, 2, none⟩ (.slice Ao40 t311.length co40)).heap[gb293]? = some (.cells #[.int .i8 a0_0, .int .i8 a0_1, .slice A0_2 l0_2.length c0_2] 25 (0, 0))) := ⟨pf_ BK293 NB293_314⟩
  have n3_ : Aside0 ((((w35.setCell ⟨gb314, 0, none⟩ (.int .i8 t309)).setCell ⟨gb314, 1, none⟩ (.int .i8 t310)).setCell ⟨gb314, 2, none⟩ (.slice Ao40 t311.length co40)).heap[gb294]? = some (.cells #[.int .i8 a1_0, .int .i8 a1_1, .int .i8 a1_2, .int .i8 a1_3] 36 (0, 0))) := ⟨pf_ BK294 NB294_314⟩
  have n4_ : Aside0 ((((w35.setCell ⟨gb314, 0, none⟩ (.int .i8 t309)).setCell ⟨gb314, 1, none⟩ (.int .i8 t310)).setCell ⟨gb314, 2, none⟩ (.slice Ao40 t311.length co40)).heap[gb308]? = some (.cells #[.int .i8 t305, .bool t306] 38 (0, 0))) := ⟨pf_ BK308 NB308_314⟩
  have n5_ : Aside0 ((((w35.setCell ⟨gb314, 0, none⟩ (.int .i8 t309)).setCell ⟨gb314, 1, none⟩ (.int .i8 t310)).setCell ⟨gb314, 2, none⟩ (.slice Ao40 t311.length co40)).heap[gb314]? = some (.cells #[.int .i8 t309, .int .i8 t310, .slice Ao40 t311.length co40] 29 (0, 0))) := ⟨by (with_reducible repeat (first | refine blk_drewN ?_ _ | refine blk_drew ?_ | refine blk_alloc ?_ _)); refine blk_put (cs := #[.int .i8 t309, .int .i8 t310, .slice none 0 0]) ?_ 2 _ rfl; (with_reducible repeat (first | refine blk_drewN ?_ _ | refine blk_drew ?_ | refine blk_alloc ?_ _)); refine blk_put (cs := #[.int .i8 t309, .int .i8 0, .slice none 0 0]) ?_ 1 _ rfl; (with_reducible repeat (first | refine blk_drewN ?_ _ | refine blk_drew ?_ | refine blk_alloc ?_ _)); refine blk_put (cs := #[.int .i8 0, .int .i8 0, .slice none 0 0]) ?_ 0 _ rfl; (with_reducible repeat (first | refine blk_drewN ?_ _ | refine blk_drew ?_ | refine blk_alloc ?_ _)); exact BK314.out⟩
  have n6_ : Aside0 (Below w.heap.size w (((w35.setCell ⟨gb314, 0, none⟩ (.int .i8 t309)).setCell ⟨gb314, 1, none⟩ (.int .i8 t310)).setCell ⟨gb314, 2, none⟩ (.slice Ao40 t311.length co40))) := ⟨bs_ HB GE314⟩
  (try clear HO300)
  (try clear HO313)
  (try clear BK293)
  (try clear BK294)
  (try clear BK308)
  (try clear BK314)
  (try clear HB)
  generalize (((w35.setCell ⟨gb314, 0, none⟩ (.int .i8 t309)).setCell ⟨gb314, 1, none⟩ (.int .i8 t310)).setCell ⟨gb314, 2, none⟩ (.slice Ao40 t311.length co40)) = w41 at n0_ n1_ n2_ n3_ n4_ n5_ n6_ ⊢
  have HO300 := n0_
  have HO313 := n1_
  have BK293 := n2_
  have BK294 := n3_
  have BK308 := n4_
  have BK314 := n5_
  have HB := n6_
  clear n0_ n1_ n2_ n3_ n4_ n5_ n6_
  have n0_ := A_ (Kd.R_drew HO300.out)
  have n1_ := A_ (Kd.R_drew HO313.out)
  have n2_ := A_ (blk_drew BK293.out)
  have n3_ := A_ (blk_drew BK294.out)
  have n4_ := A_ (blk_drew BK308.out)
  have n5_ := A_ (blk_drew BK314.out)
  have n6_ := A_ (below_drew1 HB.out)
  clear HO300
  clear HO313
  clear BK293
  clear BK294
  clear BK308
  clear BK314
  clear HB
  have HO300 := n0_
  have HO313 := n1_
  have BK293 := n2_
  have BK294 := n3_
  have BK308 := n4_
  have BK314 := n5_
  have HB := n6_
  clear n0_ n1_ n2_ n3_ n4_ n5_ n6_
  refine start_ (n := 11) (S := fun w' => w'.cell? ⟨gb314, 0, none⟩ = some (.int .i8 t309) ∧ w'.cell? ⟨gb314, 1, none⟩ = some (.int .i8 t310) ∧ w'.cell? ⟨gb314, 2, none⟩ = some (.slice Ao40 t311.length co40) ∧ w'.cell? ⟨gb294, 0, none⟩ = some (.int .i8 a1_0) ∧ w'.cell? ⟨gb294, 1, none⟩ = some (.int .i8 a1_1) ∧ w'.cell? ⟨gb294, 2, none⟩ = some (.int .i8 a1_2) ∧ w'.cell? ⟨gb294, 3, none⟩ = some (.int .i8 a1_3)) (ds := []) #[false, false, false, false, false, false, false, false, false, false, false] (by kernel_rfl) rfl rfl ⟨(blk_cell BK314.out 0).trans rfl, (blk_cell BK314.out 1).trans rfl, (blk_cell BK314.out 2).trans rfl, (blk_cell BK294.out 0).trans rfl, (blk_cell BK294.out 1).trans rfl, (blk_cell BK294.out 2).trans rfl, (blk_cell BK294.out 3).trans rfl⟩ (fun hHeld => ?_); refine with_tabW laws_FnExactDecodeNear.tab7 laws_FnExactDecodeNear.bits7 (fun HT_ HW_ => ?_)
  generalize w41.drew = w42 at HO300 HO313 BK293 BK294 BK308 BK314 HB hHeld ⊢
  refine pure_ (i := 3) (N := some 33) (v := ?_) (a' := ?_) #[false, false, false, true, false, false, false, false, false, false, false] rfl rfl (any_of HT_.out (by kernel_rfl)) (fun _ _ _ h => h) (Or.inl ⟨by rfl, ?_⟩) ?_ ?_
  rotate_left
  ·intro w'
   go_simp
   with_reducible rfl
  rotate_left
  ·simp only [Act.put, sp_]
   rfl
  refine take_ (i := 0) (N := some 30) (v := ?_) (a' := ?_) #[true, false, false, true, false, false, false, false, false, false, false] rfl rfl (take_ofW HT_.out HW_.out (by kernel_rfl)) (fun _ _ _ h => h) (Or.inl ⟨by rfl, ?_⟩) hHeld ?_ ?_
  rotate_left
  ·rintro w' ⟨s0, s1, s2, s3, s4, s5, s6⟩
   go_simp
   with_reducible rfl
  rotate_left
  ·simp only [Act.put, sp_]
   rfl
  refine take_ (i := 1) (N := some 31) (v := ?_) (a' := ?_) #[true, true, false, true, false, false, false, false, false, false, false] rfl rfl (take_ofW HT_.out HW_.out (by kernel_rfl)) (fun _ _ _ h => h) (Or.inl ⟨by rfl, ?_⟩) hHeld ?_ ?_
  rotate_left
  ·rintro w' ⟨s0, s1, s2, s3, s4, s5, s6⟩
   go_simp
   with_reducible rfl
  rotate_left
  ·simp only [Act.put, sp_]
   rfl
  refine join_ (σ := Nat) 2 #[true, true, true, true, true, true, true, true, true, false, false] (fun s_ => [(32, .agg #[.int .i8 t315, .int .i8 t316, .int .i8 t317, .int .i8 t318]), (34, .tuple #[.agg #[.int .i8 t319, .bool t320], .int .i64 t321]), (11, .pointer (some ⟨s_, 0, none⟩)), (29, .tuple #[.agg #[.int .i8 t319, .bool t320], .int .i64 t321]), (35, .agg #[.int .i8 t319, .bool t320]), (36, .int .i64 t321)]) (fun s_ w' => (w'.cell? ⟨gb314, 0, none⟩ = some (.int .i8 t309) ∧ w'.cell? ⟨gb314, 1, none⟩ = some (.int .i8 t310) ∧ w'.cell? ⟨gb314, 2, none⟩ = some (.slice Ao40 t311.length co40) ∧ w'.cell? ⟨gb294, 0, none⟩ = some (.int .i8 a1_0) ∧ w'.cell? ⟨gb294, 1, none⟩ = some (.int .i8 a1_1) ∧ w'.cell? ⟨gb294, 2, none⟩ = some (.int .i8 a1_2) ∧ w'.cell? ⟨gb294, 3, none⟩ = some (.int .i8 a1_3)) ∧ (Kd.R k41 41 w' w.heap.size (fun k_ => some k_ ≠ (.slice Ao40 t311.length co40 : Value).ownBlock) v299 t298) ∧ (Kd.R k41 41 w' w.heap.size (fun k_ => some k_ ≠ (v299 : Value).ownBlock) (.slice Ao40 t311.length co40) t311) ∧ (w'.heap[gb293]? = some (.cells #[.int .i8 a0_0, .int .i8 a0_1, .slice A0_2 l0_2.length c0_2] 25 (0, 0))) ∧ (w'.heap[gb294]? = some (.cells #[.int .i8 a1_0, .int .i8 a1_1, .int .i8 a1_2, .int .i8 a1_3] 36 (0, 0))) ∧ (w'.heap[gb308]? = some (.cells #[.int .i8 t305, .bool t306] 38 (0, 0))) ∧ (w'.heap[gb314]? = some (.cells #[.int .i8 t309, .int .i8 t310, .slice Ao40 t311.length co40] 29 (0, 0))) ∧ (w'.heap[s_]? = some (.cells #[.int .i8 0, .bool false] 38 (0, 0))) ∧ (w.heap.size ≤ s_) ∧ (w.heap.size ≤ s_) ∧ (gb293 ≠ s_) ∧ (s_ ≠ gb293) ∧ (gb294 ≠ s_) ∧ (s_ ≠ gb294) ∧ (gb308 ≠ s_) ∧ (s_ ≠ gb308) ∧ (gb314 ≠ s_) ∧ (s_ ≠ gb314) ∧ (Below w.heap.size w w')) ?_ ?_
  rotate_left
  ·intro hCont
   refine two_ (i := 2) (j := 8) (Ni := some 32) (Nj := some 11) #[true, true, true, true, false, false, false, false, false, false, false] #[true, true, false, true, false, false, false, false, true, false, false] rfl rfl rfl rfl (two_of HT_.out (by kernel_rfl)) (by decide) (by decide) (fun K hK => ?_) (fun K hK => ?_)
   ·skip
    refine goes_ Try.func13 (by kernel_rfl) rfl #[.agg #[.int .i8 a1_0, .int .i8 a1_1, .int .i8 a1_2, .int .i8 a1_3]] (by rfl) rfl rfl arg_ ?_
    with_reducible refine (laws_toWord.calls k a1_0 a1_1 a1_2 a1_3 t315 t316 t317 t318 _ A15.out).mono ?_
    rintro e w43 ⟨rfl, hb⟩
    refine ⟨_, rfl, ?_⟩
    have n0_ := A_ (Kd.R_below (pr_ HO300) hb)
    have n1_ := A_ (Kd.R_below (pr_ HO313) hb)
    have n2_ := A_ (blk_below (pl_ BK293) hb)
    have n3_ := A_ (blk_below (pl_ BK294) hb)
    have n4_ := A_ (blk_below (pl_ BK308) hb)
    have n5_ := A_ (blk_below (pl_ BK314) hb)
    have n6_ := A_ (below_step (bl_ HB) hb)
    clear HO300
    clear HO313
    clear BK293
    clear BK294
    clear BK308
    clear BK314
    clear HB
    have HO300 := n0_
    have HO313 := n1_
    have BK293 := n2_
    have BK294 := n3_
    have BK308 := n4_
    have BK314 := n5_
    have HB := n6_
    clear n0_ n1_ n2_ n3_ n4_ n5_ n6_
    (try clear hb)
    (try clear hb2)
    (try clear hk)
    (try clear hi)
    refine hK.out _ _ ⟨(blk_cell BK314.out 0).trans rfl, (blk_cell BK314.out 1).trans rfl, (blk_cell BK314.out 2).trans rfl, (blk_cell BK294.out 0).trans rfl, (blk_cell BK294.out 1).trans rfl, (blk_cell BK294.out 2).trans rfl, (blk_cell BK294.out 3).trans rfl⟩ (fun hHeld => ?_)
    clear hK K
    refine norm_ (a' := ?_) ?_ ?_
    rotate_left
    ·show Act.put _ (some 32) _ = _
     simp only [Act.put, sp_]
     rfl
    refine two_ (i := 4) (j := 8) (Ni := some 34) (Nj := some 11) #[true, true, true, true, true, false, false, false, false, false, false] #[true, true, true, true, false, false, false, false, true, false, false] rfl rfl rfl rfl (two_of HT_.out (by kernel_rfl)) (by decide) (by decide) (fun K hK => ?_) (fun K hK => ?_)
    ·skip
     refine goes_ Try.func14 (by kernel_rfl) rfl #[.agg #[.int .i8 t309, .int .i8 t310, .slice Ao40 t311.length co40], .agg #[.int .i8 t315, .int .i8 t316, .int .i8 t317, .int .i8 t318], .int .i64 a2] (by rfl) rfl rfl arg_ ?_
     with_reducible refine (impl_DecodeNear.calls k t309 t310 _ _ t311 t315 t316 t317 t318 a2 t319 t320 t321 _ ?side1 ?side2 A16.out).mono ?_
     (case side1 => repeat (first | exact (Kd.R_reads' HO313.out).2.2 | (with_reducible refine Kd.C_alloc ?_ _) | (with_reducible refine Kd.C_drewN ?_ _) | (with_reducible refine Kd.C_drew ?_)))
     (case side2 => exact (Kd.R_reads' HO313.out).2.1)
     rintro e w44 ⟨rfl, hb⟩
     refine ⟨_, rfl, ?_⟩
     have n0_ := A_ (Kd.R_below (pr_ HO300) hb)
     have n1_ := A_ (Kd.R_below (pr_ HO313) hb)
     have n2_ := A_ (blk_below (pl_ BK293) hb)
     have n3_ := A_ (blk_below (pl_ BK294) hb)
     have n4_ := A_ (blk_below (pl_ BK308) hb)
     have n5_ := A_ (blk_below (pl_ BK314) hb)
     have n6_ := A_ (below_step (bl_ HB) hb)
     clear HO300
     clear HO313
     clear BK293
     clear BK294
     clear BK308
     clear BK314
     clear HB
     have HO300 := n0_
     have HO313 := n1_
     have BK293 := n2_
     have BK294 := n3_
     have BK308 := n4_
     have BK314 := n5_
     have HB := n6_
     clear n0_ n1_ n2_ n3_ n4_ n5_ n6_
     (try clear hb)
     (try clear hb2)
     (try clear hk)
     (try clear hi)
     refine hK.out _ _ ⟨(blk_cell BK314.out 0).trans rfl, (blk_cell BK314.out 1).trans rfl, (blk_cell BK314.out 2).trans rfl, (blk_cell BK294.out 0).trans rfl, (blk_cell BK294.out 1).trans rfl, (blk_cell BK294.out 2).trans rfl, (blk_cell BK294.out 3).trans rfl⟩ (fun hHeld => ?_)
     clear hK K
     refine norm_ (a' := ?_) ?_ ?_
     rotate_left
     ·show Act.put _ (some 34) _ = _
      simp only [Act.put, sp_]
      rfl
     refine pure_ (i := 5) (N := some 29) (v := ?_) (a' := ?_) #[true, true, true, true, true, true, false, false, false, false, false] rfl rfl (any_of HT_.out (by kernel_rfl)) (fun _ _ _ h => h) (Or.inl ⟨by rfl, ?_⟩) ?_ ?_
     rotate_left
     ·intro w'
      go_simp
      with_reducible rfl
     rotate_left
     ·simp only [Act.put, sp_]
      rfl
     refine pure_ (i := 6) (N := some 35) (v := ?_) (a' := ?_) #[true, true, true, true, true, true, true, false, false, false, false] rfl rfl (any_of HT_.out (by kernel_rfl)) (fun _ _ _ h => h) (Or.inl ⟨by rfl, ?_⟩) ?_ ?_
     rotate_left
     ·intro w'
      go_simp
      with_reducible rfl
     rotate_left
     ·simp only [Act.put, sp_]
      rfl
     refine pure_ (i := 7) (N := some 36) (v := ?_) (a' := ?_) #[true, true, true, true, true, true, true, true, false, false, false] rfl rfl (any_of HT_.out (by kernel_rfl)) (fun _ _ _ h => h) (Or.inl ⟨by rfl, ?_⟩) ?_ ?_
     rotate_left
     ·intro w'
      go_simp
      with_reducible rfl
     rotate_left
     ·simp only [Act.put, sp_]
      rfl
     refine one_ (i := 8) (N := some 11) #[true, true, true, true, true, true, true, true, true, false, false] rfl rfl (one_of HT_.out (by kernel_rfl)) (by decide) (fun K hK => ?_)
     refine box_step ?hg (N := 11) ?hd (cs := #[.int .i8 0, .bool false]) (t := 38) ?hr ?_; (case hd => rfl); (case hg => rfl); (case hr => first | (go_simp; done) | (go_simp; rfl))
     intro gb322 hg w45 hbox hb
     have n0_ := A_ (Kd.R_below (pr_ HO300) hb)
     have n1_ := A_ (Kd.R_below (pr_ HO313) hb)
     have n2_ := A_ (blk_below (pl_ BK293) hb)
     have n3_ := A_ (blk_below (pl_ BK294) hb)
     have n4_ := A_ (blk_below (pl_ BK308) hb)
     have n5_ := A_ (blk_below (pl_ BK314) hb)
     have n6_ := A_ (below_step (bl_ HB) hb)
     have n7_ := A_ (hbox)
     have n8_ := A_ ((by rw [hg]; exact (below_size (bl_ HB)) : w.heap.size ≤ gb322))
     have n9_ := n8_
     have n10_ := A_ ((by rw [hg]; exact Nat.ne_of_lt (blk_lt (pl_ BK293)) : gb293 ≠ gb322))
     have n11_ := Aside0.mk n10_.out.symm
     have n12_ := A_ ((by rw [hg]; exact Nat.ne_of_lt (blk_lt (pl_ BK294)) : gb294 ≠ gb322))
     have n13_ := Aside0.mk n12_.out.symm
     have n14_ := A_ ((by rw [hg]; exact Nat.ne_of_lt (blk_lt (pl_ BK308)) : gb308 ≠ gb322))
     have n15_ := Aside0.mk n14_.out.symm
     have n16_ := A_ ((by rw [hg]; exact Nat.ne_of_lt (blk_lt (pl_ BK314)) : gb314 ≠ gb322))
     have n17_ := Aside0.mk n16_.out.symm
     clear HO300
     clear HO313
     clear BK293
     clear BK294
     clear BK308
     clear BK314
     clear HB
     have HO300 := n0_
     have HO313 := n1_
     have BK293 := n2_
     have BK294 := n3_
     have BK308 := n4_
     have BK314 := n5_
     have HB := n6_
     have BK322 := n7_
     have GW322 := n8_
     have GE322 := n9_
     have NB293_322 := n10_
     have NB322_293 := n11_
     have NB294_322 := n12_
     have NB322_294 := n13_
     have NB308_322 := n14_
     have NB322_308 := n15_
     have NB314_322 := n16_
     have NB322_314 := n17_
     clear n0_ n1_ n2_ n3_ n4_ n5_ n6_ n7_ n8_ n9_ n10_ n11_ n12_ n13_ n14_ n15_ n16_ n17_
     clear hb hbox hg
     refine hK.out _ _ ⟨(blk_cell BK314.out 0).trans rfl, (blk_cell BK314.out 1).trans rfl, (blk_cell BK314.out 2).trans rfl, (blk_cell BK294.out 0).trans rfl, (blk_cell BK294.out 1).trans rfl, (blk_cell BK294.out 2).trans rfl, (blk_cell BK294.out 3).trans rfl⟩ (fun hHeld => ?_)
     clear hK K
     refine norm_ (a' := ?_) ?_ ?_
     rotate_left
     ·show Act.put _ (some 11) _ = _
      simp only [Act.put, sp_]
      rfl
     exact norm_ pa_ (hCont (gb322) _ ⟨hHeld, (pr_ HO300), (pr_ HO313), (pl_ BK293), (pl_ BK294), (pl_ BK308), (pl_ BK314), (pl_ BK322), GW322.out, GE322.out, NB293_322.out, NB322_293.out, NB294_322.out, NB322_294.out, NB308_322.out, NB322_308.out, NB314_322.out, NB322_314.out, (bl_ HB)⟩)
    ·skip
     refine box_step ?hg (N := 11) ?hd (cs := #[.int .i8 0, .bool false]) (t := 38) ?hr ?_; (case hd => rfl); (case hg => rfl); (case hr => first | (go_simp; done) | (go_simp; rfl))
     intro gb322 hg w44 hbox hb
     have n0_ := A_ (Kd.R_below (pr_ HO300) hb)
     have n1_ := A_ (Kd.R_below (pr_ HO313) hb)
     have n2_ := A_ (blk_below (pl_ BK293) hb)
     have n3_ := A_ (blk_below (pl_ BK294) hb)
     have n4_ := A_ (blk_below (pl_ BK308) hb)
     have n5_ := A_ (blk_below (pl_ BK314) hb)
     have n6_ := A_ (below_step (bl_ HB) hb)
     have n7_ := A_ (hbox)
     have n8_ := A_ ((by rw [hg]; exact (below_size (bl_ HB)) : w.heap.size ≤ gb322))
     have n9_ := n8_
     have n10_ := A_ ((by rw [hg]; exact Nat.ne_of_lt (blk_lt (pl_ BK293)) : gb293 ≠ gb322))
     have n11_ := Aside0.mk n10_.out.symm
     have n12_ := A_ ((by rw [hg]; exact Nat.ne_of_lt (blk_lt (pl_ BK294)) : gb294 ≠ gb322))
     have n13_ := Aside0.mk n12_.out.symm
     have n14_ := A_ ((by rw [hg]; exact Nat.ne_of_lt (blk_lt (pl_ BK308)) : gb308 ≠ gb322))
     have n15_ := Aside0.mk n14_.out.symm
     have n16_ := A_ ((by rw [hg]; exact Nat.ne_of_lt (blk_lt (pl_ BK314)) : gb314 ≠ gb322))
     have n17_ := Aside0.mk n16_.out.symm
     clear HO300
     clear HO313
     clear BK293
     clear BK294
     clear BK308
     clear BK314
     clear HB
     have HO300 := n0_
     have HO313 := n1_
     have BK293 := n2_
     have BK294 := n3_
     have BK308 := n4_
     have BK314 := n5_
     have HB := n6_
     have BK322 := n7_
     have GW322 := n8_
     have GE322 := n9_
     have NB293_322 := n10_
     have NB322_293 := n11_
     have NB294_322 := n12_
     have NB322_294 := n13_
     have NB308_322 := n14_
     have NB322_308 := n15_
     have NB314_322 := n16_
     have NB322_314 := n17_
     clear n0_ n1_ n2_ n3_ n4_ n5_ n6_ n7_ n8_ n9_ n10_ n11_ n12_ n13_ n14_ n15_ n16_ n17_
     clear hb hbox hg
     refine hK.out _ _ ⟨(blk_cell BK314.out 0).trans rfl, (blk_cell BK314.out 1).trans rfl, (blk_cell BK314.out 2).trans rfl, (blk_cell BK294.out 0).trans rfl, (blk_cell BK294.out 1).trans rfl, (blk_cell BK294.out 2).trans rfl, (blk_cell BK294.out 3).trans rfl⟩ (fun hHeld => ?_)
     clear hK K
     refine norm_ (a' := ?_) ?_ ?_
     rotate_left
     ·show Act.put _ (some 11) _ = _
      simp only [Act.put, sp_]
      rfl
     refine one_ (i := 4) (N := some 34) #[true, true, true, true, true, false, false, false, true, false, false] rfl rfl (one_of HT_.out (by kernel_rfl)) (by decide) (fun K hK => ?_)
     refine goes_ Try.func14 (by kernel_rfl) rfl #[.agg #[.int .i8 t309, .int .i8 t310, .slice Ao40 t311.length co40], .agg #[.int .i8 t315, .int .i8 t316, .int .i8 t317, .int .i8 t318], .int .i64 a2] (by rfl) rfl rfl arg_ ?_
     with_reducible refine (impl_DecodeNear.calls k t309 t310 _ _ t311 t315 t316 t317 t318 a2 t319 t320 t321 _ ?side1 ?side2 A16.out).mono ?_
     (case side1 => repeat (first | exact (Kd.R_reads' HO313.out).2.2 | (with_reducible refine Kd.C_alloc ?_ _) | (with_reducible refine Kd.C_drewN ?_ _) | (with_reducible refine Kd.C_drew ?_)))
     (case side2 => exact (Kd.R_reads' HO313.out).2.1)
     rintro e w45 ⟨rfl, hb⟩
     refine ⟨_, rfl, ?_⟩
     have n0_ := A_ (Kd.R_below (pr_ HO300) hb)
     have n1_ := A_ (Kd.R_below (pr_ HO313) hb)
     have n2_ := A_ (blk_below (pl_ BK293) hb)
     have n3_ := A_ (blk_below (pl_ BK294) hb)
     have n4_ := A_ (blk_below (pl_ BK308) hb)
     have n5_ := A_ (blk_below (pl_ BK314) hb)
     have n6_ := A_ (blk_below (pl_ BK322) hb)
     have n7_ := A_ (below_step (bl_ HB) hb)
     clear HO300
     clear HO313
     clear BK293
     clear BK294
     clear BK308
     clear BK314
     clear BK322
     clear HB
     have HO300 := n0_
     have HO313 := n1_
     have BK293 := n2_
     have BK294 := n3_
     have BK308 := n4_
     have BK314 := n5_
     have BK322 := n6_
     have HB := n7_
     clear n0_ n1_ n2_ n3_ n4_ n5_ n6_ n7_
     (try clear hb)
     (try clear hb2)
     (try clear hk)
     (try clear hi)
     refine hK.out _ _ ⟨(blk_cell BK314.out 0).trans rfl, (blk_cell BK314.out 1).trans rfl, (blk_cell BK314.out 2).trans rfl, (blk_cell BK294.out 0).trans rfl, (blk_cell BK294.out 1).trans rfl, (blk_cell BK294.out 2).trans rfl, (blk_cell BK294.out 3).trans rfl⟩ (fun hHeld => ?_)
     clear hK K
     refine norm_ (a' := ?_) ?_ ?_
     rotate_left
     ·show Act.put _ (some 34) _ = _
      simp only [Act.put, sp_]
      rfl
     refine pure_ (i := 5) (N := some 29) (v := ?_) (a' := ?_) #[true, true, true, true, true, true, false, false, true, false, false] rfl rfl (any_of HT_.out (by kernel_rfl)) (fun _ _ _ h => h) (Or.inl ⟨by rfl, ?_⟩) ?_ ?_
     rotate_left
     ·intro w'
      go_simp
      with_reducible rfl
     rotate_left
     ·simp only [Act.put, sp_]
      rfl
     refine pure_ (i := 6) (N := some 35) (v := ?_) (a' := ?_) #[true, true, true, true, true, true, true, false, true, false, false] rfl rfl (any_of HT_.out (by kernel_rfl)) (fun _ _ _ h => h) (Or.inl ⟨by rfl, ?_⟩) ?_ ?_
     rotate_left
     ·intro w'
      go_simp
      with_reducible rfl
     rotate_left
     ·simp only [Act.put, sp_]
      rfl
     refine pure_ (i := 7) (N := some 36) (v := ?_) (a' := ?_) #[true, true, true, true, true, true, true, true, true, false, false] rfl rfl (any_of HT_.out (by kernel_rfl)) (fun _ _ _ h => h) (Or.inl ⟨by rfl, ?_⟩) ?_ ?_
     rotate_left
     ·intro w'
      go_simp
      with_reducible rfl
     rotate_left
     ·simp only [Act.put, sp_]
      rfl
     exact norm_ pa_ (hCont (gb322) _ ⟨hHeld, (pr_ HO300), (pr_ HO313), (pl_ BK293), (pl_ BK294), (pl_ BK308), (pl_ BK314), (pl_ BK322), GW322.out, GE322.out, NB293_322.out, NB322_293.out, NB294_322.out, NB322_294.out, NB308_322.out, NB322_308.out, NB314_322.out, NB322_314.out, (bl_ HB)⟩)
   ·skip
    refine box_step ?hg (N := 11) ?hd (cs := #[.int .i8 0, .bool false]) (t := 38) ?hr ?_; (case hd => rfl); (case hg => rfl); (case hr => first | (go_simp; done) | (go_simp; rfl))
    intro gb322 hg w43 hbox hb
    have n0_ := A_ (Kd.R_below (pr_ HO300) hb)
    have n1_ := A_ (Kd.R_below (pr_ HO313) hb)
    have n2_ := A_ (blk_below (pl_ BK293) hb)
    have n3_ := A_ (blk_below (pl_ BK294) hb)
    have n4_ := A_ (blk_below (pl_ BK308) hb)
    have n5_ := A_ (blk_below (pl_ BK314) hb)
    have n6_ := A_ (below_step (bl_ HB) hb)
    have n7_ := A_ (hbox)
    have n8_ := A_ ((by rw [hg]; exact (below_size (bl_ HB)) : w.heap.size ≤ gb322))
    have n9_ := n8_
    have n10_ := A_ ((by rw [hg]; exact Nat.ne_of_lt (blk_lt (pl_ BK293)) : gb293 ≠ gb322))
    have n11_ := Aside0.mk n10_.out.symm
    have n12_ := A_ ((by rw [hg]; exact Nat.ne_of_lt (blk_lt (pl_ BK294)) : gb294 ≠ gb322))
    have n13_ := Aside0.mk n12_.out.symm
    have n14_ := A_ ((by rw [hg]; exact Nat.ne_of_lt (blk_lt (pl_ BK308)) : gb308 ≠ gb322))
    have n15_ := Aside0.mk n14_.out.symm
    have n16_ := A_ ((by rw [hg]; exact Nat.ne_of_lt (blk_lt (pl_ BK314)) : gb314 ≠ gb322))
    have n17_ := Aside0.mk n16_.out.symm
    clear HO300
    clear HO313
    clear BK293
    clear BK294
    clear BK308
    clear BK314
    clear HB
    have HO300 := n0_
    have HO313 := n1_
    have BK293 := n2_
    have BK294 := n3_
    have BK308 := n4_
    have BK314 := n5_
    have HB := n6_
    have BK322 := n7_
    have GW322 := n8_
    have GE322 := n9_
    have NB293_322 := n10_
    have NB322_293 := n11_
    have NB294_322 := n12_
    have NB322_294 := n13_
    have NB308_322 := n14_
    have NB322_308 := n15_
    have NB314_322 := n16_
    have NB322_314 := n17_
    clear n0_ n1_ n2_ n3_ n4_ n5_ n6_ n7_ n8_ n9_ n10_ n11_ n12_ n13_ n14_ n15_ n16_ n17_
    clear hb hbox hg
    refine hK.out _ _ ⟨(blk_cell BK314.out 0).trans rfl, (blk_cell BK314.out 1).trans rfl, (blk_cell BK314.out 2).trans rfl, (blk_cell BK294.out 0).trans rfl, (blk_cell BK294.out 1).trans rfl, (blk_cell BK294.out 2).trans rfl, (blk_cell BK294.out 3).trans rfl⟩ (fun hHeld => ?_)
    clear hK K
    refine norm_ (a' := ?_) ?_ ?_
    rotate_left
    ·show Act.put _ (some 11) _ = _
     simp only [Act.put, sp_]
     rfl
    refine one_ (i := 2) (N := some 32) #[true, true, true, true, false, false, false, false, true, false, false] rfl rfl (one_of HT_.out (by kernel_rfl)) (by decide) (fun K hK => ?_)
    refine goes_ Try.func13 (by kernel_rfl) rfl #[.agg #[.int .i8 a1_0, .int .i8 a1_1, .int .i8 a1_2, .int .i8 a1_3]] (by rfl) rfl rfl arg_ ?_
    with_reducible refine (laws_toWord.calls k a1_0 a1_1 a1_2 a1_3 t315 t316 t317 t318 _ A15.out).mono ?_
    rintro e w44 ⟨rfl, hb⟩
    refine ⟨_, rfl, ?_⟩
    have n0_ := A_ (Kd.R_below (pr_ HO300) hb)
    have n1_ := A_ (Kd.R_below (pr_ HO313) hb)
    have n2_ := A_ (blk_below (pl_ BK293) hb)
    have n3_ := A_ (blk_below (pl_ BK294) hb)
    have n4_ := A_ (blk_below (pl_ BK308) hb)
    have n5_ := A_ (blk_below (pl_ BK314) hb)
    have n6_ := A_ (blk_below (pl_ BK322) hb)
    have n7_ := A_ (below_step (bl_ HB) hb)
    clear HO300
    clear HO313
    clear BK293
    clear BK294
    clear BK308
    clear BK314
    clear BK322
    clear HB
    have HO300 := n0_
    have HO313 := n1_
    have BK293 := n2_
    have BK294 := n3_
    have BK308 := n4_
    have BK314 := n5_
    have BK322 := n6_
    have HB := n7_
    clear n0_ n1_ n2_ n3_ n4_ n5_ n6_ n7_
    (try clear hb)
    (try clear hb2)
    (try clear hk)
    (try clear hi)
    refine hK.out _ _ ⟨(blk_cell BK314.out 0).trans rfl, (blk_cell BK314.out 1).trans rfl, (blk_cell BK314.out 2).trans rfl, (blk_cell BK294.out 0).trans rfl, (blk_cell BK294.out 1).trans rfl, (blk_cell BK294.out 2).trans rfl, (blk_cell BK294.out 3).trans rfl⟩ (fun hHeld => ?_)
    clear hK K
    refine norm_ (a' := ?_) ?_ ?_
    rotate_left
    ·show Act.put _ (some 32) _ = _
     simp only [Act.put, sp_]
     rfl
    refine one_ (i := 4) (N := some 34) #[true, true, true, true, true, false, false, false, true, false, false] rfl rfl (one_of HT_.out (by kernel_rfl)) (by decide) (fun K hK => ?_)
    refine goes_ Try.func14 (by kernel_rfl) rfl #[.agg #[.int .i8 t309, .int .i8 t310, .slice Ao40 t311.length co40], .agg #[.int .i8 t315, .int .i8 t316, .int .i8 t317, .int .i8 t318], .int .i64 a2] (by rfl) rfl rfl arg_ ?_
    with_reducible refine (impl_DecodeNear.calls k t309 t310 _ _ t311 t315 t316 t317 t318 a2 t319 t320 t321 _ ?side1 ?side2 A16.out).mono ?_
    (case side1 => repeat (first | exact (Kd.R_reads' HO313.out).2.2 | (with_reducible refine Kd.C_alloc ?_ _) | (with_reducible refine Kd.C_drewN ?_ _) | (with_reducible refine Kd.C_drew ?_)))
    (case side2 => exact (Kd.R_reads' HO313.out).2.1)
    rintro e w45 ⟨rfl, hb⟩
    refine ⟨_, rfl, ?_⟩
    have n0_ := A_ (Kd.R_below (pr_ HO300) hb)
    have n1_ := A_ (Kd.R_below (pr_ HO313) hb)
    have n2_ := A_ (blk_below (pl_ BK293) hb)
    have n3_ := A_ (blk_below (pl_ BK294) hb)
    have n4_ := A_ (blk_below (pl_ BK308) hb)
    have n5_ := A_ (blk_below (pl_ BK314) hb)
    have n6_ := A_ (blk_below (pl_ BK322) hb)
    have n7_ := A_ (below_step (bl_ HB) hb)
    clear HO300
    clear HO313
    clear BK293
    clear BK294
    clear BK308
    clear BK314
    clear BK322
    clear HB
    have HO300 := n0_
    have HO313 := n1_
    have BK293 := n2_
    have BK294 := n3_
    have BK308 := n4_
    have BK314 := n5_
    have BK322 := n6_
    have HB := n7_
    clear n0_ n1_ n2_ n3_ n4_ n5_ n6_ n7_
    (try clear hb)
    (try clear hb2)
    (try clear hk)
    (try clear hi)
    refine hK.out _ _ ⟨(blk_cell BK314.out 0).trans rfl, (blk_cell BK314.out 1).trans rfl, (blk_cell BK314.out 2).trans rfl, (blk_cell BK294.out 0).trans rfl, (blk_cell BK294.out 1).trans rfl, (blk_cell BK294.out 2).trans rfl, (blk_cell BK294.out 3).trans rfl⟩ (fun hHeld => ?_)
    clear hK K
    refine norm_ (a' := ?_) ?_ ?_
    rotate_left
    ·show Act.put _ (some 34) _ = _
     simp only [Act.put, sp_]
     rfl
    refine pure_ (i := 5) (N := some 29) (v := ?_) (a' := ?_) #[true, true, true, true, true, true, false, false, true, false, false] rfl rfl (any_of HT_.out (by kernel_rfl)) (fun _ _ _ h => h) (Or.inl ⟨by rfl, ?_⟩) ?_ ?_
    rotate_left
    ·intro w'
     go_simp
     with_reducible rfl
    rotate_left
    ·simp only [Act.put, sp_]
     rfl
    refine pure_ (i := 6) (N := some 35) (v := ?_) (a' := ?_) #[true, true, true, true, true, true, true, false, true, false, false] rfl rfl (any_of HT_.out (by kernel_rfl)) (fun _ _ _ h => h) (Or.inl ⟨by rfl, ?_⟩) ?_ ?_
    rotate_left
    ·intro w'
     go_simp
     with_reducible rfl
    rotate_left
    ·simp only [Act.put, sp_]
     rfl
    refine pure_ (i := 7) (N := some 36) (v := ?_) (a' := ?_) #[true, true, true, true, true, true, true, true, true, false, false] rfl rfl (any_of HT_.out (by kernel_rfl)) (fun _ _ _ h => h) (Or.inl ⟨by rfl, ?_⟩) ?_ ?_
    rotate_left
    ·intro w'
     go_simp
     with_reducible rfl
    rotate_left
    ·simp only [Act.put, sp_]
     rfl
    exact norm_ pa_ (hCont (gb322) _ ⟨hHeld, (pr_ HO300), (pr_ HO313), (pl_ BK293), (pl_ BK294), (pl_ BK308), (pl_ BK314), (pl_ BK322), GW322.out, GE322.out, NB293_322.out, NB322_293.out, NB294_322.out, NB322_294.out, NB308_322.out, NB322_308.out, NB314_322.out, NB322_314.out, (bl_ HB)⟩)
  rintro gb322 w46 ⟨hS_, h0_, h1_, h2_, h3_, h4_, h5_, h6_, h7_, h8_, h9_, h10_, h11_, h12_, h13_, h14_, h15_, h16_, h17_⟩
  have n0_ : Aside0 (Kd.R k41 41 w46 w.heap.size (fun k_ => some k_ ≠ (.slice Ao40 t311.length co40 : Value).ownBlock) v299 t298) := ⟨h0_⟩
  have n1_ : Aside0 (Kd.R k41 41 w46 w.heap.size (fun k_ => some k_ ≠ (v299 : Value).ownBlock) (.slice Ao40 t311.length co40) t311) := ⟨h1_⟩
  have n2_ : Aside0 (w46.heap[gb293]? = some (.cells #[.int .i8 a0_0, .int .i8 a0_1, .slice A0_2 l0_2.length c0_2] 25 (0, 0))) := ⟨h2_⟩
  have n3_ : Aside0 (w46.heap[gb294]? = some (.cells #[.int .i8 a1_0, .int .i8 a1_1, .int .i8 a1_2, .int .i8 a1_3] 36 (0, 0))) := ⟨h3_⟩
  have n4_ : Aside0 (w46.heap[gb308]? = some (.cells #[.int .i8 t305, .bool t306] 38 (0, 0))) := ⟨h4_⟩
  have n5_ : Aside0 (w46.heap[gb314]? = some (.cells #[.int .i8 t309, .int .i8 t310, .slice Ao40 t311.length co40] 29 (0, 0))) := ⟨h5_⟩
  have n6_ : Aside0 (w46.heap[gb322]? = some (.cells #[.int .i8 0, .bool false] 38 (0, 0))) := ⟨h6_⟩
  have n7_ : Aside0 (w.heap.size ≤ gb322) := ⟨h7_⟩
  have n8_ : Aside0 (w.heap.size ≤ gb322) := ⟨h8_⟩
  have n9_ : Aside0 (gb293 ≠ gb322) := ⟨h9_⟩
  have n10_ : Aside0 (gb322 ≠ gb293) := ⟨h10_⟩
  have n11_ : Aside0 (gb294 ≠ gb322) := ⟨h11_⟩
  have n12_ : Aside0 (gb322 ≠ gb294) := ⟨h12_⟩
  have n13_ : Aside0 (gb308 ≠ gb322) := ⟨h13_⟩
  have n14_ : Aside0 (gb322 ≠ gb308) := ⟨h14_⟩
  have n15_ : Aside0 (gb314 ≠ gb322) := ⟨h15_⟩
  have n16_ : Aside0 (gb322 ≠ gb314) := ⟨h16_⟩
  have n17_ : Aside0 (Below w.heap.size w w46) := ⟨h17_⟩
  clear HO300
  clear HO313
  clear BK293
  clear BK294
  clear BK308
  clear BK314
  clear HB
  clear h0_ h1_ h2_ h3_ h4_ h5_ h6_ h7_ h8_ h9_ h10_ h11_ h12_ h13_ h14_ h15_ h16_ h17_
  have HO300 := n0_
  have HO313 := n1_
  have BK293 := n2_
  have BK294 := n3_
  have BK308 := n4_
  have BK314 := n5_
  have BK322 := n6_
  have GW322 := n7_
  have GE322 := n8_
  have NB293_322 := n9_
  have NB322_293 := n10_
  have NB294_322 := n11_
  have NB322_294 := n12_
  have NB308_322 := n13_
  have NB322_308 := n14_
  have NB314_322 := n15_
  have NB322_314 := n16_
  have HB := n17_
  clear n0_ n1_ n2_ n3_ n4_ n5_ n6_ n7_ n8_ n9_ n10_ n11_ n12_ n13_ n14_ n15_ n16_ n17_
  have hHeld : w46.cell? ⟨gb314, 0, none⟩ = some (.int .i8 t309) ∧ w46.cell? ⟨gb314, 1, none⟩ = some (.int .i8 t310) ∧ w46.cell? ⟨gb314, 2, none⟩ = some (.slice Ao40 t311.length co40) ∧ w46.cell? ⟨gb294, 0, none⟩ = some (.int .i8 a1_0) ∧ w46.cell? ⟨gb294, 1, none⟩ = some (.int .i8 a1_1) ∧ w46.cell? ⟨gb294, 2, none⟩ = some (.int .i8 a1_2) ∧ w46.cell? ⟨gb294, 3, none⟩ = some (.int .i8 a1_3) := hS_
  refine norm_ (a' := ?_) ?_ ?_
  rotate_left
  ·simp only [putAll, Act.put, List.setIfInBounds_toArray, List.set_cons_zero, List.set_cons_succ]
   rfl
  refine one_ (i := 9) (N := none) #[true, true, true, true, true, true, true, true, true, true, false] rfl rfl (one_of HT_.out (by kernel_rfl)) (by decide) (fun K hK => ?_)
  have hs47 : w46.cell? ⟨gb322, 0, none⟩ = some (.int .i8 0) := (blk_cell BK322.out 0).trans rfl
  have hfs47 := blk_frozen BK322.out 0
  have hns47_0 := NB293_322.out
  have hns47_1 := NB294_322.out
  have hns47_2 := NB308_322.out
  have hns47_3 := NB314_322.out
  have hms47_0 := NB322_293.out
  have hms47_1 := NB322_294.out
  have hms47_2 := NB322_308.out
  have hms47_3 := NB322_314.out
  have hs48 : w46.cell? ⟨gb322, 1, none⟩ = some (.bool false) := (blk_cell BK322.out 1).trans rfl
  have hfs48 := blk_frozen BK322.out 1
  have hns48_0 := NB293_322.out
  have hns48_1 := NB294_322.out
  have hns48_2 := NB308_322.out
  have hns48_3 := NB314_322.out
  have hms48_0 := NB322_293.out
  have hms48_1 := NB322_294.out
  have hms48_2 := NB322_308.out
  have hms48_3 := NB322_314.out
  refine skip_ (w1 := ?_) (by rfl) rfl ?_ ?_
  rotate_left
  ·go_simp
   rfl
  refine hK.out _ _ ⟨((cell_far (p := ⟨gb322, _, none⟩) NB314_322.out _).trans (((cell_far (p := ⟨gb322, _, none⟩) NB314_322.out _).trans (hHeld.1)))), ((cell_far (p := ⟨gb322, _, none⟩) NB314_322.out _).trans (((cell_far (p := ⟨gb322, _, none⟩) NB314_322.out _).trans (hHeld.2.1)))), ((cell_far (p := ⟨gb322, _, none⟩) NB314_322.out _).trans (((cell_far (p := ⟨gb322, _, none⟩) NB314_322.out _).trans (hHeld.2.2.1)))), ((cell_far (p := ⟨gb322, _, none⟩) NB294_322.out _).trans (((cell_far (p := ⟨gb322, _, none⟩) NB294_322.out _).trans (hHeld.2.2.2.1)))), ((cell_far (p := ⟨gb322, _, none⟩) NB294_322.out _).trans (((cell_far (p := ⟨gb322, _, none⟩) NB294_322.out _).trans (hHeld.2.2.2.2.1)))), ((cell_far (p := ⟨gb322, _, none⟩) NB294_322.out _).trans (((cell_far (p := ⟨gb322, _, none⟩) NB294_322.out _).trans (hHeld.2.2.2.2.2.1)))), ((cell_far (p := ⟨gb322, _, none⟩) NB294_322.out _).trans (((cell_far (p := ⟨gb322, _, none⟩) NB294_322.out _).trans (hHeld.2.2.2.2.2.2))))⟩ (fun hHeld => ?_)
  clear hK K
  refine pure_ (i := 10) (N := some 12) (v := ?_) (a' := ?_) #[true, true, true, true, true, true, true, true, true, true, true] rfl rfl (any_of HT_.out (by kernel_rfl)) (fun _ _ _ h => h) (Or.inl ⟨by rfl, ?_⟩) ?_ ?_
  rotate_left
  ·intro w'
   go_simp
   with_reducible rfl
  rotate_left
  ·simp only [Act.put, sp_]
   rfl
  refine done_ (done_of HT_.out (by kernel_rfl)) ?_
  go_upto_region 8 with (fail)
  go_cut [45] (fun v45 wc => ∃ (kq : Nat) (x45_16 : Bool), v45 = .bool x45_16 ∧ Aside0 (laws_FnExactDecodeNear.j0 kq x45_16 a0_0 a0_1 l0_2 t309 t310 t311 = some r) ∧ Aside0 (kq ≤ k) ∧ Aside0 (Kd.R k41 41 wc w.heap.size (fun _ => True) (.slice Ao40 t311.length co40) t311) ∧ Aside0 (wc.heap[gb293]? = some (.cells #[.int .i8 a0_0, .int .i8 a0_1, (.slice A0_2 l0_2.length c0_2)] 25 (0, 0))) ∧ Aside0 (wc.heap[gb294]? = some (.cells #[.int .i8 a1_0, .int .i8 a1_1, .int .i8 a1_2, .int .i8 a1_3] 36 (0, 0))) ∧ Aside0 (wc.heap[gb308]? = some (.cells #[.int .i8 t305, .bool t306] 38 (0, 0))) ∧ Aside0 (wc.heap[gb314]? = some (.cells #[.int .i8 t309, .int .i8 t310, (.slice Ao40 t311.length co40)] 29 (0, 0))) ∧ Aside0 (wc.heap[gb322]? = some (.cells #[.int .i8 t319, .bool t320] 38 (0, 0))) ∧ Aside0 (Below w.heap.size w wc))
  case first =>
   have H := HC17.out
   clear HC17
   replace H := Option.bind_eq_some_iff.mp H
   obtain ⟨t323, A490, H⟩ := H
   replace H : (if t323 = true then (laws_FnExactDecodeNear.j0 k (t321 != t307) a0_0 a0_1 l0_2 t309 t310 t311) else (laws_FnExactDecodeNear.j0 k true a0_0 a0_1 l0_2 t309 t310 t311)) = some r := H
   have A49 := Aside0.mk A490
   clear A490
   by_cases c50 : t323 = true
   ·subst c50
    have H1 : (laws_FnExactDecodeNear.j0 k (t321 != t307) a0_0 a0_1 l0_2 t309 t310 t311) = some r := by rw [if_pos rfl] at H; exact H
    clear H
    have H := H1
    clear H1
    have H' := Aside0.mk H
    clear H
    have hnb51 := NB322_293.out
    have hnc51 := NB293_322.out
    have hnb52 := NB322_294.out
    have hnc52 := NB294_322.out
    have hnb53 := NB322_308.out
    have hnc53 := NB308_322.out
    have hnb54 := NB322_314.out
    have hnc54 := NB314_322.out
    obtain ⟨hcz55_0, hcz55_1, hfz55_0, hfz55_1⟩ := cl2_ BK322
    have hnb56 := NB308_293.out
    have hnc56 := NB293_308.out
    have hnb57 := NB308_294.out
    have hnc57 := NB294_308.out
    have hnb58 := NB308_314.out
    have hnc58 := NB314_308.out
    obtain ⟨hcz59_0, hcz59_1, hfz59_0, hfz59_1⟩ := cl2_ BK308
    go_wp2_with (first | ((with_reducible refine gate_callee (f := 15) rfl ?_); refine goesL_ (some 39) rfl rfl Try.func15 (by kernel_rfl) rfl #[.agg #[.int .i8 t319, .bool t320], .agg #[.int .i8 t305, .bool t306]] rfl arg_ ?_; (with_reducible refine (laws_eqCase.calls t319 t320 t305 t306 true _ A49.out).mono ?_); rintro e w60 ⟨rfl, hb⟩; refine ⟨_, rfl, ?_⟩; have n0_ := A_ (Kd.R_below (by (with_reducible repeat (first | apply Kd.R_alloc | apply Kd.R_drewN | apply Kd.R_drew)); exact (rf2_ HO300 BK322 (by decide))) hb); have n1_ := A_ (Kd.R_below (by (with_reducible repeat (first | apply Kd.R_alloc | apply Kd.R_drewN | apply Kd.R_drew)); exact (rf2_ HO313 BK322 (by decide))) hb); have n2_ := A_ (blk_below (g := gb293) (o := .cells #[.int .i8 a0_0, .int .i8 a0_1, .slice A0_2 l0_2.length c0_2] 25 (0, 0)) (pf_ BK293 NB293_322) hb); have n3_ := A_ (blk_below (g := gb294) (o := .cells #[.int .i8 a1_0, .int .i8 a1_1, .int .i8 a1_2, .int .i8 a1_3] 36 (0, 0)) (pf_ BK294 NB294_322) hb); have n4_ := A_ (blk_below (g := gb308) (o := .cells #[.int .i8 t305, .bool t306] 38 (0, 0)) (pf_ BK308 NB308_322) hb); have n5_ := A_ (blk_below (g := gb314) (o := .cells #[.int .i8 t309, .int .i8 t310, .slice Ao40 t311.length co40] 29 (0, 0)) (pf_ BK314 NB314_322) hb); have n6_ := A_ (blk_below (g := gb322) (o := .cells #[.int .i8 t319, .bool t320] 38 (0, 0)) (by (with_reducible repeat (first | refine blk_drewN ?_ _ | refine blk_drew ?_ | refine blk_alloc ?_ _)); refine blk_put (cs := #[.int .i8 t319, .bool false]) ?_ 1 _ rfl; (with_reducible repeat (first | refine blk_drewN ?_ _ | refine blk_drew ?_ | refine blk_alloc ?_ _)); refine blk_put (cs := #[.int .i8 0, .bool false]) ?_ 0 _ rfl; (with_reducible repeat (first | refine blk_drewN ?_ _ | refine blk_drew ?_ | refine blk_alloc ?_ _)); exact BK322.out) hb); have n7_ := A_ (below_step (bs_ HB GE322) hb); clear HO300; clear HO313; clear BK293; clear BK294; clear BK308; clear BK314; clear BK322; clear HB; have HO300 := n0_; have HO313 := n1_; have BK293 := n2_; have BK294 := n3_; have BK308 := n4_; have BK314 := n5_; have BK322 := n6_; have HB := n7_; clear n0_ n1_ n2_ n3_ n4_ n5_ n6_ n7_; (try clear hb); (try clear hb2); (try clear hk); (try clear hi)))
    go_meet
    case rel => exact ⟨_, ((t321 != t307)), rs_, H', ⟨by first | omega | exact Nat.le_refl _⟩, ⟨by (with_reducible repeat (first | apply Kd.R_alloc | apply Kd.R_drewN | apply Kd.R_drew)); exact Kd.R_mono HO313.out (fun _ hk => trivial)⟩, ⟨pl_ BK293⟩, ⟨pl_ BK294⟩, ⟨pl_ BK308⟩, ⟨pl_ BK314⟩, ⟨pl_ BK322⟩, ⟨bl_ HB⟩⟩
   ·replace c50 := Bool.eq_false_iff.mpr c50
    subst c50
    have H1 : (laws_FnExactDecodeNear.j0 k true a0_0 a0_1 l0_2 t309 t310 t311) = some r := by rw [if_neg (show ¬ (false = true) by decide)] at H; exact H
    clear H
    have H := H1
    clear H1
    have H' := Aside0.mk H
    clear H
    have hnb61 := NB322_293.out
    have hnc61 := NB293_322.out
    have hnb62 := NB322_294.out
    have hnc62 := NB294_322.out
    have hnb63 := NB322_308.out
    have hnc63 := NB308_322.out
    have hnb64 := NB322_314.out
    have hnc64 := NB314_322.out
    obtain ⟨hcz65_0, hcz65_1, hfz65_0, hfz65_1⟩ := cl2_ BK322
    have hnb66 := NB308_293.out
    have hnc66 := NB293_308.out
    have hnb67 := NB308_294.out
    have hnc67 := NB294_308.out
    have hnb68 := NB308_314.out
    have hnc68 := NB314_308.out
    obtain ⟨hcz69_0, hcz69_1, hfz69_0, hfz69_1⟩ := cl2_ BK308
    go_wp2_with (first | ((with_reducible refine gate_callee (f := 15) rfl ?_); refine goesL_ (some 39) rfl rfl Try.func15 (by kernel_rfl) rfl #[.agg #[.int .i8 t319, .bool t320], .agg #[.int .i8 t305, .bool t306]] rfl arg_ ?_; (with_reducible refine (laws_eqCase.calls t319 t320 t305 t306 false _ A49.out).mono ?_); rintro e w70 ⟨rfl, hb⟩; refine ⟨_, rfl, ?_⟩; have n0_ := A_ (Kd.R_below (by (with_reducible repeat (first | apply Kd.R_alloc | apply Kd.R_drewN | apply Kd.R_drew)); exact (rf2_ HO300 BK322 (by decide))) hb); have n1_ := A_ (Kd.R_below (by (with_reducible repeat (first | apply Kd.R_alloc | apply Kd.R_drewN | apply Kd.R_drew)); exact (rf2_ HO313 BK322 (by decide))) hb); have n2_ := A_ (blk_below (g := gb293) (o := .cells #[.int .i8 a0_0, .int .i8 a0_1, .slice A0_2 l0_2.length c0_2] 25 (0, 0)) (pf_ BK293 NB293_322) hb); have n3_ := A_ (blk_below (g := gb294) (o := .cells #[.int .i8 a1_0, .int .i8 a1_1, .int .i8 a1_2, .int .i8 a1_3] 36 (0, 0)) (pf_ BK294 NB294_322) hb); have n4_ := A_ (blk_below (g := gb308) (o := .cells #[.int .i8 t305, .bool t306] 38 (0, 0)) (pf_ BK308 NB308_322) hb); have n5_ := A_ (blk_below (g := gb314) (o := .cells #[.int .i8 t309, .int .i8 t310, .slice Ao40 t311.length co40] 29 (0, 0)) (pf_ BK314 NB314_322) hb); have n6_ := A_ (blk_below (g := gb322) (o := .cells #[.int .i8 t319, .bool t320] 38 (0, 0)) (by (with_reducible repeat (first | refine blk_drewN ?_ _ | refine blk_drew ?_ | refine blk_alloc ?_ _)); refine blk_put (cs := #[.int .i8 t319, .bool false]) ?_ 1 _ rfl; (with_reducible repeat (first | refine blk_drewN ?_ _ | refine blk_drew ?_ | refine blk_alloc ?_ _)); refine blk_put (cs := #[.int .i8 0, .bool false]) ?_ 0 _ rfl; (with_reducible repeat (first | refine blk_drewN ?_ _ | refine blk_drew ?_ | refine blk_alloc ?_ _)); exact BK322.out) hb); have n7_ := A_ (below_step (bs_ HB GE322) hb); clear HO300; clear HO313; clear BK293; clear BK294; clear BK308; clear BK314; clear BK322; clear HB; have HO300 := n0_; have HO313 := n1_; have BK293 := n2_; have BK294 := n3_; have BK308 := n4_; have BK314 := n5_; have BK322 := n6_; have HB := n7_; clear n0_ n1_ n2_ n3_ n4_ n5_ n6_ n7_; (try clear hb); (try clear hb2); (try clear hk); (try clear hi)))
    go_meet
    case rel => exact ⟨_, (true), rs_, H', ⟨by first | omega | exact Nat.le_refl _⟩, ⟨by (with_reducible repeat (first | apply Kd.R_alloc | apply Kd.R_drewN | apply Kd.R_drew)); exact Kd.R_mono HO313.out (fun _ hk => trivial)⟩, ⟨pl_ BK293⟩, ⟨pl_ BK294⟩, ⟨pl_ BK308⟩, ⟨pl_ BK314⟩, ⟨pl_ BK322⟩, ⟨bl_ HB⟩⟩
  case rest =>
   clear HC17
   try clear c1
   try clear p2
   try clear c5
   try clear c6
   try clear c13
   try clear c14
   try clear c15
   try clear c50
   try clear c51
   try clear c52
   try clear c53
   try clear c54
   try clear c56
   try clear c57
   try clear c58
   try clear c61
   try clear c62
   try clear c63
   try clear c64
   try clear c66
   try clear c67
   try clear c68
   try clear hcz55_0
   try clear hcz55_1
   try clear hcz59_0
   try clear hcz59_1
   try clear hcz65_0
   try clear hcz65_1
   try clear hcz69_0
   try clear hcz69_1
   try clear hfz55_0
   try clear hfz55_1
   try clear hfz59_0
   try clear hfz59_1
   try clear hfz65_0
   try clear hfz65_1
   try clear hfz69_0
   try clear hfz69_1
   obtain ⟨kq, x45_16, rfl, HA, HJ16, HO_315002, BK293, BK294, BK308, BK314, BK322, HB⟩ := hcut
   cases kq with
   | zero => exact absurd HA.out (by simp [laws_FnExactDecodeNear.j0])
   | succ kj16 =>
    have H := HA.out
    clear HA
    simp only [laws_FnExactDecodeNear.j0] at H
    by_cases c71 : x45_16 = true
    ·subst c71
     have H1 : (some false) = some r := by rw [if_pos rfl] at H; exact H
     clear H
     have H := H1
     clear H1
     obtain rfl := Option.some.inj H
     go_wp2
     go_ret
     exact ⟨by first | rfl | (simp [errW_none, errW_some] <;> rfl) | (simp [*, errW_none, errW_some] <;> rfl), bl_ HB⟩
    ·replace c71 := Bool.eq_false_iff.mpr c71
     subst c71
     have H1 : ((laws_toFixed.f kj16 a0_0 a0_1 l0_2).bind fun bt324 => ((laws_eqFixed.f kj16 t309 t310 t311 bt324.1 bt324.2.1 bt324.2.2).bind fun t329 => (if t329 = true then (some true) else (some false)))) = some r := by rw [if_neg (show ¬ (false = true) by decide)] at H; exact H
     clear H
     have H := H1
     clear H1
     replace H := Option.bind_eq_some_iff.mp H
     obtain ⟨⟨t324, t325, t326⟩, A720, H⟩ := H
     replace H : ((laws_eqFixed.f kj16 t309 t310 t311 t324 t325 t326).bind fun t329 => (if t329 = true then (some true) else (some false))) = some r := H
     have A72 := Aside0.mk A720
     clear A720
     replace H := Option.bind_eq_some_iff.mp H
     obtain ⟨t329, A730, H⟩ := H
     replace H : (if t329 = true then (some true) else (some false)) = some r := H
     have A73 := Aside0.mk A730
     clear A730
     by_cases c74 : t329 = true
     ·subst c74
      have H1 : (some true) = some r := by rw [if_pos rfl] at H; exact H
      clear H
      have H := H1
      clear H1
      obtain rfl := Option.some.inj H
      try go_wp2
      have n0_ := A_ (Kd.R_drew HO_315002.out)
      have n1_ := A_ (blk_drew BK293.out)
      have n2_ := A_ (blk_drew BK294.out)
      have n3_ := A_ (blk_drew BK308.out)
      have n4_ := A_ (blk_drew BK314.out)
      have n5_ := A_ (blk_drew BK322.out)
      have n6_ := A_ (below_drew1 HB.out)
      clear HO_315002
      clear BK293
      clear BK294
      clear BK308
      clear BK314
      clear BK322
      clear HB
      have HO_315002 := n0_
      have BK293 := n1_
      have BK294 := n2_
      have BK308 := n3_
      have BK314 := n4_
      have BK322 := n5_
      have HB := n6_
      clear n0_ n1_ n2_ n3_ n4_ n5_ n6_
      refine start_ (n := 5) (S := fun w' => w'.cell? ⟨gb314, 0, none⟩ = some (.int .i8 t309) ∧ w'.cell? ⟨gb314, 1, none⟩ = some (.int .i8 t310) ∧ w'.cell? ⟨gb314, 2, none⟩ = some (.slice Ao40 t311.length co40) ∧ w'.cell? ⟨gb293, 0, none⟩ = some (.int .i8 a0_0) ∧ w'.cell? ⟨gb293, 1, none⟩ = some (.int .i8 a0_1) ∧ w'.cell? ⟨gb293, 2, none⟩ = some (.slice A0_2 l0_2.length c0_2)) (ds := []) #[false, false, false, false, false] (by kernel_rfl) rfl rfl ⟨(blk_cell BK314.out 0).trans rfl, (blk_cell BK314.out 1).trans rfl, (blk_cell BK314.out 2).trans rfl, (blk_cell BK293.out 0).trans rfl, (blk_cell BK293.out 1).trans rfl, (blk_cell BK293.out 2).trans rfl⟩ (fun hHeld => ?_)
      generalize wc.drew = w75 at HO_315002 BK293 BK294 BK308 BK314 BK322 HB hHeld ⊢
      refine take_ (i := 0) (N := some 46) (v := ?_) (a' := ?_) #[true, false, false, false, false] rfl rfl (by kernel_rfl) (fun _ _ _ h => h) (Or.inl ⟨by rfl, ?_⟩) hHeld ?_ ?_
      rotate_left
      ·rintro w' ⟨s0, s1, s2, s3, s4, s5⟩
       go_simp
       with_reducible rfl
      rotate_left
      ·simp only [Act.put, sp_]
       rfl
      refine take_ (i := 1) (N := some 47) (v := ?_) (a' := ?_) #[true, true, false, false, false] rfl rfl (by kernel_rfl) (fun _ _ _ h => h) (Or.inl ⟨by rfl, ?_⟩) hHeld ?_ ?_
      rotate_left
      ·rintro w' ⟨s0, s1, s2, s3, s4, s5⟩
       go_simp
       with_reducible rfl
      rotate_left
      ·simp only [Act.put, sp_]
       rfl
      refine one_ (i := 2) (N := some 48) #[true, true, true, false, false] rfl rfl (by kernel_rfl) (by decide) (fun K hK => ?_)
      refine goes_ Try.func7 (by kernel_rfl) rfl #[.agg #[.int .i8 a0_0, .int .i8 a0_1, .slice A0_2 l0_2.length c0_2]] (by rfl) rfl rfl arg_ ?_
      with_reducible refine (laws_toFixed.calls kj16 a0_0 a0_1 _ _ l0_2 t324 t325 t326 _ ?side1 ?side2 A72.out).mono ?_
      (case side1 => exact Kd.C_below HR0_2.out (bl_ HB))
      (case side2 => exact HC0_2.out)
      rintro e w76 ⟨v327, rfl, ho0, hb⟩
      refine ⟨_, rfl, ?_⟩
      have n0_ := A_ (Kd.R_elder' (pr_ HO_315002) (Kd.R_base ho0) hb)
      have n1_ := A_ (Kd.R_lower (Kd.R_new' ho0 (Kd.R_lt (pr_ HO_315002))) (below_size (bl_ HB)))
      have n2_ := A_ (blk_below (pl_ BK293) hb)
      have n3_ := A_ (blk_below (pl_ BK294) hb)
      have n4_ := A_ (blk_below (pl_ BK308) hb)
      have n5_ := A_ (blk_below (pl_ BK314) hb)
      have n6_ := A_ (blk_below (pl_ BK322) hb)
      have n7_ := A_ (below_step (bl_ HB) hb)
      clear HO_315002
      clear BK293
      clear BK294
      clear BK308
      clear BK314
      clear BK322
      clear HB
      have HO_315002 := n0_
      have HO328 := n1_
      have BK293 := n2_
      have BK294 := n3_
      have BK308 := n4_
      have BK314 := n5_
      have BK322 := n6_
      have HB := n7_
      clear n0_ n1_ n2_ n3_ n4_ n5_ n6_ n7_
      (try clear hb)
      (try clear hb2)
      (try clear hk)
      (try clear hi)
      (try clear ho0)
      obtain ⟨Ao77, co77, eo77⟩ := Kd.R_slice HO328.out
      (first | subst eo77 | (injection eo77 with f1_ f2_ f3_; have f4_ := f1_.symm; have f5_ := f3_.symm; clear f1_ f2_ f3_; subst f4_; subst f5_))
      refine hK.out _ _ ⟨(blk_cell BK314.out 0).trans rfl, (blk_cell BK314.out 1).trans rfl, (blk_cell BK314.out 2).trans rfl, (blk_cell BK293.out 0).trans rfl, (blk_cell BK293.out 1).trans rfl, (blk_cell BK293.out 2).trans rfl⟩ (fun hHeld => ?_)
      clear hK K
      refine norm_ (a' := ?_) ?_ ?_
      rotate_left
      ·show Act.put _ (some 48) _ = _
       simp only [Act.put, sp_]
       rfl
      refine one_ (i := 3) (N := some 49) #[true, true, true, true, false] rfl rfl (by kernel_rfl) (by decide) (fun K hK => ?_)
      refine goes_ Try.func9 (by kernel_rfl) rfl #[.agg #[.int .i8 t309, .int .i8 t310, .slice Ao40 t311.length co40], .agg #[.int .i8 t324, .int .i8 t325, .slice Ao77 t326.length co77]] (by rfl) rfl rfl arg_ ?_
      with_reducible refine (laws_eqFixed.calls kj16 t309 t310 _ _ t311 t324 t325 _ _ t326 true _ ?side1 ?side2 ?side3 ?side4 A73.out).mono ?_
      (case side1 => repeat (first | exact (Kd.R_reads' HO_315002.out).2.2 | (with_reducible refine Kd.C_alloc ?_ _) | (with_reducible refine Kd.C_drewN ?_ _) | (with_reducible refine Kd.C_drew ?_)))
      (case side2 => exact (Kd.R_reads' HO_315002.out).2.1)
      (case side3 => repeat (first | exact (Kd.R_reads' HO328.out).2.2 | (with_reducible refine Kd.C_alloc ?_ _) | (with_reducible refine Kd.C_drewN ?_ _) | (with_reducible refine Kd.C_drew ?_)))
      (case side4 => exact (Kd.R_reads' HO328.out).2.1)
      rintro e w78 ⟨rfl, hb⟩
      refine ⟨_, rfl, ?_⟩
      have n0_ := A_ (Kd.R_below (pr_ HO_315002) hb)
      have n1_ := A_ (Kd.R_below (pr_ HO328) hb)
      have n2_ := A_ (blk_below (pl_ BK293) hb)
      have n3_ := A_ (blk_below (pl_ BK294) hb)
      have n4_ := A_ (blk_below (pl_ BK308) hb)
      have n5_ := A_ (blk_below (pl_ BK314) hb)
      have n6_ := A_ (blk_below (pl_ BK322) hb)
      have n7_ := A_ (below_step (bl_ HB) hb)
      clear HO_315002
      clear HO328
      clear BK293
      clear BK294
      clear BK308
      clear BK314
      clear BK322
      clear HB
      have HO_315002 := n0_
      have HO328 := n1_
      have BK293 := n2_
      have BK294 := n3_
      have BK308 := n4_
      have BK314 := n5_
      have BK322 := n6_
      have HB := n7_
      clear n0_ n1_ n2_ n3_ n4_ n5_ n6_ n7_
      (try clear hb)
      (try clear hb2)
      (try clear hk)
      (try clear hi)
      refine hK.out _ _ ⟨(blk_cell BK314.out 0).trans rfl, (blk_cell BK314.out 1).trans rfl, (blk_cell BK314.out 2).trans rfl, (blk_cell BK293.out 0).trans rfl, (blk_cell BK293.out 1).trans rfl, (blk_cell BK293.out 2).trans rfl⟩ (fun hHeld => ?_)
      clear hK K
      refine norm_ (a' := ?_) ?_ ?_
      rotate_left
      ·show Act.put _ (some 49) _ = _
       simp only [Act.put, sp_]
       rfl
      refine pure_ (i := 4) (N := some 50) (v := ?_) (a' := ?_) #[true, true, true, true, true] rfl rfl (by kernel_rfl) (fun _ _ _ h => h) (Or.inl ⟨by rfl, ?_⟩) ?_ ?_
      rotate_left
      ·intro w'
       go_simp
       with_reducible rfl
      rotate_left
      ·simp only [Act.put, sp_]
       rfl
      refine done_ (by kernel_rfl) ?_
      try go_wp2
      go_ret
      exact ⟨by first | rfl | (simp [errW_none, errW_some] <;> rfl) | (simp [*, errW_none, errW_some] <;> rfl), bl_ HB⟩
     ·replace c74 := Bool.eq_false_iff.mpr c74
      subst c74
      have H1 : (some false) = some r := by rw [if_neg (show ¬ (false = true) by decide)] at H; exact H
      clear H
      have H := H1
      clear H1
      obtain rfl := Option.some.inj H
      try go_wp2
      have n0_ := A_ (Kd.R_drew HO_315002.out)
      have n1_ := A_ (blk_drew BK293.out)
      have n2_ := A_ (blk_drew BK294.out)
      have n3_ := A_ (blk_drew BK308.out)
      have n4_ := A_ (blk_drew BK314.out)
      have n5_ := A_ (blk_drew BK322.out)
      have n6_ := A_ (below_drew1 HB.out)
      clear HO_315002
      clear BK293
      clear BK294
      clear BK308
      clear BK314
      clear BK322
      clear HB
      have HO_315002 := n0_
      have BK293 := n1_
      have BK294 := n2_
      have BK308 := n3_
      have BK314 := n4_
      have BK322 := n5_
      have HB := n6_
      clear n0_ n1_ n2_ n3_ n4_ n5_ n6_
      refine start_ (n := 5) (S := fun w' => w'.cell? ⟨gb314, 0, none⟩ = some (.int .i8 t309) ∧ w'.cell? ⟨gb314, 1, none⟩ = some (.int .i8 t310) ∧ w'.cell? ⟨gb314, 2, none⟩ = some (.slice Ao40 t311.length co40) ∧ w'.cell? ⟨gb293, 0, none⟩ = some (.int .i8 a0_0) ∧ w'.cell? ⟨gb293, 1, none⟩ = some (.int .i8 a0_1) ∧ w'.cell? ⟨gb293, 2, none⟩ = some (.slice A0_2 l0_2.length c0_2)) (ds := []) #[false, false, false, false, false] (by kernel_rfl) rfl rfl ⟨(blk_cell BK314.out 0).trans rfl, (blk_cell BK314.out 1).trans rfl, (blk_cell BK314.out 2).trans rfl, (blk_cell BK293.out 0).trans rfl, (blk_cell BK293.out 1).trans rfl, (blk_cell BK293.out 2).trans rfl⟩ (fun hHeld => ?_)
      generalize wc.drew = w79 at HO_315002 BK293 BK294 BK308 BK314 BK322 HB hHeld ⊢
      refine take_ (i := 0) (N := some 46) (v := ?_) (a' := ?_) #[true, false, false, false, false] rfl rfl (by kernel_rfl) (fun _ _ _ h => h) (Or.inl ⟨by rfl, ?_⟩) hHeld ?_ ?_
      rotate_left
      ·rintro w' ⟨s0, s1, s2, s3, s4, s5⟩
       go_simp
       with_reducible rfl
      rotate_left
      ·simp only [Act.put, sp_]
       rfl
      refine take_ (i := 1) (N := some 47) (v := ?_) (a' := ?_) #[true, true, false, false, false] rfl rfl (by kernel_rfl) (fun _ _ _ h => h) (Or.inl ⟨by rfl, ?_⟩) hHeld ?_ ?_
      rotate_left
      ·rintro w' ⟨s0, s1, s2, s3, s4, s5⟩
       go_simp
       with_reducible rfl
      rotate_left
      ·simp only [Act.put, sp_]
       rfl
      refine one_ (i := 2) (N := some 48) #[true, true, true, false, false] rfl rfl (by kernel_rfl) (by decide) (fun K hK => ?_)
      refine goes_ Try.func7 (by kernel_rfl) rfl #[.agg #[.int .i8 a0_0, .int .i8 a0_1, .slice A0_2 l0_2.length c0_2]] (by rfl) rfl rfl arg_ ?_
      with_reducible refine (laws_toFixed.calls kj16 a0_0 a0_1 _ _ l0_2 t324 t325 t326 _ ?side1 ?side2 A72.out).mono ?_
      (case side1 => exact Kd.C_below HR0_2.out (bl_ HB))
      (case side2 => exact HC0_2.out)
      rintro e w80 ⟨v327, rfl, ho0, hb⟩
      refine ⟨_, rfl, ?_⟩
      have n0_ := A_ (Kd.R_elder' (pr_ HO_315002) (Kd.R_base ho0) hb)
      have n1_ := A_ (Kd.R_lower (Kd.R_new' ho0 (Kd.R_lt (pr_ HO_315002))) (below_size (bl_ HB)))
      have n2_ := A_ (blk_below (pl_ BK293) hb)
      have n3_ := A_ (blk_below (pl_ BK294) hb)
      have n4_ := A_ (blk_below (pl_ BK308) hb)
      have n5_ := A_ (blk_below (pl_ BK314) hb)
      have n6_ := A_ (blk_below (pl_ BK322) hb)
      have n7_ := A_ (below_step (bl_ HB) hb)
      clear HO_315002
      clear BK293
      clear BK294
      clear BK308
      clear BK314
      clear BK322
      clear HB
      have HO_315002 := n0_
      have HO328 := n1_
      have BK293 := n2_
      have BK294 := n3_
      have BK308 := n4_
      have BK314 := n5_
      have BK322 := n6_
      have HB := n7_
      clear n0_ n1_ n2_ n3_ n4_ n5_ n6_ n7_
      (try clear hb)
      (try clear hb2)
      (try clear hk)
      (try clear hi)
      (try clear ho0)
      obtain ⟨Ao81, co81, eo81⟩ := Kd.R_slice HO328.out
      (first | subst eo81 | (injection eo81 with f1_ f2_ f3_; have f4_ := f1_.symm; have f5_ := f3_.symm; clear f1_ f2_ f3_; subst f4_; subst f5_))
      refine hK.out _ _ ⟨(blk_cell BK314.out 0).trans rfl, (blk_cell BK314.out 1).trans rfl, (blk_cell BK314.out 2).trans rfl, (blk_cell BK293.out 0).trans rfl, (blk_cell BK293.out 1).trans rfl, (blk_cell BK293.out 2).trans rfl⟩ (fun hHeld => ?_)
      clear hK K
      refine norm_ (a' := ?_) ?_ ?_
      rotate_left
      ·show Act.put _ (some 48) _ = _
       simp only [Act.put, sp_]
       rfl
      refine one_ (i := 3) (N := some 49) #[true, true, true, true, false] rfl rfl (by kernel_rfl) (by decide) (fun K hK => ?_)
      refine goes_ Try.func9 (by kernel_rfl) rfl #[.agg #[.int .i8 t309, .int .i8 t310, .slice Ao40 t311.length co40], .agg #[.int .i8 t324, .int .i8 t325, .slice Ao81 t326.length co81]] (by rfl) rfl rfl arg_ ?_
      with_reducible refine (laws_eqFixed.calls kj16 t309 t310 _ _ t311 t324 t325 _ _ t326 false _ ?side1 ?side2 ?side3 ?side4 A73.out).mono ?_
      (case side1 => repeat (first | exact (Kd.R_reads' HO_315002.out).2.2 | (with_reducible refine Kd.C_alloc ?_ _) | (with_reducible refine Kd.C_drewN ?_ _) | (with_reducible refine Kd.C_drew ?_)))
      (case side2 => exact (Kd.R_reads' HO_315002.out).2.1)
      (case side3 => repeat (first | exact (Kd.R_reads' HO328.out).2.2 | (with_reducible refine Kd.C_alloc ?_ _) | (with_reducible refine Kd.C_drewN ?_ _) | (with_reducible refine Kd.C_drew ?_)))
      (case side4 => exact (Kd.R_reads' HO328.out).2.1)
      rintro e w82 ⟨rfl, hb⟩
      refine ⟨_, rfl, ?_⟩
      have n0_ := A_ (Kd.R_below (pr_ HO_315002) hb)
      have n1_ := A_ (Kd.R_below (pr_ HO328) hb)
      have n2_ := A_ (blk_below (pl_ BK293) hb)
      have n3_ := A_ (blk_below (pl_ BK294) hb)
      have n4_ := A_ (blk_below (pl_ BK308) hb)
      have n5_ := A_ (blk_below (pl_ BK314) hb)
      have n6_ := A_ (blk_below (pl_ BK322) hb)
      have n7_ := A_ (below_step (bl_ HB) hb)
      clear HO_315002
      clear HO328
      clear BK293
      clear BK294
      clear BK308
      clear BK314
      clear BK322
      clear HB
      have HO_315002 := n0_
      have HO328 := n1_
      have BK293 := n2_
      have BK294 := n3_
      have BK308 := n4_
      have BK314 := n5_
      have BK322 := n6_
      have HB := n7_
      clear n0_ n1_ n2_ n3_ n4_ n5_ n6_ n7_
      (try clear hb)
      (try clear hb2)
      (try clear hk)
      (try clear hi)
      refine hK.out _ _ ⟨(blk_cell BK314.out 0).trans rfl, (blk_cell BK314.out 1).trans rfl, (blk_cell BK314.out 2).trans rfl, (blk_cell BK293.out 0).trans rfl, (blk_cell BK293.out 1).trans rfl, (blk_cell BK293.out 2).trans rfl⟩ (fun hHeld => ?_)
      clear hK K
      refine norm_ (a' := ?_) ?_ ?_
      rotate_left
      ·show Act.put _ (some 49) _ = _
       simp only [Act.put, sp_]
       rfl
      refine pure_ (i := 4) (N := some 50) (v := ?_) (a' := ?_) #[true, true, true, true, true] rfl rfl (by kernel_rfl) (fun _ _ _ h => h) (Or.inl ⟨by rfl, ?_⟩) ?_ ?_
      rotate_left
      ·intro w'
       go_simp
       with_reducible rfl
      rotate_left
      ·simp only [Act.put, sp_]
       rfl
      refine done_ (by kernel_rfl) ?_
      try go_wp2
      go_ret
      exact ⟨by first | rfl | (simp [errW_none, errW_some] <;> rfl) | (simp [*, errW_none, errW_some] <;> rfl), bl_ HB⟩

end Go.Proofs.Ytkieplebdbdigaa.M
