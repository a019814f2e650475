-- By this seat's own program over the kit's printer (arrays, functions told by hand); nothing of it is trusted: the kernel checks it.
import Derived.Test.YtonifpgaagdohaaMx0
import Derived.Test.YtonifpgaagdohaaMx1
import Derived.Test.YtonifpgaagdohaaMx2
import Derived.Test.YtonifpgaagdohaaMx5
import Derived.Test.YtonifpgaagdohaaMx10
import Derived.Test.YtonifpgaagdohaaMx12
import Derived.Test.YtonifpgaagdohaaMx13
import Derived.Test.YtonifpgaagdohaaMx14
namespace Go.Proofs.Ytonifpgaagdohaa.M
open Go.RowKit Go.Proofs.YtonifpgaagdohaaW.PrintWords Go.Proofs.YtonifpgaagdohaaW.PrintLast Go.Proofs.YtonifpgaagdohaaW.PrintMore
attribute [local go_sem] max2_int min2_int max_two min_two max_three min_three max_four min_four   -- for this text's walks alone
set_option linter.unusedVariables false
set_option linter.unusedSimpArgs false

/-! ### laws_FnExactAddWord: function 6 -/
mutual
def laws_FnExactAddWord.j0 : Nat → Int → Int → Bool → Int → Int → List (S37) → Int → Int → Int → Int → Int → Int → List (S40) → Int → Int → List (S40) → Int → Int → List (S40) → Option (Bool)
 | 0, _, _, _, _, _, _, _, _, _, _, _, _, _, _, _, _, _, _, _ => none
 | k + 1, x7, x10, x46, x208000, x208001, x208002, x209000, x209001, x209002, x209003, x226000, x226001, x226002, x232000, x232001, x232002, x243000, x243001, x243002 => if x46 = true then (some false) else ((laws_toFixed.f k x208000 x208001 x208002).bind fun bt244 => ((laws_eqFixed.f k x232000 x232001 x232002 bt244.1 bt244.2.1 bt244.2.2).bind fun t249 => (if t249 = true then ((laws_markFixed.f k x232000 x232001 x232002 1).bind fun bt250 => (if bt250.1 < 0 then (laws_FnExactAddWord.j1 k x7 true x208000 x208001 x208002 x209000 x209001 x209002 x209003 x226000 x226001 x226002 x243000 x243001 x243002) else ((laws_eqFixed.f k x243000 x243001 x243002 x226000 x226001 x226002).bind fun t252 => (if t252 = true then (laws_FnExactAddWord.j1 k x7 (x10 != x7) x208000 x208001 x208002 x209000 x209001 x209002 x209003 x226000 x226001 x226002 x243000 x243001 x243002) else (laws_FnExactAddWord.j1 k x7 true x208000 x208001 x208002 x209000 x209001 x209002 x209003 x226000 x226001 x226002 x243000 x243001 x243002))))) else (some false))))
def laws_FnExactAddWord.j1 : Nat → Int → Bool → Int → Int → List (S37) → Int → Int → Int → Int → Int → Int → List (S40) → Int → Int → List (S40) → Option (Bool)
 | 0, _, _, _, _, _, _, _, _, _, _, _, _, _, _, _ => none
 | k + 1, x7, x67, x208000, x208001, x208002, x209000, x209001, x209002, x209003, x226000, x226001, x226002, x243000, x243001, x243002 => if x67 = true then (some false) else ((laws_markFixed.f k x243000 x243001 x243002 1).bind fun bt253 => ((laws_heldFixed.f k x243000 x243001 bt253.2 1).bind fun t255 => (if t255 < 0 then (some false) else (if t255 = bt253.1 then ((laws_toFixed.f k x208000 x208001 x208002).bind fun bt256 => ((laws_toWord.f k x209000 x209001 x209002 x209003).bind fun bt261 => ((impl_AddWord.f k bt256.1 bt256.2.1 bt256.2.2 bt261.1 bt261.2.1 bt261.2.2.1 bt261.2.2.2).bind fun bt265 => ((laws_eqFixed.f k bt265.1 bt265.2.1 bt265.2.2.1 x226000 x226001 x226002).bind fun t272 => (if t272 = true then (laws_FnExactAddWord.j2 k bt253.1 (bt265.2.2.2 != x7) x243000 x243001 bt253.2) else (laws_FnExactAddWord.j2 k bt253.1 true x243000 x243001 bt253.2)))))) else (some false)))))
def laws_FnExactAddWord.j2 : Nat → Int → Bool → Int → Int → List (S40) → Option (Bool)
 | 0, _, _, _, _, _ => none
 | k + 1, x12, x95, x243000, x243001, x243002 => if x95 = true then (some false) else ((laws_heldFixed.f k x243000 x243001 x243002 1).bind fun t273 => (if t273 < 0 then (some false) else (if t273 = x12 then (some true) else (some false))))
end
def laws_FnExactAddWord.f (k : Nat) (a0_0 : Int) (a0_1 : Int) (l0_2 : List (S37)) (a1_0 : Int) (a1_1 : Int) (a1_2 : Int) (a1_3 : Int) : Option (Bool) := (laws_szFixed.f a0_0 a0_1 l0_2 1048576).bind fun t209 => (if t209 < 0 then (some true) else ((laws_toFixed.f k a0_0 a0_1 l0_2).bind fun bt210 => ((laws_toWord.f k a1_0 a1_1 a1_2 a1_3).bind fun bt215 => ((spec_AddWord.f k bt210.1 bt210.2.1 bt210.2.2 bt215.1 bt215.2.1 bt215.2.2.1 bt215.2.2.2).bind fun bt219 => ((laws_toFixed.f k a0_0 a0_1 l0_2).bind fun bt226 => ((laws_toWord.f k a1_0 a1_1 a1_2 a1_3).bind fun bt232 => ((impl_AddWord.f k bt226.1 bt226.2.1 bt226.2.2 bt232.1 bt232.2.1 bt232.2.2.1 bt232.2.2.2).bind fun bt236 => ((laws_eqFixed.f k bt236.1 bt236.2.1 bt236.2.2.1 bt219.1 bt219.2.1 bt219.2.2.1).bind fun t243 => (if t243 = true then (laws_FnExactAddWord.j0 k bt219.2.2.2 bt236.2.2.2 (bt236.2.2.2 != bt219.2.2.2) a0_0 a0_1 l0_2 a1_0 a1_1 a1_2 a1_3 bt219.1 bt219.2.1 bt219.2.2.1 bt226.1 bt226.2.1 bt226.2.2 bt236.1 bt236.2.1 bt236.2.2.1) else (laws_FnExactAddWord.j0 k bt219.2.2.2 bt236.2.2.2 true a0_0 a0_1 l0_2 a1_0 a1_1 a1_2 a1_3 bt219.1 bt219.2.1 bt219.2.2.1 bt226.1 bt226.2.1 bt226.2.2 bt236.1 bt236.2.1 bt236.2.2.1))))))))))
theorem laws_FnExactAddWord.mono_l : ∀ k, (∀ y0 y1 y2 y3 y4 y5 y6 y7 y8 y9 y10 y11 y12 y13 y14 y15 y16 y17 y18, LeO (laws_FnExactAddWord.j0 k y0 y1 y2 y3 y4 y5 y6 y7 y8 y9 y10 y11 y12 y13 y14 y15 y16 y17 y18) (laws_FnExactAddWord.j0 (k + 1) y0 y1 y2 y3 y4 y5 y6 y7 y8 y9 y10 y11 y12 y13 y14 y15 y16 y17 y18)) ∧ (∀ y0 y1 y2 y3 y4 y5 y6 y7 y8 y9 y10 y11 y12 y13 y14, LeO (laws_FnExactAddWord.j1 k y0 y1 y2 y3 y4 y5 y6 y7 y8 y9 y10 y11 y12 y13 y14) (laws_FnExactAddWord.j1 (k + 1) y0 y1 y2 y3 y4 y5 y6 y7 y8 y9 y10 y11 y12 y13 y14)) ∧ (∀ y0 y1 y2 y3 y4, LeO (laws_FnExactAddWord.j2 k y0 y1 y2 y3 y4) (laws_FnExactAddWord.j2 (k + 1) y0 y1 y2 y3 y4))
 | 0 => ⟨fun _ _ _ _ _ _ _ _ _ _ _ _ _ _ _ _ _ _ _ r h => by simp [laws_FnExactAddWord.j0] at h, fun _ _ _ _ _ _ _ _ _ _ _ _ _ _ _ r h => by simp [laws_FnExactAddWord.j1] at h, fun _ _ _ _ _ r h => by simp [laws_FnExactAddWord.j2] at h⟩
 | k + 1 => by
  obtain ⟨ih0, ih1, ih2⟩ := laws_FnExactAddWord.mono_l k
  refine ⟨?_, ?_, ?_⟩
  ·intro y0 y1 y2 y3 y4 y5 y6 y7 y8 y9 y10 y11 y12 y13 y14 y15 y16 y17 y18
   unfold laws_FnExactAddWord.j0
   repeat' first
   | (with_reducible exact ih0 _ _ _ _ _ _ _ _ _ _ _ _ _ _ _ _ _ _ _)
   | (with_reducible exact ih1 _ _ _ _ _ _ _ _ _ _ _ _ _ _ _)
   | (with_reducible exact ih2 _ _ _ _ _)
   | (with_reducible exact impl_AddWord.mono _ _ _ _ _ _ _ _)
   | (with_reducible exact laws_eqFixed.mono _ _ _ _ _ _ _)
   | (with_reducible exact laws_heldFixed.mono _ _ _ _ _)
   | (with_reducible exact laws_markFixed.mono _ _ _ _ _)
   | (with_reducible exact laws_toFixed.mono _ _ _ _)
   | (with_reducible exact laws_toWord.mono _ _ _ _ _)
   | (with_reducible exact spec_AddWord.mono _ _ _ _ _ _ _ _)
   | (with_reducible exact LeO.refl _)
   | (with_reducible exact LeO.none _)
   | (with_reducible refine LeO.ite ?_ ?_)
   | (with_reducible refine LeO.bind ?_ (fun _ => ?_))
   | exact ih0 _ _ _ _ _ _ _ _ _ _ _ _ _ _ _ _ _ _ _
   | exact ih1 _ _ _ _ _ _ _ _ _ _ _ _ _ _ _
   | exact ih2 _ _ _ _ _
   | exact impl_AddWord.mono _ _ _ _ _ _ _ _
   | exact laws_eqFixed.mono _ _ _ _ _ _ _
   | exact laws_heldFixed.mono _ _ _ _ _
   | exact laws_markFixed.mono _ _ _ _ _
   | exact laws_toFixed.mono _ _ _ _
   | exact laws_toWord.mono _ _ _ _ _
   | exact spec_AddWord.mono _ _ _ _ _ _ _ _
   | exact LeO.none _
   | refine LeO.ite ?_ ?_
   | refine LeO.bind ?_ (fun _ => ?_)
  ·intro y0 y1 y2 y3 y4 y5 y6 y7 y8 y9 y10 y11 y12 y13 y14
   unfold laws_FnExactAddWord.j1
   repeat' first
   | (with_reducible exact ih0 _ _ _ _ _ _ _ _ _ _ _ _ _ _ _ _ _ _ _)
   | (with_reducible exact ih1 _ _ _ _ _ _ _ _ _ _ _ _ _ _ _)
   | (with_reducible exact ih2 _ _ _ _ _)
   | (with_reducible exact impl_AddWord.mono _ _ _ _ _ _ _ _)
   | (with_reducible exact laws_eqFixed.mono _ _ _ _ _ _ _)
   | (with_reducible exact laws_heldFixed.mono _ _ _ _ _)
   | (with_reducible exact laws_markFixed.mono _ _ _ _ _)
   | (with_reducible exact laws_toFixed.mono _ _ _ _)
   | (with_reducible exact laws_toWord.mono _ _ _ _ _)
   | (with_reducible exact spec_AddWord.mono _ _ _ _ _ _ _ _)
   | (with_reducible exact LeO.refl _)
   | (with_reducible exact LeO.none _)
   | (with_reducible refine LeO.ite ?_ ?_)
   | (with_reducible refine LeO.bind ?_ (fun _ => ?_))
   | exact ih0 _ _ _ _ _ _ _ _ _ _ _ _ _ _ _ _ _ _ _
   | exact ih1 _ _ _ _ _ _ _ _ _ _ _ _ _ _ _
   | exact ih2 _ _ _ _ _
   | exact impl_AddWord.mono _ _ _ _ _ _ _ _
   | exact laws_eqFixed.mono _ _ _ _ _ _ _
   | exact laws_heldFixed.mono _ _ _ _ _
   | exact laws_markFixed.mono _ _ _ _ _
   | exact laws_toFixed.mono _ _ _ _
   | exact laws_toWord.mono _ _ _ _ _
   | exact spec_AddWord.mono _ _ _ _ _ _ _ _
   | exact LeO.none _
   | refine LeO.ite ?_ ?_
   | refine LeO.bind ?_ (fun _ => ?_)
  ·intro y0 y1 y2 y3 y4
   unfold laws_FnExactAddWord.j2
   repeat' first
   | (with_reducible exact ih0 _ _ _ _ _ _ _ _ _ _ _ _ _ _ _ _ _ _ _)
   | (with_reducible exact ih1 _ _ _ _ _ _ _ _ _ _ _ _ _ _ _)
   | (with_reducible exact ih2 _ _ _ _ _)
   | (with_reducible exact impl_AddWord.mono _ _ _ _ _ _ _ _)
   | (with_reducible exact laws_eqFixed.mono _ _ _ _ _ _ _)
   | (with_reducible exact laws_heldFixed.mono _ _ _ _ _)
   | (with_reducible exact laws_markFixed.mono _ _ _ _ _)
   | (with_reducible exact laws_toFixed.mono _ _ _ _)
   | (with_reducible exact laws_toWord.mono _ _ _ _ _)
   | (with_reducible exact spec_AddWord.mono _ _ _ _ _ _ _ _)
   | (with_reducible exact LeO.refl _)
   | (with_reducible exact LeO.none _)
   | (with_reducible refine LeO.ite ?_ ?_)
   | (with_reducible refine LeO.bind ?_ (fun _ => ?_))
   | exact ih0 _ _ _ _ _ _ _ _ _ _ _ _ _ _ _ _ _ _ _
   | exact ih1 _ _ _ _ _ _ _ _ _ _ _ _ _ _ _
   | exact ih2 _ _ _ _ _
   | exact impl_AddWord.mono _ _ _ _ _ _ _ _
   | exact laws_eqFixed.mono _ _ _ _ _ _ _
   | exact laws_heldFixed.mono _ _ _ _ _
   | exact laws_markFixed.mono _ _ _ _ _
   | exact laws_toFixed.mono _ _ _ _
   | exact laws_toWord.mono _ _ _ _ _
   | exact spec_AddWord.mono _ _ _ _ _ _ _ _
   | exact LeO.none _
   | refine LeO.ite ?_ ?_
   | refine LeO.bind ?_ (fun _ => ?_)
theorem laws_FnExactAddWord.mono : ∀ a0 a1 a2 a3 a4 a5 a6 k, LeO (laws_FnExactAddWord.f k a0 a1 a2 a3 a4 a5 a6) (laws_FnExactAddWord.f (k + 1) a0 a1 a2 a3 a4 a5 a6) := by
 intro a0 a1 a2 a3 a4 a5 a6 k
 obtain ⟨ih0, ih1, ih2⟩ := laws_FnExactAddWord.mono_l k
 unfold laws_FnExactAddWord.f
 repeat' first
   | (with_reducible exact ih0 _ _ _ _ _ _ _ _ _ _ _ _ _ _ _ _ _ _ _)
   | (with_reducible exact ih1 _ _ _ _ _ _ _ _ _ _ _ _ _ _ _)
   | (with_reducible exact ih2 _ _ _ _ _)
   | (with_reducible exact impl_AddWord.mono _ _ _ _ _ _ _ _)
   | (with_reducible exact laws_eqFixed.mono _ _ _ _ _ _ _)
   | (with_reducible exact laws_heldFixed.mono _ _ _ _ _)
   | (with_reducible exact laws_markFixed.mono _ _ _ _ _)
   | (with_reducible exact laws_toFixed.mono _ _ _ _)
   | (with_reducible exact laws_toWord.mono _ _ _ _ _)
   | (with_reducible exact spec_AddWord.mono _ _ _ _ _ _ _ _)
   | (with_reducible exact LeO.refl _)
   | (with_reducible exact LeO.none _)
   | (with_reducible refine LeO.ite ?_ ?_)
   | (with_reducible refine LeO.bind ?_ (fun _ => ?_))
   | exact ih0 _ _ _ _ _ _ _ _ _ _ _ _ _ _ _ _ _ _ _
   | exact ih1 _ _ _ _ _ _ _ _ _ _ _ _ _ _ _
   | exact ih2 _ _ _ _ _
   | exact impl_AddWord.mono _ _ _ _ _ _ _ _
   | exact laws_eqFixed.mono _ _ _ _ _ _ _
   | exact laws_heldFixed.mono _ _ _ _ _
   | exact laws_markFixed.mono _ _ _ _ _
   | exact laws_toFixed.mono _ _ _ _
   | exact laws_toWord.mono _ _ _ _ _
   | exact spec_AddWord.mono _ _ _ _ _ _ _ _
   | exact LeO.none _
   | refine LeO.ite ?_ ?_
   | refine LeO.bind ?_ (fun _ => ?_)
def laws_FnExactAddWord.T5 : Bool × List (List Nat × List Nat) := (true, [([], []), ([0], [0]), ([], []), ([2, 1], [2]), ([1, 3, 3], [1, 3]), ([4], [4]), ([5], [5]), ([5], [5]), ([], []), ([8, 6, 4, 0, 1, 2, 3, 4, 5, 6, 8], [6, 8]), ([7, 9, 0, 1, 2, 3, 4, 5, 6, 7, 8, 9], [7])])
def laws_FnExactAddWord.B5 : List Nat := [0, 1, 0, 7, 15, 31, 63, 63, 0, 383, 1023]
theorem laws_FnExactAddWord.tab5 : rtab .any (opsOf Try.f6 5) = laws_FnExactAddWord.T5 := by kernel_rfl
theorem laws_FnExactAddWord.bits5 : waitsOk laws_FnExactAddWord.T5.2 laws_FnExactAddWord.B5 = true := by kernel_rfl
def laws_FnExactAddWord.T7 : Bool × List (List Nat × List Nat) := (true, [([], []), ([], []), ([1], [1]), ([0, 2, 2], [0, 2]), ([3], [3]), ([4], [4]), ([4], [4]), ([], []), ([7, 5, 3, 0, 1, 2, 3, 4, 5, 7], [5, 7]), ([6, 8, 0, 1, 2, 3, 4, 5, 6, 7, 8], [6])])
def laws_FnExactAddWord.B7 : List Nat := [0, 0, 2, 7, 15, 31, 31, 0, 191, 511]
theorem laws_FnExactAddWord.tab7 : rtab .any (opsOf Try.f6 7) = laws_FnExactAddWord.T7 := by kernel_rfl
theorem laws_FnExactAddWord.bits7 : waitsOk laws_FnExactAddWord.T7.2 laws_FnExactAddWord.B7 = true := by kernel_rfl
def laws_FnExactAddWord.T24 : Bool × List (List Nat × List Nat) := (true, [([], []), ([0], [0]), ([], []), ([2, 1], [2]), ([1, 3, 3], [1, 3]), ([4], [4]), ([5], [5]), ([5], [5]), ([], []), ([8, 6, 4, 0, 1, 2, 3, 4, 5, 6, 8], [6, 8]), ([7, 9, 0, 1, 2, 3, 4, 5, 6, 7, 8, 9], [7])])
def laws_FnExactAddWord.B24 : List Nat := [0, 1, 0, 7, 15, 31, 63, 63, 0, 383, 1023]
theorem laws_FnExactAddWord.tab24 : rtab .any (opsOf Try.f6 24) = laws_FnExactAddWord.T24 := by kernel_rfl
theorem laws_FnExactAddWord.bits24 : waitsOk laws_FnExactAddWord.T24.2 laws_FnExactAddWord.B24 = true := by kernel_rfl
set_option maxHeartbeats 8000000 in
set_option maxRecDepth 100000 in
theorem laws_FnExactAddWord.calls (k : Nat) (a0_0 : Int) (a0_1 : Int) (A0_2 : Option Addr) (c0_2 : Nat) (l0_2 : List (S37)) (a1_0 : Int) (a1_1 : Int) (a1_2 : Int) (a1_3 : Int) (r : Bool) (w : World) (hr0_2 : Kd.C k37 w A0_2 l0_2.length l0_2) (hc0_2 : l0_2.length ≤ c0_2) (h : laws_FnExactAddWord.f k a0_0 a0_1 l0_2 a1_0 a1_1 a1_2 a1_3 = some r) :
  Calls Try.prog 6 #[.agg #[.int .i8 a0_0, .int .i8 a0_1, .slice A0_2 l0_2.length c0_2], .agg #[.int .i8 a1_0, .int .i8 a1_1, .int .i8 a1_2, .int .i8 a1_3]] w fun e w' => e = .returned (.bool r) ∧ Below w.heap.size w w' := by
 have hu25 := Try.underlying25
 have hu37 := Try.underlying37
 have hu30 := Try.underlying30
 have HR0_2 := Aside0.mk hr0_2
 have HC0_2 := Aside0.mk hc0_2
 clear hr0_2 hc0_2
 have HB := A_ (Below.refl w.heap.size w)
 have H : ((laws_szFixed.f a0_0 a0_1 l0_2 1048576).bind fun t209 => (if t209 < 0 then (some true) else ((laws_toFixed.f k a0_0 a0_1 l0_2).bind fun bt210 => ((laws_toWord.f k a1_0 a1_1 a1_2 a1_3).bind fun bt215 => ((spec_AddWord.f k bt210.1 bt210.2.1 bt210.2.2 bt215.1 bt215.2.1 bt215.2.2.1 bt215.2.2.2).bind fun bt219 => ((laws_toFixed.f k a0_0 a0_1 l0_2).bind fun bt226 => ((laws_toWord.f k a1_0 a1_1 a1_2 a1_3).bind fun bt232 => ((impl_AddWord.f k bt226.1 bt226.2.1 bt226.2.2 bt232.1 bt232.2.1 bt232.2.2.1 bt232.2.2.2).bind fun bt236 => ((laws_eqFixed.f k bt236.1 bt236.2.1 bt236.2.2.1 bt219.1 bt219.2.1 bt219.2.2.1).bind fun t243 => (if t243 = true then (laws_FnExactAddWord.j0 k bt219.2.2.2 bt236.2.2.2 (bt236.2.2.2 != bt219.2.2.2) a0_0 a0_1 l0_2 a1_0 a1_1 a1_2 a1_3 bt219.1 bt219.2.1 bt219.2.2.1 bt226.1 bt226.2.1 bt226.2.2 bt236.1 bt236.2.1 bt236.2.2.1) else (laws_FnExactAddWord.j0 k bt219.2.2.2 bt236.2.2.2 true a0_0 a0_1 l0_2 a1_0 a1_1 a1_2 a1_3 bt219.1 bt219.2.1 bt219.2.2.1 bt226.1 bt226.2.1 bt226.2.2 bt236.1 bt236.2.1 bt236.2.2.1))))))))))) = some r := h
 clear h
 replace H := Option.bind_eq_some_iff.mp H
 obtain ⟨t209, A30, H⟩ := H
 replace H : (if t209 < 0 then (some true) else ((laws_toFixed.f k a0_0 a0_1 l0_2).bind fun bt210 => ((laws_toWord.f k a1_0 a1_1 a1_2 a1_3).bind fun bt215 => ((spec_AddWord.f k bt210.1 bt210.2.1 bt210.2.2 bt215.1 bt215.2.1 bt215.2.2.1 bt215.2.2.2).bind fun bt219 => ((laws_toFixed.f k a0_0 a0_1 l0_2).bind fun bt226 => ((laws_toWord.f k a1_0 a1_1 a1_2 a1_3).bind fun bt232 => ((impl_AddWord.f k bt226.1 bt226.2.1 bt226.2.2 bt232.1 bt232.2.1 bt232.2.2.1 bt232.2.2.2).bind fun bt236 => ((laws_eqFixed.f k bt236.1 bt236.2.1 bt236.2.2.1 bt219.1 bt219.2.1 bt219.2.2.1).bind fun t243 => (if t243 = true then (laws_FnExactAddWord.j0 k bt219.2.2.2 bt236.2.2.2 (bt236.2.2.2 != bt219.2.2.2) a0_0 a0_1 l0_2 a1_0 a1_1 a1_2 a1_3 bt219.1 bt219.2.1 bt219.2.2.1 bt226.1 bt226.2.1 bt226.2.2 bt236.1 bt236.2.1 bt236.2.2.1) else (laws_FnExactAddWord.j0 k bt219.2.2.2 bt236.2.2.2 true a0_0 a0_1 l0_2 a1_0 a1_1 a1_2 a1_3 bt219.1 bt219.2.1 bt219.2.2.1 bt226.1 bt226.2.1 bt226.2.2 bt236.1 bt236.2.1 bt236.2.2.1)))))))))) = some r := H
 have A3 := Aside0.mk A30
 clear A30
 by_cases c4 : t209 < 0
 ·rw [if_pos c4] at H
  have c4b0 : decide (t209 < 0) = true := decide_eq_true c4
  clear c4
  obtain rfl := Option.some.inj H
  go_enter Try.func6, Try.ntmps6
  go_wp2_with (first | ((with_reducible refine gate_dst (N := 2) rfl ?_); refine box_event ?hg (N := 2) ?hd (cs := #[.int .i8 a0_0, .int .i8 a0_1, .slice A0_2 l0_2.length c0_2]) (t := 25) ?hr ?_; (case hd => rfl); (case hg => rfl); (case hr => first | (go_simp; done) | (go_simp; rfl)); intro gb207 hg w5 hbox hb; have n0_ := A_ (below_step (bl_ HB) hb); have n1_ := A_ (hbox); have n2_ := A_ ((by rw [hg]; exact (below_size (bl_ HB)) : w.heap.size ≤ gb207)); have n3_ := n2_; clear HB; have HB := n0_; have BK207 := n1_; have GW207 := n2_; have GE207 := n3_; clear n0_ n1_ n2_ n3_; clear hb hbox hg) | ((with_reducible refine gate_dst (N := 3) rfl ?_); refine box_event ?hg (N := 3) ?hd (cs := #[.int .i8 a1_0, .int .i8 a1_1, .int .i8 a1_2, .int .i8 a1_3]) (t := 37) ?hr ?_; (case hd => rfl); (case hg => rfl); (case hr => first | (go_simp; done) | (go_simp; rfl)); intro gb208 hg w6 hbox hb; have n0_ := A_ (blk_below (pl_ BK207) hb); have n1_ := A_ (below_step (bl_ HB) hb); have n2_ := A_ (hbox); have n3_ := A_ ((by rw [hg]; exact (below_size (bl_ HB)) : w.heap.size ≤ gb208)); have n4_ := n3_; have n5_ := A_ ((by rw [hg]; exact Nat.ne_of_lt (blk_lt (pl_ BK207)) : gb207 ≠ gb208)); have n6_ := Aside0.mk n5_.out.symm; clear BK207; clear HB; have BK207 := n0_; have HB := n1_; have BK208 := n2_; have GW208 := n3_; have GE208 := n4_; have NB207_208 := n5_; have NB208_207 := n6_; clear n0_ n1_ n2_ n3_ n4_ n5_ n6_; clear hb hbox hg; have hnb7 := NB207_208.out; have hnc7 := NB208_207.out; have hcz8_0 : w6.cell? ⟨gb207, 0, none⟩ = some (.int .i8 a0_0) := (blk_cell BK207.out 0).trans rfl; have hcz8_1 : w6.cell? ⟨gb207, 1, none⟩ = some (.int .i8 a0_1) := (blk_cell BK207.out 1).trans rfl; have hcz8_2 : w6.cell? ⟨gb207, 2, none⟩ = some (.slice A0_2 l0_2.length c0_2) := (blk_cell BK207.out 2).trans rfl; have hfz8_0 := blk_frozen BK207.out 0; have hfz8_1 := blk_frozen BK207.out 1; have hfz8_2 := blk_frozen BK207.out 2) | ((with_reducible refine gate_callee (f := 9) rfl ?_); refine goesL_ (some 18) rfl rfl Try.func9 (by kernel_rfl) rfl #[.agg #[.int .i8 a0_0, .int .i8 a0_1, .slice A0_2 l0_2.length c0_2], .int .i64 1048576] rfl arg_ ?_; (with_reducible refine (laws_szFixed.calls a0_0 a0_1 _ _ l0_2 1048576 t209 _ ?side1 ?side2 A3.out).mono ?_); (case side1 => repeat (first | exact (Kd.C_below HR0_2.out HB.out) | (with_reducible refine Kd.C_alloc ?_ _) | (with_reducible refine Kd.C_drewN ?_ _) | (with_reducible refine Kd.C_drew ?_))); (case side2 => exact HC0_2.out); rintro e w9 ⟨rfl, hb⟩; refine ⟨_, rfl, ?_⟩; have n0_ := A_ (blk_below (pl_ BK207) hb); have n1_ := A_ (blk_below (pl_ BK208) hb); have n2_ := A_ (below_step (bl_ HB) hb); clear BK207; clear BK208; clear HB; have BK207 := n0_; have BK208 := n1_; have HB := n2_; clear n0_ n1_ n2_; (try clear hb); (try clear hb2); (try clear hk); (try clear hi)))
  go_ret
  exact ⟨by first | rfl | (simp [errW_none, errW_some] <;> rfl) | (simp [*, errW_none, errW_some] <;> rfl), bl_ HB⟩
 ·rw [if_neg c4] at H
  have c4b0 : decide (t209 < 0) = false := decide_eq_false c4
  clear c4
  replace H := Option.bind_eq_some_iff.mp H
  obtain ⟨⟨t210, t211, t212⟩, A100, H⟩ := H
  replace H : ((laws_toWord.f k a1_0 a1_1 a1_2 a1_3).bind fun bt215 => ((spec_AddWord.f k t210 t211 t212 bt215.1 bt215.2.1 bt215.2.2.1 bt215.2.2.2).bind fun bt219 => ((laws_toFixed.f k a0_0 a0_1 l0_2).bind fun bt226 => ((laws_toWord.f k a1_0 a1_1 a1_2 a1_3).bind fun bt232 => ((impl_AddWord.f k bt226.1 bt226.2.1 bt226.2.2 bt232.1 bt232.2.1 bt232.2.2.1 bt232.2.2.2).bind fun bt236 => ((laws_eqFixed.f k bt236.1 bt236.2.1 bt236.2.2.1 bt219.1 bt219.2.1 bt219.2.2.1).bind fun t243 => (if t243 = true then (laws_FnExactAddWord.j0 k bt219.2.2.2 bt236.2.2.2 (bt236.2.2.2 != bt219.2.2.2) a0_0 a0_1 l0_2 a1_0 a1_1 a1_2 a1_3 bt219.1 bt219.2.1 bt219.2.2.1 bt226.1 bt226.2.1 bt226.2.2 bt236.1 bt236.2.1 bt236.2.2.1) else (laws_FnExactAddWord.j0 k bt219.2.2.2 bt236.2.2.2 true a0_0 a0_1 l0_2 a1_0 a1_1 a1_2 a1_3 bt219.1 bt219.2.1 bt219.2.2.1 bt226.1 bt226.2.1 bt226.2.2 bt236.1 bt236.2.1 bt236.2.2.1)))))))) = some r := H
  have A10 := Aside0.mk A100
  clear A100
  replace H := Option.bind_eq_some_iff.mp H
  obtain ⟨⟨t215, t216, t217, t218⟩, A110, H⟩ := H
  replace H : ((spec_AddWord.f k t210 t211 t212 t215 t216 t217 t218).bind fun bt219 => ((laws_toFixed.f k a0_0 a0_1 l0_2).bind fun bt226 => ((laws_toWord.f k a1_0 a1_1 a1_2 a1_3).bind fun bt232 => ((impl_AddWord.f k bt226.1 bt226.2.1 bt226.2.2 bt232.1 bt232.2.1 bt232.2.2.1 bt232.2.2.2).bind fun bt236 => ((laws_eqFixed.f k bt236.1 bt236.2.1 bt236.2.2.1 bt219.1 bt219.2.1 bt219.2.2.1).bind fun t243 => (if t243 = true then (laws_FnExactAddWord.j0 k bt219.2.2.2 bt236.2.2.2 (bt236.2.2.2 != bt219.2.2.2) a0_0 a0_1 l0_2 a1_0 a1_1 a1_2 a1_3 bt219.1 bt219.2.1 bt219.2.2.1 bt226.1 bt226.2.1 bt226.2.2 bt236.1 bt236.2.1 bt236.2.2.1) else (laws_FnExactAddWord.j0 k bt219.2.2.2 bt236.2.2.2 true a0_0 a0_1 l0_2 a1_0 a1_1 a1_2 a1_3 bt219.1 bt219.2.1 bt219.2.2.1 bt226.1 bt226.2.1 bt226.2.2 bt236.1 bt236.2.1 bt236.2.2.1))))))) = some r := H
  have A11 := Aside0.mk A110
  clear A110
  replace H := Option.bind_eq_some_iff.mp H
  obtain ⟨⟨t219, t220, t221, t224⟩, A120, H⟩ := H
  replace H : ((laws_toFixed.f k a0_0 a0_1 l0_2).bind fun bt226 => ((laws_toWord.f k a1_0 a1_1 a1_2 a1_3).bind fun bt232 => ((impl_AddWord.f k bt226.1 bt226.2.1 bt226.2.2 bt232.1 bt232.2.1 bt232.2.2.1 bt232.2.2.2).bind fun bt236 => ((laws_eqFixed.f k bt236.1 bt236.2.1 bt236.2.2.1 t219 t220 t221).bind fun t243 => (if t243 = true then (laws_FnExactAddWord.j0 k t224 bt236.2.2.2 (bt236.2.2.2 != t224) a0_0 a0_1 l0_2 a1_0 a1_1 a1_2 a1_3 t219 t220 t221 bt226.1 bt226.2.1 bt226.2.2 bt236.1 bt236.2.1 bt236.2.2.1) else (laws_FnExactAddWord.j0 k t224 bt236.2.2.2 true a0_0 a0_1 l0_2 a1_0 a1_1 a1_2 a1_3 t219 t220 t221 bt226.1 bt226.2.1 bt226.2.2 bt236.1 bt236.2.1 bt236.2.2.1)))))) = some r := H
  have A12 := Aside0.mk A120
  clear A120
  replace H := Option.bind_eq_some_iff.mp H
  obtain ⟨⟨t226, t227, t228⟩, A130, H⟩ := H
  replace H : ((laws_toWord.f k a1_0 a1_1 a1_2 a1_3).bind fun bt232 => ((impl_AddWord.f k t226 t227 t228 bt232.1 bt232.2.1 bt232.2.2.1 bt232.2.2.2).bind fun bt236 => ((laws_eqFixed.f k bt236.1 bt236.2.1 bt236.2.2.1 t219 t220 t221).bind fun t243 => (if t243 = true then (laws_FnExactAddWord.j0 k t224 bt236.2.2.2 (bt236.2.2.2 != t224) a0_0 a0_1 l0_2 a1_0 a1_1 a1_2 a1_3 t219 t220 t221 t226 t227 t228 bt236.1 bt236.2.1 bt236.2.2.1) else (laws_FnExactAddWord.j0 k t224 bt236.2.2.2 true a0_0 a0_1 l0_2 a1_0 a1_1 a1_2 a1_3 t219 t220 t221 t226 t227 t228 bt236.1 bt236.2.1 bt236.2.2.1))))) = some r := H
  have A13 := Aside0.mk A130
  clear A130
  replace H := Option.bind_eq_some_iff.mp H
  obtain ⟨⟨t232, t233, t234, t235⟩, A140, H⟩ := H
  replace H : ((impl_AddWord.f k t226 t227 t228 t232 t233 t234 t235).bind fun bt236 => ((laws_eqFixed.f k bt236.1 bt236.2.1 bt236.2.2.1 t219 t220 t221).bind fun t243 => (if t243 = true then (laws_FnExactAddWord.j0 k t224 bt236.2.2.2 (bt236.2.2.2 != t224) a0_0 a0_1 l0_2 a1_0 a1_1 a1_2 a1_3 t219 t220 t221 t226 t227 t228 bt236.1 bt236.2.1 bt236.2.2.1) else (laws_FnExactAddWord.j0 k t224 bt236.2.2.2 true a0_0 a0_1 l0_2 a1_0 a1_1 a1_2 a1_3 t219 t220 t221 t226 t227 t228 bt236.1 bt236.2.1 bt236.2.2.1)))) = some r := H
  have A14 := Aside0.mk A140
  clear A140
  replace H := Option.bind_eq_some_iff.mp H
  obtain ⟨⟨t236, t237, t238, t241⟩, A150, H⟩ := H
  replace H : ((laws_eqFixed.f k t236 t237 t238 t219 t220 t221).bind fun t243 => (if t243 = true then (laws_FnExactAddWord.j0 k t224 t241 (t241 != t224) a0_0 a0_1 l0_2 a1_0 a1_1 a1_2 a1_3 t219 t220 t221 t226 t227 t228 t236 t237 t238) else (laws_FnExactAddWord.j0 k t224 t241 true a0_0 a0_1 l0_2 a1_0 a1_1 a1_2 a1_3 t219 t220 t221 t226 t227 t228 t236 t237 t238))) = some r := H
  have A15 := Aside0.mk A150
  clear A150
  have HC16 := Aside0.mk H
  clear H
  go_enter Try.func6, Try.ntmps6
  try go_wp2_with (first | ((with_reducible refine gate_dst (N := 2) rfl ?_); refine box_event ?hg (N := 2) ?hd (cs := #[.int .i8 a0_0, .int .i8 a0_1, .slice A0_2 l0_2.length c0_2]) (t := 25) ?hr ?_; (case hd => rfl); (case hg => rfl); (case hr => first | (go_simp; done) | (go_simp; rfl)); intro gb207 hg w17 hbox hb; have n0_ := A_ (below_step (bl_ HB) hb); have n1_ := A_ (hbox); have n2_ := A_ ((by rw [hg]; exact (below_size (bl_ HB)) : w.heap.size ≤ gb207)); have n3_ := n2_; clear HB; have HB := n0_; have BK207 := n1_; have GW207 := n2_; have GE207 := n3_; clear n0_ n1_ n2_ n3_; clear hb hbox hg) | ((with_reducible refine gate_dst (N := 3) rfl ?_); refine box_event ?hg (N := 3) ?hd (cs := #[.int .i8 a1_0, .int .i8 a1_1, .int .i8 a1_2, .int .i8 a1_3]) (t := 37) ?hr ?_; (case hd => rfl); (case hg => rfl); (case hr => first | (go_simp; done) | (go_simp; rfl)); intro gb208 hg w18 hbox hb; have n0_ := A_ (blk_below (pl_ BK207) hb); have n1_ := A_ (below_step (bl_ HB) hb); have n2_ := A_ (hbox); have n3_ := A_ ((by rw [hg]; exact (below_size (bl_ HB)) : w.heap.size ≤ gb208)); have n4_ := n3_; have n5_ := A_ ((by rw [hg]; exact Nat.ne_of_lt (blk_lt (pl_ BK207)) : gb207 ≠ gb208)); have n6_ := Aside0.mk n5_.out.symm; clear BK207; clear HB; have BK207 := n0_; have HB := n1_; have BK208 := n2_; have GW208 := n3_; have GE208 := n4_; have NB207_208 := n5_; have NB208_207 := n6_; clear n0_ n1_ n2_ n3_ n4_ n5_ n6_; clear hb hbox hg; have hnb19 := NB207_208.out; have hnc19 := NB208_207.out; have hcz20_0 : w18.cell? ⟨gb207, 0, none⟩ = some (.int .i8 a0_0) := (blk_cell BK207.out 0).trans rfl; have hcz20_1 : w18.cell? ⟨gb207, 1, none⟩ = some (.int .i8 a0_1) := (blk_cell BK207.out 1).trans rfl; have hcz20_2 : w18.cell? ⟨gb207, 2, none⟩ = some (.slice A0_2 l0_2.length c0_2) := (blk_cell BK207.out 2).trans rfl; have hfz20_0 := blk_frozen BK207.out 0; have hfz20_1 := blk_frozen BK207.out 1; have hfz20_2 := blk_frozen BK207.out 2) | ((with_reducible refine gate_callee (f := 9) rfl ?_); refine goesL_ (some 18) rfl rfl Try.func9 (by kernel_rfl) rfl #[.agg #[.int .i8 a0_0, .int .i8 a0_1, .slice A0_2 l0_2.length c0_2], .int .i64 1048576] rfl arg_ ?_; (with_reducible refine (laws_szFixed.calls a0_0 a0_1 _ _ l0_2 1048576 t209 _ ?side1 ?side2 A3.out).mono ?_); (case side1 => repeat (first | exact (Kd.C_below HR0_2.out HB.out) | (with_reducible refine Kd.C_alloc ?_ _) | (with_reducible refine Kd.C_drewN ?_ _) | (with_reducible refine Kd.C_drew ?_))); (case side2 => exact HC0_2.out); rintro e w21 ⟨rfl, hb⟩; refine ⟨_, rfl, ?_⟩; have n0_ := A_ (blk_below (pl_ BK207) hb); have n1_ := A_ (blk_below (pl_ BK208) hb); have n2_ := A_ (below_step (bl_ HB) hb); clear BK207; clear BK208; clear HB; have BK207 := n0_; have BK208 := n1_; have HB := n2_; clear n0_ n1_ n2_; (try clear hb); (try clear hb2); (try clear hk); (try clear hi)))
  have n0_ := A_ (blk_drew BK207.out)
  have n1_ := A_ (blk_drew BK208.out)
  have n2_ := A_ (below_drew1 HB.out)
  clear BK207
  clear BK208
  clear HB
  have BK207 := n0_
  have BK208 := n1_
  have HB := n2_
  clear n0_ n1_ n2_
  refine start_ (n := 11) (S := fun w' => w'.cell? ⟨gb207, 0, none⟩ = some (.int .i8 a0_0) ∧ w'.cell? ⟨gb207, 1, none⟩ = some (.int .i8 a0_1) ∧ w'.cell? ⟨gb207, 2, none⟩ = some (.slice A0_2 l0_2.length c0_2) ∧ w'.cell? ⟨gb208, 0, none⟩ = some (.int .i8 a1_0) ∧ w'.cell? ⟨gb208, 1, none⟩ = some (.int .i8 a1_1) ∧ w'.cell? ⟨gb208, 2, none⟩ = some (.int .i8 a1_2) ∧ w'.cell? ⟨gb208, 3, none⟩ = some (.int .i8 a1_3)) (ds := []) #[false, false, false, false, false, false, false, false, false, false, false] (by kernel_rfl) rfl rfl ⟨(blk_cell BK207.out 0).trans rfl, (blk_cell BK207.out 1).trans rfl, (blk_cell BK207.out 2).trans rfl, (blk_cell BK208.out 0).trans rfl, (blk_cell BK208.out 1).trans rfl, (blk_cell BK208.out 2).trans rfl, (blk_cell BK208.out 3).trans rfl⟩ (fun hHeld => ?_); refine with_tabW laws_FnExactAddWord.tab5 laws_FnExactAddWord.bits5 (fun HT_ HW_ => ?_)
  generalize w21.drew = w22 at BK207 BK208 HB hHeld ⊢
  refine take_ (i := 0) (N := some 22) (v := ?_) (a' := ?_) #[true, false, false, false, false, false, false, false, false, false, false] rfl rfl (take_ofW HT_.out HW_.out (by kernel_rfl)) (fun _ _ _ h => h) (Or.inl ⟨by rfl, ?_⟩) hHeld ?_ ?_
  rotate_left
  ·rintro w' ⟨s0, s1, s2, s3, s4, s5, s6⟩
   go_simp
   with_reducible rfl
  rotate_left
  ·simp only [Act.put, List.setIfInBounds_toArray, List.set_cons_zero, List.set_cons_succ, i64_w, i32_w]
   rfl
  refine take_ (i := 2) (N := some 24) (v := ?_) (a' := ?_) #[true, false, true, false, false, false, false, false, false, false, false] rfl rfl (take_ofW HT_.out HW_.out (by kernel_rfl)) (fun _ _ _ h => h) (Or.inl ⟨by rfl, ?_⟩) hHeld ?_ ?_
  rotate_left
  ·rintro w' ⟨s0, s1, s2, s3, s4, s5, s6⟩
   go_simp
   with_reducible rfl
  rotate_left
  ·simp only [Act.put, List.setIfInBounds_toArray, List.set_cons_zero, List.set_cons_succ, i64_w, i32_w]
   rfl
  refine join_ (σ := Value × Value × Nat) 2 #[true, true, true, true, true, true, true, true, true, false, false] (fun s_ => [(23, .agg #[.int .i8 t210, .int .i8 t211, s_.1]), (25, .agg #[.int .i8 t215, .int .i8 t216, .int .i8 t217, .int .i8 t218]), (26, .tuple #[.agg #[.int .i8 t219, .int .i8 t220, s_.2.1], .int .i64 t224]), (6, .pointer (some ⟨s_.2.2, 0, none⟩)), (21, .tuple #[.agg #[.int .i8 t219, .int .i8 t220, s_.2.1], .int .i64 t224]), (27, .agg #[.int .i8 t219, .int .i8 t220, s_.2.1]), (28, .int .i64 t224)]) (fun s_ w' => (w'.cell? ⟨gb207, 0, none⟩ = some (.int .i8 a0_0) ∧ w'.cell? ⟨gb207, 1, none⟩ = some (.int .i8 a0_1) ∧ w'.cell? ⟨gb207, 2, none⟩ = some (.slice A0_2 l0_2.length c0_2) ∧ w'.cell? ⟨gb208, 0, none⟩ = some (.int .i8 a1_0) ∧ w'.cell? ⟨gb208, 1, none⟩ = some (.int .i8 a1_1) ∧ w'.cell? ⟨gb208, 2, none⟩ = some (.int .i8 a1_2) ∧ w'.cell? ⟨gb208, 3, none⟩ = some (.int .i8 a1_3)) ∧ (Kd.R k40 40 w' w.heap.size (fun k_ => some k_ ≠ (s_.2.1 : Value).ownBlock) s_.1 t212) ∧ (Kd.R k40 40 w' w.heap.size (fun k_ => some k_ ≠ (s_.1 : Value).ownBlock) s_.2.1 t221) ∧ (w'.heap[gb207]? = some (.cells #[.int .i8 a0_0, .int .i8 a0_1, .slice A0_2 l0_2.length c0_2] 25 (0, 0))) ∧ (w'.heap[gb208]? = some (.cells #[.int .i8 a1_0, .int .i8 a1_1, .int .i8 a1_2, .int .i8 a1_3] 37 (0, 0))) ∧ (w'.heap[s_.2.2]? = some (.cells #[.int .i8 0, .int .i8 0, .slice none 0 0] 30 (0, 0))) ∧ (w.heap.size ≤ s_.2.2) ∧ (w.heap.size ≤ s_.2.2) ∧ (gb207 ≠ s_.2.2) ∧ (s_.2.2 ≠ gb207) ∧ (gb208 ≠ s_.2.2) ∧ (s_.2.2 ≠ gb208) ∧ (Below w.heap.size w w')) ?_ ?_
  rotate_left
  ·intro hCont
   refine two_ (i := 1) (j := 8) (Ni := some 23) (Nj := some 6) #[true, true, true, false, false, false, false, false, false, false, false] #[true, false, true, false, false, false, false, false, true, false, false] rfl rfl rfl rfl (two_of HT_.out (by kernel_rfl)) (by decide) (by decide) (fun K hK => ?_) (fun K hK => ?_)
   ·skip
    refine goes_ Try.func11 (by kernel_rfl) rfl #[.agg #[.int .i8 a0_0, .int .i8 a0_1, .slice A0_2 l0_2.length c0_2]] (by rfl) rfl rfl arg_ ?_
    with_reducible refine (laws_toFixed.calls k a0_0 a0_1 _ _ l0_2 t210 t211 t212 _ ?side1 ?side2 A10.out).mono ?_
    (case side1 => repeat (first | exact (Kd.C_below HR0_2.out HB.out) | (with_reducible refine Kd.C_alloc ?_ _) | (with_reducible refine Kd.C_drewN ?_ _) | (with_reducible refine Kd.C_drew ?_)))
    (case side2 => exact HC0_2.out)
    rintro e w23 ⟨v213, rfl, ho0, hb⟩
    refine ⟨_, rfl, ?_⟩
    have n0_ := A_ (Kd.R_lower ho0 (below_size (bl_ HB)))
    have n1_ := A_ (blk_below (pl_ BK207) hb)
    have n2_ := A_ (blk_below (pl_ BK208) hb)
    have n3_ := A_ (below_step (bl_ HB) hb)
    clear BK207
    clear BK208
    clear HB
    have HO214 := n0_
    have BK207 := n1_
    have BK208 := n2_
    have HB := n3_
    clear n0_ n1_ n2_ n3_
    (try clear hb)
    (try clear hb2)
    (try clear hk)
    (try clear hi)
    (try clear ho0)
    refine hK.out _ _ ⟨(blk_cell BK207.out 0).trans rfl, (blk_cell BK207.out 1).trans rfl, (blk_cell BK207.out 2).trans rfl, (blk_cell BK208.out 0).trans rfl, (blk_cell BK208.out 1).trans rfl, (blk_cell BK208.out 2).trans rfl, (blk_cell BK208.out 3).trans rfl⟩ (fun hHeld => ?_)
    clear hK K
    refine norm_ (a' := ?_) ?_ ?_
    rotate_left
    ·show Act.put _ (some 23) _ = _
     simp only [Act.put, List.setIfInBounds_toArray, List.set_cons_zero, List.set_cons_succ, i64_w, i32_w]
     rfl
    refine two_ (i := 3) (j := 8) (Ni := some 25) (Nj := some 6) #[true, true, true, true, false, false, false, false, false, false, false] #[true, true, true, false, false, false, false, false, true, false, false] rfl rfl rfl rfl (two_of HT_.out (by kernel_rfl)) (by decide) (by decide) (fun K hK => ?_) (fun K hK => ?_)
    ·skip
     refine goes_ Try.func19 (by kernel_rfl) rfl #[.agg #[.int .i8 a1_0, .int .i8 a1_1, .int .i8 a1_2, .int .i8 a1_3]] (by rfl) rfl rfl arg_ ?_
     with_reducible refine (laws_toWord.calls k a1_0 a1_1 a1_2 a1_3 t215 t216 t217 t218 _ A11.out).mono ?_
     rintro e w24 ⟨rfl, hb⟩
     refine ⟨_, rfl, ?_⟩
     have n0_ := A_ (Kd.R_below (pr_ HO214) hb)
     have n1_ := A_ (blk_below (pl_ BK207) hb)
     have n2_ := A_ (blk_below (pl_ BK208) hb)
     have n3_ := A_ (below_step (bl_ HB) hb)
     clear HO214
     clear BK207
     clear BK208
     clear HB
     have HO214 := n0_
     have BK207 := n1_
     have BK208 := n2_
     have HB := n3_
     clear n0_ n1_ n2_ n3_
     (try clear hb)
     (try clear hb2)
     (try clear hk)
     (try clear hi)
     obtain ⟨Ao25, co25, eo25⟩ := Kd.R_slice HO214.out
     (first | subst eo25 | (injection eo25 with f1_ f2_ f3_; have f4_ := f1_.symm; have f5_ := f3_.symm; clear f1_ f2_ f3_; subst f4_; subst f5_))
     refine hK.out _ _ ⟨(blk_cell BK207.out 0).trans rfl, (blk_cell BK207.out 1).trans rfl, (blk_cell BK207.out 2).trans rfl, (blk_cell BK208.out 0).trans rfl, (blk_cell BK208.out 1).trans rfl, (blk_cell BK208.out 2).trans rfl, (blk_cell BK208.out 3).trans rfl⟩ (fun hHeld => ?_)
     clear hK K
     refine norm_ (a' := ?_) ?_ ?_
     rotate_left
     ·show Act.put _ (some 25) _ = _
      simp only [Act.put, List.setIfInBounds_toArray, List.set_cons_zero, List.set_cons_succ, i64_w, i32_w]
      rfl
     refine two_ (i := 4) (j := 8) (Ni := some 26) (Nj := some 6) #[true, true, true, true, true, false, false, false, false, false, false] #[true, true, true, true, false, false, false, false, true, false, false] rfl rfl rfl rfl (two_of HT_.out (by kernel_rfl)) (by decide) (by decide) (fun K hK => ?_) (fun K hK => ?_)
     ·skip
      refine goes_ Try.func18 (by kernel_rfl) rfl #[.agg #[.int .i8 t210, .int .i8 t211, .slice Ao25 t212.length co25], .agg #[.int .i8 t215, .int .i8 t216, .int .i8 t217, .int .i8 t218]] (by rfl) rfl rfl arg_ ?_
      with_reducible refine (spec_AddWord.calls k t210 t211 _ _ t212 t215 t216 t217 t218 t219 t220 t221 t224 _ ?side1 ?side2 A12.out).mono ?_
      (case side1 => repeat (first | exact (Kd.R_reads' HO214.out).2.2 | (with_reducible refine Kd.C_alloc ?_ _) | (with_reducible refine Kd.C_drewN ?_ _) | (with_reducible refine Kd.C_drew ?_)))
      (case side2 => exact (Kd.R_reads' HO214.out).2.1)
      rintro e w26 ⟨v222, rfl, ho0, hb⟩
      refine ⟨_, rfl, ?_⟩
      have n0_ := A_ (Kd.R_elder' (pr_ HO214) (Kd.R_base ho0) hb)
      have n1_ := A_ (Kd.R_lower (Kd.R_new' ho0 (Kd.R_lt (pr_ HO214))) (below_size (bl_ HB)))
      have n2_ := A_ (blk_below (pl_ BK207) hb)
      have n3_ := A_ (blk_below (pl_ BK208) hb)
      have n4_ := A_ (below_step (bl_ HB) hb)
      clear HO214
      clear BK207
      clear BK208
      clear HB
      have HO214 := n0_
      have HO223 := n1_
      have BK207 := n2_
      have BK208 := n3_
      have HB := n4_
      clear n0_ n1_ n2_ n3_ n4_
      (try clear hb)
      (try clear hb2)
      (try clear hk)
      (try clear hi)
      (try clear ho0)
      refine hK.out _ _ ⟨(blk_cell BK207.out 0).trans rfl, (blk_cell BK207.out 1).trans rfl, (blk_cell BK207.out 2).trans rfl, (blk_cell BK208.out 0).trans rfl, (blk_cell BK208.out 1).trans rfl, (blk_cell BK208.out 2).trans rfl, (blk_cell BK208.out 3).trans rfl⟩ (fun hHeld => ?_)
      clear hK K
      refine norm_ (a' := ?_) ?_ ?_
      rotate_left
      ·show Act.put _ (some 26) _ = _
       simp only [Act.put, List.setIfInBounds_toArray, List.set_cons_zero, List.set_cons_succ, i64_w, i32_w]
       rfl
      refine pure_ (i := 5) (N := some 21) (v := ?_) (a' := ?_) #[true, true, true, true, true, true, false, false, false, false, false] rfl rfl (any_of HT_.out (by kernel_rfl)) (fun _ _ _ h => h) (Or.inl ⟨by rfl, ?_⟩) ?_ ?_
      rotate_left
      ·intro w'
       go_simp
       with_reducible rfl
      rotate_left
      ·simp only [Act.put, List.setIfInBounds_toArray, List.set_cons_zero, List.set_cons_succ, i64_w, i32_w]
       rfl
      refine pure_ (i := 6) (N := some 27) (v := ?_) (a' := ?_) #[true, true, true, true, true, true, true, false, false, false, false] rfl rfl (any_of HT_.out (by kernel_rfl)) (fun _ _ _ h => h) (Or.inl ⟨by rfl, ?_⟩) ?_ ?_
      rotate_left
      ·intro w'
       go_simp
       with_reducible rfl
      rotate_left
      ·simp only [Act.put, List.setIfInBounds_toArray, List.set_cons_zero, List.set_cons_succ, i64_w, i32_w]
       rfl
      refine pure_ (i := 7) (N := some 28) (v := ?_) (a' := ?_) #[true, true, true, true, true, true, true, true, false, false, false] rfl rfl (any_of HT_.out (by kernel_rfl)) (fun _ _ _ h => h) (Or.inl ⟨by rfl, ?_⟩) ?_ ?_
      rotate_left
      ·intro w'
       go_simp
       with_reducible rfl
      rotate_left
      ·simp only [Act.put, List.setIfInBounds_toArray, List.set_cons_zero, List.set_cons_succ, i64_w, i32_w]
       rfl
      refine one_ (i := 8) (N := some 6) #[true, true, true, true, true, true, true, true, true, false, false] rfl rfl (one_of HT_.out (by kernel_rfl)) (by decide) (fun K hK => ?_)
      refine box_step ?hg (N := 6) ?hd (cs := #[.int .i8 0, .int .i8 0, .slice none 0 0]) (t := 30) ?hr ?_; (case hd => rfl); (case hg => rfl); (case hr => first | (go_simp; done) | (go_simp; rfl))
      intro gb225 hg w27 hbox hb
      have n0_ := A_ (Kd.R_below (pr_ HO214) hb)
      have n1_ := A_ (Kd.R_below (pr_ HO223) hb)
      have n2_ := A_ (blk_below (pl_ BK207) hb)
      have n3_ := A_ (blk_below (pl_ BK208) hb)
      have n4_ := A_ (below_step (bl_ HB) hb)
      have n5_ := A_ (hbox)
      have n6_ := A_ ((by rw [hg]; exact (below_size (bl_ HB)) : w.heap.size ≤ gb225))
      have n7_ := n6_
      have n8_ := A_ ((by rw [hg]; exact Nat.ne_of_lt (blk_lt (pl_ BK207)) : gb207 ≠ gb225))
      have n9_ := Aside0.mk n8_.out.symm
      have n10_ := A_ ((by rw [hg]; exact Nat.ne_of_lt (blk_lt (pl_ BK208)) : gb208 ≠ gb225))
      have n11_ := Aside0.mk n10_.out.symm
      clear HO214
      clear HO223
      clear BK207
      clear BK208
      clear HB
      have HO214 := n0_
      have HO223 := n1_
      have BK207 := n2_
      have BK208 := n3_
      have HB := n4_
      have BK225 := n5_
      have GW225 := n6_
      have GE225 := n7_
      have NB207_225 := n8_
      have NB225_207 := n9_
      have NB208_225 := n10_
      have NB225_208 := n11_
      clear n0_ n1_ n2_ n3_ n4_ n5_ n6_ n7_ n8_ n9_ n10_ n11_
      clear hb hbox hg
      refine hK.out _ _ ⟨(blk_cell BK207.out 0).trans rfl, (blk_cell BK207.out 1).trans rfl, (blk_cell BK207.out 2).trans rfl, (blk_cell BK208.out 0).trans rfl, (blk_cell BK208.out 1).trans rfl, (blk_cell BK208.out 2).trans rfl, (blk_cell BK208.out 3).trans rfl⟩ (fun hHeld => ?_)
      clear hK K
      refine norm_ (a' := ?_) ?_ ?_
      rotate_left
      ·show Act.put _ (some 6) _ = _
       simp only [Act.put, List.setIfInBounds_toArray, List.set_cons_zero, List.set_cons_succ, i64_w, i32_w]
       rfl
      exact norm_ pa_ (hCont (.slice Ao25 t212.length co25, v222, gb225) _ ⟨hHeld, (by (with_reducible repeat (first | apply Kd.R_alloc | apply Kd.R_drewN | apply Kd.R_drew)); exact Kd.R_mono HO214.out (fun _ hk => hk.2)), (by (with_reducible repeat (first | apply Kd.R_alloc | apply Kd.R_drewN | apply Kd.R_drew)); exact Kd.R_mono HO223.out (fun _ hk => hk.2)), (pl_ BK207), (pl_ BK208), (pl_ BK225), GW225.out, GE225.out, NB207_225.out, NB225_207.out, NB208_225.out, NB225_208.out, (bl_ HB)⟩)
     ·skip
      refine box_step ?hg (N := 6) ?hd (cs := #[.int .i8 0, .int .i8 0, .slice none 0 0]) (t := 30) ?hr ?_; (case hd => rfl); (case hg => rfl); (case hr => first | (go_simp; done) | (go_simp; rfl))
      intro gb225 hg w25 hbox hb
      have n0_ := A_ (Kd.R_below (pr_ HO214) hb)
      have n1_ := A_ (blk_below (pl_ BK207) hb)
      have n2_ := A_ (blk_below (pl_ BK208) hb)
      have n3_ := A_ (below_step (bl_ HB) hb)
      have n4_ := A_ (hbox)
      have n5_ := A_ ((by rw [hg]; exact (below_size (bl_ HB)) : w.heap.size ≤ gb225))
      have n6_ := n5_
      have n7_ := A_ ((by rw [hg]; exact Nat.ne_of_lt (blk_lt (pl_ BK207)) : gb207 ≠ gb225))
      have n8_ := Aside0.mk n7_.out.symm
      have n9_ := A_ ((by rw [hg]; exact Nat.ne_of_lt (blk_lt (pl_ BK208)) : gb208 ≠ gb225))
      have n10_ := Aside0.mk n9_.out.symm
      clear HO214
      clear BK207
      clear BK208
      clear HB
      have HO214 := n0_
      have BK207 := n1_
      have BK208 := n2_
      have HB := n3_
      have BK225 := n4_
      have GW225 := n5_
      have GE225 := n6_
      have NB207_225 := n7_
      have NB225_207 := n8_
      have NB208_225 := n9_
      have NB225_208 := n10_
      clear n0_ n1_ n2_ n3_ n4_ n5_ n6_ n7_ n8_ n9_ n10_
      clear hb hbox hg
      obtain ⟨Ao26, co26, eo26⟩ := Kd.R_slice HO214.out
      (first | subst eo26 | (injection eo26 with f1_ f2_ f3_; have f4_ := f1_.symm; have f5_ := f3_.symm; clear f1_ f2_ f3_; subst f4_; subst f5_))
      refine hK.out _ _ ⟨(blk_cell BK207.out 0).trans rfl, (blk_cell BK207.out 1).trans rfl, (blk_cell BK207.out 2).trans rfl, (blk_cell BK208.out 0).trans rfl, (blk_cell BK208.out 1).trans rfl, (blk_cell BK208.out 2).trans rfl, (blk_cell BK208.out 3).trans rfl⟩ (fun hHeld => ?_)
      clear hK K
      refine norm_ (a' := ?_) ?_ ?_
      rotate_left
      ·show Act.put _ (some 6) _ = _
       simp only [Act.put, List.setIfInBounds_toArray, List.set_cons_zero, List.set_cons_succ, i64_w, i32_w]
       rfl
      refine one_ (i := 4) (N := some 26) #[true, true, true, true, true, false, false, false, true, false, false] rfl rfl (one_of HT_.out (by kernel_rfl)) (by decide) (fun K hK => ?_)
      refine goes_ Try.func18 (by kernel_rfl) rfl #[.agg #[.int .i8 t210, .int .i8 t211, .slice Ao26 t212.length co26], .agg #[.int .i8 t215, .int .i8 t216, .int .i8 t217, .int .i8 t218]] (by rfl) rfl rfl arg_ ?_
      with_reducible refine (spec_AddWord.calls k t210 t211 _ _ t212 t215 t216 t217 t218 t219 t220 t221 t224 _ ?side1 ?side2 A12.out).mono ?_
      (case side1 => repeat (first | exact (Kd.R_reads' HO214.out).2.2 | (with_reducible refine Kd.C_alloc ?_ _) | (with_reducible refine Kd.C_drewN ?_ _) | (with_reducible refine Kd.C_drew ?_)))
      (case side2 => exact (Kd.R_reads' HO214.out).2.1)
      rintro e w27 ⟨v222, rfl, ho0, hb⟩
      refine ⟨_, rfl, ?_⟩
      have n0_ := A_ (Kd.R_elder' (pr_ HO214) (Kd.R_base ho0) hb)
      have n1_ := A_ (Kd.R_lower (Kd.R_new' ho0 (Kd.R_lt (pr_ HO214))) (below_size (bl_ HB)))
      have n2_ := A_ (blk_below (pl_ BK207) hb)
      have n3_ := A_ (blk_below (pl_ BK208) hb)
      have n4_ := A_ (blk_below (pl_ BK225) hb)
      have n5_ := A_ (below_step (bl_ HB) hb)
      clear HO214
      clear BK207
      clear BK208
      clear BK225
      clear HB
      have HO214 := n0_
      have HO223 := n1_
      have BK207 := n2_
      have BK208 := n3_
      have BK225 := n4_
      have HB := n5_
      clear n0_ n1_ n2_ n3_ n4_ n5_
      (try clear hb)
      (try clear hb2)
      (try clear hk)
      (try clear hi)
      (try clear ho0)
      refine hK.out _ _ ⟨(blk_cell BK207.out 0).trans rfl, (blk_cell BK207.out 1).trans rfl, (blk_cell BK207.out 2).trans rfl, (blk_cell BK208.out 0).trans rfl, (blk_cell BK208.out 1).trans rfl, (blk_cell BK208.out 2).trans rfl, (blk_cell BK208.out 3).trans rfl⟩ (fun hHeld => ?_)
      clear hK K
      refine norm_ (a' := ?_) ?_ ?_
      rotate_left
      ·show Act.put _ (some 26) _ = _
       simp only [Act.put, List.setIfInBounds_toArray, List.set_cons_zero, List.set_cons_succ, i64_w, i32_w]
       rfl
      refine pure_ (i := 5) (N := some 21) (v := ?_) (a' := ?_) #[true, true, true, true, true, true, false, false, true, false, false] rfl rfl (any_of HT_.out (by kernel_rfl)) (fun _ _ _ h => h) (Or.inl ⟨by rfl, ?_⟩) ?_ ?_
      rotate_left
      ·intro w'
       go_simp
       with_reducible rfl
      rotate_left
      ·simp only [Act.put, List.setIfInBounds_toArray, List.set_cons_zero, List.set_cons_succ, i64_w, i32_w]
       rfl
      refine pure_ (i := 6) (N := some 27) (v := ?_) (a' := ?_) #[true, true, true, true, true, true, true, false, true, false, false] rfl rfl (any_of HT_.out (by kernel_rfl)) (fun _ _ _ h => h) (Or.inl ⟨by rfl, ?_⟩) ?_ ?_
      rotate_left
      ·intro w'
       go_simp
       with_reducible rfl
      rotate_left
      ·simp only [Act.put, List.setIfInBounds_toArray, List.set_cons_zero, List.set_cons_succ, i64_w, i32_w]
       rfl
      refine pure_ (i := 7) (N := some 28) (v := ?_) (a' := ?_) #[true, true, true, true, true, true, true, true, true, false, false] rfl rfl (any_of HT_.out (by kernel_rfl)) (fun _ _ _ h => h) (Or.inl ⟨by rfl, ?_⟩) ?_ ?_
      rotate_left
      ·intro w'
       go_simp
       with_reducible rfl
      rotate_left
      ·simp only [Act.put, List.setIfInBounds_toArray, List.set_cons_zero, List.set_cons_succ, i64_w, i32_w]
       rfl
      exact norm_ pa_ (hCont (.slice Ao26 t212.length co26, v222, gb225) _ ⟨hHeld, (by (with_reducible repeat (first | apply Kd.R_alloc | apply Kd.R_drewN | apply Kd.R_drew)); exact Kd.R_mono HO214.out (fun _ hk => hk.2)), (by (with_reducible repeat (first | apply Kd.R_alloc | apply Kd.R_drewN | apply Kd.R_drew)); exact Kd.R_mono HO223.out (fun _ hk => hk.2)), (pl_ BK207), (pl_ BK208), (pl_ BK225), GW225.out, GE225.out, NB207_225.out, NB225_207.out, NB208_225.out, NB225_208.out, (bl_ HB)⟩)
    ·skip
     refine box_step ?hg (N := 6) ?hd (cs := #[.int .i8 0, .int .i8 0, .slice none 0 0]) (t := 30) ?hr ?_; (case hd => rfl); (case hg => rfl); (case hr => first | (go_simp; done) | (go_simp; rfl))
     intro gb225 hg w24 hbox hb
     have n0_ := A_ (Kd.R_below (pr_ HO214) hb)
     have n1_ := A_ (blk_below (pl_ BK207) hb)
     have n2_ := A_ (blk_below (pl_ BK208) hb)
     have n3_ := A_ (below_step (bl_ HB) hb)
     have n4_ := A_ (hbox)
     have n5_ := A_ ((by rw [hg]; exact (below_size (bl_ HB)) : w.heap.size ≤ gb225))
     have n6_ := n5_
     have n7_ := A_ ((by rw [hg]; exact Nat.ne_of_lt (blk_lt (pl_ BK207)) : gb207 ≠ gb225))
     have n8_ := Aside0.mk n7_.out.symm
     have n9_ := A_ ((by rw [hg]; exact Nat.ne_of_lt (blk_lt (pl_ BK208)) : gb208 ≠ gb225))
     have n10_ := Aside0.mk n9_.out.symm
     clear HO214
     clear BK207
     clear BK208
     clear HB
     have HO214 := n0_
     have BK207 := n1_
     have BK208 := n2_
     have HB := n3_
     have BK225 := n4_
     have GW225 := n5_
     have GE225 := n6_
     have NB207_225 := n7_
     have NB225_207 := n8_
     have NB208_225 := n9_
     have NB225_208 := n10_
     clear n0_ n1_ n2_ n3_ n4_ n5_ n6_ n7_ n8_ n9_ n10_
     clear hb hbox hg
     refine hK.out _ _ ⟨(blk_cell BK207.out 0).trans rfl, (blk_cell BK207.out 1).trans rfl, (blk_cell BK207.out 2).trans rfl, (blk_cell BK208.out 0).trans rfl, (blk_cell BK208.out 1).trans rfl, (blk_cell BK208.out 2).trans rfl, (blk_cell BK208.out 3).trans rfl⟩ (fun hHeld => ?_)
     clear hK K
     refine norm_ (a' := ?_) ?_ ?_
     rotate_left
     ·show Act.put _ (some 6) _ = _
      simp only [Act.put, List.setIfInBounds_toArray, List.set_cons_zero, List.set_cons_succ, i64_w, i32_w]
      rfl
     refine one_ (i := 3) (N := some 25) #[true, true, true, true, false, false, false, false, true, false, false] rfl rfl (one_of HT_.out (by kernel_rfl)) (by decide) (fun K hK => ?_)
     refine goes_ Try.func19 (by kernel_rfl) rfl #[.agg #[.int .i8 a1_0, .int .i8 a1_1, .int .i8 a1_2, .int .i8 a1_3]] (by rfl) rfl rfl arg_ ?_
     with_reducible refine (laws_toWord.calls k a1_0 a1_1 a1_2 a1_3 t215 t216 t217 t218 _ A11.out).mono ?_
     rintro e w25 ⟨rfl, hb⟩
     refine ⟨_, rfl, ?_⟩
     have n0_ := A_ (Kd.R_below (pr_ HO214) hb)
     have n1_ := A_ (blk_below (pl_ BK207) hb)
     have n2_ := A_ (blk_below (pl_ BK208) hb)
     have n3_ := A_ (blk_below (pl_ BK225) hb)
     have n4_ := A_ (below_step (bl_ HB) hb)
     clear HO214
     clear BK207
     clear BK208
     clear BK225
     clear HB
     have HO214 := n0_
     have BK207 := n1_
     have BK208 := n2_
     have BK225 := n3_
     have HB := n4_
     clear n0_ n1_ n2_ n3_ n4_
     (try clear hb)
     (try clear hb2)
     (try clear hk)
     (try clear hi)
     obtain ⟨Ao26, co26, eo26⟩ := Kd.R_slice HO214.out
     (first | subst eo26 | (injection eo26 with f1_ f2_ f3_; have f4_ := f1_.symm; have f5_ := f3_.symm; clear f1_ f2_ f3_; subst f4_; subst f5_))
     refine hK.out _ _ ⟨(blk_cell BK207.out 0).trans rfl, (blk_cell BK207.out 1).trans rfl, (blk_cell BK207.out 2).trans rfl, (blk_cell BK208.out 0).trans rfl, (blk_cell BK208.out 1).trans rfl, (blk_cell BK208.out 2).trans rfl, (blk_cell BK208.out 3).trans rfl⟩ (fun hHeld => ?_)
     clear hK K
     refine norm_ (a' := ?_) ?_ ?_
     rotate_left
     ·show Act.put _ (some 25) _ = _
      simp only [Act.put, List.setIfInBounds_toArray, List.set_cons_zero, List.set_cons_succ, i64_w, i32_w]
      rfl
     refine one_ (i := 4) (N := some 26) #[true, true, true, true, true, false, false, false, true, false, false] rfl rfl (one_of HT_.out (by kernel_rfl)) (by decide) (fun K hK => ?_)
     refine goes_ Try.func18 (by kernel_rfl) rfl #[.agg #[.int .i8 t210, .int .i8 t211, .slice Ao26 t212.length co26], .agg #[.int .i8 t215, .int .i8 t216, .int .i8 t217, .int .i8 t218]] (by rfl) rfl rfl arg_ ?_
     with_reducible refine (spec_AddWord.calls k t210 t211 _ _ t212 t215 t216 t217 t218 t219 t220 t221 t224 _ ?side1 ?side2 A12.out).mono ?_
     (case side1 => repeat (first | exact (Kd.R_reads' HO214.out).2.2 | (with_reducible refine Kd.C_alloc ?_ _) | (with_reducible refine Kd.C_drewN ?_ _) | (with_reducible refine Kd.C_drew ?_)))
     (case side2 => exact (Kd.R_reads' HO214.out).2.1)
     rintro e w27 ⟨v222, rfl, ho0, hb⟩
     refine ⟨_, rfl, ?_⟩
     have n0_ := A_ (Kd.R_elder' (pr_ HO214) (Kd.R_base ho0) hb)
     have n1_ := A_ (Kd.R_lower (Kd.R_new' ho0 (Kd.R_lt (pr_ HO214))) (below_size (bl_ HB)))
     have n2_ := A_ (blk_below (pl_ BK207) hb)
     have n3_ := A_ (blk_below (pl_ BK208) hb)
     have n4_ := A_ (blk_below (pl_ BK225) hb)
     have n5_ := A_ (below_step (bl_ HB) hb)
     clear HO214
     clear BK207
     clear BK208
     clear BK225
     clear HB
     have HO214 := n0_
     have HO223 := n1_
     have BK207 := n2_
     have BK208 := n3_
     have BK225 := n4_
     have HB := n5_
     clear n0_ n1_ n2_ n3_ n4_ n5_
     (try clear hb)
     (try clear hb2)
     (try clear hk)
     (try clear hi)
     (try clear ho0)
     refine hK.out _ _ ⟨(blk_cell BK207.out 0).trans rfl, (blk_cell BK207.out 1).trans rfl, (blk_cell BK207.out 2).trans rfl, (blk_cell BK208.out 0).trans rfl, (blk_cell BK208.out 1).trans rfl, (blk_cell BK208.out 2).trans rfl, (blk_cell BK208.out 3).trans rfl⟩ (fun hHeld => ?_)
     clear hK K
     refine norm_ (a' := ?_) ?_ ?_
     rotate_left
     ·show Act.put _ (some 26) _ = _
      simp only [Act.put, List.setIfInBounds_toArray, List.set_cons_zero, List.set_cons_succ, i64_w, i32_w]
      rfl
     refine pure_ (i := 5) (N := some 21) (v := ?_) (a' := ?_) #[true, true, true, true, true, true, false, false, true, false, false] rfl rfl (any_of HT_.out (by kernel_rfl)) (fun _ _ _ h => h) (Or.inl ⟨by rfl, ?_⟩) ?_ ?_
     rotate_left
     ·intro w'
      go_simp
      with_reducible rfl
     rotate_left
     ·simp only [Act.put, List.setIfInBounds_toArray, List.set_cons_zero, List.set_cons_succ, i64_w, i32_w]
      rfl
     refine pure_ (i := 6) (N := some 27) (v := ?_) (a' := ?_) #[true, true, true, true, true, true, true, false, true, false, false] rfl rfl (any_of HT_.out (by kernel_rfl)) (fun _ _ _ h => h) (Or.inl ⟨by rfl, ?_⟩) ?_ ?_
     rotate_left
     ·intro w'
      go_simp
      with_reducible rfl
     rotate_left
     ·simp only [Act.put, List.setIfInBounds_toArray, List.set_cons_zero, List.set_cons_succ, i64_w, i32_w]
      rfl
     refine pure_ (i := 7) (N := some 28) (v := ?_) (a' := ?_) #[true, true, true, true, true, true, true, true, true, false, false] rfl rfl (any_of HT_.out (by kernel_rfl)) (fun _ _ _ h => h) (Or.inl ⟨by rfl, ?_⟩) ?_ ?_
     rotate_left
     ·intro w'
      go_simp
      with_reducible rfl
     rotate_left
     ·simp only [Act.put, List.setIfInBounds_toArray, List.set_cons_zero, List.set_cons_succ, i64_w, i32_w]
      rfl
     exact norm_ pa_ (hCont (.slice Ao26 t212.length co26, v222, gb225) _ ⟨hHeld, (by (with_reducible repeat (first | apply Kd.R_alloc | apply Kd.R_drewN | apply Kd.R_drew)); exact Kd.R_mono HO214.out (fun _ hk => hk.2)), (by (with_reducible repeat (first | apply Kd.R_alloc | apply Kd.R_drewN | apply Kd.R_drew)); exact Kd.R_mono HO223.out (fun _ hk => hk.2)), (pl_ BK207), (pl_ BK208), (pl_ BK225), GW225.out, GE225.out, NB207_225.out, NB225_207.out, NB208_225.out, NB225_208.out, (bl_ HB)⟩)
   ·skip
    refine box_step ?hg (N := 6) ?hd (cs := #[.int .i8 0, .int .i8 0, .slice none 0 0]) (t := 30) ?hr ?_; (case hd => rfl); (case hg => rfl); (case hr => first | (go_simp; done) | (go_simp; rfl))
    intro gb225 hg w23 hbox hb
    have n0_ := A_ (blk_below (pl_ BK207) hb)
    have n1_ := A_ (blk_below (pl_ BK208) hb)
    have n2_ := A_ (below_step (bl_ HB) hb)
    have n3_ := A_ (hbox)
    have n4_ := A_ ((by rw [hg]; exact (below_size (bl_ HB)) : w.heap.size ≤ gb225))
    have n5_ := n4_
    have n6_ := A_ ((by rw [hg]; exact Nat.ne_of_lt (blk_lt (pl_ BK207)) : gb207 ≠ gb225))
    have n7_ := Aside0.mk n6_.out.symm
    have n8_ := A_ ((by rw [hg]; exact Nat.ne_of_lt (blk_lt (pl_ BK208)) : gb208 ≠ gb225))
    have n9_ := Aside0.mk n8_.out.symm
    clear BK207
    clear BK208
    clear HB
    have BK207 := n0_
    have BK208 := n1_
    have HB := n2_
    have BK225 := n3_
    have GW225 := n4_
    have GE225 := n5_
    have NB207_225 := n6_
    have NB225_207 := n7_
    have NB208_225 := n8_
    have NB225_208 := n9_
    clear n0_ n1_ n2_ n3_ n4_ n5_ n6_ n7_ n8_ n9_
    clear hb hbox hg
    refine hK.out _ _ ⟨(blk_cell BK207.out 0).trans rfl, (blk_cell BK207.out 1).trans rfl, (blk_cell BK207.out 2).trans rfl, (blk_cell BK208.out 0).trans rfl, (blk_cell BK208.out 1).trans rfl, (blk_cell BK208.out 2).trans rfl, (blk_cell BK208.out 3).trans rfl⟩ (fun hHeld => ?_)
    clear hK K
    refine norm_ (a' := ?_) ?_ ?_
    rotate_left
    ·show Act.put _ (some 6) _ = _
     simp only [Act.put, List.setIfInBounds_toArray, List.set_cons_zero, List.set_cons_succ, i64_w, i32_w]
     rfl
    refine one_ (i := 1) (N := some 23) #[true, true, true, false, false, false, false, false, true, false, false] rfl rfl (one_of HT_.out (by kernel_rfl)) (by decide) (fun K hK => ?_)
    refine goes_ Try.func11 (by kernel_rfl) rfl #[.agg #[.int .i8 a0_0, .int .i8 a0_1, .slice A0_2 l0_2.length c0_2]] (by rfl) rfl rfl arg_ ?_
    with_reducible refine (laws_toFixed.calls k a0_0 a0_1 _ _ l0_2 t210 t211 t212 _ ?side1 ?side2 A10.out).mono ?_
    (case side1 => repeat (first | exact (Kd.C_below HR0_2.out HB.out) | (with_reducible refine Kd.C_alloc ?_ _) | (with_reducible refine Kd.C_drewN ?_ _) | (with_reducible refine Kd.C_drew ?_)))
    (case side2 => exact HC0_2.out)
    rintro e w24 ⟨v213, rfl, ho0, hb⟩
    refine ⟨_, rfl, ?_⟩
    have n0_ := A_ (Kd.R_lower ho0 (below_size (bl_ HB)))
    have n1_ := A_ (blk_below (pl_ BK207) hb)
    have n2_ := A_ (blk_below (pl_ BK208) hb)
    have n3_ := A_ (blk_below (pl_ BK225) hb)
    have n4_ := A_ (below_step (bl_ HB) hb)
    clear BK207
    clear BK208
    clear BK225
    clear HB
    have HO214 := n0_
    have BK207 := n1_
    have BK208 := n2_
    have BK225 := n3_
    have HB := n4_
    clear n0_ n1_ n2_ n3_ n4_
    (try clear hb)
    (try clear hb2)
    (try clear hk)
    (try clear hi)
    (try clear ho0)
    refine hK.out _ _ ⟨(blk_cell BK207.out 0).trans rfl, (blk_cell BK207.out 1).trans rfl, (blk_cell BK207.out 2).trans rfl, (blk_cell BK208.out 0).trans rfl, (blk_cell BK208.out 1).trans rfl, (blk_cell BK208.out 2).trans rfl, (blk_cell BK208.out 3).trans rfl⟩ (fun hHeld => ?_)
    clear hK K
    refine norm_ (a' := ?_) ?_ ?_
    rotate_left
    ·show Act.put _ (some 23) _ = _
     simp only [Act.put, List.setIfInBounds_toArray, List.set_cons_zero, List.set_cons_succ, i64_w, i32_w]
     rfl
    refine one_ (i := 3) (N := some 25) #[true, true, true, true, false, false, false, false, true, false, false] rfl rfl (one_of HT_.out (by kernel_rfl)) (by decide) (fun K hK => ?_)
    refine goes_ Try.func19 (by kernel_rfl) rfl #[.agg #[.int .i8 a1_0, .int .i8 a1_1, .int .i8 a1_2, .int .i8 a1_3]] (by rfl) rfl rfl arg_ ?_
    with_reducible refine (laws_toWord.calls k a1_0 a1_1 a1_2 a1_3 t215 t216 t217 t218 _ A11.out).mono ?_
    rintro e w25 ⟨rfl, hb⟩
    refine ⟨_, rfl, ?_⟩
    have n0_ := A_ (Kd.R_below (pr_ HO214) hb)
    have n1_ := A_ (blk_below (pl_ BK207) hb)
    have n2_ := A_ (blk_below (pl_ BK208) hb)
    have n3_ := A_ (blk_below (pl_ BK225) hb)
    have n4_ := A_ (below_step (bl_ HB) hb)
    clear HO214
    clear BK207
    clear BK208
    clear BK225
    clear HB
    have HO214 := n0_
    have BK207 := n1_
    have BK208 := n2_
    have BK225 := n3_
    have HB := n4_
    clear n0_ n1_ n2_ n3_ n4_
    (try clear hb)
    (try clear hb2)
    (try clear hk)
    (try clear hi)
    obtain ⟨Ao26, co26, eo26⟩ := Kd.R_slice HO214.out
    (first | subst eo26 | (injection eo26 with f1_ f2_ f3_; have f4_ := f1_.symm; have f5_ := f3_.symm; clear f1_ f2_ f3_; subst f4_; subst f5_))
    refine hK.out _ _ ⟨(blk_cell BK207.out 0).trans rfl, (blk_cell BK207.out 1).trans rfl, (blk_cell BK207.out 2).trans rfl, (blk_cell BK208.out 0).trans rfl, (blk_cell BK208.out 1).trans rfl, (blk_cell BK208.out 2).trans rfl, (blk_cell BK208.out 3).trans rfl⟩ (fun hHeld => ?_)
    clear hK K
    refine norm_ (a' := ?_) ?_ ?_
    rotate_left
    ·show Act.put _ (some 25) _ = _
     simp only [Act.put, List.setIfInBounds_toArray, List.set_cons_zero, List.set_cons_succ, i64_w, i32_w]
     rfl
    refine one_ (i := 4) (N := some 26) #[true, true, true, true, true, false, false, false, true, false, false] rfl rfl (one_of HT_.out (by kernel_rfl)) (by decide) (fun K hK => ?_)
    refine goes_ Try.func18 (by kernel_rfl) rfl #[.agg #[.int .i8 t210, .int .i8 t211, .slice Ao26 t212.length co26], .agg #[.int .i8 t215, .int .i8 t216, .int .i8 t217, .int .i8 t218]] (by rfl) rfl rfl arg_ ?_
    with_reducible refine (spec_AddWord.calls k t210 t211 _ _ t212 t215 t216 t217 t218 t219 t220 t221 t224 _ ?side1 ?side2 A12.out).mono ?_
    (case side1 => repeat (first | exact (Kd.R_reads' HO214.out).2.2 | (with_reducible refine Kd.C_alloc ?_ _) | (with_reducible refine Kd.C_drewN ?_ _) | (with_reducible refine Kd.C_drew ?_)))
    (case side2 => exact (Kd.R_reads' HO214.out).2.1)
    rintro e w27 ⟨v222, rfl, ho0, hb⟩
    refine ⟨_, rfl, ?_⟩
    have n0_ := A_ (Kd.R_elder' (pr_ HO214) (Kd.R_base ho0) hb)
    have n1_ := A_ (Kd.R_lower (Kd.R_new' ho0 (Kd.R_lt (pr_ HO214))) (below_size (bl_ HB)))
    have n2_ := A_ (blk_below (pl_ BK207) hb)
    have n3_ := A_ (blk_below (pl_ BK208) hb)
    have n4_ := A_ (blk_below (pl_ BK225) hb)
    have n5_ := A_ (below_step (bl_ HB) hb)
    clear HO214
    clear BK207
    clear BK208
    clear BK225
    clear HB
    have HO214 := n0_
    have HO223 := n1_
    have BK207 := n2_
    have BK208 := n3_
    have BK225 := n4_
    have HB := n5_
    clear n0_ n1_ n2_ n3_ n4_ n5_
    (try clear hb)
    (try clear hb2)
    (try clear hk)
    (try clear hi)
    (try clear ho0)
    refine hK.out _ _ ⟨(blk_cell BK207.out 0).trans rfl, (blk_cell BK207.out 1).trans rfl, (blk_cell BK207.out 2).trans rfl, (blk_cell BK208.out 0).trans rfl, (blk_cell BK208.out 1).trans rfl, (blk_cell BK208.out 2).trans rfl, (blk_cell BK208.out 3).trans rfl⟩ (fun hHeld => ?_)
    clear hK K
    refine norm_ (a' := ?_) ?_ ?_
    rotate_left
    ·show Act.put _ (some 26) _ = _
     simp only [Act.put, List.setIfInBounds_toArray, List.set_cons_zero, List.set_cons_succ, i64_w, i32_w]
     rfl
    refine pure_ (i := 5) (N := some 21) (v := ?_) (a' := ?_) #[true, true, true, true, true, true, false, false, true, false, false] rfl rfl (any_of HT_.out (by kernel_rfl)) (fun _ _ _ h => h) (Or.inl ⟨by rfl, ?_⟩) ?_ ?_
    rotate_left
    ·intro w'
     go_simp
     with_reducible rfl
    rotate_left
    ·simp only [Act.put, List.setIfInBounds_toArray, List.set_cons_zero, List.set_cons_succ, i64_w, i32_w]
     rfl
    refine pure_ (i := 6) (N := some 27) (v := ?_) (a' := ?_) #[true, true, true, true, true, true, true, false, true, false, false] rfl rfl (any_of HT_.out (by kernel_rfl)) (fun _ _ _ h => h) (Or.inl ⟨by rfl, ?_⟩) ?_ ?_
    rotate_left
    ·intro w'
     go_simp
     with_reducible rfl
    rotate_left
    ·simp only [Act.put, List.setIfInBounds_toArray, List.set_cons_zero, List.set_cons_succ, i64_w, i32_w]
     rfl
    refine pure_ (i := 7) (N := some 28) (v := ?_) (a' := ?_) #[true, true, true, true, true, true, true, true, true, false, false] rfl rfl (any_of HT_.out (by kernel_rfl)) (fun _ _ _ h => h) (Or.inl ⟨by rfl, ?_⟩) ?_ ?_
    rotate_left
    ·intro w'
     go_simp
     with_reducible rfl
    rotate_left
    ·simp only [Act.put, List.setIfInBounds_toArray, List.set_cons_zero, List.set_cons_succ, i64_w, i32_w]
     rfl
    exact norm_ pa_ (hCont (.slice Ao26 t212.length co26, v222, gb225) _ ⟨hHeld, (by (with_reducible repeat (first | apply Kd.R_alloc | apply Kd.R_drewN | apply Kd.R_drew)); exact Kd.R_mono HO214.out (fun _ hk => hk.2)), (by (with_reducible repeat (first | apply Kd.R_alloc | apply Kd.R_drewN | apply Kd.R_drew)); exact Kd.R_mono HO223.out (fun _ hk => hk.2)), (pl_ BK207), (pl_ BK208), (pl_ BK225), GW225.out, GE225.out, NB207_225.out, NB225_207.out, NB208_225.out, NB225_208.out, (bl_ HB)⟩)
  rintro ⟨v213, v222, gb225⟩ w28 ⟨hS_, h0_, h1_, h2_, h3_, h4_, h5_, h6_, h7_, h8_, h9_, h10_, h11_⟩
  have n0_ : Aside0 (Kd.R k40 40 w28 w.heap.size (fun k_ => some k_ ≠ (v222 : Value).ownBlock) v213 t212) := ⟨h0_⟩
  have n1_ : Aside0 (Kd.R k40 40 w28 w.heap.size (fun k_ => some k_ ≠ (v213 : Value).ownBlock) v222 t221) := ⟨h1_⟩
  have n2_ : Aside0 (w28.heap[gb207]? = some (.cells #[.int .i8 a0_0, .int .i8 a0_1, .slice A0_2 l0_2.length c0_2] 25 (0, 0))) := ⟨h2_⟩
  have n3_ : Aside0 (w28.heap[gb208]? = some (.cells #[.int .i8 a1_0, .int .i8 a1_1, .int .i8 a1_2, .int .i8 a1_3] 37 (0, 0))) := ⟨h3_⟩
  have n4_ : Aside0 (w28.heap[gb225]? = some (.cells #[.int .i8 0, .int .i8 0, .slice none 0 0] 30 (0, 0))) := ⟨h4_⟩
  have n5_ : Aside0 (w.heap.size ≤ gb225) := ⟨h5_⟩
  have n6_ : Aside0 (w.heap.size ≤ gb225) := ⟨h6_⟩
  have n7_ : Aside0 (gb207 ≠ gb225) := ⟨h7_⟩
  have n8_ : Aside0 (gb225 ≠ gb207) := ⟨h8_⟩
  have n9_ : Aside0 (gb208 ≠ gb225) := ⟨h9_⟩
  have n10_ : Aside0 (gb225 ≠ gb208) := ⟨h10_⟩
  have n11_ : Aside0 (Below w.heap.size w w28) := ⟨h11_⟩
  clear BK207
  clear BK208
  clear HB
  clear h0_ h1_ h2_ h3_ h4_ h5_ h6_ h7_ h8_ h9_ h10_ h11_
  have HO214 := n0_
  have HO223 := n1_
  have BK207 := n2_
  have BK208 := n3_
  have BK225 := n4_
  have GW225 := n5_
  have GE225 := n6_
  have NB207_225 := n7_
  have NB225_207 := n8_
  have NB208_225 := n9_
  have NB225_208 := n10_
  have HB := n11_
  clear n0_ n1_ n2_ n3_ n4_ n5_ n6_ n7_ n8_ n9_ n10_ n11_
  have hHeld : w28.cell? ⟨gb207, 0, none⟩ = some (.int .i8 a0_0) ∧ w28.cell? ⟨gb207, 1, none⟩ = some (.int .i8 a0_1) ∧ w28.cell? ⟨gb207, 2, none⟩ = some (.slice A0_2 l0_2.length c0_2) ∧ w28.cell? ⟨gb208, 0, none⟩ = some (.int .i8 a1_0) ∧ w28.cell? ⟨gb208, 1, none⟩ = some (.int .i8 a1_1) ∧ w28.cell? ⟨gb208, 2, none⟩ = some (.int .i8 a1_2) ∧ w28.cell? ⟨gb208, 3, none⟩ = some (.int .i8 a1_3) := hS_
  obtain ⟨Ao31, co31, eo31⟩ := Kd.R_slice HO223.out
  (first | subst eo31 | (injection eo31 with f1_ f2_ f3_; have f4_ := f1_.symm; have f5_ := f3_.symm; clear f1_ f2_ f3_; subst f4_; subst f5_))
  refine norm_ (a' := ?_) ?_ ?_
  rotate_left
  ·simp only [putAll, Act.put, List.setIfInBounds_toArray, List.set_cons_zero, List.set_cons_succ]
   rfl
  refine one_ (i := 9) (N := none) #[true, true, true, true, true, true, true, true, true, true, false] rfl rfl (one_of HT_.out (by kernel_rfl)) (by decide) (fun K hK => ?_)
  have hs29 : w28.cell? ⟨gb225, 0, none⟩ = some (.int .i8 0) := (blk_cell BK225.out 0).trans rfl
  have hfs29 := blk_frozen BK225.out 0
  have hns29_0 := NB207_225.out
  have hns29_1 := NB208_225.out
  have hms29_0 := NB225_207.out
  have hms29_1 := NB225_208.out
  have hs30 : w28.cell? ⟨gb225, 1, none⟩ = some (.int .i8 0) := (blk_cell BK225.out 1).trans rfl
  have hfs30 := blk_frozen BK225.out 1
  have hns30_0 := NB207_225.out
  have hns30_1 := NB208_225.out
  have hms30_0 := NB225_207.out
  have hms30_1 := NB225_208.out
  have hs32 : w28.cell? ⟨gb225, 2, none⟩ = some (.slice none 0 0) := (blk_cell BK225.out 2).trans rfl
  have hfs32 := blk_frozen BK225.out 2
  have hns32_0 := NB207_225.out
  have hns32_1 := NB208_225.out
  have hms32_0 := NB225_207.out
  have hms32_1 := NB225_208.out
  refine skip_ (w1 := ?_) (by rfl) rfl ?_ ?_
  rotate_left
  ·go_simp
   rfl
  refine hK.out _ _ ⟨(cf3_ NB207_225 (hHeld.1)), (cf3_ NB207_225 (hHeld.2.1)), (cf3_ NB207_225 (hHeld.2.2.1)), (cf3_ NB208_225 (hHeld.2.2.2.1)), (cf3_ NB208_225 (hHeld.2.2.2.2.1)), (cf3_ NB208_225 (hHeld.2.2.2.2.2.1)), (cf3_ NB208_225 (hHeld.2.2.2.2.2.2))⟩ (fun hHeld => ?_)
  clear hK K
  refine pure_ (i := 10) (N := some 7) (v := ?_) (a' := ?_) #[true, true, true, true, true, true, true, true, true, true, true] rfl rfl (any_of HT_.out (by kernel_rfl)) (fun _ _ _ h => h) (Or.inl ⟨by rfl, ?_⟩) ?_ ?_
  rotate_left
  ·intro w'
   go_simp
   with_reducible rfl
  rotate_left
  ·simp only [Act.put, List.setIfInBounds_toArray, List.set_cons_zero, List.set_cons_succ, i64_w, i32_w]
   rfl
  refine done_ (done_of HT_.out (by kernel_rfl)) ?_
  have hnb33 := NB207_225.out
  have hnc33 := NB225_207.out
  have hcz34_0 : w28.cell? ⟨gb207, 0, none⟩ = some (.int .i8 a0_0) := (blk_cell BK207.out 0).trans rfl
  have hcz34_1 : w28.cell? ⟨gb207, 1, none⟩ = some (.int .i8 a0_1) := (blk_cell BK207.out 1).trans rfl
  have hcz34_2 : w28.cell? ⟨gb207, 2, none⟩ = some (.slice A0_2 l0_2.length c0_2) := (blk_cell BK207.out 2).trans rfl
  have hfz34_0 := blk_frozen BK207.out 0
  have hfz34_1 := blk_frozen BK207.out 1
  have hfz34_2 := blk_frozen BK207.out 2
  try go_wp2_with (first | ((with_reducible refine gate_callee (f := 11) rfl ?_); refine goesL_ (some 30) rfl rfl Try.func11 (by kernel_rfl) rfl #[.agg #[.int .i8 a0_0, .int .i8 a0_1, .slice A0_2 l0_2.length c0_2]] rfl arg_ ?_; (with_reducible refine (laws_toFixed.calls k a0_0 a0_1 _ _ l0_2 t226 t227 t228 _ ?side1 ?side2 A13.out).mono ?_); (case side1 => exact Kd.C_below HR0_2.out (bs_ HB GE225)); (case side2 => exact HC0_2.out); rintro e w35 ⟨v229, rfl, ho0, hb⟩; refine ⟨_, rfl, ?_⟩; have n0_ := A_ (Kd.R_elder' (by (with_reducible repeat (first | apply Kd.R_alloc | apply Kd.R_drewN | apply Kd.R_drew)); exact (rf3_ HO214 BK225 (by decide))) (Kd.R_base ho0) hb); have n1_ := A_ (Kd.R_elder' (by (with_reducible repeat (first | apply Kd.R_alloc | apply Kd.R_drewN | apply Kd.R_drew)); exact (rf3_ HO223 BK225 (by decide))) (Kd.R_base ho0) hb); have n2_ := A_ (Kd.R_lower (Kd.R_new' (Kd.R_new' ho0 (Kd.R_lt (by (with_reducible repeat (first | apply Kd.R_alloc | apply Kd.R_drewN | apply Kd.R_drew)); exact (rf3_ HO214 BK225 (by decide))))) (Kd.R_lt (by (with_reducible repeat (first | apply Kd.R_alloc | apply Kd.R_drewN | apply Kd.R_drew)); exact (rf3_ HO223 BK225 (by decide))))) (below_size (bs_ HB GE225))); have n3_ := A_ (blk_below (g := gb207) (o := .cells #[.int .i8 a0_0, .int .i8 a0_1, .slice A0_2 l0_2.length c0_2] 25 (0, 0)) (pf_ BK207 NB207_225) hb); have n4_ := A_ (blk_below (g := gb208) (o := .cells #[.int .i8 a1_0, .int .i8 a1_1, .int .i8 a1_2, .int .i8 a1_3] 37 (0, 0)) (pf_ BK208 NB208_225) hb); have n5_ := A_ (blk_below (g := gb225) (o := .cells #[.int .i8 t219, .int .i8 t220, .slice Ao31 t221.length co31] 30 (0, 0)) (by (with_reducible repeat (first | refine blk_drewN ?_ _ | refine blk_drew ?_ | refine blk_alloc ?_ _)); refine blk_put (cs := #[.int .i8 t219, .int .i8 t220, .slice none 0 0]) ?_ 2 _ rfl; (with_reducible repeat (first | refine blk_drewN ?_ _ | refine blk_drew ?_ | refine blk_alloc ?_ _)); refine blk_put (cs := #[.int .i8 t219, .int .i8 0, .slice none 0 0]) ?_ 1 _ rfl; (with_reducible repeat (first | refine blk_drewN ?_ _ | refine blk_drew ?_ | refine blk_alloc ?_ _)); refine blk_put (cs := #[.int .i8 0, .int .i8 0, .slice none 0 0]) ?_ 0 _ rfl; (with_reducible repeat (first | refine blk_drewN ?_ _ | refine blk_drew ?_ | refine blk_alloc ?_ _)); exact BK225.out) hb); have n6_ := A_ (below_step (bs_ HB GE225) hb); clear HO214; clear HO223; clear BK207; clear BK208; clear BK225; clear HB; have HO214 := n0_; have HO223 := n1_; have HO230 := n2_; have BK207 := n3_; have BK208 := n4_; have BK225 := n5_; have HB := n6_; clear n0_ n1_ n2_ n3_ n4_ n5_ n6_; (try clear hb); (try clear hb2); (try clear hk); (try clear hi); (try clear ho0)) | ((with_reducible refine gate_dst (N := 8) rfl ?_); refine box_event ?hg (N := 8) ?hd (cs := #[.int .i8 0, .int .i8 0, .slice none 0 0]) (t := 30) ?hr ?_; (case hd => rfl); (case hg => rfl); (case hr => first | (go_simp; done) | (go_simp; rfl)); intro gb231 hg w36 hbox hb; have n0_ := A_ (Kd.R_below (pr_ HO214) hb); have n1_ := A_ (Kd.R_below (pr_ HO223) hb); have n2_ := A_ (Kd.R_below (pr_ HO230) hb); have n3_ := A_ (blk_below (pl_ BK207) hb); have n4_ := A_ (blk_below (pl_ BK208) hb); have n5_ := A_ (blk_below (pl_ BK225) hb); have n6_ := A_ (below_step (bl_ HB) hb); have n7_ := A_ (hbox); have n8_ := A_ ((by rw [hg]; exact (below_size (bl_ HB)) : w.heap.size ≤ gb231)); have n9_ := n8_; have n10_ := A_ ((by rw [hg]; exact Nat.ne_of_lt (blk_lt (pl_ BK207)) : gb207 ≠ gb231)); have n11_ := Aside0.mk n10_.out.symm; have n12_ := A_ ((by rw [hg]; exact Nat.ne_of_lt (blk_lt (pl_ BK208)) : gb208 ≠ gb231)); have n13_ := Aside0.mk n12_.out.symm; have n14_ := A_ ((by rw [hg]; exact Nat.ne_of_lt (blk_lt (pl_ BK225)) : gb225 ≠ gb231)); have n15_ := Aside0.mk n14_.out.symm; clear HO214; clear HO223; clear HO230; clear BK207; clear BK208; clear BK225; clear HB; have HO214 := n0_; have HO223 := n1_; have HO230 := n2_; have BK207 := n3_; have BK208 := n4_; have BK225 := n5_; have HB := n6_; have BK231 := n7_; have GW231 := n8_; have GE231 := n9_; have NB207_231 := n10_; have NB231_207 := n11_; have NB208_231 := n12_; have NB231_208 := n13_; have NB225_231 := n14_; have NB231_225 := n15_; clear n0_ n1_ n2_ n3_ n4_ n5_ n6_ n7_ n8_ n9_ n10_ n11_ n12_ n13_ n14_ n15_; clear hb hbox hg; have hnb37 := NB231_207.out; have hnc37 := NB207_231.out; have hnb38 := NB231_208.out; have hnc38 := NB208_231.out; have hnb39 := NB231_225.out; have hnc39 := NB225_231.out; have hcz40_0 : w36.cell? ⟨gb231, 0, none⟩ = some (.int .i8 0) := (blk_cell BK231.out 0).trans rfl; have hcz40_1 : w36.cell? ⟨gb231, 1, none⟩ = some (.int .i8 0) := (blk_cell BK231.out 1).trans rfl; have hcz40_2 : w36.cell? ⟨gb231, 2, none⟩ = some (.slice none 0 0) := (blk_cell BK231.out 2).trans rfl; have hfz40_0 := blk_frozen BK231.out 0; have hfz40_1 := blk_frozen BK231.out 1; have hfz40_2 := blk_frozen BK231.out 2; obtain ⟨Ao41, co41, eo41⟩ := Kd.R_slice HO230.out; subst eo41))
  have n0_ : Aside0 (Kd.R k40 40 (((w36.setCell ⟨gb231, 0, none⟩ (.int .i8 t226)).setCell ⟨gb231, 1, none⟩ (.int .i8 t227)).setCell ⟨gb231, 2, none⟩ (.slice Ao41 t228.length co41)) w.heap.size (fun k_ => some k_ ≠ (.slice Ao31 t221.length co31 : Value).ownBlock ∧ some k_ ≠ (.slice Ao41 t228.length co41 : Value).ownBlock) v213 t212) := ⟨by (with_reducible repeat (first | apply Kd.R_alloc | apply Kd.R_drewN | apply Kd.R_drew)); exact Kd.R_mono (Kd.R_far (p := ⟨gb231, 2, none⟩) (Kd.R_far (p := ⟨gb231, 1, none⟩) (Kd.R_far (p := ⟨gb231, 0, none⟩) (Kd.R_types HO214.out BK231.out (by decide)) (fun _ hk => hk.2) (.int .i8 t226)) (fun _ hk => hk.2) (.int .i8 t227)) (fun _ hk => hk.2) (.slice Ao41 t228.length co41)) (fun _ hk => ⟨hk.1.1, hk.1.2⟩)⟩
  have n1_ : Aside0 (Kd.R k40 40 (((w36.setCell ⟨gb231, 0, none⟩ (.int .i8 t226)).setCell ⟨gb231, 1, none⟩ (.int .i8 t227)).setCell ⟨gb231, 2, none⟩ (.slice Ao41 t228.length co41)) w.heap.size (fun k_ => some k_ ≠ (v213 : Value).ownBlock ∧ some k_ ≠ (.slice Ao41 t228.length co41 : Value).ownBlock) (.slice Ao31 t221.length co31) t221) := ⟨by (with_reducible repeat (first | apply Kd.R_alloc | apply Kd.R_drewN | apply Kd.R_drew)); exact Kd.R_mono (Kd.R_far (p := ⟨gb231, 2, none⟩) (Kd.R_far (p := ⟨gb231, 1, none⟩) (Kd.R_far (p := ⟨gb231, 0, none⟩) (Kd.R_types HO223.out BK231.out (by decide)) (fun _ hk => hk.2) (.int .i8 t226)) (fun _ hk => hk.2) (.int .i8 t227)) (fun _ hk => hk.2) (.slice Ao41 t228.length co41)) (fun _ hk => ⟨hk.1.1, hk.1.2⟩)⟩
  have n2_ : Aside0 (Kd.R k40 40 (((w36.setCell ⟨gb231, 0, none⟩ (.int .i8 t226)).setCell ⟨gb231, 1, none⟩ (.int .i8 t227)).setCell ⟨gb231, 2, none⟩ (.slice Ao41 t228.length co41)) w.heap.size (fun k_ => some k_ ≠ (v213 : Value).ownBlock ∧ some k_ ≠ (.slice Ao31 t221.length co31 : Value).ownBlock) (.slice Ao41 t228.length co41) t228) := ⟨by (with_reducible repeat (first | apply Kd.R_alloc | apply Kd.R_drewN | apply Kd.R_drew)); exact Kd.R_mono (Kd.R_far (p := ⟨gb231, 2, none⟩) (Kd.R_far (p := ⟨gb231, 1, none⟩) (Kd.R_far (p := ⟨gb231, 0, none⟩) (Kd.R_types HO230.out BK231.out (by decide)) (fun _ hk => hk.2) (.int .i8 t226)) (fun _ hk => hk.2) (.int .i8 t227)) (fun _ hk => hk.2) (.slice Ao41 t228.length co41)) (fun _ hk => ⟨hk.1.1.2, hk.1.2⟩)⟩
  have n3_ : Aside0 ((((w36.setCell ⟨gb231, 0, none⟩ (.int .i8 t226)).setCell ⟨gb231, 1, none⟩ (.int .i8 t227)).setCell ⟨gb231, 2, none⟩ (.slice Ao41 t228.length co41)).heap[gb207]? = some (.cells #[.int .i8 a0_0, .int .i8 a0_1, .slice A0_2 l0_2.length c0_2] 25 (0, 0))) := ⟨pf_ BK207 NB207_231⟩
  have n4_ : Aside0 ((((w36.setCell ⟨gb231, 0, none⟩ (.int .i8 t226)).setCell ⟨gb231, 1, none⟩ (.int .i8 t227)).setCell ⟨gb231, 2, none⟩ (.slice Ao41 t228.length co41)).heap[gb208]? = some (.cells #[.int .i8 a1_0, .int .i8 a1_1, .int .i8 a1_2, .int .i8 a1_3] 37 (0, 0))) := ⟨pf_ BK208 NB208_231⟩
  have n5_ : Aside0 ((((w36.setCell ⟨gb231, 0, none⟩ (.int .i8 t226)).setCell ⟨gb231, 1, none⟩ (.int .i8 t227)).setCell ⟨gb231, 2, none⟩ (.slice Ao41 t228.length co41)).heap[gb225]? = some (.cells #[.int .i8 t219, .int .i8 t220, .slice Ao31 t221.length co31] 30 (0, 0))) := ⟨pf_ BK225 NB225_231⟩
  have n6_ : Aside0 ((((w36.setCell ⟨gb231, 0, none⟩ (.int .i8 t226)).setCell ⟨gb231, 1, none⟩ (.int .i8 t227)).setCell ⟨gb231, 2, none⟩ (.slice Ao41 t228.length co41)).heap[gb231]? = some (.cells #[.int .i8 t226, .int .i8 t227, .slice Ao41 t228.length co41] 30 (0, 0))) := ⟨by (with_reducible repeat (first | refine blk_drewN ?_ _ | refine blk_drew ?_ | refine blk_alloc ?_ _)); refine blk_put (cs := #[.int .i8 t226, .int .i8 t227, .slice none 0 0]) ?_ 2 _ rfl; (with_reducible repeat (first | refine blk_drewN ?_ _ | refine blk_drew ?_ | refine blk_alloc ?_ _)); refine blk_put (cs := #[.int .i8 t226, .int .i8 0, .slice none 0 0]) ?_ 1 _ rfl; (with_reducible repeat (first | refine blk_drewN ?_ _ | refine blk_drew ?_ | refine blk_alloc ?_ _)); refine blk_put (cs := #[.int .i8 0, .int .i8 0, .slice none 0 0]) ?_ 0 _ rfl; (with_reducible repeat (first | refine blk_drewN ?_ _ | refine blk_drew ?_ | refine blk_alloc ?_ _)); exact BK231.out⟩
  have n7_ : Aside0 (Below w.heap.size w (((w36.setCell ⟨gb231, 0, none⟩ (.int .i8 t226)).setCell ⟨gb231, 1, none⟩ (.int .i8 t227)).setCell ⟨gb231, 2, none⟩ (.slice Ao41 t228.length co41))) := ⟨bs_ HB GE231⟩
  (try clear HO214)
  (try clear HO223)
  (try clear HO230)
  (try clear BK207)
  (try clear BK208)
  (try clear BK225)
  (try clear BK231)
  (try clear HB)
  generalize (((w36.setCell ⟨gb231, 0, none⟩ (.int .i8 t226)).setCell ⟨gb231, 1, none⟩ (.int .i8 t227)).setCell ⟨gb231, 2, none⟩ (.slice Ao41 t228.length co41)) = w42 at n0_ n1_ n2_ n3_ n4_ n5_ n6_ n7_ ⊢
  have HO214 := n0_
  have HO223 := n1_
  have HO230 := n2_
  have BK207 := n3_
  have BK208 := n4_
  have BK225 := n5_
  have BK231 := n6_
  have HB := n7_
  clear n0_ n1_ n2_ n3_ n4_ n5_ n6_ n7_
  have n0_ := A_ (Kd.R_drew HO214.out)
  have n1_ := A_ (Kd.R_drew HO223.out)
  have n2_ := A_ (Kd.R_drew HO230.out)
  have n3_ := A_ (blk_drew BK207.out)
  have n4_ := A_ (blk_drew BK208.out)
  have n5_ := A_ (blk_drew BK225.out)
  have n6_ := A_ (blk_drew BK231.out)
  have n7_ := A_ (below_drew1 HB.out)
  clear HO214
  clear HO223
  clear HO230
  clear BK207
  clear BK208
  clear BK225
  clear BK231
  clear HB
  have HO214 := n0_
  have HO223 := n1_
  have HO230 := n2_
  have BK207 := n3_
  have BK208 := n4_
  have BK225 := n5_
  have BK231 := n6_
  have HB := n7_
  clear n0_ n1_ n2_ n3_ n4_ n5_ n6_ n7_
  refine start_ (n := 10) (S := fun w' => w'.cell? ⟨gb231, 0, none⟩ = some (.int .i8 t226) ∧ w'.cell? ⟨gb231, 1, none⟩ = some (.int .i8 t227) ∧ w'.cell? ⟨gb231, 2, none⟩ = some (.slice Ao41 t228.length co41) ∧ w'.cell? ⟨gb208, 0, none⟩ = some (.int .i8 a1_0) ∧ w'.cell? ⟨gb208, 1, none⟩ = some (.int .i8 a1_1) ∧ w'.cell? ⟨gb208, 2, none⟩ = some (.int .i8 a1_2) ∧ w'.cell? ⟨gb208, 3, none⟩ = some (.int .i8 a1_3)) (ds := []) #[false, false, false, false, false, false, false, false, false, false] (by kernel_rfl) rfl rfl ⟨(blk_cell BK231.out 0).trans rfl, (blk_cell BK231.out 1).trans rfl, (blk_cell BK231.out 2).trans rfl, (blk_cell BK208.out 0).trans rfl, (blk_cell BK208.out 1).trans rfl, (blk_cell BK208.out 2).trans rfl, (blk_cell BK208.out 3).trans rfl⟩ (fun hHeld => ?_); refine with_tabW laws_FnExactAddWord.tab7 laws_FnExactAddWord.bits7 (fun HT_ HW_ => ?_)
  generalize w42.drew = w43 at HO214 HO223 HO230 BK207 BK208 BK225 BK231 HB hHeld ⊢
  refine take_ (i := 0) (N := some 32) (v := ?_) (a' := ?_) #[true, false, false, false, false, false, false, false, false, false] rfl rfl (take_ofW HT_.out HW_.out (by kernel_rfl)) (fun _ _ _ h => h) (Or.inl ⟨by rfl, ?_⟩) hHeld ?_ ?_
  rotate_left
  ·rintro w' ⟨s0, s1, s2, s3, s4, s5, s6⟩
   go_simp
   with_reducible rfl
  rotate_left
  ·simp only [Act.put, List.setIfInBounds_toArray, List.set_cons_zero, List.set_cons_succ, i64_w, i32_w]
   rfl
  refine take_ (i := 1) (N := some 33) (v := ?_) (a' := ?_) #[true, true, false, false, false, false, false, false, false, false] rfl rfl (take_ofW HT_.out HW_.out (by kernel_rfl)) (fun _ _ _ h => h) (Or.inl ⟨by rfl, ?_⟩) hHeld ?_ ?_
  rotate_left
  ·rintro w' ⟨s0, s1, s2, s3, s4, s5, s6⟩
   go_simp
   with_reducible rfl
  rotate_left
  ·simp only [Act.put, List.setIfInBounds_toArray, List.set_cons_zero, List.set_cons_succ, i64_w, i32_w]
   rfl
  refine join_ (σ := Value × Nat) 2 #[true, true, true, true, true, true, true, true, false, false] (fun s_ => [(34, .agg #[.int .i8 t232, .int .i8 t233, .int .i8 t234, .int .i8 t235]), (35, .tuple #[.agg #[.int .i8 t236, .int .i8 t237, s_.1], .int .i64 t241]), (9, .pointer (some ⟨s_.2, 0, none⟩)), (31, .tuple #[.agg #[.int .i8 t236, .int .i8 t237, s_.1], .int .i64 t241]), (36, .agg #[.int .i8 t236, .int .i8 t237, s_.1]), (37, .int .i64 t241)]) (fun s_ w' => (w'.cell? ⟨gb231, 0, none⟩ = some (.int .i8 t226) ∧ w'.cell? ⟨gb231, 1, none⟩ = some (.int .i8 t227) ∧ w'.cell? ⟨gb231, 2, none⟩ = some (.slice Ao41 t228.length co41) ∧ w'.cell? ⟨gb208, 0, none⟩ = some (.int .i8 a1_0) ∧ w'.cell? ⟨gb208, 1, none⟩ = some (.int .i8 a1_1) ∧ w'.cell? ⟨gb208, 2, none⟩ = some (.int .i8 a1_2) ∧ w'.cell? ⟨gb208, 3, none⟩ = some (.int .i8 a1_3)) ∧ (Kd.R k40 40 w' w.heap.size (fun k_ => some k_ ≠ (.slice Ao31 t221.length co31 : Value).ownBlock ∧ some k_ ≠ (.slice Ao41 t228.length co41 : Value).ownBlock ∧ some k_ ≠ (s_.1 : Value).ownBlock) v213 t212) ∧ (Kd.R k40 40 w' w.heap.size (fun k_ => some k_ ≠ (v213 : Value).ownBlock ∧ some k_ ≠ (.slice Ao41 t228.length co41 : Value).ownBlock ∧ some k_ ≠ (s_.1 : Value).ownBlock) (.slice Ao31 t221.length co31) t221) ∧ (Kd.R k40 40 w' w.heap.size (fun k_ => some k_ ≠ (v213 : Value).ownBlock ∧ some k_ ≠ (.slice Ao31 t221.length co31 : Value).ownBlock ∧ some k_ ≠ (s_.1 : Value).ownBlock) (.slice Ao41 t228.length co41) t228) ∧ (Kd.R k40 40 w' w.heap.size (fun k_ => some k_ ≠ (v213 : Value).ownBlock ∧ some k_ ≠ (.slice Ao31 t221.length co31 : Value).ownBlock ∧ some k_ ≠ (.slice Ao41 t228.length co41 : Value).ownBlock) s_.1 t238) ∧ (w'.heap[gb207]? = some (.cells #[.int .i8 a0_0, .int .i8 a0_1, .slice A0_2 l0_2.length c0_2] 25 (0, 0))) ∧ (w'.heap[gb208]? = some (.cells #[.int .i8 a1_0, .int .i8 a1_1, .int .i8 a1_2, .int .i8 a1_3] 37 (0, 0))) ∧ (w'.heap[gb225]? = some (.cells #[.int .i8 t219, .int .i8 t220, .slice Ao31 t221.length co31] 30 (0, 0))) ∧ (w'.heap[gb231]? = some (.cells #[.int .i8 t226, .int .i8 t227, .slice Ao41 t228.length co41] 30 (0, 0))) ∧ (w'.heap[s_.2]? = some (.cells #[.int .i8 0, .int .i8 0, .slice none 0 0] 30 (0, 0))) ∧ (w.heap.size ≤ s_.2) ∧ (w.heap.size ≤ s_.2) ∧ (gb207 ≠ s_.2) ∧ (s_.2 ≠ gb207) ∧ (gb208 ≠ s_.2) ∧ (s_.2 ≠ gb208) ∧ (gb225 ≠ s_.2) ∧ (s_.2 ≠ gb225) ∧ (gb231 ≠ s_.2) ∧ (s_.2 ≠ gb231) ∧ (Below w.heap.size w w')) ?_ ?_
  rotate_left
  ·intro hCont
   refine two_ (i := 2) (j := 7) (Ni := some 34) (Nj := some 9) #[true, true, true, false, false, false, false, false, false, false] #[true, true, false, false, false, false, false, true, false, false] rfl rfl rfl rfl (two_of HT_.out (by kernel_rfl)) (by decide) (by decide) (fun K hK => ?_) (fun K hK => ?_)
   ·skip
    refine goes_ Try.func19 (by kernel_rfl) rfl #[.agg #[.int .i8 a1_0, .int .i8 a1_1, .int .i8 a1_2, .int .i8 a1_3]] (by rfl) rfl rfl arg_ ?_
    with_reducible refine (laws_toWord.calls k a1_0 a1_1 a1_2 a1_3 t232 t233 t234 t235 _ A14.out).mono ?_
    rintro e w44 ⟨rfl, hb⟩
    refine ⟨_, rfl, ?_⟩
    have n0_ := A_ (Kd.R_below (pr_ HO214) hb)
    have n1_ := A_ (Kd.R_below (pr_ HO223) hb)
    have n2_ := A_ (Kd.R_below (pr_ HO230) hb)
    have n3_ := A_ (blk_below (pl_ BK207) hb)
    have n4_ := A_ (blk_below (pl_ BK208) hb)
    have n5_ := A_ (blk_below (pl_ BK225) hb)
    have n6_ := A_ (blk_below (pl_ BK231) hb)
    have n7_ := A_ (below_step (bl_ HB) hb)
    clear HO214
    clear HO223
    clear HO230
    clear BK207
    clear BK208
    clear BK225
    clear BK231
    clear HB
    have HO214 := n0_
    have HO223 := n1_
    have HO230 := n2_
    have BK207 := n3_
    have BK208 := n4_
    have BK225 := n5_
    have BK231 := n6_
    have HB := n7_
    clear n0_ n1_ n2_ n3_ n4_ n5_ n6_ n7_
    (try clear hb)
    (try clear hb2)
    (try clear hk)
    (try clear hi)
    refine hK.out _ _ ⟨(blk_cell BK231.out 0).trans rfl, (blk_cell BK231.out 1).trans rfl, (blk_cell BK231.out 2).trans rfl, (blk_cell BK208.out 0).trans rfl, (blk_cell BK208.out 1).trans rfl, (blk_cell BK208.out 2).trans rfl, (blk_cell BK208.out 3).trans rfl⟩ (fun hHeld => ?_)
    clear hK K
    refine norm_ (a' := ?_) ?_ ?_
    rotate_left
    ·show Act.put _ (some 34) _ = _
     simp only [Act.put, List.setIfInBounds_toArray, List.set_cons_zero, List.set_cons_succ, i64_w, i32_w]
     rfl
    refine two_ (i := 3) (j := 7) (Ni := some 35) (Nj := some 9) #[true, true, true, true, false, false, false, false, false, false] #[true, true, true, false, false, false, false, true, false, false] rfl rfl rfl rfl (two_of HT_.out (by kernel_rfl)) (by decide) (by decide) (fun K hK => ?_) (fun K hK => ?_)
    ·skip
     refine goes_ Try.func20 (by kernel_rfl) rfl #[.agg #[.int .i8 t226, .int .i8 t227, .slice Ao41 t228.length co41], .agg #[.int .i8 t232, .int .i8 t233, .int .i8 t234, .int .i8 t235]] (by rfl) rfl rfl arg_ ?_
     with_reducible refine (impl_AddWord.calls k t226 t227 _ _ t228 t232 t233 t234 t235 t236 t237 t238 t241 _ ?side1 ?side2 A15.out).mono ?_
     (case side1 => repeat (first | exact (Kd.R_reads' HO230.out).2.2 | (with_reducible refine Kd.C_alloc ?_ _) | (with_reducible refine Kd.C_drewN ?_ _) | (with_reducible refine Kd.C_drew ?_)))
     (case side2 => exact (Kd.R_reads' HO230.out).2.1)
     rintro e w45 ⟨v239, rfl, ho0, hb⟩
     refine ⟨_, rfl, ?_⟩
     have n0_ := A_ (Kd.R_elder' (pr_ HO214) (Kd.R_base ho0) hb)
     have n1_ := A_ (Kd.R_elder' (pr_ HO223) (Kd.R_base ho0) hb)
     have n2_ := A_ (Kd.R_elder' (pr_ HO230) (Kd.R_base ho0) hb)
     have n3_ := A_ (Kd.R_lower (Kd.R_new' (Kd.R_new' (Kd.R_new' ho0 (Kd.R_lt (pr_ HO214))) (Kd.R_lt (pr_ HO223))) (Kd.R_lt (pr_ HO230))) (below_size (bl_ HB)))
     have n4_ := A_ (blk_below (pl_ BK207) hb)
     have n5_ := A_ (blk_below (pl_ BK208) hb)
     have n6_ := A_ (blk_below (pl_ BK225) hb)
     have n7_ := A_ (blk_below (pl_ BK231) hb)
     have n8_ := A_ (below_step (bl_ HB) hb)
     clear HO214
     clear HO223
     clear HO230
     clear BK207
     clear BK208
     clear BK225
     clear BK231
     clear HB
     have HO214 := n0_
     have HO223 := n1_
     have HO230 := n2_
     have HO240 := n3_
     have BK207 := n4_
     have BK208 := n5_
     have BK225 := n6_
     have BK231 := n7_
     have HB := n8_
     clear n0_ n1_ n2_ n3_ n4_ n5_ n6_ n7_ n8_
     (try clear hb)
     (try clear hb2)
     (try clear hk)
     (try clear hi)
     (try clear ho0)
     refine hK.out _ _ ⟨(blk_cell BK231.out 0).trans rfl, (blk_cell BK231.out 1).trans rfl, (blk_cell BK231.out 2).trans rfl, (blk_cell BK208.out 0).trans rfl, (blk_cell BK208.out 1).trans rfl, (blk_cell BK208.out 2).trans rfl, (blk_cell BK208.out 3).trans rfl⟩ (fun hHeld => ?_)
     clear hK K
     refine norm_ (a' := ?_) ?_ ?_
     rotate_left
     ·show Act.put _ (some 35) _ = _
      simp only [Act.put, List.setIfInBounds_toArray, List.set_cons_zero, List.set_cons_succ, i64_w, i32_w]
      rfl
     refine pure_ (i := 4) (N := some 31) (v := ?_) (a' := ?_) #[true, true, true, true, true, false, false, false, false, false] rfl rfl (any_of HT_.out (by kernel_rfl)) (fun _ _ _ h => h) (Or.inl ⟨by rfl, ?_⟩) ?_ ?_
     rotate_left
     ·intro w'
      go_simp
      with_reducible rfl
     rotate_left
     ·simp only [Act.put, List.setIfInBounds_toArray, List.set_cons_zero, List.set_cons_succ, i64_w, i32_w]
      rfl
     refine pure_ (i := 5) (N := some 36) (v := ?_) (a' := ?_) #[true, true, true, true, true, true, false, false, false, false] rfl rfl (any_of HT_.out (by kernel_rfl)) (fun _ _ _ h => h) (Or.inl ⟨by rfl, ?_⟩) ?_ ?_
     rotate_left
     ·intro w'
      go_simp
      with_reducible rfl
     rotate_left
     ·simp only [Act.put, List.setIfInBounds_toArray, List.set_cons_zero, List.set_cons_succ, i64_w, i32_w]
      rfl
     refine pure_ (i := 6) (N := some 37) (v := ?_) (a' := ?_) #[true, true, true, true, true, true, true, false, false, false] rfl rfl (any_of HT_.out (by kernel_rfl)) (fun _ _ _ h => h) (Or.inl ⟨by rfl, ?_⟩) ?_ ?_
     rotate_left
     ·intro w'
      go_simp
      with_reducible rfl
     rotate_left
     ·simp only [Act.put, List.setIfInBounds_toArray, List.set_cons_zero, List.set_cons_succ, i64_w, i32_w]
      rfl
     refine one_ (i := 7) (N := some 9) #[true, true, true, true, true, true, true, true, false, false] rfl rfl (one_of HT_.out (by kernel_rfl)) (by decide) (fun K hK => ?_)
     refine box_step ?hg (N := 9) ?hd (cs := #[.int .i8 0, .int .i8 0, .slice none 0 0]) (t := 30) ?hr ?_; (case hd => rfl); (case hg => rfl); (case hr => first | (go_simp; done) | (go_simp; rfl))
     intro gb242 hg w46 hbox hb
     have n0_ := A_ (Kd.R_below (pr_ HO214) hb)
     have n1_ := A_ (Kd.R_below (pr_ HO223) hb)
     have n2_ := A_ (Kd.R_below (pr_ HO230) hb)
     have n3_ := A_ (Kd.R_below (pr_ HO240) hb)
     have n4_ := A_ (blk_below (pl_ BK207) hb)
     have n5_ := A_ (blk_below (pl_ BK208) hb)
     have n6_ := A_ (blk_below (pl_ BK225) hb)
     have n7_ := A_ (blk_below (pl_ BK231) hb)
     have n8_ := A_ (below_step (bl_ HB) hb)
     have n9_ := A_ (hbox)
     have n10_ := A_ ((by rw [hg]; exact (below_size (bl_ HB)) : w.heap.size ≤ gb242))
     have n11_ := n10_
     have n12_ := A_ ((by rw [hg]; exact Nat.ne_of_lt (blk_lt (pl_ BK207)) : gb207 ≠ gb242))
     have n13_ := Aside0.mk n12_.out.symm
     have n14_ := A_ ((by rw [hg]; exact Nat.ne_of_lt (blk_lt (pl_ BK208)) : gb208 ≠ gb242))
     have n15_ := Aside0.mk n14_.out.symm
     have n16_ := A_ ((by rw [hg]; exact Nat.ne_of_lt (blk_lt (pl_ BK225)) : gb225 ≠ gb242))
     have n17_ := Aside0.mk n16_.out.symm
     have n18_ := A_ ((by rw [hg]; exact Nat.ne_of_lt (blk_lt (pl_ BK231)) : gb231 ≠ gb242))
     have n19_ := Aside0.mk n18_.out.symm
     clear HO214
     clear HO223
     clear HO230
     clear HO240
     clear BK207
     clear BK208
     clear BK225
     clear BK231
     clear HB
     have HO214 := n0_
     have HO223 := n1_
     have HO230 := n2_
     have HO240 := n3_
     have BK207 := n4_
     have BK208 := n5_
     have BK225 := n6_
     have BK231 := n7_
     have HB := n8_
     have BK242 := n9_
     have GW242 := n10_
     have GE242 := n11_
     have NB207_242 := n12_
     have NB242_207 := n13_
     have NB208_242 := n14_
     have NB242_208 := n15_
     have NB225_242 := n16_
     have NB242_225 := n17_
     have NB231_242 := n18_
     have NB242_231 := n19_
     clear n0_ n1_ n2_ n3_ n4_ n5_ n6_ n7_ n8_ n9_ n10_ n11_ n12_ n13_ n14_ n15_ n16_ n17_ n18_ n19_
     clear hb hbox hg
     refine hK.out _ _ ⟨(blk_cell BK231.out 0).trans rfl, (blk_cell BK231.out 1).trans rfl, (blk_cell BK231.out 2).trans rfl, (blk_cell BK208.out 0).trans rfl, (blk_cell BK208.out 1).trans rfl, (blk_cell BK208.out 2).trans rfl, (blk_cell BK208.out 3).trans rfl⟩ (fun hHeld => ?_)
     clear hK K
     refine norm_ (a' := ?_) ?_ ?_
     rotate_left
     ·show Act.put _ (some 9) _ = _
      simp only [Act.put, List.setIfInBounds_toArray, List.set_cons_zero, List.set_cons_succ, i64_w, i32_w]
      rfl
     exact norm_ pa_ (hCont (v239, gb242) _ ⟨hHeld, (by (with_reducible repeat (first | apply Kd.R_alloc | apply Kd.R_drewN | apply Kd.R_drew)); exact Kd.R_mono HO214.out (fun _ hk => ⟨hk.1.1, ⟨hk.1.2, hk.2⟩⟩)), (by (with_reducible repeat (first | apply Kd.R_alloc | apply Kd.R_drewN | apply Kd.R_drew)); exact Kd.R_mono HO223.out (fun _ hk => ⟨hk.1.1, ⟨hk.1.2, hk.2⟩⟩)), (by (with_reducible repeat (first | apply Kd.R_alloc | apply Kd.R_drewN | apply Kd.R_drew)); exact Kd.R_mono HO230.out (fun _ hk => ⟨hk.1.1, ⟨hk.1.2, hk.2⟩⟩)), (by (with_reducible repeat (first | apply Kd.R_alloc | apply Kd.R_drewN | apply Kd.R_drew)); exact Kd.R_mono HO240.out (fun _ hk => ⟨hk.1.1.2, ⟨hk.1.2, hk.2⟩⟩)), (pl_ BK207), (pl_ BK208), (pl_ BK225), (pl_ BK231), (pl_ BK242), GW242.out, GE242.out, NB207_242.out, NB242_207.out, NB208_242.out, NB242_208.out, NB225_242.out, NB242_225.out, NB231_242.out, NB242_231.out, (bl_ HB)⟩)
    ·skip
     refine box_step ?hg (N := 9) ?hd (cs := #[.int .i8 0, .int .i8 0, .slice none 0 0]) (t := 30) ?hr ?_; (case hd => rfl); (case hg => rfl); (case hr => first | (go_simp; done) | (go_simp; rfl))
     intro gb242 hg w45 hbox hb
     have n0_ := A_ (Kd.R_below (pr_ HO214) hb)
     have n1_ := A_ (Kd.R_below (pr_ HO223) hb)
     have n2_ := A_ (Kd.R_below (pr_ HO230) hb)
     have n3_ := A_ (blk_below (pl_ BK207) hb)
     have n4_ := A_ (blk_below (pl_ BK208) hb)
     have n5_ := A_ (blk_below (pl_ BK225) hb)
     have n6_ := A_ (blk_below (pl_ BK231) hb)
     have n7_ := A_ (below_step (bl_ HB) hb)
     have n8_ := A_ (hbox)
     have n9_ := A_ ((by rw [hg]; exact (below_size (bl_ HB)) : w.heap.size ≤ gb242))
     have n10_ := n9_
     have n11_ := A_ ((by rw [hg]; exact Nat.ne_of_lt (blk_lt (pl_ BK207)) : gb207 ≠ gb242))
     have n12_ := Aside0.mk n11_.out.symm
     have n13_ := A_ ((by rw [hg]; exact Nat.ne_of_lt (blk_lt (pl_ BK208)) : gb208 ≠ gb242))
     have n14_ := Aside0.mk n13_.out.symm
     have n15_ := A_ ((by rw [hg]; exact Nat.ne_of_lt (blk_lt (pl_ BK225)) : gb225 ≠ gb242))
     have n16_ := Aside0.mk n15_.out.symm
     have n17_ := A_ ((by rw [hg]; exact Nat.ne_of_lt (blk_lt (pl_ BK231)) : gb231 ≠ gb242))
     have n18_ := Aside0.mk n17_.out.symm
     clear HO214
     clear HO223
     clear HO230
     clear BK207
     clear BK208
     clear BK225
     clear BK231
     clear HB
     have HO214 := n0_
     have HO223 := n1_
     have HO230 := n2_
     have BK207 := n3_
     have BK208 := n4_
     have BK225 := n5_
     have BK231 := n6_
     have HB := n7_
     have BK242 := n8_
     have GW242 := n9_
     have GE242 := n10_
     have NB207_242 := n11_
     have NB242_207 := n12_
     have NB208_242 := n13_
     have NB242_208 := n14_
     have NB225_242 := n15_
     have NB242_225 := n16_
     have NB231_242 := n17_
     have NB242_231 := n18_
     clear n0_ n1_ n2_ n3_ n4_ n5_ n6_ n7_ n8_ n9_ n10_ n11_ n12_ n13_ n14_ n15_ n16_ n17_ n18_
     clear hb hbox hg
     refine hK.out _ _ ⟨(blk_cell BK231.out 0).trans rfl, (blk_cell BK231.out 1).trans rfl, (blk_cell BK231.out 2).trans rfl, (blk_cell BK208.out 0).trans rfl, (blk_cell BK208.out 1).trans rfl, (blk_cell BK208.out 2).trans rfl, (blk_cell BK208.out 3).trans rfl⟩ (fun hHeld => ?_)
     clear hK K
     refine norm_ (a' := ?_) ?_ ?_
     rotate_left
     ·show Act.put _ (some 9) _ = _
      simp only [Act.put, List.setIfInBounds_toArray, List.set_cons_zero, List.set_cons_succ, i64_w, i32_w]
      rfl
     refine one_ (i := 3) (N := some 35) #[true, true, true, true, false, false, false, true, false, false] rfl rfl (one_of HT_.out (by kernel_rfl)) (by decide) (fun K hK => ?_)
     refine goes_ Try.func20 (by kernel_rfl) rfl #[.agg #[.int .i8 t226, .int .i8 t227, .slice Ao41 t228.length co41], .agg #[.int .i8 t232, .int .i8 t233, .int .i8 t234, .int .i8 t235]] (by rfl) rfl rfl arg_ ?_
     with_reducible refine (impl_AddWord.calls k t226 t227 _ _ t228 t232 t233 t234 t235 t236 t237 t238 t241 _ ?side1 ?side2 A15.out).mono ?_
     (case side1 => repeat (first | exact (Kd.R_reads' HO230.out).2.2 | (with_reducible refine Kd.C_alloc ?_ _) | (with_reducible refine Kd.C_drewN ?_ _) | (with_reducible refine Kd.C_drew ?_)))
     (case side2 => exact (Kd.R_reads' HO230.out).2.1)
     rintro e w46 ⟨v239, rfl, ho0, hb⟩
     refine ⟨_, rfl, ?_⟩
     have n0_ := A_ (Kd.R_elder' (pr_ HO214) (Kd.R_base ho0) hb)
     have n1_ := A_ (Kd.R_elder' (pr_ HO223) (Kd.R_base ho0) hb)
     have n2_ := A_ (Kd.R_elder' (pr_ HO230) (Kd.R_base ho0) hb)
     have n3_ := A_ (Kd.R_lower (Kd.R_new' (Kd.R_new' (Kd.R_new' ho0 (Kd.R_lt (pr_ HO214))) (Kd.R_lt (pr_ HO223))) (Kd.R_lt (pr_ HO230))) (below_size (bl_ HB)))
     have n4_ := A_ (blk_below (pl_ BK207) hb)
     have n5_ := A_ (blk_below (pl_ BK208) hb)
     have n6_ := A_ (blk_below (pl_ BK225) hb)
     have n7_ := A_ (blk_below (pl_ BK231) hb)
     have n8_ := A_ (blk_below (pl_ BK242) hb)
     have n9_ := A_ (below_step (bl_ HB) hb)
     clear HO214
     clear HO223
     clear HO230
     clear BK207
     clear BK208
     clear BK225
     clear BK231
     clear BK242
     clear HB
     have HO214 := n0_
     have HO223 := n1_
     have HO230 := n2_
     have HO240 := n3_
     have BK207 := n4_
     have BK208 := n5_
     have BK225 := n6_
     have BK231 := n7_
     have BK242 := n8_
     have HB := n9_
     clear n0_ n1_ n2_ n3_ n4_ n5_ n6_ n7_ n8_ n9_
     (try clear hb)
     (try clear hb2)
     (try clear hk)
     (try clear hi)
     (try clear ho0)
     refine hK.out _ _ ⟨(blk_cell BK231.out 0).trans rfl, (blk_cell BK231.out 1).trans rfl, (blk_cell BK231.out 2).trans rfl, (blk_cell BK208.out 0).trans rfl, (blk_cell BK208.out 1).trans rfl, (blk_cell BK208.out 2).trans rfl, (blk_cell BK208.out 3).trans rfl⟩ (fun hHeld => ?_)
     clear hK K
     refine norm_ (a' := ?_) ?_ ?_
     rotate_left
     ·show Act.put _ (some 35) _ = _
      simp only [Act.put, List.setIfInBounds_toArray, List.set_cons_zero, List.set_cons_succ, i64_w, i32_w]
      rfl
     refine pure_ (i := 4) (N := some 31) (v := ?_) (a' := ?_) #[true, true, true, true, true, false, false, true, false, false] rfl rfl (any_of HT_.out (by kernel_rfl)) (fun _ _ _ h => h) (Or.inl ⟨by rfl, ?_⟩) ?_ ?_
     rotate_left
     ·intro w'
      go_simp
      with_reducible rfl
     rotate_left
     ·simp only [Act.put, List.setIfInBounds_toArray, List.set_cons_zero, List.set_cons_succ, i64_w, i32_w]
      rfl
     refine pure_ (i := 5) (N := some 36) (v := ?_) (a' := ?_) #[true, true, true, true, true, true, false, true, false, false] rfl rfl (any_of HT_.out (by kernel_rfl)) (fun _ _ _ h => h) (Or.inl ⟨by rfl, ?_⟩) ?_ ?_
     rotate_left
     ·intro w'
      go_simp
      with_reducible rfl
     rotate_left
     ·simp only [Act.put, List.setIfInBounds_toArray, List.set_cons_zero, List.set_cons_succ, i64_w, i32_w]
      rfl
     refine pure_ (i := 6) (N := some 37) (v := ?_) (a' := ?_) #[true, true, true, true, true, true, true, true, false, false] rfl rfl (any_of HT_.out (by kernel_rfl)) (fun _ _ _ h => h) (Or.inl ⟨by rfl, ?_⟩) ?_ ?_
     rotate_left
     ·intro w'
      go_simp
      with_reducible rfl
     rotate_left
     ·simp only [Act.put, List.setIfInBounds_toArray, List.set_cons_zero, List.set_cons_succ, i64_w, i32_w]
      rfl
     exact norm_ pa_ (hCont (v239, gb242) _ ⟨hHeld, (by (with_reducible repeat (first | apply Kd.R_alloc | apply Kd.R_drewN | apply Kd.R_drew)); exact Kd.R_mono HO214.out (fun _ hk => ⟨hk.1.1, ⟨hk.1.2, hk.2⟩⟩)), (by (with_reducible repeat (first | apply Kd.R_alloc | apply Kd.R_drewN | apply Kd.R_drew)); exact Kd.R_mono HO223.out (fun _ hk => ⟨hk.1.1, ⟨hk.1.2, hk.2⟩⟩)), (by (with_reducible repeat (first | apply Kd.R_alloc | apply Kd.R_drewN | apply Kd.R_drew)); exact Kd.R_mono HO230.out (fun _ hk => ⟨hk.1.1, ⟨hk.1.2, hk.2⟩⟩)), (by (with_reducible repeat (first | apply Kd.R_alloc | apply Kd.R_drewN | apply Kd.R_drew)); exact Kd.R_mono HO240.out (fun _ hk => ⟨hk.1.1.2, ⟨hk.1.2, hk.2⟩⟩)), (pl_ BK207), (pl_ BK208), (pl_ BK225), (pl_ BK231), (pl_ BK242), GW242.out, GE242.out, NB207_242.out, NB242_207.out, NB208_242.out, NB242_208.out, NB225_242.out, NB242_225.out, NB231_242.out, NB242_231.out, (bl_ HB)⟩)
   ·skip
    refine box_step ?hg (N := 9) ?hd (cs := #[.int .i8 0, .int .i8 0, .slice none 0 0]) (t := 30) ?hr ?_; (case hd => rfl); (case hg => rfl); (case hr => first | (go_simp; done) | (go_simp; rfl))
    intro gb242 hg w44 hbox hb
    have n0_ := A_ (Kd.R_below (pr_ HO214) hb)
    have n1_ := A_ (Kd.R_below (pr_ HO223) hb)
    have n2_ := A_ (Kd.R_below (pr_ HO230) hb)
    have n3_ := A_ (blk_below (pl_ BK207) hb)
    have n4_ := A_ (blk_below (pl_ BK208) hb)
    have n5_ := A_ (blk_below (pl_ BK225) hb)
    have n6_ := A_ (blk_below (pl_ BK231) hb)
    have n7_ := A_ (below_step (bl_ HB) hb)
    have n8_ := A_ (hbox)
    have n9_ := A_ ((by rw [hg]; exact (below_size (bl_ HB)) : w.heap.size ≤ gb242))
    have n10_ := n9_
    have n11_ := A_ ((by rw [hg]; exact Nat.ne_of_lt (blk_lt (pl_ BK207)) : gb207 ≠ gb242))
    have n12_ := Aside0.mk n11_.out.symm
    have n13_ := A_ ((by rw [hg]; exact Nat.ne_of_lt (blk_lt (pl_ BK208)) : gb208 ≠ gb242))
    have n14_ := Aside0.mk n13_.out.symm
    have n15_ := A_ ((by rw [hg]; exact Nat.ne_of_lt (blk_lt (pl_ BK225)) : gb225 ≠ gb242))
    have n16_ := Aside0.mk n15_.out.symm
    have n17_ := A_ ((by rw [hg]; exact Nat.ne_of_lt (blk_lt (pl_ BK231)) : gb231 ≠ gb242))
    have n18_ := Aside0.mk n17_.out.symm
    clear HO214
    clear HO223
    clear HO230
    clear BK207
    clear BK208
    clear BK225
    clear BK231
    clear HB
    have HO214 := n0_
    have HO223 := n1_
    have HO230 := n2_
    have BK207 := n3_
    have BK208 := n4_
    have BK225 := n5_
    have BK231 := n6_
    have HB := n7_
    have BK242 := n8_
    have GW242 := n9_
    have GE242 := n10_
    have NB207_242 := n11_
    have NB242_207 := n12_
    have NB208_242 := n13_
    have NB242_208 := n14_
    have NB225_242 := n15_
    have NB242_225 := n16_
    have NB231_242 := n17_
    have NB242_231 := n18_
    clear n0_ n1_ n2_ n3_ n4_ n5_ n6_ n7_ n8_ n9_ n10_ n11_ n12_ n13_ n14_ n15_ n16_ n17_ n18_
    clear hb hbox hg
    refine hK.out _ _ ⟨(blk_cell BK231.out 0).trans rfl, (blk_cell BK231.out 1).trans rfl, (blk_cell BK231.out 2).trans rfl, (blk_cell BK208.out 0).trans rfl, (blk_cell BK208.out 1).trans rfl, (blk_cell BK208.out 2).trans rfl, (blk_cell BK208.out 3).trans rfl⟩ (fun hHeld => ?_)
    clear hK K
    refine norm_ (a' := ?_) ?_ ?_
    rotate_left
    ·show Act.put _ (some 9) _ = _
     simp only [Act.put, List.setIfInBounds_toArray, List.set_cons_zero, List.set_cons_succ, i64_w, i32_w]
     rfl
    refine one_ (i := 2) (N := some 34) #[true, true, true, false, false, false, false, true, false, false] rfl rfl (one_of HT_.out (by kernel_rfl)) (by decide) (fun K hK => ?_)
    refine goes_ Try.func19 (by kernel_rfl) rfl #[.agg #[.int .i8 a1_0, .int .i8 a1_1, .int .i8 a1_2, .int .i8 a1_3]] (by rfl) rfl rfl arg_ ?_
    with_reducible refine (laws_toWord.calls k a1_0 a1_1 a1_2 a1_3 t232 t233 t234 t235 _ A14.out).mono ?_
    rintro e w45 ⟨rfl, hb⟩
    refine ⟨_, rfl, ?_⟩
    have n0_ := A_ (Kd.R_below (pr_ HO214) hb)
    have n1_ := A_ (Kd.R_below (pr_ HO223) hb)
    have n2_ := A_ (Kd.R_below (pr_ HO230) hb)
    have n3_ := A_ (blk_below (pl_ BK207) hb)
    have n4_ := A_ (blk_below (pl_ BK208) hb)
    have n5_ := A_ (blk_below (pl_ BK225) hb)
    have n6_ := A_ (blk_below (pl_ BK231) hb)
    have n7_ := A_ (blk_below (pl_ BK242) hb)
    have n8_ := A_ (below_step (bl_ HB) hb)
    clear HO214
    clear HO223
    clear HO230
    clear BK207
    clear BK208
    clear BK225
    clear BK231
    clear BK242
    clear HB
    have HO214 := n0_
    have HO223 := n1_
    have HO230 := n2_
    have BK207 := n3_
    have BK208 := n4_
    have BK225 := n5_
    have BK231 := n6_
    have BK242 := n7_
    have HB := n8_
    clear n0_ n1_ n2_ n3_ n4_ n5_ n6_ n7_ n8_
    (try clear hb)
    (try clear hb2)
    (try clear hk)
    (try clear hi)
    refine hK.out _ _ ⟨(blk_cell BK231.out 0).trans rfl, (blk_cell BK231.out 1).trans rfl, (blk_cell BK231.out 2).trans rfl, (blk_cell BK208.out 0).trans rfl, (blk_cell BK208.out 1).trans rfl, (blk_cell BK208.out 2).trans rfl, (blk_cell BK208.out 3).trans rfl⟩ (fun hHeld => ?_)
    clear hK K
    refine norm_ (a' := ?_) ?_ ?_
    rotate_left
    ·show Act.put _ (some 34) _ = _
     simp only [Act.put, List.setIfInBounds_toArray, List.set_cons_zero, List.set_cons_succ, i64_w, i32_w]
     rfl
    refine one_ (i := 3) (N := some 35) #[true, true, true, true, false, false, false, true, false, false] rfl rfl (one_of HT_.out (by kernel_rfl)) (by decide) (fun K hK => ?_)
    refine goes_ Try.func20 (by kernel_rfl) rfl #[.agg #[.int .i8 t226, .int .i8 t227, .slice Ao41 t228.length co41], .agg #[.int .i8 t232, .int .i8 t233, .int .i8 t234, .int .i8 t235]] (by rfl) rfl rfl arg_ ?_
    with_reducible refine (impl_AddWord.calls k t226 t227 _ _ t228 t232 t233 t234 t235 t236 t237 t238 t241 _ ?side1 ?side2 A15.out).mono ?_
    (case side1 => repeat (first | exact (Kd.R_reads' HO230.out).2.2 | (with_reducible refine Kd.C_alloc ?_ _) | (with_reducible refine Kd.C_drewN ?_ _) | (with_reducible refine Kd.C_drew ?_)))
    (case side2 => exact (Kd.R_reads' HO230.out).2.1)
    rintro e w46 ⟨v239, rfl, ho0, hb⟩
    refine ⟨_, rfl, ?_⟩
    have n0_ := A_ (Kd.R_elder' (pr_ HO214) (Kd.R_base ho0) hb)
    have n1_ := A_ (Kd.R_elder' (pr_ HO223) (Kd.R_base ho0) hb)
    have n2_ := A_ (Kd.R_elder' (pr_ HO230) (Kd.R_base ho0) hb)
    have n3_ := A_ (Kd.R_lower (Kd.R_new' (Kd.R_new' (Kd.R_new' ho0 (Kd.R_lt (pr_ HO214))) (Kd.R_lt (pr_ HO223))) (Kd.R_lt (pr_ HO230))) (below_size (bl_ HB)))
    have n4_ := A_ (blk_below (pl_ BK207) hb)
    have n5_ := A_ (blk_below (pl_ BK208) hb)
    have n6_ := A_ (blk_below (pl_ BK225) hb)
    have n7_ := A_ (blk_below (pl_ BK231) hb)
    have n8_ := A_ (blk_below (pl_ BK242) hb)
    have n9_ := A_ (below_step (bl_ HB) hb)
    clear HO214
    clear HO223
    clear HO230
    clear BK207
    clear BK208
    clear BK225
    clear BK231
    clear BK242
    clear HB
    have HO214 := n0_
    have HO223 := n1_
    have HO230 := n2_
    have HO240 := n3_
    have BK207 := n4_
    have BK208 := n5_
    have BK225 := n6_
    have BK231 := n7_
    have BK242 := n8_
    have HB := n9_
    clear n0_ n1_ n2_ n3_ n4_ n5_ n6_ n7_ n8_ n9_
    (try clear hb)
    (try clear hb2)
    (try clear hk)
    (try clear hi)
    (try clear ho0)
    refine hK.out _ _ ⟨(blk_cell BK231.out 0).trans rfl, (blk_cell BK231.out 1).trans rfl, (blk_cell BK231.out 2).trans rfl, (blk_cell BK208.out 0).trans rfl, (blk_cell BK208.out 1).trans rfl, (blk_cell BK208.out 2).trans rfl, (blk_cell BK208.out 3).trans rfl⟩ (fun hHeld => ?_)
    clear hK K
    refine norm_ (a' := ?_) ?_ ?_
    rotate_left
    ·show Act.put _ (some 35) _ = _
     simp only [Act.put, List.setIfInBounds_toArray, List.set_cons_zero, List.set_cons_succ, i64_w, i32_w]
     rfl
    refine pure_ (i := 4) (N := some 31) (v := ?_) (a' := ?_) #[true, true, true, true, true, false, false, true, false, false] rfl rfl (any_of HT_.out (by kernel_rfl)) (fun _ _ _ h => h) (Or.inl ⟨by rfl, ?_⟩) ?_ ?_
    rotate_left
    ·intro w'
     go_simp
     with_reducible rfl
    rotate_left
    ·simp only [Act.put, List.setIfInBounds_toArray, List.set_cons_zero, List.set_cons_succ, i64_w, i32_w]
     rfl
    refine pure_ (i := 5) (N := some 36) (v := ?_) (a' := ?_) #[true, true, true, true, true, true, false, true, false, false] rfl rfl (any_of HT_.out (by kernel_rfl)) (fun _ _ _ h => h) (Or.inl ⟨by rfl, ?_⟩) ?_ ?_
    rotate_left
    ·intro w'
     go_simp
     with_reducible rfl
    rotate_left
    ·simp only [Act.put, List.setIfInBounds_toArray, List.set_cons_zero, List.set_cons_succ, i64_w, i32_w]
     rfl
    refine pure_ (i := 6) (N := some 37) (v := ?_) (a' := ?_) #[true, true, true, true, true, true, true, true, false, false] rfl rfl (any_of HT_.out (by kernel_rfl)) (fun _ _ _ h => h) (Or.inl ⟨by rfl, ?_⟩) ?_ ?_
    rotate_left
    ·intro w'
     go_simp
     with_reducible rfl
    rotate_left
    ·simp only [Act.put, List.setIfInBounds_toArray, List.set_cons_zero, List.set_cons_succ, i64_w, i32_w]
     rfl
    exact norm_ pa_ (hCont (v239, gb242) _ ⟨hHeld, (by (with_reducible repeat (first | apply Kd.R_alloc | apply Kd.R_drewN | apply Kd.R_drew)); exact Kd.R_mono HO214.out (fun _ hk => ⟨hk.1.1, ⟨hk.1.2, hk.2⟩⟩)), (by (with_reducible repeat (first | apply Kd.R_alloc | apply Kd.R_drewN | apply Kd.R_drew)); exact Kd.R_mono HO223.out (fun _ hk => ⟨hk.1.1, ⟨hk.1.2, hk.2⟩⟩)), (by (with_reducible repeat (first | apply Kd.R_alloc | apply Kd.R_drewN | apply Kd.R_drew)); exact Kd.R_mono HO230.out (fun _ hk => ⟨hk.1.1, ⟨hk.1.2, hk.2⟩⟩)), (by (with_reducible repeat (first | apply Kd.R_alloc | apply Kd.R_drewN | apply Kd.R_drew)); exact Kd.R_mono HO240.out (fun _ hk => ⟨hk.1.1.2, ⟨hk.1.2, hk.2⟩⟩)), (pl_ BK207), (pl_ BK208), (pl_ BK225), (pl_ BK231), (pl_ BK242), GW242.out, GE242.out, NB207_242.out, NB242_207.out, NB208_242.out, NB242_208.out, NB225_242.out, NB242_225.out, NB231_242.out, NB242_231.out, (bl_ HB)⟩)
  rintro ⟨v239, gb242⟩ w47 ⟨hS_, h0_, h1_, h2_, h3_, h4_, h5_, h6_, h7_, h8_, h9_, h10_, h11_, h12_, h13_, h14_, h15_, h16_, h17_, h18_, h19_⟩
  have n0_ : Aside0 (Kd.R k40 40 w47 w.heap.size (fun k_ => some k_ ≠ (.slice Ao31 t221.length co31 : Value).ownBlock ∧ some k_ ≠ (.slice Ao41 t228.length co41 : Value).ownBlock ∧ some k_ ≠ (v239 : Value).ownBlock) v213 t212) := ⟨h0_⟩
  have n1_ : Aside0 (Kd.R k40 40 w47 w.heap.size (fun k_ => some k_ ≠ (v213 : Value).ownBlock ∧ some k_ ≠ (.slice Ao41 t228.length co41 : Value).ownBlock ∧ some k_ ≠ (v239 : Value).ownBlock) (.slice Ao31 t221.length co31) t221) := ⟨h1_⟩
  have n2_ : Aside0 (Kd.R k40 40 w47 w.heap.size (fun k_ => some k_ ≠ (v213 : Value).ownBlock ∧ some k_ ≠ (.slice Ao31 t221.length co31 : Value).ownBlock ∧ some k_ ≠ (v239 : Value).ownBlock) (.slice Ao41 t228.length co41) t228) := ⟨h2_⟩
  have n3_ : Aside0 (Kd.R k40 40 w47 w.heap.size (fun k_ => some k_ ≠ (v213 : Value).ownBlock ∧ some k_ ≠ (.slice Ao31 t221.length co31 : Value).ownBlock ∧ some k_ ≠ (.slice Ao41 t228.length co41 : Value).ownBlock) v239 t238) := ⟨h3_⟩
  have n4_ : Aside0 (w47.heap[gb207]? = some (.cells #[.int .i8 a0_0, .int .i8 a0_1, .slice A0_2 l0_2.length c0_2] 25 (0, 0))) := ⟨h4_⟩
  have n5_ : Aside0 (w47.heap[gb208]? = some (.cells #[.int .i8 a1_0, .int .i8 a1_1, .int .i8 a1_2, .int .i8 a1_3] 37 (0, 0))) := ⟨h5_⟩
  have n6_ : Aside0 (w47.heap[gb225]? = some (.cells #[.int .i8 t219, .int .i8 t220, .slice Ao31 t221.length co31] 30 (0, 0))) := ⟨h6_⟩
  have n7_ : Aside0 (w47.heap[gb231]? = some (.cells #[.int .i8 t226, .int .i8 t227, .slice Ao41 t228.length co41] 30 (0, 0))) := ⟨h7_⟩
  have n8_ : Aside0 (w47.heap[gb242]? = some (.cells #[.int .i8 0, .int .i8 0, .slice none 0 0] 30 (0, 0))) := ⟨h8_⟩
  have n9_ : Aside0 (w.heap.size ≤ gb242) := ⟨h9_⟩
  have n10_ : Aside0 (w.heap.size ≤ gb242) := ⟨h10_⟩
  have n11_ : Aside0 (gb207 ≠ gb242) := ⟨h11_⟩
  have n12_ : Aside0 (gb242 ≠ gb207) := ⟨h12_⟩
  have n13_ : Aside0 (gb208 ≠ gb242) := ⟨h13_⟩
  have n14_ : Aside0 (gb242 ≠ gb208) := ⟨h14_⟩
  have n15_ : Aside0 (gb225 ≠ gb242) := ⟨h15_⟩
  have n16_ : Aside0 (gb242 ≠ gb225) := ⟨h16_⟩
  have n17_ : Aside0 (gb231 ≠ gb242) := ⟨h17_⟩
  have n18_ : Aside0 (gb242 ≠ gb231) := ⟨h18_⟩
  have n19_ : Aside0 (Below w.heap.size w w47) := ⟨h19_⟩
  clear HO214
  clear HO223
  clear HO230
  clear BK207
  clear BK208
  clear BK225
  clear BK231
  clear HB
  clear h0_ h1_ h2_ h3_ h4_ h5_ h6_ h7_ h8_ h9_ h10_ h11_ h12_ h13_ h14_ h15_ h16_ h17_ h18_ h19_
  have HO214 := n0_
  have HO223 := n1_
  have HO230 := n2_
  have HO240 := n3_
  have BK207 := n4_
  have BK208 := n5_
  have BK225 := n6_
  have BK231 := n7_
  have BK242 := n8_
  have GW242 := n9_
  have GE242 := n10_
  have NB207_242 := n11_
  have NB242_207 := n12_
  have NB208_242 := n13_
  have NB242_208 := n14_
  have NB225_242 := n15_
  have NB242_225 := n16_
  have NB231_242 := n17_
  have NB242_231 := n18_
  have HB := n19_
  clear n0_ n1_ n2_ n3_ n4_ n5_ n6_ n7_ n8_ n9_ n10_ n11_ n12_ n13_ n14_ n15_ n16_ n17_ n18_ n19_
  have hHeld : w47.cell? ⟨gb231, 0, none⟩ = some (.int .i8 t226) ∧ w47.cell? ⟨gb231, 1, none⟩ = some (.int .i8 t227) ∧ w47.cell? ⟨gb231, 2, none⟩ = some (.slice Ao41 t228.length co41) ∧ w47.cell? ⟨gb208, 0, none⟩ = some (.int .i8 a1_0) ∧ w47.cell? ⟨gb208, 1, none⟩ = some (.int .i8 a1_1) ∧ w47.cell? ⟨gb208, 2, none⟩ = some (.int .i8 a1_2) ∧ w47.cell? ⟨gb208, 3, none⟩ = some (.int .i8 a1_3) := hS_
  obtain ⟨Ao50, co50, eo50⟩ := Kd.R_slice HO240.out
  (first | subst eo50 | (injection eo50 with f1_ f2_ f3_; have f4_ := f1_.symm; have f5_ := f3_.symm; clear f1_ f2_ f3_; subst f4_; subst f5_))
  refine norm_ (a' := ?_) ?_ ?_
  rotate_left
  ·simp only [putAll, Act.put, List.setIfInBounds_toArray, List.set_cons_zero, List.set_cons_succ]
   rfl
  refine one_ (i := 8) (N := none) #[true, true, true, true, true, true, true, true, true, false] rfl rfl (one_of HT_.out (by kernel_rfl)) (by decide) (fun K hK => ?_)
  have hs48 : w47.cell? ⟨gb242, 0, none⟩ = some (.int .i8 0) := (blk_cell BK242.out 0).trans rfl
  have hfs48 := blk_frozen BK242.out 0
  have hns48_0 := NB207_242.out
  have hns48_1 := NB208_242.out
  have hns48_2 := NB225_242.out
  have hns48_3 := NB231_242.out
  have hms48_0 := NB242_207.out
  have hms48_1 := NB242_208.out
  have hms48_2 := NB242_225.out
  have hms48_3 := NB242_231.out
  have hs49 : w47.cell? ⟨gb242, 1, none⟩ = some (.int .i8 0) := (blk_cell BK242.out 1).trans rfl
  have hfs49 := blk_frozen BK242.out 1
  have hns49_0 := NB207_242.out
  have hns49_1 := NB208_242.out
  have hns49_2 := NB225_242.out
  have hns49_3 := NB231_242.out
  have hms49_0 := NB242_207.out
  have hms49_1 := NB242_208.out
  have hms49_2 := NB242_225.out
  have hms49_3 := NB242_231.out
  have hs51 : w47.cell? ⟨gb242, 2, none⟩ = some (.slice none 0 0) := (blk_cell BK242.out 2).trans rfl
  have hfs51 := blk_frozen BK242.out 2
  have hns51_0 := NB207_242.out
  have hns51_1 := NB208_242.out
  have hns51_2 := NB225_242.out
  have hns51_3 := NB231_242.out
  have hms51_0 := NB242_207.out
  have hms51_1 := NB242_208.out
  have hms51_2 := NB242_225.out
  have hms51_3 := NB242_231.out
  refine skip_ (w1 := ?_) (by rfl) rfl ?_ ?_
  rotate_left
  ·go_simp
   rfl
  refine hK.out _ _ ⟨(cf3_ NB231_242 (hHeld.1)), (cf3_ NB231_242 (hHeld.2.1)), (cf3_ NB231_242 (hHeld.2.2.1)), (cf3_ NB208_242 (hHeld.2.2.2.1)), (cf3_ NB208_242 (hHeld.2.2.2.2.1)), (cf3_ NB208_242 (hHeld.2.2.2.2.2.1)), (cf3_ NB208_242 (hHeld.2.2.2.2.2.2))⟩ (fun hHeld => ?_)
  clear hK K
  refine pure_ (i := 9) (N := some 10) (v := ?_) (a' := ?_) #[true, true, true, true, true, true, true, true, true, true] rfl rfl (any_of HT_.out (by kernel_rfl)) (fun _ _ _ h => h) (Or.inl ⟨by rfl, ?_⟩) ?_ ?_
  rotate_left
  ·intro w'
   go_simp
   with_reducible rfl
  rotate_left
  ·simp only [Act.put, List.setIfInBounds_toArray, List.set_cons_zero, List.set_cons_succ, i64_w, i32_w]
   rfl
  refine done_ (done_of HT_.out (by kernel_rfl)) ?_
  go_upto_region 8 with (fail)
  go_cut [46] (fun v46 wc => ∃ (kq : Nat) (x46_15 : Bool), v46 = .bool x46_15 ∧ Aside0 (laws_FnExactAddWord.j0 kq t224 t241 x46_15 a0_0 a0_1 l0_2 a1_0 a1_1 a1_2 a1_3 t219 t220 t221 t226 t227 t228 t236 t237 t238 = some r) ∧ Aside0 (kq ≤ k) ∧ Aside0 (Kd.R k40 40 wc w.heap.size (fun k_ => some k_ ≠ ((.slice Ao41 t228.length co41) : Value).ownBlock ∧ some k_ ≠ ((.slice Ao50 t238.length co50) : Value).ownBlock) (.slice Ao31 t221.length co31) t221) ∧ Aside0 (Kd.R k40 40 wc w.heap.size (fun k_ => some k_ ≠ ((.slice Ao31 t221.length co31) : Value).ownBlock ∧ some k_ ≠ ((.slice Ao50 t238.length co50) : Value).ownBlock) (.slice Ao41 t228.length co41) t228) ∧ Aside0 (Kd.R k40 40 wc w.heap.size (fun k_ => some k_ ≠ ((.slice Ao31 t221.length co31) : Value).ownBlock ∧ some k_ ≠ ((.slice Ao41 t228.length co41) : Value).ownBlock) (.slice Ao50 t238.length co50) t238) ∧ Aside0 (wc.heap[gb207]? = some (.cells #[.int .i8 a0_0, .int .i8 a0_1, (.slice A0_2 l0_2.length c0_2)] 25 (0, 0))) ∧ Aside0 (wc.heap[gb208]? = some (.cells #[.int .i8 a1_0, .int .i8 a1_1, .int .i8 a1_2, .int .i8 a1_3] 37 (0, 0))) ∧ Aside0 (wc.heap[gb225]? = some (.cells #[.int .i8 t219, .int .i8 t220, (.slice Ao31 t221.length co31)] 30 (0, 0))) ∧ Aside0 (wc.heap[gb231]? = some (.cells #[.int .i8 t226, .int .i8 t227, (.slice Ao41 t228.length co41)] 30 (0, 0))) ∧ Aside0 (wc.heap[gb242]? = some (.cells #[.int .i8 t236, .int .i8 t237, (.slice Ao50 t238.length co50)] 30 (0, 0))) ∧ Aside0 (Below w.heap.size w wc))
  case first =>
   have H := HC16.out
   clear HC16
   replace H := Option.bind_eq_some_iff.mp H
   obtain ⟨t243, A520, H⟩ := H
   replace H : (if t243 = true then (laws_FnExactAddWord.j0 k t224 t241 (t241 != t224) a0_0 a0_1 l0_2 a1_0 a1_1 a1_2 a1_3 t219 t220 t221 t226 t227 t228 t236 t237 t238) else (laws_FnExactAddWord.j0 k t224 t241 true a0_0 a0_1 l0_2 a1_0 a1_1 a1_2 a1_3 t219 t220 t221 t226 t227 t228 t236 t237 t238)) = some r := H
   have A52 := Aside0.mk A520
   clear A520
   by_cases c53 : t243 = true
   ·subst c53
    have H1 : (laws_FnExactAddWord.j0 k t224 t241 (t241 != t224) a0_0 a0_1 l0_2 a1_0 a1_1 a1_2 a1_3 t219 t220 t221 t226 t227 t228 t236 t237 t238) = some r := by rw [if_pos rfl] at H; exact H
    clear H
    have H := H1
    clear H1
    have H' := Aside0.mk H
    clear H
    have hnb54 := NB242_207.out
    have hnc54 := NB207_242.out
    have hnb55 := NB242_208.out
    have hnc55 := NB208_242.out
    have hnb56 := NB242_225.out
    have hnc56 := NB225_242.out
    have hnb57 := NB242_231.out
    have hnc57 := NB231_242.out
    have hcz58_0 : w47.cell? ⟨gb242, 0, none⟩ = some (.int .i8 0) := (blk_cell BK242.out 0).trans rfl
    have hcz58_1 : w47.cell? ⟨gb242, 1, none⟩ = some (.int .i8 0) := (blk_cell BK242.out 1).trans rfl
    have hcz58_2 : w47.cell? ⟨gb242, 2, none⟩ = some (.slice none 0 0) := (blk_cell BK242.out 2).trans rfl
    have hfz58_0 := blk_frozen BK242.out 0
    have hfz58_1 := blk_frozen BK242.out 1
    have hfz58_2 := blk_frozen BK242.out 2
    have hnb59 := NB225_207.out
    have hnc59 := NB207_225.out
    have hnb60 := NB225_208.out
    have hnc60 := NB208_225.out
    have hnb61 := NB225_231.out
    have hnc61 := NB231_225.out
    have hcz62_0 : w47.cell? ⟨gb225, 0, none⟩ = some (.int .i8 t219) := (blk_cell BK225.out 0).trans rfl
    have hcz62_1 : w47.cell? ⟨gb225, 1, none⟩ = some (.int .i8 t220) := (blk_cell BK225.out 1).trans rfl
    have hcz62_2 : w47.cell? ⟨gb225, 2, none⟩ = some (.slice Ao31 t221.length co31) := (blk_cell BK225.out 2).trans rfl
    have hfz62_0 := blk_frozen BK225.out 0
    have hfz62_1 := blk_frozen BK225.out 1
    have hfz62_2 := blk_frozen BK225.out 2
    go_wp2_with (first | ((with_reducible refine gate_callee (f := 13) rfl ?_); refine goesL_ (some 40) rfl rfl Try.func13 (by kernel_rfl) rfl #[.agg #[.int .i8 t236, .int .i8 t237, .slice Ao50 t238.length co50], .agg #[.int .i8 t219, .int .i8 t220, .slice Ao31 t221.length co31]] rfl arg_ ?_; (with_reducible refine (laws_eqFixed.calls k t236 t237 _ _ t238 t219 t220 _ _ t221 true _ ?side1 ?side2 ?side3 ?side4 A52.out).mono ?_); (case side1 => refine (Kd.R_reads' (e := 40) (base := w.heap.size) (ok := fun k_ => (some k_ ≠ (v213 : Value).ownBlock ∧ (some k_ ≠ (.slice Ao31 t221.length co31 : Value).ownBlock ∧ some k_ ≠ (.slice Ao41 t228.length co41 : Value).ownBlock))) (n := t238.length) (c := co50) ?_).2.2; exact (by (with_reducible repeat (first | apply Kd.R_alloc | apply Kd.R_drewN | apply Kd.R_drew)); exact (rf3_ HO240 BK242 (by decide)))); (case side2 => exact (Kd.R_reads' HO240.out).2.1); (case side3 => refine (Kd.R_reads' (e := 40) (base := w.heap.size) (ok := fun k_ => (some k_ ≠ (v213 : Value).ownBlock ∧ (some k_ ≠ (.slice Ao41 t228.length co41 : Value).ownBlock ∧ some k_ ≠ (.slice Ao50 t238.length co50 : Value).ownBlock))) (n := t221.length) (c := co31) ?_).2.2; exact (by (with_reducible repeat (first | apply Kd.R_alloc | apply Kd.R_drewN | apply Kd.R_drew)); exact (rf3_ HO223 BK242 (by decide)))); (case side4 => exact (Kd.R_reads' HO223.out).2.1); rintro e w63 ⟨rfl, hb⟩; refine ⟨_, rfl, ?_⟩; have n0_ := A_ (Kd.R_below (by (with_reducible repeat (first | apply Kd.R_alloc | apply Kd.R_drewN | apply Kd.R_drew)); exact (rf3_ HO214 BK242 (by decide))) hb); have n1_ := A_ (Kd.R_below (by (with_reducible repeat (first | apply Kd.R_alloc | apply Kd.R_drewN | apply Kd.R_drew)); exact (rf3_ HO223 BK242 (by decide))) hb); have n2_ := A_ (Kd.R_below (by (with_reducible repeat (first | apply Kd.R_alloc | apply Kd.R_drewN | apply Kd.R_drew)); exact (rf3_ HO230 BK242 (by decide))) hb); have n3_ := A_ (Kd.R_below (by (with_reducible repeat (first | apply Kd.R_alloc | apply Kd.R_drewN | apply Kd.R_drew)); exact (rf3_ HO240 BK242 (by decide))) hb); have n4_ := A_ (blk_below (g := gb207) (o := .cells #[.int .i8 a0_0, .int .i8 a0_1, .slice A0_2 l0_2.length c0_2] 25 (0, 0)) (pf_ BK207 NB207_242) hb); have n5_ := A_ (blk_below (g := gb208) (o := .cells #[.int .i8 a1_0, .int .i8 a1_1, .int .i8 a1_2, .int .i8 a1_3] 37 (0, 0)) (pf_ BK208 NB208_242) hb); have n6_ := A_ (blk_below (g := gb225) (o := .cells #[.int .i8 t219, .int .i8 t220, .slice Ao31 t221.length co31] 30 (0, 0)) (pf_ BK225 NB225_242) hb); have n7_ := A_ (blk_below (g := gb231) (o := .cells #[.int .i8 t226, .int .i8 t227, .slice Ao41 t228.length co41] 30 (0, 0)) (pf_ BK231 NB231_242) hb); have n8_ := A_ (blk_below (g := gb242) (o := .cells #[.int .i8 t236, .int .i8 t237, .slice Ao50 t238.length co50] 30 (0, 0)) (by (with_reducible repeat (first | refine blk_drewN ?_ _ | refine blk_drew ?_ | refine blk_alloc ?_ _)); refine blk_put (cs := #[.int .i8 t236, .int .i8 t237, .slice none 0 0]) ?_ 2 _ rfl; (with_reducible repeat (first | refine blk_drewN ?_ _ | refine blk_drew ?_ | refine blk_alloc ?_ _)); refine blk_put (cs := #[.int .i8 t236, .int .i8 0, .slice none 0 0]) ?_ 1 _ rfl; (with_reducible repeat (first | refine blk_drewN ?_ _ | refine blk_drew ?_ | refine blk_alloc ?_ _)); refine blk_put (cs := #[.int .i8 0, .int .i8 0, .slice none 0 0]) ?_ 0 _ rfl; (with_reducible repeat (first | refine blk_drewN ?_ _ | refine blk_drew ?_ | refine blk_alloc ?_ _)); exact BK242.out) hb); have n9_ := A_ (below_step (bs_ HB GE242) hb); clear HO214; clear HO223; clear HO230; clear HO240; clear BK207; clear BK208; clear BK225; clear BK231; clear BK242; clear HB; have HO214 := n0_; have HO223 := n1_; have HO230 := n2_; have HO240 := n3_; have BK207 := n4_; have BK208 := n5_; have BK225 := n6_; have BK231 := n7_; have BK242 := n8_; have HB := n9_; clear n0_ n1_ n2_ n3_ n4_ n5_ n6_ n7_ n8_ n9_; (try clear hb); (try clear hb2); (try clear hk); (try clear hi)))
    go_meet
    case rel => exact ⟨_, ((t241 != t224)), rs_, H', ⟨by first | omega | exact Nat.le_refl _⟩, ⟨by (with_reducible repeat (first | apply Kd.R_alloc | apply Kd.R_drewN | apply Kd.R_drew)); exact Kd.R_mono HO223.out (fun _ hk => ⟨hk.2.1, hk.2.2⟩)⟩, ⟨by (with_reducible repeat (first | apply Kd.R_alloc | apply Kd.R_drewN | apply Kd.R_drew)); exact Kd.R_mono HO230.out (fun _ hk => ⟨hk.2.1, hk.2.2⟩)⟩, ⟨by (with_reducible repeat (first | apply Kd.R_alloc | apply Kd.R_drewN | apply Kd.R_drew)); exact Kd.R_mono HO240.out (fun _ hk => ⟨hk.2.1, hk.2.2⟩)⟩, ⟨pl_ BK207⟩, ⟨pl_ BK208⟩, ⟨pl_ BK225⟩, ⟨pl_ BK231⟩, ⟨pl_ BK242⟩, ⟨bl_ HB⟩⟩
   ·replace c53 := Bool.eq_false_iff.mpr c53
    subst c53
    have H1 : (laws_FnExactAddWord.j0 k t224 t241 true a0_0 a0_1 l0_2 a1_0 a1_1 a1_2 a1_3 t219 t220 t221 t226 t227 t228 t236 t237 t238) = some r := by rw [if_neg (show ¬ (false = true) by decide)] at H; exact H
    clear H
    have H := H1
    clear H1
    have H' := Aside0.mk H
    clear H
    have hnb64 := NB242_207.out
    have hnc64 := NB207_242.out
    have hnb65 := NB242_208.out
    have hnc65 := NB208_242.out
    have hnb66 := NB242_225.out
    have hnc66 := NB225_242.out
    have hnb67 := NB242_231.out
    have hnc67 := NB231_242.out
    have hcz68_0 : w47.cell? ⟨gb242, 0, none⟩ = some (.int .i8 0) := (blk_cell BK242.out 0).trans rfl
    have hcz68_1 : w47.cell? ⟨gb242, 1, none⟩ = some (.int .i8 0) := (blk_cell BK242.out 1).trans rfl
    have hcz68_2 : w47.cell? ⟨gb242, 2, none⟩ = some (.slice none 0 0) := (blk_cell BK242.out 2).trans rfl
    have hfz68_0 := blk_frozen BK242.out 0
    have hfz68_1 := blk_frozen BK242.out 1
    have hfz68_2 := blk_frozen BK242.out 2
    have hnb69 := NB225_207.out
    have hnc69 := NB207_225.out
    have hnb70 := NB225_208.out
    have hnc70 := NB208_225.out
    have hnb71 := NB225_231.out
    have hnc71 := NB231_225.out
    have hcz72_0 : w47.cell? ⟨gb225, 0, none⟩ = some (.int .i8 t219) := (blk_cell BK225.out 0).trans rfl
    have hcz72_1 : w47.cell? ⟨gb225, 1, none⟩ = some (.int .i8 t220) := (blk_cell BK225.out 1).trans rfl
    have hcz72_2 : w47.cell? ⟨gb225, 2, none⟩ = some (.slice Ao31 t221.length co31) := (blk_cell BK225.out 2).trans rfl
    have hfz72_0 := blk_frozen BK225.out 0
    have hfz72_1 := blk_frozen BK225.out 1
    have hfz72_2 := blk_frozen BK225.out 2
    go_wp2_with (first | ((with_reducible refine gate_callee (f := 13) rfl ?_); refine goesL_ (some 40) rfl rfl Try.func13 (by kernel_rfl) rfl #[.agg #[.int .i8 t236, .int .i8 t237, .slice Ao50 t238.length co50], .agg #[.int .i8 t219, .int .i8 t220, .slice Ao31 t221.length co31]] rfl arg_ ?_; (with_reducible refine (laws_eqFixed.calls k t236 t237 _ _ t238 t219 t220 _ _ t221 false _ ?side1 ?side2 ?side3 ?side4 A52.out).mono ?_); (case side1 => refine (Kd.R_reads' (e := 40) (base := w.heap.size) (ok := fun k_ => (some k_ ≠ (v213 : Value).ownBlock ∧ (some k_ ≠ (.slice Ao31 t221.length co31 : Value).ownBlock ∧ some k_ ≠ (.slice Ao41 t228.length co41 : Value).ownBlock))) (n := t238.length) (c := co50) ?_).2.2; exact (by (with_reducible repeat (first | apply Kd.R_alloc | apply Kd.R_drewN | apply Kd.R_drew)); exact (rf3_ HO240 BK242 (by decide)))); (case side2 => exact (Kd.R_reads' HO240.out).2.1); (case side3 => refine (Kd.R_reads' (e := 40) (base := w.heap.size) (ok := fun k_ => (some k_ ≠ (v213 : Value).ownBlock ∧ (some k_ ≠ (.slice Ao41 t228.length co41 : Value).ownBlock ∧ some k_ ≠ (.slice Ao50 t238.length co50 : Value).ownBlock))) (n := t221.length) (c := co31) ?_).2.2; exact (by (with_reducible repeat (first | apply Kd.R_alloc | apply Kd.R_drewN | apply Kd.R_drew)); exact (rf3_ HO223 BK242 (by decide)))); (case side4 => exact (Kd.R_reads' HO223.out).2.1); rintro e w73 ⟨rfl, hb⟩; refine ⟨_, rfl, ?_⟩; have n0_ := A_ (Kd.R_below (by (with_reducible repeat (first | apply Kd.R_alloc | apply Kd.R_drewN | apply Kd.R_drew)); exact (rf3_ HO214 BK242 (by decide))) hb); have n1_ := A_ (Kd.R_below (by (with_reducible repeat (first | apply Kd.R_alloc | apply Kd.R_drewN | apply Kd.R_drew)); exact (rf3_ HO223 BK242 (by decide))) hb); have n2_ := A_ (Kd.R_below (by (with_reducible repeat (first | apply Kd.R_alloc | apply Kd.R_drewN | apply Kd.R_drew)); exact (rf3_ HO230 BK242 (by decide))) hb); have n3_ := A_ (Kd.R_below (by (with_reducible repeat (first | apply Kd.R_alloc | apply Kd.R_drewN | apply Kd.R_drew)); exact (rf3_ HO240 BK242 (by decide))) hb); have n4_ := A_ (blk_below (g := gb207) (o := .cells #[.int .i8 a0_0, .int .i8 a0_1, .slice A0_2 l0_2.length c0_2] 25 (0, 0)) (pf_ BK207 NB207_242) hb); have n5_ := A_ (blk_below (g := gb208) (o := .cells #[.int .i8 a1_0, .int .i8 a1_1, .int .i8 a1_2, .int .i8 a1_3] 37 (0, 0)) (pf_ BK208 NB208_242) hb); have n6_ := A_ (blk_below (g := gb225) (o := .cells #[.int .i8 t219, .int .i8 t220, .slice Ao31 t221.length co31] 30 (0, 0)) (pf_ BK225 NB225_242) hb); have n7_ := A_ (blk_below (g := gb231) (o := .cells #[.int .i8 t226, .int .i8 t227, .slice Ao41 t228.length co41] 30 (0, 0)) (pf_ BK231 NB231_242) hb); have n8_ := A_ (blk_below (g := gb242) (o := .cells #[.int .i8 t236, .int .i8 t237, .slice Ao50 t238.length co50] 30 (0, 0)) (by (with_reducible repeat (first | refine blk_drewN ?_ _ | refine blk_drew ?_ | refine blk_alloc ?_ _)); refine blk_put (cs := #[.int .i8 t236, .int .i8 t237, .slice none 0 0]) ?_ 2 _ rfl; (with_reducible repeat (first | refine blk_drewN ?_ _ | refine blk_drew ?_ | refine blk_alloc ?_ _)); refine blk_put (cs := #[.int .i8 t236, .int .i8 0, .slice none 0 0]) ?_ 1 _ rfl; (with_reducible repeat (first | refine blk_drewN ?_ _ | refine blk_drew ?_ | refine blk_alloc ?_ _)); refine blk_put (cs := #[.int .i8 0, .int .i8 0, .slice none 0 0]) ?_ 0 _ rfl; (with_reducible repeat (first | refine blk_drewN ?_ _ | refine blk_drew ?_ | refine blk_alloc ?_ _)); exact BK242.out) hb); have n9_ := A_ (below_step (bs_ HB GE242) hb); clear HO214; clear HO223; clear HO230; clear HO240; clear BK207; clear BK208; clear BK225; clear BK231; clear BK242; clear HB; have HO214 := n0_; have HO223 := n1_; have HO230 := n2_; have HO240 := n3_; have BK207 := n4_; have BK208 := n5_; have BK225 := n6_; have BK231 := n7_; have BK242 := n8_; have HB := n9_; clear n0_ n1_ n2_ n3_ n4_ n5_ n6_ n7_ n8_ n9_; (try clear hb); (try clear hb2); (try clear hk); (try clear hi)))
    go_meet
    case rel => exact ⟨_, (true), rs_, H', ⟨by first | omega | exact Nat.le_refl _⟩, ⟨by (with_reducible repeat (first | apply Kd.R_alloc | apply Kd.R_drewN | apply Kd.R_drew)); exact Kd.R_mono HO223.out (fun _ hk => ⟨hk.2.1, hk.2.2⟩)⟩, ⟨by (with_reducible repeat (first | apply Kd.R_alloc | apply Kd.R_drewN | apply Kd.R_drew)); exact Kd.R_mono HO230.out (fun _ hk => ⟨hk.2.1, hk.2.2⟩)⟩, ⟨by (with_reducible repeat (first | apply Kd.R_alloc | apply Kd.R_drewN | apply Kd.R_drew)); exact Kd.R_mono HO240.out (fun _ hk => ⟨hk.2.1, hk.2.2⟩)⟩, ⟨pl_ BK207⟩, ⟨pl_ BK208⟩, ⟨pl_ BK225⟩, ⟨pl_ BK231⟩, ⟨pl_ BK242⟩, ⟨bl_ HB⟩⟩
  case rest =>
   clear HC16
   try clear c1
   try clear c2
   try clear p2
   try clear c5
   try clear c6
   try clear c7
   try clear c13
   try clear c19
   try clear c20
   try clear c53
   try clear c54
   try clear c55
   try clear c56
   try clear c57
   try clear c59
   try clear c60
   try clear c61
   try clear c64
   try clear c65
   try clear c66
   try clear c67
   try clear c69
   try clear c70
   try clear c71
   try clear hcz58_0
   try clear hcz58_1
   try clear hcz58_2
   try clear hcz62_0
   try clear hcz62_1
   try clear hcz62_2
   try clear hcz68_0
   try clear hcz68_1
   try clear hcz68_2
   try clear hcz72_0
   try clear hcz72_1
   try clear hcz72_2
   try clear hfz58_0
   try clear hfz58_1
   try clear hfz58_2
   try clear hfz62_0
   try clear hfz62_1
   try clear hfz62_2
   try clear hfz68_0
   try clear hfz68_1
   try clear hfz68_2
   try clear hfz72_0
   try clear hfz72_1
   try clear hfz72_2
   obtain ⟨kq, x46_15, rfl, HA, HJ15, HO_226002, HO_232002, HO_243002, BK207, BK208, BK225, BK231, BK242, HB⟩ := hcut
   cases kq with
   | zero => exact absurd HA.out (by simp [laws_FnExactAddWord.j0])
   | succ kj15 =>
    have H := HA.out
    clear HA
    simp only [laws_FnExactAddWord.j0] at H
    by_cases c74 : x46_15 = true
    ·subst c74
     have H1 : (some false) = some r := by rw [if_pos rfl] at H; exact H
     clear H
     have H := H1
     clear H1
     obtain rfl := Option.some.inj H
     go_wp2
     go_ret
     exact ⟨by first | rfl | (simp [errW_none, errW_some] <;> rfl) | (simp [*, errW_none, errW_some] <;> rfl), bl_ HB⟩
    ·replace c74 := Bool.eq_false_iff.mpr c74
     subst c74
     have H1 : ((laws_toFixed.f kj15 a0_0 a0_1 l0_2).bind fun bt244 => ((laws_eqFixed.f kj15 t226 t227 t228 bt244.1 bt244.2.1 bt244.2.2).bind fun t249 => (if t249 = true then ((laws_markFixed.f kj15 t226 t227 t228 1).bind fun bt250 => (if bt250.1 < 0 then (laws_FnExactAddWord.j1 kj15 t224 true a0_0 a0_1 l0_2 a1_0 a1_1 a1_2 a1_3 t219 t220 t221 t236 t237 t238) else ((laws_eqFixed.f kj15 t236 t237 t238 t219 t220 t221).bind fun t252 => (if t252 = true then (laws_FnExactAddWord.j1 kj15 t224 (t241 != t224) a0_0 a0_1 l0_2 a1_0 a1_1 a1_2 a1_3 t219 t220 t221 t236 t237 t238) else (laws_FnExactAddWord.j1 kj15 t224 true a0_0 a0_1 l0_2 a1_0 a1_1 a1_2 a1_3 t219 t220 t221 t236 t237 t238))))) else (some false)))) = some r := by rw [if_neg (show ¬ (false = true) by decide)] at H; exact H
     clear H
     have H := H1
     clear H1
     replace H := Option.bind_eq_some_iff.mp H
     obtain ⟨⟨t244, t245, t246⟩, A750, H⟩ := H
     replace H : ((laws_eqFixed.f kj15 t226 t227 t228 t244 t245 t246).bind fun t249 => (if t249 = true then ((laws_markFixed.f kj15 t226 t227 t228 1).bind fun bt250 => (if bt250.1 < 0 then (laws_FnExactAddWord.j1 kj15 t224 true a0_0 a0_1 l0_2 a1_0 a1_1 a1_2 a1_3 t219 t220 t221 t236 t237 t238) else ((laws_eqFixed.f kj15 t236 t237 t238 t219 t220 t221).bind fun t252 => (if t252 = true then (laws_FnExactAddWord.j1 kj15 t224 (t241 != t224) a0_0 a0_1 l0_2 a1_0 a1_1 a1_2 a1_3 t219 t220 t221 t236 t237 t238) else (laws_FnExactAddWord.j1 kj15 t224 true a0_0 a0_1 l0_2 a1_0 a1_1 a1_2 a1_3 t219 t220 t221 t236 t237 t238))))) else (some false))) = some r := H
     have A75 := Aside0.mk A750
     clear A750
     replace H := Option.bind_eq_some_iff.mp H
     obtain ⟨t249, A760, H⟩ := H
     replace H : (if t249 = true then ((laws_markFixed.f kj15 t226 t227 t228 1).bind fun bt250 => (if bt250.1 < 0 then (laws_FnExactAddWord.j1 kj15 t224 true a0_0 a0_1 l0_2 a1_0 a1_1 a1_2 a1_3 t219 t220 t221 t236 t237 t238) else ((laws_eqFixed.f kj15 t236 t237 t238 t219 t220 t221).bind fun t252 => (if t252 = true then (laws_FnExactAddWord.j1 kj15 t224 (t241 != t224) a0_0 a0_1 l0_2 a1_0 a1_1 a1_2 a1_3 t219 t220 t221 t236 t237 t238) else (laws_FnExactAddWord.j1 kj15 t224 true a0_0 a0_1 l0_2 a1_0 a1_1 a1_2 a1_3 t219 t220 t221 t236 t237 t238))))) else (some false)) = some r := H
     have A76 := Aside0.mk A760
     clear A760
     by_cases c77 : t249 = true
     ·subst c77
      have H1 : ((laws_markFixed.f kj15 t226 t227 t228 1).bind fun bt250 => (if bt250.1 < 0 then (laws_FnExactAddWord.j1 kj15 t224 true a0_0 a0_1 l0_2 a1_0 a1_1 a1_2 a1_3 t219 t220 t221 t236 t237 t238) else ((laws_eqFixed.f kj15 t236 t237 t238 t219 t220 t221).bind fun t252 => (if t252 = true then (laws_FnExactAddWord.j1 kj15 t224 (t241 != t224) a0_0 a0_1 l0_2 a1_0 a1_1 a1_2 a1_3 t219 t220 t221 t236 t237 t238) else (laws_FnExactAddWord.j1 kj15 t224 true a0_0 a0_1 l0_2 a1_0 a1_1 a1_2 a1_3 t219 t220 t221 t236 t237 t238))))) = some r := by rw [if_pos rfl] at H; exact H
      clear H
      have H := H1
      clear H1
      replace H := Option.bind_eq_some_iff.mp H
      obtain ⟨⟨t250, t251⟩, A780, H⟩ := H
      replace H : (if t250 < 0 then (laws_FnExactAddWord.j1 kj15 t224 true a0_0 a0_1 l0_2 a1_0 a1_1 a1_2 a1_3 t219 t220 t221 t236 t237 t238) else ((laws_eqFixed.f kj15 t236 t237 t238 t219 t220 t221).bind fun t252 => (if t252 = true then (laws_FnExactAddWord.j1 kj15 t224 (t241 != t224) a0_0 a0_1 l0_2 a1_0 a1_1 a1_2 a1_3 t219 t220 t221 t236 t237 t238) else (laws_FnExactAddWord.j1 kj15 t224 true a0_0 a0_1 l0_2 a1_0 a1_1 a1_2 a1_3 t219 t220 t221 t236 t237 t238)))) = some r := H
      have A78 := Aside0.mk A780
      clear A780
      have HC79 := Aside0.mk H
      clear H
      try go_wp2
      have n0_ := A_ (Kd.R_drew HO_226002.out)
      have n1_ := A_ (Kd.R_drew HO_232002.out)
      have n2_ := A_ (Kd.R_drew HO_243002.out)
      have n3_ := A_ (blk_drew BK207.out)
      have n4_ := A_ (blk_drew BK208.out)
      have n5_ := A_ (blk_drew BK225.out)
      have n6_ := A_ (blk_drew BK231.out)
      have n7_ := A_ (blk_drew BK242.out)
      have n8_ := A_ (below_drew1 HB.out)
      clear HO_226002
      clear HO_232002
      clear HO_243002
      clear BK207
      clear BK208
      clear BK225
      clear BK231
      clear BK242
      clear HB
      have HO_226002 := n0_
      have HO_232002 := n1_
      have HO_243002 := n2_
      have BK207 := n3_
      have BK208 := n4_
      have BK225 := n5_
      have BK231 := n6_
      have BK242 := n7_
      have HB := n8_
      clear n0_ n1_ n2_ n3_ n4_ n5_ n6_ n7_ n8_
      refine start_ (n := 5) (S := fun w' => w'.cell? ⟨gb231, 0, none⟩ = some (.int .i8 t226) ∧ w'.cell? ⟨gb231, 1, none⟩ = some (.int .i8 t227) ∧ w'.cell? ⟨gb231, 2, none⟩ = some (.slice Ao41 t228.length co41) ∧ w'.cell? ⟨gb207, 0, none⟩ = some (.int .i8 a0_0) ∧ w'.cell? ⟨gb207, 1, none⟩ = some (.int .i8 a0_1) ∧ w'.cell? ⟨gb207, 2, none⟩ = some (.slice A0_2 l0_2.length c0_2)) (ds := []) #[false, false, false, false, false] (by kernel_rfl) rfl rfl ⟨(blk_cell BK231.out 0).trans rfl, (blk_cell BK231.out 1).trans rfl, (blk_cell BK231.out 2).trans rfl, (blk_cell BK207.out 0).trans rfl, (blk_cell BK207.out 1).trans rfl, (blk_cell BK207.out 2).trans rfl⟩ (fun hHeld => ?_)
      generalize wc.drew = w80 at HO_226002 HO_232002 HO_243002 BK207 BK208 BK225 BK231 BK242 HB hHeld ⊢
      refine take_ (i := 0) (N := some 47) (v := ?_) (a' := ?_) #[true, false, false, false, false] rfl rfl (by kernel_rfl) (fun _ _ _ h => h) (Or.inl ⟨by rfl, ?_⟩) hHeld ?_ ?_
      rotate_left
      ·rintro w' ⟨s0, s1, s2, s3, s4, s5⟩
       go_simp
       with_reducible rfl
      rotate_left
      ·simp only [Act.put, List.setIfInBounds_toArray, List.set_cons_zero, List.set_cons_succ, i64_w, i32_w]
       rfl
      refine take_ (i := 1) (N := some 48) (v := ?_) (a' := ?_) #[true, true, false, false, false] rfl rfl (by kernel_rfl) (fun _ _ _ h => h) (Or.inl ⟨by rfl, ?_⟩) hHeld ?_ ?_
      rotate_left
      ·rintro w' ⟨s0, s1, s2, s3, s4, s5⟩
       go_simp
       with_reducible rfl
      rotate_left
      ·simp only [Act.put, List.setIfInBounds_toArray, List.set_cons_zero, List.set_cons_succ, i64_w, i32_w]
       rfl
      refine one_ (i := 2) (N := some 49) #[true, true, true, false, false] rfl rfl (by kernel_rfl) (by decide) (fun K hK => ?_)
      refine goes_ Try.func11 (by kernel_rfl) rfl #[.agg #[.int .i8 a0_0, .int .i8 a0_1, .slice A0_2 l0_2.length c0_2]] (by rfl) rfl rfl arg_ ?_
      with_reducible refine (laws_toFixed.calls kj15 a0_0 a0_1 _ _ l0_2 t244 t245 t246 _ ?side1 ?side2 A75.out).mono ?_
      (case side1 => repeat (first | exact (Kd.C_below HR0_2.out HB.out) | (with_reducible refine Kd.C_alloc ?_ _) | (with_reducible refine Kd.C_drewN ?_ _) | (with_reducible refine Kd.C_drew ?_)))
      (case side2 => exact HC0_2.out)
      rintro e w81 ⟨v247, rfl, ho0, hb⟩
      refine ⟨_, rfl, ?_⟩
      have n0_ := A_ (Kd.R_elder' (pr_ HO_226002) (Kd.R_base ho0) hb)
      have n1_ := A_ (Kd.R_elder' (pr_ HO_232002) (Kd.R_base ho0) hb)
      have n2_ := A_ (Kd.R_elder' (pr_ HO_243002) (Kd.R_base ho0) hb)
      have n3_ := A_ (Kd.R_lower (Kd.R_new' (Kd.R_new' (Kd.R_new' ho0 (Kd.R_lt (pr_ HO_226002))) (Kd.R_lt (pr_ HO_232002))) (Kd.R_lt (pr_ HO_243002))) (below_size (bl_ HB)))
      have n4_ := A_ (blk_below (pl_ BK207) hb)
      have n5_ := A_ (blk_below (pl_ BK208) hb)
      have n6_ := A_ (blk_below (pl_ BK225) hb)
      have n7_ := A_ (blk_below (pl_ BK231) hb)
      have n8_ := A_ (blk_below (pl_ BK242) hb)
      have n9_ := A_ (below_step (bl_ HB) hb)
      clear HO_226002
      clear HO_232002
      clear HO_243002
      clear BK207
      clear BK208
      clear BK225
      clear BK231
      clear BK242
      clear HB
      have HO_226002 := n0_
      have HO_232002 := n1_
      have HO_243002 := n2_
      have HO248 := n3_
      have BK207 := n4_
      have BK208 := n5_
      have BK225 := n6_
      have BK231 := n7_
      have BK242 := n8_
      have HB := n9_
      clear n0_ n1_ n2_ n3_ n4_ n5_ n6_ n7_ n8_ n9_
      (try clear hb)
      (try clear hb2)
      (try clear hk)
      (try clear hi)
      (try clear ho0)
      obtain ⟨Ao82, co82, eo82⟩ := Kd.R_slice HO248.out
      (first | subst eo82 | (injection eo82 with f1_ f2_ f3_; have f4_ := f1_.symm; have f5_ := f3_.symm; clear f1_ f2_ f3_; subst f4_; subst f5_))
      refine hK.out _ _ ⟨(blk_cell BK231.out 0).trans rfl, (blk_cell BK231.out 1).trans rfl, (blk_cell BK231.out 2).trans rfl, (blk_cell BK207.out 0).trans rfl, (blk_cell BK207.out 1).trans rfl, (blk_cell BK207.out 2).trans rfl⟩ (fun hHeld => ?_)
      clear hK K
      refine norm_ (a' := ?_) ?_ ?_
      rotate_left
      ·show Act.put _ (some 49) _ = _
       simp only [Act.put, List.setIfInBounds_toArray, List.set_cons_zero, List.set_cons_succ, i64_w, i32_w]
       rfl
      refine one_ (i := 3) (N := some 50) #[true, true, true, true, false] rfl rfl (by kernel_rfl) (by decide) (fun K hK => ?_)
      refine goes_ Try.func13 (by kernel_rfl) rfl #[.agg #[.int .i8 t226, .int .i8 t227, .slice Ao41 t228.length co41], .agg #[.int .i8 t244, .int .i8 t245, .slice Ao82 t246.length co82]] (by rfl) rfl rfl arg_ ?_
      with_reducible refine (laws_eqFixed.calls kj15 t226 t227 _ _ t228 t244 t245 _ _ t246 true _ ?side1 ?side2 ?side3 ?side4 A76.out).mono ?_
      (case side1 => repeat (first | exact (Kd.R_reads' HO_232002.out).2.2 | (with_reducible refine Kd.C_alloc ?_ _) | (with_reducible refine Kd.C_drewN ?_ _) | (with_reducible refine Kd.C_drew ?_)))
      (case side2 => exact (Kd.R_reads' HO_232002.out).2.1)
      (case side3 => repeat (first | exact (Kd.R_reads' HO248.out).2.2 | (with_reducible refine Kd.C_alloc ?_ _) | (with_reducible refine Kd.C_drewN ?_ _) | (with_reducible refine Kd.C_drew ?_)))
      (case side4 => exact (Kd.R_reads' HO248.out).2.1)
      rintro e w83 ⟨rfl, hb⟩
      refine ⟨_, rfl, ?_⟩
      have n0_ := A_ (Kd.R_below (pr_ HO_226002) hb)
      have n1_ := A_ (Kd.R_below (pr_ HO_232002) hb)
      have n2_ := A_ (Kd.R_below (pr_ HO_243002) hb)
      have n3_ := A_ (Kd.R_below (pr_ HO248) hb)
      have n4_ := A_ (blk_below (pl_ BK207) hb)
      have n5_ := A_ (blk_below (pl_ BK208) hb)
      have n6_ := A_ (blk_below (pl_ BK225) hb)
      have n7_ := A_ (blk_below (pl_ BK231) hb)
      have n8_ := A_ (blk_below (pl_ BK242) hb)
      have n9_ := A_ (below_step (bl_ HB) hb)
      clear HO_226002
      clear HO_232002
      clear HO_243002
      clear HO248
      clear BK207
      clear BK208
      clear BK225
      clear BK231
      clear BK242
      clear HB
      have HO_226002 := n0_
      have HO_232002 := n1_
      have HO_243002 := n2_
      have HO248 := n3_
      have BK207 := n4_
      have BK208 := n5_
      have BK225 := n6_
      have BK231 := n7_
      have BK242 := n8_
      have HB := n9_
      clear n0_ n1_ n2_ n3_ n4_ n5_ n6_ n7_ n8_ n9_
      (try clear hb)
      (try clear hb2)
      (try clear hk)
      (try clear hi)
      refine hK.out _ _ ⟨(blk_cell BK231.out 0).trans rfl, (blk_cell BK231.out 1).trans rfl, (blk_cell BK231.out 2).trans rfl, (blk_cell BK207.out 0).trans rfl, (blk_cell BK207.out 1).trans rfl, (blk_cell BK207.out 2).trans rfl⟩ (fun hHeld => ?_)
      clear hK K
      refine norm_ (a' := ?_) ?_ ?_
      rotate_left
      ·show Act.put _ (some 50) _ = _
       simp only [Act.put, List.setIfInBounds_toArray, List.set_cons_zero, List.set_cons_succ, i64_w, i32_w]
       rfl
      refine pure_ (i := 4) (N := some 51) (v := ?_) (a' := ?_) #[true, true, true, true, true] rfl rfl (by kernel_rfl) (fun _ _ _ h => h) (Or.inl ⟨by rfl, ?_⟩) ?_ ?_
      rotate_left
      ·intro w'
       go_simp
       with_reducible rfl
      rotate_left
      ·simp only [Act.put, List.setIfInBounds_toArray, List.set_cons_zero, List.set_cons_succ, i64_w, i32_w]
       rfl
      refine done_ (by kernel_rfl) ?_
      have hnb84 := NB231_207.out
      have hnc84 := NB207_231.out
      have hnb85 := NB231_208.out
      have hnc85 := NB208_231.out
      have hnb86 := NB231_225.out
      have hnc86 := NB225_231.out
      have hnb87 := NB231_242.out
      have hnc87 := NB242_231.out
      have hcz88_0 : w83.cell? ⟨gb231, 0, none⟩ = some (.int .i8 t226) := (blk_cell BK231.out 0).trans rfl
      have hcz88_1 : w83.cell? ⟨gb231, 1, none⟩ = some (.int .i8 t227) := (blk_cell BK231.out 1).trans rfl
      have hcz88_2 : w83.cell? ⟨gb231, 2, none⟩ = some (.slice Ao41 t228.length co41) := (blk_cell BK231.out 2).trans rfl
      have hfz88_0 := blk_frozen BK231.out 0
      have hfz88_1 := blk_frozen BK231.out 1
      have hfz88_2 := blk_frozen BK231.out 2
      go_upto_region 14 with (first | ((with_reducible refine gate_callee (f := 21) rfl ?_); refine goesL_ (some 54) rfl rfl Try.func21 (by kernel_rfl) rfl #[.agg #[.int .i8 t226, .int .i8 t227, .slice Ao41 t228.length co41], .int .i64 1] rfl arg_ ?_; (with_reducible refine (laws_markFixed.calls kj15 t226 t227 (fun k_ => some k_ = (.slice Ao41 t228.length co41 : Value).ownBlock) (.slice Ao41 t228.length co41) t228 1 t250 t251 w _ ?side1 ?side2 A78.out).mono ?_); (case side1 => repeat (first | (with_reducible first | exact HB.out | apply below_alloc | apply pw_below_drewN | apply below_drew1) | exact HB.out)); (case side2 => exact Kd.R_tight rfl HO_232002.out); rintro e w89 ⟨rfl, hy0, hb, hkp⟩; refine ⟨_, rfl, ?_⟩; have n0_ := A_ (Kd.R_mono (ok' := fun k_ => some k_ ≠ (.slice Ao41 t228.length co41 : Value).ownBlock ∧ some k_ ≠ (.slice Ao50 t238.length co50 : Value).ownBlock ∧ some k_ ≠ (.slice Ao82 t246.length co82 : Value).ownBlock) (Kd.R_keptB (HO_226002.out) hkp (fun k_ hk_ hs_ => (hk_.1.1) hs_)) (fun k_ hk_ => ⟨hk_.1.1.1, hk_.1.1.2, hk_.1.2⟩)); have n1_ := A_ (Kd.R_reok rfl hy0 (fun k_ e_ => HO_232002.out.1 k_ e_)); have n2_ := A_ (Kd.R_mono (ok' := fun k_ => some k_ ≠ (.slice Ao31 t221.length co31 : Value).ownBlock ∧ some k_ ≠ (.slice Ao41 t228.length co41 : Value).ownBlock ∧ some k_ ≠ (.slice Ao82 t246.length co82 : Value).ownBlock) (Kd.R_keptB (HO_243002.out) hkp (fun k_ hk_ hs_ => (hk_.1.2) hs_)) (fun k_ hk_ => ⟨hk_.1.1.1, hk_.1.1.2, hk_.1.2⟩)); have n3_ := A_ (blk_kept (pl_ BK207) hkp (fun hs_ => (fun e_ => (Kd.R_ne HO_232002.out BK207.out (by decide)) e_) hs_)); have n4_ := A_ (blk_kept (pl_ BK208) hkp (fun hs_ => (fun e_ => (Kd.R_ne HO_232002.out BK208.out (by decide)) e_) hs_)); have n5_ := A_ (blk_kept (pl_ BK225) hkp (fun hs_ => (fun e_ => (Kd.R_ne HO_232002.out BK225.out (by decide)) e_) hs_)); have n6_ := A_ (blk_kept (pl_ BK231) hkp (fun hs_ => (fun e_ => (Kd.R_ne HO_232002.out BK231.out (by decide)) e_) hs_)); have n7_ := A_ (blk_kept (pl_ BK242) hkp (fun hs_ => (fun e_ => (Kd.R_ne HO_232002.out BK242.out (by decide)) e_) hs_)); have n8_ := A_ (Kd.R_mono (ok' := fun k_ => some k_ ≠ (.slice Ao31 t221.length co31 : Value).ownBlock ∧ some k_ ≠ (.slice Ao41 t228.length co41 : Value).ownBlock ∧ some k_ ≠ (.slice Ao50 t238.length co50 : Value).ownBlock) (Kd.R_keptB (HO248.out) hkp (fun k_ hk_ hs_ => (hk_.1.2) hs_)) (fun k_ hk_ => ⟨hk_.1.1.1.2, hk_.1.1.2, hk_.1.2⟩)); have n9_ := A_ (hb); clear HO_226002; clear HO_232002; clear HO_243002; clear BK207; clear BK208; clear BK225; clear BK231; clear BK242; clear HO248; clear HB; have HO_226002 := n0_; have HO_232002 := n1_; have HO_243002 := n2_; have BK207 := n3_; have BK208 := n4_; have BK225 := n5_; have BK231 := n6_; have BK242 := n7_; have HO248 := n8_; have HB := n9_; clear n0_ n1_ n2_ n3_ n4_ n5_ n6_ n7_ n8_ n9_; (try clear hb); (try clear hkp); (try clear hy0)))
      (try simp only [Act.put, List.setIfInBounds_toArray, List.set_cons_zero, List.set_cons_succ])
      go_cut [67] (fun v67 wc => ∃ (kq : Nat) (x67_78 : Bool), v67 = .bool x67_78 ∧ Aside0 (laws_FnExactAddWord.j1 kq t224 x67_78 a0_0 a0_1 l0_2 a1_0 a1_1 a1_2 a1_3 t219 t220 t221 t236 t237 t238 = some r) ∧ Aside0 (kq ≤ kj15) ∧ Aside0 (Kd.R k40 40 wc w.heap.size (fun k_ => some k_ ≠ ((.slice Ao41 t228.length co41) : Value).ownBlock ∧ some k_ ≠ ((.slice Ao50 t238.length co50) : Value).ownBlock) (.slice Ao31 t221.length co31) t221) ∧ Aside0 (Kd.R k40 40 wc w.heap.size (fun k_ => some k_ ≠ ((.slice Ao31 t221.length co31) : Value).ownBlock ∧ some k_ ≠ ((.slice Ao50 t238.length co50) : Value).ownBlock) (.slice Ao41 t228.length co41) t251) ∧ Aside0 (Kd.R k40 40 wc w.heap.size (fun k_ => some k_ ≠ ((.slice Ao31 t221.length co31) : Value).ownBlock ∧ some k_ ≠ ((.slice Ao41 t228.length co41) : Value).ownBlock) (.slice Ao50 t238.length co50) t238) ∧ Aside0 (wc.heap[gb207]? = some (.cells #[.int .i8 a0_0, .int .i8 a0_1, (.slice A0_2 l0_2.length c0_2)] 25 (0, 0))) ∧ Aside0 (wc.heap[gb208]? = some (.cells #[.int .i8 a1_0, .int .i8 a1_1, .int .i8 a1_2, .int .i8 a1_3] 37 (0, 0))) ∧ Aside0 (wc.heap[gb225]? = some (.cells #[.int .i8 t219, .int .i8 t220, (.slice Ao31 t221.length co31)] 30 (0, 0))) ∧ Aside0 (wc.heap[gb231]? = some (.cells #[.int .i8 t226, .int .i8 t227, (.slice Ao41 t228.length co41)] 30 (0, 0))) ∧ Aside0 (wc.heap[gb242]? = some (.cells #[.int .i8 t236, .int .i8 t237, (.slice Ao50 t238.length co50)] 30 (0, 0))) ∧ Aside0 (Below w.heap.size w wc))
      case first =>
       have H := HC79.out
       clear HC79
       by_cases c90 : t250 < 0
       ·rw [if_pos c90] at H
        have c90b0 : decide (t250 < 0) = true := decide_eq_true c90
        clear c90
        (first | rw [c90b0] | (simp only [i64_w, i32_w]; rw [c90b0]) | skip)
        have H' := Aside0.mk H
        clear H
        go_wp2
        go_meet
        case rel => exact ⟨_, (true), rs_, H', ⟨by have := HJ15.out; first | omega | exact Nat.le_refl _⟩, ⟨by (with_reducible repeat (first | apply Kd.R_alloc | apply Kd.R_drewN | apply Kd.R_drew)); exact Kd.R_mono HO_226002.out (fun _ hk => ⟨hk.1, hk.2.1⟩)⟩, ⟨by (with_reducible repeat (first | apply Kd.R_alloc | apply Kd.R_drewN | apply Kd.R_drew)); exact Kd.R_mono HO_232002.out (fun _ hk => ⟨hk.1.1, hk.1.2⟩)⟩, ⟨by (with_reducible repeat (first | apply Kd.R_alloc | apply Kd.R_drewN | apply Kd.R_drew)); exact Kd.R_mono HO_243002.out (fun _ hk => ⟨hk.1, hk.2.1⟩)⟩, ⟨pl_ BK207⟩, ⟨pl_ BK208⟩, ⟨pl_ BK225⟩, ⟨pl_ BK231⟩, ⟨pl_ BK242⟩, ⟨bl_ HB⟩⟩
       ·rw [if_neg c90] at H
        have c90b0 : decide (t250 < 0) = false := decide_eq_false c90
        clear c90
        (first | rw [c90b0] | (simp only [i64_w, i32_w]; rw [c90b0]) | skip)
        replace H := Option.bind_eq_some_iff.mp H
        obtain ⟨t252, A910, H⟩ := H
        replace H : (if t252 = true then (laws_FnExactAddWord.j1 kj15 t224 (t241 != t224) a0_0 a0_1 l0_2 a1_0 a1_1 a1_2 a1_3 t219 t220 t221 t236 t237 t238) else (laws_FnExactAddWord.j1 kj15 t224 true a0_0 a0_1 l0_2 a1_0 a1_1 a1_2 a1_3 t219 t220 t221 t236 t237 t238)) = some r := H
        have A91 := Aside0.mk A910
        clear A910
        by_cases c92 : t252 = true
        ·subst c92
         have H1 : (laws_FnExactAddWord.j1 kj15 t224 (t241 != t224) a0_0 a0_1 l0_2 a1_0 a1_1 a1_2 a1_3 t219 t220 t221 t236 t237 t238) = some r := by rw [if_pos rfl] at H; exact H
         clear H
         have H := H1
         clear H1
         have H' := Aside0.mk H
         clear H
         have hnb93 := NB242_207.out
         have hnc93 := NB207_242.out
         have hnb94 := NB242_208.out
         have hnc94 := NB208_242.out
         have hnb95 := NB242_225.out
         have hnc95 := NB225_242.out
         have hnb96 := NB242_231.out
         have hnc96 := NB231_242.out
         have hcz97_0 : w89.cell? ⟨gb242, 0, none⟩ = some (.int .i8 t236) := (blk_cell BK242.out 0).trans rfl
         have hcz97_1 : w89.cell? ⟨gb242, 1, none⟩ = some (.int .i8 t237) := (blk_cell BK242.out 1).trans rfl
         have hcz97_2 : w89.cell? ⟨gb242, 2, none⟩ = some (.slice Ao50 t238.length co50) := (blk_cell BK242.out 2).trans rfl
         have hfz97_0 := blk_frozen BK242.out 0
         have hfz97_1 := blk_frozen BK242.out 1
         have hfz97_2 := blk_frozen BK242.out 2
         have hnb98 := NB225_207.out
         have hnc98 := NB207_225.out
         have hnb99 := NB225_208.out
         have hnc99 := NB208_225.out
         have hnb100 := NB225_231.out
         have hnc100 := NB231_225.out
         have hcz101_0 : w89.cell? ⟨gb225, 0, none⟩ = some (.int .i8 t219) := (blk_cell BK225.out 0).trans rfl
         have hcz101_1 : w89.cell? ⟨gb225, 1, none⟩ = some (.int .i8 t220) := (blk_cell BK225.out 1).trans rfl
         have hcz101_2 : w89.cell? ⟨gb225, 2, none⟩ = some (.slice Ao31 t221.length co31) := (blk_cell BK225.out 2).trans rfl
         have hfz101_0 := blk_frozen BK225.out 0
         have hfz101_1 := blk_frozen BK225.out 1
         have hfz101_2 := blk_frozen BK225.out 2
         go_wp2_with (first | (go_at_call 13; (with_reducible refine (laws_eqFixed.calls kj15 t236 t237 _ _ t238 t219 t220 _ _ t221 true _ ?side1 ?side2 ?side3 ?side4 A91.out).mono ?_); (case side1 => repeat (first | exact (Kd.R_reads' HO_243002.out).2.2 | (with_reducible refine Kd.C_alloc ?_ _) | (with_reducible refine Kd.C_drewN ?_ _) | (with_reducible refine Kd.C_drew ?_))); (case side2 => exact (Kd.R_reads' HO_243002.out).2.1); (case side3 => repeat (first | exact (Kd.R_reads' HO_226002.out).2.2 | (with_reducible refine Kd.C_alloc ?_ _) | (with_reducible refine Kd.C_drewN ?_ _) | (with_reducible refine Kd.C_drew ?_))); (case side4 => exact (Kd.R_reads' HO_226002.out).2.1); rintro e w102 ⟨rfl, hb⟩; have n0_ := A_ (Kd.R_below (pr_ HO_226002) hb); have n1_ := A_ (Kd.R_below (pr_ HO_232002) hb); have n2_ := A_ (Kd.R_below (pr_ HO_243002) hb); have n3_ := A_ (Kd.R_below (pr_ HO248) hb); have n4_ := A_ (blk_below (pl_ BK207) hb); have n5_ := A_ (blk_below (pl_ BK208) hb); have n6_ := A_ (blk_below (pl_ BK225) hb); have n7_ := A_ (blk_below (pl_ BK231) hb); have n8_ := A_ (blk_below (pl_ BK242) hb); have n9_ := A_ (below_step (bl_ HB) hb); clear HO_226002; clear HO_232002; clear HO_243002; clear HO248; clear BK207; clear BK208; clear BK225; clear BK231; clear BK242; clear HB; have HO_226002 := n0_; have HO_232002 := n1_; have HO_243002 := n2_; have HO248 := n3_; have BK207 := n4_; have BK208 := n5_; have BK225 := n6_; have BK231 := n7_; have BK242 := n8_; have HB := n9_; clear n0_ n1_ n2_ n3_ n4_ n5_ n6_ n7_ n8_ n9_; (try clear hb); (try clear hb2); (try clear hk); (try clear hi)))
         go_meet
         case rel => exact ⟨_, ((t241 != t224)), rs_, H', ⟨by have := HJ15.out; first | omega | exact Nat.le_refl _⟩, ⟨by (with_reducible repeat (first | apply Kd.R_alloc | apply Kd.R_drewN | apply Kd.R_drew)); exact Kd.R_mono HO_226002.out (fun _ hk => ⟨hk.1, hk.2.1⟩)⟩, ⟨by (with_reducible repeat (first | apply Kd.R_alloc | apply Kd.R_drewN | apply Kd.R_drew)); exact Kd.R_mono HO_232002.out (fun _ hk => ⟨hk.1.1, hk.1.2⟩)⟩, ⟨by (with_reducible repeat (first | apply Kd.R_alloc | apply Kd.R_drewN | apply Kd.R_drew)); exact Kd.R_mono HO_243002.out (fun _ hk => ⟨hk.1, hk.2.1⟩)⟩, ⟨pl_ BK207⟩, ⟨pl_ BK208⟩, ⟨pl_ BK225⟩, ⟨pl_ BK231⟩, ⟨pl_ BK242⟩, ⟨bl_ HB⟩⟩
        ·replace c92 := Bool.eq_false_iff.mpr c92
         subst c92
         have H1 : (laws_FnExactAddWord.j1 kj15 t224 true a0_0 a0_1 l0_2 a1_0 a1_1 a1_2 a1_3 t219 t220 t221 t236 t237 t238) = some r := by rw [if_neg (show ¬ (false = true) by decide)] at H; exact H
         clear H
         have H := H1
         clear H1
         have H' := Aside0.mk H
         clear H
         have hnb103 := NB242_207.out
         have hnc103 := NB207_242.out
         have hnb104 := NB242_208.out
         have hnc104 := NB208_242.out
         have hnb105 := NB242_225.out
         have hnc105 := NB225_242.out
         have hnb106 := NB242_231.out
         have hnc106 := NB231_242.out
         have hcz107_0 : w89.cell? ⟨gb242, 0, none⟩ = some (.int .i8 t236) := (blk_cell BK242.out 0).trans rfl
         have hcz107_1 : w89.cell? ⟨gb242, 1, none⟩ = some (.int .i8 t237) := (blk_cell BK242.out 1).trans rfl
         have hcz107_2 : w89.cell? ⟨gb242, 2, none⟩ = some (.slice Ao50 t238.length co50) := (blk_cell BK242.out 2).trans rfl
         have hfz107_0 := blk_frozen BK242.out 0
         have hfz107_1 := blk_frozen BK242.out 1
         have hfz107_2 := blk_frozen BK242.out 2
         have hnb108 := NB225_207.out
         have hnc108 := NB207_225.out
         have hnb109 := NB225_208.out
         have hnc109 := NB208_225.out
         have hnb110 := NB225_231.out
         have hnc110 := NB231_225.out
         have hcz111_0 : w89.cell? ⟨gb225, 0, none⟩ = some (.int .i8 t219) := (blk_cell BK225.out 0).trans rfl
         have hcz111_1 : w89.cell? ⟨gb225, 1, none⟩ = some (.int .i8 t220) := (blk_cell BK225.out 1).trans rfl
         have hcz111_2 : w89.cell? ⟨gb225, 2, none⟩ = some (.slice Ao31 t221.length co31) := (blk_cell BK225.out 2).trans rfl
         have hfz111_0 := blk_frozen BK225.out 0
         have hfz111_1 := blk_frozen BK225.out 1
         have hfz111_2 := blk_frozen BK225.out 2
         go_wp2_with (first | (go_at_call 13; (with_reducible refine (laws_eqFixed.calls kj15 t236 t237 _ _ t238 t219 t220 _ _ t221 false _ ?side1 ?side2 ?side3 ?side4 A91.out).mono ?_); (case side1 => repeat (first | exact (Kd.R_reads' HO_243002.out).2.2 | (with_reducible refine Kd.C_alloc ?_ _) | (with_reducible refine Kd.C_drewN ?_ _) | (with_reducible refine Kd.C_drew ?_))); (case side2 => exact (Kd.R_reads' HO_243002.out).2.1); (case side3 => repeat (first | exact (Kd.R_reads' HO_226002.out).2.2 | (with_reducible refine Kd.C_alloc ?_ _) | (with_reducible refine Kd.C_drewN ?_ _) | (with_reducible refine Kd.C_drew ?_))); (case side4 => exact (Kd.R_reads' HO_226002.out).2.1); rintro e w112 ⟨rfl, hb⟩; have n0_ := A_ (Kd.R_below (pr_ HO_226002) hb); have n1_ := A_ (Kd.R_below (pr_ HO_232002) hb); have n2_ := A_ (Kd.R_below (pr_ HO_243002) hb); have n3_ := A_ (Kd.R_below (pr_ HO248) hb); have n4_ := A_ (blk_below (pl_ BK207) hb); have n5_ := A_ (blk_below (pl_ BK208) hb); have n6_ := A_ (blk_below (pl_ BK225) hb); have n7_ := A_ (blk_below (pl_ BK231) hb); have n8_ := A_ (blk_below (pl_ BK242) hb); have n9_ := A_ (below_step (bl_ HB) hb); clear HO_226002; clear HO_232002; clear HO_243002; clear HO248; clear BK207; clear BK208; clear BK225; clear BK231; clear BK242; clear HB; have HO_226002 := n0_; have HO_232002 := n1_; have HO_243002 := n2_; have HO248 := n3_; have BK207 := n4_; have BK208 := n5_; have BK225 := n6_; have BK231 := n7_; have BK242 := n8_; have HB := n9_; clear n0_ n1_ n2_ n3_ n4_ n5_ n6_ n7_ n8_ n9_; (try clear hb); (try clear hb2); (try clear hk); (try clear hi)))
         go_meet
         case rel => exact ⟨_, (true), rs_, H', ⟨by have := HJ15.out; first | omega | exact Nat.le_refl _⟩, ⟨by (with_reducible repeat (first | apply Kd.R_alloc | apply Kd.R_drewN | apply Kd.R_drew)); exact Kd.R_mono HO_226002.out (fun _ hk => ⟨hk.1, hk.2.1⟩)⟩, ⟨by (with_reducible repeat (first | apply Kd.R_alloc | apply Kd.R_drewN | apply Kd.R_drew)); exact Kd.R_mono HO_232002.out (fun _ hk => ⟨hk.1.1, hk.1.2⟩)⟩, ⟨by (with_reducible repeat (first | apply Kd.R_alloc | apply Kd.R_drewN | apply Kd.R_drew)); exact Kd.R_mono HO_243002.out (fun _ hk => ⟨hk.1, hk.2.1⟩)⟩, ⟨pl_ BK207⟩, ⟨pl_ BK208⟩, ⟨pl_ BK225⟩, ⟨pl_ BK231⟩, ⟨pl_ BK242⟩, ⟨bl_ HB⟩⟩
      case rest =>
       clear HC79
       try clear c1
       try clear c2
       try clear p2
       try clear c5
       try clear c6
       try clear c7
       try clear c8
       try clear c9
       try clear c10
       try clear c11
       try clear c13
       try clear c19
       try clear c20
       try clear c21
       try clear c53
       try clear c54
       try clear c55
       try clear c56
       try clear c57
       try clear c59
       try clear c60
       try clear c61
       try clear c64
       try clear c65
       try clear c66
       try clear c67
       try clear c69
       try clear c70
       try clear c71
       try clear c74
       try clear c77
       try clear c84
       try clear c85
       try clear c86
       try clear c87
       try clear c90
       try clear c90b0
       try clear c92
       try clear c93
       try clear c94
       try clear c95
       try clear c96
       try clear c98
       try clear c99
       try clear c100
       try clear c103
       try clear c104
       try clear c105
       try clear c106
       try clear c108
       try clear c109
       try clear c110
       try clear hcz101_0
       try clear hcz101_1
       try clear hcz101_2
       try clear hcz107_0
       try clear hcz107_1
       try clear hcz107_2
       try clear hcz111_0
       try clear hcz111_1
       try clear hcz111_2
       try clear hcz58_0
       try clear hcz58_1
       try clear hcz58_2
       try clear hcz62_0
       try clear hcz62_1
       try clear hcz62_2
       try clear hcz68_0
       try clear hcz68_1
       try clear hcz68_2
       try clear hcz72_0
       try clear hcz72_1
       try clear hcz72_2
       try clear hcz88_0
       try clear hcz88_1
       try clear hcz88_2
       try clear hcz97_0
       try clear hcz97_1
       try clear hcz97_2
       try clear hfz101_0
       try clear hfz101_1
       try clear hfz101_2
       try clear hfz107_0
       try clear hfz107_1
       try clear hfz107_2
       try clear hfz111_0
       try clear hfz111_1
       try clear hfz111_2
       try clear hfz58_0
       try clear hfz58_1
       try clear hfz58_2
       try clear hfz62_0
       try clear hfz62_1
       try clear hfz62_2
       try clear hfz68_0
       try clear hfz68_1
       try clear hfz68_2
       try clear hfz72_0
       try clear hfz72_1
       try clear hfz72_2
       try clear hfz88_0
       try clear hfz88_1
       try clear hfz88_2
       try clear hfz97_0
       try clear hfz97_1
       try clear hfz97_2
       try clear p2
       obtain ⟨kq, x67_78, rfl, HA, HJ78, HO_226002, HO_232002, HO_243002, BK207, BK208, BK225, BK231, BK242, HB⟩ := hcut
       have hl232002_78 := (Kd.R_reads' HO_232002.out).1
       rw [hl232002_78] at HO_232002
       (try simp only [hl232002_78])
       (try simp only [hl232002_78] at BK207)
       (try simp only [hl232002_78] at BK208)
       (try simp only [hl232002_78] at BK225)
       (try simp only [hl232002_78] at BK231)
       (try simp only [hl232002_78] at BK242)
       (try simp only [hl232002_78] at HO_226002)
       (try simp only [hl232002_78] at HO_243002)
       cases kq with
       | zero => exact absurd HA.out (by simp [laws_FnExactAddWord.j1])
       | succ kj78 =>
        have H := HA.out
        clear HA
        simp only [laws_FnExactAddWord.j1] at H
        by_cases c113 : x67_78 = true
        ·subst c113
         have H1 : (some false) = some r := by rw [if_pos rfl] at H; exact H
         clear H
         have H := H1
         clear H1
         obtain rfl := Option.some.inj H
         go_wp2
         go_ret
         exact ⟨by first | rfl | (simp [errW_none, errW_some] <;> rfl) | (simp [*, errW_none, errW_some] <;> rfl), bl_ HB⟩
        ·replace c113 := Bool.eq_false_iff.mpr c113
         subst c113
         have H1 : ((laws_markFixed.f kj78 t236 t237 t238 1).bind fun bt253 => ((laws_heldFixed.f kj78 t236 t237 bt253.2 1).bind fun t255 => (if t255 < 0 then (some false) else (if t255 = bt253.1 then ((laws_toFixed.f kj78 a0_0 a0_1 l0_2).bind fun bt256 => ((laws_toWord.f kj78 a1_0 a1_1 a1_2 a1_3).bind fun bt261 => ((impl_AddWord.f kj78 bt256.1 bt256.2.1 bt256.2.2 bt261.1 bt261.2.1 bt261.2.2.1 bt261.2.2.2).bind fun bt265 => ((laws_eqFixed.f kj78 bt265.1 bt265.2.1 bt265.2.2.1 t219 t220 t221).bind fun t272 => (if t272 = true then (laws_FnExactAddWord.j2 kj78 bt253.1 (bt265.2.2.2 != t224) t236 t237 bt253.2) else (laws_FnExactAddWord.j2 kj78 bt253.1 true t236 t237 bt253.2)))))) else (some false))))) = some r := by rw [if_neg (show ¬ (false = true) by decide)] at H; exact H
         clear H
         have H := H1
         clear H1
         replace H := Option.bind_eq_some_iff.mp H
         obtain ⟨⟨t253, t254⟩, A1140, H⟩ := H
         replace H : ((laws_heldFixed.f kj78 t236 t237 t254 1).bind fun t255 => (if t255 < 0 then (some false) else (if t255 = t253 then ((laws_toFixed.f kj78 a0_0 a0_1 l0_2).bind fun bt256 => ((laws_toWord.f kj78 a1_0 a1_1 a1_2 a1_3).bind fun bt261 => ((impl_AddWord.f kj78 bt256.1 bt256.2.1 bt256.2.2 bt261.1 bt261.2.1 bt261.2.2.1 bt261.2.2.2).bind fun bt265 => ((laws_eqFixed.f kj78 bt265.1 bt265.2.1 bt265.2.2.1 t219 t220 t221).bind fun t272 => (if t272 = true then (laws_FnExactAddWord.j2 kj78 t253 (bt265.2.2.2 != t224) t236 t237 t254) else (laws_FnExactAddWord.j2 kj78 t253 true t236 t237 t254)))))) else (some false)))) = some r := H
         have A114 := Aside0.mk A1140
         clear A1140
         replace H := Option.bind_eq_some_iff.mp H
         obtain ⟨t255, A1150, H⟩ := H
         replace H : (if t255 < 0 then (some false) else (if t255 = t253 then ((laws_toFixed.f kj78 a0_0 a0_1 l0_2).bind fun bt256 => ((laws_toWord.f kj78 a1_0 a1_1 a1_2 a1_3).bind fun bt261 => ((impl_AddWord.f kj78 bt256.1 bt256.2.1 bt256.2.2 bt261.1 bt261.2.1 bt261.2.2.1 bt261.2.2.2).bind fun bt265 => ((laws_eqFixed.f kj78 bt265.1 bt265.2.1 bt265.2.2.1 t219 t220 t221).bind fun t272 => (if t272 = true then (laws_FnExactAddWord.j2 kj78 t253 (bt265.2.2.2 != t224) t236 t237 t254) else (laws_FnExactAddWord.j2 kj78 t253 true t236 t237 t254)))))) else (some false))) = some r := H
         have A115 := Aside0.mk A1150
         clear A1150
         by_cases c116 : t255 < 0
         ·rw [if_pos c116] at H
          have c116b0 : decide (t255 < 0) = true := decide_eq_true c116
          clear c116
          obtain rfl := Option.some.inj H
          have hnb117 := NB242_207.out
          have hnc117 := NB207_242.out
          have hnb118 := NB242_208.out
          have hnc118 := NB208_242.out
          have hnb119 := NB242_225.out
          have hnc119 := NB225_242.out
          have hnb120 := NB242_231.out
          have hnc120 := NB231_242.out
          have hcz121_0 : wc.cell? ⟨gb242, 0, none⟩ = some (.int .i8 t236) := (blk_cell BK242.out 0).trans rfl
          have hcz121_1 : wc.cell? ⟨gb242, 1, none⟩ = some (.int .i8 t237) := (blk_cell BK242.out 1).trans rfl
          have hcz121_2 : wc.cell? ⟨gb242, 2, none⟩ = some (.slice Ao50 t238.length co50) := (blk_cell BK242.out 2).trans rfl
          have hfz121_0 := blk_frozen BK242.out 0
          have hfz121_1 := blk_frozen BK242.out 1
          have hfz121_2 := blk_frozen BK242.out 2
          go_wp2_with (first | ((with_reducible refine gate_callee (f := 21) rfl ?_); refine goesL_ (some 70) rfl rfl Try.func21 (by kernel_rfl) rfl #[.agg #[.int .i8 t236, .int .i8 t237, .slice Ao50 t238.length co50], .int .i64 1] rfl arg_ ?_; (with_reducible refine (laws_markFixed.calls kj78 t236 t237 (fun k_ => some k_ = (.slice Ao50 t238.length co50 : Value).ownBlock) (.slice Ao50 t238.length co50) t238 1 t253 t254 w _ ?side1 ?side2 A114.out).mono ?_); (case side1 => repeat (first | (with_reducible first | exact HB.out | apply below_alloc | apply pw_below_drewN | apply below_drew1) | exact HB.out)); (case side2 => exact Kd.R_tight rfl HO_243002.out); rintro e w122 ⟨rfl, hy0, hb, hkp⟩; refine ⟨_, rfl, ?_⟩; have n0_ := A_ (Kd.R_mono (ok' := fun k_ => some k_ ≠ (.slice Ao41 t251.length co41 : Value).ownBlock ∧ some k_ ≠ (.slice Ao50 t238.length co50 : Value).ownBlock) (Kd.R_keptB (HO_226002.out) hkp (fun k_ hk_ hs_ => (hk_.2) hs_)) (fun k_ hk_ => ⟨hk_.1.1, hk_.1.2⟩)); have n1_ := A_ (Kd.R_mono (ok' := fun k_ => some k_ ≠ (.slice Ao31 t221.length co31 : Value).ownBlock ∧ some k_ ≠ (.slice Ao50 t238.length co50 : Value).ownBlock) (Kd.R_keptB (HO_232002.out) hkp (fun k_ hk_ hs_ => (hk_.2) hs_)) (fun k_ hk_ => ⟨hk_.1.1, hk_.1.2⟩)); have n2_ := A_ (Kd.R_reok rfl hy0 (fun k_ e_ => HO_243002.out.1 k_ e_)); have n3_ := A_ (blk_kept (pl_ BK207) hkp (fun hs_ => (fun e_ => (Kd.R_ne HO_243002.out BK207.out (by decide)) e_) hs_)); have n4_ := A_ (blk_kept (pl_ BK208) hkp (fun hs_ => (fun e_ => (Kd.R_ne HO_243002.out BK208.out (by decide)) e_) hs_)); have n5_ := A_ (blk_kept (pl_ BK225) hkp (fun hs_ => (fun e_ => (Kd.R_ne HO_243002.out BK225.out (by decide)) e_) hs_)); have n6_ := A_ (blk_kept (pl_ BK231) hkp (fun hs_ => (fun e_ => (Kd.R_ne HO_243002.out BK231.out (by decide)) e_) hs_)); have n7_ := A_ (blk_kept (pl_ BK242) hkp (fun hs_ => (fun e_ => (Kd.R_ne HO_243002.out BK242.out (by decide)) e_) hs_)); have n8_ := A_ (hb); clear HO_226002; clear HO_232002; clear HO_243002; clear BK207; clear BK208; clear BK225; clear BK231; clear BK242; clear HB; have HO_226002 := n0_; have HO_232002 := n1_; have HO_243002 := n2_; have BK207 := n3_; have BK208 := n4_; have BK225 := n5_; have BK231 := n6_; have BK242 := n7_; have HB := n8_; clear n0_ n1_ n2_ n3_ n4_ n5_ n6_ n7_ n8_; (try clear hb); (try clear hkp); (try clear hy0); have hcz123_0 : w122.cell? ⟨gb242, 0, none⟩ = some (.int .i8 t236) := (blk_cell BK242.out 0).trans rfl; have hcz123_1 : w122.cell? ⟨gb242, 1, none⟩ = some (.int .i8 t237) := (blk_cell BK242.out 1).trans rfl; have hcz123_2 : w122.cell? ⟨gb242, 2, none⟩ = some (.slice Ao50 t238.length co50) := (blk_cell BK242.out 2).trans rfl; have hfz123_0 := blk_frozen BK242.out 0; have hfz123_1 := blk_frozen BK242.out 1; have hfz123_2 := blk_frozen BK242.out 2) | ((with_reducible refine gate_callee (f := 22) rfl ?_); refine goesL_ (some 73) rfl rfl Try.func22 (by kernel_rfl) rfl #[.agg #[.int .i8 t236, .int .i8 t237, .slice Ao50 t254.length co50], .int .i64 1] rfl (by (try simp only [List.map_toArray, List.map_cons, List.map_nil]); first | done | (rw [show t254.length = t238.length from (Kd.R_reads' HO_243002.out).1.symm] <;> rfl) | rfl | (simp only [List.length_drop, List.length_take]; rfl)) ?_; (with_reducible refine (laws_heldFixed.calls kj78 t236 t237 _ _ t254 1 t255 _ ?side1 ?side2 A115.out).mono ?_); (case side1 => repeat (first | exact (Kd.R_reads' HO_243002.out).2.2 | (with_reducible refine Kd.C_alloc ?_ _) | (with_reducible refine Kd.C_drewN ?_ _) | (with_reducible refine Kd.C_drew ?_))); (case side2 => rw [show t254.length = t238.length from (Kd.R_reads' HO_243002.out).1.symm]; exact (Kd.R_reads' HO_243002.out).2.1); rintro e w124 ⟨rfl, hb⟩; refine ⟨_, rfl, ?_⟩; have n0_ := A_ (Kd.R_below (pr_ HO_226002) hb); have n1_ := A_ (Kd.R_below (pr_ HO_232002) hb); have n2_ := A_ (Kd.R_below (pr_ HO_243002) hb); have n3_ := A_ (blk_below (pl_ BK207) hb); have n4_ := A_ (blk_below (pl_ BK208) hb); have n5_ := A_ (blk_below (pl_ BK225) hb); have n6_ := A_ (blk_below (pl_ BK231) hb); have n7_ := A_ (blk_below (pl_ BK242) hb); have n8_ := A_ (below_step (bl_ HB) hb); clear HO_226002; clear HO_232002; clear HO_243002; clear BK207; clear BK208; clear BK225; clear BK231; clear BK242; clear HB; have HO_226002 := n0_; have HO_232002 := n1_; have HO_243002 := n2_; have BK207 := n3_; have BK208 := n4_; have BK225 := n5_; have BK231 := n6_; have BK242 := n7_; have HB := n8_; clear n0_ n1_ n2_ n3_ n4_ n5_ n6_ n7_ n8_; (try clear hb); (try clear hb2); (try clear hk); (try clear hi)))
          go_ret
          exact ⟨by first | rfl | (simp [errW_none, errW_some] <;> rfl) | (simp [*, errW_none, errW_some] <;> rfl), bl_ HB⟩
         ·rw [if_neg c116] at H
          have c116b0 : decide (t255 < 0) = false := decide_eq_false c116
          clear c116
          by_cases c125 : t255 = t253
          ·rw [if_pos c125] at H
           have c125b0 : (t255 == t253) = true := beq_iff_eq.mpr c125
           have c125b1 : (t255 != t253) = false := bne_eq_false_iff_eq.mpr c125
           clear c125
           replace H := Option.bind_eq_some_iff.mp H
           obtain ⟨⟨t256, t257, t258⟩, A1260, H⟩ := H
           replace H : ((laws_toWord.f kj78 a1_0 a1_1 a1_2 a1_3).bind fun bt261 => ((impl_AddWord.f kj78 t256 t257 t258 bt261.1 bt261.2.1 bt261.2.2.1 bt261.2.2.2).bind fun bt265 => ((laws_eqFixed.f kj78 bt265.1 bt265.2.1 bt265.2.2.1 t219 t220 t221).bind fun t272 => (if t272 = true then (laws_FnExactAddWord.j2 kj78 t253 (bt265.2.2.2 != t224) t236 t237 t254) else (laws_FnExactAddWord.j2 kj78 t253 true t236 t237 t254))))) = some r := H
           have A126 := Aside0.mk A1260
           clear A1260
           replace H := Option.bind_eq_some_iff.mp H
           obtain ⟨⟨t261, t262, t263, t264⟩, A1270, H⟩ := H
           replace H : ((impl_AddWord.f kj78 t256 t257 t258 t261 t262 t263 t264).bind fun bt265 => ((laws_eqFixed.f kj78 bt265.1 bt265.2.1 bt265.2.2.1 t219 t220 t221).bind fun t272 => (if t272 = true then (laws_FnExactAddWord.j2 kj78 t253 (bt265.2.2.2 != t224) t236 t237 t254) else (laws_FnExactAddWord.j2 kj78 t253 true t236 t237 t254)))) = some r := H
           have A127 := Aside0.mk A1270
           clear A1270
           replace H := Option.bind_eq_some_iff.mp H
           obtain ⟨⟨t265, t266, t267, t270⟩, A1280, H⟩ := H
           replace H : ((laws_eqFixed.f kj78 t265 t266 t267 t219 t220 t221).bind fun t272 => (if t272 = true then (laws_FnExactAddWord.j2 kj78 t253 (t270 != t224) t236 t237 t254) else (laws_FnExactAddWord.j2 kj78 t253 true t236 t237 t254))) = some r := H
           have A128 := Aside0.mk A1280
           clear A1280
           have HC129 := Aside0.mk H
           clear H
           have hnb130 := NB242_207.out
           have hnc130 := NB207_242.out
           have hnb131 := NB242_208.out
           have hnc131 := NB208_242.out
           have hnb132 := NB242_225.out
           have hnc132 := NB225_242.out
           have hnb133 := NB242_231.out
           have hnc133 := NB231_242.out
           have hcz134_0 : wc.cell? ⟨gb242, 0, none⟩ = some (.int .i8 t236) := (blk_cell BK242.out 0).trans rfl
           have hcz134_1 : wc.cell? ⟨gb242, 1, none⟩ = some (.int .i8 t237) := (blk_cell BK242.out 1).trans rfl
           have hcz134_2 : wc.cell? ⟨gb242, 2, none⟩ = some (.slice Ao50 t238.length co50) := (blk_cell BK242.out 2).trans rfl
           have hfz134_0 := blk_frozen BK242.out 0
           have hfz134_1 := blk_frozen BK242.out 1
           have hfz134_2 := blk_frozen BK242.out 2
           try go_wp2_with (first | ((with_reducible refine gate_callee (f := 21) rfl ?_); refine goesL_ (some 70) rfl rfl Try.func21 (by kernel_rfl) rfl #[.agg #[.int .i8 t236, .int .i8 t237, .slice Ao50 t238.length co50], .int .i64 1] rfl arg_ ?_; (with_reducible refine (laws_markFixed.calls kj78 t236 t237 (fun k_ => some k_ = (.slice Ao50 t238.length co50 : Value).ownBlock) (.slice Ao50 t238.length co50) t238 1 t253 t254 w _ ?side1 ?side2 A114.out).mono ?_); (case side1 => repeat (first | (with_reducible first | exact HB.out | apply below_alloc | apply pw_below_drewN | apply below_drew1) | exact HB.out)); (case side2 => exact Kd.R_tight rfl HO_243002.out); rintro e w135 ⟨rfl, hy0, hb, hkp⟩; refine ⟨_, rfl, ?_⟩; have n0_ := A_ (Kd.R_mono (ok' := fun k_ => some k_ ≠ (.slice Ao41 t251.length co41 : Value).ownBlock ∧ some k_ ≠ (.slice Ao50 t238.length co50 : Value).ownBlock) (Kd.R_keptB (HO_226002.out) hkp (fun k_ hk_ hs_ => (hk_.2) hs_)) (fun k_ hk_ => ⟨hk_.1.1, hk_.1.2⟩)); have n1_ := A_ (Kd.R_mono (ok' := fun k_ => some k_ ≠ (.slice Ao31 t221.length co31 : Value).ownBlock ∧ some k_ ≠ (.slice Ao50 t238.length co50 : Value).ownBlock) (Kd.R_keptB (HO_232002.out) hkp (fun k_ hk_ hs_ => (hk_.2) hs_)) (fun k_ hk_ => ⟨hk_.1.1, hk_.1.2⟩)); have n2_ := A_ (Kd.R_reok rfl hy0 (fun k_ e_ => HO_243002.out.1 k_ e_)); have n3_ := A_ (blk_kept (pl_ BK207) hkp (fun hs_ => (fun e_ => (Kd.R_ne HO_243002.out BK207.out (by decide)) e_) hs_)); have n4_ := A_ (blk_kept (pl_ BK208) hkp (fun hs_ => (fun e_ => (Kd.R_ne HO_243002.out BK208.out (by decide)) e_) hs_)); have n5_ := A_ (blk_kept (pl_ BK225) hkp (fun hs_ => (fun e_ => (Kd.R_ne HO_243002.out BK225.out (by decide)) e_) hs_)); have n6_ := A_ (blk_kept (pl_ BK231) hkp (fun hs_ => (fun e_ => (Kd.R_ne HO_243002.out BK231.out (by decide)) e_) hs_)); have n7_ := A_ (blk_kept (pl_ BK242) hkp (fun hs_ => (fun e_ => (Kd.R_ne HO_243002.out BK242.out (by decide)) e_) hs_)); have n8_ := A_ (hb); clear HO_226002; clear HO_232002; clear HO_243002; clear BK207; clear BK208; clear BK225; clear BK231; clear BK242; clear HB; have HO_226002 := n0_; have HO_232002 := n1_; have HO_243002 := n2_; have BK207 := n3_; have BK208 := n4_; have BK225 := n5_; have BK231 := n6_; have BK242 := n7_; have HB := n8_; clear n0_ n1_ n2_ n3_ n4_ n5_ n6_ n7_ n8_; (try clear hb); (try clear hkp); (try clear hy0); have hcz136_0 : w135.cell? ⟨gb242, 0, none⟩ = some (.int .i8 t236) := (blk_cell BK242.out 0).trans rfl; have hcz136_1 : w135.cell? ⟨gb242, 1, none⟩ = some (.int .i8 t237) := (blk_cell BK242.out 1).trans rfl; have hcz136_2 : w135.cell? ⟨gb242, 2, none⟩ = some (.slice Ao50 t238.length co50) := (blk_cell BK242.out 2).trans rfl; have hfz136_0 := blk_frozen BK242.out 0; have hfz136_1 := blk_frozen BK242.out 1; have hfz136_2 := blk_frozen BK242.out 2) | ((with_reducible refine gate_callee (f := 22) rfl ?_); refine goesL_ (some 73) rfl rfl Try.func22 (by kernel_rfl) rfl #[.agg #[.int .i8 t236, .int .i8 t237, .slice Ao50 t254.length co50], .int .i64 1] rfl (by (try simp only [List.map_toArray, List.map_cons, List.map_nil]); first | done | (rw [show t254.length = t238.length from (Kd.R_reads' HO_243002.out).1.symm] <;> rfl) | rfl | (simp only [List.length_drop, List.length_take]; rfl)) ?_; (with_reducible refine (laws_heldFixed.calls kj78 t236 t237 _ _ t254 1 t255 _ ?side1 ?side2 A115.out).mono ?_); (case side1 => repeat (first | exact (Kd.R_reads' HO_243002.out).2.2 | (with_reducible refine Kd.C_alloc ?_ _) | (with_reducible refine Kd.C_drewN ?_ _) | (with_reducible refine Kd.C_drew ?_))); (case side2 => rw [show t254.length = t238.length from (Kd.R_reads' HO_243002.out).1.symm]; exact (Kd.R_reads' HO_243002.out).2.1); rintro e w137 ⟨rfl, hb⟩; refine ⟨_, rfl, ?_⟩; have n0_ := A_ (Kd.R_below (pr_ HO_226002) hb); have n1_ := A_ (Kd.R_below (pr_ HO_232002) hb); have n2_ := A_ (Kd.R_below (pr_ HO_243002) hb); have n3_ := A_ (blk_below (pl_ BK207) hb); have n4_ := A_ (blk_below (pl_ BK208) hb); have n5_ := A_ (blk_below (pl_ BK225) hb); have n6_ := A_ (blk_below (pl_ BK231) hb); have n7_ := A_ (blk_below (pl_ BK242) hb); have n8_ := A_ (below_step (bl_ HB) hb); clear HO_226002; clear HO_232002; clear HO_243002; clear BK207; clear BK208; clear BK225; clear BK231; clear BK242; clear HB; have HO_226002 := n0_; have HO_232002 := n1_; have HO_243002 := n2_; have BK207 := n3_; have BK208 := n4_; have BK225 := n5_; have BK231 := n6_; have BK242 := n7_; have HB := n8_; clear n0_ n1_ n2_ n3_ n4_ n5_ n6_ n7_ n8_; (try clear hb); (try clear hb2); (try clear hk); (try clear hi)))
           have n0_ := A_ (Kd.R_drew HO_226002.out)
           have n1_ := A_ (Kd.R_drew HO_232002.out)
           have n2_ := A_ (Kd.R_drew HO_243002.out)
           have n3_ := A_ (blk_drew BK207.out)
           have n4_ := A_ (blk_drew BK208.out)
           have n5_ := A_ (blk_drew BK225.out)
           have n6_ := A_ (blk_drew BK231.out)
           have n7_ := A_ (blk_drew BK242.out)
           have n8_ := A_ (below_drew1 HB.out)
           clear HO_226002
           clear HO_232002
           clear HO_243002
           clear BK207
           clear BK208
           clear BK225
           clear BK231
           clear BK242
           clear HB
           have HO_226002 := n0_
           have HO_232002 := n1_
           have HO_243002 := n2_
           have BK207 := n3_
           have BK208 := n4_
           have BK225 := n5_
           have BK231 := n6_
           have BK242 := n7_
           have HB := n8_
           clear n0_ n1_ n2_ n3_ n4_ n5_ n6_ n7_ n8_
           refine start_ (n := 11) (S := fun w' => w'.cell? ⟨gb207, 0, none⟩ = some (.int .i8 a0_0) ∧ w'.cell? ⟨gb207, 1, none⟩ = some (.int .i8 a0_1) ∧ w'.cell? ⟨gb207, 2, none⟩ = some (.slice A0_2 l0_2.length c0_2) ∧ w'.cell? ⟨gb208, 0, none⟩ = some (.int .i8 a1_0) ∧ w'.cell? ⟨gb208, 1, none⟩ = some (.int .i8 a1_1) ∧ w'.cell? ⟨gb208, 2, none⟩ = some (.int .i8 a1_2) ∧ w'.cell? ⟨gb208, 3, none⟩ = some (.int .i8 a1_3)) (ds := []) #[false, false, false, false, false, false, false, false, false, false, false] (by kernel_rfl) rfl rfl ⟨(blk_cell BK207.out 0).trans rfl, (blk_cell BK207.out 1).trans rfl, (blk_cell BK207.out 2).trans rfl, (blk_cell BK208.out 0).trans rfl, (blk_cell BK208.out 1).trans rfl, (blk_cell BK208.out 2).trans rfl, (blk_cell BK208.out 3).trans rfl⟩ (fun hHeld => ?_); refine with_tabW laws_FnExactAddWord.tab24 laws_FnExactAddWord.bits24 (fun HT_ HW_ => ?_)
           generalize w137.drew = w138 at HO_226002 HO_232002 HO_243002 BK207 BK208 BK225 BK231 BK242 HB hHeld ⊢
           refine take_ (i := 0) (N := some 80) (v := ?_) (a' := ?_) #[true, false, false, false, false, false, false, false, false, false, false] rfl rfl (take_ofW HT_.out HW_.out (by kernel_rfl)) (fun _ _ _ h => h) (Or.inl ⟨by rfl, ?_⟩) hHeld ?_ ?_
           rotate_left
           ·rintro w' ⟨s0, s1, s2, s3, s4, s5, s6⟩
            go_simp
            with_reducible rfl
           rotate_left
           ·simp only [Act.put, List.setIfInBounds_toArray, List.set_cons_zero, List.set_cons_succ, i64_w, i32_w]
            rfl
           refine take_ (i := 2) (N := some 82) (v := ?_) (a' := ?_) #[true, false, true, false, false, false, false, false, false, false, false] rfl rfl (take_ofW HT_.out HW_.out (by kernel_rfl)) (fun _ _ _ h => h) (Or.inl ⟨by rfl, ?_⟩) hHeld ?_ ?_
           rotate_left
           ·rintro w' ⟨s0, s1, s2, s3, s4, s5, s6⟩
            go_simp
            with_reducible rfl
           rotate_left
           ·simp only [Act.put, List.setIfInBounds_toArray, List.set_cons_zero, List.set_cons_succ, i64_w, i32_w]
            rfl
           refine join_ (σ := Value × Value × Nat) 2 #[true, true, true, true, true, true, true, true, true, false, false] (fun s_ => [(81, .agg #[.int .i8 t256, .int .i8 t257, s_.1]), (83, .agg #[.int .i8 t261, .int .i8 t262, .int .i8 t263, .int .i8 t264]), (84, .tuple #[.agg #[.int .i8 t265, .int .i8 t266, s_.2.1], .int .i64 t270]), (14, .pointer (some ⟨s_.2.2, 0, none⟩)), (79, .tuple #[.agg #[.int .i8 t265, .int .i8 t266, s_.2.1], .int .i64 t270]), (85, .agg #[.int .i8 t265, .int .i8 t266, s_.2.1]), (86, .int .i64 t270)]) (fun s_ w' => (w'.cell? ⟨gb207, 0, none⟩ = some (.int .i8 a0_0) ∧ w'.cell? ⟨gb207, 1, none⟩ = some (.int .i8 a0_1) ∧ w'.cell? ⟨gb207, 2, none⟩ = some (.slice A0_2 l0_2.length c0_2) ∧ w'.cell? ⟨gb208, 0, none⟩ = some (.int .i8 a1_0) ∧ w'.cell? ⟨gb208, 1, none⟩ = some (.int .i8 a1_1) ∧ w'.cell? ⟨gb208, 2, none⟩ = some (.int .i8 a1_2) ∧ w'.cell? ⟨gb208, 3, none⟩ = some (.int .i8 a1_3)) ∧ (Kd.R k40 40 w' w.heap.size (fun k_ => some k_ ≠ (s_.2.1 : Value).ownBlock ∧ some k_ ≠ (.slice Ao31 t221.length co31 : Value).ownBlock ∧ some k_ ≠ (.slice Ao41 t251.length co41 : Value).ownBlock ∧ some k_ ≠ (.slice Ao50 t238.length co50 : Value).ownBlock) s_.1 t258) ∧ (Kd.R k40 40 w' w.heap.size (fun k_ => some k_ ≠ (s_.1 : Value).ownBlock ∧ some k_ ≠ (.slice Ao31 t221.length co31 : Value).ownBlock ∧ some k_ ≠ (.slice Ao41 t251.length co41 : Value).ownBlock ∧ some k_ ≠ (.slice Ao50 t238.length co50 : Value).ownBlock) s_.2.1 t267) ∧ (Kd.R k40 40 w' w.heap.size (fun k_ => some k_ ≠ (s_.1 : Value).ownBlock ∧ some k_ ≠ (s_.2.1 : Value).ownBlock ∧ some k_ ≠ (.slice Ao41 t251.length co41 : Value).ownBlock ∧ some k_ ≠ (.slice Ao50 t238.length co50 : Value).ownBlock) (.slice Ao31 t221.length co31) t221) ∧ (Kd.R k40 40 w' w.heap.size (fun k_ => some k_ ≠ (s_.1 : Value).ownBlock ∧ some k_ ≠ (s_.2.1 : Value).ownBlock ∧ some k_ ≠ (.slice Ao31 t221.length co31 : Value).ownBlock ∧ some k_ ≠ (.slice Ao50 t238.length co50 : Value).ownBlock) (.slice Ao41 t251.length co41) t251) ∧ (Kd.R k40 40 w' w.heap.size (fun k_ => some k_ ≠ (s_.1 : Value).ownBlock ∧ some k_ ≠ (s_.2.1 : Value).ownBlock ∧ some k_ ≠ (.slice Ao31 t221.length co31 : Value).ownBlock ∧ some k_ ≠ (.slice Ao41 t251.length co41 : Value).ownBlock) (.slice Ao50 t238.length co50) t254) ∧ (w'.heap[gb207]? = some (.cells #[.int .i8 a0_0, .int .i8 a0_1, .slice A0_2 l0_2.length c0_2] 25 (0, 0))) ∧ (w'.heap[gb208]? = some (.cells #[.int .i8 a1_0, .int .i8 a1_1, .int .i8 a1_2, .int .i8 a1_3] 37 (0, 0))) ∧ (w'.heap[gb225]? = some (.cells #[.int .i8 t219, .int .i8 t220, .slice Ao31 t221.length co31] 30 (0, 0))) ∧ (w'.heap[gb231]? = some (.cells #[.int .i8 t226, .int .i8 t227, .slice Ao41 t251.length co41] 30 (0, 0))) ∧ (w'.heap[gb242]? = some (.cells #[.int .i8 t236, .int .i8 t237, .slice Ao50 t238.length co50] 30 (0, 0))) ∧ (w'.heap[s_.2.2]? = some (.cells #[.int .i8 0, .int .i8 0, .slice none 0 0] 30 (0, 0))) ∧ (w.heap.size ≤ s_.2.2) ∧ (w.heap.size ≤ s_.2.2) ∧ (gb207 ≠ s_.2.2) ∧ (s_.2.2 ≠ gb207) ∧ (gb208 ≠ s_.2.2) ∧ (s_.2.2 ≠ gb208) ∧ (gb225 ≠ s_.2.2) ∧ (s_.2.2 ≠ gb225) ∧ (gb231 ≠ s_.2.2) ∧ (s_.2.2 ≠ gb231) ∧ (gb242 ≠ s_.2.2) ∧ (s_.2.2 ≠ gb242) ∧ (Below w.heap.size w w')) ?_ ?_
           rotate_left
           ·intro hCont
            refine two_ (i := 1) (j := 8) (Ni := some 81) (Nj := some 14) #[true, true, true, false, false, false, false, false, false, false, false] #[true, false, true, false, false, false, false, false, true, false, false] rfl rfl rfl rfl (two_of HT_.out (by kernel_rfl)) (by decide) (by decide) (fun K hK => ?_) (fun K hK => ?_)
            ·skip
             refine goes_ Try.func11 (by kernel_rfl) rfl #[.agg #[.int .i8 a0_0, .int .i8 a0_1, .slice A0_2 l0_2.length c0_2]] (by rfl) rfl rfl arg_ ?_
             with_reducible refine (laws_toFixed.calls kj78 a0_0 a0_1 _ _ l0_2 t256 t257 t258 _ ?side1 ?side2 A126.out).mono ?_
             (case side1 => repeat (first | exact (Kd.C_below HR0_2.out HB.out) | (with_reducible refine Kd.C_alloc ?_ _) | (with_reducible refine Kd.C_drewN ?_ _) | (with_reducible refine Kd.C_drew ?_)))
             (case side2 => exact HC0_2.out)
             rintro e w139 ⟨v259, rfl, ho0, hb⟩
             refine ⟨_, rfl, ?_⟩
             have n0_ := A_ (Kd.R_elder' (pr_ HO_226002) (Kd.R_base ho0) hb)
             have n1_ := A_ (Kd.R_elder' (pr_ HO_232002) (Kd.R_base ho0) hb)
             have n2_ := A_ (Kd.R_elder' (pr_ HO_243002) (Kd.R_base ho0) hb)
             have n3_ := A_ (Kd.R_lower (Kd.R_new' (Kd.R_new' (Kd.R_new' ho0 (Kd.R_lt (pr_ HO_226002))) (Kd.R_lt (pr_ HO_232002))) (Kd.R_lt (pr_ HO_243002))) (below_size (bl_ HB)))
             have n4_ := A_ (blk_below (pl_ BK207) hb)
             have n5_ := A_ (blk_below (pl_ BK208) hb)
             have n6_ := A_ (blk_below (pl_ BK225) hb)
             have n7_ := A_ (blk_below (pl_ BK231) hb)
             have n8_ := A_ (blk_below (pl_ BK242) hb)
             have n9_ := A_ (below_step (bl_ HB) hb)
             clear HO_226002
             clear HO_232002
             clear HO_243002
             clear BK207
             clear BK208
             clear BK225
             clear BK231
             clear BK242
             clear HB
             have HO_226002 := n0_
             have HO_232002 := n1_
             have HO_243002 := n2_
             have HO260 := n3_
             have BK207 := n4_
             have BK208 := n5_
             have BK225 := n6_
             have BK231 := n7_
             have BK242 := n8_
             have HB := n9_
             clear n0_ n1_ n2_ n3_ n4_ n5_ n6_ n7_ n8_ n9_
             (try clear hb)
             (try clear hb2)
             (try clear hk)
             (try clear hi)
             (try clear ho0)
             refine hK.out _ _ ⟨(blk_cell BK207.out 0).trans rfl, (blk_cell BK207.out 1).trans rfl, (blk_cell BK207.out 2).trans rfl, (blk_cell BK208.out 0).trans rfl, (blk_cell BK208.out 1).trans rfl, (blk_cell BK208.out 2).trans rfl, (blk_cell BK208.out 3).trans rfl⟩ (fun hHeld => ?_)
             clear hK K
             refine norm_ (a' := ?_) ?_ ?_
             rotate_left
             ·show Act.put _ (some 81) _ = _
              simp only [Act.put, List.setIfInBounds_toArray, List.set_cons_zero, List.set_cons_succ, i64_w, i32_w]
              rfl
             refine two_ (i := 3) (j := 8) (Ni := some 83) (Nj := some 14) #[true, true, true, true, false, false, false, false, false, false, false] #[true, true, true, false, false, false, false, false, true, false, false] rfl rfl rfl rfl (two_of HT_.out (by kernel_rfl)) (by decide) (by decide) (fun K hK => ?_) (fun K hK => ?_)
             ·skip
              refine goes_ Try.func19 (by kernel_rfl) rfl #[.agg #[.int .i8 a1_0, .int .i8 a1_1, .int .i8 a1_2, .int .i8 a1_3]] (by rfl) rfl rfl arg_ ?_
              with_reducible refine (laws_toWord.calls kj78 a1_0 a1_1 a1_2 a1_3 t261 t262 t263 t264 _ A127.out).mono ?_
              rintro e w140 ⟨rfl, hb⟩
              refine ⟨_, rfl, ?_⟩
              have n0_ := A_ (Kd.R_below (pr_ HO_226002) hb)
              have n1_ := A_ (Kd.R_below (pr_ HO_232002) hb)
              have n2_ := A_ (Kd.R_below (pr_ HO_243002) hb)
              have n3_ := A_ (Kd.R_below (pr_ HO260) hb)
              have n4_ := A_ (blk_below (pl_ BK207) hb)
              have n5_ := A_ (blk_below (pl_ BK208) hb)
              have n6_ := A_ (blk_below (pl_ BK225) hb)
              have n7_ := A_ (blk_below (pl_ BK231) hb)
              have n8_ := A_ (blk_below (pl_ BK242) hb)
              have n9_ := A_ (below_step (bl_ HB) hb)
              clear HO_226002
              clear HO_232002
              clear HO_243002
              clear HO260
              clear BK207
              clear BK208
              clear BK225
              clear BK231
              clear BK242
              clear HB
              have HO_226002 := n0_
              have HO_232002 := n1_
              have HO_243002 := n2_
              have HO260 := n3_
              have BK207 := n4_
              have BK208 := n5_
              have BK225 := n6_
              have BK231 := n7_
              have BK242 := n8_
              have HB := n9_
              clear n0_ n1_ n2_ n3_ n4_ n5_ n6_ n7_ n8_ n9_
              (try clear hb)
              (try clear hb2)
              (try clear hk)
              (try clear hi)
              obtain ⟨Ao141, co141, eo141⟩ := Kd.R_slice HO260.out
              (first | subst eo141 | (injection eo141 with f1_ f2_ f3_; have f4_ := f1_.symm; have f5_ := f3_.symm; clear f1_ f2_ f3_; subst f4_; subst f5_))
              refine hK.out _ _ ⟨(blk_cell BK207.out 0).trans rfl, (blk_cell BK207.out 1).trans rfl, (blk_cell BK207.out 2).trans rfl, (blk_cell BK208.out 0).trans rfl, (blk_cell BK208.out 1).trans rfl, (blk_cell BK208.out 2).trans rfl, (blk_cell BK208.out 3).trans rfl⟩ (fun hHeld => ?_)
              clear hK K
              refine norm_ (a' := ?_) ?_ ?_
              rotate_left
              ·show Act.put _ (some 83) _ = _
               simp only [Act.put, List.setIfInBounds_toArray, List.set_cons_zero, List.set_cons_succ, i64_w, i32_w]
               rfl
              refine two_ (i := 4) (j := 8) (Ni := some 84) (Nj := some 14) #[true, true, true, true, true, false, false, false, false, false, false] #[true, true, true, true, false, false, false, false, true, false, false] rfl rfl rfl rfl (two_of HT_.out (by kernel_rfl)) (by decide) (by decide) (fun K hK => ?_) (fun K hK => ?_)
              ·skip
               refine goes_ Try.func20 (by kernel_rfl) rfl #[.agg #[.int .i8 t256, .int .i8 t257, .slice Ao141 t258.length co141], .agg #[.int .i8 t261, .int .i8 t262, .int .i8 t263, .int .i8 t264]] (by rfl) rfl rfl arg_ ?_
               with_reducible refine (impl_AddWord.calls kj78 t256 t257 _ _ t258 t261 t262 t263 t264 t265 t266 t267 t270 _ ?side1 ?side2 A128.out).mono ?_
               (case side1 => repeat (first | exact (Kd.R_reads' HO260.out).2.2 | (with_reducible refine Kd.C_alloc ?_ _) | (with_reducible refine Kd.C_drewN ?_ _) | (with_reducible refine Kd.C_drew ?_)))
               (case side2 => exact (Kd.R_reads' HO260.out).2.1)
               rintro e w142 ⟨v268, rfl, ho0, hb⟩
               refine ⟨_, rfl, ?_⟩
               have n0_ := A_ (Kd.R_elder' (pr_ HO_226002) (Kd.R_base ho0) hb)
               have n1_ := A_ (Kd.R_elder' (pr_ HO_232002) (Kd.R_base ho0) hb)
               have n2_ := A_ (Kd.R_elder' (pr_ HO_243002) (Kd.R_base ho0) hb)
               have n3_ := A_ (Kd.R_elder' (pr_ HO260) (Kd.R_base ho0) hb)
               have n4_ := A_ (Kd.R_lower (Kd.R_new' (Kd.R_new' (Kd.R_new' (Kd.R_new' ho0 (Kd.R_lt (pr_ HO_226002))) (Kd.R_lt (pr_ HO_232002))) (Kd.R_lt (pr_ HO_243002))) (Kd.R_lt (pr_ HO260))) (below_size (bl_ HB)))
               have n5_ := A_ (blk_below (pl_ BK207) hb)
               have n6_ := A_ (blk_below (pl_ BK208) hb)
               have n7_ := A_ (blk_below (pl_ BK225) hb)
               have n8_ := A_ (blk_below (pl_ BK231) hb)
               have n9_ := A_ (blk_below (pl_ BK242) hb)
               have n10_ := A_ (below_step (bl_ HB) hb)
               clear HO_226002
               clear HO_232002
               clear HO_243002
               clear HO260
               clear BK207
               clear BK208
               clear BK225
               clear BK231
               clear BK242
               clear HB
               have HO_226002 := n0_
               have HO_232002 := n1_
               have HO_243002 := n2_
               have HO260 := n3_
               have HO269 := n4_
               have BK207 := n5_
               have BK208 := n6_
               have BK225 := n7_
               have BK231 := n8_
               have BK242 := n9_
               have HB := n10_
               clear n0_ n1_ n2_ n3_ n4_ n5_ n6_ n7_ n8_ n9_ n10_
               (try clear hb)
               (try clear hb2)
               (try clear hk)
               (try clear hi)
               (try clear ho0)
               refine hK.out _ _ ⟨(blk_cell BK207.out 0).trans rfl, (blk_cell BK207.out 1).trans rfl, (blk_cell BK207.out 2).trans rfl, (blk_cell BK208.out 0).trans rfl, (blk_cell BK208.out 1).trans rfl, (blk_cell BK208.out 2).trans rfl, (blk_cell BK208.out 3).trans rfl⟩ (fun hHeld => ?_)
               clear hK K
               refine norm_ (a' := ?_) ?_ ?_
               rotate_left
               ·show Act.put _ (some 84) _ = _
                simp only [Act.put, List.setIfInBounds_toArray, List.set_cons_zero, List.set_cons_succ, i64_w, i32_w]
                rfl
               refine pure_ (i := 5) (N := some 79) (v := ?_) (a' := ?_) #[true, true, true, true, true, true, false, false, false, false, false] rfl rfl (any_of HT_.out (by kernel_rfl)) (fun _ _ _ h => h) (Or.inl ⟨by rfl, ?_⟩) ?_ ?_
               rotate_left
               ·intro w'
                go_simp
                with_reducible rfl
               rotate_left
               ·simp only [Act.put, List.setIfInBounds_toArray, List.set_cons_zero, List.set_cons_succ, i64_w, i32_w]
                rfl
               refine pure_ (i := 6) (N := some 85) (v := ?_) (a' := ?_) #[true, true, true, true, true, true, true, false, false, false, false] rfl rfl (any_of HT_.out (by kernel_rfl)) (fun _ _ _ h => h) (Or.inl ⟨by rfl, ?_⟩) ?_ ?_
               rotate_left
               ·intro w'
                go_simp
                with_reducible rfl
               rotate_left
               ·simp only [Act.put, List.setIfInBounds_toArray, List.set_cons_zero, List.set_cons_succ, i64_w, i32_w]
                rfl
               refine pure_ (i := 7) (N := some 86) (v := ?_) (a' := ?_) #[true, true, true, true, true, true, true, true, false, false, false] rfl rfl (any_of HT_.out (by kernel_rfl)) (fun _ _ _ h => h) (Or.inl ⟨by rfl, ?_⟩) ?_ ?_
               rotate_left
               ·intro w'
                go_simp
                with_reducible rfl
               rotate_left
               ·simp only [Act.put, List.setIfInBounds_toArray, List.set_cons_zero, List.set_cons_succ, i64_w, i32_w]
                rfl
               refine one_ (i := 8) (N := some 14) #[true, true, true, true, true, true, true, true, true, false, false] rfl rfl (one_of HT_.out (by kernel_rfl)) (by decide) (fun K hK => ?_)
               refine box_step ?hg (N := 14) ?hd (cs := #[.int .i8 0, .int .i8 0, .slice none 0 0]) (t := 30) ?hr ?_; (case hd => rfl); (case hg => rfl); (case hr => first | (go_simp; done) | (go_simp; rfl))
               intro gb271 hg w143 hbox hb
               have n0_ := A_ (Kd.R_below (pr_ HO_226002) hb)
               have n1_ := A_ (Kd.R_below (pr_ HO_232002) hb)
               have n2_ := A_ (Kd.R_below (pr_ HO_243002) hb)
               have n3_ := A_ (Kd.R_below (pr_ HO260) hb)
               have n4_ := A_ (Kd.R_below (pr_ HO269) hb)
               have n5_ := A_ (blk_below (pl_ BK207) hb)
               have n6_ := A_ (blk_below (pl_ BK208) hb)
               have n7_ := A_ (blk_below (pl_ BK225) hb)
               have n8_ := A_ (blk_below (pl_ BK231) hb)
               have n9_ := A_ (blk_below (pl_ BK242) hb)
               have n10_ := A_ (below_step (bl_ HB) hb)
               have n11_ := A_ (hbox)
               have n12_ := A_ ((by rw [hg]; exact (below_size (bl_ HB)) : w.heap.size ≤ gb271))
               have n13_ := n12_
               have n14_ := A_ ((by rw [hg]; exact Nat.ne_of_lt (blk_lt (pl_ BK207)) : gb207 ≠ gb271))
               have n15_ := Aside0.mk n14_.out.symm
               have n16_ := A_ ((by rw [hg]; exact Nat.ne_of_lt (blk_lt (pl_ BK208)) : gb208 ≠ gb271))
               have n17_ := Aside0.mk n16_.out.symm
               have n18_ := A_ ((by rw [hg]; exact Nat.ne_of_lt (blk_lt (pl_ BK225)) : gb225 ≠ gb271))
               have n19_ := Aside0.mk n18_.out.symm
               have n20_ := A_ ((by rw [hg]; exact Nat.ne_of_lt (blk_lt (pl_ BK231)) : gb231 ≠ gb271))
               have n21_ := Aside0.mk n20_.out.symm
               have n22_ := A_ ((by rw [hg]; exact Nat.ne_of_lt (blk_lt (pl_ BK242)) : gb242 ≠ gb271))
               have n23_ := Aside0.mk n22_.out.symm
               clear HO_226002
               clear HO_232002
               clear HO_243002
               clear HO260
               clear HO269
               clear BK207
               clear BK208
               clear BK225
               clear BK231
               clear BK242
               clear HB
               have HO_226002 := n0_
               have HO_232002 := n1_
               have HO_243002 := n2_
               have HO260 := n3_
               have HO269 := n4_
               have BK207 := n5_
               have BK208 := n6_
               have BK225 := n7_
               have BK231 := n8_
               have BK242 := n9_
               have HB := n10_
               have BK271 := n11_
               have GW271 := n12_
               have GE271 := n13_
               have NB207_271 := n14_
               have NB271_207 := n15_
               have NB208_271 := n16_
               have NB271_208 := n17_
               have NB225_271 := n18_
               have NB271_225 := n19_
               have NB231_271 := n20_
               have NB271_231 := n21_
               have NB242_271 := n22_
               have NB271_242 := n23_
               clear n0_ n1_ n2_ n3_ n4_ n5_ n6_ n7_ n8_ n9_ n10_ n11_ n12_ n13_ n14_ n15_ n16_ n17_ n18_ n19_ n20_ n21_ n22_ n23_
               clear hb hbox hg
               refine hK.out _ _ ⟨(blk_cell BK207.out 0).trans rfl, (blk_cell BK207.out 1).trans rfl, (blk_cell BK207.out 2).trans rfl, (blk_cell BK208.out 0).trans rfl, (blk_cell BK208.out 1).trans rfl, (blk_cell BK208.out 2).trans rfl, (blk_cell BK208.out 3).trans rfl⟩ (fun hHeld => ?_)
               clear hK K
               refine norm_ (a' := ?_) ?_ ?_
               rotate_left
               ·show Act.put _ (some 14) _ = _
                simp only [Act.put, List.setIfInBounds_toArray, List.set_cons_zero, List.set_cons_succ, i64_w, i32_w]
                rfl
               exact norm_ pa_ (hCont (.slice Ao141 t258.length co141, v268, gb271) _ ⟨hHeld, (by (with_reducible repeat (first | apply Kd.R_alloc | apply Kd.R_drewN | apply Kd.R_drew)); exact Kd.R_mono HO260.out (fun _ hk => ⟨hk.2, ⟨hk.1.1.1.2, ⟨hk.1.1.2, hk.1.2⟩⟩⟩)), (by (with_reducible repeat (first | apply Kd.R_alloc | apply Kd.R_drewN | apply Kd.R_drew)); exact Kd.R_mono HO269.out (fun _ hk => ⟨hk.2, ⟨hk.1.1.1.2, ⟨hk.1.1.2, hk.1.2⟩⟩⟩)), (by (with_reducible repeat (first | apply Kd.R_alloc | apply Kd.R_drewN | apply Kd.R_drew)); exact Kd.R_mono HO_226002.out (fun _ hk => ⟨hk.1.2, ⟨hk.2, ⟨hk.1.1.1, hk.1.1.2⟩⟩⟩)), (by (with_reducible repeat (first | apply Kd.R_alloc | apply Kd.R_drewN | apply Kd.R_drew)); exact Kd.R_mono HO_232002.out (fun _ hk => ⟨hk.1.2, ⟨hk.2, ⟨hk.1.1.1, hk.1.1.2⟩⟩⟩)), (by (with_reducible repeat (first | apply Kd.R_alloc | apply Kd.R_drewN | apply Kd.R_drew)); exact Kd.R_mono HO_243002.out (fun _ hk => ⟨hk.1.2, ⟨hk.2, ⟨hk.1.1.1, hk.1.1.2⟩⟩⟩)), (pl_ BK207), (pl_ BK208), (pl_ BK225), (pl_ BK231), (pl_ BK242), (pl_ BK271), GW271.out, GE271.out, NB207_271.out, NB271_207.out, NB208_271.out, NB271_208.out, NB225_271.out, NB271_225.out, NB231_271.out, NB271_231.out, NB242_271.out, NB271_242.out, (bl_ HB)⟩)
              ·skip
               refine box_step ?hg (N := 14) ?hd (cs := #[.int .i8 0, .int .i8 0, .slice none 0 0]) (t := 30) ?hr ?_; (case hd => rfl); (case hg => rfl); (case hr => first | (go_simp; done) | (go_simp; rfl))
               intro gb271 hg w141 hbox hb
               have n0_ := A_ (Kd.R_below (pr_ HO_226002) hb)
               have n1_ := A_ (Kd.R_below (pr_ HO_232002) hb)
               have n2_ := A_ (Kd.R_below (pr_ HO_243002) hb)
               have n3_ := A_ (Kd.R_below (pr_ HO260) hb)
               have n4_ := A_ (blk_below (pl_ BK207) hb)
               have n5_ := A_ (blk_below (pl_ BK208) hb)
               have n6_ := A_ (blk_below (pl_ BK225) hb)
               have n7_ := A_ (blk_below (pl_ BK231) hb)
               have n8_ := A_ (blk_below (pl_ BK242) hb)
               have n9_ := A_ (below_step (bl_ HB) hb)
               have n10_ := A_ (hbox)
               have n11_ := A_ ((by rw [hg]; exact (below_size (bl_ HB)) : w.heap.size ≤ gb271))
               have n12_ := n11_
               have n13_ := A_ ((by rw [hg]; exact Nat.ne_of_lt (blk_lt (pl_ BK207)) : gb207 ≠ gb271))
               have n14_ := Aside0.mk n13_.out.symm
               have n15_ := A_ ((by rw [hg]; exact Nat.ne_of_lt (blk_lt (pl_ BK208)) : gb208 ≠ gb271))
               have n16_ := Aside0.mk n15_.out.symm
               have n17_ := A_ ((by rw [hg]; exact Nat.ne_of_lt (blk_lt (pl_ BK225)) : gb225 ≠ gb271))
               have n18_ := Aside0.mk n17_.out.symm
               have n19_ := A_ ((by rw [hg]; exact Nat.ne_of_lt (blk_lt (pl_ BK231)) : gb231 ≠ gb271))
               have n20_ := Aside0.mk n19_.out.symm
               have n21_ := A_ ((by rw [hg]; exact Nat.ne_of_lt (blk_lt (pl_ BK242)) : gb242 ≠ gb271))
               have n22_ := Aside0.mk n21_.out.symm
               clear HO_226002
               clear HO_232002
               clear HO_243002
               clear HO260
               clear BK207
               clear BK208
               clear BK225
               clear BK231
               clear BK242
               clear HB
               have HO_226002 := n0_
               have HO_232002 := n1_
               have HO_243002 := n2_
               have HO260 := n3_
               have BK207 := n4_
               have BK208 := n5_
               have BK225 := n6_
               have BK231 := n7_
               have BK242 := n8_
               have HB := n9_
               have BK271 := n10_
               have GW271 := n11_
               have GE271 := n12_
               have NB207_271 := n13_
               have NB271_207 := n14_
               have NB208_271 := n15_
               have NB271_208 := n16_
               have NB225_271 := n17_
               have NB271_225 := n18_
               have NB231_271 := n19_
               have NB271_231 := n20_
               have NB242_271 := n21_
               have NB271_242 := n22_
               clear n0_ n1_ n2_ n3_ n4_ n5_ n6_ n7_ n8_ n9_ n10_ n11_ n12_ n13_ n14_ n15_ n16_ n17_ n18_ n19_ n20_ n21_ n22_
               clear hb hbox hg
               obtain ⟨Ao142, co142, eo142⟩ := Kd.R_slice HO260.out
               (first | subst eo142 | (injection eo142 with f1_ f2_ f3_; have f4_ := f1_.symm; have f5_ := f3_.symm; clear f1_ f2_ f3_; subst f4_; subst f5_))
               refine hK.out _ _ ⟨(blk_cell BK207.out 0).trans rfl, (blk_cell BK207.out 1).trans rfl, (blk_cell BK207.out 2).trans rfl, (blk_cell BK208.out 0).trans rfl, (blk_cell BK208.out 1).trans rfl, (blk_cell BK208.out 2).trans rfl, (blk_cell BK208.out 3).trans rfl⟩ (fun hHeld => ?_)
               clear hK K
               refine norm_ (a' := ?_) ?_ ?_
               rotate_left
               ·show Act.put _ (some 14) _ = _
                simp only [Act.put, List.setIfInBounds_toArray, List.set_cons_zero, List.set_cons_succ, i64_w, i32_w]
                rfl
               refine one_ (i := 4) (N := some 84) #[true, true, true, true, true, false, false, false, true, false, false] rfl rfl (one_of HT_.out (by kernel_rfl)) (by decide) (fun K hK => ?_)
               refine goes_ Try.func20 (by kernel_rfl) rfl #[.agg #[.int .i8 t256, .int .i8 t257, .slice Ao142 t258.length co142], .agg #[.int .i8 t261, .int .i8 t262, .int .i8 t263, .int .i8 t264]] (by rfl) rfl rfl arg_ ?_
               with_reducible refine (impl_AddWord.calls kj78 t256 t257 _ _ t258 t261 t262 t263 t264 t265 t266 t267 t270 _ ?side1 ?side2 A128.out).mono ?_
               (case side1 => repeat (first | exact (Kd.R_reads' HO260.out).2.2 | (with_reducible refine Kd.C_alloc ?_ _) | (with_reducible refine Kd.C_drewN ?_ _) | (with_reducible refine Kd.C_drew ?_)))
               (case side2 => exact (Kd.R_reads' HO260.out).2.1)
               rintro e w143 ⟨v268, rfl, ho0, hb⟩
               refine ⟨_, rfl, ?_⟩
               have n0_ := A_ (Kd.R_elder' (pr_ HO_226002) (Kd.R_base ho0) hb)
               have n1_ := A_ (Kd.R_elder' (pr_ HO_232002) (Kd.R_base ho0) hb)
               have n2_ := A_ (Kd.R_elder' (pr_ HO_243002) (Kd.R_base ho0) hb)
               have n3_ := A_ (Kd.R_elder' (pr_ HO260) (Kd.R_base ho0) hb)
               have n4_ := A_ (Kd.R_lower (Kd.R_new' (Kd.R_new' (Kd.R_new' (Kd.R_new' ho0 (Kd.R_lt (pr_ HO_226002))) (Kd.R_lt (pr_ HO_232002))) (Kd.R_lt (pr_ HO_243002))) (Kd.R_lt (pr_ HO260))) (below_size (bl_ HB)))
               have n5_ := A_ (blk_below (pl_ BK207) hb)
               have n6_ := A_ (blk_below (pl_ BK208) hb)
               have n7_ := A_ (blk_below (pl_ BK225) hb)
               have n8_ := A_ (blk_below (pl_ BK231) hb)
               have n9_ := A_ (blk_below (pl_ BK242) hb)
               have n10_ := A_ (blk_below (pl_ BK271) hb)
               have n11_ := A_ (below_step (bl_ HB) hb)
               clear HO_226002
               clear HO_232002
               clear HO_243002
               clear HO260
               clear BK207
               clear BK208
               clear BK225
               clear BK231
               clear BK242
               clear BK271
               clear HB
               have HO_226002 := n0_
               have HO_232002 := n1_
               have HO_243002 := n2_
               have HO260 := n3_
               have HO269 := n4_
               have BK207 := n5_
               have BK208 := n6_
               have BK225 := n7_
               have BK231 := n8_
               have BK242 := n9_
               have BK271 := n10_
               have HB := n11_
               clear n0_ n1_ n2_ n3_ n4_ n5_ n6_ n7_ n8_ n9_ n10_ n11_
               (try clear hb)
               (try clear hb2)
               (try clear hk)
               (try clear hi)
               (try clear ho0)
               refine hK.out _ _ ⟨(blk_cell BK207.out 0).trans rfl, (blk_cell BK207.out 1).trans rfl, (blk_cell BK207.out 2).trans rfl, (blk_cell BK208.out 0).trans rfl, (blk_cell BK208.out 1).trans rfl, (blk_cell BK208.out 2).trans rfl, (blk_cell BK208.out 3).trans rfl⟩ (fun hHeld => ?_)
               clear hK K
               refine norm_ (a' := ?_) ?_ ?_
               rotate_left
               ·show Act.put _ (some 84) _ = _
                simp only [Act.put, List.setIfInBounds_toArray, List.set_cons_zero, List.set_cons_succ, i64_w, i32_w]
                rfl
               refine pure_ (i := 5) (N := some 79) (v := ?_) (a' := ?_) #[true, true, true, true, true, true, false, false, true, false, false] rfl rfl (any_of HT_.out (by kernel_rfl)) (fun _ _ _ h => h) (Or.inl ⟨by rfl, ?_⟩) ?_ ?_
               rotate_left
               ·intro w'
                go_simp
                with_reducible rfl
               rotate_left
               ·simp only [Act.put, List.setIfInBounds_toArray, List.set_cons_zero, List.set_cons_succ, i64_w, i32_w]
                rfl
               refine pure_ (i := 6) (N := some 85) (v := ?_) (a' := ?_) #[true, true, true, true, true, true, true, false, true, false, false] rfl rfl (any_of HT_.out (by kernel_rfl)) (fun _ _ _ h => h) (Or.inl ⟨by rfl, ?_⟩) ?_ ?_
               rotate_left
               ·intro w'
                go_simp
                with_reducible rfl
               rotate_left
               ·simp only [Act.put, List.setIfInBounds_toArray, List.set_cons_zero, List.set_cons_succ, i64_w, i32_w]
                rfl
               refine pure_ (i := 7) (N := some 86) (v := ?_) (a' := ?_) #[true, true, true, true, true, true, true, true, true, false, false] rfl rfl (any_of HT_.out (by kernel_rfl)) (fun _ _ _ h => h) (Or.inl ⟨by rfl, ?_⟩) ?_ ?_
               rotate_left
               ·intro w'
                go_simp
                with_reducible rfl
               rotate_left
               ·simp only [Act.put, List.setIfInBounds_toArray, List.set_cons_zero, List.set_cons_succ, i64_w, i32_w]
                rfl
               exact norm_ pa_ (hCont (.slice Ao142 t258.length co142, v268, gb271) _ ⟨hHeld, (by (with_reducible repeat (first | apply Kd.R_alloc | apply Kd.R_drewN | apply Kd.R_drew)); exact Kd.R_mono HO260.out (fun _ hk => ⟨hk.2, ⟨hk.1.1.1.2, ⟨hk.1.1.2, hk.1.2⟩⟩⟩)), (by (with_reducible repeat (first | apply Kd.R_alloc | apply Kd.R_drewN | apply Kd.R_drew)); exact Kd.R_mono HO269.out (fun _ hk => ⟨hk.2, ⟨hk.1.1.1.2, ⟨hk.1.1.2, hk.1.2⟩⟩⟩)), (by (with_reducible repeat (first | apply Kd.R_alloc | apply Kd.R_drewN | apply Kd.R_drew)); exact Kd.R_mono HO_226002.out (fun _ hk => ⟨hk.1.2, ⟨hk.2, ⟨hk.1.1.1, hk.1.1.2⟩⟩⟩)), (by (with_reducible repeat (first | apply Kd.R_alloc | apply Kd.R_drewN | apply Kd.R_drew)); exact Kd.R_mono HO_232002.out (fun _ hk => ⟨hk.1.2, ⟨hk.2, ⟨hk.1.1.1, hk.1.1.2⟩⟩⟩)), (by (with_reducible repeat (first | apply Kd.R_alloc | apply Kd.R_drewN | apply Kd.R_drew)); exact Kd.R_mono HO_243002.out (fun _ hk => ⟨hk.1.2, ⟨hk.2, ⟨hk.1.1.1, hk.1.1.2⟩⟩⟩)), (pl_ BK207), (pl_ BK208), (pl_ BK225), (pl_ BK231), (pl_ BK242), (pl_ BK271), GW271.out, GE271.out, NB207_271.out, NB271_207.out, NB208_271.out, NB271_208.out, NB225_271.out, NB271_225.out, NB231_271.out, NB271_231.out, NB242_271.out, NB271_242.out, (bl_ HB)⟩)
             ·skip
              refine box_step ?hg (N := 14) ?hd (cs := #[.int .i8 0, .int .i8 0, .slice none 0 0]) (t := 30) ?hr ?_; (case hd => rfl); (case hg => rfl); (case hr => first | (go_simp; done) | (go_simp; rfl))
              intro gb271 hg w140 hbox hb
              have n0_ := A_ (Kd.R_below (pr_ HO_226002) hb)
              have n1_ := A_ (Kd.R_below (pr_ HO_232002) hb)
              have n2_ := A_ (Kd.R_below (pr_ HO_243002) hb)
              have n3_ := A_ (Kd.R_below (pr_ HO260) hb)
              have n4_ := A_ (blk_below (pl_ BK207) hb)
              have n5_ := A_ (blk_below (pl_ BK208) hb)
              have n6_ := A_ (blk_below (pl_ BK225) hb)
              have n7_ := A_ (blk_below (pl_ BK231) hb)
              have n8_ := A_ (blk_below (pl_ BK242) hb)
              have n9_ := A_ (below_step (bl_ HB) hb)
              have n10_ := A_ (hbox)
              have n11_ := A_ ((by rw [hg]; exact (below_size (bl_ HB)) : w.heap.size ≤ gb271))
              have n12_ := n11_
              have n13_ := A_ ((by rw [hg]; exact Nat.ne_of_lt (blk_lt (pl_ BK207)) : gb207 ≠ gb271))
              have n14_ := Aside0.mk n13_.out.symm
              have n15_ := A_ ((by rw [hg]; exact Nat.ne_of_lt (blk_lt (pl_ BK208)) : gb208 ≠ gb271))
              have n16_ := Aside0.mk n15_.out.symm
              have n17_ := A_ ((by rw [hg]; exact Nat.ne_of_lt (blk_lt (pl_ BK225)) : gb225 ≠ gb271))
              have n18_ := Aside0.mk n17_.out.symm
              have n19_ := A_ ((by rw [hg]; exact Nat.ne_of_lt (blk_lt (pl_ BK231)) : gb231 ≠ gb271))
              have n20_ := Aside0.mk n19_.out.symm
              have n21_ := A_ ((by rw [hg]; exact Nat.ne_of_lt (blk_lt (pl_ BK242)) : gb242 ≠ gb271))
              have n22_ := Aside0.mk n21_.out.symm
              clear HO_226002
              clear HO_232002
              clear HO_243002
              clear HO260
              clear BK207
              clear BK208
              clear BK225
              clear BK231
              clear BK242
              clear HB
              have HO_226002 := n0_
              have HO_232002 := n1_
              have HO_243002 := n2_
              have HO260 := n3_
              have BK207 := n4_
              have BK208 := n5_
              have BK225 := n6_
              have BK231 := n7_
              have BK242 := n8_
              have HB := n9_
              have BK271 := n10_
              have GW271 := n11_
              have GE271 := n12_
              have NB207_271 := n13_
              have NB271_207 := n14_
              have NB208_271 := n15_
              have NB271_208 := n16_
              have NB225_271 := n17_
              have NB271_225 := n18_
              have NB231_271 := n19_
              have NB271_231 := n20_
              have NB242_271 := n21_
              have NB271_242 := n22_
              clear n0_ n1_ n2_ n3_ n4_ n5_ n6_ n7_ n8_ n9_ n10_ n11_ n12_ n13_ n14_ n15_ n16_ n17_ n18_ n19_ n20_ n21_ n22_
              clear hb hbox hg
              refine hK.out _ _ ⟨(blk_cell BK207.out 0).trans rfl, (blk_cell BK207.out 1).trans rfl, (blk_cell BK207.out 2).trans rfl, (blk_cell BK208.out 0).trans rfl, (blk_cell BK208.out 1).trans rfl, (blk_cell BK208.out 2).trans rfl, (blk_cell BK208.out 3).trans rfl⟩ (fun hHeld => ?_)
              clear hK K
              refine norm_ (a' := ?_) ?_ ?_
              rotate_left
              ·show Act.put _ (some 14) _ = _
               simp only [Act.put, List.setIfInBounds_toArray, List.set_cons_zero, List.set_cons_succ, i64_w, i32_w]
               rfl
              refine one_ (i := 3) (N := some 83) #[true, true, true, true, false, false, false, false, true, false, false] rfl rfl (one_of HT_.out (by kernel_rfl)) (by decide) (fun K hK => ?_)
              refine goes_ Try.func19 (by kernel_rfl) rfl #[.agg #[.int .i8 a1_0, .int .i8 a1_1, .int .i8 a1_2, .int .i8 a1_3]] (by rfl) rfl rfl arg_ ?_
              with_reducible refine (laws_toWord.calls kj78 a1_0 a1_1 a1_2 a1_3 t261 t262 t263 t264 _ A127.out).mono ?_
              rintro e w141 ⟨rfl, hb⟩
              refine ⟨_, rfl, ?_⟩
              have n0_ := A_ (Kd.R_below (pr_ HO_226002) hb)
              have n1_ := A_ (Kd.R_below (pr_ HO_232002) hb)
              have n2_ := A_ (Kd.R_below (pr_ HO_243002) hb)
              have n3_ := A_ (Kd.R_below (pr_ HO260) hb)
              have n4_ := A_ (blk_below (pl_ BK207) hb)
              have n5_ := A_ (blk_below (pl_ BK208) hb)
              have n6_ := A_ (blk_below (pl_ BK225) hb)
              have n7_ := A_ (blk_below (pl_ BK231) hb)
              have n8_ := A_ (blk_below (pl_ BK242) hb)
              have n9_ := A_ (blk_below (pl_ BK271) hb)
              have n10_ := A_ (below_step (bl_ HB) hb)
              clear HO_226002
              clear HO_232002
              clear HO_243002
              clear HO260
              clear BK207
              clear BK208
              clear BK225
              clear BK231
              clear BK242
              clear BK271
              clear HB
              have HO_226002 := n0_
              have HO_232002 := n1_
              have HO_243002 := n2_
              have HO260 := n3_
              have BK207 := n4_
              have BK208 := n5_
              have BK225 := n6_
              have BK231 := n7_
              have BK242 := n8_
              have BK271 := n9_
              have HB := n10_
              clear n0_ n1_ n2_ n3_ n4_ n5_ n6_ n7_ n8_ n9_ n10_
              (try clear hb)
              (try clear hb2)
              (try clear hk)
              (try clear hi)
              obtain ⟨Ao142, co142, eo142⟩ := Kd.R_slice HO260.out
              (first | subst eo142 | (injection eo142 with f1_ f2_ f3_; have f4_ := f1_.symm; have f5_ := f3_.symm; clear f1_ f2_ f3_; subst f4_; subst f5_))
              refine hK.out _ _ ⟨(blk_cell BK207.out 0).trans rfl, (blk_cell BK207.out 1).trans rfl, (blk_cell BK207.out 2).trans rfl, (blk_cell BK208.out 0).trans rfl, (blk_cell BK208.out 1).trans rfl, (blk_cell BK208.out 2).trans rfl, (blk_cell BK208.out 3).trans rfl⟩ (fun hHeld => ?_)
              clear hK K
              refine norm_ (a' := ?_) ?_ ?_
              rotate_left
              ·show Act.put _ (some 83) _ = _
               simp only [Act.put, List.setIfInBounds_toArray, List.set_cons_zero, List.set_cons_succ, i64_w, i32_w]
               rfl
              refine one_ (i := 4) (N := some 84) #[true, true, true, true, true, false, false, false, true, false, false] rfl rfl (one_of HT_.out (by kernel_rfl)) (by decide) (fun K hK => ?_)
              refine goes_ Try.func20 (by kernel_rfl) rfl #[.agg #[.int .i8 t256, .int .i8 t257, .slice Ao142 t258.length co142], .agg #[.int .i8 t261, .int .i8 t262, .int .i8 t263, .int .i8 t264]] (by rfl) rfl rfl arg_ ?_
              with_reducible refine (impl_AddWord.calls kj78 t256 t257 _ _ t258 t261 t262 t263 t264 t265 t266 t267 t270 _ ?side1 ?side2 A128.out).mono ?_
              (case side1 => repeat (first | exact (Kd.R_reads' HO260.out).2.2 | (with_reducible refine Kd.C_alloc ?_ _) | (with_reducible refine Kd.C_drewN ?_ _) | (with_reducible refine Kd.C_drew ?_)))
              (case side2 => exact (Kd.R_reads' HO260.out).2.1)
              rintro e w143 ⟨v268, rfl, ho0, hb⟩
              refine ⟨_, rfl, ?_⟩
              have n0_ := A_ (Kd.R_elder' (pr_ HO_226002) (Kd.R_base ho0) hb)
              have n1_ := A_ (Kd.R_elder' (pr_ HO_232002) (Kd.R_base ho0) hb)
              have n2_ := A_ (Kd.R_elder' (pr_ HO_243002) (Kd.R_base ho0) hb)
              have n3_ := A_ (Kd.R_elder' (pr_ HO260) (Kd.R_base ho0) hb)
              have n4_ := A_ (Kd.R_lower (Kd.R_new' (Kd.R_new' (Kd.R_new' (Kd.R_new' ho0 (Kd.R_lt (pr_ HO_226002))) (Kd.R_lt (pr_ HO_232002))) (Kd.R_lt (pr_ HO_243002))) (Kd.R_lt (pr_ HO260))) (below_size (bl_ HB)))
              have n5_ := A_ (blk_below (pl_ BK207) hb)
              have n6_ := A_ (blk_below (pl_ BK208) hb)
              have n7_ := A_ (blk_below (pl_ BK225) hb)
              have n8_ := A_ (blk_below (pl_ BK231) hb)
              have n9_ := A_ (blk_below (pl_ BK242) hb)
              have n10_ := A_ (blk_below (pl_ BK271) hb)
              have n11_ := A_ (below_step (bl_ HB) hb)
              clear HO_226002
              clear HO_232002
              clear HO_243002
              clear HO260
              clear BK207
              clear BK208
              clear BK225
              clear BK231
              clear BK242
              clear BK271
              clear HB
              have HO_226002 := n0_
              have HO_232002 := n1_
              have HO_243002 := n2_
              have HO260 := n3_
              have HO269 := n4_
              have BK207 := n5_
              have BK208 := n6_
              have BK225 := n7_
              have BK231 := n8_
              have BK242 := n9_
              have BK271 := n10_
              have HB := n11_
              clear n0_ n1_ n2_ n3_ n4_ n5_ n6_ n7_ n8_ n9_ n10_ n11_
              (try clear hb)
              (try clear hb2)
              (try clear hk)
              (try clear hi)
              (try clear ho0)
              refine hK.out _ _ ⟨(blk_cell BK207.out 0).trans rfl, (blk_cell BK207.out 1).trans rfl, (blk_cell BK207.out 2).trans rfl, (blk_cell BK208.out 0).trans rfl, (blk_cell BK208.out 1).trans rfl, (blk_cell BK208.out 2).trans rfl, (blk_cell BK208.out 3).trans rfl⟩ (fun hHeld => ?_)
              clear hK K
              refine norm_ (a' := ?_) ?_ ?_
              rotate_left
              ·show Act.put _ (some 84) _ = _
               simp only [Act.put, List.setIfInBounds_toArray, List.set_cons_zero, List.set_cons_succ, i64_w, i32_w]
               rfl
              refine pure_ (i := 5) (N := some 79) (v := ?_) (a' := ?_) #[true, true, true, true, true, true, false, false, true, false, false] rfl rfl (any_of HT_.out (by kernel_rfl)) (fun _ _ _ h => h) (Or.inl ⟨by rfl, ?_⟩) ?_ ?_
              rotate_left
              ·intro w'
               go_simp
               with_reducible rfl
              rotate_left
              ·simp only [Act.put, List.setIfInBounds_toArray, List.set_cons_zero, List.set_cons_succ, i64_w, i32_w]
               rfl
              refine pure_ (i := 6) (N := some 85) (v := ?_) (a' := ?_) #[true, true, true, true, true, true, true, false, true, false, false] rfl rfl (any_of HT_.out (by kernel_rfl)) (fun _ _ _ h => h) (Or.inl ⟨by rfl, ?_⟩) ?_ ?_
              rotate_left
              ·intro w'
               go_simp
               with_reducible rfl
              rotate_left
              ·simp only [Act.put, List.setIfInBounds_toArray, List.set_cons_zero, List.set_cons_succ, i64_w, i32_w]
               rfl
              refine pure_ (i := 7) (N := some 86) (v := ?_) (a' := ?_) #[true, true, true, true, true, true, true, true, true, false, false] rfl rfl (any_of HT_.out (by kernel_rfl)) (fun _ _ _ h => h) (Or.inl ⟨by rfl, ?_⟩) ?_ ?_
              rotate_left
              ·intro w'
               go_simp
               with_reducible rfl
              rotate_left
              ·simp only [Act.put, List.setIfInBounds_toArray, List.set_cons_zero, List.set_cons_succ, i64_w, i32_w]
               rfl
              exact norm_ pa_ (hCont (.slice Ao142 t258.length co142, v268, gb271) _ ⟨hHeld, (by (with_reducible repeat (first | apply Kd.R_alloc | apply Kd.R_drewN | apply Kd.R_drew)); exact Kd.R_mono HO260.out (fun _ hk => ⟨hk.2, ⟨hk.1.1.1.2, ⟨hk.1.1.2, hk.1.2⟩⟩⟩)), (by (with_reducible repeat (first | apply Kd.R_alloc | apply Kd.R_drewN | apply Kd.R_drew)); exact Kd.R_mono HO269.out (fun _ hk => ⟨hk.2, ⟨hk.1.1.1.2, ⟨hk.1.1.2, hk.1.2⟩⟩⟩)), (by (with_reducible repeat (first | apply Kd.R_alloc | apply Kd.R_drewN | apply Kd.R_drew)); exact Kd.R_mono HO_226002.out (fun _ hk => ⟨hk.1.2, ⟨hk.2, ⟨hk.1.1.1, hk.1.1.2⟩⟩⟩)), (by (with_reducible repeat (first | apply Kd.R_alloc | apply Kd.R_drewN | apply Kd.R_drew)); exact Kd.R_mono HO_232002.out (fun _ hk => ⟨hk.1.2, ⟨hk.2, ⟨hk.1.1.1, hk.1.1.2⟩⟩⟩)), (by (with_reducible repeat (first | apply Kd.R_alloc | apply Kd.R_drewN | apply Kd.R_drew)); exact Kd.R_mono HO_243002.out (fun _ hk => ⟨hk.1.2, ⟨hk.2, ⟨hk.1.1.1, hk.1.1.2⟩⟩⟩)), (pl_ BK207), (pl_ BK208), (pl_ BK225), (pl_ BK231), (pl_ BK242), (pl_ BK271), GW271.out, GE271.out, NB207_271.out, NB271_207.out, NB208_271.out, NB271_208.out, NB225_271.out, NB271_225.out, NB231_271.out, NB271_231.out, NB242_271.out, NB271_242.out, (bl_ HB)⟩)
            ·skip
             refine box_step ?hg (N := 14) ?hd (cs := #[.int .i8 0, .int .i8 0, .slice none 0 0]) (t := 30) ?hr ?_; (case hd => rfl); (case hg => rfl); (case hr => first | (go_simp; done) | (go_simp; rfl))
             intro gb271 hg w139 hbox hb
             have n0_ := A_ (Kd.R_below (pr_ HO_226002) hb)
             have n1_ := A_ (Kd.R_below (pr_ HO_232002) hb)
             have n2_ := A_ (Kd.R_below (pr_ HO_243002) hb)
             have n3_ := A_ (blk_below (pl_ BK207) hb)
             have n4_ := A_ (blk_below (pl_ BK208) hb)
             have n5_ := A_ (blk_below (pl_ BK225) hb)
             have n6_ := A_ (blk_below (pl_ BK231) hb)
             have n7_ := A_ (blk_below (pl_ BK242) hb)
             have n8_ := A_ (below_step (bl_ HB) hb)
             have n9_ := A_ (hbox)
             have n10_ := A_ ((by rw [hg]; exact (below_size (bl_ HB)) : w.heap.size ≤ gb271))
             have n11_ := n10_
             have n12_ := A_ ((by rw [hg]; exact Nat.ne_of_lt (blk_lt (pl_ BK207)) : gb207 ≠ gb271))
             have n13_ := Aside0.mk n12_.out.symm
             have n14_ := A_ ((by rw [hg]; exact Nat.ne_of_lt (blk_lt (pl_ BK208)) : gb208 ≠ gb271))
             have n15_ := Aside0.mk n14_.out.symm
             have n16_ := A_ ((by rw [hg]; exact Nat.ne_of_lt (blk_lt (pl_ BK225)) : gb225 ≠ gb271))
             have n17_ := Aside0.mk n16_.out.symm
             have n18_ := A_ ((by rw [hg]; exact Nat.ne_of_lt (blk_lt (pl_ BK231)) : gb231 ≠ gb271))
             have n19_ := Aside0.mk n18_.out.symm
             have n20_ := A_ ((by rw [hg]; exact Nat.ne_of_lt (blk_lt (pl_ BK242)) : gb242 ≠ gb271))
             have n21_ := Aside0.mk n20_.out.symm
             clear HO_226002
             clear HO_232002
             clear HO_243002
             clear BK207
             clear BK208
             clear BK225
             clear BK231
             clear BK242
             clear HB
             have HO_226002 := n0_
             have HO_232002 := n1_
             have HO_243002 := n2_
             have BK207 := n3_
             have BK208 := n4_
             have BK225 := n5_
             have BK231 := n6_
             have BK242 := n7_
             have HB := n8_
             have BK271 := n9_
             have GW271 := n10_
             have GE271 := n11_
             have NB207_271 := n12_
             have NB271_207 := n13_
             have NB208_271 := n14_
             have NB271_208 := n15_
             have NB225_271 := n16_
             have NB271_225 := n17_
             have NB231_271 := n18_
             have NB271_231 := n19_
             have NB242_271 := n20_
             have NB271_242 := n21_
             clear n0_ n1_ n2_ n3_ n4_ n5_ n6_ n7_ n8_ n9_ n10_ n11_ n12_ n13_ n14_ n15_ n16_ n17_ n18_ n19_ n20_ n21_
             clear hb hbox hg
             refine hK.out _ _ ⟨(blk_cell BK207.out 0).trans rfl, (blk_cell BK207.out 1).trans rfl, (blk_cell BK207.out 2).trans rfl, (blk_cell BK208.out 0).trans rfl, (blk_cell BK208.out 1).trans rfl, (blk_cell BK208.out 2).trans rfl, (blk_cell BK208.out 3).trans rfl⟩ (fun hHeld => ?_)
             clear hK K
             refine norm_ (a' := ?_) ?_ ?_
             rotate_left
             ·show Act.put _ (some 14) _ = _
              simp only [Act.put, List.setIfInBounds_toArray, List.set_cons_zero, List.set_cons_succ, i64_w, i32_w]
              rfl
             refine one_ (i := 1) (N := some 81) #[true, true, true, false, false, false, false, false, true, false, false] rfl rfl (one_of HT_.out (by kernel_rfl)) (by decide) (fun K hK => ?_)
             refine goes_ Try.func11 (by kernel_rfl) rfl #[.agg #[.int .i8 a0_0, .int .i8 a0_1, .slice A0_2 l0_2.length c0_2]] (by rfl) rfl rfl arg_ ?_
             with_reducible refine (laws_toFixed.calls kj78 a0_0 a0_1 _ _ l0_2 t256 t257 t258 _ ?side1 ?side2 A126.out).mono ?_
             (case side1 => repeat (first | exact (Kd.C_below HR0_2.out HB.out) | (with_reducible refine Kd.C_alloc ?_ _) | (with_reducible refine Kd.C_drewN ?_ _) | (with_reducible refine Kd.C_drew ?_)))
             (case side2 => exact HC0_2.out)
             rintro e w140 ⟨v259, rfl, ho0, hb⟩
             refine ⟨_, rfl, ?_⟩
             have n0_ := A_ (Kd.R_elder' (pr_ HO_226002) (Kd.R_base ho0) hb)
             have n1_ := A_ (Kd.R_elder' (pr_ HO_232002) (Kd.R_base ho0) hb)
             have n2_ := A_ (Kd.R_elder' (pr_ HO_243002) (Kd.R_base ho0) hb)
             have n3_ := A_ (Kd.R_lower (Kd.R_new' (Kd.R_new' (Kd.R_new' ho0 (Kd.R_lt (pr_ HO_226002))) (Kd.R_lt (pr_ HO_232002))) (Kd.R_lt (pr_ HO_243002))) (below_size (bl_ HB)))
             have n4_ := A_ (blk_below (pl_ BK207) hb)
             have n5_ := A_ (blk_below (pl_ BK208) hb)
             have n6_ := A_ (blk_below (pl_ BK225) hb)
             have n7_ := A_ (blk_below (pl_ BK231) hb)
             have n8_ := A_ (blk_below (pl_ BK242) hb)
             have n9_ := A_ (blk_below (pl_ BK271) hb)
             have n10_ := A_ (below_step (bl_ HB) hb)
             clear HO_226002
             clear HO_232002
             clear HO_243002
             clear BK207
             clear BK208
             clear BK225
             clear BK231
             clear BK242
             clear BK271
             clear HB
             have HO_226002 := n0_
             have HO_232002 := n1_
             have HO_243002 := n2_
             have HO260 := n3_
             have BK207 := n4_
             have BK208 := n5_
             have BK225 := n6_
             have BK231 := n7_
             have BK242 := n8_
             have BK271 := n9_
             have HB := n10_
             clear n0_ n1_ n2_ n3_ n4_ n5_ n6_ n7_ n8_ n9_ n10_
             (try clear hb)
             (try clear hb2)
             (try clear hk)
             (try clear hi)
             (try clear ho0)
             refine hK.out _ _ ⟨(blk_cell BK207.out 0).trans rfl, (blk_cell BK207.out 1).trans rfl, (blk_cell BK207.out 2).trans rfl, (blk_cell BK208.out 0).trans rfl, (blk_cell BK208.out 1).trans rfl, (blk_cell BK208.out 2).trans rfl, (blk_cell BK208.out 3).trans rfl⟩ (fun hHeld => ?_)
             clear hK K
             refine norm_ (a' := ?_) ?_ ?_
             rotate_left
             ·show Act.put _ (some 81) _ = _
              simp only [Act.put, List.setIfInBounds_toArray, List.set_cons_zero, List.set_cons_succ, i64_w, i32_w]
              rfl
             refine one_ (i := 3) (N := some 83) #[true, true, true, true, false, false, false, false, true, false, false] rfl rfl (one_of HT_.out (by kernel_rfl)) (by decide) (fun K hK => ?_)
             refine goes_ Try.func19 (by kernel_rfl) rfl #[.agg #[.int .i8 a1_0, .int .i8 a1_1, .int .i8 a1_2, .int .i8 a1_3]] (by rfl) rfl rfl arg_ ?_
             with_reducible refine (laws_toWord.calls kj78 a1_0 a1_1 a1_2 a1_3 t261 t262 t263 t264 _ A127.out).mono ?_
             rintro e w141 ⟨rfl, hb⟩
             refine ⟨_, rfl, ?_⟩
             have n0_ := A_ (Kd.R_below (pr_ HO_226002) hb)
             have n1_ := A_ (Kd.R_below (pr_ HO_232002) hb)
             have n2_ := A_ (Kd.R_below (pr_ HO_243002) hb)
             have n3_ := A_ (Kd.R_below (pr_ HO260) hb)
             have n4_ := A_ (blk_below (pl_ BK207) hb)
             have n5_ := A_ (blk_below (pl_ BK208) hb)
             have n6_ := A_ (blk_below (pl_ BK225) hb)
             have n7_ := A_ (blk_below (pl_ BK231) hb)
             have n8_ := A_ (blk_below (pl_ BK242) hb)
             have n9_ := A_ (blk_below (pl_ BK271) hb)
             have n10_ := A_ (below_step (bl_ HB) hb)
             clear HO_226002
             clear HO_232002
             clear HO_243002
             clear HO260
             clear BK207
             clear BK208
             clear BK225
             clear BK231
             clear BK242
             clear BK271
             clear HB
             have HO_226002 := n0_
             have HO_232002 := n1_
             have HO_243002 := n2_
             have HO260 := n3_
             have BK207 := n4_
             have BK208 := n5_
             have BK225 := n6_
             have BK231 := n7_
             have BK242 := n8_
             have BK271 := n9_
             have HB := n10_
             clear n0_ n1_ n2_ n3_ n4_ n5_ n6_ n7_ n8_ n9_ n10_
             (try clear hb)
             (try clear hb2)
             (try clear hk)
             (try clear hi)
             obtain ⟨Ao142, co142, eo142⟩ := Kd.R_slice HO260.out
             (first | subst eo142 | (injection eo142 with f1_ f2_ f3_; have f4_ := f1_.symm; have f5_ := f3_.symm; clear f1_ f2_ f3_; subst f4_; subst f5_))
             refine hK.out _ _ ⟨(blk_cell BK207.out 0).trans rfl, (blk_cell BK207.out 1).trans rfl, (blk_cell BK207.out 2).trans rfl, (blk_cell BK208.out 0).trans rfl, (blk_cell BK208.out 1).trans rfl, (blk_cell BK208.out 2).trans rfl, (blk_cell BK208.out 3).trans rfl⟩ (fun hHeld => ?_)
             clear hK K
             refine norm_ (a' := ?_) ?_ ?_
             rotate_left
             ·show Act.put _ (some 83) _ = _
              simp only [Act.put, List.setIfInBounds_toArray, List.set_cons_zero, List.set_cons_succ, i64_w, i32_w]
              rfl
             refine one_ (i := 4) (N := some 84) #[true, true, true, true, true, false, false, false, true, false, false] rfl rfl (one_of HT_.out (by kernel_rfl)) (by decide) (fun K hK => ?_)
             refine goes_ Try.func20 (by kernel_rfl) rfl #[.agg #[.int .i8 t256, .int .i8 t257, .slice Ao142 t258.length co142], .agg #[.int .i8 t261, .int .i8 t262, .int .i8 t263, .int .i8 t264]] (by rfl) rfl rfl arg_ ?_
             with_reducible refine (impl_AddWord.calls kj78 t256 t257 _ _ t258 t261 t262 t263 t264 t265 t266 t267 t270 _ ?side1 ?side2 A128.out).mono ?_
             (case side1 => repeat (first | exact (Kd.R_reads' HO260.out).2.2 | (with_reducible refine Kd.C_alloc ?_ _) | (with_reducible refine Kd.C_drewN ?_ _) | (with_reducible refine Kd.C_drew ?_)))
             (case side2 => exact (Kd.R_reads' HO260.out).2.1)
             rintro e w143 ⟨v268, rfl, ho0, hb⟩
             refine ⟨_, rfl, ?_⟩
             have n0_ := A_ (Kd.R_elder' (pr_ HO_226002) (Kd.R_base ho0) hb)
             have n1_ := A_ (Kd.R_elder' (pr_ HO_232002) (Kd.R_base ho0) hb)
             have n2_ := A_ (Kd.R_elder' (pr_ HO_243002) (Kd.R_base ho0) hb)
             have n3_ := A_ (Kd.R_elder' (pr_ HO260) (Kd.R_base ho0) hb)
             have n4_ := A_ (Kd.R_lower (Kd.R_new' (Kd.R_new' (Kd.R_new' (Kd.R_new' ho0 (Kd.R_lt (pr_ HO_226002))) (Kd.R_lt (pr_ HO_232002))) (Kd.R_lt (pr_ HO_243002))) (Kd.R_lt (pr_ HO260))) (below_size (bl_ HB)))
             have n5_ := A_ (blk_below (pl_ BK207) hb)
             have n6_ := A_ (blk_below (pl_ BK208) hb)
             have n7_ := A_ (blk_below (pl_ BK225) hb)
             have n8_ := A_ (blk_below (pl_ BK231) hb)
             have n9_ := A_ (blk_below (pl_ BK242) hb)
             have n10_ := A_ (blk_below (pl_ BK271) hb)
             have n11_ := A_ (below_step (bl_ HB) hb)
             clear HO_226002
             clear HO_232002
             clear HO_243002
             clear HO260
             clear BK207
             clear BK208
             clear BK225
             clear BK231
             clear BK242
             clear BK271
             clear HB
             have HO_226002 := n0_
             have HO_232002 := n1_
             have HO_243002 := n2_
             have HO260 := n3_
             have HO269 := n4_
             have BK207 := n5_
             have BK208 := n6_
             have BK225 := n7_
             have BK231 := n8_
             have BK242 := n9_
             have BK271 := n10_
             have HB := n11_
             clear n0_ n1_ n2_ n3_ n4_ n5_ n6_ n7_ n8_ n9_ n10_ n11_
             (try clear hb)
             (try clear hb2)
             (try clear hk)
             (try clear hi)
             (try clear ho0)
             refine hK.out _ _ ⟨(blk_cell BK207.out 0).trans rfl, (blk_cell BK207.out 1).trans rfl, (blk_cell BK207.out 2).trans rfl, (blk_cell BK208.out 0).trans rfl, (blk_cell BK208.out 1).trans rfl, (blk_cell BK208.out 2).trans rfl, (blk_cell BK208.out 3).trans rfl⟩ (fun hHeld => ?_)
             clear hK K
             refine norm_ (a' := ?_) ?_ ?_
             rotate_left
             ·show Act.put _ (some 84) _ = _
              simp only [Act.put, List.setIfInBounds_toArray, List.set_cons_zero, List.set_cons_succ, i64_w, i32_w]
              rfl
             refine pure_ (i := 5) (N := some 79) (v := ?_) (a' := ?_) #[true, true, true, true, true, true, false, false, true, false, false] rfl rfl (any_of HT_.out (by kernel_rfl)) (fun _ _ _ h => h) (Or.inl ⟨by rfl, ?_⟩) ?_ ?_
             rotate_left
             ·intro w'
              go_simp
              with_reducible rfl
             rotate_left
             ·simp only [Act.put, List.setIfInBounds_toArray, List.set_cons_zero, List.set_cons_succ, i64_w, i32_w]
              rfl
             refine pure_ (i := 6) (N := some 85) (v := ?_) (a' := ?_) #[true, true, true, true, true, true, true, false, true, false, false] rfl rfl (any_of HT_.out (by kernel_rfl)) (fun _ _ _ h => h) (Or.inl ⟨by rfl, ?_⟩) ?_ ?_
             rotate_left
             ·intro w'
              go_simp
              with_reducible rfl
             rotate_left
             ·simp only [Act.put, List.setIfInBounds_toArray, List.set_cons_zero, List.set_cons_succ, i64_w, i32_w]
              rfl
             refine pure_ (i := 7) (N := some 86) (v := ?_) (a' := ?_) #[true, true, true, true, true, true, true, true, true, false, false] rfl rfl (any_of HT_.out (by kernel_rfl)) (fun _ _ _ h => h) (Or.inl ⟨by rfl, ?_⟩) ?_ ?_
             rotate_left
             ·intro w'
              go_simp
              with_reducible rfl
             rotate_left
             ·simp only [Act.put, List.setIfInBounds_toArray, List.set_cons_zero, List.set_cons_succ, i64_w, i32_w]
              rfl
             exact norm_ pa_ (hCont (.slice Ao142 t258.length co142, v268, gb271) _ ⟨hHeld, (by (with_reducible repeat (first | apply Kd.R_alloc | apply Kd.R_drewN | apply Kd.R_drew)); exact Kd.R_mono HO260.out (fun _ hk => ⟨hk.2, ⟨hk.1.1.1.2, ⟨hk.1.1.2, hk.1.2⟩⟩⟩)), (by (with_reducible repeat (first | apply Kd.R_alloc | apply Kd.R_drewN | apply Kd.R_drew)); exact Kd.R_mono HO269.out (fun _ hk => ⟨hk.2, ⟨hk.1.1.1.2, ⟨hk.1.1.2, hk.1.2⟩⟩⟩)), (by (with_reducible repeat (first | apply Kd.R_alloc | apply Kd.R_drewN | apply Kd.R_drew)); exact Kd.R_mono HO_226002.out (fun _ hk => ⟨hk.1.2, ⟨hk.2, ⟨hk.1.1.1, hk.1.1.2⟩⟩⟩)), (by (with_reducible repeat (first | apply Kd.R_alloc | apply Kd.R_drewN | apply Kd.R_drew)); exact Kd.R_mono HO_232002.out (fun _ hk => ⟨hk.1.2, ⟨hk.2, ⟨hk.1.1.1, hk.1.1.2⟩⟩⟩)), (by (with_reducible repeat (first | apply Kd.R_alloc | apply Kd.R_drewN | apply Kd.R_drew)); exact Kd.R_mono HO_243002.out (fun _ hk => ⟨hk.1.2, ⟨hk.2, ⟨hk.1.1.1, hk.1.1.2⟩⟩⟩)), (pl_ BK207), (pl_ BK208), (pl_ BK225), (pl_ BK231), (pl_ BK242), (pl_ BK271), GW271.out, GE271.out, NB207_271.out, NB271_207.out, NB208_271.out, NB271_208.out, NB225_271.out, NB271_225.out, NB231_271.out, NB271_231.out, NB242_271.out, NB271_242.out, (bl_ HB)⟩)
           rintro ⟨v259, v268, gb271⟩ w144 ⟨hS_, h0_, h1_, h2_, h3_, h4_, h5_, h6_, h7_, h8_, h9_, h10_, h11_, h12_, h13_, h14_, h15_, h16_, h17_, h18_, h19_, h20_, h21_, h22_, h23_⟩
           have n0_ : Aside0 (Kd.R k40 40 w144 w.heap.size (fun k_ => some k_ ≠ (v268 : Value).ownBlock ∧ some k_ ≠ (.slice Ao31 t221.length co31 : Value).ownBlock ∧ some k_ ≠ (.slice Ao41 t251.length co41 : Value).ownBlock ∧ some k_ ≠ (.slice Ao50 t238.length co50 : Value).ownBlock) v259 t258) := ⟨h0_⟩
           have n1_ : Aside0 (Kd.R k40 40 w144 w.heap.size (fun k_ => some k_ ≠ (v259 : Value).ownBlock ∧ some k_ ≠ (.slice Ao31 t221.length co31 : Value).ownBlock ∧ some k_ ≠ (.slice Ao41 t251.length co41 : Value).ownBlock ∧ some k_ ≠ (.slice Ao50 t238.length co50 : Value).ownBlock) v268 t267) := ⟨h1_⟩
           have n2_ : Aside0 (Kd.R k40 40 w144 w.heap.size (fun k_ => some k_ ≠ (v259 : Value).ownBlock ∧ some k_ ≠ (v268 : Value).ownBlock ∧ some k_ ≠ (.slice Ao41 t251.length co41 : Value).ownBlock ∧ some k_ ≠ (.slice Ao50 t238.length co50 : Value).ownBlock) (.slice Ao31 t221.length co31) t221) := ⟨h2_⟩
           have n3_ : Aside0 (Kd.R k40 40 w144 w.heap.size (fun k_ => some k_ ≠ (v259 : Value).ownBlock ∧ some k_ ≠ (v268 : Value).ownBlock ∧ some k_ ≠ (.slice Ao31 t221.length co31 : Value).ownBlock ∧ some k_ ≠ (.slice Ao50 t238.length co50 : Value).ownBlock) (.slice Ao41 t251.length co41) t251) := ⟨h3_⟩
           have n4_ : Aside0 (Kd.R k40 40 w144 w.heap.size (fun k_ => some k_ ≠ (v259 : Value).ownBlock ∧ some k_ ≠ (v268 : Value).ownBlock ∧ some k_ ≠ (.slice Ao31 t221.length co31 : Value).ownBlock ∧ some k_ ≠ (.slice Ao41 t251.length co41 : Value).ownBlock) (.slice Ao50 t238.length co50) t254) := ⟨h4_⟩
           have n5_ : Aside0 (w144.heap[gb207]? = some (.cells #[.int .i8 a0_0, .int .i8 a0_1, .slice A0_2 l0_2.length c0_2] 25 (0, 0))) := ⟨h5_⟩
           have n6_ : Aside0 (w144.heap[gb208]? = some (.cells #[.int .i8 a1_0, .int .i8 a1_1, .int .i8 a1_2, .int .i8 a1_3] 37 (0, 0))) := ⟨h6_⟩
           have n7_ : Aside0 (w144.heap[gb225]? = some (.cells #[.int .i8 t219, .int .i8 t220, .slice Ao31 t221.length co31] 30 (0, 0))) := ⟨h7_⟩
           have n8_ : Aside0 (w144.heap[gb231]? = some (.cells #[.int .i8 t226, .int .i8 t227, .slice Ao41 t251.length co41] 30 (0, 0))) := ⟨h8_⟩
           have n9_ : Aside0 (w144.heap[gb242]? = some (.cells #[.int .i8 t236, .int .i8 t237, .slice Ao50 t238.length co50] 30 (0, 0))) := ⟨h9_⟩
           have n10_ : Aside0 (w144.heap[gb271]? = some (.cells #[.int .i8 0, .int .i8 0, .slice none 0 0] 30 (0, 0))) := ⟨h10_⟩
           have n11_ : Aside0 (w.heap.size ≤ gb271) := ⟨h11_⟩
           have n12_ : Aside0 (w.heap.size ≤ gb271) := ⟨h12_⟩
           have n13_ : Aside0 (gb207 ≠ gb271) := ⟨h13_⟩
           have n14_ : Aside0 (gb271 ≠ gb207) := ⟨h14_⟩
           have n15_ : Aside0 (gb208 ≠ gb271) := ⟨h15_⟩
           have n16_ : Aside0 (gb271 ≠ gb208) := ⟨h16_⟩
           have n17_ : Aside0 (gb225 ≠ gb271) := ⟨h17_⟩
           have n18_ : Aside0 (gb271 ≠ gb225) := ⟨h18_⟩
           have n19_ : Aside0 (gb231 ≠ gb271) := ⟨h19_⟩
           have n20_ : Aside0 (gb271 ≠ gb231) := ⟨h20_⟩
           have n21_ : Aside0 (gb242 ≠ gb271) := ⟨h21_⟩
           have n22_ : Aside0 (gb271 ≠ gb242) := ⟨h22_⟩
           have n23_ : Aside0 (Below w.heap.size w w144) := ⟨h23_⟩
           clear HO_226002
           clear HO_232002
           clear HO_243002
           clear BK207
           clear BK208
           clear BK225
           clear BK231
           clear BK242
           clear HB
           clear h0_ h1_ h2_ h3_ h4_ h5_ h6_ h7_ h8_ h9_ h10_ h11_ h12_ h13_ h14_ h15_ h16_ h17_ h18_ h19_ h20_ h21_ h22_ h23_
           have HO260 := n0_
           have HO269 := n1_
           have HO_226002 := n2_
           have HO_232002 := n3_
           have HO_243002 := n4_
           have BK207 := n5_
           have BK208 := n6_
           have BK225 := n7_
           have BK231 := n8_
           have BK242 := n9_
           have BK271 := n10_
           have GW271 := n11_
           have GE271 := n12_
           have NB207_271 := n13_
           have NB271_207 := n14_
           have NB208_271 := n15_
           have NB271_208 := n16_
           have NB225_271 := n17_
           have NB271_225 := n18_
           have NB231_271 := n19_
           have NB271_231 := n20_
           have NB242_271 := n21_
           have NB271_242 := n22_
           have HB := n23_
           clear n0_ n1_ n2_ n3_ n4_ n5_ n6_ n7_ n8_ n9_ n10_ n11_ n12_ n13_ n14_ n15_ n16_ n17_ n18_ n19_ n20_ n21_ n22_ n23_
           have hHeld : w144.cell? ⟨gb207, 0, none⟩ = some (.int .i8 a0_0) ∧ w144.cell? ⟨gb207, 1, none⟩ = some (.int .i8 a0_1) ∧ w144.cell? ⟨gb207, 2, none⟩ = some (.slice A0_2 l0_2.length c0_2) ∧ w144.cell? ⟨gb208, 0, none⟩ = some (.int .i8 a1_0) ∧ w144.cell? ⟨gb208, 1, none⟩ = some (.int .i8 a1_1) ∧ w144.cell? ⟨gb208, 2, none⟩ = some (.int .i8 a1_2) ∧ w144.cell? ⟨gb208, 3, none⟩ = some (.int .i8 a1_3) := hS_
           obtain ⟨Ao147, co147, eo147⟩ := Kd.R_slice HO269.out
           (first | subst eo147 | (injection eo147 with f1_ f2_ f3_; have f4_ := f1_.symm; have f5_ := f3_.symm; clear f1_ f2_ f3_; subst f4_; subst f5_))
           refine norm_ (a' := ?_) ?_ ?_
           rotate_left
           ·simp only [putAll, Act.put, List.setIfInBounds_toArray, List.set_cons_zero, List.set_cons_succ]
            rfl
           refine one_ (i := 9) (N := none) #[true, true, true, true, true, true, true, true, true, true, false] rfl rfl (one_of HT_.out (by kernel_rfl)) (by decide) (fun K hK => ?_)
           have hs145 : w144.cell? ⟨gb271, 0, none⟩ = some (.int .i8 0) := (blk_cell BK271.out 0).trans rfl
           have hfs145 := blk_frozen BK271.out 0
           have hns145_0 := NB207_271.out
           have hns145_1 := NB208_271.out
           have hns145_2 := NB225_271.out
           have hns145_3 := NB231_271.out
           have hns145_4 := NB242_271.out
           have hms145_0 := NB271_207.out
           have hms145_1 := NB271_208.out
           have hms145_2 := NB271_225.out
           have hms145_3 := NB271_231.out
           have hms145_4 := NB271_242.out
           have hs146 : w144.cell? ⟨gb271, 1, none⟩ = some (.int .i8 0) := (blk_cell BK271.out 1).trans rfl
           have hfs146 := blk_frozen BK271.out 1
           have hns146_0 := NB207_271.out
           have hns146_1 := NB208_271.out
           have hns146_2 := NB225_271.out
           have hns146_3 := NB231_271.out
           have hns146_4 := NB242_271.out
           have hms146_0 := NB271_207.out
           have hms146_1 := NB271_208.out
           have hms146_2 := NB271_225.out
           have hms146_3 := NB271_231.out
           have hms146_4 := NB271_242.out
           have hs148 : w144.cell? ⟨gb271, 2, none⟩ = some (.slice none 0 0) := (blk_cell BK271.out 2).trans rfl
           have hfs148 := blk_frozen BK271.out 2
           have hns148_0 := NB207_271.out
           have hns148_1 := NB208_271.out
           have hns148_2 := NB225_271.out
           have hns148_3 := NB231_271.out
           have hns148_4 := NB242_271.out
           have hms148_0 := NB271_207.out
           have hms148_1 := NB271_208.out
           have hms148_2 := NB271_225.out
           have hms148_3 := NB271_231.out
           have hms148_4 := NB271_242.out
           refine skip_ (w1 := ?_) (by rfl) rfl ?_ ?_
           rotate_left
           ·go_simp
            rfl
           refine hK.out _ _ ⟨(cf3_ NB207_271 (hHeld.1)), (cf3_ NB207_271 (hHeld.2.1)), (cf3_ NB207_271 (hHeld.2.2.1)), (cf3_ NB208_271 (hHeld.2.2.2.1)), (cf3_ NB208_271 (hHeld.2.2.2.2.1)), (cf3_ NB208_271 (hHeld.2.2.2.2.2.1)), (cf3_ NB208_271 (hHeld.2.2.2.2.2.2))⟩ (fun hHeld => ?_)
           clear hK K
           refine pure_ (i := 10) (N := some 15) (v := ?_) (a' := ?_) #[true, true, true, true, true, true, true, true, true, true, true] rfl rfl (any_of HT_.out (by kernel_rfl)) (fun _ _ _ h => h) (Or.inl ⟨by rfl, ?_⟩) ?_ ?_
           rotate_left
           ·intro w'
            go_simp
            with_reducible rfl
           rotate_left
           ·simp only [Act.put, List.setIfInBounds_toArray, List.set_cons_zero, List.set_cons_succ, i64_w, i32_w]
            rfl
           refine done_ (done_of HT_.out (by kernel_rfl)) ?_
           go_upto_region 25 with (fail)
           go_cut [95] (fun v95 wc => ∃ (kq : Nat) (x95_128 : Bool), v95 = .bool x95_128 ∧ Aside0 (laws_FnExactAddWord.j2 kq t253 x95_128 t236 t237 t254 = some r) ∧ Aside0 (kq ≤ kj78) ∧ Aside0 (Kd.R k40 40 wc w.heap.size (fun k_ => some k_ ≠ ((.slice Ao41 t251.length co41) : Value).ownBlock ∧ some k_ ≠ ((.slice Ao50 t238.length co50) : Value).ownBlock ∧ some k_ ≠ ((.slice Ao147 t267.length co147) : Value).ownBlock) (.slice Ao31 t221.length co31) t221) ∧ Aside0 (Kd.R k40 40 wc w.heap.size (fun k_ => some k_ ≠ ((.slice Ao31 t221.length co31) : Value).ownBlock ∧ some k_ ≠ ((.slice Ao50 t238.length co50) : Value).ownBlock ∧ some k_ ≠ ((.slice Ao147 t267.length co147) : Value).ownBlock) (.slice Ao41 t251.length co41) t251) ∧ Aside0 (Kd.R k40 40 wc w.heap.size (fun k_ => some k_ ≠ ((.slice Ao31 t221.length co31) : Value).ownBlock ∧ some k_ ≠ ((.slice Ao41 t251.length co41) : Value).ownBlock ∧ some k_ ≠ ((.slice Ao147 t267.length co147) : Value).ownBlock) (.slice Ao50 t238.length co50) t254) ∧ Aside0 (Kd.R k40 40 wc w.heap.size (fun k_ => some k_ ≠ ((.slice Ao31 t221.length co31) : Value).ownBlock ∧ some k_ ≠ ((.slice Ao41 t251.length co41) : Value).ownBlock ∧ some k_ ≠ ((.slice Ao50 t238.length co50) : Value).ownBlock) (.slice Ao147 t267.length co147) t267) ∧ Aside0 (wc.heap[gb207]? = some (.cells #[.int .i8 a0_0, .int .i8 a0_1, (.slice A0_2 l0_2.length c0_2)] 25 (0, 0))) ∧ Aside0 (wc.heap[gb208]? = some (.cells #[.int .i8 a1_0, .int .i8 a1_1, .int .i8 a1_2, .int .i8 a1_3] 37 (0, 0))) ∧ Aside0 (wc.heap[gb225]? = some (.cells #[.int .i8 t219, .int .i8 t220, (.slice Ao31 t221.length co31)] 30 (0, 0))) ∧ Aside0 (wc.heap[gb231]? = some (.cells #[.int .i8 t226, .int .i8 t227, (.slice Ao41 t251.length co41)] 30 (0, 0))) ∧ Aside0 (wc.heap[gb242]? = some (.cells #[.int .i8 t236, .int .i8 t237, (.slice Ao50 t238.length co50)] 30 (0, 0))) ∧ Aside0 (wc.heap[gb271]? = some (.cells #[.int .i8 t265, .int .i8 t266, (.slice Ao147 t267.length co147)] 30 (0, 0))) ∧ Aside0 (Below w.heap.size w wc))
           case first =>
            have H := HC129.out
            clear HC129
            replace H := Option.bind_eq_some_iff.mp H
            obtain ⟨t272, A1490, H⟩ := H
            replace H : (if t272 = true then (laws_FnExactAddWord.j2 kj78 t253 (t270 != t224) t236 t237 t254) else (laws_FnExactAddWord.j2 kj78 t253 true t236 t237 t254)) = some r := H
            have A149 := Aside0.mk A1490
            clear A1490
            by_cases c150 : t272 = true
            ·subst c150
             have H1 : (laws_FnExactAddWord.j2 kj78 t253 (t270 != t224) t236 t237 t254) = some r := by rw [if_pos rfl] at H; exact H
             clear H
             have H := H1
             clear H1
             have H' := Aside0.mk H
             clear H
             have hnb151 := NB271_207.out
             have hnc151 := NB207_271.out
             have hnb152 := NB271_208.out
             have hnc152 := NB208_271.out
             have hnb153 := NB271_225.out
             have hnc153 := NB225_271.out
             have hnb154 := NB271_231.out
             have hnc154 := NB231_271.out
             have hnb155 := NB271_242.out
             have hnc155 := NB242_271.out
             have hcz156_0 : w144.cell? ⟨gb271, 0, none⟩ = some (.int .i8 0) := (blk_cell BK271.out 0).trans rfl
             have hcz156_1 : w144.cell? ⟨gb271, 1, none⟩ = some (.int .i8 0) := (blk_cell BK271.out 1).trans rfl
             have hcz156_2 : w144.cell? ⟨gb271, 2, none⟩ = some (.slice none 0 0) := (blk_cell BK271.out 2).trans rfl
             have hfz156_0 := blk_frozen BK271.out 0
             have hfz156_1 := blk_frozen BK271.out 1
             have hfz156_2 := blk_frozen BK271.out 2
             have hnb157 := NB225_207.out
             have hnc157 := NB207_225.out
             have hnb158 := NB225_208.out
             have hnc158 := NB208_225.out
             have hnb159 := NB225_231.out
             have hnc159 := NB231_225.out
             have hnb160 := NB225_242.out
             have hnc160 := NB242_225.out
             have hcz161_0 : w144.cell? ⟨gb225, 0, none⟩ = some (.int .i8 t219) := (blk_cell BK225.out 0).trans rfl
             have hcz161_1 : w144.cell? ⟨gb225, 1, none⟩ = some (.int .i8 t220) := (blk_cell BK225.out 1).trans rfl
             have hcz161_2 : w144.cell? ⟨gb225, 2, none⟩ = some (.slice Ao31 t221.length co31) := (blk_cell BK225.out 2).trans rfl
             have hfz161_0 := blk_frozen BK225.out 0
             have hfz161_1 := blk_frozen BK225.out 1
             have hfz161_2 := blk_frozen BK225.out 2
             go_wp2_with (first | ((with_reducible refine gate_callee (f := 13) rfl ?_); refine goesL_ (some 89) rfl rfl Try.func13 (by kernel_rfl) rfl #[.agg #[.int .i8 t265, .int .i8 t266, .slice Ao147 t267.length co147], .agg #[.int .i8 t219, .int .i8 t220, .slice Ao31 t221.length co31]] rfl arg_ ?_; (with_reducible refine (laws_eqFixed.calls kj78 t265 t266 _ _ t267 t219 t220 _ _ t221 true _ ?side1 ?side2 ?side3 ?side4 A149.out).mono ?_); (case side1 => refine (Kd.R_reads' (e := 40) (base := w.heap.size) (ok := fun k_ => (some k_ ≠ (v259 : Value).ownBlock ∧ (some k_ ≠ (.slice Ao31 t221.length co31 : Value).ownBlock ∧ (some k_ ≠ (.slice Ao41 t251.length co41 : Value).ownBlock ∧ some k_ ≠ (.slice Ao50 t238.length co50 : Value).ownBlock)))) (n := t267.length) (c := co147) ?_).2.2; exact (by (with_reducible repeat (first | apply Kd.R_alloc | apply Kd.R_drewN | apply Kd.R_drew)); exact (rf3_ HO269 BK271 (by decide)))); (case side2 => exact (Kd.R_reads' HO269.out).2.1); (case side3 => refine (Kd.R_reads' (e := 40) (base := w.heap.size) (ok := fun k_ => (some k_ ≠ (v259 : Value).ownBlock ∧ (some k_ ≠ (.slice Ao147 t267.length co147 : Value).ownBlock ∧ (some k_ ≠ (.slice Ao41 t251.length co41 : Value).ownBlock ∧ some k_ ≠ (.slice Ao50 t238.length co50 : Value).ownBlock)))) (n := t221.length) (c := co31) ?_).2.2; exact (by (with_reducible repeat (first | apply Kd.R_alloc | apply Kd.R_drewN | apply Kd.R_drew)); exact (rf3_ HO_226002 BK271 (by decide)))); (case side4 => exact (Kd.R_reads' HO_226002.out).2.1); rintro e w162 ⟨rfl, hb⟩; refine ⟨_, rfl, ?_⟩; have n0_ := A_ (Kd.R_below (by (with_reducible repeat (first | apply Kd.R_alloc | apply Kd.R_drewN | apply Kd.R_drew)); exact (rf3_ HO_226002 BK271 (by decide))) hb); have n1_ := A_ (Kd.R_below (by (with_reducible repeat (first | apply Kd.R_alloc | apply Kd.R_drewN | apply Kd.R_drew)); exact (rf3_ HO_232002 BK271 (by decide))) hb); have n2_ := A_ (Kd.R_below (by (with_reducible repeat (first | apply Kd.R_alloc | apply Kd.R_drewN | apply Kd.R_drew)); exact (rf3_ HO_243002 BK271 (by decide))) hb); have n3_ := A_ (Kd.R_below (by (with_reducible repeat (first | apply Kd.R_alloc | apply Kd.R_drewN | apply Kd.R_drew)); exact (rf3_ HO260 BK271 (by decide))) hb); have n4_ := A_ (Kd.R_below (by (with_reducible repeat (first | apply Kd.R_alloc | apply Kd.R_drewN | apply Kd.R_drew)); exact (rf3_ HO269 BK271 (by decide))) hb); have n5_ := A_ (blk_below (g := gb207) (o := .cells #[.int .i8 a0_0, .int .i8 a0_1, .slice A0_2 l0_2.length c0_2] 25 (0, 0)) (pf_ BK207 NB207_271) hb); have n6_ := A_ (blk_below (g := gb208) (o := .cells #[.int .i8 a1_0, .int .i8 a1_1, .int .i8 a1_2, .int .i8 a1_3] 37 (0, 0)) (pf_ BK208 NB208_271) hb); have n7_ := A_ (blk_below (g := gb225) (o := .cells #[.int .i8 t219, .int .i8 t220, .slice Ao31 t221.length co31] 30 (0, 0)) (pf_ BK225 NB225_271) hb); have n8_ := A_ (blk_below (g := gb231) (o := .cells #[.int .i8 t226, .int .i8 t227, .slice Ao41 t251.length co41] 30 (0, 0)) (pf_ BK231 NB231_271) hb); have n9_ := A_ (blk_below (g := gb242) (o := .cells #[.int .i8 t236, .int .i8 t237, .slice Ao50 t238.length co50] 30 (0, 0)) (pf_ BK242 NB242_271) hb); have n10_ := A_ (blk_below (g := gb271) (o := .cells #[.int .i8 t265, .int .i8 t266, .slice Ao147 t267.length co147] 30 (0, 0)) (by (with_reducible repeat (first | refine blk_drewN ?_ _ | refine blk_drew ?_ | refine blk_alloc ?_ _)); refine blk_put (cs := #[.int .i8 t265, .int .i8 t266, .slice none 0 0]) ?_ 2 _ rfl; (with_reducible repeat (first | refine blk_drewN ?_ _ | refine blk_drew ?_ | refine blk_alloc ?_ _)); refine blk_put (cs := #[.int .i8 t265, .int .i8 0, .slice none 0 0]) ?_ 1 _ rfl; (with_reducible repeat (first | refine blk_drewN ?_ _ | refine blk_drew ?_ | refine blk_alloc ?_ _)); refine blk_put (cs := #[.int .i8 0, .int .i8 0, .slice none 0 0]) ?_ 0 _ rfl; (with_reducible repeat (first | refine blk_drewN ?_ _ | refine blk_drew ?_ | refine blk_alloc ?_ _)); exact BK271.out) hb); have n11_ := A_ (below_step (bs_ HB GE271) hb); clear HO_226002; clear HO_232002; clear HO_243002; clear HO260; clear HO269; clear BK207; clear BK208; clear BK225; clear BK231; clear BK242; clear BK271; clear HB; have HO_226002 := n0_; have HO_232002 := n1_; have HO_243002 := n2_; have HO260 := n3_; have HO269 := n4_; have BK207 := n5_; have BK208 := n6_; have BK225 := n7_; have BK231 := n8_; have BK242 := n9_; have BK271 := n10_; have HB := n11_; clear n0_ n1_ n2_ n3_ n4_ n5_ n6_ n7_ n8_ n9_ n10_ n11_; (try clear hb); (try clear hb2); (try clear hk); (try clear hi)))
             go_meet
             case rel => exact ⟨_, ((t270 != t224)), rs_, H', ⟨by have := HJ15.out; have := HJ78.out; first | omega | exact Nat.le_refl _⟩, ⟨by (try simp only [hl232002_78]); (with_reducible repeat (first | apply Kd.R_alloc | apply Kd.R_drewN | apply Kd.R_drew)); exact Kd.R_mono HO_226002.out (fun _ hk => ⟨hk.2.2.1, ⟨hk.2.2.2, hk.2.1⟩⟩)⟩, ⟨by (try simp only [hl232002_78]); (with_reducible repeat (first | apply Kd.R_alloc | apply Kd.R_drewN | apply Kd.R_drew)); exact Kd.R_mono HO_232002.out (fun _ hk => ⟨hk.2.2.1, ⟨hk.2.2.2, hk.2.1⟩⟩)⟩, ⟨by (try simp only [hl232002_78]); (with_reducible repeat (first | apply Kd.R_alloc | apply Kd.R_drewN | apply Kd.R_drew)); exact Kd.R_mono HO_243002.out (fun _ hk => ⟨hk.2.2.1, ⟨hk.2.2.2, hk.2.1⟩⟩)⟩, ⟨by (try simp only [hl232002_78]); (with_reducible repeat (first | apply Kd.R_alloc | apply Kd.R_drewN | apply Kd.R_drew)); exact Kd.R_mono HO269.out (fun _ hk => ⟨hk.2.1, ⟨hk.2.2.1, hk.2.2.2⟩⟩)⟩, ⟨by (try simp only [hl232002_78]); (with_reducible repeat (first | refine blk_drewN ?_ _ | refine blk_drew ?_ | refine blk_alloc ?_ _)); exact BK207.out⟩, ⟨by (try simp only [hl232002_78]); (with_reducible repeat (first | refine blk_drewN ?_ _ | refine blk_drew ?_ | refine blk_alloc ?_ _)); exact BK208.out⟩, ⟨by (try simp only [hl232002_78]); (with_reducible repeat (first | refine blk_drewN ?_ _ | refine blk_drew ?_ | refine blk_alloc ?_ _)); exact BK225.out⟩, ⟨by (try simp only [hl232002_78]); (with_reducible repeat (first | refine blk_drewN ?_ _ | refine blk_drew ?_ | refine blk_alloc ?_ _)); exact BK231.out⟩, ⟨by (try simp only [hl232002_78]); (with_reducible repeat (first | refine blk_drewN ?_ _ | refine blk_drew ?_ | refine blk_alloc ?_ _)); exact BK242.out⟩, ⟨by (try simp only [hl232002_78]); (with_reducible repeat (first | refine blk_drewN ?_ _ | refine blk_drew ?_ | refine blk_alloc ?_ _)); exact BK271.out⟩, ⟨bl_ HB⟩⟩
            ·replace c150 := Bool.eq_false_iff.mpr c150
             subst c150
             have H1 : (laws_FnExactAddWord.j2 kj78 t253 true t236 t237 t254) = some r := by rw [if_neg (show ¬ (false = true) by decide)] at H; exact H
             clear H
             have H := H1
             clear H1
             have H' := Aside0.mk H
             clear H
             have hnb163 := NB271_207.out
             have hnc163 := NB207_271.out
             have hnb164 := NB271_208.out
             have hnc164 := NB208_271.out
             have hnb165 := NB271_225.out
             have hnc165 := NB225_271.out
             have hnb166 := NB271_231.out
             have hnc166 := NB231_271.out
             have hnb167 := NB271_242.out
             have hnc167 := NB242_271.out
             have hcz168_0 : w144.cell? ⟨gb271, 0, none⟩ = some (.int .i8 0) := (blk_cell BK271.out 0).trans rfl
             have hcz168_1 : w144.cell? ⟨gb271, 1, none⟩ = some (.int .i8 0) := (blk_cell BK271.out 1).trans rfl
             have hcz168_2 : w144.cell? ⟨gb271, 2, none⟩ = some (.slice none 0 0) := (blk_cell BK271.out 2).trans rfl
             have hfz168_0 := blk_frozen BK271.out 0
             have hfz168_1 := blk_frozen BK271.out 1
             have hfz168_2 := blk_frozen BK271.out 2
             have hnb169 := NB225_207.out
             have hnc169 := NB207_225.out
             have hnb170 := NB225_208.out
             have hnc170 := NB208_225.out
             have hnb171 := NB225_231.out
             have hnc171 := NB231_225.out
             have hnb172 := NB225_242.out
             have hnc172 := NB242_225.out
             have hcz173_0 : w144.cell? ⟨gb225, 0, none⟩ = some (.int .i8 t219) := (blk_cell BK225.out 0).trans rfl
             have hcz173_1 : w144.cell? ⟨gb225, 1, none⟩ = some (.int .i8 t220) := (blk_cell BK225.out 1).trans rfl
             have hcz173_2 : w144.cell? ⟨gb225, 2, none⟩ = some (.slice Ao31 t221.length co31) := (blk_cell BK225.out 2).trans rfl
             have hfz173_0 := blk_frozen BK225.out 0
             have hfz173_1 := blk_frozen BK225.out 1
             have hfz173_2 := blk_frozen BK225.out 2
             go_wp2_with (first | ((with_reducible refine gate_callee (f := 13) rfl ?_); refine goesL_ (some 89) rfl rfl Try.func13 (by kernel_rfl) rfl #[.agg #[.int .i8 t265, .int .i8 t266, .slice Ao147 t267.length co147], .agg #[.int .i8 t219, .int .i8 t220, .slice Ao31 t221.length co31]] rfl arg_ ?_; (with_reducible refine (laws_eqFixed.calls kj78 t265 t266 _ _ t267 t219 t220 _ _ t221 false _ ?side1 ?side2 ?side3 ?side4 A149.out).mono ?_); (case side1 => refine (Kd.R_reads' (e := 40) (base := w.heap.size) (ok := fun k_ => (some k_ ≠ (v259 : Value).ownBlock ∧ (some k_ ≠ (.slice Ao31 t221.length co31 : Value).ownBlock ∧ (some k_ ≠ (.slice Ao41 t251.length co41 : Value).ownBlock ∧ some k_ ≠ (.slice Ao50 t238.length co50 : Value).ownBlock)))) (n := t267.length) (c := co147) ?_).2.2; exact (by (with_reducible repeat (first | apply Kd.R_alloc | apply Kd.R_drewN | apply Kd.R_drew)); exact (rf3_ HO269 BK271 (by decide)))); (case side2 => exact (Kd.R_reads' HO269.out).2.1); (case side3 => refine (Kd.R_reads' (e := 40) (base := w.heap.size) (ok := fun k_ => (some k_ ≠ (v259 : Value).ownBlock ∧ (some k_ ≠ (.slice Ao147 t267.length co147 : Value).ownBlock ∧ (some k_ ≠ (.slice Ao41 t251.length co41 : Value).ownBlock ∧ some k_ ≠ (.slice Ao50 t238.length co50 : Value).ownBlock)))) (n := t221.length) (c := co31) ?_).2.2; exact (by (with_reducible repeat (first | apply Kd.R_alloc | apply Kd.R_drewN | apply Kd.R_drew)); exact (rf3_ HO_226002 BK271 (by decide)))); (case side4 => exact (Kd.R_reads' HO_226002.out).2.1); rintro e w174 ⟨rfl, hb⟩; refine ⟨_, rfl, ?_⟩; have n0_ := A_ (Kd.R_below (by (with_reducible repeat (first | apply Kd.R_alloc | apply Kd.R_drewN | apply Kd.R_drew)); exact (rf3_ HO_226002 BK271 (by decide))) hb); have n1_ := A_ (Kd.R_below (by (with_reducible repeat (first | apply Kd.R_alloc | apply Kd.R_drewN | apply Kd.R_drew)); exact (rf3_ HO_232002 BK271 (by decide))) hb); have n2_ := A_ (Kd.R_below (by (with_reducible repeat (first | apply Kd.R_alloc | apply Kd.R_drewN | apply Kd.R_drew)); exact (rf3_ HO_243002 BK271 (by decide))) hb); have n3_ := A_ (Kd.R_below (by (with_reducible repeat (first | apply Kd.R_alloc | apply Kd.R_drewN | apply Kd.R_drew)); exact (rf3_ HO260 BK271 (by decide))) hb); have n4_ := A_ (Kd.R_below (by (with_reducible repeat (first | apply Kd.R_alloc | apply Kd.R_drewN | apply Kd.R_drew)); exact (rf3_ HO269 BK271 (by decide))) hb); have n5_ := A_ (blk_below (g := gb207) (o := .cells #[.int .i8 a0_0, .int .i8 a0_1, .slice A0_2 l0_2.length c0_2] 25 (0, 0)) (pf_ BK207 NB207_271) hb); have n6_ := A_ (blk_below (g := gb208) (o := .cells #[.int .i8 a1_0, .int .i8 a1_1, .int .i8 a1_2, .int .i8 a1_3] 37 (0, 0)) (pf_ BK208 NB208_271) hb); have n7_ := A_ (blk_below (g := gb225) (o := .cells #[.int .i8 t219, .int .i8 t220, .slice Ao31 t221.length co31] 30 (0, 0)) (pf_ BK225 NB225_271) hb); have n8_ := A_ (blk_below (g := gb231) (o := .cells #[.int .i8 t226, .int .i8 t227, .slice Ao41 t251.length co41] 30 (0, 0)) (pf_ BK231 NB231_271) hb); have n9_ := A_ (blk_below (g := gb242) (o := .cells #[.int .i8 t236, .int .i8 t237, .slice Ao50 t238.length co50] 30 (0, 0)) (pf_ BK242 NB242_271) hb); have n10_ := A_ (blk_below (g := gb271) (o := .cells #[.int .i8 t265, .int .i8 t266, .slice Ao147 t267.length co147] 30 (0, 0)) (by (with_reducible repeat (first | refine blk_drewN ?_ _ | refine blk_drew ?_ | refine blk_alloc ?_ _)); refine blk_put (cs := #[.int .i8 t265, .int .i8 t266, .slice none 0 0]) ?_ 2 _ rfl; (with_reducible repeat (first | refine blk_drewN ?_ _ | refine blk_drew ?_ | refine blk_alloc ?_ _)); refine blk_put (cs := #[.int .i8 t265, .int .i8 0, .slice none 0 0]) ?_ 1 _ rfl; (with_reducible repeat (first | refine blk_drewN ?_ _ | refine blk_drew ?_ | refine blk_alloc ?_ _)); refine blk_put (cs := #[.int .i8 0, .int .i8 0, .slice none 0 0]) ?_ 0 _ rfl; (with_reducible repeat (first | refine blk_drewN ?_ _ | refine blk_drew ?_ | refine blk_alloc ?_ _)); exact BK271.out) hb); have n11_ := A_ (below_step (bs_ HB GE271) hb); clear HO_226002; clear HO_232002; clear HO_243002; clear HO260; clear HO269; clear BK207; clear BK208; clear BK225; clear BK231; clear BK242; clear BK271; clear HB; have HO_226002 := n0_; have HO_232002 := n1_; have HO_243002 := n2_; have HO260 := n3_; have HO269 := n4_; have BK207 := n5_; have BK208 := n6_; have BK225 := n7_; have BK231 := n8_; have BK242 := n9_; have BK271 := n10_; have HB := n11_; clear n0_ n1_ n2_ n3_ n4_ n5_ n6_ n7_ n8_ n9_ n10_ n11_; (try clear hb); (try clear hb2); (try clear hk); (try clear hi)))
             go_meet
             case rel => exact ⟨_, (true), rs_, H', ⟨by have := HJ15.out; have := HJ78.out; first | omega | exact Nat.le_refl _⟩, ⟨by (try simp only [hl232002_78]); (with_reducible repeat (first | apply Kd.R_alloc | apply Kd.R_drewN | apply Kd.R_drew)); exact Kd.R_mono HO_226002.out (fun _ hk => ⟨hk.2.2.1, ⟨hk.2.2.2, hk.2.1⟩⟩)⟩, ⟨by (try simp only [hl232002_78]); (with_reducible repeat (first | apply Kd.R_alloc | apply Kd.R_drewN | apply Kd.R_drew)); exact Kd.R_mono HO_232002.out (fun _ hk => ⟨hk.2.2.1, ⟨hk.2.2.2, hk.2.1⟩⟩)⟩, ⟨by (try simp only [hl232002_78]); (with_reducible repeat (first | apply Kd.R_alloc | apply Kd.R_drewN | apply Kd.R_drew)); exact Kd.R_mono HO_243002.out (fun _ hk => ⟨hk.2.2.1, ⟨hk.2.2.2, hk.2.1⟩⟩)⟩, ⟨by (try simp only [hl232002_78]); (with_reducible repeat (first | apply Kd.R_alloc | apply Kd.R_drewN | apply Kd.R_drew)); exact Kd.R_mono HO269.out (fun _ hk => ⟨hk.2.1, ⟨hk.2.2.1, hk.2.2.2⟩⟩)⟩, ⟨by (try simp only [hl232002_78]); (with_reducible repeat (first | refine blk_drewN ?_ _ | refine blk_drew ?_ | refine blk_alloc ?_ _)); exact BK207.out⟩, ⟨by (try simp only [hl232002_78]); (with_reducible repeat (first | refine blk_drewN ?_ _ | refine blk_drew ?_ | refine blk_alloc ?_ _)); exact BK208.out⟩, ⟨by (try simp only [hl232002_78]); (with_reducible repeat (first | refine blk_drewN ?_ _ | refine blk_drew ?_ | refine blk_alloc ?_ _)); exact BK225.out⟩, ⟨by (try simp only [hl232002_78]); (with_reducible repeat (first | refine blk_drewN ?_ _ | refine blk_drew ?_ | refine blk_alloc ?_ _)); exact BK231.out⟩, ⟨by (try simp only [hl232002_78]); (with_reducible repeat (first | refine blk_drewN ?_ _ | refine blk_drew ?_ | refine blk_alloc ?_ _)); exact BK242.out⟩, ⟨by (try simp only [hl232002_78]); (with_reducible repeat (first | refine blk_drewN ?_ _ | refine blk_drew ?_ | refine blk_alloc ?_ _)); exact BK271.out⟩, ⟨bl_ HB⟩⟩
           case rest =>
            clear HC129
            try clear c1
            try clear c2
            try clear p2
            try clear c11
            try clear c13
            try clear c15
            try clear c16
            try clear c17
            try clear c19
            try clear c20
            try clear c150
            try clear c151
            try clear c152
            try clear c153
            try clear c154
            try clear c155
            try clear c157
            try clear c158
            try clear c159
            try clear c160
            try clear c163
            try clear c164
            try clear c165
            try clear c166
            try clear c167
            try clear c169
            try clear c170
            try clear c171
            try clear c172
            try clear hcz156_0
            try clear hcz156_1
            try clear hcz156_2
            try clear hcz161_0
            try clear hcz161_1
            try clear hcz161_2
            try clear hcz168_0
            try clear hcz168_1
            try clear hcz168_2
            try clear hcz173_0
            try clear hcz173_1
            try clear hcz173_2
            try clear hfz156_0
            try clear hfz156_1
            try clear hfz156_2
            try clear hfz161_0
            try clear hfz161_1
            try clear hfz161_2
            try clear hfz168_0
            try clear hfz168_1
            try clear hfz168_2
            try clear hfz173_0
            try clear hfz173_1
            try clear hfz173_2
            obtain ⟨kq, x95_128, rfl, HA, HJ128, HO_226002, HO_232002, HO_243002, HO_272002, BK207, BK208, BK225, BK231, BK242, BK271, HB⟩ := hcut
            have hl243002_128 := (Kd.R_reads' HO_243002.out).1
            rw [hl243002_128] at HO_243002
            (try simp only [hl243002_128])
            (try simp only [hl243002_128] at BK207)
            (try simp only [hl243002_128] at BK208)
            (try simp only [hl243002_128] at BK225)
            (try simp only [hl243002_128] at BK231)
            (try simp only [hl243002_128] at BK242)
            (try simp only [hl243002_128] at BK271)
            (try simp only [hl243002_128] at HO_226002)
            (try simp only [hl243002_128] at HO_232002)
            (try simp only [hl243002_128] at HO_272002)
            cases kq with
            | zero => exact absurd HA.out (by simp [laws_FnExactAddWord.j2])
            | succ kj128 =>
             have H := HA.out
             clear HA
             simp only [laws_FnExactAddWord.j2] at H
             by_cases c175 : x95_128 = true
             ·subst c175
              have H1 : (some false) = some r := by rw [if_pos rfl] at H; exact H
              clear H
              have H := H1
              clear H1
              obtain rfl := Option.some.inj H
              go_wp2
              go_ret
              exact ⟨by first | rfl | (simp [errW_none, errW_some] <;> rfl) | (simp [*, errW_none, errW_some] <;> rfl), bl_ HB⟩
             ·replace c175 := Bool.eq_false_iff.mpr c175
              subst c175
              have H1 : ((laws_heldFixed.f kj128 t236 t237 t254 1).bind fun t273 => (if t273 < 0 then (some false) else (if t273 = t253 then (some true) else (some false)))) = some r := by rw [if_neg (show ¬ (false = true) by decide)] at H; exact H
              clear H
              have H := H1
              clear H1
              replace H := Option.bind_eq_some_iff.mp H
              obtain ⟨t273, A1760, H⟩ := H
              replace H : (if t273 < 0 then (some false) else (if t273 = t253 then (some true) else (some false))) = some r := H
              have A176 := Aside0.mk A1760
              clear A1760
              by_cases c177 : t273 < 0
              ·rw [if_pos c177] at H
               have c177b0 : decide (t273 < 0) = true := decide_eq_true c177
               clear c177
               obtain rfl := Option.some.inj H
               have hnb178 := NB242_207.out
               have hnc178 := NB207_242.out
               have hnb179 := NB242_208.out
               have hnc179 := NB208_242.out
               have hnb180 := NB242_225.out
               have hnc180 := NB225_242.out
               have hnb181 := NB242_231.out
               have hnc181 := NB231_242.out
               have hnb182 := NB242_271.out
               have hnc182 := NB271_242.out
               have hcz183_0 : wc.cell? ⟨gb242, 0, none⟩ = some (.int .i8 t236) := (blk_cell BK242.out 0).trans rfl
               have hcz183_1 : wc.cell? ⟨gb242, 1, none⟩ = some (.int .i8 t237) := (blk_cell BK242.out 1).trans rfl
               have hcz183_2 : wc.cell? ⟨gb242, 2, none⟩ = some (.slice Ao50 t254.length co50) := (blk_cell BK242.out 2).trans rfl
               have hfz183_0 := blk_frozen BK242.out 0
               have hfz183_1 := blk_frozen BK242.out 1
               have hfz183_2 := blk_frozen BK242.out 2
               go_wp2_with (first | ((with_reducible refine gate_callee (f := 22) rfl ?_); refine goesL_ (some 98) rfl rfl Try.func22 (by kernel_rfl) rfl #[.agg #[.int .i8 t236, .int .i8 t237, .slice Ao50 t254.length co50], .int .i64 1] rfl arg_ ?_; (with_reducible refine (laws_heldFixed.calls kj128 t236 t237 _ _ t254 1 t273 _ ?side1 ?side2 A176.out).mono ?_); (case side1 => repeat (first | exact (Kd.R_reads' HO_243002.out).2.2 | (with_reducible refine Kd.C_alloc ?_ _) | (with_reducible refine Kd.C_drewN ?_ _) | (with_reducible refine Kd.C_drew ?_))); (case side2 => exact (Kd.R_reads' HO_243002.out).2.1); rintro e w184 ⟨rfl, hb⟩; refine ⟨_, rfl, ?_⟩; have n0_ := A_ (Kd.R_below (pr_ HO_226002) hb); have n1_ := A_ (Kd.R_below (pr_ HO_232002) hb); have n2_ := A_ (Kd.R_below (pr_ HO_243002) hb); have n3_ := A_ (Kd.R_below (pr_ HO_272002) hb); have n4_ := A_ (blk_below (pl_ BK207) hb); have n5_ := A_ (blk_below (pl_ BK208) hb); have n6_ := A_ (blk_below (pl_ BK225) hb); have n7_ := A_ (blk_below (pl_ BK231) hb); have n8_ := A_ (blk_below (pl_ BK242) hb); have n9_ := A_ (blk_below (pl_ BK271) hb); have n10_ := A_ (below_step (bl_ HB) hb); clear HO_226002; clear HO_232002; clear HO_243002; clear HO_272002; clear BK207; clear BK208; clear BK225; clear BK231; clear BK242; clear BK271; clear HB; have HO_226002 := n0_; have HO_232002 := n1_; have HO_243002 := n2_; have HO_272002 := n3_; have BK207 := n4_; have BK208 := n5_; have BK225 := n6_; have BK231 := n7_; have BK242 := n8_; have BK271 := n9_; have HB := n10_; clear n0_ n1_ n2_ n3_ n4_ n5_ n6_ n7_ n8_ n9_ n10_; (try clear hb); (try clear hb2); (try clear hk); (try clear hi)))
               go_ret
               exact ⟨by first | rfl | (simp [errW_none, errW_some] <;> rfl) | (simp [*, errW_none, errW_some] <;> rfl), bl_ HB⟩
              ·rw [if_neg c177] at H
               have c177b0 : decide (t273 < 0) = false := decide_eq_false c177
               clear c177
               by_cases c185 : t273 = t253
               ·rw [if_pos c185] at H
                have c185b0 : (t273 == t253) = true := beq_iff_eq.mpr c185
                have c185b1 : (t273 != t253) = false := bne_eq_false_iff_eq.mpr c185
                clear c185
                obtain rfl := Option.some.inj H
                have hnb186 := NB242_207.out
                have hnc186 := NB207_242.out
                have hnb187 := NB242_208.out
                have hnc187 := NB208_242.out
                have hnb188 := NB242_225.out
                have hnc188 := NB225_242.out
                have hnb189 := NB242_231.out
                have hnc189 := NB231_242.out
                have hnb190 := NB242_271.out
                have hnc190 := NB271_242.out
                have hcz191_0 : wc.cell? ⟨gb242, 0, none⟩ = some (.int .i8 t236) := (blk_cell BK242.out 0).trans rfl
                have hcz191_1 : wc.cell? ⟨gb242, 1, none⟩ = some (.int .i8 t237) := (blk_cell BK242.out 1).trans rfl
                have hcz191_2 : wc.cell? ⟨gb242, 2, none⟩ = some (.slice Ao50 t254.length co50) := (blk_cell BK242.out 2).trans rfl
                have hfz191_0 := blk_frozen BK242.out 0
                have hfz191_1 := blk_frozen BK242.out 1
                have hfz191_2 := blk_frozen BK242.out 2
                go_wp2_with (first | ((with_reducible refine gate_callee (f := 22) rfl ?_); refine goesL_ (some 98) rfl rfl Try.func22 (by kernel_rfl) rfl #[.agg #[.int .i8 t236, .int .i8 t237, .slice Ao50 t254.length co50], .int .i64 1] rfl arg_ ?_; (with_reducible refine (laws_heldFixed.calls kj128 t236 t237 _ _ t254 1 t273 _ ?side1 ?side2 A176.out).mono ?_); (case side1 => repeat (first | exact (Kd.R_reads' HO_243002.out).2.2 | (with_reducible refine Kd.C_alloc ?_ _) | (with_reducible refine Kd.C_drewN ?_ _) | (with_reducible refine Kd.C_drew ?_))); (case side2 => exact (Kd.R_reads' HO_243002.out).2.1); rintro e w192 ⟨rfl, hb⟩; refine ⟨_, rfl, ?_⟩; have n0_ := A_ (Kd.R_below (pr_ HO_226002) hb); have n1_ := A_ (Kd.R_below (pr_ HO_232002) hb); have n2_ := A_ (Kd.R_below (pr_ HO_243002) hb); have n3_ := A_ (Kd.R_below (pr_ HO_272002) hb); have n4_ := A_ (blk_below (pl_ BK207) hb); have n5_ := A_ (blk_below (pl_ BK208) hb); have n6_ := A_ (blk_below (pl_ BK225) hb); have n7_ := A_ (blk_below (pl_ BK231) hb); have n8_ := A_ (blk_below (pl_ BK242) hb); have n9_ := A_ (blk_below (pl_ BK271) hb); have n10_ := A_ (below_step (bl_ HB) hb); clear HO_226002; clear HO_232002; clear HO_243002; clear HO_272002; clear BK207; clear BK208; clear BK225; clear BK231; clear BK242; clear BK271; clear HB; have HO_226002 := n0_; have HO_232002 := n1_; have HO_243002 := n2_; have HO_272002 := n3_; have BK207 := n4_; have BK208 := n5_; have BK225 := n6_; have BK231 := n7_; have BK242 := n8_; have BK271 := n9_; have HB := n10_; clear n0_ n1_ n2_ n3_ n4_ n5_ n6_ n7_ n8_ n9_ n10_; (try clear hb); (try clear hb2); (try clear hk); (try clear hi)))
                go_ret
                exact ⟨by first | rfl | (simp [errW_none, errW_some] <;> rfl) | (simp [*, errW_none, errW_some] <;> rfl), bl_ HB⟩
               ·rw [if_neg c185] at H
                have c185b0 : (t273 == t253) = false := beq_eq_false_iff_ne.mpr c185
                have c185b1 : (t273 != t253) = true := bne_iff_ne.mpr c185
                obtain rfl := Option.some.inj H
                have hnb193 := NB242_207.out
                have hnc193 := NB207_242.out
                have hnb194 := NB242_208.out
                have hnc194 := NB208_242.out
                have hnb195 := NB242_225.out
                have hnc195 := NB225_242.out
                have hnb196 := NB242_231.out
                have hnc196 := NB231_242.out
                have hnb197 := NB242_271.out
                have hnc197 := NB271_242.out
                have hcz198_0 : wc.cell? ⟨gb242, 0, none⟩ = some (.int .i8 t236) := (blk_cell BK242.out 0).trans rfl
                have hcz198_1 : wc.cell? ⟨gb242, 1, none⟩ = some (.int .i8 t237) := (blk_cell BK242.out 1).trans rfl
                have hcz198_2 : wc.cell? ⟨gb242, 2, none⟩ = some (.slice Ao50 t254.length co50) := (blk_cell BK242.out 2).trans rfl
                have hfz198_0 := blk_frozen BK242.out 0
                have hfz198_1 := blk_frozen BK242.out 1
                have hfz198_2 := blk_frozen BK242.out 2
                go_wp2_with (first | ((with_reducible refine gate_callee (f := 22) rfl ?_); refine goesL_ (some 98) rfl rfl Try.func22 (by kernel_rfl) rfl #[.agg #[.int .i8 t236, .int .i8 t237, .slice Ao50 t254.length co50], .int .i64 1] rfl arg_ ?_; (with_reducible refine (laws_heldFixed.calls kj128 t236 t237 _ _ t254 1 t273 _ ?side1 ?side2 A176.out).mono ?_); (case side1 => repeat (first | exact (Kd.R_reads' HO_243002.out).2.2 | (with_reducible refine Kd.C_alloc ?_ _) | (with_reducible refine Kd.C_drewN ?_ _) | (with_reducible refine Kd.C_drew ?_))); (case side2 => exact (Kd.R_reads' HO_243002.out).2.1); rintro e w199 ⟨rfl, hb⟩; refine ⟨_, rfl, ?_⟩; have n0_ := A_ (Kd.R_below (pr_ HO_226002) hb); have n1_ := A_ (Kd.R_below (pr_ HO_232002) hb); have n2_ := A_ (Kd.R_below (pr_ HO_243002) hb); have n3_ := A_ (Kd.R_below (pr_ HO_272002) hb); have n4_ := A_ (blk_below (pl_ BK207) hb); have n5_ := A_ (blk_below (pl_ BK208) hb); have n6_ := A_ (blk_below (pl_ BK225) hb); have n7_ := A_ (blk_below (pl_ BK231) hb); have n8_ := A_ (blk_below (pl_ BK242) hb); have n9_ := A_ (blk_below (pl_ BK271) hb); have n10_ := A_ (below_step (bl_ HB) hb); clear HO_226002; clear HO_232002; clear HO_243002; clear HO_272002; clear BK207; clear BK208; clear BK225; clear BK231; clear BK242; clear BK271; clear HB; have HO_226002 := n0_; have HO_232002 := n1_; have HO_243002 := n2_; have HO_272002 := n3_; have BK207 := n4_; have BK208 := n5_; have BK225 := n6_; have BK231 := n7_; have BK242 := n8_; have BK271 := n9_; have HB := n10_; clear n0_ n1_ n2_ n3_ n4_ n5_ n6_ n7_ n8_ n9_ n10_; (try clear hb); (try clear hb2); (try clear hk); (try clear hi)))
                go_ret
                exact ⟨by first | rfl | (simp [errW_none, errW_some] <;> rfl) | (simp [*, errW_none, errW_some] <;> rfl), bl_ HB⟩
          ·rw [if_neg c125] at H
           have c125b0 : (t255 == t253) = false := beq_eq_false_iff_ne.mpr c125
           have c125b1 : (t255 != t253) = true := bne_iff_ne.mpr c125
           obtain rfl := Option.some.inj H
           have hnb200 := NB242_207.out
           have hnc200 := NB207_242.out
           have hnb201 := NB242_208.out
           have hnc201 := NB208_242.out
           have hnb202 := NB242_225.out
           have hnc202 := NB225_242.out
           have hnb203 := NB242_231.out
           have hnc203 := NB231_242.out
           have hcz204_0 : wc.cell? ⟨gb242, 0, none⟩ = some (.int .i8 t236) := (blk_cell BK242.out 0).trans rfl
           have hcz204_1 : wc.cell? ⟨gb242, 1, none⟩ = some (.int .i8 t237) := (blk_cell BK242.out 1).trans rfl
           have hcz204_2 : wc.cell? ⟨gb242, 2, none⟩ = some (.slice Ao50 t238.length co50) := (blk_cell BK242.out 2).trans rfl
           have hfz204_0 := blk_frozen BK242.out 0
           have hfz204_1 := blk_frozen BK242.out 1
           have hfz204_2 := blk_frozen BK242.out 2
           go_wp2_with (first | ((with_reducible refine gate_callee (f := 21) rfl ?_); refine goesL_ (some 70) rfl rfl Try.func21 (by kernel_rfl) rfl #[.agg #[.int .i8 t236, .int .i8 t237, .slice Ao50 t238.length co50], .int .i64 1] rfl arg_ ?_; (with_reducible refine (laws_markFixed.calls kj78 t236 t237 (fun k_ => some k_ = (.slice Ao50 t238.length co50 : Value).ownBlock) (.slice Ao50 t238.length co50) t238 1 t253 t254 w _ ?side1 ?side2 A114.out).mono ?_); (case side1 => repeat (first | (with_reducible first | exact HB.out | apply below_alloc | apply pw_below_drewN | apply below_drew1) | exact HB.out)); (case side2 => exact Kd.R_tight rfl HO_243002.out); rintro e w205 ⟨rfl, hy0, hb, hkp⟩; refine ⟨_, rfl, ?_⟩; have n0_ := A_ (Kd.R_mono (ok' := fun k_ => some k_ ≠ (.slice Ao41 t251.length co41 : Value).ownBlock ∧ some k_ ≠ (.slice Ao50 t238.length co50 : Value).ownBlock) (Kd.R_keptB (HO_226002.out) hkp (fun k_ hk_ hs_ => (hk_.2) hs_)) (fun k_ hk_ => ⟨hk_.1.1, hk_.1.2⟩)); have n1_ := A_ (Kd.R_mono (ok' := fun k_ => some k_ ≠ (.slice Ao31 t221.length co31 : Value).ownBlock ∧ some k_ ≠ (.slice Ao50 t238.length co50 : Value).ownBlock) (Kd.R_keptB (HO_232002.out) hkp (fun k_ hk_ hs_ => (hk_.2) hs_)) (fun k_ hk_ => ⟨hk_.1.1, hk_.1.2⟩)); have n2_ := A_ (Kd.R_reok rfl hy0 (fun k_ e_ => HO_243002.out.1 k_ e_)); have n3_ := A_ (blk_kept (pl_ BK207) hkp (fun hs_ => (fun e_ => (Kd.R_ne HO_243002.out BK207.out (by decide)) e_) hs_)); have n4_ := A_ (blk_kept (pl_ BK208) hkp (fun hs_ => (fun e_ => (Kd.R_ne HO_243002.out BK208.out (by decide)) e_) hs_)); have n5_ := A_ (blk_kept (pl_ BK225) hkp (fun hs_ => (fun e_ => (Kd.R_ne HO_243002.out BK225.out (by decide)) e_) hs_)); have n6_ := A_ (blk_kept (pl_ BK231) hkp (fun hs_ => (fun e_ => (Kd.R_ne HO_243002.out BK231.out (by decide)) e_) hs_)); have n7_ := A_ (blk_kept (pl_ BK242) hkp (fun hs_ => (fun e_ => (Kd.R_ne HO_243002.out BK242.out (by decide)) e_) hs_)); have n8_ := A_ (hb); clear HO_226002; clear HO_232002; clear HO_243002; clear BK207; clear BK208; clear BK225; clear BK231; clear BK242; clear HB; have HO_226002 := n0_; have HO_232002 := n1_; have HO_243002 := n2_; have BK207 := n3_; have BK208 := n4_; have BK225 := n5_; have BK231 := n6_; have BK242 := n7_; have HB := n8_; clear n0_ n1_ n2_ n3_ n4_ n5_ n6_ n7_ n8_; (try clear hb); (try clear hkp); (try clear hy0); have hcz206_0 : w205.cell? ⟨gb242, 0, none⟩ = some (.int .i8 t236) := (blk_cell BK242.out 0).trans rfl; have hcz206_1 : w205.cell? ⟨gb242, 1, none⟩ = some (.int .i8 t237) := (blk_cell BK242.out 1).trans rfl; have hcz206_2 : w205.cell? ⟨gb242, 2, none⟩ = some (.slice Ao50 t238.length co50) := (blk_cell BK242.out 2).trans rfl; have hfz206_0 := blk_frozen BK242.out 0; have hfz206_1 := blk_frozen BK242.out 1; have hfz206_2 := blk_frozen BK242.out 2) | ((with_reducible refine gate_callee (f := 22) rfl ?_); refine goesL_ (some 73) rfl rfl Try.func22 (by kernel_rfl) rfl #[.agg #[.int .i8 t236, .int .i8 t237, .slice Ao50 t254.length co50], .int .i64 1] rfl (by (try simp only [List.map_toArray, List.map_cons, List.map_nil]); first | done | (rw [show t254.length = t238.length from (Kd.R_reads' HO_243002.out).1.symm] <;> rfl) | rfl | (simp only [List.length_drop, List.length_take]; rfl)) ?_; (with_reducible refine (laws_heldFixed.calls kj78 t236 t237 _ _ t254 1 t255 _ ?side1 ?side2 A115.out).mono ?_); (case side1 => repeat (first | exact (Kd.R_reads' HO_243002.out).2.2 | (with_reducible refine Kd.C_alloc ?_ _) | (with_reducible refine Kd.C_drewN ?_ _) | (with_reducible refine Kd.C_drew ?_))); (case side2 => rw [show t254.length = t238.length from (Kd.R_reads' HO_243002.out).1.symm]; exact (Kd.R_reads' HO_243002.out).2.1); rintro e w207 ⟨rfl, hb⟩; refine ⟨_, rfl, ?_⟩; have n0_ := A_ (Kd.R_below (pr_ HO_226002) hb); have n1_ := A_ (Kd.R_below (pr_ HO_232002) hb); have n2_ := A_ (Kd.R_below (pr_ HO_243002) hb); have n3_ := A_ (blk_below (pl_ BK207) hb); have n4_ := A_ (blk_below (pl_ BK208) hb); have n5_ := A_ (blk_below (pl_ BK225) hb); have n6_ := A_ (blk_below (pl_ BK231) hb); have n7_ := A_ (blk_below (pl_ BK242) hb); have n8_ := A_ (below_step (bl_ HB) hb); clear HO_226002; clear HO_232002; clear HO_243002; clear BK207; clear BK208; clear BK225; clear BK231; clear BK242; clear HB; have HO_226002 := n0_; have HO_232002 := n1_; have HO_243002 := n2_; have BK207 := n3_; have BK208 := n4_; have BK225 := n5_; have BK231 := n6_; have BK242 := n7_; have HB := n8_; clear n0_ n1_ n2_ n3_ n4_ n5_ n6_ n7_ n8_; (try clear hb); (try clear hb2); (try clear hk); (try clear hi)))
           go_ret
           exact ⟨by first | rfl | (simp [errW_none, errW_some] <;> rfl) | (simp [*, errW_none, errW_some] <;> rfl), bl_ HB⟩
     ·replace c77 := Bool.eq_false_iff.mpr c77
      subst c77
      have H1 : (some false) = some r := by rw [if_neg (show ¬ (false = true) by decide)] at H; exact H
      clear H
      have H := H1
      clear H1
      obtain rfl := Option.some.inj H
      try go_wp2
      have n0_ := A_ (Kd.R_drew HO_226002.out)
      have n1_ := A_ (Kd.R_drew HO_232002.out)
      have n2_ := A_ (Kd.R_drew HO_243002.out)
      have n3_ := A_ (blk_drew BK207.out)
      have n4_ := A_ (blk_drew BK208.out)
      have n5_ := A_ (blk_drew BK225.out)
      have n6_ := A_ (blk_drew BK231.out)
      have n7_ := A_ (blk_drew BK242.out)
      have n8_ := A_ (below_drew1 HB.out)
      clear HO_226002
      clear HO_232002
      clear HO_243002
      clear BK207
      clear BK208
      clear BK225
      clear BK231
      clear BK242
      clear HB
      have HO_226002 := n0_
      have HO_232002 := n1_
      have HO_243002 := n2_
      have BK207 := n3_
      have BK208 := n4_
      have BK225 := n5_
      have BK231 := n6_
      have BK242 := n7_
      have HB := n8_
      clear n0_ n1_ n2_ n3_ n4_ n5_ n6_ n7_ n8_
      refine start_ (n := 5) (S := fun w' => w'.cell? ⟨gb231, 0, none⟩ = some (.int .i8 t226) ∧ w'.cell? ⟨gb231, 1, none⟩ = some (.int .i8 t227) ∧ w'.cell? ⟨gb231, 2, none⟩ = some (.slice Ao41 t228.length co41) ∧ w'.cell? ⟨gb207, 0, none⟩ = some (.int .i8 a0_0) ∧ w'.cell? ⟨gb207, 1, none⟩ = some (.int .i8 a0_1) ∧ w'.cell? ⟨gb207, 2, none⟩ = some (.slice A0_2 l0_2.length c0_2)) (ds := []) #[false, false, false, false, false] (by kernel_rfl) rfl rfl ⟨(blk_cell BK231.out 0).trans rfl, (blk_cell BK231.out 1).trans rfl, (blk_cell BK231.out 2).trans rfl, (blk_cell BK207.out 0).trans rfl, (blk_cell BK207.out 1).trans rfl, (blk_cell BK207.out 2).trans rfl⟩ (fun hHeld => ?_)
      generalize wc.drew = w208 at HO_226002 HO_232002 HO_243002 BK207 BK208 BK225 BK231 BK242 HB hHeld ⊢
      refine take_ (i := 0) (N := some 47) (v := ?_) (a' := ?_) #[true, false, false, false, false] rfl rfl (by kernel_rfl) (fun _ _ _ h => h) (Or.inl ⟨by rfl, ?_⟩) hHeld ?_ ?_
      rotate_left
      ·rintro w' ⟨s0, s1, s2, s3, s4, s5⟩
       go_simp
       with_reducible rfl
      rotate_left
      ·simp only [Act.put, List.setIfInBounds_toArray, List.set_cons_zero, List.set_cons_succ, i64_w, i32_w]
       rfl
      refine take_ (i := 1) (N := some 48) (v := ?_) (a' := ?_) #[true, true, false, false, false] rfl rfl (by kernel_rfl) (fun _ _ _ h => h) (Or.inl ⟨by rfl, ?_⟩) hHeld ?_ ?_
      rotate_left
      ·rintro w' ⟨s0, s1, s2, s3, s4, s5⟩
       go_simp
       with_reducible rfl
      rotate_left
      ·simp only [Act.put, List.setIfInBounds_toArray, List.set_cons_zero, List.set_cons_succ, i64_w, i32_w]
       rfl
      refine one_ (i := 2) (N := some 49) #[true, true, true, false, false] rfl rfl (by kernel_rfl) (by decide) (fun K hK => ?_)
      refine goes_ Try.func11 (by kernel_rfl) rfl #[.agg #[.int .i8 a0_0, .int .i8 a0_1, .slice A0_2 l0_2.length c0_2]] (by rfl) rfl rfl arg_ ?_
      with_reducible refine (laws_toFixed.calls kj15 a0_0 a0_1 _ _ l0_2 t244 t245 t246 _ ?side1 ?side2 A75.out).mono ?_
      (case side1 => repeat (first | exact (Kd.C_below HR0_2.out HB.out) | (with_reducible refine Kd.C_alloc ?_ _) | (with_reducible refine Kd.C_drewN ?_ _) | (with_reducible refine Kd.C_drew ?_)))
      (case side2 => exact HC0_2.out)
      rintro e w209 ⟨v247, rfl, ho0, hb⟩
      refine ⟨_, rfl, ?_⟩
      have n0_ := A_ (Kd.R_elder' (pr_ HO_226002) (Kd.R_base ho0) hb)
      have n1_ := A_ (Kd.R_elder' (pr_ HO_232002) (Kd.R_base ho0) hb)
      have n2_ := A_ (Kd.R_elder' (pr_ HO_243002) (Kd.R_base ho0) hb)
      have n3_ := A_ (Kd.R_lower (Kd.R_new' (Kd.R_new' (Kd.R_new' ho0 (Kd.R_lt (pr_ HO_226002))) (Kd.R_lt (pr_ HO_232002))) (Kd.R_lt (pr_ HO_243002))) (below_size (bl_ HB)))
      have n4_ := A_ (blk_below (pl_ BK207) hb)
      have n5_ := A_ (blk_below (pl_ BK208) hb)
      have n6_ := A_ (blk_below (pl_ BK225) hb)
      have n7_ := A_ (blk_below (pl_ BK231) hb)
      have n8_ := A_ (blk_below (pl_ BK242) hb)
      have n9_ := A_ (below_step (bl_ HB) hb)
      clear HO_226002
      clear HO_232002
      clear HO_243002
      clear BK207
      clear BK208
      clear BK225
      clear BK231
      clear BK242
      clear HB
      have HO_226002 := n0_
      have HO_232002 := n1_
      have HO_243002 := n2_
      have HO248 := n3_
      have BK207 := n4_
      have BK208 := n5_
      have BK225 := n6_
      have BK231 := n7_
      have BK242 := n8_
      have HB := n9_
      clear n0_ n1_ n2_ n3_ n4_ n5_ n6_ n7_ n8_ n9_
      (try clear hb)
      (try clear hb2)
      (try clear hk)
      (try clear hi)
      (try clear ho0)
      obtain ⟨Ao210, co210, eo210⟩ := Kd.R_slice HO248.out
      (first | subst eo210 | (injection eo210 with f1_ f2_ f3_; have f4_ := f1_.symm; have f5_ := f3_.symm; clear f1_ f2_ f3_; subst f4_; subst f5_))
      refine hK.out _ _ ⟨(blk_cell BK231.out 0).trans rfl, (blk_cell BK231.out 1).trans rfl, (blk_cell BK231.out 2).trans rfl, (blk_cell BK207.out 0).trans rfl, (blk_cell BK207.out 1).trans rfl, (blk_cell BK207.out 2).trans rfl⟩ (fun hHeld => ?_)
      clear hK K
      refine norm_ (a' := ?_) ?_ ?_
      rotate_left
      ·show Act.put _ (some 49) _ = _
       simp only [Act.put, List.setIfInBounds_toArray, List.set_cons_zero, List.set_cons_succ, i64_w, i32_w]
       rfl
      refine one_ (i := 3) (N := some 50) #[true, true, true, true, false] rfl rfl (by kernel_rfl) (by decide) (fun K hK => ?_)
      refine goes_ Try.func13 (by kernel_rfl) rfl #[.agg #[.int .i8 t226, .int .i8 t227, .slice Ao41 t228.length co41], .agg #[.int .i8 t244, .int .i8 t245, .slice Ao210 t246.length co210]] (by rfl) rfl rfl arg_ ?_
      with_reducible refine (laws_eqFixed.calls kj15 t226 t227 _ _ t228 t244 t245 _ _ t246 false _ ?side1 ?side2 ?side3 ?side4 A76.out).mono ?_
      (case side1 => repeat (first | exact (Kd.R_reads' HO_232002.out).2.2 | (with_reducible refine Kd.C_alloc ?_ _) | (with_reducible refine Kd.C_drewN ?_ _) | (with_reducible refine Kd.C_drew ?_)))
      (case side2 => exact (Kd.R_reads' HO_232002.out).2.1)
      (case side3 => repeat (first | exact (Kd.R_reads' HO248.out).2.2 | (with_reducible refine Kd.C_alloc ?_ _) | (with_reducible refine Kd.C_drewN ?_ _) | (with_reducible refine Kd.C_drew ?_)))
      (case side4 => exact (Kd.R_reads' HO248.out).2.1)
      rintro e w211 ⟨rfl, hb⟩
      refine ⟨_, rfl, ?_⟩
      have n0_ := A_ (Kd.R_below (pr_ HO_226002) hb)
      have n1_ := A_ (Kd.R_below (pr_ HO_232002) hb)
      have n2_ := A_ (Kd.R_below (pr_ HO_243002) hb)
      have n3_ := A_ (Kd.R_below (pr_ HO248) hb)
      have n4_ := A_ (blk_below (pl_ BK207) hb)
      have n5_ := A_ (blk_below (pl_ BK208) hb)
      have n6_ := A_ (blk_below (pl_ BK225) hb)
      have n7_ := A_ (blk_below (pl_ BK231) hb)
      have n8_ := A_ (blk_below (pl_ BK242) hb)
      have n9_ := A_ (below_step (bl_ HB) hb)
      clear HO_226002
      clear HO_232002
      clear HO_243002
      clear HO248
      clear BK207
      clear BK208
      clear BK225
      clear BK231
      clear BK242
      clear HB
      have HO_226002 := n0_
      have HO_232002 := n1_
      have HO_243002 := n2_
      have HO248 := n3_
      have BK207 := n4_
      have BK208 := n5_
      have BK225 := n6_
      have BK231 := n7_
      have BK242 := n8_
      have HB := n9_
      clear n0_ n1_ n2_ n3_ n4_ n5_ n6_ n7_ n8_ n9_
      (try clear hb)
      (try clear hb2)
      (try clear hk)
      (try clear hi)
      refine hK.out _ _ ⟨(blk_cell BK231.out 0).trans rfl, (blk_cell BK231.out 1).trans rfl, (blk_cell BK231.out 2).trans rfl, (blk_cell BK207.out 0).trans rfl, (blk_cell BK207.out 1).trans rfl, (blk_cell BK207.out 2).trans rfl⟩ (fun hHeld => ?_)
      clear hK K
      refine norm_ (a' := ?_) ?_ ?_
      rotate_left
      ·show Act.put _ (some 50) _ = _
       simp only [Act.put, List.setIfInBounds_toArray, List.set_cons_zero, List.set_cons_succ, i64_w, i32_w]
       rfl
      refine pure_ (i := 4) (N := some 51) (v := ?_) (a' := ?_) #[true, true, true, true, true] rfl rfl (by kernel_rfl) (fun _ _ _ h => h) (Or.inl ⟨by rfl, ?_⟩) ?_ ?_
      rotate_left
      ·intro w'
       go_simp
       with_reducible rfl
      rotate_left
      ·simp only [Act.put, List.setIfInBounds_toArray, List.set_cons_zero, List.set_cons_succ, i64_w, i32_w]
       rfl
      refine done_ (by kernel_rfl) ?_
      try go_wp2
      go_ret
      exact ⟨by first | rfl | (simp [errW_none, errW_some] <;> rfl) | (simp [*, errW_none, errW_some] <;> rfl), bl_ HB⟩

end Go.Proofs.Ytonifpgaagdohaa.M
