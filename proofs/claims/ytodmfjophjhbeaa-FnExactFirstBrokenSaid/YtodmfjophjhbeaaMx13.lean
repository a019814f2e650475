-- By this seat's own program over the kit's printer (arrays, functions told by hand); nothing of it is trusted: the kernel checks it.
import Derived.Test.YtodmfjophjhbeaaMx0
import Derived.Test.YtodmfjophjhbeaaMx1
import Derived.Test.YtodmfjophjhbeaaMx2
import Derived.Test.YtodmfjophjhbeaaMx12
namespace Go.Proofs.Ytodmfjophjhbeaa.M
open Go.RowKit Go.Proofs.YtodmfjophjhbeaaW.PrintWords Go.Proofs.YtodmfjophjhbeaaW.PrintLast Go.Proofs.YtodmfjophjhbeaaW.PrintMore
attribute [local go_sem] max2_int min2_int max_two min_two max_three min_three max_four min_four   -- for this text's walks alone
set_option linter.unusedVariables false
set_option linter.unusedSimpArgs false

attribute [local go_sem high] eqA30
/-! ### spec_l02Move: function 85 -/
mutual
def spec_l02Move.j0 : Nat → Bool → List Int → Int → Int → Int → Int → Bool → Int → Int → Int → Int → Int → Int → Int → Option (Int × Int × Int × Int × Int)
 | 0, _, _, _, _, _, _, _, _, _, _, _, _, _, _ => none
 | k + 1, x47, x144000, x144001, x144002, x144003, x144004, x144005, x145000, x145001, x145002, x145003, x146000, x146001, x146002 => if x47 = true then (some (0, 0, 0, 0, 2)) else (if x146000 = 0 then (if x146001 = x146002 then (spec_l02Move.j1 k true x144000 x144001 x144002 x144003 x144004 x144005 x145000 x145001 x145002 x145003 x146000 x146001 x146002) else (spec_l02Move.j1 k false x144000 x144001 x144002 x144003 x144004 x144005 x145000 x145001 x145002 x145003 x146000 x146001 x146002)) else (spec_l02Move.j1 k (!x144005) x144000 x144001 x144002 x144003 x144004 x144005 x145000 x145001 x145002 x145003 x146000 x146001 x146002))
def spec_l02Move.j1 : Nat → Bool → List Int → Int → Int → Int → Int → Bool → Int → Int → Int → Int → Int → Int → Int → Option (Int × Int × Int × Int × Int)
 | 0, _, _, _, _, _, _, _, _, _, _, _, _, _, _ => none
 | k + 1, x70, x144000, x144001, x144002, x144003, x144004, x144005, x145000, x145001, x145002, x145003, x146000, x146001, x146002 => if x70 = true then (some (0, 0, 0, 0, 4)) else (if x146000 = 0 then (if 0 ≤ x146001 then (if x146001 < 4 then (if 0 ≤ x146002 then (if x146002 < (x144000.length : Int) then (if x146002 < 4 then ((spec_l00Min.f (wrap64 (rd [x145000, x145001, x145002, x145003] x146001)) (wrap64 (IntKind.i16.wrap ((rd x144000 x146002) - (rd [x145000, x145001, x145002, x145003] x146002))))).bind fun t152 => (spec_l02Move.j2 k x145000 x145001 x145002 x145003 (aup x146002 0 (IntKind.i16.wrap ((rd [aup x146001 0 (IntKind.i16.wrap ((rd [x145000, x145001, x145002, x145003] x146001) - (IntKind.i16.wrap (t152)))) x145000, aup x146001 1 (IntKind.i16.wrap ((rd [x145000, x145001, x145002, x145003] x146001) - (IntKind.i16.wrap (t152)))) x145001, aup x146001 2 (IntKind.i16.wrap ((rd [x145000, x145001, x145002, x145003] x146001) - (IntKind.i16.wrap (t152)))) x145002, aup x146001 3 (IntKind.i16.wrap ((rd [x145000, x145001, x145002, x145003] x146001) - (IntKind.i16.wrap (t152)))) x145003] x146002) + (IntKind.i16.wrap (t152)))) (aup x146001 0 (IntKind.i16.wrap ((rd [x145000, x145001, x145002, x145003] x146001) - (IntKind.i16.wrap (t152)))) x145000)) (aup x146002 1 (IntKind.i16.wrap ((rd [aup x146001 0 (IntKind.i16.wrap ((rd [x145000, x145001, x145002, x145003] x146001) - (IntKind.i16.wrap (t152)))) x145000, aup x146001 1 (IntKind.i16.wrap ((rd [x145000, x145001, x145002, x145003] x146001) - (IntKind.i16.wrap (t152)))) x145001, aup x146001 2 (IntKind.i16.wrap ((rd [x145000, x145001, x145002, x145003] x146001) - (IntKind.i16.wrap (t152)))) x145002, aup x146001 3 (IntKind.i16.wrap ((rd [x145000, x145001, x145002, x145003] x146001) - (IntKind.i16.wrap (t152)))) x145003] x146002) + (IntKind.i16.wrap (t152)))) (aup x146001 1 (IntKind.i16.wrap ((rd [x145000, x145001, x145002, x145003] x146001) - (IntKind.i16.wrap (t152)))) x145001)) (aup x146002 2 (IntKind.i16.wrap ((rd [aup x146001 0 (IntKind.i16.wrap ((rd [x145000, x145001, x145002, x145003] x146001) - (IntKind.i16.wrap (t152)))) x145000, aup x146001 1 (IntKind.i16.wrap ((rd [x145000, x145001, x145002, x145003] x146001) - (IntKind.i16.wrap (t152)))) x145001, aup x146001 2 (IntKind.i16.wrap ((rd [x145000, x145001, x145002, x145003] x146001) - (IntKind.i16.wrap (t152)))) x145002, aup x146001 3 (IntKind.i16.wrap ((rd [x145000, x145001, x145002, x145003] x146001) - (IntKind.i16.wrap (t152)))) x145003] x146002) + (IntKind.i16.wrap (t152)))) (aup x146001 2 (IntKind.i16.wrap ((rd [x145000, x145001, x145002, x145003] x146001) - (IntKind.i16.wrap (t152)))) x145002)) (aup x146002 3 (IntKind.i16.wrap ((rd [aup x146001 0 (IntKind.i16.wrap ((rd [x145000, x145001, x145002, x145003] x146001) - (IntKind.i16.wrap (t152)))) x145000, aup x146001 1 (IntKind.i16.wrap ((rd [x145000, x145001, x145002, x145003] x146001) - (IntKind.i16.wrap (t152)))) x145001, aup x146001 2 (IntKind.i16.wrap ((rd [x145000, x145001, x145002, x145003] x146001) - (IntKind.i16.wrap (t152)))) x145002, aup x146001 3 (IntKind.i16.wrap ((rd [x145000, x145001, x145002, x145003] x146001) - (IntKind.i16.wrap (t152)))) x145003] x146002) + (IntKind.i16.wrap (t152)))) (aup x146001 3 (IntKind.i16.wrap ((rd [x145000, x145001, x145002, x145003] x146001) - (IntKind.i16.wrap (t152)))) x145003)))) else (none)) else (none)) else (none)) else (none)) else (none)) else (if x146000 = 1 then (if 0 ≤ x146001 then (if x146001 < (x144000.length : Int) then (if x146001 < 4 then (spec_l02Move.j2 k x145000 x145001 x145002 x145003 (aup x146001 0 (rd x144000 x146001) x145000) (aup x146001 1 (rd x144000 x146001) x145001) (aup x146001 2 (rd x144000 x146001) x145002) (aup x146001 3 (rd x144000 x146001) x145003)) else (none)) else (none)) else (none)) else (if x146000 = 2 then (if 0 ≤ x146001 then (if x146001 < 4 then (spec_l02Move.j2 k x145000 x145001 x145002 x145003 (aup x146001 0 0 x145000) (aup x146001 1 0 x145001) (aup x146001 2 0 x145002) (aup x146001 3 0 x145003)) else (none)) else (none)) else (spec_l02Move.j2 k x145000 x145001 x145002 x145003 x145000 x145001 x145002 x145003))))
def spec_l02Move.j2 : Nat → Int → Int → Int → Int → Int → Int → Int → Int → Option (Int × Int × Int × Int × Int)
 | 0, _, _, _, _, _, _, _, _ => none
 | k + 1, x145000, x145001, x145002, x145003, x151000, x151001, x151002, x151003 => if (x151000 == x145000 && (x151001 == x145001 && (x151002 == x145002 && (x151003 == x145003)))) = true then (some (0, 0, 0, 0, 4)) else (some (x151000, x151001, x151002, x151003, 0))
end
def spec_l02Move.f (k : Nat) (l0_0 : List Int) (a0_1 : Int) (a0_2 : Int) (a0_3 : Int) (a0_4 : Int) (a0_5 : Bool) (a1_0 : Int) (a1_1 : Int) (a1_2 : Int) (a1_3 : Int) (a2_0 : Int) (a2_1 : Int) (a2_2 : Int) : Option (Int × Int × Int × Int × Int) := (spec_l00In.f (wrap64 (a2_0)) 0 2).bind fun t147 => (if t147 = true then ((spec_l00In.f (wrap64 (a2_1)) 0 (wrap64 ((l0_0.length : Int) - 1))).bind fun t148 => (if t148 = true then ((spec_l00In.f (wrap64 (a2_2)) 0 (wrap64 ((l0_0.length : Int) - 1))).bind fun t149 => (if t149 = true then (if a2_0 = 0 then (spec_l02Move.j0 k false l0_0 a0_1 a0_2 a0_3 a0_4 a0_5 a1_0 a1_1 a1_2 a1_3 a2_0 a2_1 a2_2) else (spec_l02Move.j0 k (a2_2 != 0) l0_0 a0_1 a0_2 a0_3 a0_4 a0_5 a1_0 a1_1 a1_2 a1_3 a2_0 a2_1 a2_2)) else (spec_l02Move.j0 k true l0_0 a0_1 a0_2 a0_3 a0_4 a0_5 a1_0 a1_1 a1_2 a1_3 a2_0 a2_1 a2_2))) else (spec_l02Move.j0 k true l0_0 a0_1 a0_2 a0_3 a0_4 a0_5 a1_0 a1_1 a1_2 a1_3 a2_0 a2_1 a2_2))) else (spec_l02Move.j0 k true l0_0 a0_1 a0_2 a0_3 a0_4 a0_5 a1_0 a1_1 a1_2 a1_3 a2_0 a2_1 a2_2))
theorem spec_l02Move.mono_l : ∀ k, (∀ y0 y1 y2 y3 y4 y5 y6 y7 y8 y9 y10 y11 y12 y13, LeO (spec_l02Move.j0 k y0 y1 y2 y3 y4 y5 y6 y7 y8 y9 y10 y11 y12 y13) (spec_l02Move.j0 (k + 1) y0 y1 y2 y3 y4 y5 y6 y7 y8 y9 y10 y11 y12 y13)) ∧ (∀ y0 y1 y2 y3 y4 y5 y6 y7 y8 y9 y10 y11 y12 y13, LeO (spec_l02Move.j1 k y0 y1 y2 y3 y4 y5 y6 y7 y8 y9 y10 y11 y12 y13) (spec_l02Move.j1 (k + 1) y0 y1 y2 y3 y4 y5 y6 y7 y8 y9 y10 y11 y12 y13)) ∧ (∀ y0 y1 y2 y3 y4 y5 y6 y7, LeO (spec_l02Move.j2 k y0 y1 y2 y3 y4 y5 y6 y7) (spec_l02Move.j2 (k + 1) y0 y1 y2 y3 y4 y5 y6 y7))
 | 0 => ⟨fun _ _ _ _ _ _ _ _ _ _ _ _ _ _ r h => by simp [spec_l02Move.j0] at h, fun _ _ _ _ _ _ _ _ _ _ _ _ _ _ r h => by simp [spec_l02Move.j1] at h, fun _ _ _ _ _ _ _ _ r h => by simp [spec_l02Move.j2] at h⟩
 | k + 1 => by
  obtain ⟨ih0, ih1, ih2⟩ := spec_l02Move.mono_l k
  refine ⟨?_, ?_, ?_⟩
  ·intro y0 y1 y2 y3 y4 y5 y6 y7 y8 y9 y10 y11 y12 y13
   unfold spec_l02Move.j0
   repeat' first
   | (with_reducible exact ih0 _ _ _ _ _ _ _ _ _ _ _ _ _ _)
   | (with_reducible exact ih1 _ _ _ _ _ _ _ _ _ _ _ _ _ _)
   | (with_reducible exact ih2 _ _ _ _ _ _ _ _)
   | (with_reducible exact LeO.refl _)
   | (with_reducible exact LeO.none _)
   | (with_reducible refine LeO.ite ?_ ?_)
   | (with_reducible refine LeO.bind ?_ (fun _ => ?_))
   | exact ih0 _ _ _ _ _ _ _ _ _ _ _ _ _ _
   | exact ih1 _ _ _ _ _ _ _ _ _ _ _ _ _ _
   | exact ih2 _ _ _ _ _ _ _ _
   | exact LeO.none _
   | refine LeO.ite ?_ ?_
   | refine LeO.bind ?_ (fun _ => ?_)
  ·intro y0 y1 y2 y3 y4 y5 y6 y7 y8 y9 y10 y11 y12 y13
   unfold spec_l02Move.j1
   repeat' first
   | (with_reducible exact ih0 _ _ _ _ _ _ _ _ _ _ _ _ _ _)
   | (with_reducible exact ih1 _ _ _ _ _ _ _ _ _ _ _ _ _ _)
   | (with_reducible exact ih2 _ _ _ _ _ _ _ _)
   | (with_reducible exact LeO.refl _)
   | (with_reducible exact LeO.none _)
   | (with_reducible refine LeO.ite ?_ ?_)
   | (with_reducible refine LeO.bind ?_ (fun _ => ?_))
   | exact ih0 _ _ _ _ _ _ _ _ _ _ _ _ _ _
   | exact ih1 _ _ _ _ _ _ _ _ _ _ _ _ _ _
   | exact ih2 _ _ _ _ _ _ _ _
   | exact LeO.none _
   | refine LeO.ite ?_ ?_
   | refine LeO.bind ?_ (fun _ => ?_)
  ·intro y0 y1 y2 y3 y4 y5 y6 y7
   unfold spec_l02Move.j2
   repeat' first
   | (with_reducible exact ih0 _ _ _ _ _ _ _ _ _ _ _ _ _ _)
   | (with_reducible exact ih1 _ _ _ _ _ _ _ _ _ _ _ _ _ _)
   | (with_reducible exact ih2 _ _ _ _ _ _ _ _)
   | (with_reducible exact LeO.refl _)
   | (with_reducible exact LeO.none _)
   | (with_reducible refine LeO.ite ?_ ?_)
   | (with_reducible refine LeO.bind ?_ (fun _ => ?_))
   | exact ih0 _ _ _ _ _ _ _ _ _ _ _ _ _ _
   | exact ih1 _ _ _ _ _ _ _ _ _ _ _ _ _ _
   | exact ih2 _ _ _ _ _ _ _ _
   | exact LeO.none _
   | refine LeO.ite ?_ ?_
   | refine LeO.bind ?_ (fun _ => ?_)
theorem spec_l02Move.mono : ∀ a0 a1 a2 a3 a4 a5 a6 a7 a8 a9 a10 a11 a12 k, LeO (spec_l02Move.f k a0 a1 a2 a3 a4 a5 a6 a7 a8 a9 a10 a11 a12) (spec_l02Move.f (k + 1) a0 a1 a2 a3 a4 a5 a6 a7 a8 a9 a10 a11 a12) := by
 intro a0 a1 a2 a3 a4 a5 a6 a7 a8 a9 a10 a11 a12 k
 obtain ⟨ih0, ih1, ih2⟩ := spec_l02Move.mono_l k
 unfold spec_l02Move.f
 repeat' first
   | (with_reducible exact ih0 _ _ _ _ _ _ _ _ _ _ _ _ _ _)
   | (with_reducible exact ih1 _ _ _ _ _ _ _ _ _ _ _ _ _ _)
   | (with_reducible exact ih2 _ _ _ _ _ _ _ _)
   | (with_reducible exact LeO.refl _)
   | (with_reducible exact LeO.none _)
   | (with_reducible refine LeO.ite ?_ ?_)
   | (with_reducible refine LeO.bind ?_ (fun _ => ?_))
   | exact ih0 _ _ _ _ _ _ _ _ _ _ _ _ _ _
   | exact ih1 _ _ _ _ _ _ _ _ _ _ _ _ _ _
   | exact ih2 _ _ _ _ _ _ _ _
   | exact LeO.none _
   | refine LeO.ite ?_ ?_
   | refine LeO.bind ?_ (fun _ => ?_)
set_option maxHeartbeats 8000000 in
set_option maxRecDepth 100000 in
theorem spec_l02Move.calls (k : Nat) (gp0 : Nat) (A0_0 : Option Addr) (c0_0 : Nat) (l0_0 : List Int) (a0_1 : Int) (a0_2 : Int) (a0_3 : Int) (a0_4 : Int) (a0_5 : Bool) (a1_0 : Int) (a1_1 : Int) (a1_2 : Int) (a1_3 : Int) (a2_0 : Int) (a2_1 : Int) (a2_2 : Int) (r1 : Int) (r2 : Int) (r3 : Int) (r4 : Int) (r5 : Int) (w : World) (hb0 : w.heap[gp0]? = some (.cells #[.slice A0_0 l0_0.length c0_0, .int .i16 a0_1, .int .i16 a0_2, .int .i16 a0_3, .int .i16 a0_4, .bool a0_5] 32 (0, 0))) (hr0_0 : Kd.C (Kd.int .i16) w A0_0 l0_0.length l0_0) (hc0_0 : l0_0.length ≤ c0_0) (h : spec_l02Move.f k l0_0 a0_1 a0_2 a0_3 a0_4 a0_5 a1_0 a1_1 a1_2 a1_3 a2_0 a2_1 a2_2 = some (r1, r2, r3, r4, r5)) :
  Calls Try.prog 85 #[.pointer (some ⟨gp0, 0, none⟩), .agg #[.int .i16 a1_0, .int .i16 a1_1, .int .i16 a1_2, .int .i16 a1_3], .agg #[.int .i8 a2_0, .int .i8 a2_1, .int .i8 a2_2]] w fun e w' => e = .returned (.tuple #[.agg #[.int .i16 r1, .int .i16 r2, .int .i16 r3, .int .i16 r4], .int .i64 r5]) ∧ Below w.heap.size w w' := by
 have hu30 := Try.underlying30
 have hu60 := Try.underlying60
 have HR0_0 := Aside0.mk hr0_0
 have HC0_0 := Aside0.mk hc0_0
 clear hr0_0 hc0_0
 have BK143 := Aside0.mk hb0
 clear hb0
 have HB := A_ (Below.refl w.heap.size w)
 have H : ((spec_l00In.f (wrap64 (a2_0)) 0 2).bind fun t147 => (if t147 = true then ((spec_l00In.f (wrap64 (a2_1)) 0 (wrap64 ((l0_0.length : Int) - 1))).bind fun t148 => (if t148 = true then ((spec_l00In.f (wrap64 (a2_2)) 0 (wrap64 ((l0_0.length : Int) - 1))).bind fun t149 => (if t149 = true then (if a2_0 = 0 then (spec_l02Move.j0 k false l0_0 a0_1 a0_2 a0_3 a0_4 a0_5 a1_0 a1_1 a1_2 a1_3 a2_0 a2_1 a2_2) else (spec_l02Move.j0 k (a2_2 != 0) l0_0 a0_1 a0_2 a0_3 a0_4 a0_5 a1_0 a1_1 a1_2 a1_3 a2_0 a2_1 a2_2)) else (spec_l02Move.j0 k true l0_0 a0_1 a0_2 a0_3 a0_4 a0_5 a1_0 a1_1 a1_2 a1_3 a2_0 a2_1 a2_2))) else (spec_l02Move.j0 k true l0_0 a0_1 a0_2 a0_3 a0_4 a0_5 a1_0 a1_1 a1_2 a1_3 a2_0 a2_1 a2_2))) else (spec_l02Move.j0 k true l0_0 a0_1 a0_2 a0_3 a0_4 a0_5 a1_0 a1_1 a1_2 a1_3 a2_0 a2_1 a2_2))) = some (r1, r2, r3, r4, r5) := h
 clear h
 have HC4 := Aside0.mk H
 clear H
 go_enter Try.func85, Try.ntmps85
 go_upto_region 2 with (first | ((with_reducible refine gate_dst (N := 4) rfl ?_); refine box_event ?hg (N := 4) ?hd (cs := #[.int .i16 a1_0, .int .i16 a1_1, .int .i16 a1_2, .int .i16 a1_3]) (t := 30) ?hr ?_; (case hd => rfl); (case hg => rfl); (case hr => first | (go_simp; done) | (go_simp; rfl)); intro gb144 hg w5 hbox hb; have n0_ := A_ (blk_below (pl_ BK143) hb); have n1_ := A_ (below_step (bl_ HB) hb); have n2_ := A_ (hbox); have n3_ := A_ ((by rw [hg]; exact (below_size (bl_ HB)) : w.heap.size ≤ gb144)); have n4_ := n3_; have n5_ := A_ ((by rw [hg]; exact Nat.ne_of_lt (blk_lt (pl_ BK143)) : gp0 ≠ gb144)); have n6_ := Aside0.mk n5_.out.symm; clear BK143; clear HB; have BK143 := n0_; have HB := n1_; have BK144 := n2_; have GW144 := n3_; have GE144 := n4_; have NB143_144 := n5_; have NB144_143 := n6_; clear n0_ n1_ n2_ n3_ n4_ n5_ n6_; clear hb hbox hg) | ((with_reducible refine gate_dst (N := 5) rfl ?_); refine box_event ?hg (N := 5) ?hd (cs := #[.int .i8 a2_0, .int .i8 a2_1, .int .i8 a2_2]) (t := 60) ?hr ?_; (case hd => rfl); (case hg => rfl); (case hr => first | (go_simp; done) | (go_simp; rfl)); intro gb145 hg w6 hbox hb; have n0_ := A_ (blk_below (pl_ BK143) hb); have n1_ := A_ (blk_below (pl_ BK144) hb); have n2_ := A_ (below_step (bl_ HB) hb); have n3_ := A_ (hbox); have n4_ := A_ ((by rw [hg]; exact (below_size (bl_ HB)) : w.heap.size ≤ gb145)); have n5_ := n4_; have n6_ := A_ ((by rw [hg]; exact Nat.ne_of_lt (blk_lt (pl_ BK143)) : gp0 ≠ gb145)); have n7_ := Aside0.mk n6_.out.symm; have n8_ := A_ ((by rw [hg]; exact Nat.ne_of_lt (blk_lt (pl_ BK144)) : gb144 ≠ gb145)); have n9_ := Aside0.mk n8_.out.symm; clear BK143; clear BK144; clear HB; have BK143 := n0_; have BK144 := n1_; have HB := n2_; have BK145 := n3_; have GW145 := n4_; have GE145 := n5_; have NB143_145 := n6_; have NB145_143 := n7_; have NB144_145 := n8_; have NB145_144 := n9_; clear n0_ n1_ n2_ n3_ n4_ n5_ n6_ n7_ n8_ n9_; clear hb hbox hg) | ((with_reducible refine gate_dst (N := 6) rfl ?_); refine box_event ?hg (N := 6) ?hd (cs := #[.int .i16 0, .int .i16 0, .int .i16 0, .int .i16 0]) (t := 30) ?hr ?_; (case hd => rfl); (case hg => rfl); (case hr => first | (go_simp; done) | (go_simp; rfl)); intro gb146 hg w7 hbox hb; have n0_ := A_ (blk_below (pl_ BK143) hb); have n1_ := A_ (blk_below (pl_ BK144) hb); have n2_ := A_ (blk_below (pl_ BK145) hb); have n3_ := A_ (below_step (bl_ HB) hb); have n4_ := A_ (hbox); have n5_ := A_ ((by rw [hg]; exact (below_size (bl_ HB)) : w.heap.size ≤ gb146)); have n6_ := n5_; have n7_ := A_ ((by rw [hg]; exact Nat.ne_of_lt (blk_lt (pl_ BK143)) : gp0 ≠ gb146)); have n8_ := Aside0.mk n7_.out.symm; have n9_ := A_ ((by rw [hg]; exact Nat.ne_of_lt (blk_lt (pl_ BK144)) : gb144 ≠ gb146)); have n10_ := Aside0.mk n9_.out.symm; have n11_ := A_ ((by rw [hg]; exact Nat.ne_of_lt (blk_lt (pl_ BK145)) : gb145 ≠ gb146)); have n12_ := Aside0.mk n11_.out.symm; clear BK143; clear BK144; clear BK145; clear HB; have BK143 := n0_; have BK144 := n1_; have BK145 := n2_; have HB := n3_; have BK146 := n4_; have GW146 := n5_; have GE146 := n6_; have NB143_146 := n7_; have NB146_143 := n8_; have NB144_146 := n9_; have NB146_144 := n10_; have NB145_146 := n11_; have NB146_145 := n12_; clear n0_ n1_ n2_ n3_ n4_ n5_ n6_ n7_ n8_ n9_ n10_ n11_ n12_; clear hb hbox hg; have hnb8 := NB143_144.out; have hnc8 := NB144_143.out; have hnb9 := NB143_145.out; have hnc9 := NB145_143.out; have hnb10 := NB143_146.out; have hnc10 := NB146_143.out; have hcz11_0 : w7.cell? ⟨gp0, 0, none⟩ = some (.slice A0_0 l0_0.length c0_0) := (blk_cell BK143.out 0).trans rfl; have hcz11_1 : w7.cell? ⟨gp0, 1, none⟩ = some (.int .i16 a0_1) := (blk_cell BK143.out 1).trans rfl; have hcz11_2 : w7.cell? ⟨gp0, 2, none⟩ = some (.int .i16 a0_2) := (blk_cell BK143.out 2).trans rfl; have hcz11_3 : w7.cell? ⟨gp0, 3, none⟩ = some (.int .i16 a0_3) := (blk_cell BK143.out 3).trans rfl; have hcz11_4 : w7.cell? ⟨gp0, 4, none⟩ = some (.int .i16 a0_4) := (blk_cell BK143.out 4).trans rfl; have hcz11_5 : w7.cell? ⟨gp0, 5, none⟩ = some (.bool a0_5) := (blk_cell BK143.out 5).trans rfl; have hfz11_0 := blk_frozen BK143.out 0; have hfz11_1 := blk_frozen BK143.out 1; have hfz11_2 := blk_frozen BK143.out 2; have hfz11_3 := blk_frozen BK143.out 3; have hfz11_4 := blk_frozen BK143.out 4; have hfz11_5 := blk_frozen BK143.out 5))
 (try simp only [Act.put, List.setIfInBounds_toArray, List.set_cons_zero, List.set_cons_succ])
 go_cut [47] (fun v47 wc => ∃ (kq : Nat) (x47_3 : Bool), v47 = .bool x47_3 ∧ Aside0 (spec_l02Move.j0 kq x47_3 l0_0 a0_1 a0_2 a0_3 a0_4 a0_5 a1_0 a1_1 a1_2 a1_3 a2_0 a2_1 a2_2 = some (r1, r2, r3, r4, r5)) ∧ Aside0 (kq ≤ k) ∧ Aside0 (wc.heap[gp0]? = some (.cells #[(.slice A0_0 l0_0.length c0_0), .int .i16 a0_1, .int .i16 a0_2, .int .i16 a0_3, .int .i16 a0_4, .bool a0_5] 32 (0, 0))) ∧ Aside0 (wc.heap[gb144]? = some (.cells #[.int .i16 a1_0, .int .i16 a1_1, .int .i16 a1_2, .int .i16 a1_3] 30 (0, 0))) ∧ Aside0 (wc.heap[gb145]? = some (.cells #[.int .i8 a2_0, .int .i8 a2_1, .int .i8 a2_2] 60 (0, 0))) ∧ Aside0 (wc.heap[gb146]? = some (.cells #[.int .i16 0, .int .i16 0, .int .i16 0, .int .i16 0] 30 (0, 0))) ∧ Aside0 (Below w.heap.size w wc))
 case first =>
  have H := HC4.out
  clear HC4
  replace H := Option.bind_eq_some_iff.mp H
  obtain ⟨t147, A120, H⟩ := H
  replace H : (if t147 = true then ((spec_l00In.f (wrap64 (a2_1)) 0 (wrap64 ((l0_0.length : Int) - 1))).bind fun t148 => (if t148 = true then ((spec_l00In.f (wrap64 (a2_2)) 0 (wrap64 ((l0_0.length : Int) - 1))).bind fun t149 => (if t149 = true then (if a2_0 = 0 then (spec_l02Move.j0 k false l0_0 a0_1 a0_2 a0_3 a0_4 a0_5 a1_0 a1_1 a1_2 a1_3 a2_0 a2_1 a2_2) else (spec_l02Move.j0 k (a2_2 != 0) l0_0 a0_1 a0_2 a0_3 a0_4 a0_5 a1_0 a1_1 a1_2 a1_3 a2_0 a2_1 a2_2)) else (spec_l02Move.j0 k true l0_0 a0_1 a0_2 a0_3 a0_4 a0_5 a1_0 a1_1 a1_2 a1_3 a2_0 a2_1 a2_2))) else (spec_l02Move.j0 k true l0_0 a0_1 a0_2 a0_3 a0_4 a0_5 a1_0 a1_1 a1_2 a1_3 a2_0 a2_1 a2_2))) else (spec_l02Move.j0 k true l0_0 a0_1 a0_2 a0_3 a0_4 a0_5 a1_0 a1_1 a1_2 a1_3 a2_0 a2_1 a2_2)) = some (r1, r2, r3, r4, r5) := H
  have A12 := Aside0.mk A120
  clear A120
  by_cases c13 : t147 = true
  ·subst c13
   have H1 : ((spec_l00In.f (wrap64 (a2_1)) 0 (wrap64 ((l0_0.length : Int) - 1))).bind fun t148 => (if t148 = true then ((spec_l00In.f (wrap64 (a2_2)) 0 (wrap64 ((l0_0.length : Int) - 1))).bind fun t149 => (if t149 = true then (if a2_0 = 0 then (spec_l02Move.j0 k false l0_0 a0_1 a0_2 a0_3 a0_4 a0_5 a1_0 a1_1 a1_2 a1_3 a2_0 a2_1 a2_2) else (spec_l02Move.j0 k (a2_2 != 0) l0_0 a0_1 a0_2 a0_3 a0_4 a0_5 a1_0 a1_1 a1_2 a1_3 a2_0 a2_1 a2_2)) else (spec_l02Move.j0 k true l0_0 a0_1 a0_2 a0_3 a0_4 a0_5 a1_0 a1_1 a1_2 a1_3 a2_0 a2_1 a2_2))) else (spec_l02Move.j0 k true l0_0 a0_1 a0_2 a0_3 a0_4 a0_5 a1_0 a1_1 a1_2 a1_3 a2_0 a2_1 a2_2))) = some (r1, r2, r3, r4, r5) := by rw [if_pos rfl] at H; exact H
   clear H
   have H := H1
   clear H1
   replace H := Option.bind_eq_some_iff.mp H
   obtain ⟨t148, A140, H⟩ := H
   replace H : (if t148 = true then ((spec_l00In.f (wrap64 (a2_2)) 0 (wrap64 ((l0_0.length : Int) - 1))).bind fun t149 => (if t149 = true then (if a2_0 = 0 then (spec_l02Move.j0 k false l0_0 a0_1 a0_2 a0_3 a0_4 a0_5 a1_0 a1_1 a1_2 a1_3 a2_0 a2_1 a2_2) else (spec_l02Move.j0 k (a2_2 != 0) l0_0 a0_1 a0_2 a0_3 a0_4 a0_5 a1_0 a1_1 a1_2 a1_3 a2_0 a2_1 a2_2)) else (spec_l02Move.j0 k true l0_0 a0_1 a0_2 a0_3 a0_4 a0_5 a1_0 a1_1 a1_2 a1_3 a2_0 a2_1 a2_2))) else (spec_l02Move.j0 k true l0_0 a0_1 a0_2 a0_3 a0_4 a0_5 a1_0 a1_1 a1_2 a1_3 a2_0 a2_1 a2_2)) = some (r1, r2, r3, r4, r5) := H
   have A14 := Aside0.mk A140
   clear A140
   by_cases c15 : t148 = true
   ·subst c15
    have H1 : ((spec_l00In.f (wrap64 (a2_2)) 0 (wrap64 ((l0_0.length : Int) - 1))).bind fun t149 => (if t149 = true then (if a2_0 = 0 then (spec_l02Move.j0 k false l0_0 a0_1 a0_2 a0_3 a0_4 a0_5 a1_0 a1_1 a1_2 a1_3 a2_0 a2_1 a2_2) else (spec_l02Move.j0 k (a2_2 != 0) l0_0 a0_1 a0_2 a0_3 a0_4 a0_5 a1_0 a1_1 a1_2 a1_3 a2_0 a2_1 a2_2)) else (spec_l02Move.j0 k true l0_0 a0_1 a0_2 a0_3 a0_4 a0_5 a1_0 a1_1 a1_2 a1_3 a2_0 a2_1 a2_2))) = some (r1, r2, r3, r4, r5) := by rw [if_pos rfl] at H; exact H
    clear H
    have H := H1
    clear H1
    replace H := Option.bind_eq_some_iff.mp H
    obtain ⟨t149, A160, H⟩ := H
    replace H : (if t149 = true then (if a2_0 = 0 then (spec_l02Move.j0 k false l0_0 a0_1 a0_2 a0_3 a0_4 a0_5 a1_0 a1_1 a1_2 a1_3 a2_0 a2_1 a2_2) else (spec_l02Move.j0 k (a2_2 != 0) l0_0 a0_1 a0_2 a0_3 a0_4 a0_5 a1_0 a1_1 a1_2 a1_3 a2_0 a2_1 a2_2)) else (spec_l02Move.j0 k true l0_0 a0_1 a0_2 a0_3 a0_4 a0_5 a1_0 a1_1 a1_2 a1_3 a2_0 a2_1 a2_2)) = some (r1, r2, r3, r4, r5) := H
    have A16 := Aside0.mk A160
    clear A160
    by_cases c17 : t149 = true
    ·subst c17
     have H1 : (if a2_0 = 0 then (spec_l02Move.j0 k false l0_0 a0_1 a0_2 a0_3 a0_4 a0_5 a1_0 a1_1 a1_2 a1_3 a2_0 a2_1 a2_2) else (spec_l02Move.j0 k (a2_2 != 0) l0_0 a0_1 a0_2 a0_3 a0_4 a0_5 a1_0 a1_1 a1_2 a1_3 a2_0 a2_1 a2_2)) = some (r1, r2, r3, r4, r5) := by rw [if_pos rfl] at H; exact H
     clear H
     have H := H1
     clear H1
     by_cases c18 : a2_0 = 0
     ·rw [if_pos c18] at H
      have c18b0 : (a2_0 == 0) = true := beq_iff_eq.mpr c18
      have c18b1 : (a2_0 != 0) = false := bne_eq_false_iff_eq.mpr c18
      clear c18
      (first | rw [c18b0] | (simp only [i64_w, i32_w]; rw [c18b0]) | skip)
      have H' := Aside0.mk H
      clear H
      have hnb19 := NB145_143.out
      have hnc19 := NB143_145.out
      have hnb20 := NB145_144.out
      have hnc20 := NB144_145.out
      have hnb21 := NB145_146.out
      have hnc21 := NB146_145.out
      have hcz22_0 : w7.cell? ⟨gb145, 0, none⟩ = some (.int .i8 a2_0) := (blk_cell BK145.out 0).trans rfl
      have hcz22_1 : w7.cell? ⟨gb145, 1, none⟩ = some (.int .i8 a2_1) := (blk_cell BK145.out 1).trans rfl
      have hcz22_2 : w7.cell? ⟨gb145, 2, none⟩ = some (.int .i8 a2_2) := (blk_cell BK145.out 2).trans rfl
      have hfz22_0 := blk_frozen BK145.out 0
      have hfz22_1 := blk_frozen BK145.out 1
      have hfz22_2 := blk_frozen BK145.out 2
      go_wp2_with (first | ((with_reducible refine gate_callee (f := 77) rfl ?_); refine goesL_ (some 20) rfl rfl Try.func77 (by kernel_rfl) rfl #[.int .i64 (wrap64 (a2_0)), .int .i64 0, .int .i64 2] rfl arg_ ?_; (with_reducible refine (spec_l00In.calls (wrap64 (a2_0)) 0 2 true _ A12.out).mono ?_); rintro e w' ⟨rfl, ⟨nd, rfl⟩⟩; refine ⟨_, rfl, ?_⟩) | (go_at_call 77; (with_reducible refine (spec_l00In.calls (wrap64 (a2_1)) 0 (wrap64 ((l0_0.length : Int) - 1)) true _ A14.out).mono ?_); rintro e w' ⟨rfl, ⟨nd, rfl⟩⟩) | (go_at_call 77; (with_reducible refine (spec_l00In.calls (wrap64 (a2_2)) 0 (wrap64 ((l0_0.length : Int) - 1)) true _ A16.out).mono ?_); rintro e w' ⟨rfl, ⟨nd, rfl⟩⟩))
      go_meet
      case rel => exact ⟨_, (false), rs_, H', ⟨by first | omega | exact Nat.le_refl _⟩, ⟨pl_ BK143⟩, ⟨pl_ BK144⟩, ⟨pl_ BK145⟩, ⟨pl_ BK146⟩, ⟨bl_ HB⟩⟩
     ·rw [if_neg c18] at H
      have c18b0 : (a2_0 == 0) = false := beq_eq_false_iff_ne.mpr c18
      have c18b1 : (a2_0 != 0) = true := bne_iff_ne.mpr c18
      (first | rw [c18b0] | (simp only [i64_w, i32_w]; rw [c18b0]) | skip)
      have H' := Aside0.mk H
      clear H
      have hnb23 := NB145_143.out
      have hnc23 := NB143_145.out
      have hnb24 := NB145_144.out
      have hnc24 := NB144_145.out
      have hnb25 := NB145_146.out
      have hnc25 := NB146_145.out
      have hcz26_0 : w7.cell? ⟨gb145, 0, none⟩ = some (.int .i8 a2_0) := (blk_cell BK145.out 0).trans rfl
      have hcz26_1 : w7.cell? ⟨gb145, 1, none⟩ = some (.int .i8 a2_1) := (blk_cell BK145.out 1).trans rfl
      have hcz26_2 : w7.cell? ⟨gb145, 2, none⟩ = some (.int .i8 a2_2) := (blk_cell BK145.out 2).trans rfl
      have hfz26_0 := blk_frozen BK145.out 0
      have hfz26_1 := blk_frozen BK145.out 1
      have hfz26_2 := blk_frozen BK145.out 2
      go_wp2_with (first | ((with_reducible refine gate_callee (f := 77) rfl ?_); refine goesL_ (some 20) rfl rfl Try.func77 (by kernel_rfl) rfl #[.int .i64 (wrap64 (a2_0)), .int .i64 0, .int .i64 2] rfl arg_ ?_; (with_reducible refine (spec_l00In.calls (wrap64 (a2_0)) 0 2 true _ A12.out).mono ?_); rintro e w' ⟨rfl, ⟨nd, rfl⟩⟩; refine ⟨_, rfl, ?_⟩) | (go_at_call 77; (with_reducible refine (spec_l00In.calls (wrap64 (a2_1)) 0 (wrap64 ((l0_0.length : Int) - 1)) true _ A14.out).mono ?_); rintro e w' ⟨rfl, ⟨nd, rfl⟩⟩) | (go_at_call 77; (with_reducible refine (spec_l00In.calls (wrap64 (a2_2)) 0 (wrap64 ((l0_0.length : Int) - 1)) true _ A16.out).mono ?_); rintro e w' ⟨rfl, ⟨nd, rfl⟩⟩))
      go_meet
      case rel => exact ⟨_, ((a2_2 != 0)), rs_, H', ⟨by first | omega | exact Nat.le_refl _⟩, ⟨pl_ BK143⟩, ⟨pl_ BK144⟩, ⟨pl_ BK145⟩, ⟨pl_ BK146⟩, ⟨bl_ HB⟩⟩
    ·replace c17 := Bool.eq_false_iff.mpr c17
     subst c17
     have H1 : (spec_l02Move.j0 k true l0_0 a0_1 a0_2 a0_3 a0_4 a0_5 a1_0 a1_1 a1_2 a1_3 a2_0 a2_1 a2_2) = some (r1, r2, r3, r4, r5) := by rw [if_neg (show ¬ (false = true) by decide)] at H; exact H
     clear H
     have H := H1
     clear H1
     have H' := Aside0.mk H
     clear H
     have hnb27 := NB145_143.out
     have hnc27 := NB143_145.out
     have hnb28 := NB145_144.out
     have hnc28 := NB144_145.out
     have hnb29 := NB145_146.out
     have hnc29 := NB146_145.out
     have hcz30_0 : w7.cell? ⟨gb145, 0, none⟩ = some (.int .i8 a2_0) := (blk_cell BK145.out 0).trans rfl
     have hcz30_1 : w7.cell? ⟨gb145, 1, none⟩ = some (.int .i8 a2_1) := (blk_cell BK145.out 1).trans rfl
     have hcz30_2 : w7.cell? ⟨gb145, 2, none⟩ = some (.int .i8 a2_2) := (blk_cell BK145.out 2).trans rfl
     have hfz30_0 := blk_frozen BK145.out 0
     have hfz30_1 := blk_frozen BK145.out 1
     have hfz30_2 := blk_frozen BK145.out 2
     go_wp2_with (first | ((with_reducible refine gate_callee (f := 77) rfl ?_); refine goesL_ (some 20) rfl rfl Try.func77 (by kernel_rfl) rfl #[.int .i64 (wrap64 (a2_0)), .int .i64 0, .int .i64 2] rfl arg_ ?_; (with_reducible refine (spec_l00In.calls (wrap64 (a2_0)) 0 2 true _ A12.out).mono ?_); rintro e w' ⟨rfl, ⟨nd, rfl⟩⟩; refine ⟨_, rfl, ?_⟩) | (go_at_call 77; (with_reducible refine (spec_l00In.calls (wrap64 (a2_1)) 0 (wrap64 ((l0_0.length : Int) - 1)) true _ A14.out).mono ?_); rintro e w' ⟨rfl, ⟨nd, rfl⟩⟩) | (go_at_call 77; (with_reducible refine (spec_l00In.calls (wrap64 (a2_2)) 0 (wrap64 ((l0_0.length : Int) - 1)) false _ A16.out).mono ?_); rintro e w' ⟨rfl, ⟨nd, rfl⟩⟩))
     go_meet
     case rel => exact ⟨_, (true), rs_, H', ⟨by first | omega | exact Nat.le_refl _⟩, ⟨pl_ BK143⟩, ⟨pl_ BK144⟩, ⟨pl_ BK145⟩, ⟨pl_ BK146⟩, ⟨bl_ HB⟩⟩
   ·replace c15 := Bool.eq_false_iff.mpr c15
    subst c15
    have H1 : (spec_l02Move.j0 k true l0_0 a0_1 a0_2 a0_3 a0_4 a0_5 a1_0 a1_1 a1_2 a1_3 a2_0 a2_1 a2_2) = some (r1, r2, r3, r4, r5) := by rw [if_neg (show ¬ (false = true) by decide)] at H; exact H
    clear H
    have H := H1
    clear H1
    have H' := Aside0.mk H
    clear H
    have hnb31 := NB145_143.out
    have hnc31 := NB143_145.out
    have hnb32 := NB145_144.out
    have hnc32 := NB144_145.out
    have hnb33 := NB145_146.out
    have hnc33 := NB146_145.out
    have hcz34_0 : w7.cell? ⟨gb145, 0, none⟩ = some (.int .i8 a2_0) := (blk_cell BK145.out 0).trans rfl
    have hcz34_1 : w7.cell? ⟨gb145, 1, none⟩ = some (.int .i8 a2_1) := (blk_cell BK145.out 1).trans rfl
    have hcz34_2 : w7.cell? ⟨gb145, 2, none⟩ = some (.int .i8 a2_2) := (blk_cell BK145.out 2).trans rfl
    have hfz34_0 := blk_frozen BK145.out 0
    have hfz34_1 := blk_frozen BK145.out 1
    have hfz34_2 := blk_frozen BK145.out 2
    go_wp2_with (first | ((with_reducible refine gate_callee (f := 77) rfl ?_); refine goesL_ (some 20) rfl rfl Try.func77 (by kernel_rfl) rfl #[.int .i64 (wrap64 (a2_0)), .int .i64 0, .int .i64 2] rfl arg_ ?_; (with_reducible refine (spec_l00In.calls (wrap64 (a2_0)) 0 2 true _ A12.out).mono ?_); rintro e w' ⟨rfl, ⟨nd, rfl⟩⟩; refine ⟨_, rfl, ?_⟩) | (go_at_call 77; (with_reducible refine (spec_l00In.calls (wrap64 (a2_1)) 0 (wrap64 ((l0_0.length : Int) - 1)) false _ A14.out).mono ?_); rintro e w' ⟨rfl, ⟨nd, rfl⟩⟩))
    go_meet
    case rel => exact ⟨_, (true), rs_, H', ⟨by first | omega | exact Nat.le_refl _⟩, ⟨pl_ BK143⟩, ⟨pl_ BK144⟩, ⟨pl_ BK145⟩, ⟨pl_ BK146⟩, ⟨bl_ HB⟩⟩
  ·replace c13 := Bool.eq_false_iff.mpr c13
   subst c13
   have H1 : (spec_l02Move.j0 k true l0_0 a0_1 a0_2 a0_3 a0_4 a0_5 a1_0 a1_1 a1_2 a1_3 a2_0 a2_1 a2_2) = some (r1, r2, r3, r4, r5) := by rw [if_neg (show ¬ (false = true) by decide)] at H; exact H
   clear H
   have H := H1
   clear H1
   have H' := Aside0.mk H
   clear H
   have hnb35 := NB145_143.out
   have hnc35 := NB143_145.out
   have hnb36 := NB145_144.out
   have hnc36 := NB144_145.out
   have hnb37 := NB145_146.out
   have hnc37 := NB146_145.out
   have hcz38_0 : w7.cell? ⟨gb145, 0, none⟩ = some (.int .i8 a2_0) := (blk_cell BK145.out 0).trans rfl
   have hcz38_1 : w7.cell? ⟨gb145, 1, none⟩ = some (.int .i8 a2_1) := (blk_cell BK145.out 1).trans rfl
   have hcz38_2 : w7.cell? ⟨gb145, 2, none⟩ = some (.int .i8 a2_2) := (blk_cell BK145.out 2).trans rfl
   have hfz38_0 := blk_frozen BK145.out 0
   have hfz38_1 := blk_frozen BK145.out 1
   have hfz38_2 := blk_frozen BK145.out 2
   go_wp2_with (first | ((with_reducible refine gate_callee (f := 77) rfl ?_); refine goesL_ (some 20) rfl rfl Try.func77 (by kernel_rfl) rfl #[.int .i64 (wrap64 (a2_0)), .int .i64 0, .int .i64 2] rfl arg_ ?_; (with_reducible refine (spec_l00In.calls (wrap64 (a2_0)) 0 2 false _ A12.out).mono ?_); rintro e w' ⟨rfl, ⟨nd, rfl⟩⟩; refine ⟨_, rfl, ?_⟩))
   go_meet
   case rel => exact ⟨_, (true), rs_, H', ⟨by first | omega | exact Nat.le_refl _⟩, ⟨pl_ BK143⟩, ⟨pl_ BK144⟩, ⟨pl_ BK145⟩, ⟨pl_ BK146⟩, ⟨bl_ HB⟩⟩
 case rest =>
  clear HC4
  try clear c1
  try clear c2
  try clear p2
  try clear c3
  try clear p6
  try clear c7
  try clear c8
  try clear c9
  try clear c10
  try clear c13
  try clear c15
  try clear c17
  try clear c18
  try clear c18b0
  try clear c18b1
  try clear c19
  try clear c20
  try clear c21
  try clear c23
  try clear c24
  try clear c25
  try clear c27
  try clear c28
  try clear c29
  try clear c31
  try clear c32
  try clear c33
  try clear c35
  try clear c36
  try clear c37
  try clear hcz11_0
  try clear hcz11_1
  try clear hcz11_2
  try clear hcz11_3
  try clear hcz11_4
  try clear hcz11_5
  try clear hcz22_0
  try clear hcz22_1
  try clear hcz22_2
  try clear hcz26_0
  try clear hcz26_1
  try clear hcz26_2
  try clear hcz30_0
  try clear hcz30_1
  try clear hcz30_2
  try clear hcz34_0
  try clear hcz34_1
  try clear hcz34_2
  try clear hcz38_0
  try clear hcz38_1
  try clear hcz38_2
  try clear hfz11_0
  try clear hfz11_1
  try clear hfz11_2
  try clear hfz11_3
  try clear hfz11_4
  try clear hfz11_5
  try clear hfz22_0
  try clear hfz22_1
  try clear hfz22_2
  try clear hfz26_0
  try clear hfz26_1
  try clear hfz26_2
  try clear hfz30_0
  try clear hfz30_1
  try clear hfz30_2
  try clear hfz34_0
  try clear hfz34_1
  try clear hfz34_2
  try clear hfz38_0
  try clear hfz38_1
  try clear hfz38_2
  obtain ⟨kq, x47_3, rfl, HA, HJ3, BK143, BK144, BK145, BK146, HB⟩ := hcut
  cases kq with
  | zero => exact absurd HA.out (by simp [spec_l02Move.j0])
  | succ kj3 =>
   have H := HA.out
   clear HA
   simp only [spec_l02Move.j0] at H
   by_cases c39 : x47_3 = true
   ·subst c39
    have H1 : (some (0, 0, 0, 0, 2)) = some (r1, r2, r3, r4, r5) := by rw [if_pos rfl] at H; exact H
    clear H
    have H := H1
    clear H1
    simp only [Option.some.injEq, Prod.mk.injEq] at H
    obtain ⟨rfl, rfl, rfl, rfl, rfl⟩ := H
    have hnb40 := NB146_143.out
    have hnc40 := NB143_146.out
    have hnb41 := NB146_144.out
    have hnc41 := NB144_146.out
    have hnb42 := NB146_145.out
    have hnc42 := NB145_146.out
    have hcz43_0 : wc.cell? ⟨gb146, 0, none⟩ = some (.int .i16 0) := (blk_cell BK146.out 0).trans rfl
    have hcz43_1 : wc.cell? ⟨gb146, 1, none⟩ = some (.int .i16 0) := (blk_cell BK146.out 1).trans rfl
    have hcz43_2 : wc.cell? ⟨gb146, 2, none⟩ = some (.int .i16 0) := (blk_cell BK146.out 2).trans rfl
    have hcz43_3 : wc.cell? ⟨gb146, 3, none⟩ = some (.int .i16 0) := (blk_cell BK146.out 3).trans rfl
    have hfz43_0 := blk_frozen BK146.out 0
    have hfz43_1 := blk_frozen BK146.out 1
    have hfz43_2 := blk_frozen BK146.out 2
    have hfz43_3 := blk_frozen BK146.out 3
    go_wp2
    refine bodyPost_ret (results_ct rfl _ _ gb146 30 #[.int .i16 0, .int .i16 0, .int .i16 0, .int .i16 0] (0, 0) _ rfl (by (with_reducible repeat (first | refine blk_drewN ?_ _ | refine blk_drew ?_ | refine blk_alloc ?_ _)); refine blk_put (cs := #[.int .i16 0, .int .i16 0, .int .i16 0, .int .i16 0]) ?_ 3 _ rfl; (with_reducible repeat (first | refine blk_drewN ?_ _ | refine blk_drew ?_ | refine blk_alloc ?_ _)); refine blk_put (cs := #[.int .i16 0, .int .i16 0, .int .i16 0, .int .i16 0]) ?_ 2 _ rfl; (with_reducible repeat (first | refine blk_drewN ?_ _ | refine blk_drew ?_ | refine blk_alloc ?_ _)); refine blk_put (cs := #[.int .i16 0, .int .i16 0, .int .i16 0, .int .i16 0]) ?_ 1 _ rfl; (with_reducible repeat (first | refine blk_drewN ?_ _ | refine blk_drew ?_ | refine blk_alloc ?_ _)); refine blk_put (cs := #[.int .i16 0, .int .i16 0, .int .i16 0, .int .i16 0]) ?_ 0 _ rfl; (with_reducible repeat (first | refine blk_drewN ?_ _ | refine blk_drew ?_ | refine blk_alloc ?_ _)); exact BK146.out) Try.underlying30 rfl (by kernel_rfl)) rfl ?_
    exact ⟨by first | rfl | (simp [errW_none, errW_some] <;> rfl) | (simp [*, errW_none, errW_some] <;> rfl), bs_ HB GE146⟩
   ·replace c39 := Bool.eq_false_iff.mpr c39
    subst c39
    have H1 : (if a2_0 = 0 then (if a2_1 = a2_2 then (spec_l02Move.j1 kj3 true l0_0 a0_1 a0_2 a0_3 a0_4 a0_5 a1_0 a1_1 a1_2 a1_3 a2_0 a2_1 a2_2) else (spec_l02Move.j1 kj3 false l0_0 a0_1 a0_2 a0_3 a0_4 a0_5 a1_0 a1_1 a1_2 a1_3 a2_0 a2_1 a2_2)) else (spec_l02Move.j1 kj3 (!a0_5) l0_0 a0_1 a0_2 a0_3 a0_4 a0_5 a1_0 a1_1 a1_2 a1_3 a2_0 a2_1 a2_2)) = some (r1, r2, r3, r4, r5) := by rw [if_neg (show ¬ (false = true) by decide)] at H; exact H
    clear H
    have H := H1
    clear H1
    have HC44 := Aside0.mk H
    clear H
    go_upto_region 4 with (fail)
    go_cut [70] (fun v70 wc => ∃ (kq : Nat) (x70_43 : Bool), v70 = .bool x70_43 ∧ Aside0 (spec_l02Move.j1 kq x70_43 l0_0 a0_1 a0_2 a0_3 a0_4 a0_5 a1_0 a1_1 a1_2 a1_3 a2_0 a2_1 a2_2 = some (r1, r2, r3, r4, r5)) ∧ Aside0 (kq ≤ kj3) ∧ Aside0 (wc.heap[gp0]? = some (.cells #[(.slice A0_0 l0_0.length c0_0), .int .i16 a0_1, .int .i16 a0_2, .int .i16 a0_3, .int .i16 a0_4, .bool a0_5] 32 (0, 0))) ∧ Aside0 (wc.heap[gb144]? = some (.cells #[.int .i16 a1_0, .int .i16 a1_1, .int .i16 a1_2, .int .i16 a1_3] 30 (0, 0))) ∧ Aside0 (wc.heap[gb145]? = some (.cells #[.int .i8 a2_0, .int .i8 a2_1, .int .i8 a2_2] 60 (0, 0))) ∧ Aside0 (wc.heap[gb146]? = some (.cells #[.int .i16 0, .int .i16 0, .int .i16 0, .int .i16 0] 30 (0, 0))) ∧ Aside0 (Below w.heap.size w wc))
    case first =>
     have H := HC44.out
     clear HC44
     by_cases c45 : a2_0 = 0
     ·rw [if_pos c45] at H
      have c45b0 : (a2_0 == 0) = true := beq_iff_eq.mpr c45
      have c45b1 : (a2_0 != 0) = false := bne_eq_false_iff_eq.mpr c45
      clear c45
      (first | rw [c45b0] | (simp only [i64_w, i32_w]; rw [c45b0]) | skip)
      by_cases c46 : a2_1 = a2_2
      ·rw [if_pos c46] at H
       have c46b0 : (a2_1 == a2_2) = true := beq_iff_eq.mpr c46
       have c46b1 : (a2_1 != a2_2) = false := bne_eq_false_iff_eq.mpr c46
       clear c46
       have H' := Aside0.mk H
       clear H
       have hnb47 := NB145_143.out
       have hnc47 := NB143_145.out
       have hnb48 := NB145_144.out
       have hnc48 := NB144_145.out
       have hnb49 := NB145_146.out
       have hnc49 := NB146_145.out
       have hcz50_0 : wc.cell? ⟨gb145, 0, none⟩ = some (.int .i8 a2_0) := (blk_cell BK145.out 0).trans rfl
       have hcz50_1 : wc.cell? ⟨gb145, 1, none⟩ = some (.int .i8 a2_1) := (blk_cell BK145.out 1).trans rfl
       have hcz50_2 : wc.cell? ⟨gb145, 2, none⟩ = some (.int .i8 a2_2) := (blk_cell BK145.out 2).trans rfl
       have hfz50_0 := blk_frozen BK145.out 0
       have hfz50_1 := blk_frozen BK145.out 1
       have hfz50_2 := blk_frozen BK145.out 2
       go_wp2
       go_meet
       case rel => exact ⟨_, (true), rs_, H', ⟨by have := HJ3.out; first | omega | exact Nat.le_refl _⟩, ⟨pl_ BK143⟩, ⟨pl_ BK144⟩, ⟨pl_ BK145⟩, ⟨pl_ BK146⟩, ⟨bl_ HB⟩⟩
      ·rw [if_neg c46] at H
       have c46b0 : (a2_1 == a2_2) = false := beq_eq_false_iff_ne.mpr c46
       have c46b1 : (a2_1 != a2_2) = true := bne_iff_ne.mpr c46
       have H' := Aside0.mk H
       clear H
       have hnb51 := NB145_143.out
       have hnc51 := NB143_145.out
       have hnb52 := NB145_144.out
       have hnc52 := NB144_145.out
       have hnb53 := NB145_146.out
       have hnc53 := NB146_145.out
       have hcz54_0 : wc.cell? ⟨gb145, 0, none⟩ = some (.int .i8 a2_0) := (blk_cell BK145.out 0).trans rfl
       have hcz54_1 : wc.cell? ⟨gb145, 1, none⟩ = some (.int .i8 a2_1) := (blk_cell BK145.out 1).trans rfl
       have hcz54_2 : wc.cell? ⟨gb145, 2, none⟩ = some (.int .i8 a2_2) := (blk_cell BK145.out 2).trans rfl
       have hfz54_0 := blk_frozen BK145.out 0
       have hfz54_1 := blk_frozen BK145.out 1
       have hfz54_2 := blk_frozen BK145.out 2
       go_wp2
       go_meet
       case rel => exact ⟨_, (false), rs_, H', ⟨by have := HJ3.out; first | omega | exact Nat.le_refl _⟩, ⟨pl_ BK143⟩, ⟨pl_ BK144⟩, ⟨pl_ BK145⟩, ⟨pl_ BK146⟩, ⟨bl_ HB⟩⟩
     ·rw [if_neg c45] at H
      have c45b0 : (a2_0 == 0) = false := beq_eq_false_iff_ne.mpr c45
      have c45b1 : (a2_0 != 0) = true := bne_iff_ne.mpr c45
      (first | rw [c45b0] | (simp only [i64_w, i32_w]; rw [c45b0]) | skip)
      have H' := Aside0.mk H
      clear H
      have hnb55 := NB145_143.out
      have hnc55 := NB143_145.out
      have hnb56 := NB145_144.out
      have hnc56 := NB144_145.out
      have hnb57 := NB145_146.out
      have hnc57 := NB146_145.out
      have hcz58_0 : wc.cell? ⟨gb145, 0, none⟩ = some (.int .i8 a2_0) := (blk_cell BK145.out 0).trans rfl
      have hcz58_1 : wc.cell? ⟨gb145, 1, none⟩ = some (.int .i8 a2_1) := (blk_cell BK145.out 1).trans rfl
      have hcz58_2 : wc.cell? ⟨gb145, 2, none⟩ = some (.int .i8 a2_2) := (blk_cell BK145.out 2).trans rfl
      have hfz58_0 := blk_frozen BK145.out 0
      have hfz58_1 := blk_frozen BK145.out 1
      have hfz58_2 := blk_frozen BK145.out 2
      have hnb59 := NB143_144.out
      have hnc59 := NB144_143.out
      have hnb60 := NB143_146.out
      have hnc60 := NB146_143.out
      have hcz61_0 : wc.cell? ⟨gp0, 0, none⟩ = some (.slice A0_0 l0_0.length c0_0) := (blk_cell BK143.out 0).trans rfl
      have hcz61_1 : wc.cell? ⟨gp0, 1, none⟩ = some (.int .i16 a0_1) := (blk_cell BK143.out 1).trans rfl
      have hcz61_2 : wc.cell? ⟨gp0, 2, none⟩ = some (.int .i16 a0_2) := (blk_cell BK143.out 2).trans rfl
      have hcz61_3 : wc.cell? ⟨gp0, 3, none⟩ = some (.int .i16 a0_3) := (blk_cell BK143.out 3).trans rfl
      have hcz61_4 : wc.cell? ⟨gp0, 4, none⟩ = some (.int .i16 a0_4) := (blk_cell BK143.out 4).trans rfl
      have hcz61_5 : wc.cell? ⟨gp0, 5, none⟩ = some (.bool a0_5) := (blk_cell BK143.out 5).trans rfl
      have hfz61_0 := blk_frozen BK143.out 0
      have hfz61_1 := blk_frozen BK143.out 1
      have hfz61_2 := blk_frozen BK143.out 2
      have hfz61_3 := blk_frozen BK143.out 3
      have hfz61_4 := blk_frozen BK143.out 4
      have hfz61_5 := blk_frozen BK143.out 5
      go_wp2
      go_meet
      case rel => exact ⟨_, (!a0_5), rs_, H', ⟨by have := HJ3.out; first | omega | exact Nat.le_refl _⟩, ⟨pl_ BK143⟩, ⟨pl_ BK144⟩, ⟨pl_ BK145⟩, ⟨pl_ BK146⟩, ⟨bl_ HB⟩⟩
    case rest =>
     clear HC44
     try clear c1
     try clear c2
     try clear p2
     try clear c3
     try clear c4
     try clear c5
     try clear c6
     try clear p6
     try clear c7
     try clear c8
     try clear c9
     try clear c10
     try clear c13
     try clear c15
     try clear c17
     try clear c18
     try clear c18b0
     try clear c18b1
     try clear c19
     try clear c20
     try clear c21
     try clear c23
     try clear c24
     try clear c25
     try clear c27
     try clear c28
     try clear c29
     try clear c31
     try clear c32
     try clear c33
     try clear c35
     try clear c36
     try clear c37
     try clear c39
     try clear c40
     try clear c41
     try clear c42
     try clear c45
     try clear c45b0
     try clear c45b1
     try clear c46
     try clear c46b0
     try clear c46b1
     try clear c47
     try clear c48
     try clear c49
     try clear c51
     try clear c52
     try clear c53
     try clear c55
     try clear c56
     try clear c57
     try clear c59
     try clear c60
     try clear hcz11_0
     try clear hcz11_1
     try clear hcz11_2
     try clear hcz11_3
     try clear hcz11_4
     try clear hcz11_5
     try clear hcz22_0
     try clear hcz22_1
     try clear hcz22_2
     try clear hcz26_0
     try clear hcz26_1
     try clear hcz26_2
     try clear hcz30_0
     try clear hcz30_1
     try clear hcz30_2
     try clear hcz34_0
     try clear hcz34_1
     try clear hcz34_2
     try clear hcz38_0
     try clear hcz38_1
     try clear hcz38_2
     try clear hcz43_0
     try clear hcz43_1
     try clear hcz43_2
     try clear hcz43_3
     try clear hcz50_0
     try clear hcz50_1
     try clear hcz50_2
     try clear hcz54_0
     try clear hcz54_1
     try clear hcz54_2
     try clear hcz58_0
     try clear hcz58_1
     try clear hcz58_2
     try clear hcz61_0
     try clear hcz61_1
     try clear hcz61_2
     try clear hcz61_3
     try clear hcz61_4
     try clear hcz61_5
     try clear hfz11_0
     try clear hfz11_1
     try clear hfz11_2
     try clear hfz11_3
     try clear hfz11_4
     try clear hfz11_5
     try clear hfz22_0
     try clear hfz22_1
     try clear hfz22_2
     try clear hfz26_0
     try clear hfz26_1
     try clear hfz26_2
     try clear hfz30_0
     try clear hfz30_1
     try clear hfz30_2
     try clear hfz34_0
     try clear hfz34_1
     try clear hfz34_2
     try clear hfz38_0
     try clear hfz38_1
     try clear hfz38_2
     try clear hfz43_0
     try clear hfz43_1
     try clear hfz43_2
     try clear hfz43_3
     try clear hfz50_0
     try clear hfz50_1
     try clear hfz50_2
     try clear hfz54_0
     try clear hfz54_1
     try clear hfz54_2
     try clear hfz58_0
     try clear hfz58_1
     try clear hfz58_2
     try clear hfz61_0
     try clear hfz61_1
     try clear hfz61_2
     try clear hfz61_3
     try clear hfz61_4
     try clear hfz61_5
     try clear p2
     try clear p6
     obtain ⟨kq, x70_43, rfl, HA, HJ43, BK143, BK144, BK145, BK146, HB⟩ := hcut
     cases kq with
     | zero => exact absurd HA.out (by simp [spec_l02Move.j1])
     | succ kj43 =>
      have H := HA.out
      clear HA
      simp only [spec_l02Move.j1] at H
      by_cases c62 : x70_43 = true
      ·subst c62
       have H1 : (some (0, 0, 0, 0, 4)) = some (r1, r2, r3, r4, r5) := by rw [if_pos rfl] at H; exact H
       clear H
       have H := H1
       clear H1
       simp only [Option.some.injEq, Prod.mk.injEq] at H
       obtain ⟨rfl, rfl, rfl, rfl, rfl⟩ := H
       have hnb63 := NB146_143.out
       have hnc63 := NB143_146.out
       have hnb64 := NB146_144.out
       have hnc64 := NB144_146.out
       have hnb65 := NB146_145.out
       have hnc65 := NB145_146.out
       have hcz66_0 : wc.cell? ⟨gb146, 0, none⟩ = some (.int .i16 0) := (blk_cell BK146.out 0).trans rfl
       have hcz66_1 : wc.cell? ⟨gb146, 1, none⟩ = some (.int .i16 0) := (blk_cell BK146.out 1).trans rfl
       have hcz66_2 : wc.cell? ⟨gb146, 2, none⟩ = some (.int .i16 0) := (blk_cell BK146.out 2).trans rfl
       have hcz66_3 : wc.cell? ⟨gb146, 3, none⟩ = some (.int .i16 0) := (blk_cell BK146.out 3).trans rfl
       have hfz66_0 := blk_frozen BK146.out 0
       have hfz66_1 := blk_frozen BK146.out 1
       have hfz66_2 := blk_frozen BK146.out 2
       have hfz66_3 := blk_frozen BK146.out 3
       go_wp2
       refine bodyPost_ret (results_ct rfl _ _ gb146 30 #[.int .i16 0, .int .i16 0, .int .i16 0, .int .i16 0] (0, 0) _ rfl (by (with_reducible repeat (first | refine blk_drewN ?_ _ | refine blk_drew ?_ | refine blk_alloc ?_ _)); refine blk_put (cs := #[.int .i16 0, .int .i16 0, .int .i16 0, .int .i16 0]) ?_ 3 _ rfl; (with_reducible repeat (first | refine blk_drewN ?_ _ | refine blk_drew ?_ | refine blk_alloc ?_ _)); refine blk_put (cs := #[.int .i16 0, .int .i16 0, .int .i16 0, .int .i16 0]) ?_ 2 _ rfl; (with_reducible repeat (first | refine blk_drewN ?_ _ | refine blk_drew ?_ | refine blk_alloc ?_ _)); refine blk_put (cs := #[.int .i16 0, .int .i16 0, .int .i16 0, .int .i16 0]) ?_ 1 _ rfl; (with_reducible repeat (first | refine blk_drewN ?_ _ | refine blk_drew ?_ | refine blk_alloc ?_ _)); refine blk_put (cs := #[.int .i16 0, .int .i16 0, .int .i16 0, .int .i16 0]) ?_ 0 _ rfl; (with_reducible repeat (first | refine blk_drewN ?_ _ | refine blk_drew ?_ | refine blk_alloc ?_ _)); exact BK146.out) Try.underlying30 rfl (by kernel_rfl)) rfl ?_
       exact ⟨by first | rfl | (simp [errW_none, errW_some] <;> rfl) | (simp [*, errW_none, errW_some] <;> rfl), bs_ HB GE146⟩
      ·replace c62 := Bool.eq_false_iff.mpr c62
       subst c62
       have H1 : (if a2_0 = 0 then (if 0 ≤ a2_1 then (if a2_1 < 4 then (if 0 ≤ a2_2 then (if a2_2 < (l0_0.length : Int) then (if a2_2 < 4 then ((spec_l00Min.f (wrap64 (rd [a1_0, a1_1, a1_2, a1_3] a2_1)) (wrap64 (IntKind.i16.wrap ((rd l0_0 a2_2) - (rd [a1_0, a1_1, a1_2, a1_3] a2_2))))).bind fun t152 => (spec_l02Move.j2 kj43 a1_0 a1_1 a1_2 a1_3 (aup a2_2 0 (IntKind.i16.wrap ((rd [aup a2_1 0 (IntKind.i16.wrap ((rd [a1_0, a1_1, a1_2, a1_3] a2_1) - (IntKind.i16.wrap (t152)))) a1_0, aup a2_1 1 (IntKind.i16.wrap ((rd [a1_0, a1_1, a1_2, a1_3] a2_1) - (IntKind.i16.wrap (t152)))) a1_1, aup a2_1 2 (IntKind.i16.wrap ((rd [a1_0, a1_1, a1_2, a1_3] a2_1) - (IntKind.i16.wrap (t152)))) a1_2, aup a2_1 3 (IntKind.i16.wrap ((rd [a1_0, a1_1, a1_2, a1_3] a2_1) - (IntKind.i16.wrap (t152)))) a1_3] a2_2) + (IntKind.i16.wrap (t152)))) (aup a2_1 0 (IntKind.i16.wrap ((rd [a1_0, a1_1, a1_2, a1_3] a2_1) - (IntKind.i16.wrap (t152)))) a1_0)) (aup a2_2 1 (IntKind.i16.wrap ((rd [aup a2_1 0 (IntKind.i16.wrap ((rd [a1_0, a1_1, a1_2, a1_3] a2_1) - (IntKind.i16.wrap (t152)))) a1_0, aup a2_1 1 (IntKind.i16.wrap ((rd [a1_0, a1_1, a1_2, a1_3] a2_1) - (IntKind.i16.wrap (t152)))) a1_1, aup a2_1 2 (IntKind.i16.wrap ((rd [a1_0, a1_1, a1_2, a1_3] a2_1) - (IntKind.i16.wrap (t152)))) a1_2, aup a2_1 3 (IntKind.i16.wrap ((rd [a1_0, a1_1, a1_2, a1_3] a2_1) - (IntKind.i16.wrap (t152)))) a1_3] a2_2) + (IntKind.i16.wrap (t152)))) (aup a2_1 1 (IntKind.i16.wrap ((rd [a1_0, a1_1, a1_2, a1_3] a2_1) - (IntKind.i16.wrap (t152)))) a1_1)) (aup a2_2 2 (IntKind.i16.wrap ((rd [aup a2_1 0 (IntKind.i16.wrap ((rd [a1_0, a1_1, a1_2, a1_3] a2_1) - (IntKind.i16.wrap (t152)))) a1_0, aup a2_1 1 (IntKind.i16.wrap ((rd [a1_0, a1_1, a1_2, a1_3] a2_1) - (IntKind.i16.wrap (t152)))) a1_1, aup a2_1 2 (IntKind.i16.wrap ((rd [a1_0, a1_1, a1_2, a1_3] a2_1) - (IntKind.i16.wrap (t152)))) a1_2, aup a2_1 3 (IntKind.i16.wrap ((rd [a1_0, a1_1, a1_2, a1_3] a2_1) - (IntKind.i16.wrap (t152)))) a1_3] a2_2) + (IntKind.i16.wrap (t152)))) (aup a2_1 2 (IntKind.i16.wrap ((rd [a1_0, a1_1, a1_2, a1_3] a2_1) - (IntKind.i16.wrap (t152)))) a1_2)) (aup a2_2 3 (IntKind.i16.wrap ((rd [aup a2_1 0 (IntKind.i16.wrap ((rd [a1_0, a1_1, a1_2, a1_3] a2_1) - (IntKind.i16.wrap (t152)))) a1_0, aup a2_1 1 (IntKind.i16.wrap ((rd [a1_0, a1_1, a1_2, a1_3] a2_1) - (IntKind.i16.wrap (t152)))) a1_1, aup a2_1 2 (IntKind.i16.wrap ((rd [a1_0, a1_1, a1_2, a1_3] a2_1) - (IntKind.i16.wrap (t152)))) a1_2, aup a2_1 3 (IntKind.i16.wrap ((rd [a1_0, a1_1, a1_2, a1_3] a2_1) - (IntKind.i16.wrap (t152)))) a1_3] a2_2) + (IntKind.i16.wrap (t152)))) (aup a2_1 3 (IntKind.i16.wrap ((rd [a1_0, a1_1, a1_2, a1_3] a2_1) - (IntKind.i16.wrap (t152)))) a1_3)))) else (none)) else (none)) else (none)) else (none)) else (none)) else (if a2_0 = 1 then (if 0 ≤ a2_1 then (if a2_1 < (l0_0.length : Int) then (if a2_1 < 4 then (spec_l02Move.j2 kj43 a1_0 a1_1 a1_2 a1_3 (aup a2_1 0 (rd l0_0 a2_1) a1_0) (aup a2_1 1 (rd l0_0 a2_1) a1_1) (aup a2_1 2 (rd l0_0 a2_1) a1_2) (aup a2_1 3 (rd l0_0 a2_1) a1_3)) else (none)) else (none)) else (none)) else (if a2_0 = 2 then (if 0 ≤ a2_1 then (if a2_1 < 4 then (spec_l02Move.j2 kj43 a1_0 a1_1 a1_2 a1_3 (aup a2_1 0 0 a1_0) (aup a2_1 1 0 a1_1) (aup a2_1 2 0 a1_2) (aup a2_1 3 0 a1_3)) else (none)) else (none)) else (spec_l02Move.j2 kj43 a1_0 a1_1 a1_2 a1_3 a1_0 a1_1 a1_2 a1_3)))) = some (r1, r2, r3, r4, r5) := by rw [if_neg (show ¬ (false = true) by decide)] at H; exact H
       clear H
       have H := H1
       clear H1
       have HC67 := Aside0.mk H
       clear H
       have hnb68 := NB144_143.out
       have hnc68 := NB143_144.out
       have hnb69 := NB144_145.out
       have hnc69 := NB145_144.out
       have hnb70 := NB144_146.out
       have hnc70 := NB146_144.out
       have hcz71_0 : wc.cell? ⟨gb144, 0, none⟩ = some (.int .i16 a1_0) := (blk_cell BK144.out 0).trans rfl
       have hcz71_1 : wc.cell? ⟨gb144, 1, none⟩ = some (.int .i16 a1_1) := (blk_cell BK144.out 1).trans rfl
       have hcz71_2 : wc.cell? ⟨gb144, 2, none⟩ = some (.int .i16 a1_2) := (blk_cell BK144.out 2).trans rfl
       have hcz71_3 : wc.cell? ⟨gb144, 3, none⟩ = some (.int .i16 a1_3) := (blk_cell BK144.out 3).trans rfl
       have hfz71_0 := blk_frozen BK144.out 0
       have hfz71_1 := blk_frozen BK144.out 1
       have hfz71_2 := blk_frozen BK144.out 2
       have hfz71_3 := blk_frozen BK144.out 3
       go_upto_block 0 with (first | ((with_reducible refine gate_dst (N := 9) rfl ?_); refine box_event ?hg (N := 9) ?hd (cs := #[.int .i16 0, .int .i16 0, .int .i16 0, .int .i16 0]) (t := 30) ?hr ?_; (case hd => rfl); (case hg => rfl); (case hr => first | (go_simp; done) | (go_simp; rfl)); intro gb150 hg w72 hbox hb; have n0_ := A_ (blk_below (pl_ BK143) hb); have n1_ := A_ (blk_below (pl_ BK144) hb); have n2_ := A_ (blk_below (pl_ BK145) hb); have n3_ := A_ (blk_below (pl_ BK146) hb); have n4_ := A_ (below_step (bl_ HB) hb); have n5_ := A_ (hbox); have n6_ := A_ ((by rw [hg]; exact (below_size (bl_ HB)) : w.heap.size ≤ gb150)); have n7_ := n6_; have n8_ := A_ ((by rw [hg]; exact Nat.ne_of_lt (blk_lt (pl_ BK143)) : gp0 ≠ gb150)); have n9_ := Aside0.mk n8_.out.symm; have n10_ := A_ ((by rw [hg]; exact Nat.ne_of_lt (blk_lt (pl_ BK144)) : gb144 ≠ gb150)); have n11_ := Aside0.mk n10_.out.symm; have n12_ := A_ ((by rw [hg]; exact Nat.ne_of_lt (blk_lt (pl_ BK145)) : gb145 ≠ gb150)); have n13_ := Aside0.mk n12_.out.symm; have n14_ := A_ ((by rw [hg]; exact Nat.ne_of_lt (blk_lt (pl_ BK146)) : gb146 ≠ gb150)); have n15_ := Aside0.mk n14_.out.symm; clear BK143; clear BK144; clear BK145; clear BK146; clear HB; have BK143 := n0_; have BK144 := n1_; have BK145 := n2_; have BK146 := n3_; have HB := n4_; have BK150 := n5_; have GW150 := n6_; have GE150 := n7_; have NB143_150 := n8_; have NB150_143 := n9_; have NB144_150 := n10_; have NB150_144 := n11_; have NB145_150 := n12_; have NB150_145 := n13_; have NB146_150 := n14_; have NB150_146 := n15_; clear n0_ n1_ n2_ n3_ n4_ n5_ n6_ n7_ n8_ n9_ n10_ n11_ n12_ n13_ n14_ n15_; clear hb hbox hg; have hnb73 := NB150_143.out; have hnc73 := NB143_150.out; have hnb74 := NB150_144.out; have hnc74 := NB144_150.out; have hnb75 := NB150_145.out; have hnc75 := NB145_150.out; have hnb76 := NB150_146.out; have hnc76 := NB146_150.out; have hcz77_0 : w72.cell? ⟨gb150, 0, none⟩ = some (.int .i16 0) := (blk_cell BK150.out 0).trans rfl; have hcz77_1 : w72.cell? ⟨gb150, 1, none⟩ = some (.int .i16 0) := (blk_cell BK150.out 1).trans rfl; have hcz77_2 : w72.cell? ⟨gb150, 2, none⟩ = some (.int .i16 0) := (blk_cell BK150.out 2).trans rfl; have hcz77_3 : w72.cell? ⟨gb150, 3, none⟩ = some (.int .i16 0) := (blk_cell BK150.out 3).trans rfl; have hfz77_0 := blk_frozen BK150.out 0; have hfz77_1 := blk_frozen BK150.out 1; have hfz77_2 := blk_frozen BK150.out 2; have hfz77_3 := blk_frozen BK150.out 3; have hnb78 := NB145_143.out; have hnc78 := NB143_145.out; have hnb79 := NB145_146.out; have hnc79 := NB146_145.out; have hcz80_0 : w72.cell? ⟨gb145, 0, none⟩ = some (.int .i8 a2_0) := (blk_cell BK145.out 0).trans rfl; have hcz80_1 : w72.cell? ⟨gb145, 1, none⟩ = some (.int .i8 a2_1) := (blk_cell BK145.out 1).trans rfl; have hcz80_2 : w72.cell? ⟨gb145, 2, none⟩ = some (.int .i8 a2_2) := (blk_cell BK145.out 2).trans rfl; have hfz80_0 := blk_frozen BK145.out 0; have hfz80_1 := blk_frozen BK145.out 1; have hfz80_2 := blk_frozen BK145.out 2))
       (try simp only [Act.put, List.setIfInBounds_toArray, List.set_cons_zero, List.set_cons_succ])
       go_cut [] (fun wc => ∃ (kq : Nat) (x151000_66 : Int) (x151001_66 : Int) (x151002_66 : Int) (x151003_66 : Int), Aside0 (spec_l02Move.j2 kq a1_0 a1_1 a1_2 a1_3 x151000_66 x151001_66 x151002_66 x151003_66 = some (r1, r2, r3, r4, r5)) ∧ Aside0 (kq ≤ kj43) ∧ Aside0 (wc.heap[gp0]? = some (.cells #[(.slice A0_0 l0_0.length c0_0), .int .i16 a0_1, .int .i16 a0_2, .int .i16 a0_3, .int .i16 a0_4, .bool a0_5] 32 (0, 0))) ∧ Aside0 (wc.heap[gb144]? = some (.cells #[.int .i16 a1_0, .int .i16 a1_1, .int .i16 a1_2, .int .i16 a1_3] 30 (0, 0))) ∧ Aside0 (wc.heap[gb145]? = some (.cells #[.int .i8 a2_0, .int .i8 a2_1, .int .i8 a2_2] 60 (0, 0))) ∧ Aside0 (wc.heap[gb146]? = some (.cells #[.int .i16 0, .int .i16 0, .int .i16 0, .int .i16 0] 30 (0, 0))) ∧ Aside0 (wc.heap[gb150]? = some (.cells #[.int .i16 x151000_66, .int .i16 x151001_66, .int .i16 x151002_66, .int .i16 x151003_66] 30 (0, 0))) ∧ Aside0 (Below w.heap.size w wc))
       case first =>
        have H := HC67.out
        clear HC67
        by_cases c81 : a2_0 = 0
        ·rw [if_pos c81] at H
         have c81b0 : (a2_0 == 0) = true := beq_iff_eq.mpr c81
         have c81b1 : (a2_0 != 0) = false := bne_eq_false_iff_eq.mpr c81
         clear c81
         (first | rw [c81b0] | (simp only [i64_w, i32_w]; rw [c81b0]) | skip)
         by_cases c83 : 0 ≤ a2_1
         ·rw [if_pos c83] at H
          have c83b0 : decide (0 ≤ a2_1) = true := decide_eq_true c83
          clear c83
          by_cases c84 : a2_1 < 4
          ·rw [if_pos c84] at H
           have c84b0 : decide (a2_1 < 4) = true := decide_eq_true c84
           clear c84
           by_cases c86 : 0 ≤ a2_2
           ·rw [if_pos c86] at H
            have c86b0 : decide (0 ≤ a2_2) = true := decide_eq_true c86
            clear c86
            by_cases c87 : a2_2 < (l0_0.length : Int)
            ·rw [if_pos c87] at H
             have c87b0 : decide (a2_2 < (l0_0.length : Int)) = true := decide_eq_true c87
             clear c87
             by_cases c88 : a2_2 < 4
             ·rw [if_pos c88] at H
              have c88b0 : decide (a2_2 < 4) = true := decide_eq_true c88
              clear c88
              replace H := Option.bind_eq_some_iff.mp H
              obtain ⟨t152, A900, H⟩ := H
              replace H : (spec_l02Move.j2 kj43 a1_0 a1_1 a1_2 a1_3 (aup a2_2 0 (IntKind.i16.wrap ((rd [aup a2_1 0 (IntKind.i16.wrap ((rd [a1_0, a1_1, a1_2, a1_3] a2_1) - (IntKind.i16.wrap (t152)))) a1_0, aup a2_1 1 (IntKind.i16.wrap ((rd [a1_0, a1_1, a1_2, a1_3] a2_1) - (IntKind.i16.wrap (t152)))) a1_1, aup a2_1 2 (IntKind.i16.wrap ((rd [a1_0, a1_1, a1_2, a1_3] a2_1) - (IntKind.i16.wrap (t152)))) a1_2, aup a2_1 3 (IntKind.i16.wrap ((rd [a1_0, a1_1, a1_2, a1_3] a2_1) - (IntKind.i16.wrap (t152)))) a1_3] a2_2) + (IntKind.i16.wrap (t152)))) (aup a2_1 0 (IntKind.i16.wrap ((rd [a1_0, a1_1, a1_2, a1_3] a2_1) - (IntKind.i16.wrap (t152)))) a1_0)) (aup a2_2 1 (IntKind.i16.wrap ((rd [aup a2_1 0 (IntKind.i16.wrap ((rd [a1_0, a1_1, a1_2, a1_3] a2_1) - (IntKind.i16.wrap (t152)))) a1_0, aup a2_1 1 (IntKind.i16.wrap ((rd [a1_0, a1_1, a1_2, a1_3] a2_1) - (IntKind.i16.wrap (t152)))) a1_1, aup a2_1 2 (IntKind.i16.wrap ((rd [a1_0, a1_1, a1_2, a1_3] a2_1) - (IntKind.i16.wrap (t152)))) a1_2, aup a2_1 3 (IntKind.i16.wrap ((rd [a1_0, a1_1, a1_2, a1_3] a2_1) - (IntKind.i16.wrap (t152)))) a1_3] a2_2) + (IntKind.i16.wrap (t152)))) (aup a2_1 1 (IntKind.i16.wrap ((rd [a1_0, a1_1, a1_2, a1_3] a2_1) - (IntKind.i16.wrap (t152)))) a1_1)) (aup a2_2 2 (IntKind.i16.wrap ((rd [aup a2_1 0 (IntKind.i16.wrap ((rd [a1_0, a1_1, a1_2, a1_3] a2_1) - (IntKind.i16.wrap (t152)))) a1_0, aup a2_1 1 (IntKind.i16.wrap ((rd [a1_0, a1_1, a1_2, a1_3] a2_1) - (IntKind.i16.wrap (t152)))) a1_1, aup a2_1 2 (IntKind.i16.wrap ((rd [a1_0, a1_1, a1_2, a1_3] a2_1) - (IntKind.i16.wrap (t152)))) a1_2, aup a2_1 3 (IntKind.i16.wrap ((rd [a1_0, a1_1, a1_2, a1_3] a2_1) - (IntKind.i16.wrap (t152)))) a1_3] a2_2) + (IntKind.i16.wrap (t152)))) (aup a2_1 2 (IntKind.i16.wrap ((rd [a1_0, a1_1, a1_2, a1_3] a2_1) - (IntKind.i16.wrap (t152)))) a1_2)) (aup a2_2 3 (IntKind.i16.wrap ((rd [aup a2_1 0 (IntKind.i16.wrap ((rd [a1_0, a1_1, a1_2, a1_3] a2_1) - (IntKind.i16.wrap (t152)))) a1_0, aup a2_1 1 (IntKind.i16.wrap ((rd [a1_0, a1_1, a1_2, a1_3] a2_1) - (IntKind.i16.wrap (t152)))) a1_1, aup a2_1 2 (IntKind.i16.wrap ((rd [a1_0, a1_1, a1_2, a1_3] a2_1) - (IntKind.i16.wrap (t152)))) a1_2, aup a2_1 3 (IntKind.i16.wrap ((rd [a1_0, a1_1, a1_2, a1_3] a2_1) - (IntKind.i16.wrap (t152)))) a1_3] a2_2) + (IntKind.i16.wrap (t152)))) (aup a2_1 3 (IntKind.i16.wrap ((rd [a1_0, a1_1, a1_2, a1_3] a2_1) - (IntKind.i16.wrap (t152)))) a1_3))) = some (r1, r2, r3, r4, r5) := H
              have A90 := Aside0.mk A900
              clear A900
              have H' := Aside0.mk H
              clear H
              try go_wp2
              have n0_ : Aside0 (((((w72.setCell ⟨gb150, 0, none⟩ (.int .i16 a1_0)).setCell ⟨gb150, 1, none⟩ (.int .i16 a1_1)).setCell ⟨gb150, 2, none⟩ (.int .i16 a1_2)).setCell ⟨gb150, 3, none⟩ (.int .i16 a1_3)).heap[gp0]? = some (.cells #[.slice A0_0 l0_0.length c0_0, .int .i16 a0_1, .int .i16 a0_2, .int .i16 a0_3, .int .i16 a0_4, .bool a0_5] 32 (0, 0))) := ⟨pf_ BK143 NB143_150⟩
              have n1_ : Aside0 (((((w72.setCell ⟨gb150, 0, none⟩ (.int .i16 a1_0)).setCell ⟨gb150, 1, none⟩ (.int .i16 a1_1)).setCell ⟨gb150, 2, none⟩ (.int .i16 a1_2)).setCell ⟨gb150, 3, none⟩ (.int .i16 a1_3)).heap[gb144]? = some (.cells #[.int .i16 a1_0, .int .i16 a1_1, .int .i16 a1_2, .int .i16 a1_3] 30 (0, 0))) := ⟨pf_ BK144 NB144_150⟩
              have n2_ : Aside0 (((((w72.setCell ⟨gb150, 0, none⟩ (.int .i16 a1_0)).setCell ⟨gb150, 1, none⟩ (.int .i16 a1_1)).setCell ⟨gb150, 2, none⟩ (.int .i16 a1_2)).setCell ⟨gb150, 3, none⟩ (.int .i16 a1_3)).heap[gb145]? = some (.cells #[.int .i8 a2_0, .int .i8 a2_1, .int .i8 a2_2] 60 (0, 0))) := ⟨pf_ BK145 NB145_150⟩
              have n3_ : Aside0 (((((w72.setCell ⟨gb150, 0, none⟩ (.int .i16 a1_0)).setCell ⟨gb150, 1, none⟩ (.int .i16 a1_1)).setCell ⟨gb150, 2, none⟩ (.int .i16 a1_2)).setCell ⟨gb150, 3, none⟩ (.int .i16 a1_3)).heap[gb146]? = some (.cells #[.int .i16 0, .int .i16 0, .int .i16 0, .int .i16 0] 30 (0, 0))) := ⟨pf_ BK146 NB146_150⟩
              have n4_ : Aside0 (((((w72.setCell ⟨gb150, 0, none⟩ (.int .i16 a1_0)).setCell ⟨gb150, 1, none⟩ (.int .i16 a1_1)).setCell ⟨gb150, 2, none⟩ (.int .i16 a1_2)).setCell ⟨gb150, 3, none⟩ (.int .i16 a1_3)).heap[gb150]? = some (.cells #[.int .i16 a1_0, .int .i16 a1_1, .int .i16 a1_2, .int .i16 a1_3] 30 (0, 0))) := ⟨by (with_reducible repeat (first | refine blk_drewN ?_ _ | refine blk_drew ?_ | refine blk_alloc ?_ _)); refine blk_put (cs := #[.int .i16 a1_0, .int .i16 a1_1, .int .i16 a1_2, .int .i16 0]) ?_ 3 _ rfl; (with_reducible repeat (first | refine blk_drewN ?_ _ | refine blk_drew ?_ | refine blk_alloc ?_ _)); refine blk_put (cs := #[.int .i16 a1_0, .int .i16 a1_1, .int .i16 0, .int .i16 0]) ?_ 2 _ rfl; (with_reducible repeat (first | refine blk_drewN ?_ _ | refine blk_drew ?_ | refine blk_alloc ?_ _)); refine blk_put (cs := #[.int .i16 a1_0, .int .i16 0, .int .i16 0, .int .i16 0]) ?_ 1 _ rfl; (with_reducible repeat (first | refine blk_drewN ?_ _ | refine blk_drew ?_ | refine blk_alloc ?_ _)); refine blk_put (cs := #[.int .i16 0, .int .i16 0, .int .i16 0, .int .i16 0]) ?_ 0 _ rfl; (with_reducible repeat (first | refine blk_drewN ?_ _ | refine blk_drew ?_ | refine blk_alloc ?_ _)); exact BK150.out⟩
              have n5_ : Aside0 (Below w.heap.size w ((((w72.setCell ⟨gb150, 0, none⟩ (.int .i16 a1_0)).setCell ⟨gb150, 1, none⟩ (.int .i16 a1_1)).setCell ⟨gb150, 2, none⟩ (.int .i16 a1_2)).setCell ⟨gb150, 3, none⟩ (.int .i16 a1_3))) := ⟨bs_ HB GE150⟩
              (try clear BK143)
              (try clear BK144)
              (try clear BK145)
              (try clear BK146)
              (try clear BK150)
              (try clear HB)
              generalize ((((w72.setCell ⟨gb150, 0, none⟩ (.int .i16 a1_0)).setCell ⟨gb150, 1, none⟩ (.int .i16 a1_1)).setCell ⟨gb150, 2, none⟩ (.int .i16 a1_2)).setCell ⟨gb150, 3, none⟩ (.int .i16 a1_3)) = w97 at n0_ n1_ n2_ n3_ n4_ n5_ ⊢
              have BK143 := n0_
              have BK144 := n1_
              have BK145 := n2_
              have BK146 := n3_
              have BK150 := n4_
              have HB := n5_
              clear n0_ n1_ n2_ n3_ n4_ n5_
              refine wp_region_still_tail 19 (by kernel_rfl) (by kernel_rfl) ?_
              simp only [List.take_succ_cons, List.take_zero, List.drop_succ_cons, List.drop_zero]
              refine tail_shown ?_
              have n0_ := A_ (blk_drew BK143.out)
              have n1_ := A_ (blk_drew BK144.out)
              have n2_ := A_ (blk_drew BK145.out)
              have n3_ := A_ (blk_drew BK146.out)
              have n4_ := A_ (blk_drew BK150.out)
              have n5_ := A_ (below_drew1 HB.out)
              clear BK143
              clear BK144
              clear BK145
              clear BK146
              clear BK150
              clear HB
              have BK143 := n0_
              have BK144 := n1_
              have BK145 := n2_
              have BK146 := n3_
              have BK150 := n4_
              have HB := n5_
              clear n0_ n1_ n2_ n3_ n4_ n5_
              generalize w97.drew = w98 at BK143 BK144 BK145 BK146 BK150 HB ⊢
              have hnb99 := NB145_143.out
              have hnc99 := NB143_145.out
              have hnb100 := NB145_144.out
              have hnc100 := NB144_145.out
              have hnb101 := NB145_146.out
              have hnc101 := NB146_145.out
              have hnb102 := NB145_150.out
              have hnc102 := NB150_145.out
              have hcz103_0 : w98.cell? ⟨gb145, 0, none⟩ = some (.int .i8 a2_0) := (blk_cell BK145.out 0).trans rfl
              have hcz103_1 : w98.cell? ⟨gb145, 1, none⟩ = some (.int .i8 a2_1) := (blk_cell BK145.out 1).trans rfl
              have hcz103_2 : w98.cell? ⟨gb145, 2, none⟩ = some (.int .i8 a2_2) := (blk_cell BK145.out 2).trans rfl
              have hfz103_0 := blk_frozen BK145.out 0
              have hfz103_1 := blk_frozen BK145.out 1
              have hfz103_2 := blk_frozen BK145.out 2
              have hnb104 := NB144_143.out
              have hnc104 := NB143_144.out
              have hnb105 := NB144_146.out
              have hnc105 := NB146_144.out
              have hnb106 := NB144_150.out
              have hnc106 := NB150_144.out
              have hcz107_0 : w98.cell? ⟨gb144, 0, none⟩ = some (.int .i16 a1_0) := (blk_cell BK144.out 0).trans rfl
              have hcz107_1 : w98.cell? ⟨gb144, 1, none⟩ = some (.int .i16 a1_1) := (blk_cell BK144.out 1).trans rfl
              have hcz107_2 : w98.cell? ⟨gb144, 2, none⟩ = some (.int .i16 a1_2) := (blk_cell BK144.out 2).trans rfl
              have hcz107_3 : w98.cell? ⟨gb144, 3, none⟩ = some (.int .i16 a1_3) := (blk_cell BK144.out 3).trans rfl
              have hfz107_0 := blk_frozen BK144.out 0
              have hfz107_1 := blk_frozen BK144.out 1
              have hfz107_2 := blk_frozen BK144.out 2
              have hfz107_3 := blk_frozen BK144.out 3
              have p85 : 0 ≤ (a2_1 : Int) := asm_
              have q85 : (a2_1 : Int) < 4 := asm_
              have hx85 : w98.cell? ⟨gb144, (a2_1 : Int).toNat, none⟩ = some (.int .i16 (rd [a1_0, a1_1, a1_2, a1_3] a2_1)) := ard_cell (k := .i16) (l := [a1_0, a1_1, a1_2, a1_3]) BK144.out p85 q85
              have hf85 := blk_frozen BK144.out (a2_1 : Int).toNat
              have P85 := Aside0.mk p85
              have Q85 := Aside0.mk q85
              replace p85 := eq_true p85
              replace q85 := eq_true q85
              have hnb108 := NB143_146.out
              have hnc108 := NB146_143.out
              have hnb109 := NB143_150.out
              have hnc109 := NB150_143.out
              have hcz110_0 : w98.cell? ⟨gp0, 0, none⟩ = some (.slice A0_0 l0_0.length c0_0) := (blk_cell BK143.out 0).trans rfl
              have hcz110_1 : w98.cell? ⟨gp0, 1, none⟩ = some (.int .i16 a0_1) := (blk_cell BK143.out 1).trans rfl
              have hcz110_2 : w98.cell? ⟨gp0, 2, none⟩ = some (.int .i16 a0_2) := (blk_cell BK143.out 2).trans rfl
              have hcz110_3 : w98.cell? ⟨gp0, 3, none⟩ = some (.int .i16 a0_3) := (blk_cell BK143.out 3).trans rfl
              have hcz110_4 : w98.cell? ⟨gp0, 4, none⟩ = some (.int .i16 a0_4) := (blk_cell BK143.out 4).trans rfl
              have hcz110_5 : w98.cell? ⟨gp0, 5, none⟩ = some (.bool a0_5) := (blk_cell BK143.out 5).trans rfl
              have hfz110_0 := blk_frozen BK143.out 0
              have hfz110_1 := blk_frozen BK143.out 1
              have hfz110_2 := blk_frozen BK143.out 2
              have hfz110_3 := blk_frozen BK143.out 3
              have hfz110_4 := blk_frozen BK143.out 4
              have hfz110_5 := blk_frozen BK143.out 5
              have p151 : 0 ≤ (a2_2 : Int) := asm_
              have q151 : a2_2 < (l0_0.length : Int) := asm_
              obtain ⟨ad151, e151, hx151_0⟩ := Kd.at_int HR0_0.out a2_2 p151 q151
              cases e151
              (try replace hx151_0 := (HB.out.cell (World.block_lt_of_cell? w _ hx151_0)).trans hx151_0)
              replace p151 := eq_true p151
              replace q151 := eq_true q151
              have p89 : 0 ≤ (a2_2 : Int) := asm_
              have q89 : (a2_2 : Int) < 4 := asm_
              have hx89 : w98.cell? ⟨gb144, (a2_2 : Int).toNat, none⟩ = some (.int .i16 (rd [a1_0, a1_1, a1_2, a1_3] a2_2)) := ard_cell (k := .i16) (l := [a1_0, a1_1, a1_2, a1_3]) BK144.out p89 q89
              have hf89 := blk_frozen BK144.out (a2_2 : Int).toNat
              have P89 := Aside0.mk p89
              have Q89 := Aside0.mk q89
              replace p89 := eq_true p89
              replace q89 := eq_true q89
              repeat still_step
              (try refine wpStill_nil ?_)
              (try simp only [i64_w, i32_w])
              try go_wp2_with (first | ((with_reducible refine gate_callee (f := 102) rfl ?_); refine goesL_ (some 96) rfl rfl Try.func102 (by kernel_rfl) rfl #[.int .i64 (wrap64 (rd [a1_0, a1_1, a1_2, a1_3] a2_1)), .int .i64 (wrap64 (IntKind.i16.wrap ((rd l0_0 a2_2) - (rd [a1_0, a1_1, a1_2, a1_3] a2_2))))] rfl arg_ ?_; (with_reducible refine (spec_l00Min.calls (wrap64 (rd [a1_0, a1_1, a1_2, a1_3] a2_1)) (wrap64 (IntKind.i16.wrap ((rd l0_0 a2_2) - (rd [a1_0, a1_1, a1_2, a1_3] a2_2)))) t152 _ A90.out).mono ?_); rintro e w' ⟨rfl, ⟨nd, rfl⟩⟩; refine ⟨_, rfl, ?_⟩; (try (rw [drewN_self w98]; generalize hq_ : World.drewN w98 _ = w98; have n0_ : Aside0 (w98.heap[gp0]? = some (.cells #[.slice (some ad151) l0_0.length c0_0, .int .i16 a0_1, .int .i16 a0_2, .int .i16 a0_3, .int .i16 a0_4, .bool a0_5] 32 (0, 0))) := ⟨by rw [← hq_]; exact (pl_ BK143)⟩; have n1_ : Aside0 (w98.heap[gb144]? = some (.cells #[.int .i16 a1_0, .int .i16 a1_1, .int .i16 a1_2, .int .i16 a1_3] 30 (0, 0))) := ⟨by rw [← hq_]; exact (pl_ BK144)⟩; have n2_ : Aside0 (w98.heap[gb145]? = some (.cells #[.int .i8 a2_0, .int .i8 a2_1, .int .i8 a2_2] 60 (0, 0))) := ⟨by rw [← hq_]; exact (pl_ BK145)⟩; have n3_ : Aside0 (w98.heap[gb146]? = some (.cells #[.int .i16 0, .int .i16 0, .int .i16 0, .int .i16 0] 30 (0, 0))) := ⟨by rw [← hq_]; exact (pl_ BK146)⟩; have n4_ : Aside0 (w98.heap[gb150]? = some (.cells #[.int .i16 a1_0, .int .i16 a1_1, .int .i16 a1_2, .int .i16 a1_3] 30 (0, 0))) := ⟨by rw [← hq_]; exact (pl_ BK150)⟩; have n5_ : Aside0 (Below w.heap.size w w98) := ⟨by rw [← hq_]; exact (bl_ HB)⟩; clear BK143 BK144 BK145 BK146 BK150 HB hq_; have BK143 := n0_; have BK144 := n1_; have BK145 := n2_; have BK146 := n3_; have BK150 := n4_; have HB := n5_; clear n0_ n1_ n2_ n3_ n4_ n5_)); have hcz111_0 : w98.cell? ⟨gb145, 0, none⟩ = some (.int .i8 a2_0) := (blk_cell BK145.out 0).trans rfl; have hcz111_1 : w98.cell? ⟨gb145, 1, none⟩ = some (.int .i8 a2_1) := (blk_cell BK145.out 1).trans rfl; have hcz111_2 : w98.cell? ⟨gb145, 2, none⟩ = some (.int .i8 a2_2) := (blk_cell BK145.out 2).trans rfl; have hfz111_0 := blk_frozen BK145.out 0; have hfz111_1 := blk_frozen BK145.out 1; have hfz111_2 := blk_frozen BK145.out 2; have hnb112 := NB150_146.out; have hnc112 := NB146_150.out; have hcz113_0 : w98.cell? ⟨gb150, 0, none⟩ = some (.int .i16 a1_0) := (blk_cell BK150.out 0).trans rfl; have hcz113_1 : w98.cell? ⟨gb150, 1, none⟩ = some (.int .i16 a1_1) := (blk_cell BK150.out 1).trans rfl; have hcz113_2 : w98.cell? ⟨gb150, 2, none⟩ = some (.int .i16 a1_2) := (blk_cell BK150.out 2).trans rfl; have hcz113_3 : w98.cell? ⟨gb150, 3, none⟩ = some (.int .i16 a1_3) := (blk_cell BK150.out 3).trans rfl; have hfz113_0 := blk_frozen BK150.out 0; have hfz113_1 := blk_frozen BK150.out 1; have hfz113_2 := blk_frozen BK150.out 2; have hfz113_3 := blk_frozen BK150.out 3; have p91 : 0 ≤ (a2_1 : Int) := asm_; have q91 : (a2_1 : Int) < 4 := asm_; have hx91 : w98.cell? ⟨gb150, (a2_1 : Int).toNat, none⟩ = some (.int .i16 (rd [a1_0, a1_1, a1_2, a1_3] a2_1)) := ard_cell (k := .i16) (l := [a1_0, a1_1, a1_2, a1_3]) BK150.out p91 q91; have hf91 := blk_frozen BK150.out (a2_1 : Int).toNat; have P91 := Aside0.mk p91; have Q91 := Aside0.mk q91; replace p91 := eq_true p91; replace q91 := eq_true q91; have p92 : 0 ≤ (a2_1 : Int) := asm_; have q92 : (a2_1 : Int) < 4 := asm_; have hx92 : w98.cell? ⟨gb150, (a2_1 : Int).toNat, none⟩ = some (.int .i16 (rd [a1_0, a1_1, a1_2, a1_3] a2_1)) := ard_cell (k := .i16) (l := [a1_0, a1_1, a1_2, a1_3]) BK150.out p92 q92; have hf92 := blk_frozen BK150.out (a2_1 : Int).toNat; have P92 := Aside0.mk p92; have Q92 := Aside0.mk q92; replace p92 := eq_true p92; replace q92 := eq_true q92) | ((with_reducible refine gate_store (t := 23) (p := 104) rfl ?_); refine store_event (t := 23) (p := 104) (v := ?vo_w115) (w1 := (w98.setCell ⟨gb150, (a2_1 : Int).toNat, none⟩ (.int .i16 (IntKind.i16.wrap ((rd [a1_0, a1_1, a1_2, a1_3] a2_1) - (IntKind.i16.wrap (t152))))))) ?hg ?ho ?hn ?hr ?_; (case ho => rfl); (case hg => rfl); (case hn => rfl); (case hr => first | (go_simp; done) | (go_simp; rfl)); intro w115 hw; have n0_ : Aside0 (w115.heap[gp0]? = some (.cells #[.slice (some ad151) l0_0.length c0_0, .int .i16 a0_1, .int .i16 a0_2, .int .i16 a0_3, .int .i16 a0_4, .bool a0_5] 32 (0, 0))) := ⟨(by rw [hw]; exact (pf_ BK143 NB143_150))⟩; have n1_ : Aside0 (w115.heap[gb144]? = some (.cells #[.int .i16 a1_0, .int .i16 a1_1, .int .i16 a1_2, .int .i16 a1_3] 30 (0, 0))) := ⟨(by rw [hw]; exact (pf_ BK144 NB144_150))⟩; have n2_ : Aside0 (w115.heap[gb145]? = some (.cells #[.int .i8 a2_0, .int .i8 a2_1, .int .i8 a2_2] 60 (0, 0))) := ⟨(by rw [hw]; exact (pf_ BK145 NB145_150))⟩; have n3_ : Aside0 (w115.heap[gb146]? = some (.cells #[.int .i16 0, .int .i16 0, .int .i16 0, .int .i16 0] 30 (0, 0))) := ⟨(by rw [hw]; exact (pf_ BK146 NB146_150))⟩; have n4_ : Aside0 (w115.heap[gb150]? = some (.cells #[.int .i16 (aup a2_1 0 (IntKind.i16.wrap ((rd [a1_0, a1_1, a1_2, a1_3] a2_1) - (IntKind.i16.wrap (t152)))) a1_0), .int .i16 (aup a2_1 1 (IntKind.i16.wrap ((rd [a1_0, a1_1, a1_2, a1_3] a2_1) - (IntKind.i16.wrap (t152)))) a1_1), .int .i16 (aup a2_1 2 (IntKind.i16.wrap ((rd [a1_0, a1_1, a1_2, a1_3] a2_1) - (IntKind.i16.wrap (t152)))) a1_2), .int .i16 (aup a2_1 3 (IntKind.i16.wrap ((rd [a1_0, a1_1, a1_2, a1_3] a2_1) - (IntKind.i16.wrap (t152)))) a1_3)] 30 (0, 0))) := ⟨(by rw [hw]; exact (by (with_reducible repeat (first | refine blk_drewN ?_ _ | refine blk_drew ?_ | refine blk_alloc ?_ _)); refine blk_put (cs := #[.int .i16 a1_0, .int .i16 a1_1, .int .i16 a1_2, .int .i16 a1_3]) ?_ (a2_1 : Int).toNat _ (ups_set (k := .i16) (l := [a1_0, a1_1, a1_2, a1_3]) P92.out); (with_reducible repeat (first | refine blk_drewN ?_ _ | refine blk_drew ?_ | refine blk_alloc ?_ _)); exact BK150.out))⟩; have n5_ : Aside0 (Below w.heap.size w w115) := ⟨(by rw [hw]; exact (bs_ HB GE150))⟩; clear hw; clear BK143; clear BK144; clear BK145; clear BK146; clear BK150; clear HB; have BK143 := n0_; have BK144 := n1_; have BK145 := n2_; have BK146 := n3_; have BK150 := n4_; have HB := n5_; clear n0_ n1_ n2_ n3_ n4_ n5_; have hcz116_0 : w115.cell? ⟨gb145, 0, none⟩ = some (.int .i8 a2_0) := (blk_cell BK145.out 0).trans rfl; have hcz116_1 : w115.cell? ⟨gb145, 1, none⟩ = some (.int .i8 a2_1) := (blk_cell BK145.out 1).trans rfl; have hcz116_2 : w115.cell? ⟨gb145, 2, none⟩ = some (.int .i8 a2_2) := (blk_cell BK145.out 2).trans rfl; have hfz116_0 := blk_frozen BK145.out 0; have hfz116_1 := blk_frozen BK145.out 1; have hfz116_2 := blk_frozen BK145.out 2; have hcz117_0 : w115.cell? ⟨gb150, 0, none⟩ = some (.int .i16 (aup a2_1 0 (IntKind.i16.wrap ((rd [a1_0, a1_1, a1_2, a1_3] a2_1) - (IntKind.i16.wrap (t152)))) a1_0)) := (blk_cell BK150.out 0).trans rfl; have hcz117_1 : w115.cell? ⟨gb150, 1, none⟩ = some (.int .i16 (aup a2_1 1 (IntKind.i16.wrap ((rd [a1_0, a1_1, a1_2, a1_3] a2_1) - (IntKind.i16.wrap (t152)))) a1_1)) := (blk_cell BK150.out 1).trans rfl; have hcz117_2 : w115.cell? ⟨gb150, 2, none⟩ = some (.int .i16 (aup a2_1 2 (IntKind.i16.wrap ((rd [a1_0, a1_1, a1_2, a1_3] a2_1) - (IntKind.i16.wrap (t152)))) a1_2)) := (blk_cell BK150.out 2).trans rfl; have hcz117_3 : w115.cell? ⟨gb150, 3, none⟩ = some (.int .i16 (aup a2_1 3 (IntKind.i16.wrap ((rd [a1_0, a1_1, a1_2, a1_3] a2_1) - (IntKind.i16.wrap (t152)))) a1_3)) := (blk_cell BK150.out 3).trans rfl; have hfz117_0 := blk_frozen BK150.out 0; have hfz117_1 := blk_frozen BK150.out 1; have hfz117_2 := blk_frozen BK150.out 2; have hfz117_3 := blk_frozen BK150.out 3; have p94 : 0 ≤ (a2_2 : Int) := asm_; have q94 : (a2_2 : Int) < 4 := asm_; have hx94 : w115.cell? ⟨gb150, (a2_2 : Int).toNat, none⟩ = some (.int .i16 (rd [aup a2_1 0 (IntKind.i16.wrap ((rd [a1_0, a1_1, a1_2, a1_3] a2_1) - (IntKind.i16.wrap (t152)))) a1_0, aup a2_1 1 (IntKind.i16.wrap ((rd [a1_0, a1_1, a1_2, a1_3] a2_1) - (IntKind.i16.wrap (t152)))) a1_1, aup a2_1 2 (IntKind.i16.wrap ((rd [a1_0, a1_1, a1_2, a1_3] a2_1) - (IntKind.i16.wrap (t152)))) a1_2, aup a2_1 3 (IntKind.i16.wrap ((rd [a1_0, a1_1, a1_2, a1_3] a2_1) - (IntKind.i16.wrap (t152)))) a1_3] a2_2)) := ard_cell (k := .i16) (l := [aup a2_1 0 (IntKind.i16.wrap ((rd [a1_0, a1_1, a1_2, a1_3] a2_1) - (IntKind.i16.wrap (t152)))) a1_0, aup a2_1 1 (IntKind.i16.wrap ((rd [a1_0, a1_1, a1_2, a1_3] a2_1) - (IntKind.i16.wrap (t152)))) a1_1, aup a2_1 2 (IntKind.i16.wrap ((rd [a1_0, a1_1, a1_2, a1_3] a2_1) - (IntKind.i16.wrap (t152)))) a1_2, aup a2_1 3 (IntKind.i16.wrap ((rd [a1_0, a1_1, a1_2, a1_3] a2_1) - (IntKind.i16.wrap (t152)))) a1_3]) BK150.out p94 q94; have hf94 := blk_frozen BK150.out (a2_2 : Int).toNat; have P94 := Aside0.mk p94; have Q94 := Aside0.mk q94; replace p94 := eq_true p94; replace q94 := eq_true q94; have p95 : 0 ≤ (a2_2 : Int) := asm_; have q95 : (a2_2 : Int) < 4 := asm_; have hx95 : w115.cell? ⟨gb150, (a2_2 : Int).toNat, none⟩ = some (.int .i16 (rd [aup a2_1 0 (IntKind.i16.wrap ((rd [a1_0, a1_1, a1_2, a1_3] a2_1) - (IntKind.i16.wrap (t152)))) a1_0, aup a2_1 1 (IntKind.i16.wrap ((rd [a1_0, a1_1, a1_2, a1_3] a2_1) - (IntKind.i16.wrap (t152)))) a1_1, aup a2_1 2 (IntKind.i16.wrap ((rd [a1_0, a1_1, a1_2, a1_3] a2_1) - (IntKind.i16.wrap (t152)))) a1_2, aup a2_1 3 (IntKind.i16.wrap ((rd [a1_0, a1_1, a1_2, a1_3] a2_1) - (IntKind.i16.wrap (t152)))) a1_3] a2_2)) := ard_cell (k := .i16) (l := [aup a2_1 0 (IntKind.i16.wrap ((rd [a1_0, a1_1, a1_2, a1_3] a2_1) - (IntKind.i16.wrap (t152)))) a1_0, aup a2_1 1 (IntKind.i16.wrap ((rd [a1_0, a1_1, a1_2, a1_3] a2_1) - (IntKind.i16.wrap (t152)))) a1_1, aup a2_1 2 (IntKind.i16.wrap ((rd [a1_0, a1_1, a1_2, a1_3] a2_1) - (IntKind.i16.wrap (t152)))) a1_2, aup a2_1 3 (IntKind.i16.wrap ((rd [a1_0, a1_1, a1_2, a1_3] a2_1) - (IntKind.i16.wrap (t152)))) a1_3]) BK150.out p95 q95; have hf95 := blk_frozen BK150.out (a2_2 : Int).toNat; have P95 := Aside0.mk p95; have Q95 := Aside0.mk q95; replace p95 := eq_true p95; replace q95 := eq_true q95) | ((with_reducible refine gate_store (t := 23) (p := 111) rfl ?_); refine store_event (t := 23) (p := 111) (v := ?vo_w119) (w1 := (w115.setCell ⟨gb150, (a2_2 : Int).toNat, none⟩ (.int .i16 (IntKind.i16.wrap ((rd [aup a2_1 0 (IntKind.i16.wrap ((rd [a1_0, a1_1, a1_2, a1_3] a2_1) - (IntKind.i16.wrap (t152)))) a1_0, aup a2_1 1 (IntKind.i16.wrap ((rd [a1_0, a1_1, a1_2, a1_3] a2_1) - (IntKind.i16.wrap (t152)))) a1_1, aup a2_1 2 (IntKind.i16.wrap ((rd [a1_0, a1_1, a1_2, a1_3] a2_1) - (IntKind.i16.wrap (t152)))) a1_2, aup a2_1 3 (IntKind.i16.wrap ((rd [a1_0, a1_1, a1_2, a1_3] a2_1) - (IntKind.i16.wrap (t152)))) a1_3] a2_2) + (IntKind.i16.wrap (t152))))))) ?hg ?ho ?hn ?hr ?_; (case ho => rfl); (case hg => rfl); (case hn => rfl); (case hr => first | (go_simp; done) | (go_simp; rfl)); intro w119 hw; have n0_ : Aside0 (w119.heap[gp0]? = some (.cells #[.slice (some ad151) l0_0.length c0_0, .int .i16 a0_1, .int .i16 a0_2, .int .i16 a0_3, .int .i16 a0_4, .bool a0_5] 32 (0, 0))) := ⟨(by rw [hw]; exact (pf_ BK143 NB143_150))⟩; have n1_ : Aside0 (w119.heap[gb144]? = some (.cells #[.int .i16 a1_0, .int .i16 a1_1, .int .i16 a1_2, .int .i16 a1_3] 30 (0, 0))) := ⟨(by rw [hw]; exact (pf_ BK144 NB144_150))⟩; have n2_ : Aside0 (w119.heap[gb145]? = some (.cells #[.int .i8 a2_0, .int .i8 a2_1, .int .i8 a2_2] 60 (0, 0))) := ⟨(by rw [hw]; exact (pf_ BK145 NB145_150))⟩; have n3_ : Aside0 (w119.heap[gb146]? = some (.cells #[.int .i16 0, .int .i16 0, .int .i16 0, .int .i16 0] 30 (0, 0))) := ⟨(by rw [hw]; exact (pf_ BK146 NB146_150))⟩; have n4_ : Aside0 (w119.heap[gb150]? = some (.cells #[.int .i16 (aup a2_2 0 (IntKind.i16.wrap ((rd [aup a2_1 0 (IntKind.i16.wrap ((rd [a1_0, a1_1, a1_2, a1_3] a2_1) - (IntKind.i16.wrap (t152)))) a1_0, aup a2_1 1 (IntKind.i16.wrap ((rd [a1_0, a1_1, a1_2, a1_3] a2_1) - (IntKind.i16.wrap (t152)))) a1_1, aup a2_1 2 (IntKind.i16.wrap ((rd [a1_0, a1_1, a1_2, a1_3] a2_1) - (IntKind.i16.wrap (t152)))) a1_2, aup a2_1 3 (IntKind.i16.wrap ((rd [a1_0, a1_1, a1_2, a1_3] a2_1) - (IntKind.i16.wrap (t152)))) a1_3] a2_2) + (IntKind.i16.wrap (t152)))) (aup a2_1 0 (IntKind.i16.wrap ((rd [a1_0, a1_1, a1_2, a1_3] a2_1) - (IntKind.i16.wrap (t152)))) a1_0)), .int .i16 (aup a2_2 1 (IntKind.i16.wrap ((rd [aup a2_1 0 (IntKind.i16.wrap ((rd [a1_0, a1_1, a1_2, a1_3] a2_1) - (IntKind.i16.wrap (t152)))) a1_0, aup a2_1 1 (IntKind.i16.wrap ((rd [a1_0, a1_1, a1_2, a1_3] a2_1) - (IntKind.i16.wrap (t152)))) a1_1, aup a2_1 2 (IntKind.i16.wrap ((rd [a1_0, a1_1, a1_2, a1_3] a2_1) - (IntKind.i16.wrap (t152)))) a1_2, aup a2_1 3 (IntKind.i16.wrap ((rd [a1_0, a1_1, a1_2, a1_3] a2_1) - (IntKind.i16.wrap (t152)))) a1_3] a2_2) + (IntKind.i16.wrap (t152)))) (aup a2_1 1 (IntKind.i16.wrap ((rd [a1_0, a1_1, a1_2, a1_3] a2_1) - (IntKind.i16.wrap (t152)))) a1_1)), .int .i16 (aup a2_2 2 (IntKind.i16.wrap ((rd [aup a2_1 0 (IntKind.i16.wrap ((rd [a1_0, a1_1, a1_2, a1_3] a2_1) - (IntKind.i16.wrap (t152)))) a1_0, aup a2_1 1 (IntKind.i16.wrap ((rd [a1_0, a1_1, a1_2, a1_3] a2_1) - (IntKind.i16.wrap (t152)))) a1_1, aup a2_1 2 (IntKind.i16.wrap ((rd [a1_0, a1_1, a1_2, a1_3] a2_1) - (IntKind.i16.wrap (t152)))) a1_2, aup a2_1 3 (IntKind.i16.wrap ((rd [a1_0, a1_1, a1_2, a1_3] a2_1) - (IntKind.i16.wrap (t152)))) a1_3] a2_2) + (IntKind.i16.wrap (t152)))) (aup a2_1 2 (IntKind.i16.wrap ((rd [a1_0, a1_1, a1_2, a1_3] a2_1) - (IntKind.i16.wrap (t152)))) a1_2)), .int .i16 (aup a2_2 3 (IntKind.i16.wrap ((rd [aup a2_1 0 (IntKind.i16.wrap ((rd [a1_0, a1_1, a1_2, a1_3] a2_1) - (IntKind.i16.wrap (t152)))) a1_0, aup a2_1 1 (IntKind.i16.wrap ((rd [a1_0, a1_1, a1_2, a1_3] a2_1) - (IntKind.i16.wrap (t152)))) a1_1, aup a2_1 2 (IntKind.i16.wrap ((rd [a1_0, a1_1, a1_2, a1_3] a2_1) - (IntKind.i16.wrap (t152)))) a1_2, aup a2_1 3 (IntKind.i16.wrap ((rd [a1_0, a1_1, a1_2, a1_3] a2_1) - (IntKind.i16.wrap (t152)))) a1_3] a2_2) + (IntKind.i16.wrap (t152)))) (aup a2_1 3 (IntKind.i16.wrap ((rd [a1_0, a1_1, a1_2, a1_3] a2_1) - (IntKind.i16.wrap (t152)))) a1_3))] 30 (0, 0))) := ⟨(by rw [hw]; exact (by (with_reducible repeat (first | refine blk_drewN ?_ _ | refine blk_drew ?_ | refine blk_alloc ?_ _)); refine blk_put (cs := #[.int .i16 (aup a2_1 0 (IntKind.i16.wrap ((rd [a1_0, a1_1, a1_2, a1_3] a2_1) - (IntKind.i16.wrap (t152)))) a1_0), .int .i16 (aup a2_1 1 (IntKind.i16.wrap ((rd [a1_0, a1_1, a1_2, a1_3] a2_1) - (IntKind.i16.wrap (t152)))) a1_1), .int .i16 (aup a2_1 2 (IntKind.i16.wrap ((rd [a1_0, a1_1, a1_2, a1_3] a2_1) - (IntKind.i16.wrap (t152)))) a1_2), .int .i16 (aup a2_1 3 (IntKind.i16.wrap ((rd [a1_0, a1_1, a1_2, a1_3] a2_1) - (IntKind.i16.wrap (t152)))) a1_3)]) ?_ (a2_2 : Int).toNat _ (ups_set (k := .i16) (l := [aup a2_1 0 (IntKind.i16.wrap ((rd [a1_0, a1_1, a1_2, a1_3] a2_1) - (IntKind.i16.wrap (t152)))) a1_0, aup a2_1 1 (IntKind.i16.wrap ((rd [a1_0, a1_1, a1_2, a1_3] a2_1) - (IntKind.i16.wrap (t152)))) a1_1, aup a2_1 2 (IntKind.i16.wrap ((rd [a1_0, a1_1, a1_2, a1_3] a2_1) - (IntKind.i16.wrap (t152)))) a1_2, aup a2_1 3 (IntKind.i16.wrap ((rd [a1_0, a1_1, a1_2, a1_3] a2_1) - (IntKind.i16.wrap (t152)))) a1_3]) P95.out); (with_reducible repeat (first | refine blk_drewN ?_ _ | refine blk_drew ?_ | refine blk_alloc ?_ _)); exact BK150.out))⟩; have n5_ : Aside0 (Below w.heap.size w w119) := ⟨(by rw [hw]; exact (bs_ HB GE150))⟩; clear hw; clear BK143; clear BK144; clear BK145; clear BK146; clear BK150; clear HB; have BK143 := n0_; have BK144 := n1_; have BK145 := n2_; have BK146 := n3_; have BK150 := n4_; have HB := n5_; clear n0_ n1_ n2_ n3_ n4_ n5_))
              go_meet
              case rel => exact ⟨_, (aup a2_2 0 (IntKind.i16.wrap ((rd [aup a2_1 0 (IntKind.i16.wrap ((rd [a1_0, a1_1, a1_2, a1_3] a2_1) - (IntKind.i16.wrap (t152)))) a1_0, aup a2_1 1 (IntKind.i16.wrap ((rd [a1_0, a1_1, a1_2, a1_3] a2_1) - (IntKind.i16.wrap (t152)))) a1_1, aup a2_1 2 (IntKind.i16.wrap ((rd [a1_0, a1_1, a1_2, a1_3] a2_1) - (IntKind.i16.wrap (t152)))) a1_2, aup a2_1 3 (IntKind.i16.wrap ((rd [a1_0, a1_1, a1_2, a1_3] a2_1) - (IntKind.i16.wrap (t152)))) a1_3] a2_2) + (IntKind.i16.wrap (t152)))) (aup a2_1 0 (IntKind.i16.wrap ((rd [a1_0, a1_1, a1_2, a1_3] a2_1) - (IntKind.i16.wrap (t152)))) a1_0)), (aup a2_2 1 (IntKind.i16.wrap ((rd [aup a2_1 0 (IntKind.i16.wrap ((rd [a1_0, a1_1, a1_2, a1_3] a2_1) - (IntKind.i16.wrap (t152)))) a1_0, aup a2_1 1 (IntKind.i16.wrap ((rd [a1_0, a1_1, a1_2, a1_3] a2_1) - (IntKind.i16.wrap (t152)))) a1_1, aup a2_1 2 (IntKind.i16.wrap ((rd [a1_0, a1_1, a1_2, a1_3] a2_1) - (IntKind.i16.wrap (t152)))) a1_2, aup a2_1 3 (IntKind.i16.wrap ((rd [a1_0, a1_1, a1_2, a1_3] a2_1) - (IntKind.i16.wrap (t152)))) a1_3] a2_2) + (IntKind.i16.wrap (t152)))) (aup a2_1 1 (IntKind.i16.wrap ((rd [a1_0, a1_1, a1_2, a1_3] a2_1) - (IntKind.i16.wrap (t152)))) a1_1)), (aup a2_2 2 (IntKind.i16.wrap ((rd [aup a2_1 0 (IntKind.i16.wrap ((rd [a1_0, a1_1, a1_2, a1_3] a2_1) - (IntKind.i16.wrap (t152)))) a1_0, aup a2_1 1 (IntKind.i16.wrap ((rd [a1_0, a1_1, a1_2, a1_3] a2_1) - (IntKind.i16.wrap (t152)))) a1_1, aup a2_1 2 (IntKind.i16.wrap ((rd [a1_0, a1_1, a1_2, a1_3] a2_1) - (IntKind.i16.wrap (t152)))) a1_2, aup a2_1 3 (IntKind.i16.wrap ((rd [a1_0, a1_1, a1_2, a1_3] a2_1) - (IntKind.i16.wrap (t152)))) a1_3] a2_2) + (IntKind.i16.wrap (t152)))) (aup a2_1 2 (IntKind.i16.wrap ((rd [a1_0, a1_1, a1_2, a1_3] a2_1) - (IntKind.i16.wrap (t152)))) a1_2)), (aup a2_2 3 (IntKind.i16.wrap ((rd [aup a2_1 0 (IntKind.i16.wrap ((rd [a1_0, a1_1, a1_2, a1_3] a2_1) - (IntKind.i16.wrap (t152)))) a1_0, aup a2_1 1 (IntKind.i16.wrap ((rd [a1_0, a1_1, a1_2, a1_3] a2_1) - (IntKind.i16.wrap (t152)))) a1_1, aup a2_1 2 (IntKind.i16.wrap ((rd [a1_0, a1_1, a1_2, a1_3] a2_1) - (IntKind.i16.wrap (t152)))) a1_2, aup a2_1 3 (IntKind.i16.wrap ((rd [a1_0, a1_1, a1_2, a1_3] a2_1) - (IntKind.i16.wrap (t152)))) a1_3] a2_2) + (IntKind.i16.wrap (t152)))) (aup a2_1 3 (IntKind.i16.wrap ((rd [a1_0, a1_1, a1_2, a1_3] a2_1) - (IntKind.i16.wrap (t152)))) a1_3)), H', ⟨by have := HJ3.out; have := HJ43.out; first | omega | exact Nat.le_refl _⟩, ⟨pl_ BK143⟩, ⟨pl_ BK144⟩, ⟨pl_ BK145⟩, ⟨pl_ BK146⟩, ⟨pl_ BK150⟩, ⟨bl_ HB⟩⟩
             ·rw [if_neg c88] at H
              exact absurd H (by simp)
            ·rw [if_neg c87] at H
             exact absurd H (by simp)
           ·rw [if_neg c86] at H
            exact absurd H (by simp)
          ·rw [if_neg c84] at H
           exact absurd H (by simp)
         ·rw [if_neg c83] at H
          exact absurd H (by simp)
        ·rw [if_neg c81] at H
         have c81b0 : (a2_0 == 0) = false := beq_eq_false_iff_ne.mpr c81
         have c81b1 : (a2_0 != 0) = true := bne_iff_ne.mpr c81
         (first | rw [c81b0] | (simp only [i64_w, i32_w]; rw [c81b0]) | skip)
         by_cases c120 : a2_0 = 1
         ·rw [if_pos c120] at H
          have c120b0 : (a2_0 == 1) = true := beq_iff_eq.mpr c120
          have c120b1 : (a2_0 != 1) = false := bne_eq_false_iff_eq.mpr c120
          clear c120
          by_cases c122 : 0 ≤ a2_1
          ·rw [if_pos c122] at H
           have c122b0 : decide (0 ≤ a2_1) = true := decide_eq_true c122
           clear c122
           by_cases c123 : a2_1 < (l0_0.length : Int)
           ·rw [if_pos c123] at H
            have c123b0 : decide (a2_1 < (l0_0.length : Int)) = true := decide_eq_true c123
            clear c123
            by_cases c124 : a2_1 < 4
            ·rw [if_pos c124] at H
             have c124b0 : decide (a2_1 < 4) = true := decide_eq_true c124
             clear c124
             have H' := Aside0.mk H
             clear H
             try go_wp2
             have n0_ : Aside0 (((((w72.setCell ⟨gb150, 0, none⟩ (.int .i16 a1_0)).setCell ⟨gb150, 1, none⟩ (.int .i16 a1_1)).setCell ⟨gb150, 2, none⟩ (.int .i16 a1_2)).setCell ⟨gb150, 3, none⟩ (.int .i16 a1_3)).heap[gp0]? = some (.cells #[.slice A0_0 l0_0.length c0_0, .int .i16 a0_1, .int .i16 a0_2, .int .i16 a0_3, .int .i16 a0_4, .bool a0_5] 32 (0, 0))) := ⟨pf_ BK143 NB143_150⟩
             have n1_ : Aside0 (((((w72.setCell ⟨gb150, 0, none⟩ (.int .i16 a1_0)).setCell ⟨gb150, 1, none⟩ (.int .i16 a1_1)).setCell ⟨gb150, 2, none⟩ (.int .i16 a1_2)).setCell ⟨gb150, 3, none⟩ (.int .i16 a1_3)).heap[gb144]? = some (.cells #[.int .i16 a1_0, .int .i16 a1_1, .int .i16 a1_2, .int .i16 a1_3] 30 (0, 0))) := ⟨pf_ BK144 NB144_150⟩
             have n2_ : Aside0 (((((w72.setCell ⟨gb150, 0, none⟩ (.int .i16 a1_0)).setCell ⟨gb150, 1, none⟩ (.int .i16 a1_1)).setCell ⟨gb150, 2, none⟩ (.int .i16 a1_2)).setCell ⟨gb150, 3, none⟩ (.int .i16 a1_3)).heap[gb145]? = some (.cells #[.int .i8 a2_0, .int .i8 a2_1, .int .i8 a2_2] 60 (0, 0))) := ⟨pf_ BK145 NB145_150⟩
             have n3_ : Aside0 (((((w72.setCell ⟨gb150, 0, none⟩ (.int .i16 a1_0)).setCell ⟨gb150, 1, none⟩ (.int .i16 a1_1)).setCell ⟨gb150, 2, none⟩ (.int .i16 a1_2)).setCell ⟨gb150, 3, none⟩ (.int .i16 a1_3)).heap[gb146]? = some (.cells #[.int .i16 0, .int .i16 0, .int .i16 0, .int .i16 0] 30 (0, 0))) := ⟨pf_ BK146 NB146_150⟩
             have n4_ : Aside0 (((((w72.setCell ⟨gb150, 0, none⟩ (.int .i16 a1_0)).setCell ⟨gb150, 1, none⟩ (.int .i16 a1_1)).setCell ⟨gb150, 2, none⟩ (.int .i16 a1_2)).setCell ⟨gb150, 3, none⟩ (.int .i16 a1_3)).heap[gb150]? = some (.cells #[.int .i16 a1_0, .int .i16 a1_1, .int .i16 a1_2, .int .i16 a1_3] 30 (0, 0))) := ⟨by (with_reducible repeat (first | refine blk_drewN ?_ _ | refine blk_drew ?_ | refine blk_alloc ?_ _)); refine blk_put (cs := #[.int .i16 a1_0, .int .i16 a1_1, .int .i16 a1_2, .int .i16 0]) ?_ 3 _ rfl; (with_reducible repeat (first | refine blk_drewN ?_ _ | refine blk_drew ?_ | refine blk_alloc ?_ _)); refine blk_put (cs := #[.int .i16 a1_0, .int .i16 a1_1, .int .i16 0, .int .i16 0]) ?_ 2 _ rfl; (with_reducible repeat (first | refine blk_drewN ?_ _ | refine blk_drew ?_ | refine blk_alloc ?_ _)); refine blk_put (cs := #[.int .i16 a1_0, .int .i16 0, .int .i16 0, .int .i16 0]) ?_ 1 _ rfl; (with_reducible repeat (first | refine blk_drewN ?_ _ | refine blk_drew ?_ | refine blk_alloc ?_ _)); refine blk_put (cs := #[.int .i16 0, .int .i16 0, .int .i16 0, .int .i16 0]) ?_ 0 _ rfl; (with_reducible repeat (first | refine blk_drewN ?_ _ | refine blk_drew ?_ | refine blk_alloc ?_ _)); exact BK150.out⟩
             have n5_ : Aside0 (Below w.heap.size w ((((w72.setCell ⟨gb150, 0, none⟩ (.int .i16 a1_0)).setCell ⟨gb150, 1, none⟩ (.int .i16 a1_1)).setCell ⟨gb150, 2, none⟩ (.int .i16 a1_2)).setCell ⟨gb150, 3, none⟩ (.int .i16 a1_3))) := ⟨bs_ HB GE150⟩
             (try clear BK143)
             (try clear BK144)
             (try clear BK145)
             (try clear BK146)
             (try clear BK150)
             (try clear HB)
             generalize ((((w72.setCell ⟨gb150, 0, none⟩ (.int .i16 a1_0)).setCell ⟨gb150, 1, none⟩ (.int .i16 a1_1)).setCell ⟨gb150, 2, none⟩ (.int .i16 a1_2)).setCell ⟨gb150, 3, none⟩ (.int .i16 a1_3)) = w127 at n0_ n1_ n2_ n3_ n4_ n5_ ⊢
             have BK143 := n0_
             have BK144 := n1_
             have BK145 := n2_
             have BK146 := n3_
             have BK150 := n4_
             have HB := n5_
             clear n0_ n1_ n2_ n3_ n4_ n5_
             refine wp_region_still_tail 10 (by kernel_rfl) (by kernel_rfl) ?_
             simp only [List.take_succ_cons, List.take_zero, List.drop_succ_cons, List.drop_zero]
             refine tail_shown ?_
             have n0_ := A_ (blk_drew BK143.out)
             have n1_ := A_ (blk_drew BK144.out)
             have n2_ := A_ (blk_drew BK145.out)
             have n3_ := A_ (blk_drew BK146.out)
             have n4_ := A_ (blk_drew BK150.out)
             have n5_ := A_ (below_drew1 HB.out)
             clear BK143
             clear BK144
             clear BK145
             clear BK146
             clear BK150
             clear HB
             have BK143 := n0_
             have BK144 := n1_
             have BK145 := n2_
             have BK146 := n3_
             have BK150 := n4_
             have HB := n5_
             clear n0_ n1_ n2_ n3_ n4_ n5_
             generalize w127.drew = w128 at BK143 BK144 BK145 BK146 BK150 HB ⊢
             have hnb129 := NB145_143.out
             have hnc129 := NB143_145.out
             have hnb130 := NB145_144.out
             have hnc130 := NB144_145.out
             have hnb131 := NB145_146.out
             have hnc131 := NB146_145.out
             have hnb132 := NB145_150.out
             have hnc132 := NB150_145.out
             have hcz133_0 : w128.cell? ⟨gb145, 0, none⟩ = some (.int .i8 a2_0) := (blk_cell BK145.out 0).trans rfl
             have hcz133_1 : w128.cell? ⟨gb145, 1, none⟩ = some (.int .i8 a2_1) := (blk_cell BK145.out 1).trans rfl
             have hcz133_2 : w128.cell? ⟨gb145, 2, none⟩ = some (.int .i8 a2_2) := (blk_cell BK145.out 2).trans rfl
             have hfz133_0 := blk_frozen BK145.out 0
             have hfz133_1 := blk_frozen BK145.out 1
             have hfz133_2 := blk_frozen BK145.out 2
             have hnb134 := NB143_144.out
             have hnc134 := NB144_143.out
             have hnb135 := NB143_146.out
             have hnc135 := NB146_143.out
             have hnb136 := NB143_150.out
             have hnc136 := NB150_143.out
             have hcz137_0 : w128.cell? ⟨gp0, 0, none⟩ = some (.slice A0_0 l0_0.length c0_0) := (blk_cell BK143.out 0).trans rfl
             have hcz137_1 : w128.cell? ⟨gp0, 1, none⟩ = some (.int .i16 a0_1) := (blk_cell BK143.out 1).trans rfl
             have hcz137_2 : w128.cell? ⟨gp0, 2, none⟩ = some (.int .i16 a0_2) := (blk_cell BK143.out 2).trans rfl
             have hcz137_3 : w128.cell? ⟨gp0, 3, none⟩ = some (.int .i16 a0_3) := (blk_cell BK143.out 3).trans rfl
             have hcz137_4 : w128.cell? ⟨gp0, 4, none⟩ = some (.int .i16 a0_4) := (blk_cell BK143.out 4).trans rfl
             have hcz137_5 : w128.cell? ⟨gp0, 5, none⟩ = some (.bool a0_5) := (blk_cell BK143.out 5).trans rfl
             have hfz137_0 := blk_frozen BK143.out 0
             have hfz137_1 := blk_frozen BK143.out 1
             have hfz137_2 := blk_frozen BK143.out 2
             have hfz137_3 := blk_frozen BK143.out 3
             have hfz137_4 := blk_frozen BK143.out 4
             have hfz137_5 := blk_frozen BK143.out 5
             have p153 : 0 ≤ (a2_1 : Int) := asm_
             have q153 : a2_1 < (l0_0.length : Int) := asm_
             obtain ⟨ad153, e153, hx153_0⟩ := Kd.at_int HR0_0.out a2_1 p153 q153
             cases e153
             (try replace hx153_0 := (HB.out.cell (World.block_lt_of_cell? w _ hx153_0)).trans hx153_0)
             replace p153 := eq_true p153
             replace q153 := eq_true q153
             have hnb138 := NB150_144.out
             have hnc138 := NB144_150.out
             have hnb139 := NB150_146.out
             have hnc139 := NB146_150.out
             have hcz140_0 : w128.cell? ⟨gb150, 0, none⟩ = some (.int .i16 a1_0) := (blk_cell BK150.out 0).trans rfl
             have hcz140_1 : w128.cell? ⟨gb150, 1, none⟩ = some (.int .i16 a1_1) := (blk_cell BK150.out 1).trans rfl
             have hcz140_2 : w128.cell? ⟨gb150, 2, none⟩ = some (.int .i16 a1_2) := (blk_cell BK150.out 2).trans rfl
             have hcz140_3 : w128.cell? ⟨gb150, 3, none⟩ = some (.int .i16 a1_3) := (blk_cell BK150.out 3).trans rfl
             have hfz140_0 := blk_frozen BK150.out 0
             have hfz140_1 := blk_frozen BK150.out 1
             have hfz140_2 := blk_frozen BK150.out 2
             have hfz140_3 := blk_frozen BK150.out 3
             have p125 : 0 ≤ (a2_1 : Int) := asm_
             have q125 : (a2_1 : Int) < 4 := asm_
             have hx125 : w128.cell? ⟨gb150, (a2_1 : Int).toNat, none⟩ = some (.int .i16 (rd [a1_0, a1_1, a1_2, a1_3] a2_1)) := ard_cell (k := .i16) (l := [a1_0, a1_1, a1_2, a1_3]) BK150.out p125 q125
             have hf125 := blk_frozen BK150.out (a2_1 : Int).toNat
             have P125 := Aside0.mk p125
             have Q125 := Aside0.mk q125
             replace p125 := eq_true p125
             replace q125 := eq_true q125
             repeat still_step
             (try refine wpStill_nil ?_)
             (try simp only [i64_w, i32_w])
             try go_wp2_with (first | ((with_reducible refine gate_store (t := 23) (p := 124) rfl ?_); refine store_event (t := 23) (p := 124) (v := ?vo_w142) (w1 := (w128.setCell ⟨gb150, (a2_1 : Int).toNat, none⟩ (.int .i16 (rd l0_0 a2_1)))) ?hg ?ho ?hn ?hr ?_; (case ho => rfl); (case hg => rfl); (case hn => rfl); (case hr => first | (go_simp; done) | (go_simp; rfl)); intro w142 hw; have n0_ : Aside0 (w142.heap[gp0]? = some (.cells #[.slice (some ad153) l0_0.length c0_0, .int .i16 a0_1, .int .i16 a0_2, .int .i16 a0_3, .int .i16 a0_4, .bool a0_5] 32 (0, 0))) := ⟨(by rw [hw]; exact (pf_ BK143 NB143_150))⟩; have n1_ : Aside0 (w142.heap[gb144]? = some (.cells #[.int .i16 a1_0, .int .i16 a1_1, .int .i16 a1_2, .int .i16 a1_3] 30 (0, 0))) := ⟨(by rw [hw]; exact (pf_ BK144 NB144_150))⟩; have n2_ : Aside0 (w142.heap[gb145]? = some (.cells #[.int .i8 a2_0, .int .i8 a2_1, .int .i8 a2_2] 60 (0, 0))) := ⟨(by rw [hw]; exact (pf_ BK145 NB145_150))⟩; have n3_ : Aside0 (w142.heap[gb146]? = some (.cells #[.int .i16 0, .int .i16 0, .int .i16 0, .int .i16 0] 30 (0, 0))) := ⟨(by rw [hw]; exact (pf_ BK146 NB146_150))⟩; have n4_ : Aside0 (w142.heap[gb150]? = some (.cells #[.int .i16 (aup a2_1 0 (rd l0_0 a2_1) a1_0), .int .i16 (aup a2_1 1 (rd l0_0 a2_1) a1_1), .int .i16 (aup a2_1 2 (rd l0_0 a2_1) a1_2), .int .i16 (aup a2_1 3 (rd l0_0 a2_1) a1_3)] 30 (0, 0))) := ⟨(by rw [hw]; exact (by (with_reducible repeat (first | refine blk_drewN ?_ _ | refine blk_drew ?_ | refine blk_alloc ?_ _)); refine blk_put (cs := #[.int .i16 a1_0, .int .i16 a1_1, .int .i16 a1_2, .int .i16 a1_3]) ?_ (a2_1 : Int).toNat _ (ups_set (k := .i16) (l := [a1_0, a1_1, a1_2, a1_3]) P125.out); (with_reducible repeat (first | refine blk_drewN ?_ _ | refine blk_drew ?_ | refine blk_alloc ?_ _)); exact BK150.out))⟩; have n5_ : Aside0 (Below w.heap.size w w142) := ⟨(by rw [hw]; exact (bs_ HB GE150))⟩; clear hw; clear BK143; clear BK144; clear BK145; clear BK146; clear BK150; clear HB; have BK143 := n0_; have BK144 := n1_; have BK145 := n2_; have BK146 := n3_; have BK150 := n4_; have HB := n5_; clear n0_ n1_ n2_ n3_ n4_ n5_))
             go_meet
             case rel => exact ⟨_, (aup a2_1 0 (rd l0_0 a2_1) a1_0), (aup a2_1 1 (rd l0_0 a2_1) a1_1), (aup a2_1 2 (rd l0_0 a2_1) a1_2), (aup a2_1 3 (rd l0_0 a2_1) a1_3), H', ⟨by have := HJ3.out; have := HJ43.out; first | omega | exact Nat.le_refl _⟩, ⟨pl_ BK143⟩, ⟨pl_ BK144⟩, ⟨pl_ BK145⟩, ⟨pl_ BK146⟩, ⟨pl_ BK150⟩, ⟨bl_ HB⟩⟩
            ·rw [if_neg c124] at H
             exact absurd H (by simp)
           ·rw [if_neg c123] at H
            exact absurd H (by simp)
          ·rw [if_neg c122] at H
           exact absurd H (by simp)
         ·rw [if_neg c120] at H
          have c120b0 : (a2_0 == 1) = false := beq_eq_false_iff_ne.mpr c120
          have c120b1 : (a2_0 != 1) = true := bne_iff_ne.mpr c120
          by_cases c143 : a2_0 = 2
          ·rw [if_pos c143] at H
           have c143b0 : (a2_0 == 2) = true := beq_iff_eq.mpr c143
           have c143b1 : (a2_0 != 2) = false := bne_eq_false_iff_eq.mpr c143
           clear c143
           by_cases c144 : 0 ≤ a2_1
           ·rw [if_pos c144] at H
            have c144b0 : decide (0 ≤ a2_1) = true := decide_eq_true c144
            clear c144
            by_cases c145 : a2_1 < 4
            ·rw [if_pos c145] at H
             have c145b0 : decide (a2_1 < 4) = true := decide_eq_true c145
             clear c145
             have H' := Aside0.mk H
             clear H
             have hnb148 := NB145_143.out
             have hnc148 := NB143_145.out
             have hnb149 := NB145_144.out
             have hnc149 := NB144_145.out
             have hnb150 := NB145_146.out
             have hnc150 := NB146_145.out
             have hnb151 := NB145_150.out
             have hnc151 := NB150_145.out
             have hcz152_0 : w72.cell? ⟨gb145, 0, none⟩ = some (.int .i8 a2_0) := (blk_cell BK145.out 0).trans rfl
             have hcz152_1 : w72.cell? ⟨gb145, 1, none⟩ = some (.int .i8 a2_1) := (blk_cell BK145.out 1).trans rfl
             have hcz152_2 : w72.cell? ⟨gb145, 2, none⟩ = some (.int .i8 a2_2) := (blk_cell BK145.out 2).trans rfl
             have hfz152_0 := blk_frozen BK145.out 0
             have hfz152_1 := blk_frozen BK145.out 1
             have hfz152_2 := blk_frozen BK145.out 2
             go_wp2_with (first | ((with_reducible refine gate_dst (N := 129) rfl ?_); have p146 : 0 ≤ (a2_1 : Int) := asm_; have q146 : (a2_1 : Int) < 4 := asm_; have P146 := Aside0.mk p146; have Q146 := Aside0.mk q146; replace p146 := eq_true p146; replace q146 := eq_true q146; refine addr_event ?hg (N := 129) ?hd (v := .pointer (some ⟨gb150, (a2_1 : Int).toNat, none⟩)) ?hr ?_; (case hd => rfl); (case hg => rfl); (case hr => first | (go_simp; done) | (go_simp; rfl)); have n0_ : Aside0 (((((w72.setCell ⟨gb150, 0, none⟩ (.int .i16 a1_0)).setCell ⟨gb150, 1, none⟩ (.int .i16 a1_1)).setCell ⟨gb150, 2, none⟩ (.int .i16 a1_2)).setCell ⟨gb150, 3, none⟩ (.int .i16 a1_3)).heap[gp0]? = some (.cells #[.slice A0_0 l0_0.length c0_0, .int .i16 a0_1, .int .i16 a0_2, .int .i16 a0_3, .int .i16 a0_4, .bool a0_5] 32 (0, 0))) := ⟨pf_ BK143 NB143_150⟩; have n1_ : Aside0 (((((w72.setCell ⟨gb150, 0, none⟩ (.int .i16 a1_0)).setCell ⟨gb150, 1, none⟩ (.int .i16 a1_1)).setCell ⟨gb150, 2, none⟩ (.int .i16 a1_2)).setCell ⟨gb150, 3, none⟩ (.int .i16 a1_3)).heap[gb144]? = some (.cells #[.int .i16 a1_0, .int .i16 a1_1, .int .i16 a1_2, .int .i16 a1_3] 30 (0, 0))) := ⟨pf_ BK144 NB144_150⟩; have n2_ : Aside0 (((((w72.setCell ⟨gb150, 0, none⟩ (.int .i16 a1_0)).setCell ⟨gb150, 1, none⟩ (.int .i16 a1_1)).setCell ⟨gb150, 2, none⟩ (.int .i16 a1_2)).setCell ⟨gb150, 3, none⟩ (.int .i16 a1_3)).heap[gb145]? = some (.cells #[.int .i8 a2_0, .int .i8 a2_1, .int .i8 a2_2] 60 (0, 0))) := ⟨pf_ BK145 NB145_150⟩; have n3_ : Aside0 (((((w72.setCell ⟨gb150, 0, none⟩ (.int .i16 a1_0)).setCell ⟨gb150, 1, none⟩ (.int .i16 a1_1)).setCell ⟨gb150, 2, none⟩ (.int .i16 a1_2)).setCell ⟨gb150, 3, none⟩ (.int .i16 a1_3)).heap[gb146]? = some (.cells #[.int .i16 0, .int .i16 0, .int .i16 0, .int .i16 0] 30 (0, 0))) := ⟨pf_ BK146 NB146_150⟩; have n4_ : Aside0 (((((w72.setCell ⟨gb150, 0, none⟩ (.int .i16 a1_0)).setCell ⟨gb150, 1, none⟩ (.int .i16 a1_1)).setCell ⟨gb150, 2, none⟩ (.int .i16 a1_2)).setCell ⟨gb150, 3, none⟩ (.int .i16 a1_3)).heap[gb150]? = some (.cells #[.int .i16 a1_0, .int .i16 a1_1, .int .i16 a1_2, .int .i16 a1_3] 30 (0, 0))) := ⟨by (with_reducible repeat (first | refine blk_drewN ?_ _ | refine blk_drew ?_ | refine blk_alloc ?_ _)); refine blk_put (cs := #[.int .i16 a1_0, .int .i16 a1_1, .int .i16 a1_2, .int .i16 0]) ?_ 3 _ rfl; (with_reducible repeat (first | refine blk_drewN ?_ _ | refine blk_drew ?_ | refine blk_alloc ?_ _)); refine blk_put (cs := #[.int .i16 a1_0, .int .i16 a1_1, .int .i16 0, .int .i16 0]) ?_ 2 _ rfl; (with_reducible repeat (first | refine blk_drewN ?_ _ | refine blk_drew ?_ | refine blk_alloc ?_ _)); refine blk_put (cs := #[.int .i16 a1_0, .int .i16 0, .int .i16 0, .int .i16 0]) ?_ 1 _ rfl; (with_reducible repeat (first | refine blk_drewN ?_ _ | refine blk_drew ?_ | refine blk_alloc ?_ _)); refine blk_put (cs := #[.int .i16 0, .int .i16 0, .int .i16 0, .int .i16 0]) ?_ 0 _ rfl; (with_reducible repeat (first | refine blk_drewN ?_ _ | refine blk_drew ?_ | refine blk_alloc ?_ _)); exact BK150.out⟩; have n5_ : Aside0 (Below w.heap.size w ((((w72.setCell ⟨gb150, 0, none⟩ (.int .i16 a1_0)).setCell ⟨gb150, 1, none⟩ (.int .i16 a1_1)).setCell ⟨gb150, 2, none⟩ (.int .i16 a1_2)).setCell ⟨gb150, 3, none⟩ (.int .i16 a1_3))) := ⟨bs_ HB GE150⟩; (try clear BK143); (try clear BK144); (try clear BK145); (try clear BK146); (try clear BK150); (try clear HB); generalize ((((w72.setCell ⟨gb150, 0, none⟩ (.int .i16 a1_0)).setCell ⟨gb150, 1, none⟩ (.int .i16 a1_1)).setCell ⟨gb150, 2, none⟩ (.int .i16 a1_2)).setCell ⟨gb150, 3, none⟩ (.int .i16 a1_3)) = w153 at n0_ n1_ n2_ n3_ n4_ n5_ ⊢; have BK143 := n0_; have BK144 := n1_; have BK145 := n2_; have BK146 := n3_; have BK150 := n4_; have HB := n5_; clear n0_ n1_ n2_ n3_ n4_ n5_; have hx146 : w153.cell? ⟨gb150, (a2_1 : Int).toNat, none⟩ = some (.int .i16 (rd [a1_0, a1_1, a1_2, a1_3] a2_1)) := ard_cell (k := .i16) (l := [a1_0, a1_1, a1_2, a1_3]) BK150.out P146.out Q146.out; have hf146 := blk_frozen BK150.out (a2_1 : Int).toNat) | ((with_reducible refine gate_store (t := 23) (p := 129) rfl ?_); refine store_event (t := 23) (p := 129) (v := ?vo_w155) (w1 := (w153.setCell ⟨gb150, (a2_1 : Int).toNat, none⟩ (.int .i16 0))) ?hg ?ho ?hn ?hr ?_; (case ho => rfl); (case hg => rfl); (case hn => rfl); (case hr => first | (go_simp; done) | (go_simp; rfl)); intro w155 hw; have n0_ : Aside0 (w155.heap[gp0]? = some (.cells #[.slice A0_0 l0_0.length c0_0, .int .i16 a0_1, .int .i16 a0_2, .int .i16 a0_3, .int .i16 a0_4, .bool a0_5] 32 (0, 0))) := ⟨(by rw [hw]; exact (pf_ BK143 NB143_150))⟩; have n1_ : Aside0 (w155.heap[gb144]? = some (.cells #[.int .i16 a1_0, .int .i16 a1_1, .int .i16 a1_2, .int .i16 a1_3] 30 (0, 0))) := ⟨(by rw [hw]; exact (pf_ BK144 NB144_150))⟩; have n2_ : Aside0 (w155.heap[gb145]? = some (.cells #[.int .i8 a2_0, .int .i8 a2_1, .int .i8 a2_2] 60 (0, 0))) := ⟨(by rw [hw]; exact (pf_ BK145 NB145_150))⟩; have n3_ : Aside0 (w155.heap[gb146]? = some (.cells #[.int .i16 0, .int .i16 0, .int .i16 0, .int .i16 0] 30 (0, 0))) := ⟨(by rw [hw]; exact (pf_ BK146 NB146_150))⟩; have n4_ : Aside0 (w155.heap[gb150]? = some (.cells #[.int .i16 (aup a2_1 0 0 a1_0), .int .i16 (aup a2_1 1 0 a1_1), .int .i16 (aup a2_1 2 0 a1_2), .int .i16 (aup a2_1 3 0 a1_3)] 30 (0, 0))) := ⟨(by rw [hw]; exact (by (with_reducible repeat (first | refine blk_drewN ?_ _ | refine blk_drew ?_ | refine blk_alloc ?_ _)); refine blk_put (cs := #[.int .i16 a1_0, .int .i16 a1_1, .int .i16 a1_2, .int .i16 a1_3]) ?_ (a2_1 : Int).toNat _ (ups_set (k := .i16) (l := [a1_0, a1_1, a1_2, a1_3]) P146.out); (with_reducible repeat (first | refine blk_drewN ?_ _ | refine blk_drew ?_ | refine blk_alloc ?_ _)); exact BK150.out))⟩; have n5_ : Aside0 (Below w.heap.size w w155) := ⟨(by rw [hw]; exact (bs_ HB GE150))⟩; clear hw; clear BK143; clear BK144; clear BK145; clear BK146; clear BK150; clear HB; have BK143 := n0_; have BK144 := n1_; have BK145 := n2_; have BK146 := n3_; have BK150 := n4_; have HB := n5_; clear n0_ n1_ n2_ n3_ n4_ n5_))
             go_meet
             case rel => exact ⟨_, (aup a2_1 0 0 a1_0), (aup a2_1 1 0 a1_1), (aup a2_1 2 0 a1_2), (aup a2_1 3 0 a1_3), H', ⟨by have := HJ3.out; have := HJ43.out; first | omega | exact Nat.le_refl _⟩, ⟨pl_ BK143⟩, ⟨pl_ BK144⟩, ⟨pl_ BK145⟩, ⟨pl_ BK146⟩, ⟨pl_ BK150⟩, ⟨bl_ HB⟩⟩
            ·rw [if_neg c145] at H
             exact absurd H (by simp)
           ·rw [if_neg c144] at H
            exact absurd H (by simp)
          ·rw [if_neg c143] at H
           have c143b0 : (a2_0 == 2) = false := beq_eq_false_iff_ne.mpr c143
           have c143b1 : (a2_0 != 2) = true := bne_iff_ne.mpr c143
           have H' := Aside0.mk H
           clear H
           go_wp2
           go_meet
           case rel => exact ⟨_, (a1_0), (a1_1), (a1_2), (a1_3), H', ⟨by have := HJ3.out; have := HJ43.out; first | omega | exact Nat.le_refl _⟩, ⟨pf_ BK143 NB143_150⟩, ⟨pf_ BK144 NB144_150⟩, ⟨pf_ BK145 NB145_150⟩, ⟨pf_ BK146 NB146_150⟩, ⟨by (with_reducible repeat (first | refine blk_drewN ?_ _ | refine blk_drew ?_ | refine blk_alloc ?_ _)); refine blk_put (cs := #[.int .i16 a1_0, .int .i16 a1_1, .int .i16 a1_2, .int .i16 0]) ?_ 3 _ rfl; (with_reducible repeat (first | refine blk_drewN ?_ _ | refine blk_drew ?_ | refine blk_alloc ?_ _)); refine blk_put (cs := #[.int .i16 a1_0, .int .i16 a1_1, .int .i16 0, .int .i16 0]) ?_ 2 _ rfl; (with_reducible repeat (first | refine blk_drewN ?_ _ | refine blk_drew ?_ | refine blk_alloc ?_ _)); refine blk_put (cs := #[.int .i16 a1_0, .int .i16 0, .int .i16 0, .int .i16 0]) ?_ 1 _ rfl; (with_reducible repeat (first | refine blk_drewN ?_ _ | refine blk_drew ?_ | refine blk_alloc ?_ _)); refine blk_put (cs := #[.int .i16 0, .int .i16 0, .int .i16 0, .int .i16 0]) ?_ 0 _ rfl; (with_reducible repeat (first | refine blk_drewN ?_ _ | refine blk_drew ?_ | refine blk_alloc ?_ _)); exact BK150.out⟩, ⟨bs_ HB GE150⟩⟩
       case rest =>
        clear HC67
        try clear c1
        try clear p1
        try clear q1
        try clear hx1
        try clear c2
        try clear p2
        try clear c3
        try clear c4
        try clear c5
        try clear c6
        try clear p6
        try clear c7
        try clear c8
        try clear p8
        try clear q8
        try clear hx8
        try clear hf8
        try clear c9
        try clear p9
        try clear q9
        try clear hx9
        try clear hf9
        try clear c10
        try clear c11
        try clear c12
        try clear p12
        try clear q12
        try clear hx12
        try clear hf12
        try clear c13
        try clear c14
        try clear p14
        try clear q14
        try clear hx14
        try clear hf14
        try clear c15
        try clear p15
        try clear q15
        try clear hx15
        try clear c17
        try clear c18
        try clear c18b0
        try clear c18b1
        try clear c19
        try clear c20
        try clear c21
        try clear c23
        try clear c24
        try clear c25
        try clear c27
        try clear c28
        try clear c29
        try clear c31
        try clear c32
        try clear c33
        try clear c35
        try clear c36
        try clear c37
        try clear c39
        try clear c40
        try clear c41
        try clear c42
        try clear c45
        try clear c45b0
        try clear c45b1
        try clear c46
        try clear c46b0
        try clear c46b1
        try clear c47
        try clear c48
        try clear c49
        try clear c51
        try clear c52
        try clear c53
        try clear c55
        try clear c56
        try clear c57
        try clear c59
        try clear c60
        try clear c62
        try clear c63
        try clear c64
        try clear p64
        try clear c65
        try clear c68
        try clear c69
        try clear c70
        try clear c73
        try clear c74
        try clear c75
        try clear c76
        try clear c78
        try clear c79
        try clear c81
        try clear c81b0
        try clear c81b1
        try clear c83
        try clear c83b0
        try clear c84
        try clear c84b0
        try clear p85
        try clear q85
        try clear hx85
        try clear hf85
        try clear c86
        try clear c86b0
        try clear c87
        try clear c87b0
        try clear c88
        try clear c88b0
        try clear p89
        try clear q89
        try clear hx89
        try clear hf89
        try clear p91
        try clear q91
        try clear hx91
        try clear hf91
        try clear p92
        try clear q92
        try clear hx92
        try clear hf92
        try clear p94
        try clear q94
        try clear hx94
        try clear hf94
        try clear p95
        try clear q95
        try clear hx95
        try clear hf95
        try clear c99
        try clear c100
        try clear c101
        try clear c102
        try clear c104
        try clear c105
        try clear c106
        try clear c108
        try clear c109
        try clear c112
        try clear c120
        try clear c120b0
        try clear c120b1
        try clear c122
        try clear c122b0
        try clear c123
        try clear c123b0
        try clear c124
        try clear c124b0
        try clear p125
        try clear q125
        try clear hx125
        try clear hf125
        try clear c129
        try clear c130
        try clear c131
        try clear c132
        try clear c134
        try clear c135
        try clear c136
        try clear c138
        try clear c139
        try clear c143
        try clear c143b0
        try clear c143b1
        try clear c144
        try clear c144b0
        try clear c145
        try clear c145b0
        try clear p146
        try clear q146
        try clear hx146
        try clear hf146
        try clear c148
        try clear c149
        try clear c150
        try clear c151
        try clear p151
        try clear q151
        try clear hx151
        try clear p153
        try clear q153
        try clear hx153
        try clear hcz103_0
        try clear hcz103_1
        try clear hcz103_2
        try clear hcz107_0
        try clear hcz107_1
        try clear hcz107_2
        try clear hcz107_3
        try clear hcz110_0
        try clear hcz110_1
        try clear hcz110_2
        try clear hcz110_3
        try clear hcz110_4
        try clear hcz110_5
        try clear hcz111_0
        try clear hcz111_1
        try clear hcz111_2
        try clear hcz113_0
        try clear hcz113_1
        try clear hcz113_2
        try clear hcz113_3
        try clear hcz116_0
        try clear hcz116_1
        try clear hcz116_2
        try clear hcz117_0
        try clear hcz117_1
        try clear hcz117_2
        try clear hcz117_3
        try clear hcz11_0
        try clear hcz11_1
        try clear hcz11_2
        try clear hcz11_3
        try clear hcz11_4
        try clear hcz11_5
        try clear hcz133_0
        try clear hcz133_1
        try clear hcz133_2
        try clear hcz137_0
        try clear hcz137_1
        try clear hcz137_2
        try clear hcz137_3
        try clear hcz137_4
        try clear hcz137_5
        try clear hcz140_0
        try clear hcz140_1
        try clear hcz140_2
        try clear hcz140_3
        try clear hcz152_0
        try clear hcz152_1
        try clear hcz152_2
        try clear hcz22_0
        try clear hcz22_1
        try clear hcz22_2
        try clear hcz26_0
        try clear hcz26_1
        try clear hcz26_2
        try clear hcz30_0
        try clear hcz30_1
        try clear hcz30_2
        try clear hcz34_0
        try clear hcz34_1
        try clear hcz34_2
        try clear hcz38_0
        try clear hcz38_1
        try clear hcz38_2
        try clear hcz43_0
        try clear hcz43_1
        try clear hcz43_2
        try clear hcz43_3
        try clear hcz50_0
        try clear hcz50_1
        try clear hcz50_2
        try clear hcz54_0
        try clear hcz54_1
        try clear hcz54_2
        try clear hcz58_0
        try clear hcz58_1
        try clear hcz58_2
        try clear hcz61_0
        try clear hcz61_1
        try clear hcz61_2
        try clear hcz61_3
        try clear hcz61_4
        try clear hcz61_5
        try clear hcz66_0
        try clear hcz66_1
        try clear hcz66_2
        try clear hcz66_3
        try clear hcz71_0
        try clear hcz71_1
        try clear hcz71_2
        try clear hcz71_3
        try clear hcz77_0
        try clear hcz77_1
        try clear hcz77_2
        try clear hcz77_3
        try clear hcz80_0
        try clear hcz80_1
        try clear hcz80_2
        try clear hfz103_0
        try clear hfz103_1
        try clear hfz103_2
        try clear hfz107_0
        try clear hfz107_1
        try clear hfz107_2
        try clear hfz107_3
        try clear hfz110_0
        try clear hfz110_1
        try clear hfz110_2
        try clear hfz110_3
        try clear hfz110_4
        try clear hfz110_5
        try clear hfz111_0
        try clear hfz111_1
        try clear hfz111_2
        try clear hfz113_0
        try clear hfz113_1
        try clear hfz113_2
        try clear hfz113_3
        try clear hfz116_0
        try clear hfz116_1
        try clear hfz116_2
        try clear hfz117_0
        try clear hfz117_1
        try clear hfz117_2
        try clear hfz117_3
        try clear hfz11_0
        try clear hfz11_1
        try clear hfz11_2
        try clear hfz11_3
        try clear hfz11_4
        try clear hfz11_5
        try clear hfz133_0
        try clear hfz133_1
        try clear hfz133_2
        try clear hfz137_0
        try clear hfz137_1
        try clear hfz137_2
        try clear hfz137_3
        try clear hfz137_4
        try clear hfz137_5
        try clear hfz140_0
        try clear hfz140_1
        try clear hfz140_2
        try clear hfz140_3
        try clear hfz152_0
        try clear hfz152_1
        try clear hfz152_2
        try clear hfz22_0
        try clear hfz22_1
        try clear hfz22_2
        try clear hfz26_0
        try clear hfz26_1
        try clear hfz26_2
        try clear hfz30_0
        try clear hfz30_1
        try clear hfz30_2
        try clear hfz34_0
        try clear hfz34_1
        try clear hfz34_2
        try clear hfz38_0
        try clear hfz38_1
        try clear hfz38_2
        try clear hfz43_0
        try clear hfz43_1
        try clear hfz43_2
        try clear hfz43_3
        try clear hfz50_0
        try clear hfz50_1
        try clear hfz50_2
        try clear hfz54_0
        try clear hfz54_1
        try clear hfz54_2
        try clear hfz58_0
        try clear hfz58_1
        try clear hfz58_2
        try clear hfz61_0
        try clear hfz61_1
        try clear hfz61_2
        try clear hfz61_3
        try clear hfz61_4
        try clear hfz61_5
        try clear hfz66_0
        try clear hfz66_1
        try clear hfz66_2
        try clear hfz66_3
        try clear hfz71_0
        try clear hfz71_1
        try clear hfz71_2
        try clear hfz71_3
        try clear hfz77_0
        try clear hfz77_1
        try clear hfz77_2
        try clear hfz77_3
        try clear hfz80_0
        try clear hfz80_1
        try clear hfz80_2
        try clear hx151_0
        try clear hx153_0
        try clear p125
        try clear p146
        try clear p151
        try clear p153
        try clear p2
        try clear p6
        try clear p85
        try clear p89
        try clear p91
        try clear p92
        try clear p94
        try clear p95
        try clear q125
        try clear q146
        try clear q151
        try clear q153
        try clear q85
        try clear q89
        try clear q91
        try clear q92
        try clear q94
        try clear q95
        obtain ⟨kq, x151000_66, x151001_66, x151002_66, x151003_66, HA, HJ66, BK143, BK144, BK145, BK146, BK150, HB⟩ := hcut
        cases kq with
        | zero => exact absurd HA.out (by simp [spec_l02Move.j2])
        | succ kj66 =>
         have H := HA.out
         clear HA
         simp only [spec_l02Move.j2] at H
         by_cases c156 : (x151000_66 == a1_0 && (x151001_66 == a1_1 && (x151002_66 == a1_2 && (x151003_66 == a1_3)))) = true
         ·rw [if_pos c156] at H
          have c156b0 : (x151000_66 == a1_0 && (x151001_66 == a1_1 && (x151002_66 == a1_2 && (x151003_66 == a1_3)))) = true := c156
          (try (have c156b1 : decide (x151000_66 = a1_0 && (x151001_66 == a1_1 && (x151002_66 == a1_2 && (x151003_66 == a1_3)))) = true := by simpa using c156))
          (try (have c156b2 : (x151000_66 == a1_0 && (x151001_66 == a1_1 && (x151002_66 == a1_2 && (x151003_66 == a1_3)))) = true := by simpa using c156))
          clear c156
          simp only [Option.some.injEq, Prod.mk.injEq] at H
          obtain ⟨rfl, rfl, rfl, rfl, rfl⟩ := H
          have hnb157 := NB150_143.out
          have hnc157 := NB143_150.out
          have hnb158 := NB150_144.out
          have hnc158 := NB144_150.out
          have hnb159 := NB150_145.out
          have hnc159 := NB145_150.out
          have hnb160 := NB150_146.out
          have hnc160 := NB146_150.out
          have hcz161_0 : wc.cell? ⟨gb150, 0, none⟩ = some (.int .i16 x151000_66) := (blk_cell BK150.out 0).trans rfl
          have hcz161_1 : wc.cell? ⟨gb150, 1, none⟩ = some (.int .i16 x151001_66) := (blk_cell BK150.out 1).trans rfl
          have hcz161_2 : wc.cell? ⟨gb150, 2, none⟩ = some (.int .i16 x151002_66) := (blk_cell BK150.out 2).trans rfl
          have hcz161_3 : wc.cell? ⟨gb150, 3, none⟩ = some (.int .i16 x151003_66) := (blk_cell BK150.out 3).trans rfl
          have hfz161_0 := blk_frozen BK150.out 0
          have hfz161_1 := blk_frozen BK150.out 1
          have hfz161_2 := blk_frozen BK150.out 2
          have hfz161_3 := blk_frozen BK150.out 3
          have hnb162 := NB144_143.out
          have hnc162 := NB143_144.out
          have hnb163 := NB144_145.out
          have hnc163 := NB145_144.out
          have hnb164 := NB144_146.out
          have hnc164 := NB146_144.out
          have hcz165_0 : wc.cell? ⟨gb144, 0, none⟩ = some (.int .i16 a1_0) := (blk_cell BK144.out 0).trans rfl
          have hcz165_1 : wc.cell? ⟨gb144, 1, none⟩ = some (.int .i16 a1_1) := (blk_cell BK144.out 1).trans rfl
          have hcz165_2 : wc.cell? ⟨gb144, 2, none⟩ = some (.int .i16 a1_2) := (blk_cell BK144.out 2).trans rfl
          have hcz165_3 : wc.cell? ⟨gb144, 3, none⟩ = some (.int .i16 a1_3) := (blk_cell BK144.out 3).trans rfl
          have hfz165_0 := blk_frozen BK144.out 0
          have hfz165_1 := blk_frozen BK144.out 1
          have hfz165_2 := blk_frozen BK144.out 2
          have hfz165_3 := blk_frozen BK144.out 3
          have hnb166 := NB146_143.out
          have hnc166 := NB143_146.out
          have hnb167 := NB146_145.out
          have hnc167 := NB145_146.out
          have hcz168_0 : wc.cell? ⟨gb146, 0, none⟩ = some (.int .i16 0) := (blk_cell BK146.out 0).trans rfl
          have hcz168_1 : wc.cell? ⟨gb146, 1, none⟩ = some (.int .i16 0) := (blk_cell BK146.out 1).trans rfl
          have hcz168_2 : wc.cell? ⟨gb146, 2, none⟩ = some (.int .i16 0) := (blk_cell BK146.out 2).trans rfl
          have hcz168_3 : wc.cell? ⟨gb146, 3, none⟩ = some (.int .i16 0) := (blk_cell BK146.out 3).trans rfl
          have hfz168_0 := blk_frozen BK146.out 0
          have hfz168_1 := blk_frozen BK146.out 1
          have hfz168_2 := blk_frozen BK146.out 2
          have hfz168_3 := blk_frozen BK146.out 3
          go_wp2
          refine bodyPost_ret (results_ct rfl _ _ gb146 30 #[.int .i16 0, .int .i16 0, .int .i16 0, .int .i16 0] (0, 0) _ rfl (by (with_reducible repeat (first | refine blk_drewN ?_ _ | refine blk_drew ?_ | refine blk_alloc ?_ _)); refine blk_put (cs := #[.int .i16 0, .int .i16 0, .int .i16 0, .int .i16 0]) ?_ 3 _ rfl; (with_reducible repeat (first | refine blk_drewN ?_ _ | refine blk_drew ?_ | refine blk_alloc ?_ _)); refine blk_put (cs := #[.int .i16 0, .int .i16 0, .int .i16 0, .int .i16 0]) ?_ 2 _ rfl; (with_reducible repeat (first | refine blk_drewN ?_ _ | refine blk_drew ?_ | refine blk_alloc ?_ _)); refine blk_put (cs := #[.int .i16 0, .int .i16 0, .int .i16 0, .int .i16 0]) ?_ 1 _ rfl; (with_reducible repeat (first | refine blk_drewN ?_ _ | refine blk_drew ?_ | refine blk_alloc ?_ _)); refine blk_put (cs := #[.int .i16 0, .int .i16 0, .int .i16 0, .int .i16 0]) ?_ 0 _ rfl; (with_reducible repeat (first | refine blk_drewN ?_ _ | refine blk_drew ?_ | refine blk_alloc ?_ _)); exact BK146.out) Try.underlying30 rfl (by kernel_rfl)) rfl ?_
          exact ⟨by first | rfl | (simp [errW_none, errW_some] <;> rfl) | (simp [*, errW_none, errW_some] <;> rfl), bs_ HB GE146⟩
         ·rw [if_neg c156] at H
          have c156b0 : (x151000_66 == a1_0 && (x151001_66 == a1_1 && (x151002_66 == a1_2 && (x151003_66 == a1_3)))) = false := by simpa using c156
          (try (have c156b1 : decide (x151000_66 = a1_0 && (x151001_66 == a1_1 && (x151002_66 == a1_2 && (x151003_66 == a1_3)))) = false := by simpa using c156))
          (try (have c156b2 : (x151000_66 == a1_0 && (x151001_66 == a1_1 && (x151002_66 == a1_2 && (x151003_66 == a1_3)))) = false := by simpa using c156))
          (try (have c156b3 : ¬ (x151000_66 = a1_0 && (x151001_66 == a1_1 && (x151002_66 == a1_2 && (x151003_66 == a1_3)))) := by simpa using c156))
          clear c156
          simp only [Option.some.injEq, Prod.mk.injEq] at H
          obtain ⟨rfl, rfl, rfl, rfl, rfl⟩ := H
          have hnb169 := NB150_143.out
          have hnc169 := NB143_150.out
          have hnb170 := NB150_144.out
          have hnc170 := NB144_150.out
          have hnb171 := NB150_145.out
          have hnc171 := NB145_150.out
          have hnb172 := NB150_146.out
          have hnc172 := NB146_150.out
          have hcz173_0 : wc.cell? ⟨gb150, 0, none⟩ = some (.int .i16 x151000_66) := (blk_cell BK150.out 0).trans rfl
          have hcz173_1 : wc.cell? ⟨gb150, 1, none⟩ = some (.int .i16 x151001_66) := (blk_cell BK150.out 1).trans rfl
          have hcz173_2 : wc.cell? ⟨gb150, 2, none⟩ = some (.int .i16 x151002_66) := (blk_cell BK150.out 2).trans rfl
          have hcz173_3 : wc.cell? ⟨gb150, 3, none⟩ = some (.int .i16 x151003_66) := (blk_cell BK150.out 3).trans rfl
          have hfz173_0 := blk_frozen BK150.out 0
          have hfz173_1 := blk_frozen BK150.out 1
          have hfz173_2 := blk_frozen BK150.out 2
          have hfz173_3 := blk_frozen BK150.out 3
          have hnb174 := NB144_143.out
          have hnc174 := NB143_144.out
          have hnb175 := NB144_145.out
          have hnc175 := NB145_144.out
          have hnb176 := NB144_146.out
          have hnc176 := NB146_144.out
          have hcz177_0 : wc.cell? ⟨gb144, 0, none⟩ = some (.int .i16 a1_0) := (blk_cell BK144.out 0).trans rfl
          have hcz177_1 : wc.cell? ⟨gb144, 1, none⟩ = some (.int .i16 a1_1) := (blk_cell BK144.out 1).trans rfl
          have hcz177_2 : wc.cell? ⟨gb144, 2, none⟩ = some (.int .i16 a1_2) := (blk_cell BK144.out 2).trans rfl
          have hcz177_3 : wc.cell? ⟨gb144, 3, none⟩ = some (.int .i16 a1_3) := (blk_cell BK144.out 3).trans rfl
          have hfz177_0 := blk_frozen BK144.out 0
          have hfz177_1 := blk_frozen BK144.out 1
          have hfz177_2 := blk_frozen BK144.out 2
          have hfz177_3 := blk_frozen BK144.out 3
          have hnb178 := NB146_143.out
          have hnc178 := NB143_146.out
          have hnb179 := NB146_145.out
          have hnc179 := NB145_146.out
          have hcz180_0 : wc.cell? ⟨gb146, 0, none⟩ = some (.int .i16 0) := (blk_cell BK146.out 0).trans rfl
          have hcz180_1 : wc.cell? ⟨gb146, 1, none⟩ = some (.int .i16 0) := (blk_cell BK146.out 1).trans rfl
          have hcz180_2 : wc.cell? ⟨gb146, 2, none⟩ = some (.int .i16 0) := (blk_cell BK146.out 2).trans rfl
          have hcz180_3 : wc.cell? ⟨gb146, 3, none⟩ = some (.int .i16 0) := (blk_cell BK146.out 3).trans rfl
          have hfz180_0 := blk_frozen BK146.out 0
          have hfz180_1 := blk_frozen BK146.out 1
          have hfz180_2 := blk_frozen BK146.out 2
          have hfz180_3 := blk_frozen BK146.out 3
          go_wp2
          refine bodyPost_ret (results_ct rfl _ _ gb146 30 #[.int .i16 x151000_66, .int .i16 x151001_66, .int .i16 x151002_66, .int .i16 x151003_66] (0, 0) _ rfl (by (with_reducible repeat (first | refine blk_drewN ?_ _ | refine blk_drew ?_ | refine blk_alloc ?_ _)); refine blk_put (cs := #[.int .i16 x151000_66, .int .i16 x151001_66, .int .i16 x151002_66, .int .i16 0]) ?_ 3 _ rfl; (with_reducible repeat (first | refine blk_drewN ?_ _ | refine blk_drew ?_ | refine blk_alloc ?_ _)); refine blk_put (cs := #[.int .i16 x151000_66, .int .i16 x151001_66, .int .i16 0, .int .i16 0]) ?_ 2 _ rfl; (with_reducible repeat (first | refine blk_drewN ?_ _ | refine blk_drew ?_ | refine blk_alloc ?_ _)); refine blk_put (cs := #[.int .i16 x151000_66, .int .i16 0, .int .i16 0, .int .i16 0]) ?_ 1 _ rfl; (with_reducible repeat (first | refine blk_drewN ?_ _ | refine blk_drew ?_ | refine blk_alloc ?_ _)); refine blk_put (cs := #[.int .i16 0, .int .i16 0, .int .i16 0, .int .i16 0]) ?_ 0 _ rfl; (with_reducible repeat (first | refine blk_drewN ?_ _ | refine blk_drew ?_ | refine blk_alloc ?_ _)); exact BK146.out) Try.underlying30 rfl (by kernel_rfl)) rfl ?_
          exact ⟨by first | rfl | (simp [errW_none, errW_some] <;> rfl) | (simp [*, errW_none, errW_some] <;> rfl), bs_ HB GE146⟩

end Go.Proofs.Ytodmfjophjhbeaa.M
