-- By this seat's own program over the kit's printer (arrays, functions told by hand); nothing of it is trusted: the kernel checks it.
import Derived.Test.YtodmfjophjhbeaaMx0
import Derived.Test.YtodmfjophjhbeaaMx1
import Derived.Test.YtodmfjophjhbeaaMx2
import Derived.Test.YtodmfjophjhbeaaMx7
namespace Go.Proofs.Ytodmfjophjhbeaa.M
open Go.RowKit Go.Proofs.YtodmfjophjhbeaaW.PrintWords Go.Proofs.YtodmfjophjhbeaaW.PrintLast Go.Proofs.YtodmfjophjhbeaaW.PrintMore
attribute [local go_sem] max2_int min2_int max_two min_two max_three min_three max_four min_four   -- for this text's walks alone
set_option linter.unusedVariables false
set_option linter.unusedSimpArgs false

attribute [local go_sem high] eqA30
/-! ### spec_l02Move: function 85 -/
mutual
def spec_l02Move.j0 : Nat → Bool → List Int → Int → Int → Int → Int → Bool → Int → Int → Int → Int → Int → Int → Int → Option (Int × Int × Int × Int × Int)
 | 0, _, _, _, _, _, _, _, _, _, _, _, _, _, _ => none
 | k + 1, x47, x126000, x126001, x126002, x126003, x126004, x126005, x127000, x127001, x127002, x127003, x128000, x128001, x128002 => if x47 = true then (some (0, 0, 0, 0, 2)) else (if x128000 = 0 then (if x128001 = x128002 then (spec_l02Move.j1 k true x126000 x126001 x126002 x126003 x126004 x126005 x127000 x127001 x127002 x127003 x128000 x128001 x128002) else (spec_l02Move.j1 k false x126000 x126001 x126002 x126003 x126004 x126005 x127000 x127001 x127002 x127003 x128000 x128001 x128002)) else (spec_l02Move.j1 k (!x126005) x126000 x126001 x126002 x126003 x126004 x126005 x127000 x127001 x127002 x127003 x128000 x128001 x128002))
def spec_l02Move.j1 : Nat → Bool → List Int → Int → Int → Int → Int → Bool → Int → Int → Int → Int → Int → Int → Int → Option (Int × Int × Int × Int × Int)
 | 0, _, _, _, _, _, _, _, _, _, _, _, _, _, _ => none
 | k + 1, x70, x126000, x126001, x126002, x126003, x126004, x126005, x127000, x127001, x127002, x127003, x128000, x128001, x128002 => if x70 = true then (some (0, 0, 0, 0, 4)) else (if x128000 = 0 then (if 0 ≤ x128001 then (if x128001 < 4 then (if 0 ≤ x128002 then (if x128002 < (x126000.length : Int) then (if x128002 < 4 then ((spec_l00Min.f (wrap64 (rd [x127000, x127001, x127002, x127003] x128001)) (wrap64 (IntKind.i16.wrap ((rd x126000 x128002) - (rd [x127000, x127001, x127002, x127003] x128002))))).bind fun t134 => (spec_l02Move.j2 k x127000 x127001 x127002 x127003 (aup x128002 0 (IntKind.i16.wrap ((rd [aup x128001 0 (IntKind.i16.wrap ((rd [x127000, x127001, x127002, x127003] x128001) - (IntKind.i16.wrap (t134)))) x127000, aup x128001 1 (IntKind.i16.wrap ((rd [x127000, x127001, x127002, x127003] x128001) - (IntKind.i16.wrap (t134)))) x127001, aup x128001 2 (IntKind.i16.wrap ((rd [x127000, x127001, x127002, x127003] x128001) - (IntKind.i16.wrap (t134)))) x127002, aup x128001 3 (IntKind.i16.wrap ((rd [x127000, x127001, x127002, x127003] x128001) - (IntKind.i16.wrap (t134)))) x127003] x128002) + (IntKind.i16.wrap (t134)))) (aup x128001 0 (IntKind.i16.wrap ((rd [x127000, x127001, x127002, x127003] x128001) - (IntKind.i16.wrap (t134)))) x127000)) (aup x128002 1 (IntKind.i16.wrap ((rd [aup x128001 0 (IntKind.i16.wrap ((rd [x127000, x127001, x127002, x127003] x128001) - (IntKind.i16.wrap (t134)))) x127000, aup x128001 1 (IntKind.i16.wrap ((rd [x127000, x127001, x127002, x127003] x128001) - (IntKind.i16.wrap (t134)))) x127001, aup x128001 2 (IntKind.i16.wrap ((rd [x127000, x127001, x127002, x127003] x128001) - (IntKind.i16.wrap (t134)))) x127002, aup x128001 3 (IntKind.i16.wrap ((rd [x127000, x127001, x127002, x127003] x128001) - (IntKind.i16.wrap (t134)))) x127003] x128002) + (IntKind.i16.wrap (t134)))) (aup x128001 1 (IntKind.i16.wrap ((rd [x127000, x127001, x127002, x127003] x128001) - (IntKind.i16.wrap (t134)))) x127001)) (aup x128002 2 (IntKind.i16.wrap ((rd [aup x128001 0 (IntKind.i16.wrap ((rd [x127000, x127001, x127002, x127003] x128001) - (IntKind.i16.wrap (t134)))) x127000, aup x128001 1 (IntKind.i16.wrap ((rd [x127000, x127001, x127002, x127003] x128001) - (IntKind.i16.wrap (t134)))) x127001, aup x128001 2 (IntKind.i16.wrap ((rd [x127000, x127001, x127002, x127003] x128001) - (IntKind.i16.wrap (t134)))) x127002, aup x128001 3 (IntKind.i16.wrap ((rd [x127000, x127001, x127002, x127003] x128001) - (IntKind.i16.wrap (t134)))) x127003] x128002) + (IntKind.i16.wrap (t134)))) (aup x128001 2 (IntKind.i16.wrap ((rd [x127000, x127001, x127002, x127003] x128001) - (IntKind.i16.wrap (t134)))) x127002)) (aup x128002 3 (IntKind.i16.wrap ((rd [aup x128001 0 (IntKind.i16.wrap ((rd [x127000, x127001, x127002, x127003] x128001) - (IntKind.i16.wrap (t134)))) x127000, aup x128001 1 (IntKind.i16.wrap ((rd [x127000, x127001, x127002, x127003] x128001) - (IntKind.i16.wrap (t134)))) x127001, aup x128001 2 (IntKind.i16.wrap ((rd [x127000, x127001, x127002, x127003] x128001) - (IntKind.i16.wrap (t134)))) x127002, aup x128001 3 (IntKind.i16.wrap ((rd [x127000, x127001, x127002, x127003] x128001) - (IntKind.i16.wrap (t134)))) x127003] x128002) + (IntKind.i16.wrap (t134)))) (aup x128001 3 (IntKind.i16.wrap ((rd [x127000, x127001, x127002, x127003] x128001) - (IntKind.i16.wrap (t134)))) x127003)))) else (none)) else (none)) else (none)) else (none)) else (none)) else (if x128000 = 1 then (if 0 ≤ x128001 then (if x128001 < (x126000.length : Int) then (if x128001 < 4 then (spec_l02Move.j2 k x127000 x127001 x127002 x127003 (aup x128001 0 (rd x126000 x128001) x127000) (aup x128001 1 (rd x126000 x128001) x127001) (aup x128001 2 (rd x126000 x128001) x127002) (aup x128001 3 (rd x126000 x128001) x127003)) else (none)) else (none)) else (none)) else (if x128000 = 2 then (if 0 ≤ x128001 then (if x128001 < 4 then (spec_l02Move.j2 k x127000 x127001 x127002 x127003 (aup x128001 0 0 x127000) (aup x128001 1 0 x127001) (aup x128001 2 0 x127002) (aup x128001 3 0 x127003)) else (none)) else (none)) else (spec_l02Move.j2 k x127000 x127001 x127002 x127003 x127000 x127001 x127002 x127003))))
def spec_l02Move.j2 : Nat → Int → Int → Int → Int → Int → Int → Int → Int → Option (Int × Int × Int × Int × Int)
 | 0, _, _, _, _, _, _, _, _ => none
 | k + 1, x127000, x127001, x127002, x127003, x133000, x133001, x133002, x133003 => if (x133000 == x127000 && (x133001 == x127001 && (x133002 == x127002 && (x133003 == x127003)))) = true then (some (0, 0, 0, 0, 4)) else (some (x133000, x133001, x133002, x133003, 0))
end
def spec_l02Move.f (k : Nat) (l0_0 : List Int) (a0_1 : Int) (a0_2 : Int) (a0_3 : Int) (a0_4 : Int) (a0_5 : Bool) (a1_0 : Int) (a1_1 : Int) (a1_2 : Int) (a1_3 : Int) (a2_0 : Int) (a2_1 : Int) (a2_2 : Int) : Option (Int × Int × Int × Int × Int) := (spec_l00In.f (wrap64 (a2_0)) 0 2).bind fun t129 => (if t129 = true then ((spec_l00In.f (wrap64 (a2_1)) 0 (wrap64 ((l0_0.length : Int) - 1))).bind fun t130 => (if t130 = true then ((spec_l00In.f (wrap64 (a2_2)) 0 (wrap64 ((l0_0.length : Int) - 1))).bind fun t131 => (if t131 = true then (if a2_0 = 0 then (spec_l02Move.j0 k false l0_0 a0_1 a0_2 a0_3 a0_4 a0_5 a1_0 a1_1 a1_2 a1_3 a2_0 a2_1 a2_2) else (spec_l02Move.j0 k (a2_2 != 0) l0_0 a0_1 a0_2 a0_3 a0_4 a0_5 a1_0 a1_1 a1_2 a1_3 a2_0 a2_1 a2_2)) else (spec_l02Move.j0 k true l0_0 a0_1 a0_2 a0_3 a0_4 a0_5 a1_0 a1_1 a1_2 a1_3 a2_0 a2_1 a2_2))) else (spec_l02Move.j0 k true l0_0 a0_1 a0_2 a0_3 a0_4 a0_5 a1_0 a1_1 a1_2 a1_3 a2_0 a2_1 a2_2))) else (spec_l02Move.j0 k true l0_0 a0_1 a0_2 a0_3 a0_4 a0_5 a1_0 a1_1 a1_2 a1_3 a2_0 a2_1 a2_2))
theorem spec_l02Move.mono_l : ∀ k, (∀ y0 y1 y2 y3 y4 y5 y6 y7 y8 y9 y10 y11 y12 y13, LeO (spec_l02Move.j0 k y0 y1 y2 y3 y4 y5 y6 y7 y8 y9 y10 y11 y12 y13) (spec_l02Move.j0 (k + 1) y0 y1 y2 y3 y4 y5 y6 y7 y8 y9 y10 y11 y12 y13)) ∧ (∀ y0 y1 y2 y3 y4 y5 y6 y7 y8 y9 y10 y11 y12 y13, LeO (spec_l02Move.j1 k y0 y1 y2 y3 y4 y5 y6 y7 y8 y9 y10 y11 y12 y13) (spec_l02Move.j1 (k + 1) y0 y1 y2 y3 y4 y5 y6 y7 y8 y9 y10 y11 y12 y13)) ∧ (∀ y0 y1 y2 y3 y4 y5 y6 y7, LeO (spec_l02Move.j2 k y0 y1 y2 y3 y4 y5 y6 y7) (spec_l02Move.j2 (k + 1) y0 y1 y2 y3 y4 y5 y6 y7))
 | 0 => ⟨fun _ _ _ _ _ _ _ _ _ _ _ _ _ _ r h => by simp [spec_l02Move.j0] at h, fun _ _ _ _ _ _ _ _ _ _ _ _ _ _ r h => by simp [spec_l02Move.j1] at h, fun _ _ _ _ _ _ _ _ r h => by simp [spec_l02Move.j2] at h⟩
 | k + 1 => by
  obtain ⟨ih0, ih1, ih2⟩ := spec_l02Move.mono_l k
  refine ⟨?_, ?_, ?_⟩
  ·intro y0 y1 y2 y3 y4 y5 y6 y7 y8 y9 y10 y11 y12 y13
   unfold spec_l02Move.j0
   repeat' first
   | (with_reducible exact ih0 _ _ _ _ _ _ _ _ _ _ _ _ _ _)
   | (with_reducible exact ih1 _ _ _ _ _ _ _ _ _ _ _ _ _ _)
   | (with_reducible exact ih2 _ _ _ _ _ _ _ _)
   | (with_reducible exact LeO.refl _)
   | (with_reducible exact LeO.none _)
   | (with_reducible refine LeO.ite ?_ ?_)
   | (with_reducible refine LeO.bind ?_ (fun _ => ?_))
   | exact ih0 _ _ _ _ _ _ _ _ _ _ _ _ _ _
   | exact ih1 _ _ _ _ _ _ _ _ _ _ _ _ _ _
   | exact ih2 _ _ _ _ _ _ _ _
   | exact LeO.none _
   | refine LeO.ite ?_ ?_
   | refine LeO.bind ?_ (fun _ => ?_)
  ·intro y0 y1 y2 y3 y4 y5 y6 y7 y8 y9 y10 y11 y12 y13
   unfold spec_l02Move.j1
   repeat' first
   | (with_reducible exact ih0 _ _ _ _ _ _ _ _ _ _ _ _ _ _)
   | (with_reducible exact ih1 _ _ _ _ _ _ _ _ _ _ _ _ _ _)
   | (with_reducible exact ih2 _ _ _ _ _ _ _ _)
   | (with_reducible exact LeO.refl _)
   | (with_reducible exact LeO.none _)
   | (with_reducible refine LeO.ite ?_ ?_)
   | (with_reducible refine LeO.bind ?_ (fun _ => ?_))
   | exact ih0 _ _ _ _ _ _ _ _ _ _ _ _ _ _
   | exact ih1 _ _ _ _ _ _ _ _ _ _ _ _ _ _
   | exact ih2 _ _ _ _ _ _ _ _
   | exact LeO.none _
   | refine LeO.ite ?_ ?_
   | refine LeO.bind ?_ (fun _ => ?_)
  ·intro y0 y1 y2 y3 y4 y5 y6 y7
   unfold spec_l02Move.j2
   repeat' first
   | (with_reducible exact ih0 _ _ _ _ _ _ _ _ _ _ _ _ _ _)
   | (with_reducible exact ih1 _ _ _ _ _ _ _ _ _ _ _ _ _ _)
   | (with_reducible exact ih2 _ _ _ _ _ _ _ _)
   | (with_reducible exact LeO.refl _)
   | (with_reducible exact LeO.none _)
   | (with_reducible refine LeO.ite ?_ ?_)
   | (with_reducible refine LeO.bind ?_ (fun _ => ?_))
   | exact ih0 _ _ _ _ _ _ _ _ _ _ _ _ _ _
   | exact ih1 _ _ _ _ _ _ _ _ _ _ _ _ _ _
   | exact ih2 _ _ _ _ _ _ _ _
   | exact LeO.none _
   | refine LeO.ite ?_ ?_
   | refine LeO.bind ?_ (fun _ => ?_)
theorem spec_l02Move.mono : ∀ a0 a1 a2 a3 a4 a5 a6 a7 a8 a9 a10 a11 a12 k, LeO (spec_l02Move.f k a0 a1 a2 a3 a4 a5 a6 a7 a8 a9 a10 a11 a12) (spec_l02Move.f (k + 1) a0 a1 a2 a3 a4 a5 a6 a7 a8 a9 a10 a11 a12) := by
 intro a0 a1 a2 a3 a4 a5 a6 a7 a8 a9 a10 a11 a12 k
 obtain ⟨ih0, ih1, ih2⟩ := spec_l02Move.mono_l k
 unfold spec_l02Move.f
 repeat' first
   | (with_reducible exact ih0 _ _ _ _ _ _ _ _ _ _ _ _ _ _)
   | (with_reducible exact ih1 _ _ _ _ _ _ _ _ _ _ _ _ _ _)
   | (with_reducible exact ih2 _ _ _ _ _ _ _ _)
   | (with_reducible exact LeO.refl _)
   | (with_reducible exact LeO.none _)
   | (with_reducible refine LeO.ite ?_ ?_)
   | (with_reducible refine LeO.bind ?_ (fun _ => ?_))
   | exact ih0 _ _ _ _ _ _ _ _ _ _ _ _ _ _
   | exact ih1 _ _ _ _ _ _ _ _ _ _ _ _ _ _
   | exact ih2 _ _ _ _ _ _ _ _
   | exact LeO.none _
   | refine LeO.ite ?_ ?_
   | refine LeO.bind ?_ (fun _ => ?_)
set_option maxHeartbeats 8000000 in
set_option maxRecDepth 100000 in
theorem spec_l02Move.calls (k : Nat) (gp0 : Nat) (A0_0 : Option Addr) (c0_0 : Nat) (l0_0 : List Int) (a0_1 : Int) (a0_2 : Int) (a0_3 : Int) (a0_4 : Int) (a0_5 : Bool) (a1_0 : Int) (a1_1 : Int) (a1_2 : Int) (a1_3 : Int) (a2_0 : Int) (a2_1 : Int) (a2_2 : Int) (r1 : Int) (r2 : Int) (r3 : Int) (r4 : Int) (r5 : Int) (w : World) (hb0 : w.heap[gp0]? = some (.cells #[.slice A0_0 l0_0.length c0_0, .int .i16 a0_1, .int .i16 a0_2, .int .i16 a0_3, .int .i16 a0_4, .bool a0_5] 32 (0, 0))) (hr0_0 : Kd.C (Kd.int .i16) w A0_0 l0_0.length l0_0) (hc0_0 : l0_0.length ≤ c0_0) (h : spec_l02Move.f k l0_0 a0_1 a0_2 a0_3 a0_4 a0_5 a1_0 a1_1 a1_2 a1_3 a2_0 a2_1 a2_2 = some (r1, r2, r3, r4, r5)) :
  Calls Try.prog 85 #[.pointer (some ⟨gp0, 0, none⟩), .agg #[.int .i16 a1_0, .int .i16 a1_1, .int .i16 a1_2, .int .i16 a1_3], .agg #[.int .i8 a2_0, .int .i8 a2_1, .int .i8 a2_2]] w fun e w' => e = .returned (.tuple #[.agg #[.int .i16 r1, .int .i16 r2, .int .i16 r3, .int .i16 r4], .int .i64 r5]) ∧ Below w.heap.size w w' := by
 have hu30 := Try.underlying30
 have hu60 := Try.underlying60
 have HR0_0 := Aside0.mk hr0_0
 have HC0_0 := Aside0.mk hc0_0
 clear hr0_0 hc0_0
 have BK125 := Aside0.mk hb0
 clear hb0
 have HB := A_ (Below.refl w.heap.size w)
 have H : ((spec_l00In.f (wrap64 (a2_0)) 0 2).bind fun t129 => (if t129 = true then ((spec_l00In.f (wrap64 (a2_1)) 0 (wrap64 ((l0_0.length : Int) - 1))).bind fun t130 => (if t130 = true then ((spec_l00In.f (wrap64 (a2_2)) 0 (wrap64 ((l0_0.length : Int) - 1))).bind fun t131 => (if t131 = true then (if a2_0 = 0 then (spec_l02Move.j0 k false l0_0 a0_1 a0_2 a0_3 a0_4 a0_5 a1_0 a1_1 a1_2 a1_3 a2_0 a2_1 a2_2) else (spec_l02Move.j0 k (a2_2 != 0) l0_0 a0_1 a0_2 a0_3 a0_4 a0_5 a1_0 a1_1 a1_2 a1_3 a2_0 a2_1 a2_2)) else (spec_l02Move.j0 k true l0_0 a0_1 a0_2 a0_3 a0_4 a0_5 a1_0 a1_1 a1_2 a1_3 a2_0 a2_1 a2_2))) else (spec_l02Move.j0 k true l0_0 a0_1 a0_2 a0_3 a0_4 a0_5 a1_0 a1_1 a1_2 a1_3 a2_0 a2_1 a2_2))) else (spec_l02Move.j0 k true l0_0 a0_1 a0_2 a0_3 a0_4 a0_5 a1_0 a1_1 a1_2 a1_3 a2_0 a2_1 a2_2))) = some (r1, r2, r3, r4, r5) := h
 clear h
 have HC4 := Aside0.mk H
 clear H
 go_enter Try.func85, Try.ntmps85
 go_upto_region 2 with (first | ((with_reducible refine gate_dst (N := 4) rfl ?_); refine box_event ?hg (N := 4) ?hd (cs := #[.int .i16 a1_0, .int .i16 a1_1, .int .i16 a1_2, .int .i16 a1_3]) (t := 30) ?hr ?_; (case hd => rfl); (case hg => rfl); (case hr => first | (go_simp; done) | (go_simp; rfl)); intro gb126 hg w5 hbox hb; have n0_ := A_ (blk_below (pl_ BK125) hb); have n1_ := A_ (below_step (bl_ HB) hb); have n2_ := A_ (hbox); have n3_ := A_ ((by rw [hg]; exact (below_size (bl_ HB)) : w.heap.size ≤ gb126)); have n4_ := n3_; have n5_ := A_ ((by rw [hg]; exact Nat.ne_of_lt (blk_lt (pl_ BK125)) : gp0 ≠ gb126)); have n6_ := Aside0.mk n5_.out.symm; clear BK125; clear HB; have BK125 := n0_; have HB := n1_; have BK126 := n2_; have GW126 := n3_; have GE126 := n4_; have NB125_126 := n5_; have NB126_125 := n6_; clear n0_ n1_ n2_ n3_ n4_ n5_ n6_; clear hb hbox hg) | ((with_reducible refine gate_dst (N := 5) rfl ?_); refine box_event ?hg (N := 5) ?hd (cs := #[.int .i8 a2_0, .int .i8 a2_1, .int .i8 a2_2]) (t := 60) ?hr ?_; (case hd => rfl); (case hg => rfl); (case hr => first | (go_simp; done) | (go_simp; rfl)); intro gb127 hg w6 hbox hb; have n0_ := A_ (blk_below (pl_ BK125) hb); have n1_ := A_ (blk_below (pl_ BK126) hb); have n2_ := A_ (below_step (bl_ HB) hb); have n3_ := A_ (hbox); have n4_ := A_ ((by rw [hg]; exact (below_size (bl_ HB)) : w.heap.size ≤ gb127)); have n5_ := n4_; have n6_ := A_ ((by rw [hg]; exact Nat.ne_of_lt (blk_lt (pl_ BK125)) : gp0 ≠ gb127)); have n7_ := Aside0.mk n6_.out.symm; have n8_ := A_ ((by rw [hg]; exact Nat.ne_of_lt (blk_lt (pl_ BK126)) : gb126 ≠ gb127)); have n9_ := Aside0.mk n8_.out.symm; clear BK125; clear BK126; clear HB; have BK125 := n0_; have BK126 := n1_; have HB := n2_; have BK127 := n3_; have GW127 := n4_; have GE127 := n5_; have NB125_127 := n6_; have NB127_125 := n7_; have NB126_127 := n8_; have NB127_126 := n9_; clear n0_ n1_ n2_ n3_ n4_ n5_ n6_ n7_ n8_ n9_; clear hb hbox hg) | ((with_reducible refine gate_dst (N := 6) rfl ?_); refine box_event ?hg (N := 6) ?hd (cs := #[.int .i16 0, .int .i16 0, .int .i16 0, .int .i16 0]) (t := 30) ?hr ?_; (case hd => rfl); (case hg => rfl); (case hr => first | (go_simp; done) | (go_simp; rfl)); intro gb128 hg w7 hbox hb; have n0_ := A_ (blk_below (pl_ BK125) hb); have n1_ := A_ (blk_below (pl_ BK126) hb); have n2_ := A_ (blk_below (pl_ BK127) hb); have n3_ := A_ (below_step (bl_ HB) hb); have n4_ := A_ (hbox); have n5_ := A_ ((by rw [hg]; exact (below_size (bl_ HB)) : w.heap.size ≤ gb128)); have n6_ := n5_; have n7_ := A_ ((by rw [hg]; exact Nat.ne_of_lt (blk_lt (pl_ BK125)) : gp0 ≠ gb128)); have n8_ := Aside0.mk n7_.out.symm; have n9_ := A_ ((by rw [hg]; exact Nat.ne_of_lt (blk_lt (pl_ BK126)) : gb126 ≠ gb128)); have n10_ := Aside0.mk n9_.out.symm; have n11_ := A_ ((by rw [hg]; exact Nat.ne_of_lt (blk_lt (pl_ BK127)) : gb127 ≠ gb128)); have n12_ := Aside0.mk n11_.out.symm; clear BK125; clear BK126; clear BK127; clear HB; have BK125 := n0_; have BK126 := n1_; have BK127 := n2_; have HB := n3_; have BK128 := n4_; have GW128 := n5_; have GE128 := n6_; have NB125_128 := n7_; have NB128_125 := n8_; have NB126_128 := n9_; have NB128_126 := n10_; have NB127_128 := n11_; have NB128_127 := n12_; clear n0_ n1_ n2_ n3_ n4_ n5_ n6_ n7_ n8_ n9_ n10_ n11_ n12_; clear hb hbox hg; have hnb8 := NB125_126.out; have hnc8 := NB126_125.out; have hnb9 := NB125_127.out; have hnc9 := NB127_125.out; have hnb10 := NB125_128.out; have hnc10 := NB128_125.out; obtain ⟨hcz11_0, hcz11_1, hcz11_2, hcz11_3, hcz11_4, hcz11_5, hfz11_0, hfz11_1, hfz11_2, hfz11_3, hfz11_4, hfz11_5⟩ := cl6_ BK125))
 (try simp only [Act.put, List.setIfInBounds_toArray, List.set_cons_zero, List.set_cons_succ])
 go_cut [47] (fun v47 wc => ∃ (kq : Nat) (x47_3 : Bool), v47 = .bool x47_3 ∧ Aside0 (spec_l02Move.j0 kq x47_3 l0_0 a0_1 a0_2 a0_3 a0_4 a0_5 a1_0 a1_1 a1_2 a1_3 a2_0 a2_1 a2_2 = some (r1, r2, r3, r4, r5)) ∧ Aside0 (kq ≤ k) ∧ Aside0 (wc.heap[gp0]? = some (.cells #[(.slice A0_0 l0_0.length c0_0), .int .i16 a0_1, .int .i16 a0_2, .int .i16 a0_3, .int .i16 a0_4, .bool a0_5] 32 (0, 0))) ∧ Aside0 (wc.heap[gb126]? = some (.cells #[.int .i16 a1_0, .int .i16 a1_1, .int .i16 a1_2, .int .i16 a1_3] 30 (0, 0))) ∧ Aside0 (wc.heap[gb127]? = some (.cells #[.int .i8 a2_0, .int .i8 a2_1, .int .i8 a2_2] 60 (0, 0))) ∧ Aside0 (wc.heap[gb128]? = some (.cells #[.int .i16 0, .int .i16 0, .int .i16 0, .int .i16 0] 30 (0, 0))) ∧ Aside0 (Below w.heap.size w wc))
 case first =>
  have H := HC4.out
  clear HC4
  replace H := Option.bind_eq_some_iff.mp H
  obtain ⟨t129, A120, H⟩ := H
  replace H : (if t129 = true then ((spec_l00In.f (wrap64 (a2_1)) 0 (wrap64 ((l0_0.length : Int) - 1))).bind fun t130 => (if t130 = true then ((spec_l00In.f (wrap64 (a2_2)) 0 (wrap64 ((l0_0.length : Int) - 1))).bind fun t131 => (if t131 = true then (if a2_0 = 0 then (spec_l02Move.j0 k false l0_0 a0_1 a0_2 a0_3 a0_4 a0_5 a1_0 a1_1 a1_2 a1_3 a2_0 a2_1 a2_2) else (spec_l02Move.j0 k (a2_2 != 0) l0_0 a0_1 a0_2 a0_3 a0_4 a0_5 a1_0 a1_1 a1_2 a1_3 a2_0 a2_1 a2_2)) else (spec_l02Move.j0 k true l0_0 a0_1 a0_2 a0_3 a0_4 a0_5 a1_0 a1_1 a1_2 a1_3 a2_0 a2_1 a2_2))) else (spec_l02Move.j0 k true l0_0 a0_1 a0_2 a0_3 a0_4 a0_5 a1_0 a1_1 a1_2 a1_3 a2_0 a2_1 a2_2))) else (spec_l02Move.j0 k true l0_0 a0_1 a0_2 a0_3 a0_4 a0_5 a1_0 a1_1 a1_2 a1_3 a2_0 a2_1 a2_2)) = some (r1, r2, r3, r4, r5) := H
  have A12 := Aside0.mk A120
  clear A120
  by_cases c13 : t129 = true
  ·subst c13
   have H1 : ((spec_l00In.f (wrap64 (a2_1)) 0 (wrap64 ((l0_0.length : Int) - 1))).bind fun t130 => (if t130 = true then ((spec_l00In.f (wrap64 (a2_2)) 0 (wrap64 ((l0_0.length : Int) - 1))).bind fun t131 => (if t131 = true then (if a2_0 = 0 then (spec_l02Move.j0 k false l0_0 a0_1 a0_2 a0_3 a0_4 a0_5 a1_0 a1_1 a1_2 a1_3 a2_0 a2_1 a2_2) else (spec_l02Move.j0 k (a2_2 != 0) l0_0 a0_1 a0_2 a0_3 a0_4 a0_5 a1_0 a1_1 a1_2 a1_3 a2_0 a2_1 a2_2)) else (spec_l02Move.j0 k true l0_0 a0_1 a0_2 a0_3 a0_4 a0_5 a1_0 a1_1 a1_2 a1_3 a2_0 a2_1 a2_2))) else (spec_l02Move.j0 k true l0_0 a0_1 a0_2 a0_3 a0_4 a0_5 a1_0 a1_1 a1_2 a1_3 a2_0 a2_1 a2_2))) = some (r1, r2, r3, r4, r5) := by rw [if_pos rfl] at H; exact H
   clear H
   have H := H1
   clear H1
   replace H := Option.bind_eq_some_iff.mp H
   obtain ⟨t130, A140, H⟩ := H
   replace H : (if t130 = true then ((spec_l00In.f (wrap64 (a2_2)) 0 (wrap64 ((l0_0.length : Int) - 1))).bind fun t131 => (if t131 = true then (if a2_0 = 0 then (spec_l02Move.j0 k false l0_0 a0_1 a0_2 a0_3 a0_4 a0_5 a1_0 a1_1 a1_2 a1_3 a2_0 a2_1 a2_2) else (spec_l02Move.j0 k (a2_2 != 0) l0_0 a0_1 a0_2 a0_3 a0_4 a0_5 a1_0 a1_1 a1_2 a1_3 a2_0 a2_1 a2_2)) else (spec_l02Move.j0 k true l0_0 a0_1 a0_2 a0_3 a0_4 a0_5 a1_0 a1_1 a1_2 a1_3 a2_0 a2_1 a2_2))) else (spec_l02Move.j0 k true l0_0 a0_1 a0_2 a0_3 a0_4 a0_5 a1_0 a1_1 a1_2 a1_3 a2_0 a2_1 a2_2)) = some (r1, r2, r3, r4, r5) := H
   have A14 := Aside0.mk A140
   clear A140
   by_cases c15 : t130 = true
   ·subst c15
    have H1 : ((spec_l00In.f (wrap64 (a2_2)) 0 (wrap64 ((l0_0.length : Int) - 1))).bind fun t131 => (if t131 = true then (if a2_0 = 0 then (spec_l02Move.j0 k false l0_0 a0_1 a0_2 a0_3 a0_4 a0_5 a1_0 a1_1 a1_2 a1_3 a2_0 a2_1 a2_2) else (spec_l02Move.j0 k (a2_2 != 0) l0_0 a0_1 a0_2 a0_3 a0_4 a0_5 a1_0 a1_1 a1_2 a1_3 a2_0 a2_1 a2_2)) else (spec_l02Move.j0 k true l0_0 a0_1 a0_2 a0_3 a0_4 a0_5 a1_0 a1_1 a1_2 a1_3 a2_0 a2_1 a2_2))) = some (r1, r2, r3, r4, r5) := by rw [if_pos rfl] at H; exact H
    clear H
    have H := H1
    clear H1
    replace H := Option.bind_eq_some_iff.mp H
    obtain ⟨t131, A160, H⟩ := H
    replace H : (if t131 = true then (if a2_0 = 0 then (spec_l02Move.j0 k false l0_0 a0_1 a0_2 a0_3 a0_4 a0_5 a1_0 a1_1 a1_2 a1_3 a2_0 a2_1 a2_2) else (spec_l02Move.j0 k (a2_2 != 0) l0_0 a0_1 a0_2 a0_3 a0_4 a0_5 a1_0 a1_1 a1_2 a1_3 a2_0 a2_1 a2_2)) else (spec_l02Move.j0 k true l0_0 a0_1 a0_2 a0_3 a0_4 a0_5 a1_0 a1_1 a1_2 a1_3 a2_0 a2_1 a2_2)) = some (r1, r2, r3, r4, r5) := H
    have A16 := Aside0.mk A160
    clear A160
    by_cases c17 : t131 = true
    ·subst c17
     have H1 : (if a2_0 = 0 then (spec_l02Move.j0 k false l0_0 a0_1 a0_2 a0_3 a0_4 a0_5 a1_0 a1_1 a1_2 a1_3 a2_0 a2_1 a2_2) else (spec_l02Move.j0 k (a2_2 != 0) l0_0 a0_1 a0_2 a0_3 a0_4 a0_5 a1_0 a1_1 a1_2 a1_3 a2_0 a2_1 a2_2)) = some (r1, r2, r3, r4, r5) := by rw [if_pos rfl] at H; exact H
     clear H
     have H := H1
     clear H1
     by_cases c18 : a2_0 = 0
     ·rw [if_pos c18] at H
      have c18b0 : (a2_0 == 0) = true := beq_iff_eq.mpr c18
      have c18b1 : (a2_0 != 0) = false := bne_eq_false_iff_eq.mpr c18
      clear c18
      (first | rw [c18b0] | (simp only [i64_w, i32_w]; rw [c18b0]) | skip)
      have H' := Aside0.mk H
      clear H
      have hnb19 := NB127_125.out
      have hnc19 := NB125_127.out
      have hnb20 := NB127_126.out
      have hnc20 := NB126_127.out
      have hnb21 := NB127_128.out
      have hnc21 := NB128_127.out
      obtain ⟨hcz22_0, hcz22_1, hcz22_2, hfz22_0, hfz22_1, hfz22_2⟩ := cl3_ BK127
      go_wp2_with (first | ((with_reducible refine gate_callee (f := 77) rfl ?_); refine goesL_ (some 20) rfl rfl Try.func77 (by kernel_rfl) rfl #[.int .i64 (wrap64 (a2_0)), .int .i64 0, .int .i64 2] rfl arg_ ?_; (with_reducible refine (spec_l00In.calls (wrap64 (a2_0)) 0 2 true _ A12.out).mono ?_); rintro e w' ⟨rfl, ⟨nd, rfl⟩⟩; refine ⟨_, rfl, ?_⟩) | (go_at_call 77; (with_reducible refine (spec_l00In.calls (wrap64 (a2_1)) 0 (wrap64 ((l0_0.length : Int) - 1)) true _ A14.out).mono ?_); rintro e w' ⟨rfl, ⟨nd, rfl⟩⟩) | (go_at_call 77; (with_reducible refine (spec_l00In.calls (wrap64 (a2_2)) 0 (wrap64 ((l0_0.length : Int) - 1)) true _ A16.out).mono ?_); rintro e w' ⟨rfl, ⟨nd, rfl⟩⟩))
      go_meet
      case rel => exact ⟨_, (false), rs_, H', ⟨by first | omega | exact Nat.le_refl _⟩, ⟨pl_ BK125⟩, ⟨pl_ BK126⟩, ⟨pl_ BK127⟩, ⟨pl_ BK128⟩, ⟨bl_ HB⟩⟩
     ·rw [if_neg c18] at H
      have c18b0 : (a2_0 == 0) = false := beq_eq_false_iff_ne.mpr c18
      have c18b1 : (a2_0 != 0) = true := bne_iff_ne.mpr c18
      (first | rw [c18b0] | (simp only [i64_w, i32_w]; rw [c18b0]) | skip)
      have H' := Aside0.mk H
      clear H
      have hnb23 := NB127_125.out
      have hnc23 := NB125_127.out
      have hnb24 := NB127_126.out
      have hnc24 := NB126_127.out
      have hnb25 := NB127_128.out
      have hnc25 := NB128_127.out
      obtain ⟨hcz26_0, hcz26_1, hcz26_2, hfz26_0, hfz26_1, hfz26_2⟩ := cl3_ BK127
      go_wp2_with (first | ((with_reducible refine gate_callee (f := 77) rfl ?_); refine goesL_ (some 20) rfl rfl Try.func77 (by kernel_rfl) rfl #[.int .i64 (wrap64 (a2_0)), .int .i64 0, .int .i64 2] rfl arg_ ?_; (with_reducible refine (spec_l00In.calls (wrap64 (a2_0)) 0 2 true _ A12.out).mono ?_); rintro e w' ⟨rfl, ⟨nd, rfl⟩⟩; refine ⟨_, rfl, ?_⟩) | (go_at_call 77; (with_reducible refine (spec_l00In.calls (wrap64 (a2_1)) 0 (wrap64 ((l0_0.length : Int) - 1)) true _ A14.out).mono ?_); rintro e w' ⟨rfl, ⟨nd, rfl⟩⟩) | (go_at_call 77; (with_reducible refine (spec_l00In.calls (wrap64 (a2_2)) 0 (wrap64 ((l0_0.length : Int) - 1)) true _ A16.out).mono ?_); rintro e w' ⟨rfl, ⟨nd, rfl⟩⟩))
      go_meet
      case rel => exact ⟨_, ((a2_2 != 0)), rs_, H', ⟨by first | omega | exact Nat.le_refl _⟩, ⟨pl_ BK125⟩, ⟨pl_ BK126⟩, ⟨pl_ BK127⟩, ⟨pl_ BK128⟩, ⟨bl_ HB⟩⟩
    ·replace c17 := Bool.eq_false_iff.mpr c17
     subst c17
     have H1 : (spec_l02Move.j0 k true l0_0 a0_1 a0_2 a0_3 a0_4 a0_5 a1_0 a1_1 a1_2 a1_3 a2_0 a2_1 a2_2) = some (r1, r2, r3, r4, r5) := by rw [if_neg (show ¬ (false = true) by decide)] at H; exact H
     clear H
     have H := H1
     clear H1
     have H' := Aside0.mk H
     clear H
     have hnb27 := NB127_125.out
     have hnc27 := NB125_127.out
     have hnb28 := NB127_126.out
     have hnc28 := NB126_127.out
     have hnb29 := NB127_128.out
     have hnc29 := NB128_127.out
     obtain ⟨hcz30_0, hcz30_1, hcz30_2, hfz30_0, hfz30_1, hfz30_2⟩ := cl3_ BK127
     go_wp2_with (first | ((with_reducible refine gate_callee (f := 77) rfl ?_); refine goesL_ (some 20) rfl rfl Try.func77 (by kernel_rfl) rfl #[.int .i64 (wrap64 (a2_0)), .int .i64 0, .int .i64 2] rfl arg_ ?_; (with_reducible refine (spec_l00In.calls (wrap64 (a2_0)) 0 2 true _ A12.out).mono ?_); rintro e w' ⟨rfl, ⟨nd, rfl⟩⟩; refine ⟨_, rfl, ?_⟩) | (go_at_call 77; (with_reducible refine (spec_l00In.calls (wrap64 (a2_1)) 0 (wrap64 ((l0_0.length : Int) - 1)) true _ A14.out).mono ?_); rintro e w' ⟨rfl, ⟨nd, rfl⟩⟩) | (go_at_call 77; (with_reducible refine (spec_l00In.calls (wrap64 (a2_2)) 0 (wrap64 ((l0_0.length : Int) - 1)) false _ A16.out).mono ?_); rintro e w' ⟨rfl, ⟨nd, rfl⟩⟩))
     go_meet
     case rel => exact ⟨_, (true), rs_, H', ⟨by first | omega | exact Nat.le_refl _⟩, ⟨pl_ BK125⟩, ⟨pl_ BK126⟩, ⟨pl_ BK127⟩, ⟨pl_ BK128⟩, ⟨bl_ HB⟩⟩
   ·replace c15 := Bool.eq_false_iff.mpr c15
    subst c15
    have H1 : (spec_l02Move.j0 k true l0_0 a0_1 a0_2 a0_3 a0_4 a0_5 a1_0 a1_1 a1_2 a1_3 a2_0 a2_1 a2_2) = some (r1, r2, r3, r4, r5) := by rw [if_neg (show ¬ (false = true) by decide)] at H; exact H
    clear H
    have H := H1
    clear H1
    have H' := Aside0.mk H
    clear H
    have hnb31 := NB127_125.out
    have hnc31 := NB125_127.out
    have hnb32 := NB127_126.out
    have hnc32 := NB126_127.out
    have hnb33 := NB127_128.out
    have hnc33 := NB128_127.out
    obtain ⟨hcz34_0, hcz34_1, hcz34_2, hfz34_0, hfz34_1, hfz34_2⟩ := cl3_ BK127
    go_wp2_with (first | ((with_reducible refine gate_callee (f := 77) rfl ?_); refine goesL_ (some 20) rfl rfl Try.func77 (by kernel_rfl) rfl #[.int .i64 (wrap64 (a2_0)), .int .i64 0, .int .i64 2] rfl arg_ ?_; (with_reducible refine (spec_l00In.calls (wrap64 (a2_0)) 0 2 true _ A12.out).mono ?_); rintro e w' ⟨rfl, ⟨nd, rfl⟩⟩; refine ⟨_, rfl, ?_⟩) | (go_at_call 77; (with_reducible refine (spec_l00In.calls (wrap64 (a2_1)) 0 (wrap64 ((l0_0.length : Int) - 1)) false _ A14.out).mono ?_); rintro e w' ⟨rfl, ⟨nd, rfl⟩⟩))
    go_meet
    case rel => exact ⟨_, (true), rs_, H', ⟨by first | omega | exact Nat.le_refl _⟩, ⟨pl_ BK125⟩, ⟨pl_ BK126⟩, ⟨pl_ BK127⟩, ⟨pl_ BK128⟩, ⟨bl_ HB⟩⟩
  ·replace c13 := Bool.eq_false_iff.mpr c13
   subst c13
   have H1 : (spec_l02Move.j0 k true l0_0 a0_1 a0_2 a0_3 a0_4 a0_5 a1_0 a1_1 a1_2 a1_3 a2_0 a2_1 a2_2) = some (r1, r2, r3, r4, r5) := by rw [if_neg (show ¬ (false = true) by decide)] at H; exact H
   clear H
   have H := H1
   clear H1
   have H' := Aside0.mk H
   clear H
   have hnb35 := NB127_125.out
   have hnc35 := NB125_127.out
   have hnb36 := NB127_126.out
   have hnc36 := NB126_127.out
   have hnb37 := NB127_128.out
   have hnc37 := NB128_127.out
   obtain ⟨hcz38_0, hcz38_1, hcz38_2, hfz38_0, hfz38_1, hfz38_2⟩ := cl3_ BK127
   go_wp2_with (first | ((with_reducible refine gate_callee (f := 77) rfl ?_); refine goesL_ (some 20) rfl rfl Try.func77 (by kernel_rfl) rfl #[.int .i64 (wrap64 (a2_0)), .int .i64 0, .int .i64 2] rfl arg_ ?_; (with_reducible refine (spec_l00In.calls (wrap64 (a2_0)) 0 2 false _ A12.out).mono ?_); rintro e w' ⟨rfl, ⟨nd, rfl⟩⟩; refine ⟨_, rfl, ?_⟩))
   go_meet
   case rel => exact ⟨_, (true), rs_, H', ⟨by first | omega | exact Nat.le_refl _⟩, ⟨pl_ BK125⟩, ⟨pl_ BK126⟩, ⟨pl_ BK127⟩, ⟨pl_ BK128⟩, ⟨bl_ HB⟩⟩
 case rest =>
  clear HC4
  try clear c1
  try clear c2
  try clear p2
  try clear c3
  try clear p6
  try clear c7
  try clear c8
  try clear c9
  try clear c10
  try clear c13
  try clear c15
  try clear c17
  try clear c18
  try clear c18b0
  try clear c18b1
  try clear c19
  try clear c20
  try clear c21
  try clear c23
  try clear c24
  try clear c25
  try clear c27
  try clear c28
  try clear c29
  try clear c31
  try clear c32
  try clear c33
  try clear c35
  try clear c36
  try clear c37
  try clear hcz11_0
  try clear hcz11_1
  try clear hcz11_2
  try clear hcz11_3
  try clear hcz11_4
  try clear hcz11_5
  try clear hcz22_0
  try clear hcz22_1
  try clear hcz22_2
  try clear hcz26_0
  try clear hcz26_1
  try clear hcz26_2
  try clear hcz30_0
  try clear hcz30_1
  try clear hcz30_2
  try clear hcz34_0
  try clear hcz34_1
  try clear hcz34_2
  try clear hcz38_0
  try clear hcz38_1
  try clear hcz38_2
  try clear hfz11_0
  try clear hfz11_1
  try clear hfz11_2
  try clear hfz11_3
  try clear hfz11_4
  try clear hfz11_5
  try clear hfz22_0
  try clear hfz22_1
  try clear hfz22_2
  try clear hfz26_0
  try clear hfz26_1
  try clear hfz26_2
  try clear hfz30_0
  try clear hfz30_1
  try clear hfz30_2
  try clear hfz34_0
  try clear hfz34_1
  try clear hfz34_2
  try clear hfz38_0
  try clear hfz38_1
  try clear hfz38_2
  obtain ⟨kq, x47_3, rfl, HA, HJ3, BK125, BK126, BK127, BK128, HB⟩ := hcut
  cases kq with
  | zero => exact absurd HA.out (by simp [spec_l02Move.j0])
  | succ kj3 =>
   have H := HA.out
   clear HA
   simp only [spec_l02Move.j0] at H
   by_cases c39 : x47_3 = true
   ·subst c39
    have H1 : (some (0, 0, 0, 0, 2)) = some (r1, r2, r3, r4, r5) := by rw [if_pos rfl] at H; exact H
    clear H
    have H := H1
    clear H1
    simp only [Option.some.injEq, Prod.mk.injEq] at H
    obtain ⟨rfl, rfl, rfl, rfl, rfl⟩ := H
    have hnb40 := NB128_125.out
    have hnc40 := NB125_128.out
    have hnb41 := NB128_126.out
    have hnc41 := NB126_128.out
    have hnb42 := NB128_127.out
    have hnc42 := NB127_128.out
    obtain ⟨hcz43_0, hcz43_1, hcz43_2, hcz43_3, hfz43_0, hfz43_1, hfz43_2, hfz43_3⟩ := cl4_ BK128
    go_wp2
    refine bodyPost_ret (results_ct rfl _ _ gb128 30 #[.int .i16 0, .int .i16 0, .int .i16 0, .int .i16 0] (0, 0) _ rfl (by (with_reducible repeat (first | refine blk_drewN ?_ _ | refine blk_drew ?_ | refine blk_alloc ?_ _)); refine blk_put (cs := #[.int .i16 0, .int .i16 0, .int .i16 0, .int .i16 0]) ?_ 3 _ rfl; (with_reducible repeat (first | refine blk_drewN ?_ _ | refine blk_drew ?_ | refine blk_alloc ?_ _)); refine blk_put (cs := #[.int .i16 0, .int .i16 0, .int .i16 0, .int .i16 0]) ?_ 2 _ rfl; (with_reducible repeat (first | refine blk_drewN ?_ _ | refine blk_drew ?_ | refine blk_alloc ?_ _)); refine blk_put (cs := #[.int .i16 0, .int .i16 0, .int .i16 0, .int .i16 0]) ?_ 1 _ rfl; (with_reducible repeat (first | refine blk_drewN ?_ _ | refine blk_drew ?_ | refine blk_alloc ?_ _)); refine blk_put (cs := #[.int .i16 0, .int .i16 0, .int .i16 0, .int .i16 0]) ?_ 0 _ rfl; (with_reducible repeat (first | refine blk_drewN ?_ _ | refine blk_drew ?_ | refine blk_alloc ?_ _)); exact BK128.out) Try.underlying30 rfl (by kernel_rfl)) rfl ?_
    exact ⟨by first | rfl | (simp [errW_none, errW_some] <;> rfl) | (simp [*, errW_none, errW_some] <;> rfl), bs_ HB GE128⟩
   ·replace c39 := Bool.eq_false_iff.mpr c39
    subst c39
    have H1 : (if a2_0 = 0 then (if a2_1 = a2_2 then (spec_l02Move.j1 kj3 true l0_0 a0_1 a0_2 a0_3 a0_4 a0_5 a1_0 a1_1 a1_2 a1_3 a2_0 a2_1 a2_2) else (spec_l02Move.j1 kj3 false l0_0 a0_1 a0_2 a0_3 a0_4 a0_5 a1_0 a1_1 a1_2 a1_3 a2_0 a2_1 a2_2)) else (spec_l02Move.j1 kj3 (!a0_5) l0_0 a0_1 a0_2 a0_3 a0_4 a0_5 a1_0 a1_1 a1_2 a1_3 a2_0 a2_1 a2_2)) = some (r1, r2, r3, r4, r5) := by rw [if_neg (show ¬ (false = true) by decide)] at H; exact H
    clear H
    have H := H1
    clear H1
    have HC44 := Aside0.mk H
    clear H
    go_upto_region 4 with (fail)
    go_cut [70] (fun v70 wc => ∃ (kq : Nat) (x70_43 : Bool), v70 = .bool x70_43 ∧ Aside0 (spec_l02Move.j1 kq x70_43 l0_0 a0_1 a0_2 a0_3 a0_4 a0_5 a1_0 a1_1 a1_2 a1_3 a2_0 a2_1 a2_2 = some (r1, r2, r3, r4, r5)) ∧ Aside0 (kq ≤ kj3) ∧ Aside0 (wc.heap[gp0]? = some (.cells #[(.slice A0_0 l0_0.length c0_0), .int .i16 a0_1, .int .i16 a0_2, .int .i16 a0_3, .int .i16 a0_4, .bool a0_5] 32 (0, 0))) ∧ Aside0 (wc.heap[gb126]? = some (.cells #[.int .i16 a1_0, .int .i16 a1_1, .int .i16 a1_2, .int .i16 a1_3] 30 (0, 0))) ∧ Aside0 (wc.heap[gb127]? = some (.cells #[.int .i8 a2_0, .int .i8 a2_1, .int .i8 a2_2] 60 (0, 0))) ∧ Aside0 (wc.heap[gb128]? = some (.cells #[.int .i16 0, .int .i16 0, .int .i16 0, .int .i16 0] 30 (0, 0))) ∧ Aside0 (Below w.heap.size w wc))
    case first =>
     have H := HC44.out
     clear HC44
     by_cases c45 : a2_0 = 0
     ·rw [if_pos c45] at H
      have c45b0 : (a2_0 == 0) = true := beq_iff_eq.mpr c45
      have c45b1 : (a2_0 != 0) = false := bne_eq_false_iff_eq.mpr c45
      clear c45
      (first | rw [c45b0] | (simp only [i64_w, i32_w]; rw [c45b0]) | skip)
      by_cases c46 : a2_1 = a2_2
      ·rw [if_pos c46] at H
       have c46b0 : (a2_1 == a2_2) = true := beq_iff_eq.mpr c46
       have c46b1 : (a2_1 != a2_2) = false := bne_eq_false_iff_eq.mpr c46
       clear c46
       have H' := Aside0.mk H
       clear H
       have hnb47 := NB127_125.out
       have hnc47 := NB125_127.out
       have hnb48 := NB127_126.out
       have hnc48 := NB126_127.out
       have hnb49 := NB127_128.out
       have hnc49 := NB128_127.out
       obtain ⟨hcz50_0, hcz50_1, hcz50_2, hfz50_0, hfz50_1, hfz50_2⟩ := cl3_ BK127
       go_wp2
       go_meet
       case rel => exact ⟨_, (true), rs_, H', ⟨by have := HJ3.out; first | omega | exact Nat.le_refl _⟩, ⟨pl_ BK125⟩, ⟨pl_ BK126⟩, ⟨pl_ BK127⟩, ⟨pl_ BK128⟩, ⟨bl_ HB⟩⟩
      ·rw [if_neg c46] at H
       have c46b0 : (a2_1 == a2_2) = false := beq_eq_false_iff_ne.mpr c46
       have c46b1 : (a2_1 != a2_2) = true := bne_iff_ne.mpr c46
       have H' := Aside0.mk H
       clear H
       have hnb51 := NB127_125.out
       have hnc51 := NB125_127.out
       have hnb52 := NB127_126.out
       have hnc52 := NB126_127.out
       have hnb53 := NB127_128.out
       have hnc53 := NB128_127.out
       obtain ⟨hcz54_0, hcz54_1, hcz54_2, hfz54_0, hfz54_1, hfz54_2⟩ := cl3_ BK127
       go_wp2
       go_meet
       case rel => exact ⟨_, (false), rs_, H', ⟨by have := HJ3.out; first | omega | exact Nat.le_refl _⟩, ⟨pl_ BK125⟩, ⟨pl_ BK126⟩, ⟨pl_ BK127⟩, ⟨pl_ BK128⟩, ⟨bl_ HB⟩⟩
     ·rw [if_neg c45] at H
      have c45b0 : (a2_0 == 0) = false := beq_eq_false_iff_ne.mpr c45
      have c45b1 : (a2_0 != 0) = true := bne_iff_ne.mpr c45
      (first | rw [c45b0] | (simp only [i64_w, i32_w]; rw [c45b0]) | skip)
      have H' := Aside0.mk H
      clear H
      have hnb55 := NB127_125.out
      have hnc55 := NB125_127.out
      have hnb56 := NB127_126.out
      have hnc56 := NB126_127.out
      have hnb57 := NB127_128.out
      have hnc57 := NB128_127.out
      obtain ⟨hcz58_0, hcz58_1, hcz58_2, hfz58_0, hfz58_1, hfz58_2⟩ := cl3_ BK127
      have hnb59 := NB125_126.out
      have hnc59 := NB126_125.out
      have hnb60 := NB125_128.out
      have hnc60 := NB128_125.out
      obtain ⟨hcz61_0, hcz61_1, hcz61_2, hcz61_3, hcz61_4, hcz61_5, hfz61_0, hfz61_1, hfz61_2, hfz61_3, hfz61_4, hfz61_5⟩ := cl6_ BK125
      go_wp2
      go_meet
      case rel => exact ⟨_, (!a0_5), rs_, H', ⟨by have := HJ3.out; first | omega | exact Nat.le_refl _⟩, ⟨pl_ BK125⟩, ⟨pl_ BK126⟩, ⟨pl_ BK127⟩, ⟨pl_ BK128⟩, ⟨bl_ HB⟩⟩
    case rest =>
     clear HC44
     try clear c1
     try clear c2
     try clear p2
     try clear c3
     try clear c4
     try clear c5
     try clear c6
     try clear p6
     try clear c7
     try clear c8
     try clear c9
     try clear c10
     try clear c13
     try clear c15
     try clear c17
     try clear c18
     try clear c18b0
     try clear c18b1
     try clear c19
     try clear c20
     try clear c21
     try clear c23
     try clear c24
     try clear c25
     try clear c27
     try clear c28
     try clear c29
     try clear c31
     try clear c32
     try clear c33
     try clear c35
     try clear c36
     try clear c37
     try clear c39
     try clear c40
     try clear c41
     try clear c42
     try clear c45
     try clear c45b0
     try clear c45b1
     try clear c46
     try clear c46b0
     try clear c46b1
     try clear c47
     try clear c48
     try clear c49
     try clear c51
     try clear c52
     try clear c53
     try clear c55
     try clear c56
     try clear c57
     try clear c59
     try clear c60
     try clear hcz11_0
     try clear hcz11_1
     try clear hcz11_2
     try clear hcz11_3
     try clear hcz11_4
     try clear hcz11_5
     try clear hcz22_0
     try clear hcz22_1
     try clear hcz22_2
     try clear hcz26_0
     try clear hcz26_1
     try clear hcz26_2
     try clear hcz30_0
     try clear hcz30_1
     try clear hcz30_2
     try clear hcz34_0
     try clear hcz34_1
     try clear hcz34_2
     try clear hcz38_0
     try clear hcz38_1
     try clear hcz38_2
     try clear hcz43_0
     try clear hcz43_1
     try clear hcz43_2
     try clear hcz43_3
     try clear hcz50_0
     try clear hcz50_1
     try clear hcz50_2
     try clear hcz54_0
     try clear hcz54_1
     try clear hcz54_2
     try clear hcz58_0
     try clear hcz58_1
     try clear hcz58_2
     try clear hcz61_0
     try clear hcz61_1
     try clear hcz61_2
     try clear hcz61_3
     try clear hcz61_4
     try clear hcz61_5
     try clear hfz11_0
     try clear hfz11_1
     try clear hfz11_2
     try clear hfz11_3
     try clear hfz11_4
     try clear hfz11_5
     try clear hfz22_0
     try clear hfz22_1
     try clear hfz22_2
     try clear hfz26_0
     try clear hfz26_1
     try clear hfz26_2
     try clear hfz30_0
     try clear hfz30_1
     try clear hfz30_2
     try clear hfz34_0
     try clear hfz34_1
     try clear hfz34_2
     try clear hfz38_0
     try clear hfz38_1
     try clear hfz38_2
     try clear hfz43_0
     try clear hfz43_1
     try clear hfz43_2
     try clear hfz43_3
     try clear hfz50_0
     try clear hfz50_1
     try clear hfz50_2
     try clear hfz54_0
     try clear hfz54_1
     try clear hfz54_2
     try clear hfz58_0
     try clear hfz58_1
     try clear hfz58_2
     try clear hfz61_0
     try clear hfz61_1
     try clear hfz61_2
     try clear hfz61_3
     try clear hfz61_4
     try clear hfz61_5
     try clear p2
     try clear p6
     obtain ⟨kq, x70_43, rfl, HA, HJ43, BK125, BK126, BK127, BK128, HB⟩ := hcut
     cases kq with
     | zero => exact absurd HA.out (by simp [spec_l02Move.j1])
     | succ kj43 =>
      have H := HA.out
      clear HA
      simp only [spec_l02Move.j1] at H
      by_cases c62 : x70_43 = true
      ·subst c62
       have H1 : (some (0, 0, 0, 0, 4)) = some (r1, r2, r3, r4, r5) := by rw [if_pos rfl] at H; exact H
       clear H
       have H := H1
       clear H1
       simp only [Option.some.injEq, Prod.mk.injEq] at H
       obtain ⟨rfl, rfl, rfl, rfl, rfl⟩ := H
       have hnb63 := NB128_125.out
       have hnc63 := NB125_128.out
       have hnb64 := NB128_126.out
       have hnc64 := NB126_128.out
       have hnb65 := NB128_127.out
       have hnc65 := NB127_128.out
       obtain ⟨hcz66_0, hcz66_1, hcz66_2, hcz66_3, hfz66_0, hfz66_1, hfz66_2, hfz66_3⟩ := cl4_ BK128
       go_wp2
       refine bodyPost_ret (results_ct rfl _ _ gb128 30 #[.int .i16 0, .int .i16 0, .int .i16 0, .int .i16 0] (0, 0) _ rfl (by (with_reducible repeat (first | refine blk_drewN ?_ _ | refine blk_drew ?_ | refine blk_alloc ?_ _)); refine blk_put (cs := #[.int .i16 0, .int .i16 0, .int .i16 0, .int .i16 0]) ?_ 3 _ rfl; (with_reducible repeat (first | refine blk_drewN ?_ _ | refine blk_drew ?_ | refine blk_alloc ?_ _)); refine blk_put (cs := #[.int .i16 0, .int .i16 0, .int .i16 0, .int .i16 0]) ?_ 2 _ rfl; (with_reducible repeat (first | refine blk_drewN ?_ _ | refine blk_drew ?_ | refine blk_alloc ?_ _)); refine blk_put (cs := #[.int .i16 0, .int .i16 0, .int .i16 0, .int .i16 0]) ?_ 1 _ rfl; (with_reducible repeat (first | refine blk_drewN ?_ _ | refine blk_drew ?_ | refine blk_alloc ?_ _)); refine blk_put (cs := #[.int .i16 0, .int .i16 0, .int .i16 0, .int .i16 0]) ?_ 0 _ rfl; (with_reducible repeat (first | refine blk_drewN ?_ _ | refine blk_drew ?_ | refine blk_alloc ?_ _)); exact BK128.out) Try.underlying30 rfl (by kernel_rfl)) rfl ?_
       exact ⟨by first | rfl | (simp [errW_none, errW_some] <;> rfl) | (simp [*, errW_none, errW_some] <;> rfl), bs_ HB GE128⟩
      ·replace c62 := Bool.eq_false_iff.mpr c62
       subst c62
       have H1 : (if a2_0 = 0 then (if 0 ≤ a2_1 then (if a2_1 < 4 then (if 0 ≤ a2_2 then (if a2_2 < (l0_0.length : Int) then (if a2_2 < 4 then ((spec_l00Min.f (wrap64 (rd [a1_0, a1_1, a1_2, a1_3] a2_1)) (wrap64 (IntKind.i16.wrap ((rd l0_0 a2_2) - (rd [a1_0, a1_1, a1_2, a1_3] a2_2))))).bind fun t134 => (spec_l02Move.j2 kj43 a1_0 a1_1 a1_2 a1_3 (aup a2_2 0 (IntKind.i16.wrap ((rd [aup a2_1 0 (IntKind.i16.wrap ((rd [a1_0, a1_1, a1_2, a1_3] a2_1) - (IntKind.i16.wrap (t134)))) a1_0, aup a2_1 1 (IntKind.i16.wrap ((rd [a1_0, a1_1, a1_2, a1_3] a2_1) - (IntKind.i16.wrap (t134)))) a1_1, aup a2_1 2 (IntKind.i16.wrap ((rd [a1_0, a1_1, a1_2, a1_3] a2_1) - (IntKind.i16.wrap (t134)))) a1_2, aup a2_1 3 (IntKind.i16.wrap ((rd [a1_0, a1_1, a1_2, a1_3] a2_1) - (IntKind.i16.wrap (t134)))) a1_3] a2_2) + (IntKind.i16.wrap (t134)))) (aup a2_1 0 (IntKind.i16.wrap ((rd [a1_0, a1_1, a1_2, a1_3] a2_1) - (IntKind.i16.wrap (t134)))) a1_0)) (aup a2_2 1 (IntKind.i16.wrap ((rd [aup a2_1 0 (IntKind.i16.wrap ((rd [a1_0, a1_1, a1_2, a1_3] a2_1) - (IntKind.i16.wrap (t134)))) a1_0, aup a2_1 1 (IntKind.i16.wrap ((rd [a1_0, a1_1, a1_2, a1_3] a2_1) - (IntKind.i16.wrap (t134)))) a1_1, aup a2_1 2 (IntKind.i16.wrap ((rd [a1_0, a1_1, a1_2, a1_3] a2_1) - (IntKind.i16.wrap (t134)))) a1_2, aup a2_1 3 (IntKind.i16.wrap ((rd [a1_0, a1_1, a1_2, a1_3] a2_1) - (IntKind.i16.wrap (t134)))) a1_3] a2_2) + (IntKind.i16.wrap (t134)))) (aup a2_1 1 (IntKind.i16.wrap ((rd [a1_0, a1_1, a1_2, a1_3] a2_1) - (IntKind.i16.wrap (t134)))) a1_1)) (aup a2_2 2 (IntKind.i16.wrap ((rd [aup a2_1 0 (IntKind.i16.wrap ((rd [a1_0, a1_1, a1_2, a1_3] a2_1) - (IntKind.i16.wrap (t134)))) a1_0, aup a2_1 1 (IntKind.i16.wrap ((rd [a1_0, a1_1, a1_2, a1_3] a2_1) - (IntKind.i16.wrap (t134)))) a1_1, aup a2_1 2 (IntKind.i16.wrap ((rd [a1_0, a1_1, a1_2, a1_3] a2_1) - (IntKind.i16.wrap (t134)))) a1_2, aup a2_1 3 (IntKind.i16.wrap ((rd [a1_0, a1_1, a1_2, a1_3] a2_1) - (IntKind.i16.wrap (t134)))) a1_3] a2_2) + (IntKind.i16.wrap (t134)))) (aup a2_1 2 (IntKind.i16.wrap ((rd [a1_0, a1_1, a1_2, a1_3] a2_1) - (IntKind.i16.wrap (t134)))) a1_2)) (aup a2_2 3 (IntKind.i16.wrap ((rd [aup a2_1 0 (IntKind.i16.wrap ((rd [a1_0, a1_1, a1_2, a1_3] a2_1) - (IntKind.i16.wrap (t134)))) a1_0, aup a2_1 1 (IntKind.i16.wrap ((rd [a1_0, a1_1, a1_2, a1_3] a2_1) - (IntKind.i16.wrap (t134)))) a1_1, aup a2_1 2 (IntKind.i16.wrap ((rd [a1_0, a1_1, a1_2, a1_3] a2_1) - (IntKind.i16.wrap (t134)))) a1_2, aup a2_1 3 (IntKind.i16.wrap ((rd [a1_0, a1_1, a1_2, a1_3] a2_1) - (IntKind.i16.wrap (t134)))) a1_3] a2_2) + (IntKind.i16.wrap (t134)))) (aup a2_1 3 (IntKind.i16.wrap ((rd [a1_0, a1_1, a1_2, a1_3] a2_1) - (IntKind.i16.wrap (t134)))) a1_3)))) else (none)) else (none)) else (none)) else (none)) else (none)) else (if a2_0 = 1 then (if 0 ≤ a2_1 then (if a2_1 < (l0_0.length : Int) then (if a2_1 < 4 then (spec_l02Move.j2 kj43 a1_0 a1_1 a1_2 a1_3 (aup a2_1 0 (rd l0_0 a2_1) a1_0) (aup a2_1 1 (rd l0_0 a2_1) a1_1) (aup a2_1 2 (rd l0_0 a2_1) a1_2) (aup a2_1 3 (rd l0_0 a2_1) a1_3)) else (none)) else (none)) else (none)) else (if a2_0 = 2 then (if 0 ≤ a2_1 then (if a2_1 < 4 then (spec_l02Move.j2 kj43 a1_0 a1_1 a1_2 a1_3 (aup a2_1 0 0 a1_0) (aup a2_1 1 0 a1_1) (aup a2_1 2 0 a1_2) (aup a2_1 3 0 a1_3)) else (none)) else (none)) else (spec_l02Move.j2 kj43 a1_0 a1_1 a1_2 a1_3 a1_0 a1_1 a1_2 a1_3)))) = some (r1, r2, r3, r4, r5) := by rw [if_neg (show ¬ (false = true) by decide)] at H; exact H
       clear H
       have H := H1
       clear H1
       have HC67 := Aside0.mk H
       clear H
       have hnb68 := NB126_125.out
       have hnc68 := NB125_126.out
       have hnb69 := NB126_127.out
       have hnc69 := NB127_126.out
       have hnb70 := NB126_128.out
       have hnc70 := NB128_126.out
       obtain ⟨hcz71_0, hcz71_1, hcz71_2, hcz71_3, hfz71_0, hfz71_1, hfz71_2, hfz71_3⟩ := cl4_ BK126
       go_upto_block 0 with (first | ((with_reducible refine gate_dst (N := 9) rfl ?_); refine box_event ?hg (N := 9) ?hd (cs := #[.int .i16 0, .int .i16 0, .int .i16 0, .int .i16 0]) (t := 30) ?hr ?_; (case hd => rfl); (case hg => rfl); (case hr => first | (go_simp; done) | (go_simp; rfl)); intro gb132 hg w72 hbox hb; have n0_ := A_ (blk_below (pl_ BK125) hb); have n1_ := A_ (blk_below (pl_ BK126) hb); have n2_ := A_ (blk_below (pl_ BK127) hb); have n3_ := A_ (blk_below (pl_ BK128) hb); have n4_ := A_ (below_step (bl_ HB) hb); have n5_ := A_ (hbox); have n6_ := A_ ((by rw [hg]; exact (below_size (bl_ HB)) : w.heap.size ≤ gb132)); have n7_ := n6_; have n8_ := A_ ((by rw [hg]; exact Nat.ne_of_lt (blk_lt (pl_ BK125)) : gp0 ≠ gb132)); have n9_ := Aside0.mk n8_.out.symm; have n10_ := A_ ((by rw [hg]; exact Nat.ne_of_lt (blk_lt (pl_ BK126)) : gb126 ≠ gb132)); have n11_ := Aside0.mk n10_.out.symm; have n12_ := A_ ((by rw [hg]; exact Nat.ne_of_lt (blk_lt (pl_ BK127)) : gb127 ≠ gb132)); have n13_ := Aside0.mk n12_.out.symm; have n14_ := A_ ((by rw [hg]; exact Nat.ne_of_lt (blk_lt (pl_ BK128)) : gb128 ≠ gb132)); have n15_ := Aside0.mk n14_.out.symm; clear BK125; clear BK126; clear BK127; clear BK128; clear HB; have BK125 := n0_; have BK126 := n1_; have BK127 := n2_; have BK128 := n3_; have HB := n4_; have BK132 := n5_; have GW132 := n6_; have GE132 := n7_; have NB125_132 := n8_; have NB132_125 := n9_; have NB126_132 := n10_; have NB132_126 := n11_; have NB127_132 := n12_; have NB132_127 := n13_; have NB128_132 := n14_; have NB132_128 := n15_; clear n0_ n1_ n2_ n3_ n4_ n5_ n6_ n7_ n8_ n9_ n10_ n11_ n12_ n13_ n14_ n15_; clear hb hbox hg; have hnb73 := NB132_125.out; have hnc73 := NB125_132.out; have hnb74 := NB132_126.out; have hnc74 := NB126_132.out; have hnb75 := NB132_127.out; have hnc75 := NB127_132.out; have hnb76 := NB132_128.out; have hnc76 := NB128_132.out; obtain ⟨hcz77_0, hcz77_1, hcz77_2, hcz77_3, hfz77_0, hfz77_1, hfz77_2, hfz77_3⟩ := cl4_ BK132; have hnb78 := NB127_125.out; have hnc78 := NB125_127.out; have hnb79 := NB127_128.out; have hnc79 := NB128_127.out; obtain ⟨hcz80_0, hcz80_1, hcz80_2, hfz80_0, hfz80_1, hfz80_2⟩ := cl3_ BK127))
       (try simp only [Act.put, List.setIfInBounds_toArray, List.set_cons_zero, List.set_cons_succ])
       go_cut [] (fun wc => ∃ (kq : Nat) (x133000_66 : Int) (x133001_66 : Int) (x133002_66 : Int) (x133003_66 : Int), Aside0 (spec_l02Move.j2 kq a1_0 a1_1 a1_2 a1_3 x133000_66 x133001_66 x133002_66 x133003_66 = some (r1, r2, r3, r4, r5)) ∧ Aside0 (kq ≤ kj43) ∧ Aside0 (wc.heap[gp0]? = some (.cells #[(.slice A0_0 l0_0.length c0_0), .int .i16 a0_1, .int .i16 a0_2, .int .i16 a0_3, .int .i16 a0_4, .bool a0_5] 32 (0, 0))) ∧ Aside0 (wc.heap[gb126]? = some (.cells #[.int .i16 a1_0, .int .i16 a1_1, .int .i16 a1_2, .int .i16 a1_3] 30 (0, 0))) ∧ Aside0 (wc.heap[gb127]? = some (.cells #[.int .i8 a2_0, .int .i8 a2_1, .int .i8 a2_2] 60 (0, 0))) ∧ Aside0 (wc.heap[gb128]? = some (.cells #[.int .i16 0, .int .i16 0, .int .i16 0, .int .i16 0] 30 (0, 0))) ∧ Aside0 (wc.heap[gb132]? = some (.cells #[.int .i16 x133000_66, .int .i16 x133001_66, .int .i16 x133002_66, .int .i16 x133003_66] 30 (0, 0))) ∧ Aside0 (Below w.heap.size w wc))
       case first =>
        have H := HC67.out
        clear HC67
        by_cases c81 : a2_0 = 0
        ·rw [if_pos c81] at H
         have c81b0 : (a2_0 == 0) = true := beq_iff_eq.mpr c81
         have c81b1 : (a2_0 != 0) = false := bne_eq_false_iff_eq.mpr c81
         clear c81
         (first | rw [c81b0] | (simp only [i64_w, i32_w]; rw [c81b0]) | skip)
         by_cases c83 : 0 ≤ a2_1
         ·rw [if_pos c83] at H
          have c83b0 : decide (0 ≤ a2_1) = true := decide_eq_true c83
          clear c83
          by_cases c84 : a2_1 < 4
          ·rw [if_pos c84] at H
           have c84b0 : decide (a2_1 < 4) = true := decide_eq_true c84
           clear c84
           by_cases c86 : 0 ≤ a2_2
           ·rw [if_pos c86] at H
            have c86b0 : decide (0 ≤ a2_2) = true := decide_eq_true c86
            clear c86
            by_cases c87 : a2_2 < (l0_0.length : Int)
            ·rw [if_pos c87] at H
             have c87b0 : decide (a2_2 < (l0_0.length : Int)) = true := decide_eq_true c87
             clear c87
             by_cases c88 : a2_2 < 4
             ·rw [if_pos c88] at H
              have c88b0 : decide (a2_2 < 4) = true := decide_eq_true c88
              clear c88
              replace H := Option.bind_eq_some_iff.mp H
              obtain ⟨t134, A900, H⟩ := H
              replace H : (spec_l02Move.j2 kj43 a1_0 a1_1 a1_2 a1_3 (aup a2_2 0 (IntKind.i16.wrap ((rd [aup a2_1 0 (IntKind.i16.wrap ((rd [a1_0, a1_1, a1_2, a1_3] a2_1) - (IntKind.i16.wrap (t134)))) a1_0, aup a2_1 1 (IntKind.i16.wrap ((rd [a1_0, a1_1, a1_2, a1_3] a2_1) - (IntKind.i16.wrap (t134)))) a1_1, aup a2_1 2 (IntKind.i16.wrap ((rd [a1_0, a1_1, a1_2, a1_3] a2_1) - (IntKind.i16.wrap (t134)))) a1_2, aup a2_1 3 (IntKind.i16.wrap ((rd [a1_0, a1_1, a1_2, a1_3] a2_1) - (IntKind.i16.wrap (t134)))) a1_3] a2_2) + (IntKind.i16.wrap (t134)))) (aup a2_1 0 (IntKind.i16.wrap ((rd [a1_0, a1_1, a1_2, a1_3] a2_1) - (IntKind.i16.wrap (t134)))) a1_0)) (aup a2_2 1 (IntKind.i16.wrap ((rd [aup a2_1 0 (IntKind.i16.wrap ((rd [a1_0, a1_1, a1_2, a1_3] a2_1) - (IntKind.i16.wrap (t134)))) a1_0, aup a2_1 1 (IntKind.i16.wrap ((rd [a1_0, a1_1, a1_2, a1_3] a2_1) - (IntKind.i16.wrap (t134)))) a1_1, aup a2_1 2 (IntKind.i16.wrap ((rd [a1_0, a1_1, a1_2, a1_3] a2_1) - (IntKind.i16.wrap (t134)))) a1_2, aup a2_1 3 (IntKind.i16.wrap ((rd [a1_0, a1_1, a1_2, a1_3] a2_1) - (IntKind.i16.wrap (t134)))) a1_3] a2_2) + (IntKind.i16.wrap (t134)))) (aup a2_1 1 (IntKind.i16.wrap ((rd [a1_0, a1_1, a1_2, a1_3] a2_1) - (IntKind.i16.wrap (t134)))) a1_1)) (aup a2_2 2 (IntKind.i16.wrap ((rd [aup a2_1 0 (IntKind.i16.wrap ((rd [a1_0, a1_1, a1_2, a1_3] a2_1) - (IntKind.i16.wrap (t134)))) a1_0, aup a2_1 1 (IntKind.i16.wrap ((rd [a1_0, a1_1, a1_2, a1_3] a2_1) - (IntKind.i16.wrap (t134)))) a1_1, aup a2_1 2 (IntKind.i16.wrap ((rd [a1_0, a1_1, a1_2, a1_3] a2_1) - (IntKind.i16.wrap (t134)))) a1_2, aup a2_1 3 (IntKind.i16.wrap ((rd [a1_0, a1_1, a1_2, a1_3] a2_1) - (IntKind.i16.wrap (t134)))) a1_3] a2_2) + (IntKind.i16.wrap (t134)))) (aup a2_1 2 (IntKind.i16.wrap ((rd [a1_0, a1_1, a1_2, a1_3] a2_1) - (IntKind.i16.wrap (t134)))) a1_2)) (aup a2_2 3 (IntKind.i16.wrap ((rd [aup a2_1 0 (IntKind.i16.wrap ((rd [a1_0, a1_1, a1_2, a1_3] a2_1) - (IntKind.i16.wrap (t134)))) a1_0, aup a2_1 1 (IntKind.i16.wrap ((rd [a1_0, a1_1, a1_2, a1_3] a2_1) - (IntKind.i16.wrap (t134)))) a1_1, aup a2_1 2 (IntKind.i16.wrap ((rd [a1_0, a1_1, a1_2, a1_3] a2_1) - (IntKind.i16.wrap (t134)))) a1_2, aup a2_1 3 (IntKind.i16.wrap ((rd [a1_0, a1_1, a1_2, a1_3] a2_1) - (IntKind.i16.wrap (t134)))) a1_3] a2_2) + (IntKind.i16.wrap (t134)))) (aup a2_1 3 (IntKind.i16.wrap ((rd [a1_0, a1_1, a1_2, a1_3] a2_1) - (IntKind.i16.wrap (t134)))) a1_3))) = some (r1, r2, r3, r4, r5) := H
              have A90 := Aside0.mk A900
              clear A900
              have H' := Aside0.mk H
              clear H
              try go_wp2
              have n0_ : Aside0 (((((w72.setCell ⟨gb132, 0, none⟩ (.int .i16 a1_0)).setCell ⟨gb132, 1, none⟩ (.int .i16 a1_1)).setCell ⟨gb132, 2, none⟩ (.int .i16 a1_2)).setCell ⟨gb132, 3, none⟩ (.int .i16 a1_3)).heap[gp0]? = some (.cells #[.slice A0_0 l0_0.length c0_0, .int .i16 a0_1, .int .i16 a0_2, .int .i16 a0_3, .int .i16 a0_4, .bool a0_5] 32 (0, 0))) := ⟨pf_ BK125 NB125_132⟩
              have n1_ : Aside0 (((((w72.setCell ⟨gb132, 0, none⟩ (.int .i16 a1_0)).setCell ⟨gb132, 1, none⟩ (.int .i16 a1_1)).setCell ⟨gb132, 2, none⟩ (.int .i16 a1_2)).setCell ⟨gb132, 3, none⟩ (.int .i16 a1_3)).heap[gb126]? = some (.cells #[.int .i16 a1_0, .int .i16 a1_1, .int .i16 a1_2, .int .i16 a1_3] 30 (0, 0))) := ⟨pf_ BK126 NB126_132⟩
              have n2_ : Aside0 (((((w72.setCell ⟨gb132, 0, none⟩ (.int .i16 a1_0)).setCell ⟨gb132, 1, none⟩ (.int .i16 a1_1)).setCell ⟨gb132, 2, none⟩ (.int .i16 a1_2)).setCell ⟨gb132, 3, none⟩ (.int .i16 a1_3)).heap[gb127]? = some (.cells #[.int .i8 a2_0, .int .i8 a2_1, .int .i8 a2_2] 60 (0, 0))) := ⟨pf_ BK127 NB127_132⟩
              have n3_ : Aside0 (((((w72.setCell ⟨gb132, 0, none⟩ (.int .i16 a1_0)).setCell ⟨gb132, 1, none⟩ (.int .i16 a1_1)).setCell ⟨gb132, 2, none⟩ (.int .i16 a1_2)).setCell ⟨gb132, 3, none⟩ (.int .i16 a1_3)).heap[gb128]? = some (.cells #[.int .i16 0, .int .i16 0, .int .i16 0, .int .i16 0] 30 (0, 0))) := ⟨pf_ BK128 NB128_132⟩
              have n4_ : Aside0 (((((w72.setCell ⟨gb132, 0, none⟩ (.int .i16 a1_0)).setCell ⟨gb132, 1, none⟩ (.int .i16 a1_1)).setCell ⟨gb132, 2, none⟩ (.int .i16 a1_2)).setCell ⟨gb132, 3, none⟩ (.int .i16 a1_3)).heap[gb132]? = some (.cells #[.int .i16 a1_0, .int .i16 a1_1, .int .i16 a1_2, .int .i16 a1_3] 30 (0, 0))) := ⟨by (with_reducible repeat (first | refine blk_drewN ?_ _ | refine blk_drew ?_ | refine blk_alloc ?_ _)); refine blk_put (cs := #[.int .i16 a1_0, .int .i16 a1_1, .int .i16 a1_2, .int .i16 0]) ?_ 3 _ rfl; (with_reducible repeat (first | refine blk_drewN ?_ _ | refine blk_drew ?_ | refine blk_alloc ?_ _)); refine blk_put (cs := #[.int .i16 a1_0, .int .i16 a1_1, .int .i16 0, .int .i16 0]) ?_ 2 _ rfl; (with_reducible repeat (first | refine blk_drewN ?_ _ | refine blk_drew ?_ | refine blk_alloc ?_ _)); refine blk_put (cs := #[.int .i16 a1_0, .int .i16 0, .int .i16 0, .int .i16 0]) ?_ 1 _ rfl; (with_reducible repeat (first | refine blk_drewN ?_ _ | refine blk_drew ?_ | refine blk_alloc ?_ _)); refine blk_put (cs := #[.int .i16 0, .int .i16 0, .int .i16 0, .int .i16 0]) ?_ 0 _ rfl; (with_reducible repeat (first | refine blk_drewN ?_ _ | refine blk_drew ?_ | refine blk_alloc ?_ _)); exact BK132.out⟩
              have n5_ : Aside0 (Below w.heap.size w ((((w72.setCell ⟨gb132, 0, none⟩ (.int .i16 a1_0)).setCell ⟨gb132, 1, none⟩ (.int .i16 a1_1)).setCell ⟨gb132, 2, none⟩ (.int .i16 a1_2)).setCell ⟨gb132, 3, none⟩ (.int .i16 a1_3))) := ⟨bs_ HB GE132⟩
              (try clear BK125)
              (try clear BK126)
              (try clear BK127)
              (try clear BK128)
              (try clear BK132)
              (try clear HB)
              generalize ((((w72.setCell ⟨gb132, 0, none⟩ (.int .i16 a1_0)).setCell ⟨gb132, 1, none⟩ (.int .i16 a1_1)).setCell ⟨gb132, 2, none⟩ (.int .i16 a1_2)).setCell ⟨gb132, 3, none⟩ (.int .i16 a1_3)) = w97 at n0_ n1_ n2_ n3_ n4_ n5_ ⊢
              have BK125 := n0_
              have BK126 := n1_
              have BK127 := n2_
              have BK128 := n3_
              have BK132 := n4_
              have HB := n5_
              clear n0_ n1_ n2_ n3_ n4_ n5_
              refine wp_region_still_tail 19 (by kernel_rfl) (by kernel_rfl) ?_
              simp only [List.take_succ_cons, List.take_zero, List.drop_succ_cons, List.drop_zero]
              refine tail_shown ?_
              have n0_ := A_ (blk_drew BK125.out)
              have n1_ := A_ (blk_drew BK126.out)
              have n2_ := A_ (blk_drew BK127.out)
              have n3_ := A_ (blk_drew BK128.out)
              have n4_ := A_ (blk_drew BK132.out)
              have n5_ := A_ (below_drew1 HB.out)
              clear BK125
              clear BK126
              clear BK127
              clear BK128
              clear BK132
              clear HB
              have BK125 := n0_
              have BK126 := n1_
              have BK127 := n2_
              have BK128 := n3_
              have BK132 := n4_
              have HB := n5_
              clear n0_ n1_ n2_ n3_ n4_ n5_
              generalize w97.drew = w98 at BK125 BK126 BK127 BK128 BK132 HB ⊢
              have hnb99 := NB127_125.out
              have hnc99 := NB125_127.out
              have hnb100 := NB127_126.out
              have hnc100 := NB126_127.out
              have hnb101 := NB127_128.out
              have hnc101 := NB128_127.out
              have hnb102 := NB127_132.out
              have hnc102 := NB132_127.out
              obtain ⟨hcz103_0, hcz103_1, hcz103_2, hfz103_0, hfz103_1, hfz103_2⟩ := cl3_ BK127
              have hnb104 := NB126_125.out
              have hnc104 := NB125_126.out
              have hnb105 := NB126_128.out
              have hnc105 := NB128_126.out
              have hnb106 := NB126_132.out
              have hnc106 := NB132_126.out
              obtain ⟨hcz107_0, hcz107_1, hcz107_2, hcz107_3, hfz107_0, hfz107_1, hfz107_2, hfz107_3⟩ := cl4_ BK126
              have p85 : 0 ≤ (a2_1 : Int) := asm_
              have q85 : (a2_1 : Int) < 4 := asm_
              have hx85 : w98.cell? ⟨gb126, (a2_1 : Int).toNat, none⟩ = some (.int .i16 (rd [a1_0, a1_1, a1_2, a1_3] a2_1)) := ard_cell (k := .i16) (l := [a1_0, a1_1, a1_2, a1_3]) BK126.out p85 q85
              have hf85 := blk_frozen BK126.out (a2_1 : Int).toNat
              have P85 := Aside0.mk p85
              have Q85 := Aside0.mk q85
              replace p85 := eq_true p85
              replace q85 := eq_true q85
              have hnb108 := NB125_128.out
              have hnc108 := NB128_125.out
              have hnb109 := NB125_132.out
              have hnc109 := NB132_125.out
              obtain ⟨hcz110_0, hcz110_1, hcz110_2, hcz110_3, hcz110_4, hcz110_5, hfz110_0, hfz110_1, hfz110_2, hfz110_3, hfz110_4, hfz110_5⟩ := cl6_ BK125
              have p133 : 0 ≤ (a2_2 : Int) := asm_
              have q133 : a2_2 < (l0_0.length : Int) := asm_
              obtain ⟨ad133, e133, hx133_0⟩ := Kd.at_int HR0_0.out a2_2 p133 q133
              cases e133
              (try replace hx133_0 := (HB.out.cell (World.block_lt_of_cell? w _ hx133_0)).trans hx133_0)
              replace p133 := eq_true p133
              replace q133 := eq_true q133
              have p89 : 0 ≤ (a2_2 : Int) := asm_
              have q89 : (a2_2 : Int) < 4 := asm_
              have hx89 : w98.cell? ⟨gb126, (a2_2 : Int).toNat, none⟩ = some (.int .i16 (rd [a1_0, a1_1, a1_2, a1_3] a2_2)) := ard_cell (k := .i16) (l := [a1_0, a1_1, a1_2, a1_3]) BK126.out p89 q89
              have hf89 := blk_frozen BK126.out (a2_2 : Int).toNat
              have P89 := Aside0.mk p89
              have Q89 := Aside0.mk q89
              replace p89 := eq_true p89
              replace q89 := eq_true q89
              repeat still_step
              (try refine wpStill_nil ?_)
              (try simp only [i64_w, i32_w])
              try go_wp2_with (first | ((with_reducible refine gate_callee (f := 102) rfl ?_); refine goesL_ (some 96) rfl rfl Try.func102 (by kernel_rfl) rfl #[.int .i64 (wrap64 (rd [a1_0, a1_1, a1_2, a1_3] a2_1)), .int .i64 (wrap64 (IntKind.i16.wrap ((rd l0_0 a2_2) - (rd [a1_0, a1_1, a1_2, a1_3] a2_2))))] rfl arg_ ?_; (with_reducible refine (spec_l00Min.calls (wrap64 (rd [a1_0, a1_1, a1_2, a1_3] a2_1)) (wrap64 (IntKind.i16.wrap ((rd l0_0 a2_2) - (rd [a1_0, a1_1, a1_2, a1_3] a2_2)))) t134 _ A90.out).mono ?_); rintro e w' ⟨rfl, ⟨nd, rfl⟩⟩; refine ⟨_, rfl, ?_⟩; (try (rw [drewN_self w98]; generalize hq_ : World.drewN w98 _ = w98; have n0_ : Aside0 (w98.heap[gp0]? = some (.cells #[.slice (some ad133) l0_0.length c0_0, .int .i16 a0_1, .int .i16 a0_2, .int .i16 a0_3, .int .i16 a0_4, .bool a0_5] 32 (0, 0))) := ⟨by rw [← hq_]; exact (pl_ BK125)⟩; have n1_ : Aside0 (w98.heap[gb126]? = some (.cells #[.int .i16 a1_0, .int .i16 a1_1, .int .i16 a1_2, .int .i16 a1_3] 30 (0, 0))) := ⟨by rw [← hq_]; exact (pl_ BK126)⟩; have n2_ : Aside0 (w98.heap[gb127]? = some (.cells #[.int .i8 a2_0, .int .i8 a2_1, .int .i8 a2_2] 60 (0, 0))) := ⟨by rw [← hq_]; exact (pl_ BK127)⟩; have n3_ : Aside0 (w98.heap[gb128]? = some (.cells #[.int .i16 0, .int .i16 0, .int .i16 0, .int .i16 0] 30 (0, 0))) := ⟨by rw [← hq_]; exact (pl_ BK128)⟩; have n4_ : Aside0 (w98.heap[gb132]? = some (.cells #[.int .i16 a1_0, .int .i16 a1_1, .int .i16 a1_2, .int .i16 a1_3] 30 (0, 0))) := ⟨by rw [← hq_]; exact (pl_ BK132)⟩; have n5_ : Aside0 (Below w.heap.size w w98) := ⟨by rw [← hq_]; exact (bl_ HB)⟩; clear BK125 BK126 BK127 BK128 BK132 HB hq_; have BK125 := n0_; have BK126 := n1_; have BK127 := n2_; have BK128 := n3_; have BK132 := n4_; have HB := n5_; clear n0_ n1_ n2_ n3_ n4_ n5_)); obtain ⟨hcz111_0, hcz111_1, hcz111_2, hfz111_0, hfz111_1, hfz111_2⟩ := cl3_ BK127; have hnb112 := NB132_128.out; have hnc112 := NB128_132.out; obtain ⟨hcz113_0, hcz113_1, hcz113_2, hcz113_3, hfz113_0, hfz113_1, hfz113_2, hfz113_3⟩ := cl4_ BK132; have p91 : 0 ≤ (a2_1 : Int) := asm_; have q91 : (a2_1 : Int) < 4 := asm_; have hx91 : w98.cell? ⟨gb132, (a2_1 : Int).toNat, none⟩ = some (.int .i16 (rd [a1_0, a1_1, a1_2, a1_3] a2_1)) := ard_cell (k := .i16) (l := [a1_0, a1_1, a1_2, a1_3]) BK132.out p91 q91; have hf91 := blk_frozen BK132.out (a2_1 : Int).toNat; have P91 := Aside0.mk p91; have Q91 := Aside0.mk q91; replace p91 := eq_true p91; replace q91 := eq_true q91; have p92 : 0 ≤ (a2_1 : Int) := asm_; have q92 : (a2_1 : Int) < 4 := asm_; have hx92 : w98.cell? ⟨gb132, (a2_1 : Int).toNat, none⟩ = some (.int .i16 (rd [a1_0, a1_1, a1_2, a1_3] a2_1)) := ard_cell (k := .i16) (l := [a1_0, a1_1, a1_2, a1_3]) BK132.out p92 q92; have hf92 := blk_frozen BK132.out (a2_1 : Int).toNat; have P92 := Aside0.mk p92; have Q92 := Aside0.mk q92; replace p92 := eq_true p92; replace q92 := eq_true q92) | ((with_reducible refine gate_store (t := 23) (p := 104) rfl ?_); refine store_event (t := 23) (p := 104) (v := ?vo_w115) (w1 := (w98.setCell ⟨gb132, (a2_1 : Int).toNat, none⟩ (.int .i16 (IntKind.i16.wrap ((rd [a1_0, a1_1, a1_2, a1_3] a2_1) - (IntKind.i16.wrap (t134))))))) ?hg ?ho ?hn ?hr ?_; (case ho => rfl); (case hg => rfl); (case hn => rfl); (case hr => first | (go_simp; done) | (go_simp; rfl)); intro w115 hw; have n0_ : Aside0 (w115.heap[gp0]? = some (.cells #[.slice (some ad133) l0_0.length c0_0, .int .i16 a0_1, .int .i16 a0_2, .int .i16 a0_3, .int .i16 a0_4, .bool a0_5] 32 (0, 0))) := ⟨(by rw [hw]; exact (pf_ BK125 NB125_132))⟩; have n1_ : Aside0 (w115.heap[gb126]? = some (.cells #[.int .i16 a1_0, .int .i16 a1_1, .int .i16 a1_2, .int .i16 a1_3] 30 (0, 0))) := ⟨(by rw [hw]; exact (pf_ BK126 NB126_132))⟩; have n2_ : Aside0 (w115.heap[gb127]? = some (.cells #[.int .i8 a2_0, .int .i8 a2_1, .int .i8 a2_2] 60 (0, 0))) := ⟨(by rw [hw]; exact (pf_ BK127 NB127_132))⟩; have n3_ : Aside0 (w115.heap[gb128]? = some (.cells #[.int .i16 0, .int .i16 0, .int .i16 0, .int .i16 0] 30 (0, 0))) := ⟨(by rw [hw]; exact (pf_ BK128 NB128_132))⟩; have n4_ : Aside0 (w115.heap[gb132]? = some (.cells #[.int .i16 (aup a2_1 0 (IntKind.i16.wrap ((rd [a1_0, a1_1, a1_2, a1_3] a2_1) - (IntKind.i16.wrap (t134)))) a1_0), .int .i16 (aup a2_1 1 (IntKind.i16.wrap ((rd [a1_0, a1_1, a1_2, a1_3] a2_1) - (IntKind.i16.wrap (t134)))) a1_1), .int .i16 (aup a2_1 2 (IntKind.i16.wrap ((rd [a1_0, a1_1, a1_2, a1_3] a2_1) - (IntKind.i16.wrap (t134)))) a1_2), .int .i16 (aup a2_1 3 (IntKind.i16.wrap ((rd [a1_0, a1_1, a1_2, a1_3] a2_1) - (IntKind.i16.wrap (t134)))) a1_3)] 30 (0, 0))) := ⟨(by rw [hw]; exact (by (with_reducible repeat (first | refine blk_drewN ?_ _ | refine blk_drew ?_ | refine blk_alloc ?_ _)); refine blk_put (cs := #[.int .i16 a1_0, .int .i16 a1_1, .int .i16 a1_2, .int .i16 a1_3]) ?_ (a2_1 : Int).toNat _ (ups_set (k := .i16) (l := [a1_0, a1_1, a1_2, a1_3]) P92.out); (with_reducible repeat (first | refine blk_drewN ?_ _ | refine blk_drew ?_ | refine blk_alloc ?_ _)); exact BK132.out))⟩; have n5_ : Aside0 (Below w.heap.size w w115) := ⟨(by rw [hw]; exact (bs_ HB GE132))⟩; clear hw; clear BK125; clear BK126; clear BK127; clear BK128; clear BK132; clear HB; have BK125 := n0_; have BK126 := n1_; have BK127 := n2_; have BK128 := n3_; have BK132 := n4_; have HB := n5_; clear n0_ n1_ n2_ n3_ n4_ n5_; obtain ⟨hcz116_0, hcz116_1, hcz116_2, hfz116_0, hfz116_1, hfz116_2⟩ := cl3_ BK127; obtain ⟨hcz117_0, hcz117_1, hcz117_2, hcz117_3, hfz117_0, hfz117_1, hfz117_2, hfz117_3⟩ := cl4_ BK132; have p94 : 0 ≤ (a2_2 : Int) := asm_; have q94 : (a2_2 : Int) < 4 := asm_; have hx94 : w115.cell? ⟨gb132, (a2_2 : Int).toNat, none⟩ = some (.int .i16 (rd [aup a2_1 0 (IntKind.i16.wrap ((rd [a1_0, a1_1, a1_2, a1_3] a2_1) - (IntKind.i16.wrap (t134)))) a1_0, aup a2_1 1 (IntKind.i16.wrap ((rd [a1_0, a1_1, a1_2, a1_3] a2_1) - (IntKind.i16.wrap (t134)))) a1_1, aup a2_1 2 (IntKind.i16.wrap ((rd [a1_0, a1_1, a1_2, a1_3] a2_1) - (IntKind.i16.wrap (t134)))) a1_2, aup a2_1 3 (IntKind.i16.wrap ((rd [a1_0, a1_1, a1_2, a1_3] a2_1) - (IntKind.i16.wrap (t134)))) a1_3] a2_2)) := ard_cell (k := .i16) (l := [aup a2_1 0 (IntKind.i16.wrap ((rd [a1_0, a1_1, a1_2, a1_3] a2_1) - (IntKind.i16.wrap (t134)))) a1_0, aup a2_1 1 (IntKind.i16.wrap ((rd [a1_0, a1_1, a1_2, a1_3] a2_1) - (IntKind.i16.wrap (t134)))) a1_1, aup a2_1 2 (IntKind.i16.wrap ((rd [a1_0, a1_1, a1_2, a1_3] a2_1) - (IntKind.i16.wrap (t134)))) a1_2, aup a2_1 3 (IntKind.i16.wrap ((rd [a1_0, a1_1, a1_2, a1_3] a2_1) - (IntKind.i16.wrap (t134)))) a1_3]) BK132.out p94 q94; have hf94 := blk_frozen BK132.out (a2_2 : Int).toNat; have P94 := Aside0.mk p94; have Q94 := Aside0.mk q94; replace p94 := eq_true p94; replace q94 := eq_true q94; have p95 : 0 ≤ (a2_2 : Int) := asm_; have q95 : (a2_2 : Int) < 4 := asm_; have hx95 : w115.cell? ⟨gb132, (a2_2 : Int).toNat, none⟩ = some (.int .i16 (rd [aup a2_1 0 (IntKind.i16.wrap ((rd [a1_0, a1_1, a1_2, a1_3] a2_1) - (IntKind.i16.wrap (t134)))) a1_0, aup a2_1 1 (IntKind.i16.wrap ((rd [a1_0, a1_1, a1_2, a1_3] a2_1) - (IntKind.i16.wrap (t134)))) a1_1, aup a2_1 2 (IntKind.i16.wrap ((rd [a1_0, a1_1, a1_2, a1_3] a2_1) - (IntKind.i16.wrap (t134)))) a1_2, aup a2_1 3 (IntKind.i16.wrap ((rd [a1_0, a1_1, a1_2, a1_3] a2_1) - (IntKind.i16.wrap (t134)))) a1_3] a2_2)) := ard_cell (k := .i16) (l := [aup a2_1 0 (IntKind.i16.wrap ((rd [a1_0, a1_1, a1_2, a1_3] a2_1) - (IntKind.i16.wrap (t134)))) a1_0, aup a2_1 1 (IntKind.i16.wrap ((rd [a1_0, a1_1, a1_2, a1_3] a2_1) - (IntKind.i16.wrap (t134)))) a1_1, aup a2_1 2 (IntKind.i16.wrap ((rd [a1_0, a1_1, a1_2, a1_3] a2_1) - (IntKind.i16.wrap (t134)))) a1_2, aup a2_1 3 (IntKind.i16.wrap ((rd [a1_0, a1_1, a1_2, a1_3] a2_1) - (IntKind.i16.wrap (t134)))) a1_3]) BK132.out p95 q95; have hf95 := blk_frozen BK132.out (a2_2 : Int).toNat; have P95 := Aside0.mk p95; have Q95 := Aside0.mk q95; replace p95 := eq_true p95; replace q95 := eq_true q95) | ((with_reducible refine gate_store (t := 23) (p := 111) rfl ?_); refine store_event (t := 23) (p := 111) (v := ?vo_w119) (w1 := (w115.setCell ⟨gb132, (a2_2 : Int).toNat, none⟩ (.int .i16 (IntKind.i16.wrap ((rd [aup a2_1 0 (IntKind.i16.wrap ((rd [a1_0, a1_1, a1_2, a1_3] a2_1) - (IntKind.i16.wrap (t134)))) a1_0, aup a2_1 1 (IntKind.i16.wrap ((rd [a1_0, a1_1, a1_2, a1_3] a2_1) - (IntKind.i16.wrap (t134)))) a1_1, aup a2_1 2 (IntKind.i16.wrap ((rd [a1_0, a1_1, a1_2, a1_3] a2_1) - (IntKind.i16.wrap (t134)))) a1_2, aup a2_1 3 (IntKind.i16.wrap ((rd [a1_0, a1_1, a1_2, a1_3] a2_1) - (IntKind.i16.wrap (t134)))) a1_3] a2_2) + (IntKind.i16.wrap (t134))))))) ?hg ?ho ?hn ?hr ?_; (case ho => rfl); (case hg => rfl); (case hn => rfl); (case hr => first | (go_simp; done) | (go_simp; rfl)); intro w119 hw; have n0_ : Aside0 (w119.heap[gp0]? = some (.cells #[.slice (some ad133) l0_0.length c0_0, .int .i16 a0_1, .int .i16 a0_2, .int .i16 a0_3, .int .i16 a0_4, .bool a0_5] 32 (0, 0))) := ⟨(by rw [hw]; exact (pf_ BK125 NB125_132))⟩; have n1_ : Aside0 (w119.heap[gb126]? = some (.cells #[.int .i16 a1_0, .int .i16 a1_1, .int .i16 a1_2, .int .i16 a1_3] 30 (0, 0))) := ⟨(by rw [hw]; exact (pf_ BK126 NB126_132))⟩; have n2_ : Aside0 (w119.heap[gb127]? = some (.cells #[.int .i8 a2_0, .int .i8 a2_1, .int .i8 a2_2] 60 (0, 0))) := ⟨(by rw [hw]; exact (pf_ BK127 NB127_132))⟩; have n3_ : Aside0 (w119.heap[gb128]? = some (.cells #[.int .i16 0, .int .i16 0, .int .i16 0, .int .i16 0] 30 (0, 0))) := ⟨(by rw [hw]; exact (pf_ BK128 NB128_132))⟩; have n4_ : Aside0 (w119.heap[gb132]? = some (.cells #[.int .i16 (aup a2_2 0 (IntKind.i16.wrap ((rd [aup a2_1 0 (IntKind.i16.wrap ((rd [a1_0, a1_1, a1_2, a1_3] a2_1) - (IntKind.i16.wrap (t134)))) a1_0, aup a2_1 1 (IntKind.i16.wrap ((rd [a1_0, a1_1, a1_2, a1_3] a2_1) - (IntKind.i16.wrap (t134)))) a1_1, aup a2_1 2 (IntKind.i16.wrap ((rd [a1_0, a1_1, a1_2, a1_3] a2_1) - (IntKind.i16.wrap (t134)))) a1_2, aup a2_1 3 (IntKind.i16.wrap ((rd [a1_0, a1_1, a1_2, a1_3] a2_1) - (IntKind.i16.wrap (t134)))) a1_3] a2_2) + (IntKind.i16.wrap (t134)))) (aup a2_1 0 (IntKind.i16.wrap ((rd [a1_0, a1_1, a1_2, a1_3] a2_1) - (IntKind.i16.wrap (t134)))) a1_0)), .int .i16 (aup a2_2 1 (IntKind.i16.wrap ((rd [aup a2_1 0 (IntKind.i16.wrap ((rd [a1_0, a1_1, a1_2, a1_3] a2_1) - (IntKind.i16.wrap (t134)))) a1_0, aup a2_1 1 (IntKind.i16.wrap ((rd [a1_0, a1_1, a1_2, a1_3] a2_1) - (IntKind.i16.wrap (t134)))) a1_1, aup a2_1 2 (IntKind.i16.wrap ((rd [a1_0, a1_1, a1_2, a1_3] a2_1) - (IntKind.i16.wrap (t134)))) a1_2, aup a2_1 3 (IntKind.i16.wrap ((rd [a1_0, a1_1, a1_2, a1_3] a2_1) - (IntKind.i16.wrap (t134)))) a1_3] a2_2) + (IntKind.i16.wrap (t134)))) (aup a2_1 1 (IntKind.i16.wrap ((rd [a1_0, a1_1, a1_2, a1_3] a2_1) - (IntKind.i16.wrap (t134)))) a1_1)), .int .i16 (aup a2_2 2 (IntKind.i16.wrap ((rd [aup a2_1 0 (IntKind.i16.wrap ((rd [a1_0, a1_1, a1_2, a1_3] a2_1) - (IntKind.i16.wrap (t134)))) a1_0, aup a2_1 1 (IntKind.i16.wrap ((rd [a1_0, a1_1, a1_2, a1_3] a2_1) - (IntKind.i16.wrap (t134)))) a1_1, aup a2_1 2 (IntKind.i16.wrap ((rd [a1_0, a1_1, a1_2, a1_3] a2_1) - (IntKind.i16.wrap (t134)))) a1_2, aup a2_1 3 (IntKind.i16.wrap ((rd [a1_0, a1_1, a1_2, a1_3] a2_1) - (IntKind.i16.wrap (t134)))) a1_3] a2_2) + (IntKind.i16.wrap (t134)))) (aup a2_1 2 (IntKind.i16.wrap ((rd [a1_0, a1_1, a1_2, a1_3] a2_1) - (IntKind.i16.wrap (t134)))) a1_2)), .int .i16 (aup a2_2 3 (IntKind.i16.wrap ((rd [aup a2_1 0 (IntKind.i16.wrap ((rd [a1_0, a1_1, a1_2, a1_3] a2_1) - (IntKind.i16.wrap (t134)))) a1_0, aup a2_1 1 (IntKind.i16.wrap ((rd [a1_0, a1_1, a1_2, a1_3] a2_1) - (IntKind.i16.wrap (t134)))) a1_1, aup a2_1 2 (IntKind.i16.wrap ((rd [a1_0, a1_1, a1_2, a1_3] a2_1) - (IntKind.i16.wrap (t134)))) a1_2, aup a2_1 3 (IntKind.i16.wrap ((rd [a1_0, a1_1, a1_2, a1_3] a2_1) - (IntKind.i16.wrap (t134)))) a1_3] a2_2) + (IntKind.i16.wrap (t134)))) (aup a2_1 3 (IntKind.i16.wrap ((rd [a1_0, a1_1, a1_2, a1_3] a2_1) - (IntKind.i16.wrap (t134)))) a1_3))] 30 (0, 0))) := ⟨(by rw [hw]; exact (by (with_reducible repeat (first | refine blk_drewN ?_ _ | refine blk_drew ?_ | refine blk_alloc ?_ _)); refine blk_put (cs := #[.int .i16 (aup a2_1 0 (IntKind.i16.wrap ((rd [a1_0, a1_1, a1_2, a1_3] a2_1) - (IntKind.i16.wrap (t134)))) a1_0), .int .i16 (aup a2_1 1 (IntKind.i16.wrap ((rd [a1_0, a1_1, a1_2, a1_3] a2_1) - (IntKind.i16.wrap (t134)))) a1_1), .int .i16 (aup a2_1 2 (IntKind.i16.wrap ((rd [a1_0, a1_1, a1_2, a1_3] a2_1) - (IntKind.i16.wrap (t134)))) a1_2), .int .i16 (aup a2_1 3 (IntKind.i16.wrap ((rd [a1_0, a1_1, a1_2, a1_3] a2_1) - (IntKind.i16.wrap (t134)))) a1_3)]) ?_ (a2_2 : Int).toNat _ (ups_set (k := .i16) (l := [aup a2_1 0 (IntKind.i16.wrap ((rd [a1_0, a1_1, a1_2, a1_3] a2_1) - (IntKind.i16.wrap (t134)))) a1_0, aup a2_1 1 (IntKind.i16.wrap ((rd [a1_0, a1_1, a1_2, a1_3] a2_1) - (IntKind.i16.wrap (t134)))) a1_1, aup a2_1 2 (IntKind.i16.wrap ((rd [a1_0, a1_1, a1_2, a1_3] a2_1) - (IntKind.i16.wrap (t134)))) a1_2, aup a2_1 3 (IntKind.i16.wrap ((rd [a1_0, a1_1, a1_2, a1_3] a2_1) - (IntKind.i16.wrap (t134)))) a1_3]) P95.out); (with_reducible repeat (first | refine blk_drewN ?_ _ | refine blk_drew ?_ | refine blk_alloc ?_ _)); exact BK132.out))⟩; have n5_ : Aside0 (Below w.heap.size w w119) := ⟨(by rw [hw]; exact (bs_ HB GE132))⟩; clear hw; clear BK125; clear BK126; clear BK127; clear BK128; clear BK132; clear HB; have BK125 := n0_; have BK126 := n1_; have BK127 := n2_; have BK128 := n3_; have BK132 := n4_; have HB := n5_; clear n0_ n1_ n2_ n3_ n4_ n5_))
              go_meet
              case rel => exact ⟨_, (aup a2_2 0 (IntKind.i16.wrap ((rd [aup a2_1 0 (IntKind.i16.wrap ((rd [a1_0, a1_1, a1_2, a1_3] a2_1) - (IntKind.i16.wrap (t134)))) a1_0, aup a2_1 1 (IntKind.i16.wrap ((rd [a1_0, a1_1, a1_2, a1_3] a2_1) - (IntKind.i16.wrap (t134)))) a1_1, aup a2_1 2 (IntKind.i16.wrap ((rd [a1_0, a1_1, a1_2, a1_3] a2_1) - (IntKind.i16.wrap (t134)))) a1_2, aup a2_1 3 (IntKind.i16.wrap ((rd [a1_0, a1_1, a1_2, a1_3] a2_1) - (IntKind.i16.wrap (t134)))) a1_3] a2_2) + (IntKind.i16.wrap (t134)))) (aup a2_1 0 (IntKind.i16.wrap ((rd [a1_0, a1_1, a1_2, a1_3] a2_1) - (IntKind.i16.wrap (t134)))) a1_0)), (aup a2_2 1 (IntKind.i16.wrap ((rd [aup a2_1 0 (IntKind.i16.wrap ((rd [a1_0, a1_1, a1_2, a1_3] a2_1) - (IntKind.i16.wrap (t134)))) a1_0, aup a2_1 1 (IntKind.i16.wrap ((rd [a1_0, a1_1, a1_2, a1_3] a2_1) - (IntKind.i16.wrap (t134)))) a1_1, aup a2_1 2 (IntKind.i16.wrap ((rd [a1_0, a1_1, a1_2, a1_3] a2_1) - (IntKind.i16.wrap (t134)))) a1_2, aup a2_1 3 (IntKind.i16.wrap ((rd [a1_0, a1_1, a1_2, a1_3] a2_1) - (IntKind.i16.wrap (t134)))) a1_3] a2_2) + (IntKind.i16.wrap (t134)))) (aup a2_1 1 (IntKind.i16.wrap ((rd [a1_0, a1_1, a1_2, a1_3] a2_1) - (IntKind.i16.wrap (t134)))) a1_1)), (aup a2_2 2 (IntKind.i16.wrap ((rd [aup a2_1 0 (IntKind.i16.wrap ((rd [a1_0, a1_1, a1_2, a1_3] a2_1) - (IntKind.i16.wrap (t134)))) a1_0, aup a2_1 1 (IntKind.i16.wrap ((rd [a1_0, a1_1, a1_2, a1_3] a2_1) - (IntKind.i16.wrap (t134)))) a1_1, aup a2_1 2 (IntKind.i16.wrap ((rd [a1_0, a1_1, a1_2, a1_3] a2_1) - (IntKind.i16.wrap (t134)))) a1_2, aup a2_1 3 (IntKind.i16.wrap ((rd [a1_0, a1_1, a1_2, a1_3] a2_1) - (IntKind.i16.wrap (t134)))) a1_3] a2_2) + (IntKind.i16.wrap (t134)))) (aup a2_1 2 (IntKind.i16.wrap ((rd [a1_0, a1_1, a1_2, a1_3] a2_1) - (IntKind.i16.wrap (t134)))) a1_2)), (aup a2_2 3 (IntKind.i16.wrap ((rd [aup a2_1 0 (IntKind.i16.wrap ((rd [a1_0, a1_1, a1_2, a1_3] a2_1) - (IntKind.i16.wrap (t134)))) a1_0, aup a2_1 1 (IntKind.i16.wrap ((rd [a1_0, a1_1, a1_2, a1_3] a2_1) - (IntKind.i16.wrap (t134)))) a1_1, aup a2_1 2 (IntKind.i16.wrap ((rd [a1_0, a1_1, a1_2, a1_3] a2_1) - (IntKind.i16.wrap (t134)))) a1_2, aup a2_1 3 (IntKind.i16.wrap ((rd [a1_0, a1_1, a1_2, a1_3] a2_1) - (IntKind.i16.wrap (t134)))) a1_3] a2_2) + (IntKind.i16.wrap (t134)))) (aup a2_1 3 (IntKind.i16.wrap ((rd [a1_0, a1_1, a1_2, a1_3] a2_1) - (IntKind.i16.wrap (t134)))) a1_3)), H', ⟨by have := HJ3.out; have := HJ43.out; first | omega | exact Nat.le_refl _⟩, ⟨pl_ BK125⟩, ⟨pl_ BK126⟩, ⟨pl_ BK127⟩, ⟨pl_ BK128⟩, ⟨pl_ BK132⟩, ⟨bl_ HB⟩⟩
             ·rw [if_neg c88] at H
              exact absurd H (by simp)
            ·rw [if_neg c87] at H
             exact absurd H (by simp)
           ·rw [if_neg c86] at H
            exact absurd H (by simp)
          ·rw [if_neg c84] at H
           exact absurd H (by simp)
         ·rw [if_neg c83] at H
          exact absurd H (by simp)
        ·rw [if_neg c81] at H
         have c81b0 : (a2_0 == 0) = false := beq_eq_false_iff_ne.mpr c81
         have c81b1 : (a2_0 != 0) = true := bne_iff_ne.mpr c81
         (first | rw [c81b0] | (simp only [i64_w, i32_w]; rw [c81b0]) | skip)
         by_cases c120 : a2_0 = 1
         ·rw [if_pos c120] at H
          have c120b0 : (a2_0 == 1) = true := beq_iff_eq.mpr c120
          have c120b1 : (a2_0 != 1) = false := bne_eq_false_iff_eq.mpr c120
          clear c120
          by_cases c122 : 0 ≤ a2_1
          ·rw [if_pos c122] at H
           have c122b0 : decide (0 ≤ a2_1) = true := decide_eq_true c122
           clear c122
           by_cases c123 : a2_1 < (l0_0.length : Int)
           ·rw [if_pos c123] at H
            have c123b0 : decide (a2_1 < (l0_0.length : Int)) = true := decide_eq_true c123
            clear c123
            by_cases c124 : a2_1 < 4
            ·rw [if_pos c124] at H
             have c124b0 : decide (a2_1 < 4) = true := decide_eq_true c124
             clear c124
             have H' := Aside0.mk H
             clear H
             try go_wp2
             have n0_ : Aside0 (((((w72.setCell ⟨gb132, 0, none⟩ (.int .i16 a1_0)).setCell ⟨gb132, 1, none⟩ (.int .i16 a1_1)).setCell ⟨gb132, 2, none⟩ (.int .i16 a1_2)).setCell ⟨gb132, 3, none⟩ (.int .i16 a1_3)).heap[gp0]? = some (.cells #[.slice A0_0 l0_0.length c0_0, .int .i16 a0_1, .int .i16 a0_2, .int .i16 a0_3, .int .i16 a0_4, .bool a0_5] 32 (0, 0))) := ⟨pf_ BK125 NB125_132⟩
             have n1_ : Aside0 (((((w72.setCell ⟨gb132, 0, none⟩ (.int .i16 a1_0)).setCell ⟨gb132, 1, none⟩ (.int .i16 a1_1)).setCell ⟨gb132, 2, none⟩ (.int .i16 a1_2)).setCell ⟨gb132, 3, none⟩ (.int .i16 a1_3)).heap[gb126]? = some (.cells #[.int .i16 a1_0, .int .i16 a1_1, .int .i16 a1_2, .int .i16 a1_3] 30 (0, 0))) := ⟨pf_ BK126 NB126_132⟩
             have n2_ : Aside0 (((((w72.setCell ⟨gb132, 0, none⟩ (.int .i16 a1_0)).setCell ⟨gb132, 1, none⟩ (.int .i16 a1_1)).setCell ⟨gb132, 2, none⟩ (.int .i16 a1_2)).setCell ⟨gb132, 3, none⟩ (.int .i16 a1_3)).heap[gb127]? = some (.cells #[.int .i8 a2_0, .int .i8 a2_1, .int .i8 a2_2] 60 (0, 0))) := ⟨pf_ BK127 NB127_132⟩
             have n3_ : Aside0 (((((w72.setCell ⟨gb132, 0, none⟩ (.int .i16 a1_0)).setCell ⟨gb132, 1, none⟩ (.int .i16 a1_1)).setCell ⟨gb132, 2, none⟩ (.int .i16 a1_2)).setCell ⟨gb132, 3, none⟩ (.int .i16 a1_3)).heap[gb128]? = some (.cells #[.int .i16 0, .int .i16 0, .int .i16 0, .int .i16 0] 30 (0, 0))) := ⟨pf_ BK128 NB128_132⟩
             have n4_ : Aside0 (((((w72.setCell ⟨gb132, 0, none⟩ (.int .i16 a1_0)).setCell ⟨gb132, 1, none⟩ (.int .i16 a1_1)).setCell ⟨gb132, 2, none⟩ (.int .i16 a1_2)).setCell ⟨gb132, 3, none⟩ (.int .i16 a1_3)).heap[gb132]? = some (.cells #[.int .i16 a1_0, .int .i16 a1_1, .int .i16 a1_2, .int .i16 a1_3] 30 (0, 0))) := ⟨by (with_reducible repeat (first | refine blk_drewN ?_ _ | refine blk_drew ?_ | refine blk_alloc ?_ _)); refine blk_put (cs := #[.int .i16 a1_0, .int .i16 a1_1, .int .i16 a1_2, .int .i16 0]) ?_ 3 _ rfl; (with_reducible repeat (first | refine blk_drewN ?_ _ | refine blk_drew ?_ | refine blk_alloc ?_ _)); refine blk_put (cs := #[.int .i16 a1_0, .int .i16 a1_1, .int .i16 0, .int .i16 0]) ?_ 2 _ rfl; (with_reducible repeat (first | refine blk_drewN ?_ _ | refine blk_drew ?_ | refine blk_alloc ?_ _)); refine blk_put (cs := #[.int .i16 a1_0, .int .i16 0, .int .i16 0, .int .i16 0]) ?_ 1 _ rfl; (with_reducible repeat (first | refine blk_drewN ?_ _ | refine blk_drew ?_ | refine blk_alloc ?_ _)); refine blk_put (cs := #[.int .i16 0, .int .i16 0, .int .i16 0, .int .i16 0]) ?_ 0 _ rfl; (with_reducible repeat (first | refine blk_drewN ?_ _ | refine blk_drew ?_ | refine blk_alloc ?_ _)); exact BK132.out⟩
             have n5_ : Aside0 (Below w.heap.size w ((((w72.setCell ⟨gb132, 0, none⟩ (.int .i16 a1_0)).setCell ⟨gb132, 1, none⟩ (.int .i16 a1_1)).setCell ⟨gb132, 2, none⟩ (.int .i16 a1_2)).setCell ⟨gb132, 3, none⟩ (.int .i16 a1_3))) := ⟨bs_ HB GE132⟩
             (try clear BK125)
             (try clear BK126)
             (try clear BK127)
             (try clear BK128)
             (try clear BK132)
             (try clear HB)
             generalize ((((w72.setCell ⟨gb132, 0, none⟩ (.int .i16 a1_0)).setCell ⟨gb132, 1, none⟩ (.int .i16 a1_1)).setCell ⟨gb132, 2, none⟩ (.int .i16 a1_2)).setCell ⟨gb132, 3, none⟩ (.int .i16 a1_3)) = w127 at n0_ n1_ n2_ n3_ n4_ n5_ ⊢
             have BK125 := n0_
             have BK126 := n1_
             have BK127 := n2_
             have BK128 := n3_
             have BK132 := n4_
             have HB := n5_
             clear n0_ n1_ n2_ n3_ n4_ n5_
             refine wp_region_still_tail 10 (by kernel_rfl) (by kernel_rfl) ?_
             simp only [List.take_succ_cons, List.take_zero, List.drop_succ_cons, List.drop_zero]
             refine tail_shown ?_
             have n0_ := A_ (blk_drew BK125.out)
             have n1_ := A_ (blk_drew BK126.out)
             have n2_ := A_ (blk_drew BK127.out)
             have n3_ := A_ (blk_drew BK128.out)
             have n4_ := A_ (blk_drew BK132.out)
             have n5_ := A_ (below_drew1 HB.out)
             clear BK125
             clear BK126
             clear BK127
             clear BK128
             clear BK132
             clear HB
             have BK125 := n0_
             have BK126 := n1_
             have BK127 := n2_
             have BK128 := n3_
             have BK132 := n4_
             have HB := n5_
             clear n0_ n1_ n2_ n3_ n4_ n5_
             generalize w127.drew = w128 at BK125 BK126 BK127 BK128 BK132 HB ⊢
             have hnb129 := NB127_125.out
             have hnc129 := NB125_127.out
             have hnb130 := NB127_126.out
             have hnc130 := NB126_127.out
             have hnb131 := NB127_128.out
             have hnc131 := NB128_127.out
             have hnb132 := NB127_132.out
             have hnc132 := NB132_127.out
             obtain ⟨hcz133_0, hcz133_1, hcz133_2, hfz133_0, hfz133_1, hfz133_2⟩ := cl3_ BK127
             have hnb134 := NB125_126.out
             have hnc134 := NB126_125.out
             have hnb135 := NB125_128.out
             have hnc135 := NB128_125.out
             have hnb136 := NB125_132.out
             have hnc136 := NB132_125.out
             obtain ⟨hcz137_0, hcz137_1, hcz137_2, hcz137_3, hcz137_4, hcz137_5, hfz137_0, hfz137_1, hfz137_2, hfz137_3, hfz137_4, hfz137_5⟩ := cl6_ BK125
             have p135 : 0 ≤ (a2_1 : Int) := asm_
             have q135 : a2_1 < (l0_0.length : Int) := asm_
             obtain ⟨ad135, e135, hx135_0⟩ := Kd.at_int HR0_0.out a2_1 p135 q135
             cases e135
             (try replace hx135_0 := (HB.out.cell (World.block_lt_of_cell? w _ hx135_0)).trans hx135_0)
             replace p135 := eq_true p135
             replace q135 := eq_true q135
             have hnb138 := NB132_126.out
             have hnc138 := NB126_132.out
             have hnb139 := NB132_128.out
             have hnc139 := NB128_132.out
             obtain ⟨hcz140_0, hcz140_1, hcz140_2, hcz140_3, hfz140_0, hfz140_1, hfz140_2, hfz140_3⟩ := cl4_ BK132
             have p125 : 0 ≤ (a2_1 : Int) := asm_
             have q125 : (a2_1 : Int) < 4 := asm_
             have hx125 : w128.cell? ⟨gb132, (a2_1 : Int).toNat, none⟩ = some (.int .i16 (rd [a1_0, a1_1, a1_2, a1_3] a2_1)) := ard_cell (k := .i16) (l := [a1_0, a1_1, a1_2, a1_3]) BK132.out p125 q125
             have hf125 := blk_frozen BK132.out (a2_1 : Int).toNat
             have P125 := Aside0.mk p125
             have Q125 := Aside0.mk q125
             replace p125 := eq_true p125
             replace q125 := eq_true q125
             repeat still_step
             (try refine wpStill_nil ?_)
             (try simp only [i64_w, i32_w])
             try go_wp2_with (first | ((with_reducible refine gate_store (t := 23) (p := 124) rfl ?_); refine store_event (t := 23) (p := 124) (v := ?vo_w142) (w1 := (w128.setCell ⟨gb132, (a2_1 : Int).toNat, none⟩ (.int .i16 (rd l0_0 a2_1)))) ?hg ?ho ?hn ?hr ?_; (case ho => rfl); (case hg => rfl); (case hn => rfl); (case hr => first | (go_simp; done) | (go_simp; rfl)); intro w142 hw; have n0_ : Aside0 (w142.heap[gp0]? = some (.cells #[.slice (some ad135) l0_0.length c0_0, .int .i16 a0_1, .int .i16 a0_2, .int .i16 a0_3, .int .i16 a0_4, .bool a0_5] 32 (0, 0))) := ⟨(by rw [hw]; exact (pf_ BK125 NB125_132))⟩; have n1_ : Aside0 (w142.heap[gb126]? = some (.cells #[.int .i16 a1_0, .int .i16 a1_1, .int .i16 a1_2, .int .i16 a1_3] 30 (0, 0))) := ⟨(by rw [hw]; exact (pf_ BK126 NB126_132))⟩; have n2_ : Aside0 (w142.heap[gb127]? = some (.cells #[.int .i8 a2_0, .int .i8 a2_1, .int .i8 a2_2] 60 (0, 0))) := ⟨(by rw [hw]; exact (pf_ BK127 NB127_132))⟩; have n3_ : Aside0 (w142.heap[gb128]? = some (.cells #[.int .i16 0, .int .i16 0, .int .i16 0, .int .i16 0] 30 (0, 0))) := ⟨(by rw [hw]; exact (pf_ BK128 NB128_132))⟩; have n4_ : Aside0 (w142.heap[gb132]? = some (.cells #[.int .i16 (aup a2_1 0 (rd l0_0 a2_1) a1_0), .int .i16 (aup a2_1 1 (rd l0_0 a2_1) a1_1), .int .i16 (aup a2_1 2 (rd l0_0 a2_1) a1_2), .int .i16 (aup a2_1 3 (rd l0_0 a2_1) a1_3)] 30 (0, 0))) := ⟨(by rw [hw]; exact (by (with_reducible repeat (first | refine blk_drewN ?_ _ | refine blk_drew ?_ | refine blk_alloc ?_ _)); refine blk_put (cs := #[.int .i16 a1_0, .int .i16 a1_1, .int .i16 a1_2, .int .i16 a1_3]) ?_ (a2_1 : Int).toNat _ (ups_set (k := .i16) (l := [a1_0, a1_1, a1_2, a1_3]) P125.out); (with_reducible repeat (first | refine blk_drewN ?_ _ | refine blk_drew ?_ | refine blk_alloc ?_ _)); exact BK132.out))⟩; have n5_ : Aside0 (Below w.heap.size w w142) := ⟨(by rw [hw]; exact (bs_ HB GE132))⟩; clear hw; clear BK125; clear BK126; clear BK127; clear BK128; clear BK132; clear HB; have BK125 := n0_; have BK126 := n1_; have BK127 := n2_; have BK128 := n3_; have BK132 := n4_; have HB := n5_; clear n0_ n1_ n2_ n3_ n4_ n5_))
             go_meet
             case rel => exact ⟨_, (aup a2_1 0 (rd l0_0 a2_1) a1_0), (aup a2_1 1 (rd l0_0 a2_1) a1_1), (aup a2_1 2 (rd l0_0 a2_1) a1_2), (aup a2_1 3 (rd l0_0 a2_1) a1_3), H', ⟨by have := HJ3.out; have := HJ43.out; first | omega | exact Nat.le_refl _⟩, ⟨pl_ BK125⟩, ⟨pl_ BK126⟩, ⟨pl_ BK127⟩, ⟨pl_ BK128⟩, ⟨pl_ BK132⟩, ⟨bl_ HB⟩⟩
            ·rw [if_neg c124] at H
             exact absurd H (by simp)
           ·rw [if_neg c123] at H
            exact absurd H (by simp)
          ·rw [if_neg c122] at H
           exact absurd H (by simp)
         ·rw [if_neg c120] at H
          have c120b0 : (a2_0 == 1) = false := beq_eq_false_iff_ne.mpr c120
          have c120b1 : (a2_0 != 1) = true := bne_iff_ne.mpr c120
          by_cases c143 : a2_0 = 2
          ·rw [if_pos c143] at H
           have c143b0 : (a2_0 == 2) = true := beq_iff_eq.mpr c143
           have c143b1 : (a2_0 != 2) = false := bne_eq_false_iff_eq.mpr c143
           clear c143
           by_cases c144 : 0 ≤ a2_1
           ·rw [if_pos c144] at H
            have c144b0 : decide (0 ≤ a2_1) = true := decide_eq_true c144
            clear c144
            by_cases c145 : a2_1 < 4
            ·rw [if_pos c145] at H
             have c145b0 : decide (a2_1 < 4) = true := decide_eq_true c145
             clear c145
             have H' := Aside0.mk H
             clear H
             have hnb148 := NB127_125.out
             have hnc148 := NB125_127.out
             have hnb149 := NB127_126.out
             have hnc149 := NB126_127.out
             have hnb150 := NB127_128.out
             have hnc150 := NB128_127.out
             have hnb151 := NB127_132.out
             have hnc151 := NB132_127.out
             obtain ⟨hcz152_0, hcz152_1, hcz152_2, hfz152_0, hfz152_1, hfz152_2⟩ := cl3_ BK127
             go_wp2_with (first | ((with_reducible refine gate_dst (N := 129) rfl ?_); have p146 : 0 ≤ (a2_1 : Int) := asm_; have q146 : (a2_1 : Int) < 4 := asm_; have P146 := Aside0.mk p146; have Q146 := Aside0.mk q146; replace p146 := eq_true p146; replace q146 := eq_true q146; refine addr_event ?hg (N := 129) ?hd (v := .pointer (some ⟨gb132, (a2_1 : Int).toNat, none⟩)) ?hr ?_; (case hd => rfl); (case hg => rfl); (case hr => first | (go_simp; done) | (go_simp; rfl)); have n0_ : Aside0 (((((w72.setCell ⟨gb132, 0, none⟩ (.int .i16 a1_0)).setCell ⟨gb132, 1, none⟩ (.int .i16 a1_1)).setCell ⟨gb132, 2, none⟩ (.int .i16 a1_2)).setCell ⟨gb132, 3, none⟩ (.int .i16 a1_3)).heap[gp0]? = some (.cells #[.slice A0_0 l0_0.length c0_0, .int .i16 a0_1, .int .i16 a0_2, .int .i16 a0_3, .int .i16 a0_4, .bool a0_5] 32 (0, 0))) := ⟨pf_ BK125 NB125_132⟩; have n1_ : Aside0 (((((w72.setCell ⟨gb132, 0, none⟩ (.int .i16 a1_0)).setCell ⟨gb132, 1, none⟩ (.int .i16 a1_1)).setCell ⟨gb132, 2, none⟩ (.int .i16 a1_2)).setCell ⟨gb132, 3, none⟩ (.int .i16 a1_3)).heap[gb126]? = some (.cells #[.int .i16 a1_0, .int .i16 a1_1, .int .i16 a1_2, .int .i16 a1_3] 30 (0, 0))) := ⟨pf_ BK126 NB126_132⟩; have n2_ : Aside0 (((((w72.setCell ⟨gb132, 0, none⟩ (.int .i16 a1_0)).setCell ⟨gb132, 1, none⟩ (.int .i16 a1_1)).setCell ⟨gb132, 2, none⟩ (.int .i16 a1_2)).setCell ⟨gb132, 3, none⟩ (.int .i16 a1_3)).heap[gb127]? = some (.cells #[.int .i8 a2_0, .int .i8 a2_1, .int .i8 a2_2] 60 (0, 0))) := ⟨pf_ BK127 NB127_132⟩; have n3_ : Aside0 (((((w72.setCell ⟨gb132, 0, none⟩ (.int .i16 a1_0)).setCell ⟨gb132, 1, none⟩ (.int .i16 a1_1)).setCell ⟨gb132, 2, none⟩ (.int .i16 a1_2)).setCell ⟨gb132, 3, none⟩ (.int .i16 a1_3)).heap[gb128]? = some (.cells #[.int .i16 0, .int .i16 0, .int .i16 0, .int .i16 0] 30 (0, 0))) := ⟨pf_ BK128 NB128_132⟩; have n4_ : Aside0 (((((w72.setCell ⟨gb132, 0, none⟩ (.int .i16 a1_0)).setCell ⟨gb132, 1, none⟩ (.int .i16 a1_1)).setCell ⟨gb132, 2, none⟩ (.int .i16 a1_2)).setCell ⟨gb132, 3, none⟩ (.int .i16 a1_3)).heap[gb132]? = some (.cells #[.int .i16 a1_0, .int .i16 a1_1, .int .i16 a1_2, .int .i16 a1_3] 30 (0, 0))) := ⟨by (with_reducible repeat (first | refine blk_drewN ?_ _ | refine blk_drew ?_ | refine blk_alloc ?_ _)); refine blk_put (cs := #[.int .i16 a1_0, .int .i16 a1_1, .int .i16 a1_2, .int .i16 0]) ?_ 3 _ rfl; (with_reducible repeat (first | refine blk_drewN ?_ _ | refine blk_drew ?_ | refine blk_alloc ?_ _)); refine blk_put (cs := #[.int .i16 a1_0, .int .i16 a1_1, .int .i16 0, .int .i16 0]) ?_ 2 _ rfl; (with_reducible repeat (first | refine blk_drewN ?_ _ | refine blk_drew ?_ | refine blk_alloc ?_ _)); refine blk_put (cs := #[.int .i16 a1_0, .int .i16 0, .int .i16 0, .int .i16 0]) ?_ 1 _ rfl; (with_reducible repeat (first | refine blk_drewN ?_ _ | refine blk_drew ?_ | refine blk_alloc ?_ _)); refine blk_put (cs := #[.int .i16 0, .int .i16 0, .int .i16 0, .int .i16 0]) ?_ 0 _ rfl; (with_reducible repeat (first | refine blk_drewN ?_ _ | refine blk_drew ?_ | refine blk_alloc ?_ _)); exact BK132.out⟩; have n5_ : Aside0 (Below w.heap.size w ((((w72.setCell ⟨gb132, 0, none⟩ (.int .i16 a1_0)).setCell ⟨gb132, 1, none⟩ (.int .i16 a1_1)).setCell ⟨gb132, 2, none⟩ (.int .i16 a1_2)).setCell ⟨gb132, 3, none⟩ (.int .i16 a1_3))) := ⟨bs_ HB GE132⟩; (try clear BK125); (try clear BK126); (try clear BK127); (try clear BK128); (try clear BK132); (try clear HB); generalize ((((w72.setCell ⟨gb132, 0, none⟩ (.int .i16 a1_0)).setCell ⟨gb132, 1, none⟩ (.int .i16 a1_1)).setCell ⟨gb132, 2, none⟩ (.int .i16 a1_2)).setCell ⟨gb132, 3, none⟩ (.int .i16 a1_3)) = w153 at n0_ n1_ n2_ n3_ n4_ n5_ ⊢; have BK125 := n0_; have BK126 := n1_; have BK127 := n2_; have BK128 := n3_; have BK132 := n4_; have HB := n5_; clear n0_ n1_ n2_ n3_ n4_ n5_; have hx146 : w153.cell? ⟨gb132, (a2_1 : Int).toNat, none⟩ = some (.int .i16 (rd [a1_0, a1_1, a1_2, a1_3] a2_1)) := ard_cell (k := .i16) (l := [a1_0, a1_1, a1_2, a1_3]) BK132.out P146.out Q146.out; have hf146 := blk_frozen BK132.out (a2_1 : Int).toNat) | ((with_reducible refine gate_store (t := 23) (p := 129) rfl ?_); refine store_event (t := 23) (p := 129) (v := ?vo_w155) (w1 := (w153.setCell ⟨gb132, (a2_1 : Int).toNat, none⟩ (.int .i16 0))) ?hg ?ho ?hn ?hr ?_; (case ho => rfl); (case hg => rfl); (case hn => rfl); (case hr => first | (go_simp; done) | (go_simp; rfl)); intro w155 hw; have n0_ : Aside0 (w155.heap[gp0]? = some (.cells #[.slice A0_0 l0_0.length c0_0, .int .i16 a0_1, .int .i16 a0_2, .int .i16 a0_3, .int .i16 a0_4, .bool a0_5] 32 (0, 0))) := ⟨(by rw [hw]; exact (pf_ BK125 NB125_132))⟩; have n1_ : Aside0 (w155.heap[gb126]? = some (.cells #[.int .i16 a1_0, .int .i16 a1_1, .int .i16 a1_2, .int .i16 a1_3] 30 (0, 0))) := ⟨(by rw [hw]; exact (pf_ BK126 NB126_132))⟩; have n2_ : Aside0 (w155.heap[gb127]? = some (.cells #[.int .i8 a2_0, .int .i8 a2_1, .int .i8 a2_2] 60 (0, 0))) := ⟨(by rw [hw]; exact (pf_ BK127 NB127_132))⟩; have n3_ : Aside0 (w155.heap[gb128]? = some (.cells #[.int .i16 0, .int .i16 0, .int .i16 0, .int .i16 0] 30 (0, 0))) := ⟨(by rw [hw]; exact (pf_ BK128 NB128_132))⟩; have n4_ : Aside0 (w155.heap[gb132]? = some (.cells #[.int .i16 (aup a2_1 0 0 a1_0), .int .i16 (aup a2_1 1 0 a1_1), .int .i16 (aup a2_1 2 0 a1_2), .int .i16 (aup a2_1 3 0 a1_3)] 30 (0, 0))) := ⟨(by rw [hw]; exact (by (with_reducible repeat (first | refine blk_drewN ?_ _ | refine blk_drew ?_ | refine blk_alloc ?_ _)); refine blk_put (cs := #[.int .i16 a1_0, .int .i16 a1_1, .int .i16 a1_2, .int .i16 a1_3]) ?_ (a2_1 : Int).toNat _ (ups_set (k := .i16) (l := [a1_0, a1_1, a1_2, a1_3]) P146.out); (with_reducible repeat (first | refine blk_drewN ?_ _ | refine blk_drew ?_ | refine blk_alloc ?_ _)); exact BK132.out))⟩; have n5_ : Aside0 (Below w.heap.size w w155) := ⟨(by rw [hw]; exact (bs_ HB GE132))⟩; clear hw; clear BK125; clear BK126; clear BK127; clear BK128; clear BK132; clear HB; have BK125 := n0_; have BK126 := n1_; have BK127 := n2_; have BK128 := n3_; have BK132 := n4_; have HB := n5_; clear n0_ n1_ n2_ n3_ n4_ n5_))
             go_meet
             case rel => exact ⟨_, (aup a2_1 0 0 a1_0), (aup a2_1 1 0 a1_1), (aup a2_1 2 0 a1_2), (aup a2_1 3 0 a1_3), H', ⟨by have := HJ3.out; have := HJ43.out; first | omega | exact Nat.le_refl _⟩, ⟨pl_ BK125⟩, ⟨pl_ BK126⟩, ⟨pl_ BK127⟩, ⟨pl_ BK128⟩, ⟨pl_ BK132⟩, ⟨bl_ HB⟩⟩
            ·rw [if_neg c145] at H
             exact absurd H (by simp)
           ·rw [if_neg c144] at H
            exact absurd H (by simp)
          ·rw [if_neg c143] at H
           have c143b0 : (a2_0 == 2) = false := beq_eq_false_iff_ne.mpr c143
           have c143b1 : (a2_0 != 2) = true := bne_iff_ne.mpr c143
           have H' := Aside0.mk H
           clear H
           go_wp2
           go_meet
           case rel => exact ⟨_, (a1_0), (a1_1), (a1_2), (a1_3), H', ⟨by have := HJ3.out; have := HJ43.out; first | omega | exact Nat.le_refl _⟩, ⟨pf_ BK125 NB125_132⟩, ⟨pf_ BK126 NB126_132⟩, ⟨pf_ BK127 NB127_132⟩, ⟨pf_ BK128 NB128_132⟩, ⟨by (with_reducible repeat (first | refine blk_drewN ?_ _ | refine blk_drew ?_ | refine blk_alloc ?_ _)); refine blk_put (cs := #[.int .i16 a1_0, .int .i16 a1_1, .int .i16 a1_2, .int .i16 0]) ?_ 3 _ rfl; (with_reducible repeat (first | refine blk_drewN ?_ _ | refine blk_drew ?_ | refine blk_alloc ?_ _)); refine blk_put (cs := #[.int .i16 a1_0, .int .i16 a1_1, .int .i16 0, .int .i16 0]) ?_ 2 _ rfl; (with_reducible repeat (first | refine blk_drewN ?_ _ | refine blk_drew ?_ | refine blk_alloc ?_ _)); refine blk_put (cs := #[.int .i16 a1_0, .int .i16 0, .int .i16 0, .int .i16 0]) ?_ 1 _ rfl; (with_reducible repeat (first | refine blk_drewN ?_ _ | refine blk_drew ?_ | refine blk_alloc ?_ _)); refine blk_put (cs := #[.int .i16 0, .int .i16 0, .int .i16 0, .int .i16 0]) ?_ 0 _ rfl; (with_reducible repeat (first | refine blk_drewN ?_ _ | refine blk_drew ?_ | refine blk_alloc ?_ _)); exact BK132.out⟩, ⟨bs_ HB GE132⟩⟩
       case rest =>
        clear HC67
        try clear c1
        try clear p1
        try clear q1
        try clear hx1
        try clear c2
        try clear p2
        try clear c3
        try clear c4
        try clear c5
        try clear c6
        try clear p6
        try clear c7
        try clear c8
        try clear p8
        try clear q8
        try clear hx8
        try clear hf8
        try clear c9
        try clear p9
        try clear q9
        try clear hx9
        try clear hf9
        try clear c10
        try clear c11
        try clear c12
        try clear p12
        try clear q12
        try clear hx12
        try clear hf12
        try clear c13
        try clear p13
        try clear q13
        try clear hx13
        try clear c14
        try clear p14
        try clear q14
        try clear hx14
        try clear hf14
        try clear c15
        try clear c17
        try clear c18
        try clear c18b0
        try clear c18b1
        try clear c19
        try clear c20
        try clear c21
        try clear c23
        try clear c24
        try clear c25
        try clear c27
        try clear c28
        try clear c29
        try clear c31
        try clear c32
        try clear c33
        try clear c35
        try clear c36
        try clear c37
        try clear c39
        try clear c40
        try clear c41
        try clear c42
        try clear c45
        try clear c45b0
        try clear c45b1
        try clear c46
        try clear c46b0
        try clear c46b1
        try clear c47
        try clear c48
        try clear c49
        try clear c51
        try clear c52
        try clear c53
        try clear c55
        try clear c56
        try clear c57
        try clear c59
        try clear c60
        try clear c62
        try clear c63
        try clear c64
        try clear p64
        try clear c65
        try clear c68
        try clear c69
        try clear c70
        try clear c73
        try clear c74
        try clear c75
        try clear c76
        try clear c78
        try clear c79
        try clear c81
        try clear c81b0
        try clear c81b1
        try clear c83
        try clear c83b0
        try clear c84
        try clear c84b0
        try clear p85
        try clear q85
        try clear hx85
        try clear hf85
        try clear c86
        try clear c86b0
        try clear c87
        try clear c87b0
        try clear c88
        try clear c88b0
        try clear p89
        try clear q89
        try clear hx89
        try clear hf89
        try clear p91
        try clear q91
        try clear hx91
        try clear hf91
        try clear p92
        try clear q92
        try clear hx92
        try clear hf92
        try clear p94
        try clear q94
        try clear hx94
        try clear hf94
        try clear p95
        try clear q95
        try clear hx95
        try clear hf95
        try clear c99
        try clear c100
        try clear c101
        try clear c102
        try clear c104
        try clear c105
        try clear c106
        try clear c108
        try clear c109
        try clear c112
        try clear c120
        try clear c120b0
        try clear c120b1
        try clear c122
        try clear c122b0
        try clear c123
        try clear c123b0
        try clear c124
        try clear c124b0
        try clear p125
        try clear q125
        try clear hx125
        try clear hf125
        try clear c129
        try clear c130
        try clear c131
        try clear c132
        try clear p133
        try clear q133
        try clear hx133
        try clear c134
        try clear c135
        try clear p135
        try clear q135
        try clear hx135
        try clear c136
        try clear c138
        try clear c139
        try clear c143
        try clear c143b0
        try clear c143b1
        try clear c144
        try clear c144b0
        try clear c145
        try clear c145b0
        try clear p146
        try clear q146
        try clear hx146
        try clear hf146
        try clear c148
        try clear c149
        try clear c150
        try clear c151
        try clear hcz103_0
        try clear hcz103_1
        try clear hcz103_2
        try clear hcz107_0
        try clear hcz107_1
        try clear hcz107_2
        try clear hcz107_3
        try clear hcz110_0
        try clear hcz110_1
        try clear hcz110_2
        try clear hcz110_3
        try clear hcz110_4
        try clear hcz110_5
        try clear hcz111_0
        try clear hcz111_1
        try clear hcz111_2
        try clear hcz113_0
        try clear hcz113_1
        try clear hcz113_2
        try clear hcz113_3
        try clear hcz116_0
        try clear hcz116_1
        try clear hcz116_2
        try clear hcz117_0
        try clear hcz117_1
        try clear hcz117_2
        try clear hcz117_3
        try clear hcz11_0
        try clear hcz11_1
        try clear hcz11_2
        try clear hcz11_3
        try clear hcz11_4
        try clear hcz11_5
        try clear hcz133_0
        try clear hcz133_1
        try clear hcz133_2
        try clear hcz137_0
        try clear hcz137_1
        try clear hcz137_2
        try clear hcz137_3
        try clear hcz137_4
        try clear hcz137_5
        try clear hcz140_0
        try clear hcz140_1
        try clear hcz140_2
        try clear hcz140_3
        try clear hcz152_0
        try clear hcz152_1
        try clear hcz152_2
        try clear hcz22_0
        try clear hcz22_1
        try clear hcz22_2
        try clear hcz26_0
        try clear hcz26_1
        try clear hcz26_2
        try clear hcz30_0
        try clear hcz30_1
        try clear hcz30_2
        try clear hcz34_0
        try clear hcz34_1
        try clear hcz34_2
        try clear hcz38_0
        try clear hcz38_1
        try clear hcz38_2
        try clear hcz43_0
        try clear hcz43_1
        try clear hcz43_2
        try clear hcz43_3
        try clear hcz50_0
        try clear hcz50_1
        try clear hcz50_2
        try clear hcz54_0
        try clear hcz54_1
        try clear hcz54_2
        try clear hcz58_0
        try clear hcz58_1
        try clear hcz58_2
        try clear hcz61_0
        try clear hcz61_1
        try clear hcz61_2
        try clear hcz61_3
        try clear hcz61_4
        try clear hcz61_5
        try clear hcz66_0
        try clear hcz66_1
        try clear hcz66_2
        try clear hcz66_3
        try clear hcz71_0
        try clear hcz71_1
        try clear hcz71_2
        try clear hcz71_3
        try clear hcz77_0
        try clear hcz77_1
        try clear hcz77_2
        try clear hcz77_3
        try clear hcz80_0
        try clear hcz80_1
        try clear hcz80_2
        try clear hfz103_0
        try clear hfz103_1
        try clear hfz103_2
        try clear hfz107_0
        try clear hfz107_1
        try clear hfz107_2
        try clear hfz107_3
        try clear hfz110_0
        try clear hfz110_1
        try clear hfz110_2
        try clear hfz110_3
        try clear hfz110_4
        try clear hfz110_5
        try clear hfz111_0
        try clear hfz111_1
        try clear hfz111_2
        try clear hfz113_0
        try clear hfz113_1
        try clear hfz113_2
        try clear hfz113_3
        try clear hfz116_0
        try clear hfz116_1
        try clear hfz116_2
        try clear hfz117_0
        try clear hfz117_1
        try clear hfz117_2
        try clear hfz117_3
        try clear hfz11_0
        try clear hfz11_1
        try clear hfz11_2
        try clear hfz11_3
        try clear hfz11_4
        try clear hfz11_5
        try clear hfz133_0
        try clear hfz133_1
        try clear hfz133_2
        try clear hfz137_0
        try clear hfz137_1
        try clear hfz137_2
        try clear hfz137_3
        try clear hfz137_4
        try clear hfz137_5
        try clear hfz140_0
        try clear hfz140_1
        try clear hfz140_2
        try clear hfz140_3
        try clear hfz152_0
        try clear hfz152_1
        try clear hfz152_2
        try clear hfz22_0
        try clear hfz22_1
        try clear hfz22_2
        try clear hfz26_0
        try clear hfz26_1
        try clear hfz26_2
        try clear hfz30_0
        try clear hfz30_1
        try clear hfz30_2
        try clear hfz34_0
        try clear hfz34_1
        try clear hfz34_2
        try clear hfz38_0
        try clear hfz38_1
        try clear hfz38_2
        try clear hfz43_0
        try clear hfz43_1
        try clear hfz43_2
        try clear hfz43_3
        try clear hfz50_0
        try clear hfz50_1
        try clear hfz50_2
        try clear hfz54_0
        try clear hfz54_1
        try clear hfz54_2
        try clear hfz58_0
        try clear hfz58_1
        try clear hfz58_2
        try clear hfz61_0
        try clear hfz61_1
        try clear hfz61_2
        try clear hfz61_3
        try clear hfz61_4
        try clear hfz61_5
        try clear hfz66_0
        try clear hfz66_1
        try clear hfz66_2
        try clear hfz66_3
        try clear hfz71_0
        try clear hfz71_1
        try clear hfz71_2
        try clear hfz71_3
        try clear hfz77_0
        try clear hfz77_1
        try clear hfz77_2
        try clear hfz77_3
        try clear hfz80_0
        try clear hfz80_1
        try clear hfz80_2
        try clear hx133_0
        try clear hx135_0
        try clear p125
        try clear p133
        try clear p135
        try clear p146
        try clear p2
        try clear p6
        try clear p85
        try clear p89
        try clear p91
        try clear p92
        try clear p94
        try clear p95
        try clear q125
        try clear q133
        try clear q135
        try clear q146
        try clear q85
        try clear q89
        try clear q91
        try clear q92
        try clear q94
        try clear q95
        obtain ⟨kq, x133000_66, x133001_66, x133002_66, x133003_66, HA, HJ66, BK125, BK126, BK127, BK128, BK132, HB⟩ := hcut
        cases kq with
        | zero => exact absurd HA.out (by simp [spec_l02Move.j2])
        | succ kj66 =>
         have H := HA.out
         clear HA
         simp only [spec_l02Move.j2] at H
         by_cases c156 : (x133000_66 == a1_0 && (x133001_66 == a1_1 && (x133002_66 == a1_2 && (x133003_66 == a1_3)))) = true
         ·rw [if_pos c156] at H
          have c156b0 : (x133000_66 == a1_0 && (x133001_66 == a1_1 && (x133002_66 == a1_2 && (x133003_66 == a1_3)))) = true := c156
          (try (have c156b1 : decide (x133000_66 = a1_0 && (x133001_66 == a1_1 && (x133002_66 == a1_2 && (x133003_66 == a1_3)))) = true := by simpa using c156))
          (try (have c156b2 : (x133000_66 == a1_0 && (x133001_66 == a1_1 && (x133002_66 == a1_2 && (x133003_66 == a1_3)))) = true := by simpa using c156))
          clear c156
          simp only [Option.some.injEq, Prod.mk.injEq] at H
          obtain ⟨rfl, rfl, rfl, rfl, rfl⟩ := H
          have hnb157 := NB132_125.out
          have hnc157 := NB125_132.out
          have hnb158 := NB132_126.out
          have hnc158 := NB126_132.out
          have hnb159 := NB132_127.out
          have hnc159 := NB127_132.out
          have hnb160 := NB132_128.out
          have hnc160 := NB128_132.out
          obtain ⟨hcz161_0, hcz161_1, hcz161_2, hcz161_3, hfz161_0, hfz161_1, hfz161_2, hfz161_3⟩ := cl4_ BK132
          have hnb162 := NB126_125.out
          have hnc162 := NB125_126.out
          have hnb163 := NB126_127.out
          have hnc163 := NB127_126.out
          have hnb164 := NB126_128.out
          have hnc164 := NB128_126.out
          obtain ⟨hcz165_0, hcz165_1, hcz165_2, hcz165_3, hfz165_0, hfz165_1, hfz165_2, hfz165_3⟩ := cl4_ BK126
          have hnb166 := NB128_125.out
          have hnc166 := NB125_128.out
          have hnb167 := NB128_127.out
          have hnc167 := NB127_128.out
          obtain ⟨hcz168_0, hcz168_1, hcz168_2, hcz168_3, hfz168_0, hfz168_1, hfz168_2, hfz168_3⟩ := cl4_ BK128
          go_wp2
          refine bodyPost_ret (results_ct rfl _ _ gb128 30 #[.int .i16 0, .int .i16 0, .int .i16 0, .int .i16 0] (0, 0) _ rfl (by (with_reducible repeat (first | refine blk_drewN ?_ _ | refine blk_drew ?_ | refine blk_alloc ?_ _)); refine blk_put (cs := #[.int .i16 0, .int .i16 0, .int .i16 0, .int .i16 0]) ?_ 3 _ rfl; (with_reducible repeat (first | refine blk_drewN ?_ _ | refine blk_drew ?_ | refine blk_alloc ?_ _)); refine blk_put (cs := #[.int .i16 0, .int .i16 0, .int .i16 0, .int .i16 0]) ?_ 2 _ rfl; (with_reducible repeat (first | refine blk_drewN ?_ _ | refine blk_drew ?_ | refine blk_alloc ?_ _)); refine blk_put (cs := #[.int .i16 0, .int .i16 0, .int .i16 0, .int .i16 0]) ?_ 1 _ rfl; (with_reducible repeat (first | refine blk_drewN ?_ _ | refine blk_drew ?_ | refine blk_alloc ?_ _)); refine blk_put (cs := #[.int .i16 0, .int .i16 0, .int .i16 0, .int .i16 0]) ?_ 0 _ rfl; (with_reducible repeat (first | refine blk_drewN ?_ _ | refine blk_drew ?_ | refine blk_alloc ?_ _)); exact BK128.out) Try.underlying30 rfl (by kernel_rfl)) rfl ?_
          exact ⟨by first | rfl | (simp [errW_none, errW_some] <;> rfl) | (simp [*, errW_none, errW_some] <;> rfl), bs_ HB GE128⟩
         ·rw [if_neg c156] at H
          have c156b0 : (x133000_66 == a1_0 && (x133001_66 == a1_1 && (x133002_66 == a1_2 && (x133003_66 == a1_3)))) = false := by simpa using c156
          (try (have c156b1 : decide (x133000_66 = a1_0 && (x133001_66 == a1_1 && (x133002_66 == a1_2 && (x133003_66 == a1_3)))) = false := by simpa using c156))
          (try (have c156b2 : (x133000_66 == a1_0 && (x133001_66 == a1_1 && (x133002_66 == a1_2 && (x133003_66 == a1_3)))) = false := by simpa using c156))
          (try (have c156b3 : ¬ (x133000_66 = a1_0 && (x133001_66 == a1_1 && (x133002_66 == a1_2 && (x133003_66 == a1_3)))) := by simpa using c156))
          clear c156
          simp only [Option.some.injEq, Prod.mk.injEq] at H
          obtain ⟨rfl, rfl, rfl, rfl, rfl⟩ := H
          have hnb169 := NB132_125.out
          have hnc169 := NB125_132.out
          have hnb170 := NB132_126.out
          have hnc170 := NB126_132.out
          have hnb171 := NB132_127.out
          have hnc171 := NB127_132.out
          have hnb172 := NB132_128.out
          have hnc172 := NB128_132.out
          obtain ⟨hcz173_0, hcz173_1, hcz173_2, hcz173_3, hfz173_0, hfz173_1, hfz173_2, hfz173_3⟩ := cl4_ BK132
          have hnb174 := NB126_125.out
          have hnc174 := NB125_126.out
          have hnb175 := NB126_127.out
          have hnc175 := NB127_126.out
          have hnb176 := NB126_128.out
          have hnc176 := NB128_126.out
          obtain ⟨hcz177_0, hcz177_1, hcz177_2, hcz177_3, hfz177_0, hfz177_1, hfz177_2, hfz177_3⟩ := cl4_ BK126
          have hnb178 := NB128_125.out
          have hnc178 := NB125_128.out
          have hnb179 := NB128_127.out
          have hnc179 := NB127_128.out
          obtain ⟨hcz180_0, hcz180_1, hcz180_2, hcz180_3, hfz180_0, hfz180_1, hfz180_2, hfz180_3⟩ := cl4_ BK128
          go_wp2
          refine bodyPost_ret (results_ct rfl _ _ gb128 30 #[.int .i16 x133000_66, .int .i16 x133001_66, .int .i16 x133002_66, .int .i16 x133003_66] (0, 0) _ rfl (by (with_reducible repeat (first | refine blk_drewN ?_ _ | refine blk_drew ?_ | refine blk_alloc ?_ _)); refine blk_put (cs := #[.int .i16 x133000_66, .int .i16 x133001_66, .int .i16 x133002_66, .int .i16 0]) ?_ 3 _ rfl; (with_reducible repeat (first | refine blk_drewN ?_ _ | refine blk_drew ?_ | refine blk_alloc ?_ _)); refine blk_put (cs := #[.int .i16 x133000_66, .int .i16 x133001_66, .int .i16 0, .int .i16 0]) ?_ 2 _ rfl; (with_reducible repeat (first | refine blk_drewN ?_ _ | refine blk_drew ?_ | refine blk_alloc ?_ _)); refine blk_put (cs := #[.int .i16 x133000_66, .int .i16 0, .int .i16 0, .int .i16 0]) ?_ 1 _ rfl; (with_reducible repeat (first | refine blk_drewN ?_ _ | refine blk_drew ?_ | refine blk_alloc ?_ _)); refine blk_put (cs := #[.int .i16 0, .int .i16 0, .int .i16 0, .int .i16 0]) ?_ 0 _ rfl; (with_reducible repeat (first | refine blk_drewN ?_ _ | refine blk_drew ?_ | refine blk_alloc ?_ _)); exact BK128.out) Try.underlying30 rfl (by kernel_rfl)) rfl ?_
          exact ⟨by first | rfl | (simp [errW_none, errW_some] <;> rfl) | (simp [*, errW_none, errW_some] <;> rfl), bs_ HB GE128⟩

end Go.Proofs.Ytodmfjophjhbeaa.M
