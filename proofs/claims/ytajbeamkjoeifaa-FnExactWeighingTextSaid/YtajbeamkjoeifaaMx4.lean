-- By this seat's own program over the kit's printer (arrays, functions told by hand); nothing of it is trusted: the kernel checks it.
import Derived.Test.YtajbeamkjoeifaaMx0
import Derived.Test.YtajbeamkjoeifaaMx2
import Derived.Test.YtajbeamkjoeifaaMx3
namespace Go.Proofs.Ytajbeamkjoeifaa.M
open Go.RowKit Go.Proofs.YtajbeamkjoeifaaW.PrintWords Go.Proofs.YtajbeamkjoeifaaW.PrintLast Go.Proofs.YtajbeamkjoeifaaW.PrintMore
attribute [local go_sem] max2_int min2_int max_two min_two max_three min_three max_four min_four   -- for this text's walks alone
set_option linter.unusedVariables false
set_option linter.unusedSimpArgs false

/-! ### spec_ValidWeighing: function 17 -/
def spec_ValidWeighing.f (k : Nat) (a0_0 : Int) (a0_1 : Int) (a0_2 : Bool) (a0_3 : Bool) (a1_0 : Int) (a1_1 : Int) (a1_2 : Int) (a1_3 : Int) (a1_4 : Int) (a1_5 : Int) (a1_6 : Int) (a1_7 : Int) (a1_8 : Int) (a1_9 : Int) (a1_10 : Int) (a1_11 : Int) (a1_12 : Int) (a1_13 : Int) : Option (Bool) := (spec_l03Ok.f a0_0 a0_1 a0_2 a0_3).bind fun t116 => (if t116 = true then ((spec_l03Weighing.f k a0_0 a0_1 a0_2 a0_3 a1_0 a1_1 a1_2 a1_3 a1_4 a1_5 a1_6 a1_7 a1_8 a1_9 a1_10 a1_11 a1_12 a1_13).bind fun t117 => (some t117)) else (some false))
theorem spec_ValidWeighing.mono : ∀ a0 a1 a2 a3 a4 a5 a6 a7 a8 a9 a10 a11 a12 a13 a14 a15 a16 a17 k, LeO (spec_ValidWeighing.f k a0 a1 a2 a3 a4 a5 a6 a7 a8 a9 a10 a11 a12 a13 a14 a15 a16 a17) (spec_ValidWeighing.f (k + 1) a0 a1 a2 a3 a4 a5 a6 a7 a8 a9 a10 a11 a12 a13 a14 a15 a16 a17) := by
 intro a0 a1 a2 a3 a4 a5 a6 a7 a8 a9 a10 a11 a12 a13 a14 a15 a16 a17 k
 unfold spec_ValidWeighing.f
 repeat' first
   | (with_reducible exact spec_l03Weighing.mono _ _ _ _ _ _ _ _ _ _ _ _ _ _ _ _ _ _ _)
   | (with_reducible exact LeO.refl _)
   | (with_reducible exact LeO.none _)
   | (with_reducible refine LeO.ite ?_ ?_)
   | (with_reducible refine LeO.bind ?_ (fun _ => ?_))
   | exact spec_l03Weighing.mono _ _ _ _ _ _ _ _ _ _ _ _ _ _ _ _ _ _ _
   | exact LeO.none _
   | refine LeO.ite ?_ ?_
   | refine LeO.bind ?_ (fun _ => ?_)
set_option maxHeartbeats 8000000 in
set_option maxRecDepth 100000 in
theorem spec_ValidWeighing.calls (k : Nat) (a0_0 : Int) (a0_1 : Int) (a0_2 : Bool) (a0_3 : Bool) (a1_0 : Int) (a1_1 : Int) (a1_2 : Int) (a1_3 : Int) (a1_4 : Int) (a1_5 : Int) (a1_6 : Int) (a1_7 : Int) (a1_8 : Int) (a1_9 : Int) (a1_10 : Int) (a1_11 : Int) (a1_12 : Int) (a1_13 : Int) (r : Bool) (w : World) (h : spec_ValidWeighing.f k a0_0 a0_1 a0_2 a0_3 a1_0 a1_1 a1_2 a1_3 a1_4 a1_5 a1_6 a1_7 a1_8 a1_9 a1_10 a1_11 a1_12 a1_13 = some r) :
  Calls Try.prog 17 #[.agg #[.int .i8 a0_0, .int .i8 a0_1, .bool a0_2, .bool a0_3], .agg #[.int .i8 a1_0, .int .i8 a1_1, .int .i8 a1_2, .int .i8 a1_3, .int .i8 a1_4, .int .i8 a1_5, .int .i8 a1_6, .int .i8 a1_7, .int .i8 a1_8, .int .i8 a1_9, .int .i8 a1_10, .int .i8 a1_11, .int .i8 a1_12, .int .i8 a1_13]] w fun e w' => e = .returned (.bool r) ∧ Below w.heap.size w w' := by
 have hu26 := Try.underlying26
 have hu31 := Try.underlying31
 have HB := A_ (Below.refl w.heap.size w)
 have H : ((spec_l03Ok.f a0_0 a0_1 a0_2 a0_3).bind fun t116 => (if t116 = true then ((spec_l03Weighing.f k a0_0 a0_1 a0_2 a0_3 a1_0 a1_1 a1_2 a1_3 a1_4 a1_5 a1_6 a1_7 a1_8 a1_9 a1_10 a1_11 a1_12 a1_13).bind fun t117 => (some t117)) else (some false))) = some r := h
 clear h
 replace H := Option.bind_eq_some_iff.mp H
 obtain ⟨t116, A30, H⟩ := H
 replace H : (if t116 = true then ((spec_l03Weighing.f k a0_0 a0_1 a0_2 a0_3 a1_0 a1_1 a1_2 a1_3 a1_4 a1_5 a1_6 a1_7 a1_8 a1_9 a1_10 a1_11 a1_12 a1_13).bind fun t117 => (some t117)) else (some false)) = some r := H
 have A3 := Aside0.mk A30
 clear A30
 by_cases c4 : t116 = true
 ·subst c4
  have H1 : ((spec_l03Weighing.f k a0_0 a0_1 a0_2 a0_3 a1_0 a1_1 a1_2 a1_3 a1_4 a1_5 a1_6 a1_7 a1_8 a1_9 a1_10 a1_11 a1_12 a1_13).bind fun t117 => (some t117)) = some r := by rw [if_pos rfl] at H; exact H
  clear H
  have H := H1
  clear H1
  replace H := Option.bind_eq_some_iff.mp H
  obtain ⟨t117, A50, H⟩ := H
  replace H : (some t117) = some r := H
  have A5 := Aside0.mk A50
  clear A50
  obtain rfl := Option.some.inj H
  go_enter Try.func17, Try.ntmps17
  go_wp2_with (first | ((with_reducible refine gate_dst (N := 2) rfl ?_); refine box_event ?hg (N := 2) ?hd (cs := #[.int .i8 a0_0, .int .i8 a0_1, .bool a0_2, .bool a0_3]) (t := 26) ?hr ?_; (case hd => rfl); (case hg => rfl); (case hr => first | (go_simp; done) | (go_simp; rfl)); intro gb114 hg w6 hbox hb; have n0_ := A_ (below_step (bl_ HB) hb); have n1_ := A_ (hbox); have n2_ := A_ ((by rw [hg]; exact (below_size (bl_ HB)) : w.heap.size ≤ gb114)); have n3_ := n2_; clear HB; have HB := n0_; have BK114 := n1_; have GW114 := n2_; have GE114 := n3_; clear n0_ n1_ n2_ n3_; clear hb hbox hg) | ((with_reducible refine gate_dst (N := 3) rfl ?_); refine box_event ?hg (N := 3) ?hd (cs := #[.int .i8 a1_0, .int .i8 a1_1, .int .i8 a1_2, .int .i8 a1_3, .int .i8 a1_4, .int .i8 a1_5, .int .i8 a1_6, .int .i8 a1_7, .int .i8 a1_8, .int .i8 a1_9, .int .i8 a1_10, .int .i8 a1_11, .int .i8 a1_12, .int .i8 a1_13]) (t := 31) ?hr ?_; (case hd => rfl); (case hg => rfl); (case hr => first | (go_simp; done) | (go_simp; rfl)); intro gb115 hg w7 hbox hb; have n0_ := A_ (blk_below (pl_ BK114) hb); have n1_ := A_ (below_step (bl_ HB) hb); have n2_ := A_ (hbox); have n3_ := A_ ((by rw [hg]; exact (below_size (bl_ HB)) : w.heap.size ≤ gb115)); have n4_ := n3_; have n5_ := A_ ((by rw [hg]; exact Nat.ne_of_lt (blk_lt (pl_ BK114)) : gb114 ≠ gb115)); have n6_ := Aside0.mk n5_.out.symm; clear BK114; clear HB; have BK114 := n0_; have HB := n1_; have BK115 := n2_; have GW115 := n3_; have GE115 := n4_; have NB114_115 := n5_; have NB115_114 := n6_; clear n0_ n1_ n2_ n3_ n4_ n5_ n6_; clear hb hbox hg; have hnb8 := NB114_115.out; have hnc8 := NB115_114.out; have hcz9_0 : w7.cell? ⟨gb114, 0, none⟩ = some (.int .i8 a0_0) := (blk_cell BK114.out 0).trans rfl; have hcz9_1 : w7.cell? ⟨gb114, 1, none⟩ = some (.int .i8 a0_1) := (blk_cell BK114.out 1).trans rfl; have hcz9_2 : w7.cell? ⟨gb114, 2, none⟩ = some (.bool a0_2) := (blk_cell BK114.out 2).trans rfl; have hcz9_3 : w7.cell? ⟨gb114, 3, none⟩ = some (.bool a0_3) := (blk_cell BK114.out 3).trans rfl; have hfz9_0 := blk_frozen BK114.out 0; have hfz9_1 := blk_frozen BK114.out 1; have hfz9_2 := blk_frozen BK114.out 2; have hfz9_3 := blk_frozen BK114.out 3) | ((with_reducible refine gate_callee (f := 47) rfl ?_); refine goesL_ (some 6) rfl rfl Try.func47 (by kernel_rfl) rfl #[.agg #[.int .i8 a0_0, .int .i8 a0_1, .bool a0_2, .bool a0_3]] rfl arg_ ?_; (with_reducible refine (spec_l03Ok.calls a0_0 a0_1 a0_2 a0_3 true _ A3.out).mono ?_); rintro e w10 ⟨rfl, hb⟩; refine ⟨_, rfl, ?_⟩; have n0_ := A_ (blk_below (pl_ BK114) hb); have n1_ := A_ (blk_below (pl_ BK115) hb); have n2_ := A_ (below_step (bl_ HB) hb); clear BK114; clear BK115; clear HB; have BK114 := n0_; have BK115 := n1_; have HB := n2_; clear n0_ n1_ n2_; (try clear hb); (try clear hb2); (try clear hk); (try clear hi); have hcz11_0 : w10.cell? ⟨gb114, 0, none⟩ = some (.int .i8 a0_0) := (blk_cell BK114.out 0).trans rfl; have hcz11_1 : w10.cell? ⟨gb114, 1, none⟩ = some (.int .i8 a0_1) := (blk_cell BK114.out 1).trans rfl; have hcz11_2 : w10.cell? ⟨gb114, 2, none⟩ = some (.bool a0_2) := (blk_cell BK114.out 2).trans rfl; have hcz11_3 : w10.cell? ⟨gb114, 3, none⟩ = some (.bool a0_3) := (blk_cell BK114.out 3).trans rfl; have hfz11_0 := blk_frozen BK114.out 0; have hfz11_1 := blk_frozen BK114.out 1; have hfz11_2 := blk_frozen BK114.out 2; have hfz11_3 := blk_frozen BK114.out 3; have hcz12_0 : w10.cell? ⟨gb115, 0, none⟩ = some (.int .i8 a1_0) := (blk_cell BK115.out 0).trans rfl; have hcz12_1 : w10.cell? ⟨gb115, 1, none⟩ = some (.int .i8 a1_1) := (blk_cell BK115.out 1).trans rfl; have hcz12_2 : w10.cell? ⟨gb115, 2, none⟩ = some (.int .i8 a1_2) := (blk_cell BK115.out 2).trans rfl; have hcz12_3 : w10.cell? ⟨gb115, 3, none⟩ = some (.int .i8 a1_3) := (blk_cell BK115.out 3).trans rfl; have hcz12_4 : w10.cell? ⟨gb115, 4, none⟩ = some (.int .i8 a1_4) := (blk_cell BK115.out 4).trans rfl; have hcz12_5 : w10.cell? ⟨gb115, 5, none⟩ = some (.int .i8 a1_5) := (blk_cell BK115.out 5).trans rfl; have hcz12_6 : w10.cell? ⟨gb115, 6, none⟩ = some (.int .i8 a1_6) := (blk_cell BK115.out 6).trans rfl; have hcz12_7 : w10.cell? ⟨gb115, 7, none⟩ = some (.int .i8 a1_7) := (blk_cell BK115.out 7).trans rfl; have hcz12_8 : w10.cell? ⟨gb115, 8, none⟩ = some (.int .i8 a1_8) := (blk_cell BK115.out 8).trans rfl; have hcz12_9 : w10.cell? ⟨gb115, 9, none⟩ = some (.int .i8 a1_9) := (blk_cell BK115.out 9).trans rfl; have hcz12_10 : w10.cell? ⟨gb115, 10, none⟩ = some (.int .i8 a1_10) := (blk_cell BK115.out 10).trans rfl; have hcz12_11 : w10.cell? ⟨gb115, 11, none⟩ = some (.int .i8 a1_11) := (blk_cell BK115.out 11).trans rfl; have hcz12_12 : w10.cell? ⟨gb115, 12, none⟩ = some (.int .i8 a1_12) := (blk_cell BK115.out 12).trans rfl; have hcz12_13 : w10.cell? ⟨gb115, 13, none⟩ = some (.int .i8 a1_13) := (blk_cell BK115.out 13).trans rfl; have hfz12_0 := blk_frozen BK115.out 0; have hfz12_1 := blk_frozen BK115.out 1; have hfz12_2 := blk_frozen BK115.out 2; have hfz12_3 := blk_frozen BK115.out 3; have hfz12_4 := blk_frozen BK115.out 4; have hfz12_5 := blk_frozen BK115.out 5; have hfz12_6 := blk_frozen BK115.out 6; have hfz12_7 := blk_frozen BK115.out 7; have hfz12_8 := blk_frozen BK115.out 8; have hfz12_9 := blk_frozen BK115.out 9; have hfz12_10 := blk_frozen BK115.out 10; have hfz12_11 := blk_frozen BK115.out 11; have hfz12_12 := blk_frozen BK115.out 12; have hfz12_13 := blk_frozen BK115.out 13) | (go_at_call 50; (with_reducible refine (spec_l03Weighing.calls k a0_0 a0_1 a0_2 a0_3 a1_0 a1_1 a1_2 a1_3 a1_4 a1_5 a1_6 a1_7 a1_8 a1_9 a1_10 a1_11 a1_12 a1_13 t117 _ A5.out).mono ?_); rintro e w13 ⟨rfl, hb⟩; have n0_ := A_ (blk_below (pl_ BK114) hb); have n1_ := A_ (blk_below (pl_ BK115) hb); have n2_ := A_ (below_step (bl_ HB) hb); clear BK114; clear BK115; clear HB; have BK114 := n0_; have BK115 := n1_; have HB := n2_; clear n0_ n1_ n2_; (try clear hb); (try clear hb2); (try clear hk); (try clear hi)))
  go_ret
  exact ⟨by first | rfl | (simp [errW_none, errW_some] <;> rfl) | (simp [*, errW_none, errW_some] <;> rfl), bl_ HB⟩
 ·replace c4 := Bool.eq_false_iff.mpr c4
  subst c4
  have H1 : (some false) = some r := by rw [if_neg (show ¬ (false = true) by decide)] at H; exact H
  clear H
  have H := H1
  clear H1
  obtain rfl := Option.some.inj H
  go_enter Try.func17, Try.ntmps17
  go_wp2_with (first | ((with_reducible refine gate_dst (N := 2) rfl ?_); refine box_event ?hg (N := 2) ?hd (cs := #[.int .i8 a0_0, .int .i8 a0_1, .bool a0_2, .bool a0_3]) (t := 26) ?hr ?_; (case hd => rfl); (case hg => rfl); (case hr => first | (go_simp; done) | (go_simp; rfl)); intro gb114 hg w14 hbox hb; have n0_ := A_ (below_step (bl_ HB) hb); have n1_ := A_ (hbox); have n2_ := A_ ((by rw [hg]; exact (below_size (bl_ HB)) : w.heap.size ≤ gb114)); have n3_ := n2_; clear HB; have HB := n0_; have BK114 := n1_; have GW114 := n2_; have GE114 := n3_; clear n0_ n1_ n2_ n3_; clear hb hbox hg) | ((with_reducible refine gate_dst (N := 3) rfl ?_); refine box_event ?hg (N := 3) ?hd (cs := #[.int .i8 a1_0, .int .i8 a1_1, .int .i8 a1_2, .int .i8 a1_3, .int .i8 a1_4, .int .i8 a1_5, .int .i8 a1_6, .int .i8 a1_7, .int .i8 a1_8, .int .i8 a1_9, .int .i8 a1_10, .int .i8 a1_11, .int .i8 a1_12, .int .i8 a1_13]) (t := 31) ?hr ?_; (case hd => rfl); (case hg => rfl); (case hr => first | (go_simp; done) | (go_simp; rfl)); intro gb115 hg w15 hbox hb; have n0_ := A_ (blk_below (pl_ BK114) hb); have n1_ := A_ (below_step (bl_ HB) hb); have n2_ := A_ (hbox); have n3_ := A_ ((by rw [hg]; exact (below_size (bl_ HB)) : w.heap.size ≤ gb115)); have n4_ := n3_; have n5_ := A_ ((by rw [hg]; exact Nat.ne_of_lt (blk_lt (pl_ BK114)) : gb114 ≠ gb115)); have n6_ := Aside0.mk n5_.out.symm; clear BK114; clear HB; have BK114 := n0_; have HB := n1_; have BK115 := n2_; have GW115 := n3_; have GE115 := n4_; have NB114_115 := n5_; have NB115_114 := n6_; clear n0_ n1_ n2_ n3_ n4_ n5_ n6_; clear hb hbox hg; have hnb16 := NB114_115.out; have hnc16 := NB115_114.out; have hcz17_0 : w15.cell? ⟨gb114, 0, none⟩ = some (.int .i8 a0_0) := (blk_cell BK114.out 0).trans rfl; have hcz17_1 : w15.cell? ⟨gb114, 1, none⟩ = some (.int .i8 a0_1) := (blk_cell BK114.out 1).trans rfl; have hcz17_2 : w15.cell? ⟨gb114, 2, none⟩ = some (.bool a0_2) := (blk_cell BK114.out 2).trans rfl; have hcz17_3 : w15.cell? ⟨gb114, 3, none⟩ = some (.bool a0_3) := (blk_cell BK114.out 3).trans rfl; have hfz17_0 := blk_frozen BK114.out 0; have hfz17_1 := blk_frozen BK114.out 1; have hfz17_2 := blk_frozen BK114.out 2; have hfz17_3 := blk_frozen BK114.out 3) | ((with_reducible refine gate_callee (f := 47) rfl ?_); refine goesL_ (some 6) rfl rfl Try.func47 (by kernel_rfl) rfl #[.agg #[.int .i8 a0_0, .int .i8 a0_1, .bool a0_2, .bool a0_3]] rfl arg_ ?_; (with_reducible refine (spec_l03Ok.calls a0_0 a0_1 a0_2 a0_3 false _ A3.out).mono ?_); rintro e w18 ⟨rfl, hb⟩; refine ⟨_, rfl, ?_⟩; have n0_ := A_ (blk_below (pl_ BK114) hb); have n1_ := A_ (blk_below (pl_ BK115) hb); have n2_ := A_ (below_step (bl_ HB) hb); clear BK114; clear BK115; clear HB; have BK114 := n0_; have BK115 := n1_; have HB := n2_; clear n0_ n1_ n2_; (try clear hb); (try clear hb2); (try clear hk); (try clear hi)))
  go_ret
  exact ⟨by first | rfl | (simp [errW_none, errW_some] <;> rfl) | (simp [*, errW_none, errW_some] <;> rfl), bl_ HB⟩

/-! ### spec_l03Text: function 56 -/
def spec_l03Text.l0 : Nat → List Int → Int → Int → Int → Bool → Bool → Int → Int → Int → Int → Int → Int → Int → Int → Int → Int → Int → Int → Int → Int → Option (ByteArray)
 | 0, _, _, _, _, _, _, _, _, _, _, _, _, _, _, _, _, _, _, _, _ => none
 | k + 1, x5, x6, x119000, x119001, x119002, x119003, x120000, x120001, x120002, x120003, x120004, x120005, x120006, x120007, x120008, x120009, x120010, x120011, x120012, x120013 => if x6 < 14 then ((spec_l03There.f x119000 x119001 x119002 x119003 x6).bind fun t123 => (if t123 = true then (if 0 ≤ x6 then (if 0 ≤ (IntKind.i8.wrap ((rd [x120000, x120001, x120002, x120003, x120004, x120005, x120006, x120007, x120008, x120009, x120010, x120011, x120012, x120013] x6) + 1)) then (if (IntKind.i8.wrap ((rd [x120000, x120001, x120002, x120003, x120004, x120005, x120006, x120007, x120008, x120009, x120010, x120011, x120012, x120013] x6) + 1)) < 3 then (if x5.length < 140737488355328 then (spec_l03Text.l0 k (x5 ++ [bt (⟨#[45, 48, 43]⟩ : ByteArray) (IntKind.i8.wrap ((rd [x120000, x120001, x120002, x120003, x120004, x120005, x120006, x120007, x120008, x120009, x120010, x120011, x120012, x120013] x6) + 1))]) (wrap64 (x6 + 1)) x119000 x119001 x119002 x119003 x120000 x120001 x120002 x120003 x120004 x120005 x120006 x120007 x120008 x120009 x120010 x120011 x120012 x120013) else (none)) else (none)) else (none)) else (none)) else (some (strOfNums x5)))) else (some (strOfNums x5))
def spec_l03Text.f (k : Nat) (a0_0 : Int) (a0_1 : Int) (a0_2 : Bool) (a0_3 : Bool) (a1_0 : Int) (a1_1 : Int) (a1_2 : Int) (a1_3 : Int) (a1_4 : Int) (a1_5 : Int) (a1_6 : Int) (a1_7 : Int) (a1_8 : Int) (a1_9 : Int) (a1_10 : Int) (a1_11 : Int) (a1_12 : Int) (a1_13 : Int) : Option (ByteArray) := spec_l03Text.l0 k (([] : List Int)) 0 a0_0 a0_1 a0_2 a0_3 a1_0 a1_1 a1_2 a1_3 a1_4 a1_5 a1_6 a1_7 a1_8 a1_9 a1_10 a1_11 a1_12 a1_13
theorem spec_l03Text.mono_l : ∀ k, (∀ y0 y1 y2 y3 y4 y5 y6 y7 y8 y9 y10 y11 y12 y13 y14 y15 y16 y17 y18 y19, LeO (spec_l03Text.l0 k y0 y1 y2 y3 y4 y5 y6 y7 y8 y9 y10 y11 y12 y13 y14 y15 y16 y17 y18 y19) (spec_l03Text.l0 (k + 1) y0 y1 y2 y3 y4 y5 y6 y7 y8 y9 y10 y11 y12 y13 y14 y15 y16 y17 y18 y19))
 | 0 => fun _ _ _ _ _ _ _ _ _ _ _ _ _ _ _ _ _ _ _ _ r h => by simp [spec_l03Text.l0] at h
 | k + 1 => by
  have ih0 := spec_l03Text.mono_l k
  ·intro y0 y1 y2 y3 y4 y5 y6 y7 y8 y9 y10 y11 y12 y13 y14 y15 y16 y17 y18 y19
   unfold spec_l03Text.l0
   repeat' first
   | (with_reducible exact ih0 _ _ _ _ _ _ _ _ _ _ _ _ _ _ _ _ _ _ _ _)
   | (with_reducible exact LeO.refl _)
   | (with_reducible exact LeO.none _)
   | (with_reducible refine LeO.ite ?_ ?_)
   | (with_reducible refine LeO.bind ?_ (fun _ => ?_))
   | exact ih0 _ _ _ _ _ _ _ _ _ _ _ _ _ _ _ _ _ _ _ _
   | exact LeO.none _
   | refine LeO.ite ?_ ?_
   | refine LeO.bind ?_ (fun _ => ?_)
theorem spec_l03Text.mono : ∀ a0 a1 a2 a3 a4 a5 a6 a7 a8 a9 a10 a11 a12 a13 a14 a15 a16 a17 k, LeO (spec_l03Text.f k a0 a1 a2 a3 a4 a5 a6 a7 a8 a9 a10 a11 a12 a13 a14 a15 a16 a17) (spec_l03Text.f (k + 1) a0 a1 a2 a3 a4 a5 a6 a7 a8 a9 a10 a11 a12 a13 a14 a15 a16 a17) := by
 intro a0 a1 a2 a3 a4 a5 a6 a7 a8 a9 a10 a11 a12 a13 a14 a15 a16 a17 k
 have ih0 := spec_l03Text.mono_l k
 unfold spec_l03Text.f
 repeat' first
   | (with_reducible exact ih0 _ _ _ _ _ _ _ _ _ _ _ _ _ _ _ _ _ _ _ _)
   | (with_reducible exact LeO.refl _)
   | (with_reducible exact LeO.none _)
   | (with_reducible refine LeO.ite ?_ ?_)
   | (with_reducible refine LeO.bind ?_ (fun _ => ?_))
   | exact ih0 _ _ _ _ _ _ _ _ _ _ _ _ _ _ _ _ _ _ _ _
   | exact LeO.none _
   | refine LeO.ite ?_ ?_
   | refine LeO.bind ?_ (fun _ => ?_)
set_option maxHeartbeats 8000000 in
set_option maxRecDepth 100000 in
theorem spec_l03Text.calls (k : Nat) (a0_0 : Int) (a0_1 : Int) (a0_2 : Bool) (a0_3 : Bool) (a1_0 : Int) (a1_1 : Int) (a1_2 : Int) (a1_3 : Int) (a1_4 : Int) (a1_5 : Int) (a1_6 : Int) (a1_7 : Int) (a1_8 : Int) (a1_9 : Int) (a1_10 : Int) (a1_11 : Int) (a1_12 : Int) (a1_13 : Int) (r : ByteArray) (w : World) (h : spec_l03Text.f k a0_0 a0_1 a0_2 a0_3 a1_0 a1_1 a1_2 a1_3 a1_4 a1_5 a1_6 a1_7 a1_8 a1_9 a1_10 a1_11 a1_12 a1_13 = some r) :
  Calls Try.prog 56 #[.agg #[.int .i8 a0_0, .int .i8 a0_1, .bool a0_2, .bool a0_3], .agg #[.int .i8 a1_0, .int .i8 a1_1, .int .i8 a1_2, .int .i8 a1_3, .int .i8 a1_4, .int .i8 a1_5, .int .i8 a1_6, .int .i8 a1_7, .int .i8 a1_8, .int .i8 a1_9, .int .i8 a1_10, .int .i8 a1_11, .int .i8 a1_12, .int .i8 a1_13]] w fun e w' => e = .returned (.string r) ∧ Below w.heap.size w w' := by
 have hu26 := Try.underlying26
 have hu31 := Try.underlying31
 have HB := A_ (Below.refl w.heap.size w)
 have H : (spec_l03Text.l0 k (([] : List Int)) 0 a0_0 a0_1 a0_2 a0_3 a1_0 a1_1 a1_2 a1_3 a1_4 a1_5 a1_6 a1_7 a1_8 a1_9 a1_10 a1_11 a1_12 a1_13) = some r := h
 clear h
 obtain ⟨y120, hy120⟩ : ∃ y_ : List Int, y_ = (([] : List Int)) := ⟨_, rfl⟩
 replace H : (spec_l03Text.l0 k y120 0 a0_0 a0_1 a0_2 a0_3 a1_0 a1_1 a1_2 a1_3 a1_4 a1_5 a1_6 a1_7 a1_8 a1_9 a1_10 a1_11 a1_12 a1_13) = some r := by first | (rw [hy120]; with_reducible exact H) | (have H2_ := (Option.bind_some _ _).symm.trans H; rw [hy120]; with_reducible exact H2_) | (have H2_ := (Option.bind_some _ _).symm.trans H; with_reducible exact H2_) | with_reducible exact H | (rw [hy120]; exact H) | exact H
 have Ny120 := Aside0.mk hy120
 clear hy120
 have H' := Aside0.mk H
 clear H
 go_enter Try.func56, Try.ntmps56
 go_wp2_with (first | ((with_reducible refine gate_dst (N := 2) rfl ?_); refine box_event ?hg (N := 2) ?hd (cs := #[.int .i8 a0_0, .int .i8 a0_1, .bool a0_2, .bool a0_3]) (t := 26) ?hr ?_; (case hd => rfl); (case hg => rfl); (case hr => first | (go_simp; done) | (go_simp; rfl)); intro gb118 hg w3 hbox hb; have n0_ := A_ (below_step (bl_ HB) hb); have n1_ := A_ (hbox); have n2_ := A_ ((by rw [hg]; exact (below_size (bl_ HB)) : w.heap.size ≤ gb118)); have n3_ := n2_; clear HB; have HB := n0_; have BK118 := n1_; have GW118 := n2_; have GE118 := n3_; clear n0_ n1_ n2_ n3_; clear hb hbox hg) | ((with_reducible refine gate_dst (N := 3) rfl ?_); refine box_event ?hg (N := 3) ?hd (cs := #[.int .i8 a1_0, .int .i8 a1_1, .int .i8 a1_2, .int .i8 a1_3, .int .i8 a1_4, .int .i8 a1_5, .int .i8 a1_6, .int .i8 a1_7, .int .i8 a1_8, .int .i8 a1_9, .int .i8 a1_10, .int .i8 a1_11, .int .i8 a1_12, .int .i8 a1_13]) (t := 31) ?hr ?_; (case hd => rfl); (case hg => rfl); (case hr => first | (go_simp; done) | (go_simp; rfl)); intro gb119 hg w4 hbox hb; have n0_ := A_ (blk_below (pl_ BK118) hb); have n1_ := A_ (below_step (bl_ HB) hb); have n2_ := A_ (hbox); have n3_ := A_ ((by rw [hg]; exact (below_size (bl_ HB)) : w.heap.size ≤ gb119)); have n4_ := n3_; have n5_ := A_ ((by rw [hg]; exact Nat.ne_of_lt (blk_lt (pl_ BK118)) : gb118 ≠ gb119)); have n6_ := Aside0.mk n5_.out.symm; clear BK118; clear HB; have BK118 := n0_; have HB := n1_; have BK119 := n2_; have GW119 := n3_; have GE119 := n4_; have NB118_119 := n5_; have NB119_118 := n6_; clear n0_ n1_ n2_ n3_ n4_ n5_ n6_; clear hb hbox hg) | ((with_reducible refine gate_dst (N := 7) rfl ?_); refine Kd.R_lit (Kd.int .u8) _ 5 ?hg (N := 7) ?hd (xs := ([] : List Int)) (inner := []) (ok := fun _ => True) (okp := fun _ => True) ?hr ?hp (fun _ hk => hk) trivial (Below.refl _ _) (Nat.le_refl _) (by simp) ?_; (case hd => rfl); (case hg => rfl); (case hr => first | (go_simp; done) | (go_simp; rfl)); (case hp => exact (Reps.none _ _)); intro v121 w5 ho6 hb hg_ hnew_; clear hg_ hnew_; (first | rw [← Ny120.out] at ho6 | (simp only [Int.reduceToNat] at ho6; rw [← Ny120.out] at ho6)); have n0_ := A_ (Kd.R_lower ho6 (below_size (bl_ HB))); have n1_ := A_ (blk_below (pl_ BK118) hb); have n2_ := A_ (blk_below (pl_ BK119) hb); have n3_ := A_ (below_step (bl_ HB) hb); clear BK118; clear BK119; clear HB; have HO122 := n0_; have BK118 := n1_; have BK119 := n2_; have HB := n3_; clear n0_ n1_ n2_ n3_; clear hb ho6))
 go_loopg [5, 6] k (fun kq v5 v6 w' => ∃ (x5_1 : List Int) (x6_1 : Int), v6 = .int .i64 x6_1 ∧ Aside0 (spec_l03Text.l0 kq x5_1 x6_1 a0_0 a0_1 a0_2 a0_3 a1_0 a1_1 a1_2 a1_3 a1_4 a1_5 a1_6 a1_7 a1_8 a1_9 a1_10 a1_11 a1_12 a1_13 = some r) ∧ Aside0 (kq ≤ k) ∧ Aside0 (Kd.R (Kd.int .u8) 5 w' w.heap.size (fun _ => True) v5 x5_1) ∧ Aside0 (w'.heap[gb118]? = some (.cells #[.int .i8 a0_0, .int .i8 a0_1, .bool a0_2, .bool a0_3] 26 (0, 0))) ∧ Aside0 (w'.heap[gb119]? = some (.cells #[.int .i8 a1_0, .int .i8 a1_1, .int .i8 a1_2, .int .i8 a1_3, .int .i8 a1_4, .int .i8 a1_5, .int .i8 a1_6, .int .i8 a1_7, .int .i8 a1_8, .int .i8 a1_9, .int .i8 a1_10, .int .i8 a1_11, .int .i8 a1_12, .int .i8 a1_13] 31 (0, 0))) ∧ Aside0 (Below w.heap.size w w'))
 case atStart => exact ⟨(y120), (0), rs_, H', ⟨Nat.le_refl _⟩, ⟨pr_ HO122⟩, ⟨pl_ BK118⟩, ⟨pl_ BK119⟩, ⟨bl_ HB⟩⟩
 case round =>
  clear H'
  try clear p2
  try clear c5
  obtain ⟨x5_1, x6_1, rfl, HA, HK1, HO_5, BK118, BK119, HB⟩ := hrel
  cases gk with
  | zero => exact absurd HA.out (by simp [spec_l03Text.l0])
  | succ k1 =>
   have H := HA.out
   clear HA
   simp only [spec_l03Text.l0] at H
   by_cases c7 : x6_1 < 14
   ·rw [if_pos c7] at H
    have c7b0 : decide (x6_1 < 14) = true := decide_eq_true c7
    clear c7
    replace H := Option.bind_eq_some_iff.mp H
    obtain ⟨t123, A80, H⟩ := H
    replace H : (if t123 = true then (if 0 ≤ x6_1 then (if 0 ≤ (IntKind.i8.wrap ((rd [a1_0, a1_1, a1_2, a1_3, a1_4, a1_5, a1_6, a1_7, a1_8, a1_9, a1_10, a1_11, a1_12, a1_13] x6_1) + 1)) then (if (IntKind.i8.wrap ((rd [a1_0, a1_1, a1_2, a1_3, a1_4, a1_5, a1_6, a1_7, a1_8, a1_9, a1_10, a1_11, a1_12, a1_13] x6_1) + 1)) < 3 then (if x5_1.length < 140737488355328 then (spec_l03Text.l0 k1 (x5_1 ++ [bt (⟨#[45, 48, 43]⟩ : ByteArray) (IntKind.i8.wrap ((rd [a1_0, a1_1, a1_2, a1_3, a1_4, a1_5, a1_6, a1_7, a1_8, a1_9, a1_10, a1_11, a1_12, a1_13] x6_1) + 1))]) (wrap64 (x6_1 + 1)) a0_0 a0_1 a0_2 a0_3 a1_0 a1_1 a1_2 a1_3 a1_4 a1_5 a1_6 a1_7 a1_8 a1_9 a1_10 a1_11 a1_12 a1_13) else (none)) else (none)) else (none)) else (none)) else (some (strOfNums x5_1))) = some r := H
    have A8 := Aside0.mk A80
    clear A80
    by_cases c9 : t123 = true
    ·subst c9
     have H1 : (if 0 ≤ x6_1 then (if 0 ≤ (IntKind.i8.wrap ((rd [a1_0, a1_1, a1_2, a1_3, a1_4, a1_5, a1_6, a1_7, a1_8, a1_9, a1_10, a1_11, a1_12, a1_13] x6_1) + 1)) then (if (IntKind.i8.wrap ((rd [a1_0, a1_1, a1_2, a1_3, a1_4, a1_5, a1_6, a1_7, a1_8, a1_9, a1_10, a1_11, a1_12, a1_13] x6_1) + 1)) < 3 then (if x5_1.length < 140737488355328 then (spec_l03Text.l0 k1 (x5_1 ++ [bt (⟨#[45, 48, 43]⟩ : ByteArray) (IntKind.i8.wrap ((rd [a1_0, a1_1, a1_2, a1_3, a1_4, a1_5, a1_6, a1_7, a1_8, a1_9, a1_10, a1_11, a1_12, a1_13] x6_1) + 1))]) (wrap64 (x6_1 + 1)) a0_0 a0_1 a0_2 a0_3 a1_0 a1_1 a1_2 a1_3 a1_4 a1_5 a1_6 a1_7 a1_8 a1_9 a1_10 a1_11 a1_12 a1_13) else (none)) else (none)) else (none)) else (none)) = some r := by rw [if_pos rfl] at H; exact H
     clear H
     have H := H1
     clear H1
     by_cases c10 : 0 ≤ x6_1
     ·rw [if_pos c10] at H
      have c10b0 : decide (0 ≤ x6_1) = true := decide_eq_true c10
      clear c10
      obtain ⟨ji12, hji12⟩ : ∃ j_ : Int, (IntKind.i8.wrap ((rd [a1_0, a1_1, a1_2, a1_3, a1_4, a1_5, a1_6, a1_7, a1_8, a1_9, a1_10, a1_11, a1_12, a1_13] x6_1) + 1)) = j_ := ⟨_, rfl⟩
      replace H : (if 0 ≤ (ji12) then (if (ji12) < 3 then (if x5_1.length < 140737488355328 then (spec_l03Text.l0 k1 (x5_1 ++ [bt (⟨#[45, 48, 43]⟩ : ByteArray) (ji12)]) (wrap64 (x6_1 + 1)) a0_0 a0_1 a0_2 a0_3 a1_0 a1_1 a1_2 a1_3 a1_4 a1_5 a1_6 a1_7 a1_8 a1_9 a1_10 a1_11 a1_12 a1_13) else (none)) else (none)) else (none)) = some r := by first | (rw [hji12] at H; exact H) | (simp only [hji12] at H ⊢; exact H)
      (try rw [hji12] at A8)
      by_cases c13 : 0 ≤ (ji12)
      ·rw [if_pos c13] at H
       have c13b0 : decide (0 ≤ (ji12)) = true := decide_eq_true c13
       clear c13
       by_cases c14 : (ji12) < 3
       ·rw [if_pos c14] at H
        have c14b0 : decide ((ji12) < 3) = true := decide_eq_true c14
        clear c14
        by_cases c16 : x5_1.length < 140737488355328
        ·rw [if_pos c16] at H
         have LMc16 := Aside0.mk c16
         clear c16
         obtain ⟨y124, hy124⟩ : ∃ y_ : List Int, y_ = (x5_1 ++ [bt (⟨#[45, 48, 43]⟩ : ByteArray) (ji12)]) := ⟨_, rfl⟩
         replace H : (spec_l03Text.l0 k1 y124 (wrap64 (x6_1 + 1)) a0_0 a0_1 a0_2 a0_3 a1_0 a1_1 a1_2 a1_3 a1_4 a1_5 a1_6 a1_7 a1_8 a1_9 a1_10 a1_11 a1_12 a1_13) = some r := by first | (rw [hy124]; with_reducible exact H) | (have H2_ := (Option.bind_some _ _).symm.trans H; rw [hy124]; with_reducible exact H2_) | (have H2_ := (Option.bind_some _ _).symm.trans H; with_reducible exact H2_) | with_reducible exact H | (rw [hy124]; exact H) | exact H
         have Ny124 := Aside0.mk hy124
         clear hy124
         have H' := Aside0.mk H
         clear H
         have hnb17 := NB118_119.out
         have hnc17 := NB119_118.out
         have hcz18_0 : wr.cell? ⟨gb118, 0, none⟩ = some (.int .i8 a0_0) := (blk_cell BK118.out 0).trans rfl
         have hcz18_1 : wr.cell? ⟨gb118, 1, none⟩ = some (.int .i8 a0_1) := (blk_cell BK118.out 1).trans rfl
         have hcz18_2 : wr.cell? ⟨gb118, 2, none⟩ = some (.bool a0_2) := (blk_cell BK118.out 2).trans rfl
         have hcz18_3 : wr.cell? ⟨gb118, 3, none⟩ = some (.bool a0_3) := (blk_cell BK118.out 3).trans rfl
         have hfz18_0 := blk_frozen BK118.out 0
         have hfz18_1 := blk_frozen BK118.out 1
         have hfz18_2 := blk_frozen BK118.out 2
         have hfz18_3 := blk_frozen BK118.out 3
         go_wp2_with (first | (go_at_call 72; (with_reducible refine (spec_l03There.calls a0_0 a0_1 a0_2 a0_3 x6_1 true _ A8.out).mono ?_); rintro e w19 ⟨rfl, hb⟩; have n0_ := A_ (Kd.R_below (pr_ HO_5) hb); have n1_ := A_ (blk_below (pl_ BK118) hb); have n2_ := A_ (blk_below (pl_ BK119) hb); have n3_ := A_ (below_step (bl_ HB) hb); clear HO_5; clear BK118; clear BK119; clear HB; have HO_5 := n0_; have BK118 := n1_; have BK119 := n2_; have HB := n3_; clear n0_ n1_ n2_ n3_; (try clear hb); (try clear hb2); (try clear hk); (try clear hi); have hcz20_0 : w19.cell? ⟨gb119, 0, none⟩ = some (.int .i8 a1_0) := (blk_cell BK119.out 0).trans rfl; have hcz20_1 : w19.cell? ⟨gb119, 1, none⟩ = some (.int .i8 a1_1) := (blk_cell BK119.out 1).trans rfl; have hcz20_2 : w19.cell? ⟨gb119, 2, none⟩ = some (.int .i8 a1_2) := (blk_cell BK119.out 2).trans rfl; have hcz20_3 : w19.cell? ⟨gb119, 3, none⟩ = some (.int .i8 a1_3) := (blk_cell BK119.out 3).trans rfl; have hcz20_4 : w19.cell? ⟨gb119, 4, none⟩ = some (.int .i8 a1_4) := (blk_cell BK119.out 4).trans rfl; have hcz20_5 : w19.cell? ⟨gb119, 5, none⟩ = some (.int .i8 a1_5) := (blk_cell BK119.out 5).trans rfl; have hcz20_6 : w19.cell? ⟨gb119, 6, none⟩ = some (.int .i8 a1_6) := (blk_cell BK119.out 6).trans rfl; have hcz20_7 : w19.cell? ⟨gb119, 7, none⟩ = some (.int .i8 a1_7) := (blk_cell BK119.out 7).trans rfl; have hcz20_8 : w19.cell? ⟨gb119, 8, none⟩ = some (.int .i8 a1_8) := (blk_cell BK119.out 8).trans rfl; have hcz20_9 : w19.cell? ⟨gb119, 9, none⟩ = some (.int .i8 a1_9) := (blk_cell BK119.out 9).trans rfl; have hcz20_10 : w19.cell? ⟨gb119, 10, none⟩ = some (.int .i8 a1_10) := (blk_cell BK119.out 10).trans rfl; have hcz20_11 : w19.cell? ⟨gb119, 11, none⟩ = some (.int .i8 a1_11) := (blk_cell BK119.out 11).trans rfl; have hcz20_12 : w19.cell? ⟨gb119, 12, none⟩ = some (.int .i8 a1_12) := (blk_cell BK119.out 12).trans rfl; have hcz20_13 : w19.cell? ⟨gb119, 13, none⟩ = some (.int .i8 a1_13) := (blk_cell BK119.out 13).trans rfl; have hfz20_0 := blk_frozen BK119.out 0; have hfz20_1 := blk_frozen BK119.out 1; have hfz20_2 := blk_frozen BK119.out 2; have hfz20_3 := blk_frozen BK119.out 3; have hfz20_4 := blk_frozen BK119.out 4; have hfz20_5 := blk_frozen BK119.out 5; have hfz20_6 := blk_frozen BK119.out 6; have hfz20_7 := blk_frozen BK119.out 7; have hfz20_8 := blk_frozen BK119.out 8; have hfz20_9 := blk_frozen BK119.out 9; have hfz20_10 := blk_frozen BK119.out 10; have hfz20_11 := blk_frozen BK119.out 11; have hfz20_12 := blk_frozen BK119.out 12; have hfz20_13 := blk_frozen BK119.out 13; have p11 : 0 ≤ (x6_1 : Int) := asm_; have q11 : (x6_1 : Int) < 14 := asm_; have hx11 : w19.cell? ⟨gb119, (x6_1 : Int).toNat, none⟩ = some (.int .i8 (rd [a1_0, a1_1, a1_2, a1_3, a1_4, a1_5, a1_6, a1_7, a1_8, a1_9, a1_10, a1_11, a1_12, a1_13] x6_1)) := ard_cell (k := .i8) (l := [a1_0, a1_1, a1_2, a1_3, a1_4, a1_5, a1_6, a1_7, a1_8, a1_9, a1_10, a1_11, a1_12, a1_13]) BK119.out p11 q11; have hf11 := blk_frozen BK119.out (x6_1 : Int).toNat; have P11 := Aside0.mk p11; have Q11 := Aside0.mk q11; replace p11 := eq_true p11; replace q11 := eq_true q11; have p15 : 0 ≤ ((ji12) : Int) := asm_; have q15 : (ji12) < (3 : Int) := asm_; have hx15 := bt_at (⟨#[45, 48, 43]⟩ : ByteArray) (ji12); replace p15 := eq_true p15; replace q15 := eq_true q15) | ((with_reducible refine gate_builtin (b := .append) (xs := #[.tmp 17, .tmp 23]) rfl ?_); at_builtin; refine Kd.R_append (Kd.int .u8) (w0 := w) w.heap.size rfl (.tmp 17) (.tmp 23) 95 5 (.int .u8 0) 1 rfl Try.underlying95 info5 rfl (by decide) (by omega) u5 x5_1 (bt (⟨#[45, 48, 43]⟩ : ByteArray) (ji12)) [.int .u8 (bt (⟨#[45, 48, 43]⟩ : ByteArray) (ji12))] (fun _ => True) (fun _ => False) rfl rfl ?aP (fun _ hk => hk.elim) ?aF ?aO ?aB ?aS ?aL ?_; (case aP => exact rfl); (case aB => exact (bl_ HB)); (case aF => exact (fun _ _ => trivial)); (case aO => exact (pr_ HO_5)); (case aS => exact (below_size (bl_ HB))); (case aL => have := LMc16.out; omega); intro v125 w21 ho hb hg hat; rw [← Ny124.out] at ho; have n0_ := A_ (blk_grown (pl_ BK118) hg (Kd.R_ne HO_5.out BK118.out (by decide))); have n1_ := A_ (blk_grown (pl_ BK119) hg (Kd.R_ne HO_5.out BK119.out (by decide))); have n2_ := A_ (hb); have n3_ := A_ (ho); clear BK118; clear BK119; clear HB; clear HO_5; have BK118 := n0_; have BK119 := n1_; have HB := n2_; have HO126 := n3_; clear n0_ n1_ n2_ n3_; clear ho hb hg hat))
         go_roundg k1
         case measure => have := HK1.out; omega
         case rel => exact ⟨(y124), (wrap64 (x6_1 + 1)), rs_, H', ⟨by have := HK1.out; omega⟩, ⟨pr_ HO126⟩, ⟨pl_ BK118⟩, ⟨pl_ BK119⟩, ⟨bl_ HB⟩⟩
        ·rw [if_neg c16] at H
         exact absurd H (by simp)
       ·rw [if_neg c14] at H
        exact absurd H (by simp)
      ·rw [if_neg c13] at H
       exact absurd H (by simp)
     ·rw [if_neg c10] at H
      exact absurd H (by simp)
    ·replace c9 := Bool.eq_false_iff.mpr c9
     subst c9
     have H1 : (some (strOfNums x5_1)) = some r := by rw [if_neg (show ¬ (false = true) by decide)] at H; exact H
     clear H
     have H := H1
     clear H1
     obtain rfl := Option.some.inj H
     have hnb22 := NB118_119.out
     have hnc22 := NB119_118.out
     have hcz23_0 : wr.cell? ⟨gb118, 0, none⟩ = some (.int .i8 a0_0) := (blk_cell BK118.out 0).trans rfl
     have hcz23_1 : wr.cell? ⟨gb118, 1, none⟩ = some (.int .i8 a0_1) := (blk_cell BK118.out 1).trans rfl
     have hcz23_2 : wr.cell? ⟨gb118, 2, none⟩ = some (.bool a0_2) := (blk_cell BK118.out 2).trans rfl
     have hcz23_3 : wr.cell? ⟨gb118, 3, none⟩ = some (.bool a0_3) := (blk_cell BK118.out 3).trans rfl
     have hfz23_0 := blk_frozen BK118.out 0
     have hfz23_1 := blk_frozen BK118.out 1
     have hfz23_2 := blk_frozen BK118.out 2
     have hfz23_3 := blk_frozen BK118.out 3
     go_wp2_with (first | (go_at_call 72; (with_reducible refine (spec_l03There.calls a0_0 a0_1 a0_2 a0_3 x6_1 false _ A8.out).mono ?_); rintro e w24 ⟨rfl, hb⟩; have n0_ := A_ (Kd.R_below (pr_ HO_5) hb); have n1_ := A_ (blk_below (pl_ BK118) hb); have n2_ := A_ (blk_below (pl_ BK119) hb); have n3_ := A_ (below_step (bl_ HB) hb); clear HO_5; clear BK118; clear BK119; clear HB; have HO_5 := n0_; have BK118 := n1_; have BK119 := n2_; have HB := n3_; clear n0_ n1_ n2_ n3_; (try clear hb); (try clear hb2); (try clear hk); (try clear hi); have hcv25 := own_string (P := Try.prog) Try.underlying95 Try.underlying5 Try.underlying9 (Kd.own_of_R HO_5.out)))
     go_ret
     exact ⟨by first | rfl | (simp [errW_none, errW_some] <;> rfl) | (simp [*, errW_none, errW_some] <;> rfl), bl_ HB⟩
   ·rw [if_neg c7] at H
    have c7b0 : decide (x6_1 < 14) = false := decide_eq_false c7
    clear c7
    obtain rfl := Option.some.inj H
    have hcv26 := own_string (P := Try.prog) Try.underlying95 Try.underlying5 Try.underlying9 (Kd.own_of_R HO_5.out)
    go_wp2
    go_ret
    exact ⟨by first | rfl | (simp [errW_none, errW_some] <;> rfl) | (simp [*, errW_none, errW_some] <;> rfl), bl_ HB⟩

/-! ### spec_WeighingText: function 22 -/
def spec_WeighingText.f (k : Nat) (a0_0 : Int) (a0_1 : Int) (a0_2 : Bool) (a0_3 : Bool) (a1_0 : Int) (a1_1 : Int) (a1_2 : Int) (a1_3 : Int) (a1_4 : Int) (a1_5 : Int) (a1_6 : Int) (a1_7 : Int) (a1_8 : Int) (a1_9 : Int) (a1_10 : Int) (a1_11 : Int) (a1_12 : Int) (a1_13 : Int) : Option (ByteArray) := (spec_ValidWeighing.f k a0_0 a0_1 a0_2 a0_3 a1_0 a1_1 a1_2 a1_3 a1_4 a1_5 a1_6 a1_7 a1_8 a1_9 a1_10 a1_11 a1_12 a1_13).bind fun t129 => (if t129 = true then ((spec_l03Text.f k a0_0 a0_1 a0_2 a0_3 a1_0 a1_1 a1_2 a1_3 a1_4 a1_5 a1_6 a1_7 a1_8 a1_9 a1_10 a1_11 a1_12 a1_13).bind fun t130 => (some t130)) else (some (⟨#[]⟩ : ByteArray)))
theorem spec_WeighingText.mono : ∀ a0 a1 a2 a3 a4 a5 a6 a7 a8 a9 a10 a11 a12 a13 a14 a15 a16 a17 k, LeO (spec_WeighingText.f k a0 a1 a2 a3 a4 a5 a6 a7 a8 a9 a10 a11 a12 a13 a14 a15 a16 a17) (spec_WeighingText.f (k + 1) a0 a1 a2 a3 a4 a5 a6 a7 a8 a9 a10 a11 a12 a13 a14 a15 a16 a17) := by
 intro a0 a1 a2 a3 a4 a5 a6 a7 a8 a9 a10 a11 a12 a13 a14 a15 a16 a17 k
 unfold spec_WeighingText.f
 repeat' first
   | (with_reducible exact spec_ValidWeighing.mono _ _ _ _ _ _ _ _ _ _ _ _ _ _ _ _ _ _ _)
   | (with_reducible exact spec_l03Text.mono _ _ _ _ _ _ _ _ _ _ _ _ _ _ _ _ _ _ _)
   | (with_reducible exact LeO.refl _)
   | (with_reducible exact LeO.none _)
   | (with_reducible refine LeO.ite ?_ ?_)
   | (with_reducible refine LeO.bind ?_ (fun _ => ?_))
   | exact spec_ValidWeighing.mono _ _ _ _ _ _ _ _ _ _ _ _ _ _ _ _ _ _ _
   | exact spec_l03Text.mono _ _ _ _ _ _ _ _ _ _ _ _ _ _ _ _ _ _ _
   | exact LeO.none _
   | refine LeO.ite ?_ ?_
   | refine LeO.bind ?_ (fun _ => ?_)
set_option maxHeartbeats 8000000 in
set_option maxRecDepth 100000 in
theorem spec_WeighingText.calls (k : Nat) (a0_0 : Int) (a0_1 : Int) (a0_2 : Bool) (a0_3 : Bool) (a1_0 : Int) (a1_1 : Int) (a1_2 : Int) (a1_3 : Int) (a1_4 : Int) (a1_5 : Int) (a1_6 : Int) (a1_7 : Int) (a1_8 : Int) (a1_9 : Int) (a1_10 : Int) (a1_11 : Int) (a1_12 : Int) (a1_13 : Int) (r : ByteArray) (w : World) (h : spec_WeighingText.f k a0_0 a0_1 a0_2 a0_3 a1_0 a1_1 a1_2 a1_3 a1_4 a1_5 a1_6 a1_7 a1_8 a1_9 a1_10 a1_11 a1_12 a1_13 = some r) :
  Calls Try.prog 22 #[.agg #[.int .i8 a0_0, .int .i8 a0_1, .bool a0_2, .bool a0_3], .agg #[.int .i8 a1_0, .int .i8 a1_1, .int .i8 a1_2, .int .i8 a1_3, .int .i8 a1_4, .int .i8 a1_5, .int .i8 a1_6, .int .i8 a1_7, .int .i8 a1_8, .int .i8 a1_9, .int .i8 a1_10, .int .i8 a1_11, .int .i8 a1_12, .int .i8 a1_13]] w fun e w' => e = .returned (.string r) ∧ Below w.heap.size w w' := by
 have hu26 := Try.underlying26
 have hu31 := Try.underlying31
 have HB := A_ (Below.refl w.heap.size w)
 have H : ((spec_ValidWeighing.f k a0_0 a0_1 a0_2 a0_3 a1_0 a1_1 a1_2 a1_3 a1_4 a1_5 a1_6 a1_7 a1_8 a1_9 a1_10 a1_11 a1_12 a1_13).bind fun t129 => (if t129 = true then ((spec_l03Text.f k a0_0 a0_1 a0_2 a0_3 a1_0 a1_1 a1_2 a1_3 a1_4 a1_5 a1_6 a1_7 a1_8 a1_9 a1_10 a1_11 a1_12 a1_13).bind fun t130 => (some t130)) else (some (⟨#[]⟩ : ByteArray)))) = some r := h
 clear h
 replace H := Option.bind_eq_some_iff.mp H
 obtain ⟨t129, A30, H⟩ := H
 replace H : (if t129 = true then ((spec_l03Text.f k a0_0 a0_1 a0_2 a0_3 a1_0 a1_1 a1_2 a1_3 a1_4 a1_5 a1_6 a1_7 a1_8 a1_9 a1_10 a1_11 a1_12 a1_13).bind fun t130 => (some t130)) else (some (⟨#[]⟩ : ByteArray))) = some r := H
 have A3 := Aside0.mk A30
 clear A30
 by_cases c4 : t129 = true
 ·subst c4
  have H1 : ((spec_l03Text.f k a0_0 a0_1 a0_2 a0_3 a1_0 a1_1 a1_2 a1_3 a1_4 a1_5 a1_6 a1_7 a1_8 a1_9 a1_10 a1_11 a1_12 a1_13).bind fun t130 => (some t130)) = some r := by rw [if_pos rfl] at H; exact H
  clear H
  have H := H1
  clear H1
  replace H := Option.bind_eq_some_iff.mp H
  obtain ⟨t130, A50, H⟩ := H
  replace H : (some t130) = some r := H
  have A5 := Aside0.mk A50
  clear A50
  obtain rfl := Option.some.inj H
  go_enter Try.func22, Try.ntmps22
  go_wp2_with (first | ((with_reducible refine gate_dst (N := 2) rfl ?_); refine box_event ?hg (N := 2) ?hd (cs := #[.int .i8 a0_0, .int .i8 a0_1, .bool a0_2, .bool a0_3]) (t := 26) ?hr ?_; (case hd => rfl); (case hg => rfl); (case hr => first | (go_simp; done) | (go_simp; rfl)); intro gb127 hg w6 hbox hb; have n0_ := A_ (below_step (bl_ HB) hb); have n1_ := A_ (hbox); have n2_ := A_ ((by rw [hg]; exact (below_size (bl_ HB)) : w.heap.size ≤ gb127)); have n3_ := n2_; clear HB; have HB := n0_; have BK127 := n1_; have GW127 := n2_; have GE127 := n3_; clear n0_ n1_ n2_ n3_; clear hb hbox hg) | ((with_reducible refine gate_dst (N := 3) rfl ?_); refine box_event ?hg (N := 3) ?hd (cs := #[.int .i8 a1_0, .int .i8 a1_1, .int .i8 a1_2, .int .i8 a1_3, .int .i8 a1_4, .int .i8 a1_5, .int .i8 a1_6, .int .i8 a1_7, .int .i8 a1_8, .int .i8 a1_9, .int .i8 a1_10, .int .i8 a1_11, .int .i8 a1_12, .int .i8 a1_13]) (t := 31) ?hr ?_; (case hd => rfl); (case hg => rfl); (case hr => first | (go_simp; done) | (go_simp; rfl)); intro gb128 hg w7 hbox hb; have n0_ := A_ (blk_below (pl_ BK127) hb); have n1_ := A_ (below_step (bl_ HB) hb); have n2_ := A_ (hbox); have n3_ := A_ ((by rw [hg]; exact (below_size (bl_ HB)) : w.heap.size ≤ gb128)); have n4_ := n3_; have n5_ := A_ ((by rw [hg]; exact Nat.ne_of_lt (blk_lt (pl_ BK127)) : gb127 ≠ gb128)); have n6_ := Aside0.mk n5_.out.symm; clear BK127; clear HB; have BK127 := n0_; have HB := n1_; have BK128 := n2_; have GW128 := n3_; have GE128 := n4_; have NB127_128 := n5_; have NB128_127 := n6_; clear n0_ n1_ n2_ n3_ n4_ n5_ n6_; clear hb hbox hg; have hnb8 := NB127_128.out; have hnc8 := NB128_127.out; have hcz9_0 : w7.cell? ⟨gb127, 0, none⟩ = some (.int .i8 a0_0) := (blk_cell BK127.out 0).trans rfl; have hcz9_1 : w7.cell? ⟨gb127, 1, none⟩ = some (.int .i8 a0_1) := (blk_cell BK127.out 1).trans rfl; have hcz9_2 : w7.cell? ⟨gb127, 2, none⟩ = some (.bool a0_2) := (blk_cell BK127.out 2).trans rfl; have hcz9_3 : w7.cell? ⟨gb127, 3, none⟩ = some (.bool a0_3) := (blk_cell BK127.out 3).trans rfl; have hfz9_0 := blk_frozen BK127.out 0; have hfz9_1 := blk_frozen BK127.out 1; have hfz9_2 := blk_frozen BK127.out 2; have hfz9_3 := blk_frozen BK127.out 3; have hcz10_0 : w7.cell? ⟨gb128, 0, none⟩ = some (.int .i8 a1_0) := (blk_cell BK128.out 0).trans rfl; have hcz10_1 : w7.cell? ⟨gb128, 1, none⟩ = some (.int .i8 a1_1) := (blk_cell BK128.out 1).trans rfl; have hcz10_2 : w7.cell? ⟨gb128, 2, none⟩ = some (.int .i8 a1_2) := (blk_cell BK128.out 2).trans rfl; have hcz10_3 : w7.cell? ⟨gb128, 3, none⟩ = some (.int .i8 a1_3) := (blk_cell BK128.out 3).trans rfl; have hcz10_4 : w7.cell? ⟨gb128, 4, none⟩ = some (.int .i8 a1_4) := (blk_cell BK128.out 4).trans rfl; have hcz10_5 : w7.cell? ⟨gb128, 5, none⟩ = some (.int .i8 a1_5) := (blk_cell BK128.out 5).trans rfl; have hcz10_6 : w7.cell? ⟨gb128, 6, none⟩ = some (.int .i8 a1_6) := (blk_cell BK128.out 6).trans rfl; have hcz10_7 : w7.cell? ⟨gb128, 7, none⟩ = some (.int .i8 a1_7) := (blk_cell BK128.out 7).trans rfl; have hcz10_8 : w7.cell? ⟨gb128, 8, none⟩ = some (.int .i8 a1_8) := (blk_cell BK128.out 8).trans rfl; have hcz10_9 : w7.cell? ⟨gb128, 9, none⟩ = some (.int .i8 a1_9) := (blk_cell BK128.out 9).trans rfl; have hcz10_10 : w7.cell? ⟨gb128, 10, none⟩ = some (.int .i8 a1_10) := (blk_cell BK128.out 10).trans rfl; have hcz10_11 : w7.cell? ⟨gb128, 11, none⟩ = some (.int .i8 a1_11) := (blk_cell BK128.out 11).trans rfl; have hcz10_12 : w7.cell? ⟨gb128, 12, none⟩ = some (.int .i8 a1_12) := (blk_cell BK128.out 12).trans rfl; have hcz10_13 : w7.cell? ⟨gb128, 13, none⟩ = some (.int .i8 a1_13) := (blk_cell BK128.out 13).trans rfl; have hfz10_0 := blk_frozen BK128.out 0; have hfz10_1 := blk_frozen BK128.out 1; have hfz10_2 := blk_frozen BK128.out 2; have hfz10_3 := blk_frozen BK128.out 3; have hfz10_4 := blk_frozen BK128.out 4; have hfz10_5 := blk_frozen BK128.out 5; have hfz10_6 := blk_frozen BK128.out 6; have hfz10_7 := blk_frozen BK128.out 7; have hfz10_8 := blk_frozen BK128.out 8; have hfz10_9 := blk_frozen BK128.out 9; have hfz10_10 := blk_frozen BK128.out 10; have hfz10_11 := blk_frozen BK128.out 11; have hfz10_12 := blk_frozen BK128.out 12; have hfz10_13 := blk_frozen BK128.out 13) | ((with_reducible refine gate_callee (f := 17) rfl ?_); refine goesL_ (some 7) rfl rfl Try.func17 (by kernel_rfl) rfl #[.agg #[.int .i8 a0_0, .int .i8 a0_1, .bool a0_2, .bool a0_3], .agg #[.int .i8 a1_0, .int .i8 a1_1, .int .i8 a1_2, .int .i8 a1_3, .int .i8 a1_4, .int .i8 a1_5, .int .i8 a1_6, .int .i8 a1_7, .int .i8 a1_8, .int .i8 a1_9, .int .i8 a1_10, .int .i8 a1_11, .int .i8 a1_12, .int .i8 a1_13]] rfl arg_ ?_; (with_reducible refine (spec_ValidWeighing.calls k a0_0 a0_1 a0_2 a0_3 a1_0 a1_1 a1_2 a1_3 a1_4 a1_5 a1_6 a1_7 a1_8 a1_9 a1_10 a1_11 a1_12 a1_13 true _ A3.out).mono ?_); rintro e w11 ⟨rfl, hb⟩; refine ⟨_, rfl, ?_⟩; have n0_ := A_ (blk_below (pl_ BK127) hb); have n1_ := A_ (blk_below (pl_ BK128) hb); have n2_ := A_ (below_step (bl_ HB) hb); clear BK127; clear BK128; clear HB; have BK127 := n0_; have BK128 := n1_; have HB := n2_; clear n0_ n1_ n2_; (try clear hb); (try clear hb2); (try clear hk); (try clear hi); have hcz12_0 : w11.cell? ⟨gb127, 0, none⟩ = some (.int .i8 a0_0) := (blk_cell BK127.out 0).trans rfl; have hcz12_1 : w11.cell? ⟨gb127, 1, none⟩ = some (.int .i8 a0_1) := (blk_cell BK127.out 1).trans rfl; have hcz12_2 : w11.cell? ⟨gb127, 2, none⟩ = some (.bool a0_2) := (blk_cell BK127.out 2).trans rfl; have hcz12_3 : w11.cell? ⟨gb127, 3, none⟩ = some (.bool a0_3) := (blk_cell BK127.out 3).trans rfl; have hfz12_0 := blk_frozen BK127.out 0; have hfz12_1 := blk_frozen BK127.out 1; have hfz12_2 := blk_frozen BK127.out 2; have hfz12_3 := blk_frozen BK127.out 3; have hcz13_0 : w11.cell? ⟨gb128, 0, none⟩ = some (.int .i8 a1_0) := (blk_cell BK128.out 0).trans rfl; have hcz13_1 : w11.cell? ⟨gb128, 1, none⟩ = some (.int .i8 a1_1) := (blk_cell BK128.out 1).trans rfl; have hcz13_2 : w11.cell? ⟨gb128, 2, none⟩ = some (.int .i8 a1_2) := (blk_cell BK128.out 2).trans rfl; have hcz13_3 : w11.cell? ⟨gb128, 3, none⟩ = some (.int .i8 a1_3) := (blk_cell BK128.out 3).trans rfl; have hcz13_4 : w11.cell? ⟨gb128, 4, none⟩ = some (.int .i8 a1_4) := (blk_cell BK128.out 4).trans rfl; have hcz13_5 : w11.cell? ⟨gb128, 5, none⟩ = some (.int .i8 a1_5) := (blk_cell BK128.out 5).trans rfl; have hcz13_6 : w11.cell? ⟨gb128, 6, none⟩ = some (.int .i8 a1_6) := (blk_cell BK128.out 6).trans rfl; have hcz13_7 : w11.cell? ⟨gb128, 7, none⟩ = some (.int .i8 a1_7) := (blk_cell BK128.out 7).trans rfl; have hcz13_8 : w11.cell? ⟨gb128, 8, none⟩ = some (.int .i8 a1_8) := (blk_cell BK128.out 8).trans rfl; have hcz13_9 : w11.cell? ⟨gb128, 9, none⟩ = some (.int .i8 a1_9) := (blk_cell BK128.out 9).trans rfl; have hcz13_10 : w11.cell? ⟨gb128, 10, none⟩ = some (.int .i8 a1_10) := (blk_cell BK128.out 10).trans rfl; have hcz13_11 : w11.cell? ⟨gb128, 11, none⟩ = some (.int .i8 a1_11) := (blk_cell BK128.out 11).trans rfl; have hcz13_12 : w11.cell? ⟨gb128, 12, none⟩ = some (.int .i8 a1_12) := (blk_cell BK128.out 12).trans rfl; have hcz13_13 : w11.cell? ⟨gb128, 13, none⟩ = some (.int .i8 a1_13) := (blk_cell BK128.out 13).trans rfl; have hfz13_0 := blk_frozen BK128.out 0; have hfz13_1 := blk_frozen BK128.out 1; have hfz13_2 := blk_frozen BK128.out 2; have hfz13_3 := blk_frozen BK128.out 3; have hfz13_4 := blk_frozen BK128.out 4; have hfz13_5 := blk_frozen BK128.out 5; have hfz13_6 := blk_frozen BK128.out 6; have hfz13_7 := blk_frozen BK128.out 7; have hfz13_8 := blk_frozen BK128.out 8; have hfz13_9 := blk_frozen BK128.out 9; have hfz13_10 := blk_frozen BK128.out 10; have hfz13_11 := blk_frozen BK128.out 11; have hfz13_12 := blk_frozen BK128.out 12; have hfz13_13 := blk_frozen BK128.out 13) | ((with_reducible refine gate_callee (f := 56) rfl ?_); refine goesL_ (some 11) rfl rfl Try.func56 (by kernel_rfl) rfl #[.agg #[.int .i8 a0_0, .int .i8 a0_1, .bool a0_2, .bool a0_3], .agg #[.int .i8 a1_0, .int .i8 a1_1, .int .i8 a1_2, .int .i8 a1_3, .int .i8 a1_4, .int .i8 a1_5, .int .i8 a1_6, .int .i8 a1_7, .int .i8 a1_8, .int .i8 a1_9, .int .i8 a1_10, .int .i8 a1_11, .int .i8 a1_12, .int .i8 a1_13]] rfl arg_ ?_; (with_reducible refine (spec_l03Text.calls k a0_0 a0_1 a0_2 a0_3 a1_0 a1_1 a1_2 a1_3 a1_4 a1_5 a1_6 a1_7 a1_8 a1_9 a1_10 a1_11 a1_12 a1_13 t130 _ A5.out).mono ?_); rintro e w14 ⟨rfl, hb⟩; refine ⟨_, rfl, ?_⟩; have n0_ := A_ (blk_below (pl_ BK127) hb); have n1_ := A_ (blk_below (pl_ BK128) hb); have n2_ := A_ (below_step (bl_ HB) hb); clear BK127; clear BK128; clear HB; have BK127 := n0_; have BK128 := n1_; have HB := n2_; clear n0_ n1_ n2_; (try clear hb); (try clear hb2); (try clear hk); (try clear hi)))
  go_ret
  exact ⟨by first | rfl | (simp [errW_none, errW_some] <;> rfl) | (simp [*, errW_none, errW_some] <;> rfl), bl_ HB⟩
 ·replace c4 := Bool.eq_false_iff.mpr c4
  subst c4
  have H1 : (some (⟨#[]⟩ : ByteArray)) = some r := by rw [if_neg (show ¬ (false = true) by decide)] at H; exact H
  clear H
  have H := H1
  clear H1
  obtain rfl := Option.some.inj H
  go_enter Try.func22, Try.ntmps22
  go_wp2_with (first | ((with_reducible refine gate_dst (N := 2) rfl ?_); refine box_event ?hg (N := 2) ?hd (cs := #[.int .i8 a0_0, .int .i8 a0_1, .bool a0_2, .bool a0_3]) (t := 26) ?hr ?_; (case hd => rfl); (case hg => rfl); (case hr => first | (go_simp; done) | (go_simp; rfl)); intro gb127 hg w15 hbox hb; have n0_ := A_ (below_step (bl_ HB) hb); have n1_ := A_ (hbox); have n2_ := A_ ((by rw [hg]; exact (below_size (bl_ HB)) : w.heap.size ≤ gb127)); have n3_ := n2_; clear HB; have HB := n0_; have BK127 := n1_; have GW127 := n2_; have GE127 := n3_; clear n0_ n1_ n2_ n3_; clear hb hbox hg) | ((with_reducible refine gate_dst (N := 3) rfl ?_); refine box_event ?hg (N := 3) ?hd (cs := #[.int .i8 a1_0, .int .i8 a1_1, .int .i8 a1_2, .int .i8 a1_3, .int .i8 a1_4, .int .i8 a1_5, .int .i8 a1_6, .int .i8 a1_7, .int .i8 a1_8, .int .i8 a1_9, .int .i8 a1_10, .int .i8 a1_11, .int .i8 a1_12, .int .i8 a1_13]) (t := 31) ?hr ?_; (case hd => rfl); (case hg => rfl); (case hr => first | (go_simp; done) | (go_simp; rfl)); intro gb128 hg w16 hbox hb; have n0_ := A_ (blk_below (pl_ BK127) hb); have n1_ := A_ (below_step (bl_ HB) hb); have n2_ := A_ (hbox); have n3_ := A_ ((by rw [hg]; exact (below_size (bl_ HB)) : w.heap.size ≤ gb128)); have n4_ := n3_; have n5_ := A_ ((by rw [hg]; exact Nat.ne_of_lt (blk_lt (pl_ BK127)) : gb127 ≠ gb128)); have n6_ := Aside0.mk n5_.out.symm; clear BK127; clear HB; have BK127 := n0_; have HB := n1_; have BK128 := n2_; have GW128 := n3_; have GE128 := n4_; have NB127_128 := n5_; have NB128_127 := n6_; clear n0_ n1_ n2_ n3_ n4_ n5_ n6_; clear hb hbox hg; have hnb17 := NB127_128.out; have hnc17 := NB128_127.out; have hcz18_0 : w16.cell? ⟨gb127, 0, none⟩ = some (.int .i8 a0_0) := (blk_cell BK127.out 0).trans rfl; have hcz18_1 : w16.cell? ⟨gb127, 1, none⟩ = some (.int .i8 a0_1) := (blk_cell BK127.out 1).trans rfl; have hcz18_2 : w16.cell? ⟨gb127, 2, none⟩ = some (.bool a0_2) := (blk_cell BK127.out 2).trans rfl; have hcz18_3 : w16.cell? ⟨gb127, 3, none⟩ = some (.bool a0_3) := (blk_cell BK127.out 3).trans rfl; have hfz18_0 := blk_frozen BK127.out 0; have hfz18_1 := blk_frozen BK127.out 1; have hfz18_2 := blk_frozen BK127.out 2; have hfz18_3 := blk_frozen BK127.out 3; have hcz19_0 : w16.cell? ⟨gb128, 0, none⟩ = some (.int .i8 a1_0) := (blk_cell BK128.out 0).trans rfl; have hcz19_1 : w16.cell? ⟨gb128, 1, none⟩ = some (.int .i8 a1_1) := (blk_cell BK128.out 1).trans rfl; have hcz19_2 : w16.cell? ⟨gb128, 2, none⟩ = some (.int .i8 a1_2) := (blk_cell BK128.out 2).trans rfl; have hcz19_3 : w16.cell? ⟨gb128, 3, none⟩ = some (.int .i8 a1_3) := (blk_cell BK128.out 3).trans rfl; have hcz19_4 : w16.cell? ⟨gb128, 4, none⟩ = some (.int .i8 a1_4) := (blk_cell BK128.out 4).trans rfl; have hcz19_5 : w16.cell? ⟨gb128, 5, none⟩ = some (.int .i8 a1_5) := (blk_cell BK128.out 5).trans rfl; have hcz19_6 : w16.cell? ⟨gb128, 6, none⟩ = some (.int .i8 a1_6) := (blk_cell BK128.out 6).trans rfl; have hcz19_7 : w16.cell? ⟨gb128, 7, none⟩ = some (.int .i8 a1_7) := (blk_cell BK128.out 7).trans rfl; have hcz19_8 : w16.cell? ⟨gb128, 8, none⟩ = some (.int .i8 a1_8) := (blk_cell BK128.out 8).trans rfl; have hcz19_9 : w16.cell? ⟨gb128, 9, none⟩ = some (.int .i8 a1_9) := (blk_cell BK128.out 9).trans rfl; have hcz19_10 : w16.cell? ⟨gb128, 10, none⟩ = some (.int .i8 a1_10) := (blk_cell BK128.out 10).trans rfl; have hcz19_11 : w16.cell? ⟨gb128, 11, none⟩ = some (.int .i8 a1_11) := (blk_cell BK128.out 11).trans rfl; have hcz19_12 : w16.cell? ⟨gb128, 12, none⟩ = some (.int .i8 a1_12) := (blk_cell BK128.out 12).trans rfl; have hcz19_13 : w16.cell? ⟨gb128, 13, none⟩ = some (.int .i8 a1_13) := (blk_cell BK128.out 13).trans rfl; have hfz19_0 := blk_frozen BK128.out 0; have hfz19_1 := blk_frozen BK128.out 1; have hfz19_2 := blk_frozen BK128.out 2; have hfz19_3 := blk_frozen BK128.out 3; have hfz19_4 := blk_frozen BK128.out 4; have hfz19_5 := blk_frozen BK128.out 5; have hfz19_6 := blk_frozen BK128.out 6; have hfz19_7 := blk_frozen BK128.out 7; have hfz19_8 := blk_frozen BK128.out 8; have hfz19_9 := blk_frozen BK128.out 9; have hfz19_10 := blk_frozen BK128.out 10; have hfz19_11 := blk_frozen BK128.out 11; have hfz19_12 := blk_frozen BK128.out 12; have hfz19_13 := blk_frozen BK128.out 13) | ((with_reducible refine gate_callee (f := 17) rfl ?_); refine goesL_ (some 7) rfl rfl Try.func17 (by kernel_rfl) rfl #[.agg #[.int .i8 a0_0, .int .i8 a0_1, .bool a0_2, .bool a0_3], .agg #[.int .i8 a1_0, .int .i8 a1_1, .int .i8 a1_2, .int .i8 a1_3, .int .i8 a1_4, .int .i8 a1_5, .int .i8 a1_6, .int .i8 a1_7, .int .i8 a1_8, .int .i8 a1_9, .int .i8 a1_10, .int .i8 a1_11, .int .i8 a1_12, .int .i8 a1_13]] rfl arg_ ?_; (with_reducible refine (spec_ValidWeighing.calls k a0_0 a0_1 a0_2 a0_3 a1_0 a1_1 a1_2 a1_3 a1_4 a1_5 a1_6 a1_7 a1_8 a1_9 a1_10 a1_11 a1_12 a1_13 false _ A3.out).mono ?_); rintro e w20 ⟨rfl, hb⟩; refine ⟨_, rfl, ?_⟩; have n0_ := A_ (blk_below (pl_ BK127) hb); have n1_ := A_ (blk_below (pl_ BK128) hb); have n2_ := A_ (below_step (bl_ HB) hb); clear BK127; clear BK128; clear HB; have BK127 := n0_; have BK128 := n1_; have HB := n2_; clear n0_ n1_ n2_; (try clear hb); (try clear hb2); (try clear hk); (try clear hi)))
  go_ret
  exact ⟨by first | rfl | (simp [errW_none, errW_some] <;> rfl) | (simp [*, errW_none, errW_some] <;> rfl), bl_ HB⟩

/-! ### impl_within: function 48 -/
def impl_within.f (a0 : Int) (a1 : Int) (a2 : Int) : Option (Bool) := if a1 ≤ a0 then (some (decide (a0 ≤ a2))) else (some false)
set_option maxHeartbeats 8000000 in
set_option maxRecDepth 100000 in
theorem impl_within.calls (a0 : Int) (a1 : Int) (a2 : Int) (r : Bool) (w : World) (h : impl_within.f a0 a1 a2 = some r) :
  Calls Try.prog 48 #[.int .i64 a0, .int .i64 a1, .int .i64 a2] w fun e w' => e = .returned (.bool r) ∧ Drawn0 w w' := by
 have H : (if a1 ≤ a0 then (some (decide (a0 ≤ a2))) else (some false)) = some r := h
 clear h
 by_cases c4 : a1 ≤ a0
 ·rw [if_pos c4] at H
  have c4b0 : decide (a1 ≤ a0) = true := decide_eq_true c4
  clear c4
  obtain rfl := Option.some.inj H
  go_enter Try.func48, Try.ntmps48
  go_wp2
  go_ret
  exact ⟨by first | rfl | (simp; done) | (simp [*]; done), by repeat (first | exact Drawn0.refl _ | apply Drawn0.step)⟩
 ·rw [if_neg c4] at H
  have c4b0 : decide (a1 ≤ a0) = false := decide_eq_false c4
  clear c4
  obtain rfl := Option.some.inj H
  go_enter Try.func48, Try.ntmps48
  go_wp2
  go_ret
  exact ⟨by first | rfl | (simp; done) | (simp [*]; done), by repeat (first | exact Drawn0.refl _ | apply Drawn0.step)⟩

end Go.Proofs.Ytajbeamkjoeifaa.M
