-- By this seat's own program over the kit's printer (arrays, functions told by hand); nothing of it is trusted: the kernel checks it.
import Derived.Test.YtodmfjophjhbeaaMx0
namespace Go.Proofs.Ytodmfjophjhbeaa.M
open Go.RowKit Go.Proofs.YtodmfjophjhbeaaW.PrintWords Go.Proofs.YtodmfjophjhbeaaW.PrintLast Go.Proofs.YtodmfjophjhbeaaW.PrintMore
attribute [local go_sem] max2_int min2_int max_two min_two max_three min_three max_four min_four   -- for this text's walks alone
set_option linter.unusedVariables false
set_option linter.unusedSimpArgs false

/-! ### spec_l02Has: function 60 -/
def spec_l02Has.l0 : Nat → Int → Int → List Int → Int → Int → Int → Int → Bool → Int → Int → Int → Int → Option (Bool)
 | 0, _, _, _, _, _, _, _, _, _, _, _, _ => none
 | k + 1, x2, x7, x167000, x167001, x167002, x167003, x167004, x167005, x168000, x168001, x168002, x168003 => if x7 < (x167000.length : Int) then (if 0 ≤ x7 then (if x7 < 4 then (if (wrap64 (rd [x168000, x168001, x168002, x168003] x7)) = x2 then (some true) else (spec_l02Has.l0 k x2 (wrap64 (x7 + 1)) x167000 x167001 x167002 x167003 x167004 x167005 x168000 x168001 x168002 x168003)) else (none)) else (none)) else (some false)
def spec_l02Has.f (k : Nat) (l0_0 : List Int) (a0_1 : Int) (a0_2 : Int) (a0_3 : Int) (a0_4 : Int) (a0_5 : Bool) (a1_0 : Int) (a1_1 : Int) (a1_2 : Int) (a1_3 : Int) (a2 : Int) : Option (Bool) := spec_l02Has.l0 k a2 0 l0_0 a0_1 a0_2 a0_3 a0_4 a0_5 a1_0 a1_1 a1_2 a1_3
theorem spec_l02Has.mono_l : ∀ k, (∀ y0 y1 y2 y3 y4 y5 y6 y7 y8 y9 y10 y11, LeO (spec_l02Has.l0 k y0 y1 y2 y3 y4 y5 y6 y7 y8 y9 y10 y11) (spec_l02Has.l0 (k + 1) y0 y1 y2 y3 y4 y5 y6 y7 y8 y9 y10 y11))
 | 0 => fun _ _ _ _ _ _ _ _ _ _ _ _ r h => by simp [spec_l02Has.l0] at h
 | k + 1 => by
  have ih0 := spec_l02Has.mono_l k
  ·intro y0 y1 y2 y3 y4 y5 y6 y7 y8 y9 y10 y11
   unfold spec_l02Has.l0
   repeat' first
   | (with_reducible exact ih0 _ _ _ _ _ _ _ _ _ _ _ _)
   | (with_reducible exact LeO.refl _)
   | (with_reducible exact LeO.none _)
   | (with_reducible refine LeO.ite ?_ ?_)
   | (with_reducible refine LeO.bind ?_ (fun _ => ?_))
   | exact ih0 _ _ _ _ _ _ _ _ _ _ _ _
   | exact LeO.none _
   | refine LeO.ite ?_ ?_
   | refine LeO.bind ?_ (fun _ => ?_)
theorem spec_l02Has.mono : ∀ a0 a1 a2 a3 a4 a5 a6 a7 a8 a9 a10 k, LeO (spec_l02Has.f k a0 a1 a2 a3 a4 a5 a6 a7 a8 a9 a10) (spec_l02Has.f (k + 1) a0 a1 a2 a3 a4 a5 a6 a7 a8 a9 a10) := by
 intro a0 a1 a2 a3 a4 a5 a6 a7 a8 a9 a10 k
 have ih0 := spec_l02Has.mono_l k
 unfold spec_l02Has.f
 repeat' first
   | (with_reducible exact ih0 _ _ _ _ _ _ _ _ _ _ _ _)
   | (with_reducible exact LeO.refl _)
   | (with_reducible exact LeO.none _)
   | (with_reducible refine LeO.ite ?_ ?_)
   | (with_reducible refine LeO.bind ?_ (fun _ => ?_))
   | exact ih0 _ _ _ _ _ _ _ _ _ _ _ _
   | exact LeO.none _
   | refine LeO.ite ?_ ?_
   | refine LeO.bind ?_ (fun _ => ?_)
set_option maxHeartbeats 8000000 in
set_option maxRecDepth 100000 in
theorem spec_l02Has.calls (k : Nat) (gp0 : Nat) (A0_0 : Option Addr) (c0_0 : Nat) (l0_0 : List Int) (a0_1 : Int) (a0_2 : Int) (a0_3 : Int) (a0_4 : Int) (a0_5 : Bool) (a1_0 : Int) (a1_1 : Int) (a1_2 : Int) (a1_3 : Int) (a2 : Int) (r : Bool) (w : World) (hb0 : w.heap[gp0]? = some (.cells #[.slice A0_0 l0_0.length c0_0, .int .i16 a0_1, .int .i16 a0_2, .int .i16 a0_3, .int .i16 a0_4, .bool a0_5] 32 (0, 0))) (hr0_0 : Kd.C (Kd.int .i16) w A0_0 l0_0.length l0_0) (hc0_0 : l0_0.length ≤ c0_0) (h : spec_l02Has.f k l0_0 a0_1 a0_2 a0_3 a0_4 a0_5 a1_0 a1_1 a1_2 a1_3 a2 = some r) :
  Calls Try.prog 60 #[.pointer (some ⟨gp0, 0, none⟩), .agg #[.int .i16 a1_0, .int .i16 a1_1, .int .i16 a1_2, .int .i16 a1_3], .int .i64 a2] w fun e w' => e = .returned (.bool r) ∧ Below w.heap.size w w' := by
 have hu30 := Try.underlying30
 have HR0_0 := Aside0.mk hr0_0
 have HC0_0 := Aside0.mk hc0_0
 clear hr0_0 hc0_0
 have BK166 := Aside0.mk hb0
 clear hb0
 have HB := A_ (Below.refl w.heap.size w)
 have H : (spec_l02Has.l0 k a2 0 l0_0 a0_1 a0_2 a0_3 a0_4 a0_5 a1_0 a1_1 a1_2 a1_3) = some r := h
 clear h
 have H' := Aside0.mk H
 clear H
 go_enter Try.func60, Try.ntmps60
 go_wp2_with (first | ((with_reducible refine gate_dst (N := 4) rfl ?_); refine box_event ?hg (N := 4) ?hd (cs := #[.int .i16 a1_0, .int .i16 a1_1, .int .i16 a1_2, .int .i16 a1_3]) (t := 30) ?hr ?_; (case hd => rfl); (case hg => rfl); (case hr => first | (go_simp; done) | (go_simp; rfl)); intro gb167 hg w4 hbox hb; have n0_ := A_ (blk_below (pl_ BK166) hb); have n1_ := A_ (below_step (bl_ HB) hb); have n2_ := A_ (hbox); have n3_ := A_ ((by rw [hg]; exact (below_size (bl_ HB)) : w.heap.size ≤ gb167)); have n4_ := n3_; have n5_ := A_ ((by rw [hg]; exact Nat.ne_of_lt (blk_lt (pl_ BK166)) : gp0 ≠ gb167)); have n6_ := Aside0.mk n5_.out.symm; clear BK166; clear HB; have BK166 := n0_; have HB := n1_; have BK167 := n2_; have GW167 := n3_; have GE167 := n4_; have NB166_167 := n5_; have NB167_166 := n6_; clear n0_ n1_ n2_ n3_ n4_ n5_ n6_; clear hb hbox hg))
 go_loopg [7] k (fun kq v7 w' => ∃ (x7_1 : Int), v7 = .int .i64 x7_1 ∧ Aside0 (spec_l02Has.l0 kq a2 x7_1 l0_0 a0_1 a0_2 a0_3 a0_4 a0_5 a1_0 a1_1 a1_2 a1_3 = some r) ∧ Aside0 (kq ≤ k) ∧ Aside0 (w'.heap[gp0]? = some (.cells #[(.slice A0_0 l0_0.length c0_0), .int .i16 a0_1, .int .i16 a0_2, .int .i16 a0_3, .int .i16 a0_4, .bool a0_5] 32 (0, 0))) ∧ Aside0 (w'.heap[gb167]? = some (.cells #[.int .i16 a1_0, .int .i16 a1_1, .int .i16 a1_2, .int .i16 a1_3] 30 (0, 0))) ∧ Aside0 (Below w.heap.size w w'))
 case atStart => exact ⟨(0), rs_, H', ⟨Nat.le_refl _⟩, ⟨pl_ BK166⟩, ⟨pl_ BK167⟩, ⟨bl_ HB⟩⟩
 case round =>
  clear H'
  try clear p2
  obtain ⟨x7_1, rfl, HA, HK1, BK166, BK167, HB⟩ := hrel
  cases gk with
  | zero => exact absurd HA.out (by simp [spec_l02Has.l0])
  | succ k1 =>
   have H := HA.out
   clear HA
   simp only [spec_l02Has.l0] at H
   by_cases c5 : x7_1 < (l0_0.length : Int)
   ·rw [if_pos c5] at H
    have c5b0 : decide (x7_1 < (l0_0.length : Int)) = true := decide_eq_true c5
    clear c5
    by_cases c6 : 0 ≤ x7_1
    ·rw [if_pos c6] at H
     have c6b0 : decide (0 ≤ x7_1) = true := decide_eq_true c6
     clear c6
     by_cases c7 : x7_1 < 4
     ·rw [if_pos c7] at H
      have c7b0 : decide (x7_1 < 4) = true := decide_eq_true c7
      clear c7
      by_cases c9 : (wrap64 (rd [a1_0, a1_1, a1_2, a1_3] x7_1)) = a2
      ·rw [if_pos c9] at H
       have c9b0 : ((wrap64 (rd [a1_0, a1_1, a1_2, a1_3] x7_1)) == a2) = true := beq_iff_eq.mpr c9
       have c9b1 : ((wrap64 (rd [a1_0, a1_1, a1_2, a1_3] x7_1)) != a2) = false := bne_eq_false_iff_eq.mpr c9
       clear c9
       obtain rfl := Option.some.inj H
       have hnb10 := NB166_167.out
       have hnc10 := NB167_166.out
       obtain ⟨hcz11_0, hcz11_1, hcz11_2, hcz11_3, hcz11_4, hcz11_5, hfz11_0, hfz11_1, hfz11_2, hfz11_3, hfz11_4, hfz11_5⟩ := cl6_ BK166
       obtain ⟨hcz12_0, hcz12_1, hcz12_2, hcz12_3, hfz12_0, hfz12_1, hfz12_2, hfz12_3⟩ := cl4_ BK167
       have p8 : 0 ≤ (x7_1 : Int) := asm_
       have q8 : (x7_1 : Int) < 4 := asm_
       have hx8 : wr.cell? ⟨gb167, (x7_1 : Int).toNat, none⟩ = some (.int .i16 (rd [a1_0, a1_1, a1_2, a1_3] x7_1)) := ard_cell (k := .i16) (l := [a1_0, a1_1, a1_2, a1_3]) BK167.out p8 q8
       have hf8 := blk_frozen BK167.out (x7_1 : Int).toNat
       have P8 := Aside0.mk p8
       have Q8 := Aside0.mk q8
       replace p8 := eq_true p8
       replace q8 := eq_true q8
       go_wp2
       go_ret
       exact ⟨by first | rfl | (simp [errW_none, errW_some] <;> rfl) | (simp [*, errW_none, errW_some] <;> rfl), bl_ HB⟩
      ·rw [if_neg c9] at H
       have c9b0 : ((wrap64 (rd [a1_0, a1_1, a1_2, a1_3] x7_1)) == a2) = false := beq_eq_false_iff_ne.mpr c9
       have c9b1 : ((wrap64 (rd [a1_0, a1_1, a1_2, a1_3] x7_1)) != a2) = true := bne_iff_ne.mpr c9
       have H' := Aside0.mk H
       clear H
       have hnb13 := NB166_167.out
       have hnc13 := NB167_166.out
       obtain ⟨hcz14_0, hcz14_1, hcz14_2, hcz14_3, hcz14_4, hcz14_5, hfz14_0, hfz14_1, hfz14_2, hfz14_3, hfz14_4, hfz14_5⟩ := cl6_ BK166
       obtain ⟨hcz15_0, hcz15_1, hcz15_2, hcz15_3, hfz15_0, hfz15_1, hfz15_2, hfz15_3⟩ := cl4_ BK167
       have p8 : 0 ≤ (x7_1 : Int) := asm_
       have q8 : (x7_1 : Int) < 4 := asm_
       have hx8 : wr.cell? ⟨gb167, (x7_1 : Int).toNat, none⟩ = some (.int .i16 (rd [a1_0, a1_1, a1_2, a1_3] x7_1)) := ard_cell (k := .i16) (l := [a1_0, a1_1, a1_2, a1_3]) BK167.out p8 q8
       have hf8 := blk_frozen BK167.out (x7_1 : Int).toNat
       have P8 := Aside0.mk p8
       have Q8 := Aside0.mk q8
       replace p8 := eq_true p8
       replace q8 := eq_true q8
       go_wp2
       go_roundg k1
       case measure => have := HK1.out; omega
       case rel => exact ⟨(wrap64 (x7_1 + 1)), rs_, H', ⟨by have := HK1.out; omega⟩, ⟨pl_ BK166⟩, ⟨pl_ BK167⟩, ⟨bl_ HB⟩⟩
     ·rw [if_neg c7] at H
      exact absurd H (by simp)
    ·rw [if_neg c6] at H
     exact absurd H (by simp)
   ·rw [if_neg c5] at H
    have c5b0 : decide (x7_1 < (l0_0.length : Int)) = false := decide_eq_false c5
    clear c5
    obtain rfl := Option.some.inj H
    have hnb16 := NB166_167.out
    have hnc16 := NB167_166.out
    obtain ⟨hcz17_0, hcz17_1, hcz17_2, hcz17_3, hcz17_4, hcz17_5, hfz17_0, hfz17_1, hfz17_2, hfz17_3, hfz17_4, hfz17_5⟩ := cl6_ BK166
    go_wp2
    go_ret
    exact ⟨by first | rfl | (simp [errW_none, errW_some] <;> rfl) | (simp [*, errW_none, errW_some] <;> rfl), bl_ HB⟩

end Go.Proofs.Ytodmfjophjhbeaa.M
