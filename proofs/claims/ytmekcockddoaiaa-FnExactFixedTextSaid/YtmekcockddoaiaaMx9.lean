-- By this seat's own program over the kit's printer (arrays, functions told by hand); nothing of it is trusted: the kernel checks it.
import Derived.Test.YtmekcockddoaiaaMx0
import Derived.Test.YtmekcockddoaiaaMx7
import Derived.Test.YtmekcockddoaiaaMx8
import Derived.Test.YtmekcockddoaiaaHJoin
namespace Go.Proofs.Ytmekcockddoaiaa.M
open Go.RowKit Go.Proofs.YtmekcockddoaiaaW.PrintWords Go.Proofs.YtmekcockddoaiaaW.PrintLast Go.Proofs.YtmekcockddoaiaaW.PrintMore
attribute [local go_sem] max2_int min2_int max_two min_two max_three min_three max_four min_four   -- for this text's walks alone
set_option linter.unusedVariables false
set_option linter.unusedSimpArgs false

/-! ### impl_FixedText: function 7 -/
def impl_FixedText.l0 : Nat → List ByteArray → List (S43) → Int → Int → Int → Int → List (S43) → Option (ByteArray)
 | 0, _, _, _, _, _, _, _ => none
 | k + 1, x3, x18, x19, x20, x176000, x176001, x176002 => if x20 < x19 then (if 0 ≤ x20 then (if x20 < (x18.length : Int) then (if 0 ≤ x176000 then (if x176000 ≤ 4 then ((impl_signs.f k ([(rd_T43 x18 x20).f0, (rd_T43 x18 x20).f1, (rd_T43 x18 x20).f2, (rd_T43 x18 x20).f3].take (x176000 : Int).toNat)).bind fun bt190 => (if x3.length < 8796093022208 then (impl_FixedText.l0 k (x3 ++ [bt190.1]) x18 x19 (wrap64 (x20 + 1)) x176000 x176001 x176002) else (none))) else (none)) else (none)) else (none)) else (none)) else ((strings_Join.f x3 (⟨#[32]⟩ : ByteArray)).bind fun t195 => (some t195))
def impl_FixedText.f (k : Nat) (a0_0 : Int) (a0_1 : Int) (l0_2 : List (S43)) : Option (ByteArray) := (impl_ValidFixed.f k a0_0 a0_1 l0_2).bind fun t176 => (if t176 = true then ((impl_kindWords.f).bind fun t177 => (if 0 ≤ a0_1 then (if a0_1 < (t177.length : Int) then (impl_FixedText.l0 k (([rdOf ByteArray.empty t177 a0_1] : List ByteArray)) l0_2 (l0_2.length : Int) 0 a0_0 a0_1 l0_2) else (none)) else (none))) else (some (⟨#[]⟩ : ByteArray)))
theorem impl_FixedText.mono_l : ∀ k, (∀ y0 y1 y2 y3 y4 y5 y6, LeO (impl_FixedText.l0 k y0 y1 y2 y3 y4 y5 y6) (impl_FixedText.l0 (k + 1) y0 y1 y2 y3 y4 y5 y6))
 | 0 => fun _ _ _ _ _ _ _ r h => by simp [impl_FixedText.l0] at h
 | k + 1 => by
  have ih0 := impl_FixedText.mono_l k
  ·intro y0 y1 y2 y3 y4 y5 y6
   unfold impl_FixedText.l0
   repeat' first
   | (with_reducible exact ih0 _ _ _ _ _ _ _)
   | (with_reducible exact impl_ValidFixed.mono _ _ _ _)
   | (with_reducible exact impl_signs.mono _ _)
   | (with_reducible exact LeO.refl _)
   | (with_reducible exact LeO.none _)
   | (with_reducible refine LeO.ite ?_ ?_)
   | (with_reducible refine LeO.bind ?_ (fun _ => ?_))
   | exact ih0 _ _ _ _ _ _ _
   | exact impl_ValidFixed.mono _ _ _ _
   | exact impl_signs.mono _ _
   | exact LeO.none _
   | refine LeO.ite ?_ ?_
   | refine LeO.bind ?_ (fun _ => ?_)
theorem impl_FixedText.mono : ∀ a0 a1 a2 k, LeO (impl_FixedText.f k a0 a1 a2) (impl_FixedText.f (k + 1) a0 a1 a2) := by
 intro a0 a1 a2 k
 have ih0 := impl_FixedText.mono_l k
 unfold impl_FixedText.f
 repeat' first
   | (with_reducible exact ih0 _ _ _ _ _ _ _)
   | (with_reducible exact impl_ValidFixed.mono _ _ _ _)
   | (with_reducible exact impl_signs.mono _ _)
   | (with_reducible exact LeO.refl _)
   | (with_reducible exact LeO.none _)
   | (with_reducible refine LeO.ite ?_ ?_)
   | (with_reducible refine LeO.bind ?_ (fun _ => ?_))
   | exact ih0 _ _ _ _ _ _ _
   | exact impl_ValidFixed.mono _ _ _ _
   | exact impl_signs.mono _ _
   | exact LeO.none _
   | refine LeO.ite ?_ ?_
   | refine LeO.bind ?_ (fun _ => ?_)
set_option maxHeartbeats 8000000 in
set_option maxRecDepth 100000 in
theorem impl_FixedText.calls (k : Nat) (a0_0 : Int) (a0_1 : Int) (A0_2 : Option Addr) (c0_2 : Nat) (l0_2 : List (S43)) (r : ByteArray) (w : World) (hr0_2 : Kd.C k43 w A0_2 l0_2.length l0_2) (hc0_2 : l0_2.length ≤ c0_2) (h : impl_FixedText.f k a0_0 a0_1 l0_2 = some r) :
  Calls Try.prog 7 #[.agg #[.int .i8 a0_0, .int .i8 a0_1, .slice A0_2 l0_2.length c0_2]] w fun e w' => e = .returned (.string r) ∧ Below w.heap.size w w' := by
 have hu30 := Try.underlying30
 have hu43 := Try.underlying43
 have HR0_2 := Aside0.mk hr0_2
 have HC0_2 := Aside0.mk hc0_2
 clear hr0_2 hc0_2
 have HB := A_ (Below.refl w.heap.size w)
 have H : ((impl_ValidFixed.f k a0_0 a0_1 l0_2).bind fun t176 => (if t176 = true then ((impl_kindWords.f).bind fun t177 => (if 0 ≤ a0_1 then (if a0_1 < (t177.length : Int) then (impl_FixedText.l0 k (([rdOf ByteArray.empty t177 a0_1] : List ByteArray)) l0_2 (l0_2.length : Int) 0 a0_0 a0_1 l0_2) else (none)) else (none))) else (some (⟨#[]⟩ : ByteArray)))) = some r := h
 clear h
 replace H := Option.bind_eq_some_iff.mp H
 obtain ⟨t176, A20, H⟩ := H
 replace H : (if t176 = true then ((impl_kindWords.f).bind fun t177 => (if 0 ≤ a0_1 then (if a0_1 < (t177.length : Int) then (impl_FixedText.l0 k (([rdOf ByteArray.empty t177 a0_1] : List ByteArray)) l0_2 (l0_2.length : Int) 0 a0_0 a0_1 l0_2) else (none)) else (none))) else (some (⟨#[]⟩ : ByteArray))) = some r := H
 have A2 := Aside0.mk A20
 clear A20
 by_cases c3 : t176 = true
 ·subst c3
  have H1 : ((impl_kindWords.f).bind fun t177 => (if 0 ≤ a0_1 then (if a0_1 < (t177.length : Int) then (impl_FixedText.l0 k (([rdOf ByteArray.empty t177 a0_1] : List ByteArray)) l0_2 (l0_2.length : Int) 0 a0_0 a0_1 l0_2) else (none)) else (none))) = some r := by rw [if_pos rfl] at H; exact H
  clear H
  have H := H1
  clear H1
  replace H := Option.bind_eq_some_iff.mp H
  obtain ⟨t177, A40, H⟩ := H
  replace H : (if 0 ≤ a0_1 then (if a0_1 < (t177.length : Int) then (impl_FixedText.l0 k (([rdOf ByteArray.empty t177 a0_1] : List ByteArray)) l0_2 (l0_2.length : Int) 0 a0_0 a0_1 l0_2) else (none)) else (none)) = some r := H
  have A4 := Aside0.mk A40
  clear A40
  by_cases c5 : 0 ≤ a0_1
  ·rw [if_pos c5] at H
   have c5b0 : decide (0 ≤ a0_1) = true := decide_eq_true c5
   clear c5
   by_cases c6 : a0_1 < (t177.length : Int)
   ·rw [if_pos c6] at H
    have c6b0 : decide (a0_1 < (t177.length : Int)) = true := decide_eq_true c6
    clear c6
    obtain ⟨y181, hy181⟩ : ∃ y_ : List ByteArray, y_ = (([rdOf ByteArray.empty t177 a0_1] : List ByteArray)) := ⟨_, rfl⟩
    replace H : (impl_FixedText.l0 k y181 l0_2 (l0_2.length : Int) 0 a0_0 a0_1 l0_2) = some r := by first | (rw [hy181]; with_reducible exact H) | (have H2_ := (Option.bind_some _ _).symm.trans H; rw [hy181]; with_reducible exact H2_) | (have H2_ := (Option.bind_some _ _).symm.trans H; with_reducible exact H2_) | with_reducible exact H | (rw [hy181]; exact H) | exact H
    have Ny181 := Aside0.mk hy181
    clear hy181
    have H' := Aside0.mk H
    clear H
    go_enter Try.func7, Try.ntmps7
    try go_wp2_with (first | ((with_reducible refine gate_dst (N := 1) rfl ?_); refine box_event ?hg (N := 1) ?hd (cs := #[.int .i8 a0_0, .int .i8 a0_1, .slice A0_2 l0_2.length c0_2]) (t := 30) ?hr ?_; (case hd => rfl); (case hg => rfl); (case hr => first | (go_simp; done) | (go_simp; rfl)); intro gb175 hg w7 hbox hb; have n0_ := A_ (below_step (bl_ HB) hb); have n1_ := A_ (hbox); have n2_ := A_ ((by rw [hg]; exact (below_size (bl_ HB)) : w.heap.size ≤ gb175)); have n3_ := n2_; clear HB; have HB := n0_; have BK175 := n1_; have GW175 := n2_; have GE175 := n3_; clear n0_ n1_ n2_ n3_; clear hb hbox hg; obtain ⟨hcz8_0, hcz8_1, hcz8_2, hfz8_0, hfz8_1, hfz8_2⟩ := cl3_ BK175) | ((with_reducible refine gate_callee (f := 13) rfl ?_); refine goesL_ (some 9) rfl rfl Try.func13 (by kernel_rfl) rfl #[.agg #[.int .i8 a0_0, .int .i8 a0_1, .slice A0_2 l0_2.length c0_2]] rfl arg_ ?_; (with_reducible refine (impl_ValidFixed.calls k a0_0 a0_1 _ _ l0_2 true _ ?side1 ?side2 A2.out).mono ?_); (case side1 => exact Kd.C_below HR0_2.out (bl_ HB)); (case side2 => exact HC0_2.out); rintro e w9 ⟨rfl, hb⟩; refine ⟨_, rfl, ?_⟩; have n0_ := A_ (blk_below (pl_ BK175) hb); have n1_ := A_ (below_step (bl_ HB) hb); clear BK175; clear HB; have BK175 := n0_; have HB := n1_; clear n0_ n1_; (try clear hb); (try clear hb2); (try clear hk); (try clear hi)))
    have n0_ := A_ (blk_drew BK175.out)
    have n1_ := A_ (below_drew1 HB.out)
    clear BK175
    clear HB
    have BK175 := n0_
    have HB := n1_
    clear n0_ n1_
    refine start_ (n := 7) (S := fun w' => w'.cell? ⟨gb175, 0, none⟩ = some (.int .i8 a0_0) ∧ w'.cell? ⟨gb175, 1, none⟩ = some (.int .i8 a0_1) ∧ w'.cell? ⟨gb175, 2, none⟩ = some (.slice A0_2 l0_2.length c0_2)) (ds := []) #[false, false, false, false, false, false, false] (by kernel_rfl) rfl rfl ⟨(blk_cell BK175.out 0).trans rfl, (blk_cell BK175.out 1).trans rfl, (blk_cell BK175.out 2).trans rfl⟩ (fun hHeld => ?_)
    generalize w9.drew = w10 at BK175 HB hHeld ⊢
    refine pure_ (i := 1) (N := some 12) (v := ?_) (a' := ?_) #[false, true, false, false, false, false, false] rfl rfl (by kernel_rfl) (fun _ _ _ h => h) (Or.inl ⟨by rfl, ?_⟩) ?_ ?_
    rotate_left
    ·intro w'
     go_simp
     with_reducible rfl
    rotate_left
    ·simp only [Act.put, sp_]
     rfl
    refine take_ (i := 2) (N := some 13) (v := ?_) (a' := ?_) #[false, true, true, false, false, false, false] rfl rfl (by kernel_rfl) (fun _ _ _ h => h) (Or.inl ⟨by rfl, ?_⟩) hHeld ?_ ?_
    rotate_left
    ·rintro w' ⟨s0, s1, s2⟩
     go_simp
     with_reducible rfl
    rotate_left
    ·simp only [Act.put, sp_]
     rfl
    refine one_ (i := 0) (N := some 11) #[true, true, true, false, false, false, false] rfl rfl (by kernel_rfl) (by decide) (fun K hK => ?_)
    refine goes_ Try.func14 (by kernel_rfl) rfl #[] (by rfl) rfl rfl arg_ ?_
    with_reducible refine (impl_kindWords.calls  t177 _ A4.out).mono ?_
    rintro e w11 ⟨v178, rfl, ho0, hb⟩
    skip
    refine ⟨_, rfl, ?_⟩
    have n0_ := A_ (Kd.R_lower ho0 (below_size (bl_ HB)))
    have n1_ := A_ (blk_below (pl_ BK175) hb)
    have n2_ := A_ (below_step (bl_ HB) hb)
    clear BK175
    clear HB
    have HO179 := n0_
    have BK175 := n1_
    have HB := n2_
    clear n0_ n1_ n2_
    (try clear hb)
    (try clear hb2)
    (try clear hk)
    (try clear hi)
    (try clear ho0)
    obtain ⟨Ao12, co12, eo12⟩ := Kd.R_slice HO179.out
    (first | subst eo12 | (injection eo12 with f1_ f2_ f3_; have f4_ := f1_.symm; have f5_ := f3_.symm; clear f1_ f2_ f3_; subst f4_; subst f5_))
    have p180 : 0 ≤ (a0_1 : Int) := asm_
    have q180 : a0_1 < (t177.length : Int) := asm_
    obtain ⟨ad180, e180, hx180_0⟩ := Kd.at_string (Kd.R_reads' HO179.out).2.2 a0_1 p180 q180
    cases e180
    replace p180 := eq_true p180
    replace q180 := eq_true q180
    refine hK.out _ _ ⟨(blk_cell BK175.out 0).trans rfl, (blk_cell BK175.out 1).trans rfl, (blk_cell BK175.out 2).trans rfl⟩ (fun hHeld => ?_)
    refine last_more (S := fun w' => w'.cell? ⟨gb175, 0, none⟩ = some (.int .i8 a0_0) ∧ w'.cell? ⟨gb175, 1, none⟩ = some (.int .i8 a0_1) ∧ w'.cell? ⟨gb175, 2, none⟩ = some (.slice A0_2 l0_2.length c0_2)) (S' := fun w' => w'.cell? ⟨gb175, 0, none⟩ = some (.int .i8 a0_0) ∧ w'.cell? ⟨gb175, 1, none⟩ = some (.int .i8 a0_1) ∧ w'.cell? ⟨gb175, 2, none⟩ = some (.slice A0_2 l0_2.length c0_2) ∧ w'.cell? (ad180.add (a0_1).toNat) = some (.string (rdOf ByteArray.empty t177 a0_1))) (fun _ h => ⟨h.1, h.2.1, h.2.2.1⟩) ⟨hHeld.1, hHeld.2.1, hHeld.2.2, hx180_0⟩ ?_
    have hHeld := And.intro hHeld.1 (And.intro hHeld.2.1 (And.intro hHeld.2.2 hx180_0))
    clear hK K
    refine norm_ (a' := ?_) ?_ ?_
    rotate_left
    ·show Act.put _ (some 11) _ = _
     simp only [Act.put, sp_]
     rfl
    refine pure_ (i := 3) (N := some 14) (v := ?_) (a' := ?_) #[true, true, true, true, false, false, false] rfl rfl (by kernel_rfl) (fun _ _ _ h => h) (Or.inl ⟨by rfl, ?_⟩) ?_ ?_
    rotate_left
    ·intro w'
     go_simp
     with_reducible rfl
    rotate_left
    ·simp only [Act.put, sp_]
     rfl
    refine take_ (i := 4) (N := some 15) (v := ?_) (a' := ?_) #[true, true, true, true, true, false, false] rfl rfl (by kernel_rfl) (fun _ _ _ h => h) (Or.inl ⟨by rfl, ?_⟩) hHeld ?_ ?_
    rotate_left
    ·rintro w' ⟨s0, s1, s2, s3⟩
     go_simp
     with_reducible rfl
    rotate_left
    ·simp only [Act.put, sp_]
     rfl
    refine one_ (i := 5) (N := some 16) #[true, true, true, true, true, true, false] rfl rfl (by kernel_rfl) (by decide) (fun K hK => ?_)
    refine Kd.R_lit_step Kd.string _ 9 ?hg (N := 16) ?hd (xs := ([rdOf ByteArray.empty t177 a0_1] : List ByteArray)) (inner := [.string (rdOf ByteArray.empty t177 a0_1)]) (ok := fun _ => True) (okp := fun _ => True) ?hr ?hp (fun _ hk => hk) trivial (Below.refl _ _) (Nat.le_refl _) (by simp) ?_; (case hd => rfl); (case hg => rfl); (case hr => first | (go_simp; done) | (go_simp; rfl)); (case hp => exact (Reps.one (show Kd.M Kd.string _ _ _ (rdOf ByteArray.empty t177 a0_1) [.string (rdOf ByteArray.empty t177 a0_1)] from rfl) (Reps.none _ _)))
    intro v182 w13 ho14 hb hg_ hnew_
    have HS3_ := (hb.cell (World.block_lt_of_cell? _ _ (hHeld.2.2.2))).trans (hHeld.2.2.2)
    clear hg_ hnew_
    (first | rw [← Ny181.out] at ho14 | (simp only [Int.reduceToNat] at ho14; rw [← Ny181.out] at ho14))
    have n0_ := A_ (Kd.R_elder' (pr_ HO179) (Kd.R_base ho14) hb)
    have n1_ := A_ (Kd.R_lower (Kd.R_new' ho14 (Kd.R_lt (pr_ HO179))) (below_size (bl_ HB)))
    have n2_ := A_ (blk_below (pl_ BK175) hb)
    have n3_ := A_ (below_step (bl_ HB) hb)
    clear HO179
    clear BK175
    clear HB
    have HO179 := n0_
    have HO183 := n1_
    have BK175 := n2_
    have HB := n3_
    clear n0_ n1_ n2_ n3_
    clear hb ho14
    refine hK.out _ _ ⟨(blk_cell BK175.out 0).trans rfl, (blk_cell BK175.out 1).trans rfl, (blk_cell BK175.out 2).trans rfl, HS3_⟩ (fun hHeld => ?_)
    clear hK K
    refine norm_ (a' := ?_) ?_ ?_
    rotate_left
    ·show Act.put _ (some 16) _ = _
     simp only [Act.put, sp_]
     rfl
    refine pure_ (i := 6) (N := some 3) (v := ?_) (a' := ?_) #[true, true, true, true, true, true, true] rfl rfl (by kernel_rfl) (fun _ _ _ h => h) (Or.inl ⟨by rfl, ?_⟩) ?_ ?_
    rotate_left
    ·intro w'
     go_simp
     with_reducible rfl
    rotate_left
    ·simp only [Act.put, sp_]
     rfl
    refine done_ (by kernel_rfl) ?_
    obtain ⟨hcz15_0, hcz15_1, hcz15_2, hfz15_0, hfz15_1, hfz15_2⟩ := cl3_ BK175
    try go_wp2
    go_loopg [3, 20] k (fun kq v3 v20 w' => ∃ (x3_1 : List ByteArray) (x20_1 : Int), v20 = .int .i64 x20_1 ∧ Aside0 (impl_FixedText.l0 kq x3_1 l0_2 (l0_2.length : Int) x20_1 a0_0 a0_1 l0_2 = some r) ∧ Aside0 (kq ≤ k) ∧ Aside0 (Kd.R Kd.string 9 w' w.heap.size (fun _ => True) v3 x3_1) ∧ Aside0 (w'.heap[gb175]? = some (.cells #[.int .i8 a0_0, .int .i8 a0_1, (.slice A0_2 l0_2.length c0_2)] 30 (0, 0))) ∧ Aside0 (Below w.heap.size w w'))
    case atStart => exact ⟨(y181), (0), rs_, H', ⟨Nat.le_refl _⟩, ⟨by (with_reducible repeat (first | apply Kd.R_alloc | apply Kd.R_drewN | apply Kd.R_drew)); exact Kd.R_mono HO183.out (fun _ hk => trivial)⟩, ⟨pl_ BK175⟩, ⟨bl_ HB⟩⟩
    case round =>
     clear H'
     try clear c1
     try clear p1
     try clear q1
     try clear hx1
     try clear p2
     try clear c3
     try clear c5
     try clear c5b0
     try clear c6
     try clear c6b0
     try clear c7
     try clear c13
     try clear c14
     try clear hcz15_0
     try clear hcz15_1
     try clear hcz15_2
     try clear hcz8_0
     try clear hcz8_1
     try clear hcz8_2
     try clear hfz15_0
     try clear hfz15_1
     try clear hfz15_2
     try clear hfz8_0
     try clear hfz8_1
     try clear hfz8_2
     try clear hx180_0
     try clear p180
     try clear q180
     obtain ⟨x3_1, x20_1, rfl, HA, HK1, HO_3, BK175, HB⟩ := hrel
     cases gk with
     | zero => exact absurd HA.out (by simp [impl_FixedText.l0])
     | succ k1 =>
      have H := HA.out
      clear HA
      simp only [impl_FixedText.l0] at H
      by_cases c16 : x20_1 < (l0_2.length : Int)
      ·rw [if_pos c16] at H
       have c16b0 : decide (x20_1 < (l0_2.length : Int)) = true := decide_eq_true c16
       clear c16
       by_cases c17 : 0 ≤ x20_1
       ·rw [if_pos c17] at H
        have c17b0 : decide (0 ≤ x20_1) = true := decide_eq_true c17
        clear c17
        by_cases c18 : x20_1 < (l0_2.length : Int)
        ·rw [if_pos c18] at H
         have c18b0 : decide (x20_1 < (l0_2.length : Int)) = true := decide_eq_true c18
         clear c18
         by_cases c19 : 0 ≤ a0_0
         ·rw [if_pos c19] at H
          have c19b0 := eq_true c19
          have c19b1 : decide (0 ≤ a0_0) = true := decide_eq_true c19
          clear c19
          by_cases c20 : a0_0 ≤ 4
          ·rw [if_pos c20] at H
           have c20b0 := eq_true c20
           have c20b1 : decide (a0_0 ≤ 4) = true := decide_eq_true c20
           clear c20
           obtain ⟨y186, hy186⟩ : ∃ y_ : List Int, y_ = ([(rd_T43 l0_2 x20_1).f0, (rd_T43 l0_2 x20_1).f1, (rd_T43 l0_2 x20_1).f2, (rd_T43 l0_2 x20_1).f3].take (a0_0 : Int).toNat) := ⟨_, rfl⟩
           replace H : ((impl_signs.f k1 y186).bind fun bt190 => (if x3_1.length < 8796093022208 then (impl_FixedText.l0 k1 (x3_1 ++ [bt190.1]) l0_2 (l0_2.length : Int) (wrap64 (x20_1 + 1)) a0_0 a0_1 l0_2) else (none))) = some r := by first | (rw [hy186]; with_reducible exact H) | (have H2_ := (Option.bind_some _ _).symm.trans H; rw [hy186]; with_reducible exact H2_) | (have H2_ := (Option.bind_some _ _).symm.trans H; with_reducible exact H2_) | with_reducible exact H | (rw [hy186]; exact H) | exact H
           have Ny186 := Aside0.mk hy186
           clear hy186
           replace H := Option.bind_eq_some_iff.mp H
           obtain ⟨⟨t190, t191⟩, A210, H⟩ := H
           replace H : (if x3_1.length < 8796093022208 then (impl_FixedText.l0 k1 (x3_1 ++ [t190]) l0_2 (l0_2.length : Int) (wrap64 (x20_1 + 1)) a0_0 a0_1 l0_2) else (none)) = some r := H
           have A21 := Aside0.mk A210
           clear A210
           by_cases c22 : x3_1.length < 8796093022208
           ·rw [if_pos c22] at H
            have LMc22 := Aside0.mk c22
            clear c22
            obtain ⟨y192, hy192⟩ : ∃ y_ : List ByteArray, y_ = (x3_1 ++ [t190]) := ⟨_, rfl⟩
            replace H : (impl_FixedText.l0 k1 y192 l0_2 (l0_2.length : Int) (wrap64 (x20_1 + 1)) a0_0 a0_1 l0_2) = some r := by first | (rw [hy192]; with_reducible exact H) | (have H2_ := (Option.bind_some _ _).symm.trans H; rw [hy192]; with_reducible exact H2_) | (have H2_ := (Option.bind_some _ _).symm.trans H; with_reducible exact H2_) | with_reducible exact H | (rw [hy192]; exact H) | exact H
            have Ny192 := Aside0.mk hy192
            clear hy192
            have H' := Aside0.mk H
            clear H
            have p184 : 0 ≤ (x20_1 : Int) := asm_
            have q184 : x20_1 < (l0_2.length : Int) := asm_
            obtain ⟨ad184, e184, hx184_0, hx184_1, hx184_2, hx184_3⟩ := at_T43 HR0_2.out x20_1 p184 q184
            cases e184
            (try replace hx184_0 := (HB.out.cell (World.block_lt_of_cell? w _ hx184_0)).trans hx184_0)
            (try replace hx184_1 := (HB.out.cell (World.block_lt_of_cell? w _ hx184_1)).trans hx184_1)
            (try replace hx184_2 := (HB.out.cell (World.block_lt_of_cell? w _ hx184_2)).trans hx184_2)
            (try replace hx184_3 := (HB.out.cell (World.block_lt_of_cell? w _ hx184_3)).trans hx184_3)
            replace p184 := eq_true p184
            replace q184 := eq_true q184
            go_wp2_with (first | ((with_reducible refine gate_dst (N := 5) rfl ?_); refine box_event ?hg (N := 5) ?hd (cs := #[.int .i8 0, .int .i8 0, .int .i8 0, .int .i8 0]) (t := 43) ?hr ?_; (case hd => rfl); (case hg => rfl); (case hr => first | (go_simp; done) | (go_simp; rfl)); intro gb185 hg w23 hbox hb; have n0_ := A_ (Kd.R_below (pr_ HO_3) hb); have n1_ := A_ (blk_below (pl_ BK175) hb); have n2_ := A_ (below_step (bl_ HB) hb); have n3_ := A_ (hbox); have n4_ := A_ ((by rw [hg]; exact (below_size (bl_ HB)) : w.heap.size ≤ gb185)); have n5_ := n4_; have n6_ := A_ ((by rw [hg]; exact Nat.ne_of_lt (blk_lt (pl_ BK175)) : gb175 ≠ gb185)); have n7_ := Aside0.mk n6_.out.symm; clear HO_3; clear BK175; clear HB; have HO_3 := n0_; have BK175 := n1_; have HB := n2_; have BK185 := n3_; have GW185 := n4_; have GE185 := n5_; have NB175_185 := n6_; have NB185_175 := n7_; clear n0_ n1_ n2_ n3_ n4_ n5_ n6_ n7_; clear hb hbox hg; have hnb24 := NB185_175.out; have hnc24 := NB175_185.out; obtain ⟨hcz25_0, hcz25_1, hcz25_2, hcz25_3, hfz25_0, hfz25_1, hfz25_2, hfz25_3⟩ := cl4_ BK185) | ((with_reducible refine gate_store (t := 43) (p := 5) rfl ?_); refine store_event (t := 43) (p := 5) (v := ?vo_w26) (w1 := ((((w23.setCell ⟨gb185, 0, none⟩ (.int .i8 ((rd_T43 l0_2 x20_1).f0))).setCell ⟨gb185, 1, none⟩ (.int .i8 ((rd_T43 l0_2 x20_1).f1))).setCell ⟨gb185, 2, none⟩ (.int .i8 ((rd_T43 l0_2 x20_1).f2))).setCell ⟨gb185, 3, none⟩ (.int .i8 ((rd_T43 l0_2 x20_1).f3)))) ?hg ?ho ?hn ?hr ?_; (case ho => rfl); (case hg => rfl); (case hn => rfl); (case hr => first | (go_simp; done) | (go_simp; rfl)); intro w26 hw; have n0_ : Aside0 (Kd.R Kd.string 9 w26 w.heap.size (fun _ => True) u3 x3_1) := ⟨(by rw [hw]; exact (by (with_reducible repeat (first | apply Kd.R_alloc | apply Kd.R_drewN | apply Kd.R_drew)); exact Kd.R_mono (Kd.R_far (p := ⟨gb185, 3, none⟩) (Kd.R_far (p := ⟨gb185, 2, none⟩) (Kd.R_far (p := ⟨gb185, 1, none⟩) (Kd.R_far (p := ⟨gb185, 0, none⟩) (Kd.R_types HO_3.out BK185.out (by decide)) (fun _ hk => hk.2) (.int .i8 ((rd_T43 l0_2 x20_1).f0))) (fun _ hk => hk.2) (.int .i8 ((rd_T43 l0_2 x20_1).f1))) (fun _ hk => hk.2) (.int .i8 ((rd_T43 l0_2 x20_1).f2))) (fun _ hk => hk.2) (.int .i8 ((rd_T43 l0_2 x20_1).f3))) (fun _ hk => trivial)))⟩; have n1_ : Aside0 (w26.heap[gb175]? = some (.cells #[.int .i8 a0_0, .int .i8 a0_1, .slice (some ad184) l0_2.length c0_2] 30 (0, 0))) := ⟨(by rw [hw]; exact (pf_ BK175 NB175_185))⟩; have n2_ : Aside0 (w26.heap[gb185]? = some (.cells #[.int .i8 ((rd_T43 l0_2 x20_1).f0), .int .i8 ((rd_T43 l0_2 x20_1).f1), .int .i8 ((rd_T43 l0_2 x20_1).f2), .int .i8 ((rd_T43 l0_2 x20_1).f3)] 43 (0, 0))) := ⟨(by rw [hw]; exact (by (with_reducible repeat (first | refine blk_drewN ?_ _ | refine blk_drew ?_ | refine blk_alloc ?_ _)); refine blk_put (cs := #[.int .i8 ((rd_T43 l0_2 x20_1).f0), .int .i8 ((rd_T43 l0_2 x20_1).f1), .int .i8 ((rd_T43 l0_2 x20_1).f2), .int .i8 0]) ?_ 3 _ rfl; (with_reducible repeat (first | refine blk_drewN ?_ _ | refine blk_drew ?_ | refine blk_alloc ?_ _)); refine blk_put (cs := #[.int .i8 ((rd_T43 l0_2 x20_1).f0), .int .i8 ((rd_T43 l0_2 x20_1).f1), .int .i8 0, .int .i8 0]) ?_ 2 _ rfl; (with_reducible repeat (first | refine blk_drewN ?_ _ | refine blk_drew ?_ | refine blk_alloc ?_ _)); refine blk_put (cs := #[.int .i8 ((rd_T43 l0_2 x20_1).f0), .int .i8 0, .int .i8 0, .int .i8 0]) ?_ 1 _ rfl; (with_reducible repeat (first | refine blk_drewN ?_ _ | refine blk_drew ?_ | refine blk_alloc ?_ _)); refine blk_put (cs := #[.int .i8 0, .int .i8 0, .int .i8 0, .int .i8 0]) ?_ 0 _ rfl; (with_reducible repeat (first | refine blk_drewN ?_ _ | refine blk_drew ?_ | refine blk_alloc ?_ _)); exact BK185.out))⟩; have n3_ : Aside0 (Below w.heap.size w w26) := ⟨(by rw [hw]; exact (bs_ HB GE185))⟩; clear hw; clear HO_3; clear BK175; clear BK185; clear HB; have HO_3 := n0_; have BK175 := n1_; have BK185 := n2_; have HB := n3_; clear n0_ n1_ n2_ n3_; obtain ⟨hcz27_0, hcz27_1, hcz27_2, hfz27_0, hfz27_1, hfz27_2⟩ := cl3_ BK175; have p28 : (0 : Int) ≤ (a0_0 : Int) := asm_; have q28 : (a0_0 : Int) ≤ 4 := asm_; have hcut28 := arr_cut (P := Try.prog) (t := 43) (e := 22) Try.underlying43 (by kernel_rfl) ⟨gb185, 0, none⟩ .i8 (a0_0 : Int) p28 q28; have hr28 := arr_C (k := .i8) (l := [(rd_T43 l0_2 x20_1).f0, (rd_T43 l0_2 x20_1).f1, (rd_T43 l0_2 x20_1).f2, (rd_T43 l0_2 x20_1).f3]) (o := 0) BK185.out rfl (by simp) (a0_0 : Int).toNat (by simp; omega); have hy28 : y186.length = (a0_0 : Int).toNat := (by rw [Ny186.out]; simp; omega); rw [← Ny186.out] at hr28; rw [← hy28] at hcut28; have HR189 := Aside0.mk hr28; have HC189 := A_ (show y186.length ≤ 4 from by omega); clear hr28 hy28; replace p28 := eq_true p28; replace q28 := eq_true q28) | ((with_reducible refine gate_callee (f := 15) rfl ?_); refine goesL_ (some 28) rfl rfl Try.func15 (by kernel_rfl) rfl #[.slice (some ⟨gb185, 0, none⟩) y186.length 4] rfl arg_ ?_; (with_reducible refine (impl_signs.calls k1 _ _ y186 t190 t191 _ ?side1 ?side2 A21.out).mono ?_); (case side1 => repeat (first | exact (by repeat (first | (with_reducible exact HR189.out) | (with_reducible refine Kd.C_alloc ?_ _) | (with_reducible refine Kd.C_drewN ?_ _) | (with_reducible refine Kd.C_drew ?_) | exact HR189.out)) | (with_reducible refine Kd.C_alloc ?_ _) | (with_reducible refine Kd.C_drewN ?_ _) | (with_reducible refine Kd.C_drew ?_))); (case side2 => exact HC189.out); rintro e w29 ⟨rfl, hb⟩; refine ⟨_, rfl, ?_⟩; have n0_ := A_ (Kd.R_below (pr_ HO_3) hb); have n1_ := A_ (blk_below (pl_ BK175) hb); have n2_ := A_ (blk_below (pl_ BK185) hb); have n3_ := A_ (Kd.C_below (by repeat (first | (with_reducible exact HR189.out) | (with_reducible refine Kd.C_alloc ?_ _) | (with_reducible refine Kd.C_drewN ?_ _) | (with_reducible refine Kd.C_drew ?_) | exact HR189.out)) hb); have n4_ := A_ (below_step (bl_ HB) hb); clear HO_3; clear BK175; clear BK185; clear HR189; clear HB; have HO_3 := n0_; have BK175 := n1_; have BK185 := n2_; have HR189 := n3_; have HB := n4_; clear n0_ n1_ n2_ n3_ n4_; (try clear hb); (try clear hb2); (try clear hk); (try clear hi)) | ((with_reducible refine gate_builtin (b := .append) (xs := #[.tmp 31, .tmp 33]) rfl ?_); at_builtin; refine Kd.R_append Kd.string (w0 := w) w.heap.size rfl (.tmp 31) (.tmp 33) 40 9 (.string ⟨#[]⟩) 16 rfl Try.underlying40 info9 rfl (by decide) (by omega) u3 x3_1 t190 [.string t190] (fun _ => True) (fun _ => False) rfl rfl ?aP (fun _ hk => hk.elim) ?aF ?aO ?aB ?aS ?aL ?_; (case aP => exact rfl); (case aB => exact (bl_ HB)); (case aF => exact (fun _ _ => trivial)); (case aO => exact (pr_ HO_3)); (case aS => exact (below_size (bl_ HB))); (case aL => have := LMc22.out; omega); intro v193 w30 ho hb hg hat; rw [← Ny192.out] at ho; have n0_ := A_ (blk_grown (pl_ BK175) hg (Kd.R_ne HO_3.out BK175.out (by decide))); have n1_ := A_ (blk_grown (pl_ BK185) hg (Kd.R_ne HO_3.out BK185.out (by decide))); have n2_ := A_ (hb); have n3_ := A_ (ho); clear BK175; clear BK185; clear HB; clear HO_3; have BK175 := n0_; have BK185 := n1_; have HB := n2_; have HO194 := n3_; clear n0_ n1_ n2_ n3_; clear ho hb hg hat))
            go_roundg k1
            case measure => have := HK1.out; omega
            case rel => exact ⟨(y192), (wrap64 (x20_1 + 1)), rs_, H', ⟨by have := HK1.out; omega⟩, ⟨pr_ HO194⟩, ⟨pl_ BK175⟩, ⟨bl_ HB⟩⟩
           ·rw [if_neg c22] at H
            exact absurd H (by simp)
          ·rw [if_neg c20] at H
           exact absurd H (by simp)
         ·rw [if_neg c19] at H
          exact absurd H (by simp)
        ·rw [if_neg c18] at H
         exact absurd H (by simp)
       ·rw [if_neg c17] at H
        exact absurd H (by simp)
      ·rw [if_neg c16] at H
       have c16b0 : decide (x20_1 < (l0_2.length : Int)) = false := decide_eq_false c16
       clear c16
       replace H := Option.bind_eq_some_iff.mp H
       obtain ⟨t195, A310, H⟩ := H
       replace H : (some t195) = some r := H
       have A31 := Aside0.mk A310
       clear A310
       obtain rfl := Option.some.inj H
       obtain ⟨Ao32, co32, eo32⟩ := Kd.R_slice HO_3.out
       subst eo32
       go_wp2_with (first | ((with_reducible refine gate_callee (f := 16) rfl ?_); refine goesL_ (some 37) rfl rfl Try.func16 (by kernel_rfl) rfl #[.slice Ao32 x3_1.length co32, .string (⟨#[32]⟩ : ByteArray)] rfl arg_ ?_; (with_reducible refine (strings_Join.calls _ _ x3_1 (⟨#[32]⟩ : ByteArray) t195 _ ?side1 ?side2 A31.out).mono ?_); (case side1 => repeat (first | exact (Kd.R_reads' HO_3.out).2.2 | (with_reducible refine Kd.C_alloc ?_ _) | (with_reducible refine Kd.C_drewN ?_ _) | (with_reducible refine Kd.C_drew ?_))); (case side2 => exact (Kd.R_reads' HO_3.out).2.1); rintro e w33 ⟨rfl, hb⟩; refine ⟨_, rfl, ?_⟩; have n0_ := A_ (Kd.R_below (pr_ HO_3) hb); have n1_ := A_ (blk_below (pl_ BK175) hb); have n2_ := A_ (below_step (bl_ HB) hb); clear HO_3; clear BK175; clear HB; have HO_3 := n0_; have BK175 := n1_; have HB := n2_; clear n0_ n1_ n2_; (try clear hb); (try clear hb2); (try clear hk); (try clear hi)))
       go_ret
       exact ⟨by first | rfl | (simp [errW_none, errW_some] <;> rfl) | (simp [*, errW_none, errW_some] <;> rfl), bl_ HB⟩
   ·rw [if_neg c6] at H
    exact absurd H (by simp)
  ·rw [if_neg c5] at H
   exact absurd H (by simp)
 ·replace c3 := Bool.eq_false_iff.mpr c3
  subst c3
  have H1 : (some (⟨#[]⟩ : ByteArray)) = some r := by rw [if_neg (show ¬ (false = true) by decide)] at H; exact H
  clear H
  have H := H1
  clear H1
  obtain rfl := Option.some.inj H
  go_enter Try.func7, Try.ntmps7
  go_wp2_with (first | ((with_reducible refine gate_dst (N := 1) rfl ?_); refine box_event ?hg (N := 1) ?hd (cs := #[.int .i8 a0_0, .int .i8 a0_1, .slice A0_2 l0_2.length c0_2]) (t := 30) ?hr ?_; (case hd => rfl); (case hg => rfl); (case hr => first | (go_simp; done) | (go_simp; rfl)); intro gb175 hg w34 hbox hb; have n0_ := A_ (below_step (bl_ HB) hb); have n1_ := A_ (hbox); have n2_ := A_ ((by rw [hg]; exact (below_size (bl_ HB)) : w.heap.size ≤ gb175)); have n3_ := n2_; clear HB; have HB := n0_; have BK175 := n1_; have GW175 := n2_; have GE175 := n3_; clear n0_ n1_ n2_ n3_; clear hb hbox hg; obtain ⟨hcz35_0, hcz35_1, hcz35_2, hfz35_0, hfz35_1, hfz35_2⟩ := cl3_ BK175) | ((with_reducible refine gate_callee (f := 13) rfl ?_); refine goesL_ (some 9) rfl rfl Try.func13 (by kernel_rfl) rfl #[.agg #[.int .i8 a0_0, .int .i8 a0_1, .slice A0_2 l0_2.length c0_2]] rfl arg_ ?_; (with_reducible refine (impl_ValidFixed.calls k a0_0 a0_1 _ _ l0_2 false _ ?side1 ?side2 A2.out).mono ?_); (case side1 => exact Kd.C_below HR0_2.out (bl_ HB)); (case side2 => exact HC0_2.out); rintro e w36 ⟨rfl, hb⟩; refine ⟨_, rfl, ?_⟩; have n0_ := A_ (blk_below (pl_ BK175) hb); have n1_ := A_ (below_step (bl_ HB) hb); clear BK175; clear HB; have BK175 := n0_; have HB := n1_; clear n0_ n1_; (try clear hb); (try clear hb2); (try clear hk); (try clear hi)))
  go_ret
  exact ⟨by first | rfl | (simp [errW_none, errW_some] <;> rfl) | (simp [*, errW_none, errW_some] <;> rfl), bl_ HB⟩

end Go.Proofs.Ytmekcockddoaiaa.M
