/- spec.l03Run and impl.follow, told by hand. -/
import Derived.Test.YtcghglembmohcaaHNode
import Derived.Test.YtcghglembmohcaaBx17
import Derived.Test.YtcghglembmohcaaBx23
namespace Go.Proofs.Ytcghglembmohcaa.M
open Go.RowKit Go.Proofs.YtcghglembmohcaaW.PrintWords Go.Proofs.YtcghglembmohcaaW.PrintLast Go.Proofs.YtcghglembmohcaaW.PrintMore
set_option linter.unusedVariables false
set_option linter.unusedSimpArgs false

theorem part_at {w : World} {A : Option Addr} {n : Nat} {xs : List S58} (h : Kd.C k58 w A n xs) (i : Int) (h0 : 0 ≤ i) (h1 : i < n) {ad : Addr} (hA : A = some ad) :
    ∀ q u, (cs58 (rd_T58 xs i))[q]? = some u → w.cell? (ad.add (i.toNat * 20 + q)) = some u := by
  obtain ⟨ad', c, e, _, hK, hc⟩ := Kd.C_get h z58 i h0 h1
  rw [hA] at e
  obtain rfl := Option.some.inj e
  obtain rfl : c = cs58 (rd_T58 xs i) := k58_open hK
  exact hc
theorem field_at {w : World} {A : Option Addr} {n : Nat} {xs : List S58} (h : Kd.C k58 w A n xs) (i : Int) (h0 : 0 ≤ i) (h1 : i < n) {ad : Addr} (hA : A = some ad) (q : Nat) (hq : 0 < q) (u : Value) (hu : (cs58 (rd_T58 xs i))[q]? = some u) :
    w.cell? ⟨(ad.add (i.toNat * 20)).block, (ad.add (i.toNat * 20)).off + q, none⟩ = some u := by
  rw [← add_field ad (i.toNat * 20) q hq]
  exact part_at h i h0 h1 hA q u hu
theorem leaf_at {w : World} {A : Option Addr} {n : Nat} {xs : List S58} (h : Kd.C k58 w A n xs) (i : Int) (h0 : 0 ≤ i) (h1 : i < n) {ad : Addr} (hA : A = some ad) :
    w.cell? ⟨(ad.add (i.toNat * 20)).block, (ad.add (i.toNat * 20)).off + 19, none⟩ = some (.bool (rd_T58 xs i).f3) := field_at h i h0 h1 hA 19 (by omega) _ rfl
theorem tell_at {w : World} {A : Option Addr} {n : Nat} {xs : List S58} (h : Kd.C k58 w A n xs) (i : Int) (h0 : 0 ≤ i) (h1 : i < n) {ad : Addr} (hA : A = some ad) :
    w.cell? ⟨(ad.add (i.toNat * 20)).block, (ad.add (i.toNat * 20)).off + 17, none⟩ = some (.int .i8 (rd_T58 xs i).f2.f0) ∧ w.cell? ⟨(ad.add (i.toNat * 20)).block, (ad.add (i.toNat * 20)).off + 18, none⟩ = some (.bool (rd_T58 xs i).f2.f1) :=
  ⟨field_at h i h0 h1 hA 17 (by omega) _ rfl, field_at h i h0 h1 hA 18 (by omega) _ rfl⟩
theorem next_at {w : World} {A : Option Addr} {n : Nat} {xs : List S58} (h : Kd.C k58 w A n xs) (i : Int) (h0 : 0 ≤ i) (h1 : i < n) {ad : Addr} (hA : A = some ad) (j : Int) (j0 : 0 ≤ j) (j3 : j < 3) :
    w.cell? ⟨(ad.add (i.toNat * 20)).block, (ad.add (i.toNat * 20)).off + 14 + j.toNat, none⟩ = some (.int .i16 (rd [(rd_T58 xs i).f1.f0, (rd_T58 xs i).f1.f1, (rd_T58 xs i).f1.f2] j)) := by
  have e : j = 0 ∨ j = 1 ∨ j = 2 := by omega
  rw [Nat.add_assoc]
  rcases e with rfl | rfl | rfl
  · exact field_at h i h0 h1 hA 14 (by omega) _ rfl
  · exact field_at h i h0 h1 hA 15 (by omega) _ rfl
  · exact field_at h i h0 h1 hA 16 (by omega) _ rfl
theorem run_pans {w : World} {A : Option Addr} {n : Nat} {xs : List S58} (h : Kd.C k58 w A n xs) (i : Int) (h0 : 0 ≤ i) (h1 : i < n) {ad : Addr} (hA : A = some ad) :
    (Instr.loadAt 26 (.pointer (some (ad.add (i.toNat * 20))))).run Try.prog w = .ok (.agg #[.int .i8 (rd_T58 xs i).f0.f0, .int .i8 (rd_T58 xs i).f0.f1, .int .i8 (rd_T58 xs i).f0.f2, .int .i8 (rd_T58 xs i).f0.f3, .int .i8 (rd_T58 xs i).f0.f4, .int .i8 (rd_T58 xs i).f0.f5, .int .i8 (rd_T58 xs i).f0.f6, .int .i8 (rd_T58 xs i).f0.f7, .int .i8 (rd_T58 xs i).f0.f8, .int .i8 (rd_T58 xs i).f0.f9, .int .i8 (rd_T58 xs i).f0.f10, .int .i8 (rd_T58 xs i).f0.f11, .int .i8 (rd_T58 xs i).f0.f12, .int .i8 (rd_T58 xs i).f0.f13]) w :=
  run_load_list w (ad.add (i.toNat * 20)) 26 [.int .i8 (rd_T58 xs i).f0.f0, .int .i8 (rd_T58 xs i).f0.f1, .int .i8 (rd_T58 xs i).f0.f2, .int .i8 (rd_T58 xs i).f0.f3, .int .i8 (rd_T58 xs i).f0.f4, .int .i8 (rd_T58 xs i).f0.f5, .int .i8 (rd_T58 xs i).f0.f6, .int .i8 (rd_T58 xs i).f0.f7, .int .i8 (rd_T58 xs i).f0.f8, .int .i8 (rd_T58 xs i).f0.f9, .int .i8 (rd_T58 xs i).f0.f10, .int .i8 (rd_T58 xs i).f0.f11, .int .i8 (rd_T58 xs i).f0.f12, .int .i8 (rd_T58 xs i).f0.f13] _ (fun j u hu => by
    rw [add_add]
    refine part_at h i h0 h1 hA j u ?_
    have e : [Value.int .i8 (rd_T58 xs i).f0.f0, Value.int .i8 (rd_T58 xs i).f0.f1, Value.int .i8 (rd_T58 xs i).f0.f2, Value.int .i8 (rd_T58 xs i).f0.f3, Value.int .i8 (rd_T58 xs i).f0.f4, Value.int .i8 (rd_T58 xs i).f0.f5, Value.int .i8 (rd_T58 xs i).f0.f6, Value.int .i8 (rd_T58 xs i).f0.f7, Value.int .i8 (rd_T58 xs i).f0.f8, Value.int .i8 (rd_T58 xs i).f0.f9, Value.int .i8 (rd_T58 xs i).f0.f10, Value.int .i8 (rd_T58 xs i).f0.f11, Value.int .i8 (rd_T58 xs i).f0.f12, Value.int .i8 (rd_T58 xs i).f0.f13] = (cs58 (rd_T58 xs i)).take 14 := rfl
    rw [e, List.getElem?_take] at hu
    split at hu
    · exact hu
    · cases hu) Try.underlying26 rfl (by kernel_rfl)
theorem run_case {w : World} {g : Nat} {a : Int} {b : Bool} (h : w.heap[g]? = some (.cells #[.int .i8 a, .bool b] 43 (0, 0))) : (Instr.loadAt 43 (.pointer (some ⟨g, 0, none⟩))).run Try.prog w = .ok (.agg #[.int .i8 a, .bool b]) w :=
  run_load_list w ⟨g, 0, none⟩ 43 [.int .i8 a, .bool b] _ (fun j u hu => by
    rw [Addr.add_mid, cell_of_row w g _ _ 43 (0, 0) h, ← Array.getElem?_toList, Nat.zero_add]
    exact hu) Try.underlying43 rfl (by kernel_rfl)

def spec_l03Run.l0 : Nat → List S58 → Int → Int → Int → Bool → Option (Int × Bool × Int)
  | 0, _, _, _, _, _ => none
  | k + 1, l0, x6, x7, a1_0, a1_1 => if 0 ≤ x6 then (if x6 < (l0.length : Int) then (if (rd_T58 l0 x6).f3 = true then some ((rd_T58 l0 x6).f2.f0, (rd_T58 l0 x6).f2.f1, x7) else ((B.spec_l03Result.f (rd_T58 l0 x6).f0.f0 (rd_T58 l0 x6).f0.f1 (rd_T58 l0 x6).f0.f2 (rd_T58 l0 x6).f0.f3 (rd_T58 l0 x6).f0.f4 (rd_T58 l0 x6).f0.f5 (rd_T58 l0 x6).f0.f6 (rd_T58 l0 x6).f0.f7 (rd_T58 l0 x6).f0.f8 (rd_T58 l0 x6).f0.f9 (rd_T58 l0 x6).f0.f10 (rd_T58 l0 x6).f0.f11 (rd_T58 l0 x6).f0.f12 (rd_T58 l0 x6).f0.f13 a1_0 a1_1).bind fun t => (if 0 ≤ wrap64 (t + 1) then (if wrap64 (t + 1) < 3 then spec_l03Run.l0 k l0 (rd [(rd_T58 l0 x6).f1.f0, (rd_T58 l0 x6).f1.f1, (rd_T58 l0 x6).f1.f2] (wrap64 (t + 1))) (wrap64 (x7 + 1)) a1_0 a1_1 else none) else none))) else none) else none
def spec_l03Run.f (k : Nat) (l0 : List S58) (a1_0 : Int) (a1_1 : Bool) : Option (Int × Bool × Int) := spec_l03Run.l0 k l0 0 0 a1_0 a1_1
theorem spec_l03Run.mono_l : ∀ k, (∀ y0 y1 y2 y3 y4, LeO (spec_l03Run.l0 k y0 y1 y2 y3 y4) (spec_l03Run.l0 (k + 1) y0 y1 y2 y3 y4))
  | 0 => fun _ _ _ _ _ r h => by simp [spec_l03Run.l0] at h
  | k + 1 => by
    have ih0 := spec_l03Run.mono_l k
    intro y0 y1 y2 y3 y4
    unfold spec_l03Run.l0
    repeat' first
      | (with_reducible exact ih0 _ _ _ _ _)
      | (with_reducible exact LeO.refl _)
      | (with_reducible exact LeO.none _)
      | (with_reducible refine LeO.ite ?_ ?_)
      | (with_reducible refine LeO.bind ?_ (fun _ => ?_))
      | exact ih0 _ _ _ _ _
      | exact LeO.none _
      | refine LeO.ite ?_ ?_
      | refine LeO.bind ?_ (fun _ => ?_)
theorem spec_l03Run.mono : ∀ a0 a1 a2 k, LeO (spec_l03Run.f k a0 a1 a2) (spec_l03Run.f (k + 1) a0 a1 a2) := fun a0 a1 a2 k => spec_l03Run.mono_l k a0 0 0 a1 a2
def spec_l03Run.T4 : Bool × List (List Nat × List Nat) := (true, [([], []), ([], []), ([], []), ([], []), ([2, 3], [2, 3]), ([4], [4]), ([5], [5]), ([], []), ([6, 7], [6, 7]), ([8], [8]), ([0, 1], [0, 1]), ([10], [10]), ([11, 9], [9, 11]), ([12], [12]), ([13, 8, 0, 1, 2, 3, 4, 5, 6, 7, 8, 9, 10, 11, 12, 13], [1, 3, 13])])
def spec_l03Run.B4 : List Nat := [0, 0, 0, 0, 12, 28, 60, 0, 252, 508, 3, 1027, 4095, 8191, 16383]
theorem spec_l03Run.tab4 : rtab .any (opsOf Try.f37 4) = spec_l03Run.T4 := by kernel_rfl
theorem spec_l03Run.bits4 : waitsOk spec_l03Run.T4.2 spec_l03Run.B4 = true := by kernel_rfl
set_option maxHeartbeats 4000000 in
set_option maxRecDepth 100000 in
theorem spec_l03Run.calls (k : Nat) (A0 : Option Addr) (c0 : Nat) (l0 : List S58) (a1_0 : Int) (a1_1 : Bool) (r1 : Int) (r2 : Bool) (r3 : Int) (w : World) (hr0 : Kd.C k58 w A0 l0.length l0) (hc0 : l0.length ≤ c0) (h : spec_l03Run.f k l0 a1_0 a1_1 = some (r1, r2, r3)) :
    Calls Try.prog 37 #[.slice A0 l0.length c0, .agg #[.int .i8 a1_0, .bool a1_1]] w fun e w' => e = .returned (.tuple #[.agg #[.int .i8 r1, .bool r2], .int .i64 r3]) ∧ Below w.heap.size w w' := by
  have HR0 := Aside0.mk hr0
  have HB := A_ (Below.refl w.heap.size w)
  clear hr0
  have H' := Aside0.mk h
  clear h
  have hu43 := Try.underlying43
  go_enter Try.func37, Try.ntmps37
  go_wp2_with (first | ((with_reducible refine gate_dst (N := 3) rfl ?_); refine box_event ?hg (N := 3) ?hd (cs := #[.int .i8 a1_0, .bool a1_1]) (t := 43) ?hr ?_; (case hd => rfl); (case hg => rfl); (case hr => first | (go_simp; done) | (go_simp; rfl)); intro gb3 hg w3 hbox hb; have GE3 := A_ ((by rw [hg]; exact (below_size HB.out) : w.heap.size ≤ gb3)); have n_ := A_ (below_step HB.out hb); clear HB; have HB := n_; clear n_; have BK3 := A_ hbox; clear hb hbox hg) | ((with_reducible refine gate_dst (N := 4) rfl ?_); refine box_event ?hg (N := 4) ?hd (cs := #[.int .i8 0, .bool false]) (t := 43) ?hr ?_; (case hd => rfl); (case hg => rfl); (case hr => first | (go_simp; done) | (go_simp; rfl)); intro gb4 hg w4 hbox hb; have GE4 := A_ ((by rw [hg]; exact (below_size HB.out) : w.heap.size ≤ gb4)); have n_ := A_ (blk_below BK3.out hb); clear BK3; have BK3 := n_; clear n_; have n_ := A_ (below_step HB.out hb); clear HB; have HB := n_; clear n_; have BK4 := A_ hbox; clear hb hbox hg))
  go_loopg [6, 7] k (fun kq v6 v7 w' => ∃ (x6 : Int) (x7 : Int), v6 = .int .i16 x6 ∧ v7 = .int .i64 x7 ∧ Aside0 (spec_l03Run.l0 kq l0 x6 x7 a1_0 a1_1 = some (r1, r2, r3)) ∧ Aside0 (kq ≤ k) ∧ Aside0 (w'.heap[gb3]? = some (.cells #[.int .i8 a1_0, .bool a1_1] 43 (0, 0))) ∧ Aside0 (w'.heap[gb4]? = some (.cells #[.int .i8 0, .bool false] 43 (0, 0))) ∧ Aside0 (Below w.heap.size w w'))
  case atStart => exact ⟨0, 0, rs_, rs_, H', ⟨Nat.le_refl _⟩, ⟨BK3.out⟩, ⟨BK4.out⟩, ⟨HB.out⟩⟩
  case round =>
    clear H' BK3 BK4 HB
    obtain ⟨x6, x7, rfl, rfl, HA, HK1, BK3, BK4, HB⟩ := hrel
    cases gk with
    | zero => exact absurd HA.out (by simp [spec_l03Run.l0])
    | succ k1 =>
      have H := HA.out
      clear HA
      simp only [spec_l03Run.l0] at H
      by_cases c5 : 0 ≤ x6
      · rw [if_pos c5] at H
        by_cases c4 : x6 < (l0.length : Int)
        · rw [if_pos c4] at H
          obtain ⟨ad, e0, hn0⟩ := node_at (Kd.C_below HR0.out HB.out) x6 c5 c4
          clear hn0
          cases e0
          have hleaf := leaf_at (Kd.C_below HR0.out HB.out) x6 c5 c4 rfl
          by_cases c8 : (rd_T58 l0 x6).f3 = true
          · rw [if_pos c8] at H
            simp only [Option.some.injEq, Prod.mk.injEq] at H
            obtain ⟨rfl, rfl, rfl⟩ := H
            obtain ⟨ht0, ht1⟩ := tell_at (Kd.C_below HR0.out HB.out) x6 c5 c4 rfl
            obtain ⟨hc4_0, hc4_1, hf4_0, hf4_1⟩ := cl2_ BK4
            go_wp2
            refine bodyPost_ret (results_ct rfl _ _ gb4 43 #[.int .i8 (rd_T58 l0 x6).f2.f0, .bool (rd_T58 l0 x6).f2.f1] (0, 0) _ rfl (by refine blk_put (cs := #[.int .i8 (rd_T58 l0 x6).f2.f0, .bool false]) ?_ 1 _ rfl; refine blk_put (cs := #[.int .i8 0, .bool false]) ?_ 0 _ rfl; exact BK4.out) Try.underlying43 rfl (by kernel_rfl)) rfl ?_
            exact ⟨rfl, below_set (below_set HB.out GE4.out) GE4.out⟩
          · rw [if_neg c8] at H
            have c8b : (rd_T58 l0 x6).f3 = false := by simpa using c8
            clear c8
            obtain ⟨t, A70, H⟩ := Option.bind_eq_some_iff.mp H
            have A7 := Aside0.mk A70
            clear A70
            by_cases j0 : 0 ≤ wrap64 (t + 1)
            · rw [if_pos j0] at H
              by_cases j3 : wrap64 (t + 1) < 3
              · rw [if_pos j3] at H
                have H' := Aside0.mk H
                clear H
                go_wp2
                have n0_ := A_ (blk_drew BK3.out)
                have n1_ := A_ (blk_drew BK4.out)
                have n2_ := A_ (below_drew1 HB.out)
                clear BK3 BK4 HB hleaf
                have BK3 := n0_
                have BK4 := n1_
                have HB := n2_
                clear n0_ n1_ n2_
                refine start_ (n := 15) (S := fun W => Below wr.drew.heap.size wr.drew W) (ds := []) #[false, false, false, false, false, false, false, false, false, false, false, false, false, false, false] (by kernel_rfl) rfl rfl (Below.refl _ _) (fun hHeld => ?_); refine with_tabW spec_l03Run.tab4 spec_l03Run.bits4 (fun HT_ HW_ => ?_)
                generalize wr.drew = w9 at HB BK3 BK4 hHeld ⊢
                have HRW := Kd.C_below HR0.out HB.out
                refine pure_ (i := 0) (N := some 14) (v := ?_) (a' := ?_) #[true, false, false, false, false, false, false, false, false, false, false, false, false, false, false] rfl rfl (any_of HT_.out (by kernel_rfl)) (fun _ _ _ h => h) (Or.inl ⟨by rfl, ?_⟩) ?_ ?_
                rotate_left
                · intro w'
                  go_simp
                  with_reducible rfl
                rotate_left
                · simp only [Act.put, sp_]
                  rfl
                refine pure_ (i := 1) (N := some 15) (v := ?_) (a' := ?_) #[true, true, false, false, false, false, false, false, false, false, false, false, false, false, false] rfl rfl (any_of HT_.out (by kernel_rfl)) (fun _ _ _ h => h) (Or.inl ⟨by rfl, ?_⟩) ?_ ?_
                rotate_left
                · intro w'
                  go_simp
                  with_reducible rfl
                rotate_left
                · simp only [Act.put, sp_]
                  rfl
                refine pure_ (i := 2) (N := some 16) (v := ?_) (a' := ?_) #[true, true, true, false, false, false, false, false, false, false, false, false, false, false, false] rfl rfl (any_of HT_.out (by kernel_rfl)) (fun _ _ _ h => h) (Or.inl ⟨by rfl, ?_⟩) ?_ ?_
                rotate_left
                · intro w'
                  go_simp
                  with_reducible rfl
                rotate_left
                · simp only [Act.put, sp_]
                  rfl
                refine pure_ (i := 3) (N := some 17) (v := ?_) (a' := ?_) #[true, true, true, true, false, false, false, false, false, false, false, false, false, false, false] rfl rfl (any_of HT_.out (by kernel_rfl)) (fun _ _ _ h => h) (Or.inl ⟨by rfl, ?_⟩) ?_ ?_
                rotate_left
                · intro w'
                  go_simp
                  with_reducible rfl
                rotate_left
                · simp only [Act.put, sp_]
                  rfl
                refine pure_ (i := 4) (N := some 18) (v := ?_) (a' := ?_) #[true, true, true, true, true, false, false, false, false, false, false, false, false, false, false] rfl rfl (any_of HT_.out (by kernel_rfl)) (fun _ _ _ h => h) (Or.inl ⟨by rfl, ?_⟩) ?_ ?_
                rotate_left
                · intro w'
                  go_simp
                  with_reducible rfl
                rotate_left
                · simp only [Act.put, sp_]
                  rfl
                refine pure_ (i := 5) (N := some 19) (v := ?_) (a' := ?_) #[true, true, true, true, true, true, false, false, false, false, false, false, false, false, false] rfl rfl (any_of HT_.out (by kernel_rfl)) (fun _ _ _ h => h) (Or.inl ⟨by rfl, ?_⟩) ?_ ?_
                rotate_left
                · intro w'
                  go_simp
                  with_reducible rfl
                rotate_left
                · simp only [Act.put, sp_]
                  rfl
                refine take_ (i := 6) (N := some 20) (v := .agg #[.int .i8 (rd_T58 l0 x6).f0.f0, .int .i8 (rd_T58 l0 x6).f0.f1, .int .i8 (rd_T58 l0 x6).f0.f2, .int .i8 (rd_T58 l0 x6).f0.f3, .int .i8 (rd_T58 l0 x6).f0.f4, .int .i8 (rd_T58 l0 x6).f0.f5, .int .i8 (rd_T58 l0 x6).f0.f6, .int .i8 (rd_T58 l0 x6).f0.f7, .int .i8 (rd_T58 l0 x6).f0.f8, .int .i8 (rd_T58 l0 x6).f0.f9, .int .i8 (rd_T58 l0 x6).f0.f10, .int .i8 (rd_T58 l0 x6).f0.f11, .int .i8 (rd_T58 l0 x6).f0.f12, .int .i8 (rd_T58 l0 x6).f0.f13]) (a' := ?_) #[true, true, true, true, true, true, true, false, false, false, false, false, false, false, false] rfl rfl (take_ofW HT_.out HW_.out (by kernel_rfl)) (fun _ _ _ h => h) (Or.inl ⟨by rfl, fun w' hs => exec_load 26 (.tmp 19) rfl rfl (run_pans (Kd.C_below HRW hs) x6 c5 c4 rfl)⟩) hHeld ?_ ?_
                rotate_left
                · simp only [Act.put, sp_]
                  rfl
                refine take_ (i := 7) (N := some 21) (v := .agg #[.int .i8 a1_0, .bool a1_1]) (a' := ?_) #[true, true, true, true, true, true, true, true, false, false, false, false, false, false, false] rfl rfl (take_ofW HT_.out HW_.out (by kernel_rfl)) (fun _ _ _ h => h) (Or.inl ⟨by rfl, fun w' hs => exec_load 43 (.tmp 3) rfl rfl (run_case (blk_below BK3.out hs))⟩) hHeld ?_ ?_
                rotate_left
                · simp only [Act.put, sp_]
                  rfl
                refine pure_ (i := 10) (N := some 24) (v := ?_) (a' := ?_) #[true, true, true, true, true, true, true, true, false, false, true, false, false, false, false] rfl rfl (any_of HT_.out (by kernel_rfl)) (fun _ _ _ h => h) (Or.inl ⟨by rfl, ?_⟩) ?_ ?_
                rotate_left
                · intro w'
                  go_simp
                  with_reducible rfl
                rotate_left
                · simp only [Act.put, sp_]
                  rfl
                refine pure_ (i := 11) (N := some 25) (v := ?_) (a' := ?_) #[true, true, true, true, true, true, true, true, false, false, true, true, false, false, false] rfl rfl (any_of HT_.out (by kernel_rfl)) (fun _ _ _ h => h) (Or.inl ⟨by rfl, ?_⟩) ?_ ?_
                rotate_left
                · intro w'
                  go_simp
                  with_reducible rfl
                rotate_left
                · simp only [Act.put, sp_]
                  rfl
                refine one_ (i := 8) (N := some 22) #[true, true, true, true, true, true, true, true, true, false, true, true, false, false, false] rfl rfl (one_of HT_.out (by kernel_rfl)) (by decide) (fun K hK => ?_)
                refine goes_ Try.func49 (by kernel_rfl) rfl #[.agg #[.int .i8 (rd_T58 l0 x6).f0.f0, .int .i8 (rd_T58 l0 x6).f0.f1, .int .i8 (rd_T58 l0 x6).f0.f2, .int .i8 (rd_T58 l0 x6).f0.f3, .int .i8 (rd_T58 l0 x6).f0.f4, .int .i8 (rd_T58 l0 x6).f0.f5, .int .i8 (rd_T58 l0 x6).f0.f6, .int .i8 (rd_T58 l0 x6).f0.f7, .int .i8 (rd_T58 l0 x6).f0.f8, .int .i8 (rd_T58 l0 x6).f0.f9, .int .i8 (rd_T58 l0 x6).f0.f10, .int .i8 (rd_T58 l0 x6).f0.f11, .int .i8 (rd_T58 l0 x6).f0.f12, .int .i8 (rd_T58 l0 x6).f0.f13], .agg #[.int .i8 a1_0, .bool a1_1]] (by rfl) rfl rfl arg_ ?_
                with_reducible refine (B.spec_l03Result.calls (rd_T58 l0 x6).f0.f0 (rd_T58 l0 x6).f0.f1 (rd_T58 l0 x6).f0.f2 (rd_T58 l0 x6).f0.f3 (rd_T58 l0 x6).f0.f4 (rd_T58 l0 x6).f0.f5 (rd_T58 l0 x6).f0.f6 (rd_T58 l0 x6).f0.f7 (rd_T58 l0 x6).f0.f8 (rd_T58 l0 x6).f0.f9 (rd_T58 l0 x6).f0.f10 (rd_T58 l0 x6).f0.f11 (rd_T58 l0 x6).f0.f12 (rd_T58 l0 x6).f0.f13 a1_0 a1_1 t _ A7.out).mono ?_
                rintro e w10 ⟨rfl, hb⟩
                refine ⟨_, rfl, ?_⟩
                have n0_ := A_ (blk_below BK3.out hb)
                have n1_ := A_ (blk_below BK4.out hb)
                have n2_ := A_ (below_step HB.out hb)
                clear BK3 BK4 HB
                have BK3 := n0_
                have BK4 := n1_
                have HB := n2_
                clear n0_ n1_ n2_
                refine hK.out _ _ (hb) (fun hHeld => ?_)
                clear hK K
                refine norm_ (a' := ?_) ?_ ?_
                rotate_left
                · show Act.put _ (some 22) _ = _
                  simp only [Act.put, sp_]
                  rfl
                refine pure_ (i := 9) (N := some 23) (v := ?_) (a' := ?_) #[true, true, true, true, true, true, true, true, true, true, true, true, false, false, false] rfl rfl (any_of HT_.out (by kernel_rfl)) (fun _ _ _ h => h) (Or.inl ⟨by rfl, ?_⟩) ?_ ?_
                rotate_left
                · intro w'
                  go_simp
                  with_reducible rfl
                rotate_left
                · simp only [Act.put, sp_]
                  rfl
                refine pure_ (i := 12) (N := some 26) (v := ?_) (a' := ?_) #[true, true, true, true, true, true, true, true, true, true, true, true, true, false, false] rfl rfl (any_of HT_.out (by kernel_rfl)) (fun _ _ _ h => h) (Or.inl ⟨by rfl, ?_⟩) ?_ ?_
                rotate_left
                · intro w'
                  go_simp
                  with_reducible rfl
                rotate_left
                · simp only [Act.put, sp_]
                  rfl
                refine take_ (i := 13) (N := some 27) (v := .int .i16 (rd [(rd_T58 l0 x6).f1.f0, (rd_T58 l0 x6).f1.f1, (rd_T58 l0 x6).f1.f2] (wrap64 (t + 1)))) (a' := ?_) #[true, true, true, true, true, true, true, true, true, true, true, true, true, true, false] rfl rfl (take_ofW HT_.out HW_.out (by kernel_rfl)) (fun _ _ _ h => h) (Or.inl ⟨by rfl, fun w' hs => by have hx := next_at (Kd.C_below HRW hs) x6 c5 c4 rfl (wrap64 (t + 1)) j0 j3; go_simp⟩) hHeld ?_ ?_
                rotate_left
                · simp only [Act.put, sp_]
                  rfl
                refine pure_ (i := 14) (N := some 6) (v := ?_) (a' := ?_) #[true, true, true, true, true, true, true, true, true, true, true, true, true, true, true] rfl rfl (any_of HT_.out (by kernel_rfl)) (fun _ _ _ h => h) (Or.inl ⟨by rfl, ?_⟩) ?_ ?_
                rotate_left
                · intro w'
                  go_simp
                  with_reducible rfl
                rotate_left
                · simp only [Act.put, sp_]
                  rfl
                refine done_ (done_of HT_.out (by kernel_rfl)) ?_
                go_wp2
                go_roundg k1
                case measure => have := HK1.out; omega
                case rel => exact ⟨_, (wrap64 (x7 + 1)), rs_, rs_, H', ⟨by have := HK1.out; omega⟩, ⟨BK3.out⟩, ⟨BK4.out⟩, ⟨HB.out⟩⟩
              · rw [if_neg j3] at H
                cases H
            · rw [if_neg j0] at H
              cases H
        · rw [if_neg c4] at H
          cases H
      · rw [if_neg c5] at H
        cases H

def impl_follow.l0 : Nat → List S58 → Int → Int → Int → Bool → Option (Int × Bool × Int)
  | 0, _, _, _, _, _ => none
  | k + 1, l0, x6, x7, a1_0, a1_1 => if 0 ≤ x6 then (if x6 < (l0.length : Int) then (if (rd_T58 l0 x6).f3 = true then some ((rd_T58 l0 x6).f2.f0, (rd_T58 l0 x6).f2.f1, x7) else ((B.impl_resultOf.f (rd_T58 l0 x6).f0.f0 (rd_T58 l0 x6).f0.f1 (rd_T58 l0 x6).f0.f2 (rd_T58 l0 x6).f0.f3 (rd_T58 l0 x6).f0.f4 (rd_T58 l0 x6).f0.f5 (rd_T58 l0 x6).f0.f6 (rd_T58 l0 x6).f0.f7 (rd_T58 l0 x6).f0.f8 (rd_T58 l0 x6).f0.f9 (rd_T58 l0 x6).f0.f10 (rd_T58 l0 x6).f0.f11 (rd_T58 l0 x6).f0.f12 (rd_T58 l0 x6).f0.f13 a1_0 a1_1).bind fun t => (if 0 ≤ wrap64 (t + 1) then (if wrap64 (t + 1) < 3 then impl_follow.l0 k l0 (rd [(rd_T58 l0 x6).f1.f0, (rd_T58 l0 x6).f1.f1, (rd_T58 l0 x6).f1.f2] (wrap64 (t + 1))) (wrap64 (x7 + 1)) a1_0 a1_1 else none) else none))) else none) else none
def impl_follow.f (k : Nat) (l0 : List S58) (a1_0 : Int) (a1_1 : Bool) : Option (Int × Bool × Int) := impl_follow.l0 k l0 0 0 a1_0 a1_1
theorem impl_follow.mono_l : ∀ k, (∀ y0 y1 y2 y3 y4, LeO (impl_follow.l0 k y0 y1 y2 y3 y4) (impl_follow.l0 (k + 1) y0 y1 y2 y3 y4))
  | 0 => fun _ _ _ _ _ r h => by simp [impl_follow.l0] at h
  | k + 1 => by
    have ih0 := impl_follow.mono_l k
    intro y0 y1 y2 y3 y4
    unfold impl_follow.l0
    repeat' first
      | (with_reducible exact ih0 _ _ _ _ _)
      | (with_reducible exact LeO.refl _)
      | (with_reducible exact LeO.none _)
      | (with_reducible refine LeO.ite ?_ ?_)
      | (with_reducible refine LeO.bind ?_ (fun _ => ?_))
      | exact ih0 _ _ _ _ _
      | exact LeO.none _
      | refine LeO.ite ?_ ?_
      | refine LeO.bind ?_ (fun _ => ?_)
theorem impl_follow.mono : ∀ a0 a1 a2 k, LeO (impl_follow.f k a0 a1 a2) (impl_follow.f (k + 1) a0 a1 a2) := fun a0 a1 a2 k => impl_follow.mono_l k a0 0 0 a1 a2
def impl_follow.T3 : Bool × List (List Nat × List Nat) := (true, [([], []), ([], []), ([], []), ([], []), ([2, 3], [2, 3]), ([4], [4]), ([5], [5]), ([], []), ([6, 7], [6, 7]), ([8], [8]), ([0, 1], [0, 1]), ([10], [10]), ([11, 9], [9, 11]), ([12], [12]), ([13, 8, 0, 1, 2, 3, 4, 5, 6, 7, 8, 9, 10, 11, 12, 13], [1, 3, 13])])
def impl_follow.B3 : List Nat := [0, 0, 0, 0, 12, 28, 60, 0, 252, 508, 3, 1027, 4095, 8191, 16383]
theorem impl_follow.tab3 : rtab .any (opsOf Try.f38 3) = impl_follow.T3 := by kernel_rfl
theorem impl_follow.bits3 : waitsOk impl_follow.T3.2 impl_follow.B3 = true := by kernel_rfl
set_option maxHeartbeats 4000000 in
set_option maxRecDepth 100000 in
theorem impl_follow.calls (k : Nat) (A0 : Option Addr) (c0 : Nat) (l0 : List S58) (a1_0 : Int) (a1_1 : Bool) (r1 : Int) (r2 : Bool) (r3 : Int) (w : World) (hr0 : Kd.C k58 w A0 l0.length l0) (hc0 : l0.length ≤ c0) (h : impl_follow.f k l0 a1_0 a1_1 = some (r1, r2, r3)) :
    Calls Try.prog 38 #[.slice A0 l0.length c0, .agg #[.int .i8 a1_0, .bool a1_1]] w fun e w' => e = .returned (.tuple #[.agg #[.int .i8 r1, .bool r2], .int .i64 r3]) ∧ Below w.heap.size w w' := by
  have HR0 := Aside0.mk hr0
  have HB := A_ (Below.refl w.heap.size w)
  clear hr0
  have H' := Aside0.mk h
  clear h
  have hu43 := Try.underlying43
  go_enter Try.func38, Try.ntmps38
  go_wp2_with (first | ((with_reducible refine gate_dst (N := 3) rfl ?_); refine box_event ?hg (N := 3) ?hd (cs := #[.int .i8 a1_0, .bool a1_1]) (t := 43) ?hr ?_; (case hd => rfl); (case hg => rfl); (case hr => first | (go_simp; done) | (go_simp; rfl)); intro gb3 hg w3 hbox hb; have GE3 := A_ ((by rw [hg]; exact (below_size HB.out) : w.heap.size ≤ gb3)); have n_ := A_ (below_step HB.out hb); clear HB; have HB := n_; clear n_; have BK3 := A_ hbox; clear hb hbox hg) | ((with_reducible refine gate_dst (N := 4) rfl ?_); refine box_event ?hg (N := 4) ?hd (cs := #[.int .i8 0, .bool false]) (t := 43) ?hr ?_; (case hd => rfl); (case hg => rfl); (case hr => first | (go_simp; done) | (go_simp; rfl)); intro gb4 hg w4 hbox hb; have GE4 := A_ ((by rw [hg]; exact (below_size HB.out) : w.heap.size ≤ gb4)); have n_ := A_ (blk_below BK3.out hb); clear BK3; have BK3 := n_; clear n_; have n_ := A_ (below_step HB.out hb); clear HB; have HB := n_; clear n_; have BK4 := A_ hbox; clear hb hbox hg))
  go_loopg [6, 7] k (fun kq v6 v7 w' => ∃ (x6 : Int) (x7 : Int), v6 = .int .i16 x6 ∧ v7 = .int .i64 x7 ∧ Aside0 (impl_follow.l0 kq l0 x6 x7 a1_0 a1_1 = some (r1, r2, r3)) ∧ Aside0 (kq ≤ k) ∧ Aside0 (w'.heap[gb3]? = some (.cells #[.int .i8 a1_0, .bool a1_1] 43 (0, 0))) ∧ Aside0 (w'.heap[gb4]? = some (.cells #[.int .i8 0, .bool false] 43 (0, 0))) ∧ Aside0 (Below w.heap.size w w'))
  case atStart => exact ⟨0, 0, rs_, rs_, H', ⟨Nat.le_refl _⟩, ⟨BK3.out⟩, ⟨BK4.out⟩, ⟨HB.out⟩⟩
  case round =>
    clear H' BK3 BK4 HB
    obtain ⟨x6, x7, rfl, rfl, HA, HK1, BK3, BK4, HB⟩ := hrel
    cases gk with
    | zero => exact absurd HA.out (by simp [impl_follow.l0])
    | succ k1 =>
      have H := HA.out
      clear HA
      simp only [impl_follow.l0] at H
      by_cases c5 : 0 ≤ x6
      · rw [if_pos c5] at H
        by_cases c4 : x6 < (l0.length : Int)
        · rw [if_pos c4] at H
          obtain ⟨ad, e0, hn0⟩ := node_at (Kd.C_below HR0.out HB.out) x6 c5 c4
          clear hn0
          cases e0
          have hleaf := leaf_at (Kd.C_below HR0.out HB.out) x6 c5 c4 rfl
          by_cases c8 : (rd_T58 l0 x6).f3 = true
          · rw [if_pos c8] at H
            simp only [Option.some.injEq, Prod.mk.injEq] at H
            obtain ⟨rfl, rfl, rfl⟩ := H
            obtain ⟨ht0, ht1⟩ := tell_at (Kd.C_below HR0.out HB.out) x6 c5 c4 rfl
            obtain ⟨hc4_0, hc4_1, hf4_0, hf4_1⟩ := cl2_ BK4
            go_wp2
            refine bodyPost_ret (results_ct rfl _ _ gb4 43 #[.int .i8 (rd_T58 l0 x6).f2.f0, .bool (rd_T58 l0 x6).f2.f1] (0, 0) _ rfl (by refine blk_put (cs := #[.int .i8 (rd_T58 l0 x6).f2.f0, .bool false]) ?_ 1 _ rfl; refine blk_put (cs := #[.int .i8 0, .bool false]) ?_ 0 _ rfl; exact BK4.out) Try.underlying43 rfl (by kernel_rfl)) rfl ?_
            exact ⟨rfl, below_set (below_set HB.out GE4.out) GE4.out⟩
          · rw [if_neg c8] at H
            have c8b : (rd_T58 l0 x6).f3 = false := by simpa using c8
            clear c8
            obtain ⟨t, A70, H⟩ := Option.bind_eq_some_iff.mp H
            have A7 := Aside0.mk A70
            clear A70
            by_cases j0 : 0 ≤ wrap64 (t + 1)
            · rw [if_pos j0] at H
              by_cases j3 : wrap64 (t + 1) < 3
              · rw [if_pos j3] at H
                have H' := Aside0.mk H
                clear H
                go_wp2
                have n0_ := A_ (blk_drew BK3.out)
                have n1_ := A_ (blk_drew BK4.out)
                have n2_ := A_ (below_drew1 HB.out)
                clear BK3 BK4 HB hleaf
                have BK3 := n0_
                have BK4 := n1_
                have HB := n2_
                clear n0_ n1_ n2_
                refine start_ (n := 15) (S := fun W => Below wr.drew.heap.size wr.drew W) (ds := []) #[false, false, false, false, false, false, false, false, false, false, false, false, false, false, false] (by kernel_rfl) rfl rfl (Below.refl _ _) (fun hHeld => ?_); refine with_tabW impl_follow.tab3 impl_follow.bits3 (fun HT_ HW_ => ?_)
                generalize wr.drew = w9 at HB BK3 BK4 hHeld ⊢
                have HRW := Kd.C_below HR0.out HB.out
                refine pure_ (i := 0) (N := some 14) (v := ?_) (a' := ?_) #[true, false, false, false, false, false, false, false, false, false, false, false, false, false, false] rfl rfl (any_of HT_.out (by kernel_rfl)) (fun _ _ _ h => h) (Or.inl ⟨by rfl, ?_⟩) ?_ ?_
                rotate_left
                · intro w'
                  go_simp
                  with_reducible rfl
                rotate_left
                · simp only [Act.put, sp_]
                  rfl
                refine pure_ (i := 1) (N := some 15) (v := ?_) (a' := ?_) #[true, true, false, false, false, false, false, false, false, false, false, false, false, false, false] rfl rfl (any_of HT_.out (by kernel_rfl)) (fun _ _ _ h => h) (Or.inl ⟨by rfl, ?_⟩) ?_ ?_
                rotate_left
                · intro w'
                  go_simp
                  with_reducible rfl
                rotate_left
                · simp only [Act.put, sp_]
                  rfl
                refine pure_ (i := 2) (N := some 16) (v := ?_) (a' := ?_) #[true, true, true, false, false, false, false, false, false, false, false, false, false, false, false] rfl rfl (any_of HT_.out (by kernel_rfl)) (fun _ _ _ h => h) (Or.inl ⟨by rfl, ?_⟩) ?_ ?_
                rotate_left
                · intro w'
                  go_simp
                  with_reducible rfl
                rotate_left
                · simp only [Act.put, sp_]
                  rfl
                refine pure_ (i := 3) (N := some 17) (v := ?_) (a' := ?_) #[true, true, true, true, false, false, false, false, false, false, false, false, false, false, false] rfl rfl (any_of HT_.out (by kernel_rfl)) (fun _ _ _ h => h) (Or.inl ⟨by rfl, ?_⟩) ?_ ?_
                rotate_left
                · intro w'
                  go_simp
                  with_reducible rfl
                rotate_left
                · simp only [Act.put, sp_]
                  rfl
                refine pure_ (i := 4) (N := some 18) (v := ?_) (a' := ?_) #[true, true, true, true, true, false, false, false, false, false, false, false, false, false, false] rfl rfl (any_of HT_.out (by kernel_rfl)) (fun _ _ _ h => h) (Or.inl ⟨by rfl, ?_⟩) ?_ ?_
                rotate_left
                · intro w'
                  go_simp
                  with_reducible rfl
                rotate_left
                · simp only [Act.put, sp_]
                  rfl
                refine pure_ (i := 5) (N := some 19) (v := ?_) (a' := ?_) #[true, true, true, true, true, true, false, false, false, false, false, false, false, false, false] rfl rfl (any_of HT_.out (by kernel_rfl)) (fun _ _ _ h => h) (Or.inl ⟨by rfl, ?_⟩) ?_ ?_
                rotate_left
                · intro w'
                  go_simp
                  with_reducible rfl
                rotate_left
                · simp only [Act.put, sp_]
                  rfl
                refine take_ (i := 6) (N := some 20) (v := .agg #[.int .i8 (rd_T58 l0 x6).f0.f0, .int .i8 (rd_T58 l0 x6).f0.f1, .int .i8 (rd_T58 l0 x6).f0.f2, .int .i8 (rd_T58 l0 x6).f0.f3, .int .i8 (rd_T58 l0 x6).f0.f4, .int .i8 (rd_T58 l0 x6).f0.f5, .int .i8 (rd_T58 l0 x6).f0.f6, .int .i8 (rd_T58 l0 x6).f0.f7, .int .i8 (rd_T58 l0 x6).f0.f8, .int .i8 (rd_T58 l0 x6).f0.f9, .int .i8 (rd_T58 l0 x6).f0.f10, .int .i8 (rd_T58 l0 x6).f0.f11, .int .i8 (rd_T58 l0 x6).f0.f12, .int .i8 (rd_T58 l0 x6).f0.f13]) (a' := ?_) #[true, true, true, true, true, true, true, false, false, false, false, false, false, false, false] rfl rfl (take_ofW HT_.out HW_.out (by kernel_rfl)) (fun _ _ _ h => h) (Or.inl ⟨by rfl, fun w' hs => exec_load 26 (.tmp 19) rfl rfl (run_pans (Kd.C_below HRW hs) x6 c5 c4 rfl)⟩) hHeld ?_ ?_
                rotate_left
                · simp only [Act.put, sp_]
                  rfl
                refine take_ (i := 7) (N := some 21) (v := .agg #[.int .i8 a1_0, .bool a1_1]) (a' := ?_) #[true, true, true, true, true, true, true, true, false, false, false, false, false, false, false] rfl rfl (take_ofW HT_.out HW_.out (by kernel_rfl)) (fun _ _ _ h => h) (Or.inl ⟨by rfl, fun w' hs => exec_load 43 (.tmp 3) rfl rfl (run_case (blk_below BK3.out hs))⟩) hHeld ?_ ?_
                rotate_left
                · simp only [Act.put, sp_]
                  rfl
                refine pure_ (i := 10) (N := some 24) (v := ?_) (a' := ?_) #[true, true, true, true, true, true, true, true, false, false, true, false, false, false, false] rfl rfl (any_of HT_.out (by kernel_rfl)) (fun _ _ _ h => h) (Or.inl ⟨by rfl, ?_⟩) ?_ ?_
                rotate_left
                · intro w'
                  go_simp
                  with_reducible rfl
                rotate_left
                · simp only [Act.put, sp_]
                  rfl
                refine pure_ (i := 11) (N := some 25) (v := ?_) (a' := ?_) #[true, true, true, true, true, true, true, true, false, false, true, true, false, false, false] rfl rfl (any_of HT_.out (by kernel_rfl)) (fun _ _ _ h => h) (Or.inl ⟨by rfl, ?_⟩) ?_ ?_
                rotate_left
                · intro w'
                  go_simp
                  with_reducible rfl
                rotate_left
                · simp only [Act.put, sp_]
                  rfl
                refine one_ (i := 8) (N := some 22) #[true, true, true, true, true, true, true, true, true, false, true, true, false, false, false] rfl rfl (one_of HT_.out (by kernel_rfl)) (by decide) (fun K hK => ?_)
                refine goes_ Try.func50 (by kernel_rfl) rfl #[.agg #[.int .i8 (rd_T58 l0 x6).f0.f0, .int .i8 (rd_T58 l0 x6).f0.f1, .int .i8 (rd_T58 l0 x6).f0.f2, .int .i8 (rd_T58 l0 x6).f0.f3, .int .i8 (rd_T58 l0 x6).f0.f4, .int .i8 (rd_T58 l0 x6).f0.f5, .int .i8 (rd_T58 l0 x6).f0.f6, .int .i8 (rd_T58 l0 x6).f0.f7, .int .i8 (rd_T58 l0 x6).f0.f8, .int .i8 (rd_T58 l0 x6).f0.f9, .int .i8 (rd_T58 l0 x6).f0.f10, .int .i8 (rd_T58 l0 x6).f0.f11, .int .i8 (rd_T58 l0 x6).f0.f12, .int .i8 (rd_T58 l0 x6).f0.f13], .agg #[.int .i8 a1_0, .bool a1_1]] (by rfl) rfl rfl arg_ ?_
                with_reducible refine (B.impl_resultOf.calls (rd_T58 l0 x6).f0.f0 (rd_T58 l0 x6).f0.f1 (rd_T58 l0 x6).f0.f2 (rd_T58 l0 x6).f0.f3 (rd_T58 l0 x6).f0.f4 (rd_T58 l0 x6).f0.f5 (rd_T58 l0 x6).f0.f6 (rd_T58 l0 x6).f0.f7 (rd_T58 l0 x6).f0.f8 (rd_T58 l0 x6).f0.f9 (rd_T58 l0 x6).f0.f10 (rd_T58 l0 x6).f0.f11 (rd_T58 l0 x6).f0.f12 (rd_T58 l0 x6).f0.f13 a1_0 a1_1 t _ A7.out).mono ?_
                rintro e w10 ⟨rfl, hb⟩
                refine ⟨_, rfl, ?_⟩
                have n0_ := A_ (blk_below BK3.out hb)
                have n1_ := A_ (blk_below BK4.out hb)
                have n2_ := A_ (below_step HB.out hb)
                clear BK3 BK4 HB
                have BK3 := n0_
                have BK4 := n1_
                have HB := n2_
                clear n0_ n1_ n2_
                refine hK.out _ _ (hb) (fun hHeld => ?_)
                clear hK K
                refine norm_ (a' := ?_) ?_ ?_
                rotate_left
                · show Act.put _ (some 22) _ = _
                  simp only [Act.put, sp_]
                  rfl
                refine pure_ (i := 9) (N := some 23) (v := ?_) (a' := ?_) #[true, true, true, true, true, true, true, true, true, true, true, true, false, false, false] rfl rfl (any_of HT_.out (by kernel_rfl)) (fun _ _ _ h => h) (Or.inl ⟨by rfl, ?_⟩) ?_ ?_
                rotate_left
                · intro w'
                  go_simp
                  with_reducible rfl
                rotate_left
                · simp only [Act.put, sp_]
                  rfl
                refine pure_ (i := 12) (N := some 26) (v := ?_) (a' := ?_) #[true, true, true, true, true, true, true, true, true, true, true, true, true, false, false] rfl rfl (any_of HT_.out (by kernel_rfl)) (fun _ _ _ h => h) (Or.inl ⟨by rfl, ?_⟩) ?_ ?_
                rotate_left
                · intro w'
                  go_simp
                  with_reducible rfl
                rotate_left
                · simp only [Act.put, sp_]
                  rfl
                refine take_ (i := 13) (N := some 27) (v := .int .i16 (rd [(rd_T58 l0 x6).f1.f0, (rd_T58 l0 x6).f1.f1, (rd_T58 l0 x6).f1.f2] (wrap64 (t + 1)))) (a' := ?_) #[true, true, true, true, true, true, true, true, true, true, true, true, true, true, false] rfl rfl (take_ofW HT_.out HW_.out (by kernel_rfl)) (fun _ _ _ h => h) (Or.inl ⟨by rfl, fun w' hs => by have hx := next_at (Kd.C_below HRW hs) x6 c5 c4 rfl (wrap64 (t + 1)) j0 j3; go_simp⟩) hHeld ?_ ?_
                rotate_left
                · simp only [Act.put, sp_]
                  rfl
                refine pure_ (i := 14) (N := some 6) (v := ?_) (a' := ?_) #[true, true, true, true, true, true, true, true, true, true, true, true, true, true, true] rfl rfl (any_of HT_.out (by kernel_rfl)) (fun _ _ _ h => h) (Or.inl ⟨by rfl, ?_⟩) ?_ ?_
                rotate_left
                · intro w'
                  go_simp
                  with_reducible rfl
                rotate_left
                · simp only [Act.put, sp_]
                  rfl
                refine done_ (done_of HT_.out (by kernel_rfl)) ?_
                go_wp2
                go_roundg k1
                case measure => have := HK1.out; omega
                case rel => exact ⟨_, (wrap64 (x7 + 1)), rs_, rs_, H', ⟨by have := HK1.out; omega⟩, ⟨BK3.out⟩, ⟨BK4.out⟩, ⟨HB.out⟩⟩
              · rw [if_neg j3] at H
                cases H
            · rw [if_neg j0] at H
              cases H
        · rw [if_neg c4] at H
          cases H
      · rw [if_neg c5] at H
        cases H
end Go.Proofs.Ytcghglembmohcaa.M
