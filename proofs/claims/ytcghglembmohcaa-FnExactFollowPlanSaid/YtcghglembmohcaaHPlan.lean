/- spec.l03Plan, told by hand. -/
import Derived.Test.YtcghglembmohcaaHRun
import Derived.Test.YtcghglembmohcaaBx14
import Derived.Test.YtcghglembmohcaaBx15
namespace Go.Proofs.Ytcghglembmohcaa.M
open Go.RowKit Go.Proofs.YtcghglembmohcaaW.PrintWords Go.Proofs.YtcghglembmohcaaW.PrintLast Go.Proofs.YtcghglembmohcaaW.PrintMore
attribute [local go_sem high] B.eqA26 B.eqA43 B.eqA56
set_option linter.unusedVariables false
set_option linter.unusedSimpArgs false

theorem run_nexts {w : World} {A : Option Addr} {n : Nat} {xs : List S58} (h : Kd.C k58 w A n xs) (i : Int) (h0 : 0 ≤ i) (h1 : i < n) {ad : Addr} (hA : A = some ad) :
    (Instr.loadAt 56 (.pointer (some ⟨(ad.add (i.toNat * 20)).block, (ad.add (i.toNat * 20)).off + 14, none⟩))).run Try.prog w = .ok (.agg #[.int .i16 (rd_T58 xs i).f1.f0, .int .i16 (rd_T58 xs i).f1.f1, .int .i16 (rd_T58 xs i).f1.f2]) w :=
  run_load_list w _ 56 [.int .i16 (rd_T58 xs i).f1.f0, .int .i16 (rd_T58 xs i).f1.f1, .int .i16 (rd_T58 xs i).f1.f2] _ (fun j u hu => by
    rw [Addr.add_mid, Nat.add_assoc]
    refine field_at h i h0 h1 hA (14 + j) (by omega) u ?_
    have e : [Value.int .i16 (rd_T58 xs i).f1.f0, Value.int .i16 (rd_T58 xs i).f1.f1, Value.int .i16 (rd_T58 xs i).f1.f2] = ((cs58 (rd_T58 xs i)).drop 14).take 3 := rfl
    rw [e, List.getElem?_take] at hu
    split at hu
    · rwa [List.getElem?_drop] at hu
    · cases hu) Try.underlying56 rfl (by kernel_rfl)
theorem run_tell {w : World} {A : Option Addr} {n : Nat} {xs : List S58} (h : Kd.C k58 w A n xs) (i : Int) (h0 : 0 ≤ i) (h1 : i < n) {ad : Addr} (hA : A = some ad) :
    (Instr.loadAt 43 (.pointer (some ⟨(ad.add (i.toNat * 20)).block, (ad.add (i.toNat * 20)).off + 17, none⟩))).run Try.prog w = .ok (.agg #[.int .i8 (rd_T58 xs i).f2.f0, .bool (rd_T58 xs i).f2.f1]) w :=
  run_load_list w _ 43 [.int .i8 (rd_T58 xs i).f2.f0, .bool (rd_T58 xs i).f2.f1] _ (fun j u hu => by
    rw [Addr.add_mid, Nat.add_assoc]
    refine field_at h i h0 h1 hA (17 + j) (by omega) u ?_
    have e : [Value.int .i8 (rd_T58 xs i).f2.f0, Value.bool (rd_T58 xs i).f2.f1] = ((cs58 (rd_T58 xs i)).drop 17).take 2 := rfl
    rw [e, List.getElem?_take] at hu
    split at hu
    · rwa [List.getElem?_drop] at hu
    · cases hu) Try.underlying43 rfl (by kernel_rfl)
theorem run_task {w : World} {g : Nat} {a b : Int} {c d : Bool} (h : w.heap[g]? = some (.cells #[.int .i8 a, .int .i8 b, .bool c, .bool d] 29 (0, 0))) : (Instr.loadAt 29 (.pointer (some ⟨g, 0, none⟩))).run Try.prog w = .ok (.agg #[.int .i8 a, .int .i8 b, .bool c, .bool d]) w :=
  run_load_list w ⟨g, 0, none⟩ 29 [.int .i8 a, .int .i8 b, .bool c, .bool d] _ (fun j u hu => by
    rw [Addr.add_mid, cell_of_row w g _ _ 29 (0, 0) h, ← Array.getElem?_toList, Nat.zero_add]
    exact hu) Try.underlying29 rfl (by kernel_rfl)
mutual
def spec_l03Plan.l0 : Nat → List S58 → Int → Int → Int → Bool → Bool → Option Bool
  | 0, _, _, _, _, _, _ => none
  | k + 1, l1, x5, a0_0, a0_1, a0_2, a0_3 => if x5 < (l1.length : Int) then (if 0 ≤ x5 then (if (rd_T58 l1 x5).f3 = true then (if ((rd_T58 l1 x5).f0.f0 == 0 && ((rd_T58 l1 x5).f0.f1 == 0 && ((rd_T58 l1 x5).f0.f2 == 0 && ((rd_T58 l1 x5).f0.f3 == 0 && ((rd_T58 l1 x5).f0.f4 == 0 && ((rd_T58 l1 x5).f0.f5 == 0 && ((rd_T58 l1 x5).f0.f6 == 0 && ((rd_T58 l1 x5).f0.f7 == 0 && ((rd_T58 l1 x5).f0.f8 == 0 && ((rd_T58 l1 x5).f0.f9 == 0 && ((rd_T58 l1 x5).f0.f10 == 0 && ((rd_T58 l1 x5).f0.f11 == 0 && ((rd_T58 l1 x5).f0.f12 == 0 && ((rd_T58 l1 x5).f0.f13 == 0)))))))))))))) = true then (if ((rd_T58 l1 x5).f1.f0 == 0 && ((rd_T58 l1 x5).f1.f1 == 0 && ((rd_T58 l1 x5).f1.f2 == 0))) = true then ((B.spec_l03Find.f k a0_0 a0_1 a0_2 a0_3 (rd_T58 l1 x5).f2.f0 (rd_T58 l1 x5).f2.f1).bind fun q => if q < 0 then some false else spec_l03Plan.l0 k l1 (wrap64 (x5 + 1)) a0_0 a0_1 a0_2 a0_3) else some false) else some false)
      else (if ((rd_T58 l1 x5).f0.f0 == 0 && ((rd_T58 l1 x5).f0.f1 == 0 && ((rd_T58 l1 x5).f0.f2 == 0 && ((rd_T58 l1 x5).f0.f3 == 0 && ((rd_T58 l1 x5).f0.f4 == 0 && ((rd_T58 l1 x5).f0.f5 == 0 && ((rd_T58 l1 x5).f0.f6 == 0 && ((rd_T58 l1 x5).f0.f7 == 0 && ((rd_T58 l1 x5).f0.f8 == 0 && ((rd_T58 l1 x5).f0.f9 == 0 && ((rd_T58 l1 x5).f0.f10 == 0 && ((rd_T58 l1 x5).f0.f11 == 0 && ((rd_T58 l1 x5).f0.f12 == 0 && ((rd_T58 l1 x5).f0.f13 == 0)))))))))))))) = true then some false else ((B.spec_l03Weighing.f k a0_0 a0_1 a0_2 a0_3 (rd_T58 l1 x5).f0.f0 (rd_T58 l1 x5).f0.f1 (rd_T58 l1 x5).f0.f2 (rd_T58 l1 x5).f0.f3 (rd_T58 l1 x5).f0.f4 (rd_T58 l1 x5).f0.f5 (rd_T58 l1 x5).f0.f6 (rd_T58 l1 x5).f0.f7 (rd_T58 l1 x5).f0.f8 (rd_T58 l1 x5).f0.f9 (rd_T58 l1 x5).f0.f10 (rd_T58 l1 x5).f0.f11 (rd_T58 l1 x5).f0.f12 (rd_T58 l1 x5).f0.f13).bind fun b => if b = true then (if ((rd_T58 l1 x5).f2.f0 == 0 && !(rd_T58 l1 x5).f2.f1) = true then spec_l03Plan.l1 k l1 x5 0 a0_0 a0_1 a0_2 a0_3 else some false) else some false))) else none) else some true
def spec_l03Plan.l1 : Nat → List S58 → Int → Int → Int → Int → Bool → Bool → Option Bool
  | 0, _, _, _, _, _, _, _ => none
  | k + 1, l1, x5, x7, a0_0, a0_1, a0_2, a0_3 => if x7 < 3 then (if 0 ≤ x7 then (if wrap64 (rd [(rd_T58 l1 x5).f1.f0, (rd_T58 l1 x5).f1.f1, (rd_T58 l1 x5).f1.f2] x7) ≤ x5 then some false else if wrap64 (rd [(rd_T58 l1 x5).f1.f0, (rd_T58 l1 x5).f1.f1, (rd_T58 l1 x5).f1.f2] x7) ≥ (l1.length : Int) then some false else spec_l03Plan.l1 k l1 x5 (wrap64 (x7 + 1)) a0_0 a0_1 a0_2 a0_3) else none) else spec_l03Plan.l0 k l1 (wrap64 (x5 + 1)) a0_0 a0_1 a0_2 a0_3
end
def spec_l03Plan.f (k : Nat) (a0_0 : Int) (a0_1 : Int) (a0_2 : Bool) (a0_3 : Bool) (l1 : List S58) : Option Bool := (B.spec_l00In.f (l1.length : Int) 1 400).bind fun t => if t = true then spec_l03Plan.l0 k l1 0 a0_0 a0_1 a0_2 a0_3 else some false
theorem spec_l03Plan.mono_l : ∀ k, (∀ y0 y1 y2 y3 y4 y5, LeO (spec_l03Plan.l0 k y0 y1 y2 y3 y4 y5) (spec_l03Plan.l0 (k + 1) y0 y1 y2 y3 y4 y5)) ∧ (∀ y0 y1 y2 y3 y4 y5 y6, LeO (spec_l03Plan.l1 k y0 y1 y2 y3 y4 y5 y6) (spec_l03Plan.l1 (k + 1) y0 y1 y2 y3 y4 y5 y6))
  | 0 => ⟨fun _ _ _ _ _ _ r h => by simp [spec_l03Plan.l0] at h, fun _ _ _ _ _ _ _ r h => by simp [spec_l03Plan.l1] at h⟩
  | k + 1 => by
    have ih := spec_l03Plan.mono_l k
    have ih0 := ih.1
    have ih1 := ih.2
    constructor
    · intro y0 y1 y2 y3 y4 y5
      unfold spec_l03Plan.l0
      repeat' first
        | (with_reducible exact ih0 _ _ _ _ _ _)
        | (with_reducible exact ih1 _ _ _ _ _ _ _)
        | (with_reducible exact B.spec_l03Find.mono _ _ _ _ _ _ _)
        | (with_reducible exact B.spec_l03Weighing.mono _ _ _ _ _ _ _ _ _ _ _ _ _ _ _ _ _ _ _)
        | (with_reducible exact LeO.refl _)
        | (with_reducible exact LeO.none _)
        | (with_reducible refine LeO.ite ?_ ?_)
        | (with_reducible refine LeO.bind ?_ (fun _ => ?_))
    · intro y0 y1 y2 y3 y4 y5 y6
      unfold spec_l03Plan.l1
      repeat' first
        | (with_reducible exact ih0 _ _ _ _ _ _)
        | (with_reducible exact ih1 _ _ _ _ _ _ _)
        | (with_reducible exact LeO.refl _)
        | (with_reducible exact LeO.none _)
        | (with_reducible refine LeO.ite ?_ ?_)
theorem spec_l03Plan.mono : ∀ a0 a1 a2 a3 a4 k, LeO (spec_l03Plan.f k a0 a1 a2 a3 a4) (spec_l03Plan.f (k + 1) a0 a1 a2 a3 a4) := by
  intro a0 a1 a2 a3 a4 k
  unfold spec_l03Plan.f
  refine LeO.bind (LeO.refl _) (fun _ => LeO.ite ((spec_l03Plan.mono_l k).1 _ _ _ _ _ _) (LeO.refl _))
def spec_l03Plan.T8 : Bool × List (List Nat × List Nat) := (true, [([], []), ([0], [0]), ([1], [1]), ([2], [2]), ([], []), ([3, 4], [3, 4]), ([5], [5]), ([6], [6]), ([7, 6], [6, 7]), ([8, 6], [6, 8]), ([9, 6], [6, 9]), ([6], [6]), ([10, 11, 6], [6, 10, 11]), ([6, 12], [6, 12]), ([13, 6], [13]), ([14], [14]), ([14], [14]), ([16, 14], [14, 16]), ([17, 14], [14, 17]), ([18, 14], [14, 18]), ([15, 19, 14, 14], [14, 15, 19]), ([20, 14], [14, 20]), ([14, 21], [14, 21])])
def spec_l03Plan.B8 : List Nat := [0, 1, 3, 7, 0, 31, 63, 127, 255, 511, 1023, 127, 4095, 8191, 16383, 32767, 32767, 98303, 229375, 491519, 1048575, 2097151, 4194303]
theorem spec_l03Plan.tab8 : rtab .any (opsOf Try.f31 8) = spec_l03Plan.T8 := by kernel_rfl
theorem spec_l03Plan.bits8 : waitsOk spec_l03Plan.T8.2 spec_l03Plan.B8 = true := by kernel_rfl
def spec_l03Plan.T10 : Bool × List (List Nat × List Nat) := (true, [([], []), ([0], [0]), ([1], [1]), ([2], [2]), ([], []), ([3, 4], [3, 4]), ([5], [5]), ([6], [6]), ([6], [6]), ([8, 6], [6, 8]), ([9, 6], [6, 9]), ([10, 6], [6, 10]), ([7, 11, 6, 6], [6, 7, 11]), ([12, 6], [6, 12]), ([6, 13], [6, 13]), ([14, 12], [14]), ([15], [15]), ([16, 15], [15, 16]), ([17, 15], [15, 17]), ([18, 15], [15, 18]), ([15], [15]), ([19, 20, 15], [15, 19, 20]), ([15, 21], [15, 21])])
def spec_l03Plan.B10 : List Nat := [0, 1, 3, 7, 0, 31, 63, 127, 127, 383, 895, 1919, 4095, 8191, 16383, 32767, 65535, 131071, 262143, 524287, 65535, 2097151, 4194303]
theorem spec_l03Plan.tab10 : rtab .any (opsOf Try.f31 10) = spec_l03Plan.T10 := by kernel_rfl
theorem spec_l03Plan.bits10 : waitsOk spec_l03Plan.T10.2 spec_l03Plan.B10 = true := by kernel_rfl
set_option maxHeartbeats 8000000 in
set_option maxRecDepth 100000 in
theorem spec_l03Plan.calls (k : Nat) (a0_0 : Int) (a0_1 : Int) (a0_2 : Bool) (a0_3 : Bool) (A1 : Option Addr) (c1 : Nat) (l1 : List S58) (r : Bool) (w : World) (hr1 : Kd.C k58 w A1 l1.length l1) (hc1 : l1.length ≤ c1) (h : spec_l03Plan.f k a0_0 a0_1 a0_2 a0_3 l1 = some r) :
    Calls Try.prog 31 #[.agg #[.int .i8 a0_0, .int .i8 a0_1, .bool a0_2, .bool a0_3], .slice A1 l1.length c1] w fun e w' => e = .returned (.bool r) ∧ Below w.heap.size w w' := by
  have HR1 := Aside0.mk hr1
  have HB := A_ (Below.refl w.heap.size w)
  clear hr1
  unfold spec_l03Plan.f at h
  obtain ⟨t, A20, h⟩ := Option.bind_eq_some_iff.mp h
  have A2 := Aside0.mk A20
  clear A20
  cases t with
  | false =>
    rw [if_neg (by simp)] at h
    obtain rfl := Option.some.inj h
    go_enter Try.func31, Try.ntmps31
    go_wp2_with (first | ((with_reducible refine gate_dst (N := 2) rfl ?_); refine box_event ?hg (N := 2) ?hd (cs := #[.int .i8 a0_0, .int .i8 a0_1, .bool a0_2, .bool a0_3]) (t := 29) ?hr ?_; (case hd => rfl); (case hg => rfl); (case hr => first | (go_simp; done) | (go_simp; rfl)); intro gb2 hg w_2 hbox hb; have GE2 := A_ ((by rw [hg]; exact (below_size HB.out) : w.heap.size ≤ gb2)); have n_ := A_ (below_step HB.out hb); clear HB; have HB := n_; clear n_; have BK2 := A_ hbox; clear hb hbox hg) | ((with_reducible refine gate_callee (f := 39) rfl ?_); refine goesL_ (some 10) rfl rfl Try.func39 (by kernel_rfl) rfl #[.int .i64 (l1.length : Int), .int .i64 1, .int .i64 400] rfl arg_ ?_; (with_reducible refine ((B.spec_l00In.calls (l1.length : Int) 1 400 false _ A2.out).mono (fun e w' h => (⟨h.1, h.2.below⟩ : e = .returned (.bool false) ∧ Below _ _ w'))).mono ?_); rintro e wc39 ⟨rfl, hb⟩; refine ⟨_, rfl, ?_⟩; have n_ := A_ (blk_below BK2.out hb); clear BK2; have BK2 := n_; clear n_; have n_ := A_ (below_step HB.out hb); clear HB; have HB := n_; clear n_; clear hb))
    go_ret
    exact ⟨rfl, HB.out⟩
  | true =>
    rw [if_pos rfl] at h
    have H' := Aside0.mk h
    clear h
    go_enter Try.func31, Try.ntmps31
    go_wp2_with (first | ((with_reducible refine gate_dst (N := 2) rfl ?_); refine box_event ?hg (N := 2) ?hd (cs := #[.int .i8 a0_0, .int .i8 a0_1, .bool a0_2, .bool a0_3]) (t := 29) ?hr ?_; (case hd => rfl); (case hg => rfl); (case hr => first | (go_simp; done) | (go_simp; rfl)); intro gb2 hg w_2 hbox hb; have GE2 := A_ ((by rw [hg]; exact (below_size HB.out) : w.heap.size ≤ gb2)); have n_ := A_ (below_step HB.out hb); clear HB; have HB := n_; clear n_; have BK2 := A_ hbox; clear hb hbox hg) | ((with_reducible refine gate_callee (f := 39) rfl ?_); refine goesL_ (some 10) rfl rfl Try.func39 (by kernel_rfl) rfl #[.int .i64 (l1.length : Int), .int .i64 1, .int .i64 400] rfl arg_ ?_; (with_reducible refine ((B.spec_l00In.calls (l1.length : Int) 1 400 true _ A2.out).mono (fun e w' h => (⟨h.1, h.2.below⟩ : e = .returned (.bool true) ∧ Below _ _ w'))).mono ?_); rintro e wc39 ⟨rfl, hb⟩; refine ⟨_, rfl, ?_⟩; have n_ := A_ (blk_below BK2.out hb); clear BK2; have BK2 := n_; clear n_; have n_ := A_ (below_step HB.out hb); clear HB; have HB := n_; clear n_; clear hb))
    go_loopg [5] k (fun kq v5 w' => ∃ (x5 : Int), v5 = .int .i64 x5 ∧ Aside0 (spec_l03Plan.l0 kq l1 x5 a0_0 a0_1 a0_2 a0_3 = some r) ∧ Aside0 (kq ≤ k) ∧ Aside0 (w'.heap[gb2]? = some (.cells #[.int .i8 a0_0, .int .i8 a0_1, .bool a0_2, .bool a0_3] 29 (0, 0))) ∧ Aside0 (Below w.heap.size w w'))
    case atStart => exact ⟨0, rs_, H', ⟨Nat.le_refl _⟩, ⟨BK2.out⟩, ⟨HB.out⟩⟩
    case round =>
      clear H' BK2 HB
      obtain ⟨x5, rfl, HA, HK1, BK2, HB⟩ := hrel
      cases gk with
      | zero => exact absurd HA.out (by simp [spec_l03Plan.l0])
      | succ k1 =>
        have H := HA.out
        clear HA
        simp only [spec_l03Plan.l0] at H
        by_cases c4 : x5 < (l1.length : Int)
        · rw [if_pos c4] at H
          have c4b : decide (x5 < (l1.length : Int)) = true := decide_eq_true c4
          by_cases c5 : 0 ≤ x5
          · rw [if_pos c5] at H
            obtain ⟨ad, e0, hn0⟩ := node_at (Kd.C_below HR1.out HB.out) x5 c5 c4
            clear hn0
            cases e0
            have hleaf := leaf_at (Kd.C_below HR1.out HB.out) x5 c5 c4 rfl
            by_cases c8 : (rd_T58 l1 x5).f3 = true
            · rw [if_pos c8] at H
              by_cases cP : ((rd_T58 l1 x5).f0.f0 == 0 && ((rd_T58 l1 x5).f0.f1 == 0 && ((rd_T58 l1 x5).f0.f2 == 0 && ((rd_T58 l1 x5).f0.f3 == 0 && ((rd_T58 l1 x5).f0.f4 == 0 && ((rd_T58 l1 x5).f0.f5 == 0 && ((rd_T58 l1 x5).f0.f6 == 0 && ((rd_T58 l1 x5).f0.f7 == 0 && ((rd_T58 l1 x5).f0.f8 == 0 && ((rd_T58 l1 x5).f0.f9 == 0 && ((rd_T58 l1 x5).f0.f10 == 0 && ((rd_T58 l1 x5).f0.f11 == 0 && ((rd_T58 l1 x5).f0.f12 == 0 && ((rd_T58 l1 x5).f0.f13 == 0)))))))))))))) = true
              · rw [if_pos cP] at H
                by_cases cN : ((rd_T58 l1 x5).f1.f0 == 0 && ((rd_T58 l1 x5).f1.f1 == 0 && ((rd_T58 l1 x5).f1.f2 == 0))) = true
                · rw [if_pos cN] at H
                  obtain ⟨q, A70, H⟩ := Option.bind_eq_some_iff.mp H
                  have A7 := Aside0.mk A70
                  clear A70
                  by_cases cq : q < 0
                  · rw [if_pos cq] at H
                    obtain rfl := Option.some.inj H
                    have cqb : decide (q < 0) = true := decide_eq_true cq
                    go_wp2
                    have n1_ := A_ (blk_drew BK2.out)
                    have n2_ := A_ (below_drew1 HB.out)
                    clear BK2 HB
                    have BK2 := n1_
                    have HB := n2_
                    clear n1_ n2_
                    refine start_ (n := 23) (S := fun W => Below wr.drew.heap.size wr.drew W) (ds := []) #[false, false, false, false, false, false, false, false, false, false, false, false, false, false, false, false, false, false, false, false, false, false, false] (by kernel_rfl) rfl rfl (Below.refl _ _) (fun hHeld => ?_); refine with_tabW spec_l03Plan.tab8 spec_l03Plan.bits8 (fun HT_ HW_ => ?_)
                    generalize wr.drew = w9 at HB BK2 hHeld ⊢
                    have HRW := Kd.C_below HR1.out HB.out
                    have BKC := BK2.out
                    refine pure_ (i := 0) (N := some 25) (v := ?_) (a' := ?_) #[true, false, false, false, false, false, false, false, false, false, false, false, false, false, false, false, false, false, false, false, false, false, false] rfl rfl (any_of HT_.out (by kernel_rfl)) (fun _ _ _ h => h) (Or.inl ⟨by rfl, ?_⟩) ?_ ?_
                    rotate_left
                    · intro w'
                      go_simp
                      with_reducible rfl
                    rotate_left
                    · simp only [Act.put, sp_]
                      rfl
                    refine pure_ (i := 1) (N := some 26) (v := ?_) (a' := ?_) #[true, true, false, false, false, false, false, false, false, false, false, false, false, false, false, false, false, false, false, false, false, false, false] rfl rfl (any_of HT_.out (by kernel_rfl)) (fun _ _ _ h => h) (Or.inl ⟨by rfl, ?_⟩) ?_ ?_
                    rotate_left
                    · intro w'
                      go_simp
                      with_reducible rfl
                    rotate_left
                    · simp only [Act.put, sp_]
                      rfl
                    refine pure_ (i := 2) (N := some 27) (v := ?_) (a' := ?_) #[true, true, true, false, false, false, false, false, false, false, false, false, false, false, false, false, false, false, false, false, false, false, false] rfl rfl (any_of HT_.out (by kernel_rfl)) (fun _ _ _ h => h) (Or.inl ⟨by rfl, ?_⟩) ?_ ?_
                    rotate_left
                    · intro w'
                      go_simp
                      with_reducible rfl
                    rotate_left
                    · simp only [Act.put, sp_]
                      rfl
                    refine take_ (i := 3) (N := some 28) (v := .agg #[.int .i8 (rd_T58 l1 x5).f0.f0, .int .i8 (rd_T58 l1 x5).f0.f1, .int .i8 (rd_T58 l1 x5).f0.f2, .int .i8 (rd_T58 l1 x5).f0.f3, .int .i8 (rd_T58 l1 x5).f0.f4, .int .i8 (rd_T58 l1 x5).f0.f5, .int .i8 (rd_T58 l1 x5).f0.f6, .int .i8 (rd_T58 l1 x5).f0.f7, .int .i8 (rd_T58 l1 x5).f0.f8, .int .i8 (rd_T58 l1 x5).f0.f9, .int .i8 (rd_T58 l1 x5).f0.f10, .int .i8 (rd_T58 l1 x5).f0.f11, .int .i8 (rd_T58 l1 x5).f0.f12, .int .i8 (rd_T58 l1 x5).f0.f13]) (a' := ?_) #[true, true, true, true, false, false, false, false, false, false, false, false, false, false, false, false, false, false, false, false, false, false, false] rfl rfl (take_ofW HT_.out HW_.out (by kernel_rfl)) (fun _ _ _ h => h) (Or.inl ⟨by rfl, fun w' hs => exec_load 26 (.tmp 27) rfl rfl (run_pans (Kd.C_below HRW hs) x5 c5 c4 rfl)⟩) hHeld ?_ ?_
                    rotate_left
                    · simp only [Act.put, sp_]
                      rfl
                    refine pure_ (i := 4) (N := some 29) (v := ?_) (a' := ?_) #[true, true, true, true, true, false, false, false, false, false, false, false, false, false, false, false, false, false, false, false, false, false, false] rfl rfl (any_of HT_.out (by kernel_rfl)) (fun _ _ _ h => h) (Or.inl ⟨by rfl, ?_⟩) ?_ ?_
                    rotate_left
                    · intro w'
                      go_simp
                      with_reducible rfl
                    rotate_left
                    · simp only [Act.put, sp_]
                      rfl
                    refine pure_ (i := 5) (N := some 30) (v := ?_) (a' := ?_) #[true, true, true, true, true, true, false, false, false, false, false, false, false, false, false, false, false, false, false, false, false, false, false] rfl rfl (any_of HT_.out (by kernel_rfl)) (fun _ _ _ h => h) (Or.inl ⟨by rfl, ?_⟩) ?_ ?_
                    rotate_left
                    · intro w'
                      go_simp
                      with_reducible rfl
                    rotate_left
                    · simp only [Act.put, sp_]
                      rfl
                    refine pure_ (i := 6) (N := some 31) (v := ?_) (a' := ?_) #[true, true, true, true, true, true, true, false, false, false, false, false, false, false, false, false, false, false, false, false, false, false, false] rfl rfl (any_of HT_.out (by kernel_rfl)) (fun _ _ _ h => h) (Or.inl ⟨by rfl, ?_⟩) ?_ ?_
                    rotate_left
                    · intro w'
                      go_simp
                      with_reducible rfl
                    rotate_left
                    · simp only [Act.put, sp_]
                      rfl
                    refine pure_ (i := 7) (N := some 32) (v := ?_) (a' := ?_) #[true, true, true, true, true, true, true, true, false, false, false, false, false, false, false, false, false, false, false, false, false, false, false] rfl rfl (any_of HT_.out (by kernel_rfl)) (fun _ _ _ h => h) (Or.inl ⟨by rfl, ?_⟩) ?_ ?_
                    rotate_left
                    · intro w'
                      go_simp
                      with_reducible rfl
                    rotate_left
                    · simp only [Act.put, sp_]
                      rfl
                    refine pure_ (i := 8) (N := some 33) (v := ?_) (a' := ?_) #[true, true, true, true, true, true, true, true, true, false, false, false, false, false, false, false, false, false, false, false, false, false, false] rfl rfl (any_of HT_.out (by kernel_rfl)) (fun _ _ _ h => h) (Or.inl ⟨by rfl, ?_⟩) ?_ ?_
                    rotate_left
                    · intro w'
                      go_simp
                      with_reducible rfl
                    rotate_left
                    · simp only [Act.put, sp_]
                      rfl
                    refine pure_ (i := 9) (N := some 34) (v := ?_) (a' := ?_) #[true, true, true, true, true, true, true, true, true, true, false, false, false, false, false, false, false, false, false, false, false, false, false] rfl rfl (any_of HT_.out (by kernel_rfl)) (fun _ _ _ h => h) (Or.inl ⟨by rfl, ?_⟩) ?_ ?_
                    rotate_left
                    · intro w'
                      go_simp
                      with_reducible rfl
                    rotate_left
                    · simp only [Act.put, sp_]
                      rfl
                    refine take_ (i := 10) (N := some 35) (v := .agg #[.int .i16 (rd_T58 l1 x5).f1.f0, .int .i16 (rd_T58 l1 x5).f1.f1, .int .i16 (rd_T58 l1 x5).f1.f2]) (a' := ?_) #[true, true, true, true, true, true, true, true, true, true, true, false, false, false, false, false, false, false, false, false, false, false, false] rfl rfl (take_ofW HT_.out HW_.out (by kernel_rfl)) (fun _ _ _ h => h) (Or.inl ⟨by rfl, fun w' hs => exec_load 56 (.tmp 34) rfl rfl (run_nexts (Kd.C_below HRW hs) x5 c5 c4 rfl)⟩) hHeld ?_ ?_
                    rotate_left
                    · simp only [Act.put, sp_]
                      rfl
                    refine pure_ (i := 11) (N := some 36) (v := ?_) (a' := ?_) #[true, true, true, true, true, true, true, true, true, true, true, true, false, false, false, false, false, false, false, false, false, false, false] rfl rfl (any_of HT_.out (by kernel_rfl)) (fun _ _ _ h => h) (Or.inl ⟨by rfl, ?_⟩) ?_ ?_
                    rotate_left
                    · intro w'
                      go_simp
                      with_reducible rfl
                    rotate_left
                    · simp only [Act.put, sp_]
                      rfl
                    refine pure_ (i := 12) (N := some 37) (v := ?_) (a' := ?_) #[true, true, true, true, true, true, true, true, true, true, true, true, true, false, false, false, false, false, false, false, false, false, false] rfl rfl (any_of HT_.out (by kernel_rfl)) (fun _ _ _ h => h) (Or.inl ⟨by rfl, ?_⟩) ?_ ?_
                    rotate_left
                    · intro w'
                      go_simp
                      with_reducible rfl
                    rotate_left
                    · simp only [Act.put, sp_]
                      rfl
                    refine pure_ (i := 13) (N := some 38) (v := ?_) (a' := ?_) #[true, true, true, true, true, true, true, true, true, true, true, true, true, true, false, false, false, false, false, false, false, false, false] rfl rfl (any_of HT_.out (by kernel_rfl)) (fun _ _ _ h => h) (Or.inl ⟨by rfl, ?_⟩) ?_ ?_
                    rotate_left
                    · intro w'
                      go_simp
                      with_reducible rfl
                    rotate_left
                    · simp only [Act.put, sp_]
                      rfl
                    refine pure_ (i := 14) (N := some 39) (v := ?_) (a' := ?_) #[true, true, true, true, true, true, true, true, true, true, true, true, true, true, true, false, false, false, false, false, false, false, false] rfl rfl (any_of HT_.out (by kernel_rfl)) (fun _ _ _ h => h) (Or.inl ⟨by rfl, ?_⟩) ?_ ?_
                    rotate_left
                    · intro w'
                      go_simp
                      with_reducible rfl
                    rotate_left
                    · simp only [Act.put, sp_]
                      rfl
                    refine take_ (i := 15) (N := some 40) (v := .agg #[.int .i8 a0_0, .int .i8 a0_1, .bool a0_2, .bool a0_3]) (a' := ?_) #[true, true, true, true, true, true, true, true, true, true, true, true, true, true, true, true, false, false, false, false, false, false, false] rfl rfl (take_ofW HT_.out HW_.out (by kernel_rfl)) (fun _ _ _ h => h) (Or.inl ⟨by rfl, fun w' hs => exec_load 29 (.tmp 2) rfl rfl (run_task (blk_below BKC hs))⟩) hHeld ?_ ?_
                    rotate_left
                    · simp only [Act.put, sp_]
                      rfl
                    refine pure_ (i := 16) (N := some 41) (v := ?_) (a' := ?_) #[true, true, true, true, true, true, true, true, true, true, true, true, true, true, true, true, true, false, false, false, false, false, false] rfl rfl (any_of HT_.out (by kernel_rfl)) (fun _ _ _ h => h) (Or.inl ⟨by rfl, ?_⟩) ?_ ?_
                    rotate_left
                    · intro w'
                      go_simp
                      with_reducible rfl
                    rotate_left
                    · simp only [Act.put, sp_]
                      rfl
                    refine pure_ (i := 17) (N := some 42) (v := ?_) (a' := ?_) #[true, true, true, true, true, true, true, true, true, true, true, true, true, true, true, true, true, true, false, false, false, false, false] rfl rfl (any_of HT_.out (by kernel_rfl)) (fun _ _ _ h => h) (Or.inl ⟨by rfl, ?_⟩) ?_ ?_
                    rotate_left
                    · intro w'
                      go_simp
                      with_reducible rfl
                    rotate_left
                    · simp only [Act.put, sp_]
                      rfl
                    refine pure_ (i := 18) (N := some 43) (v := ?_) (a' := ?_) #[true, true, true, true, true, true, true, true, true, true, true, true, true, true, true, true, true, true, true, false, false, false, false] rfl rfl (any_of HT_.out (by kernel_rfl)) (fun _ _ _ h => h) (Or.inl ⟨by rfl, ?_⟩) ?_ ?_
                    rotate_left
                    · intro w'
                      go_simp
                      with_reducible rfl
                    rotate_left
                    · simp only [Act.put, sp_]
                      rfl
                    refine take_ (i := 19) (N := some 44) (v := .agg #[.int .i8 (rd_T58 l1 x5).f2.f0, .bool (rd_T58 l1 x5).f2.f1]) (a' := ?_) #[true, true, true, true, true, true, true, true, true, true, true, true, true, true, true, true, true, true, true, true, false, false, false] rfl rfl (take_ofW HT_.out HW_.out (by kernel_rfl)) (fun _ _ _ h => h) (Or.inl ⟨by rfl, fun w' hs => exec_load 43 (.tmp 43) rfl rfl (run_tell (Kd.C_below HRW hs) x5 c5 c4 rfl)⟩) hHeld ?_ ?_
                    rotate_left
                    · simp only [Act.put, sp_]
                      rfl
                    refine one_ (i := 20) (N := some 45) #[true, true, true, true, true, true, true, true, true, true, true, true, true, true, true, true, true, true, true, true, true, false, false] rfl rfl (one_of HT_.out (by kernel_rfl)) (by decide) (fun K hK => ?_)
                    refine goes_ Try.func36 (by kernel_rfl) rfl #[.agg #[.int .i8 a0_0, .int .i8 a0_1, .bool a0_2, .bool a0_3], .agg #[.int .i8 (rd_T58 l1 x5).f2.f0, .bool (rd_T58 l1 x5).f2.f1]] (by rfl) rfl rfl arg_ ?_
                    with_reducible refine (B.spec_l03Find.calls k1 a0_0 a0_1 a0_2 a0_3 (rd_T58 l1 x5).f2.f0 (rd_T58 l1 x5).f2.f1 q _ A7.out).mono ?_
                    rintro e w10 ⟨rfl, hb⟩
                    refine ⟨_, rfl, ?_⟩
                    have n1_ := A_ (blk_below BK2.out hb)
                    have n2_ := A_ (below_step HB.out hb)
                    clear BK2 HB
                    have BK2 := n1_
                    have HB := n2_
                    clear n1_ n2_
                    refine hK.out _ _ (hb) (fun hHeld => ?_)
                    clear hK K
                    refine norm_ (a' := ?_) ?_ ?_
                    rotate_left
                    · show Act.put _ (some 45) _ = _
                      simp only [Act.put, sp_]
                      rfl
                    refine pure_ (i := 21) (N := some 46) (v := ?_) (a' := ?_) #[true, true, true, true, true, true, true, true, true, true, true, true, true, true, true, true, true, true, true, true, true, true, false] rfl rfl (any_of HT_.out (by kernel_rfl)) (fun _ _ _ h => h) (Or.inl ⟨by rfl, ?_⟩) ?_ ?_
                    rotate_left
                    · intro w'
                      go_simp
                      with_reducible rfl
                    rotate_left
                    · simp only [Act.put, sp_]
                      rfl
                    refine pure_ (i := 22) (N := some 47) (v := ?_) (a' := ?_) #[true, true, true, true, true, true, true, true, true, true, true, true, true, true, true, true, true, true, true, true, true, true, true] rfl rfl (any_of HT_.out (by kernel_rfl)) (fun _ _ _ h => h) (Or.inl ⟨by rfl, ?_⟩) ?_ ?_
                    rotate_left
                    · intro w'
                      go_simp
                      with_reducible rfl
                    rotate_left
                    · simp only [Act.put, sp_]
                      rfl
                    refine done_ (done_of HT_.out (by kernel_rfl)) ?_
                    go_wp2
                    go_ret
                    exact ⟨rfl, HB.out⟩
                  · rw [if_neg cq] at H
                    have H' := Aside0.mk H
                    clear H
                    have cqb : decide (q < 0) = false := decide_eq_false cq
                    go_wp2
                    have n1_ := A_ (blk_drew BK2.out)
                    have n2_ := A_ (below_drew1 HB.out)
                    clear BK2 HB
                    have BK2 := n1_
                    have HB := n2_
                    clear n1_ n2_
                    refine start_ (n := 23) (S := fun W => Below wr.drew.heap.size wr.drew W) (ds := []) #[false, false, false, false, false, false, false, false, false, false, false, false, false, false, false, false, false, false, false, false, false, false, false] (by kernel_rfl) rfl rfl (Below.refl _ _) (fun hHeld => ?_); refine with_tabW spec_l03Plan.tab8 spec_l03Plan.bits8 (fun HT_ HW_ => ?_)
                    generalize wr.drew = w9 at HB BK2 hHeld ⊢
                    have HRW := Kd.C_below HR1.out HB.out
                    have BKC := BK2.out
                    refine pure_ (i := 0) (N := some 25) (v := ?_) (a' := ?_) #[true, false, false, false, false, false, false, false, false, false, false, false, false, false, false, false, false, false, false, false, false, false, false] rfl rfl (any_of HT_.out (by kernel_rfl)) (fun _ _ _ h => h) (Or.inl ⟨by rfl, ?_⟩) ?_ ?_
                    rotate_left
                    · intro w'
                      go_simp
                      with_reducible rfl
                    rotate_left
                    · simp only [Act.put, sp_]
                      rfl
                    refine pure_ (i := 1) (N := some 26) (v := ?_) (a' := ?_) #[true, true, false, false, false, false, false, false, false, false, false, false, false, false, false, false, false, false, false, false, false, false, false] rfl rfl (any_of HT_.out (by kernel_rfl)) (fun _ _ _ h => h) (Or.inl ⟨by rfl, ?_⟩) ?_ ?_
                    rotate_left
                    · intro w'
                      go_simp
                      with_reducible rfl
                    rotate_left
                    · simp only [Act.put, sp_]
                      rfl
                    refine pure_ (i := 2) (N := some 27) (v := ?_) (a' := ?_) #[true, true, true, false, false, false, false, false, false, false, false, false, false, false, false, false, false, false, false, false, false, false, false] rfl rfl (any_of HT_.out (by kernel_rfl)) (fun _ _ _ h => h) (Or.inl ⟨by rfl, ?_⟩) ?_ ?_
                    rotate_left
                    · intro w'
                      go_simp
                      with_reducible rfl
                    rotate_left
                    · simp only [Act.put, sp_]
                      rfl
                    refine take_ (i := 3) (N := some 28) (v := .agg #[.int .i8 (rd_T58 l1 x5).f0.f0, .int .i8 (rd_T58 l1 x5).f0.f1, .int .i8 (rd_T58 l1 x5).f0.f2, .int .i8 (rd_T58 l1 x5).f0.f3, .int .i8 (rd_T58 l1 x5).f0.f4, .int .i8 (rd_T58 l1 x5).f0.f5, .int .i8 (rd_T58 l1 x5).f0.f6, .int .i8 (rd_T58 l1 x5).f0.f7, .int .i8 (rd_T58 l1 x5).f0.f8, .int .i8 (rd_T58 l1 x5).f0.f9, .int .i8 (rd_T58 l1 x5).f0.f10, .int .i8 (rd_T58 l1 x5).f0.f11, .int .i8 (rd_T58 l1 x5).f0.f12, .int .i8 (rd_T58 l1 x5).f0.f13]) (a' := ?_) #[true, true, true, true, false, false, false, false, false, false, false, false, false, false, false, false, false, false, false, false, false, false, false] rfl rfl (take_ofW HT_.out HW_.out (by kernel_rfl)) (fun _ _ _ h => h) (Or.inl ⟨by rfl, fun w' hs => exec_load 26 (.tmp 27) rfl rfl (run_pans (Kd.C_below HRW hs) x5 c5 c4 rfl)⟩) hHeld ?_ ?_
                    rotate_left
                    · simp only [Act.put, sp_]
                      rfl
                    refine pure_ (i := 4) (N := some 29) (v := ?_) (a' := ?_) #[true, true, true, true, true, false, false, false, false, false, false, false, false, false, false, false, false, false, false, false, false, false, false] rfl rfl (any_of HT_.out (by kernel_rfl)) (fun _ _ _ h => h) (Or.inl ⟨by rfl, ?_⟩) ?_ ?_
                    rotate_left
                    · intro w'
                      go_simp
                      with_reducible rfl
                    rotate_left
                    · simp only [Act.put, sp_]
                      rfl
                    refine pure_ (i := 5) (N := some 30) (v := ?_) (a' := ?_) #[true, true, true, true, true, true, false, false, false, false, false, false, false, false, false, false, false, false, false, false, false, false, false] rfl rfl (any_of HT_.out (by kernel_rfl)) (fun _ _ _ h => h) (Or.inl ⟨by rfl, ?_⟩) ?_ ?_
                    rotate_left
                    · intro w'
                      go_simp
                      with_reducible rfl
                    rotate_left
                    · simp only [Act.put, sp_]
                      rfl
                    refine pure_ (i := 6) (N := some 31) (v := ?_) (a' := ?_) #[true, true, true, true, true, true, true, false, false, false, false, false, false, false, false, false, false, false, false, false, false, false, false] rfl rfl (any_of HT_.out (by kernel_rfl)) (fun _ _ _ h => h) (Or.inl ⟨by rfl, ?_⟩) ?_ ?_
                    rotate_left
                    · intro w'
                      go_simp
                      with_reducible rfl
                    rotate_left
                    · simp only [Act.put, sp_]
                      rfl
                    refine pure_ (i := 7) (N := some 32) (v := ?_) (a' := ?_) #[true, true, true, true, true, true, true, true, false, false, false, false, false, false, false, false, false, false, false, false, false, false, false] rfl rfl (any_of HT_.out (by kernel_rfl)) (fun _ _ _ h => h) (Or.inl ⟨by rfl, ?_⟩) ?_ ?_
                    rotate_left
                    · intro w'
                      go_simp
                      with_reducible rfl
                    rotate_left
                    · simp only [Act.put, sp_]
                      rfl
                    refine pure_ (i := 8) (N := some 33) (v := ?_) (a' := ?_) #[true, true, true, true, true, true, true, true, true, false, false, false, false, false, false, false, false, false, false, false, false, false, false] rfl rfl (any_of HT_.out (by kernel_rfl)) (fun _ _ _ h => h) (Or.inl ⟨by rfl, ?_⟩) ?_ ?_
                    rotate_left
                    · intro w'
                      go_simp
                      with_reducible rfl
                    rotate_left
                    · simp only [Act.put, sp_]
                      rfl
                    refine pure_ (i := 9) (N := some 34) (v := ?_) (a' := ?_) #[true, true, true, true, true, true, true, true, true, true, false, false, false, false, false, false, false, false, false, false, false, false, false] rfl rfl (any_of HT_.out (by kernel_rfl)) (fun _ _ _ h => h) (Or.inl ⟨by rfl, ?_⟩) ?_ ?_
                    rotate_left
                    · intro w'
                      go_simp
                      with_reducible rfl
                    rotate_left
                    · simp only [Act.put, sp_]
                      rfl
                    refine take_ (i := 10) (N := some 35) (v := .agg #[.int .i16 (rd_T58 l1 x5).f1.f0, .int .i16 (rd_T58 l1 x5).f1.f1, .int .i16 (rd_T58 l1 x5).f1.f2]) (a' := ?_) #[true, true, true, true, true, true, true, true, true, true, true, false, false, false, false, false, false, false, false, false, false, false, false] rfl rfl (take_ofW HT_.out HW_.out (by kernel_rfl)) (fun _ _ _ h => h) (Or.inl ⟨by rfl, fun w' hs => exec_load 56 (.tmp 34) rfl rfl (run_nexts (Kd.C_below HRW hs) x5 c5 c4 rfl)⟩) hHeld ?_ ?_
                    rotate_left
                    · simp only [Act.put, sp_]
                      rfl
                    refine pure_ (i := 11) (N := some 36) (v := ?_) (a' := ?_) #[true, true, true, true, true, true, true, true, true, true, true, true, false, false, false, false, false, false, false, false, false, false, false] rfl rfl (any_of HT_.out (by kernel_rfl)) (fun _ _ _ h => h) (Or.inl ⟨by rfl, ?_⟩) ?_ ?_
                    rotate_left
                    · intro w'
                      go_simp
                      with_reducible rfl
                    rotate_left
                    · simp only [Act.put, sp_]
                      rfl
                    refine pure_ (i := 12) (N := some 37) (v := ?_) (a' := ?_) #[true, true, true, true, true, true, true, true, true, true, true, true, true, false, false, false, false, false, false, false, false, false, false] rfl rfl (any_of HT_.out (by kernel_rfl)) (fun _ _ _ h => h) (Or.inl ⟨by rfl, ?_⟩) ?_ ?_
                    rotate_left
                    · intro w'
                      go_simp
                      with_reducible rfl
                    rotate_left
                    · simp only [Act.put, sp_]
                      rfl
                    refine pure_ (i := 13) (N := some 38) (v := ?_) (a' := ?_) #[true, true, true, true, true, true, true, true, true, true, true, true, true, true, false, false, false, false, false, false, false, false, false] rfl rfl (any_of HT_.out (by kernel_rfl)) (fun _ _ _ h => h) (Or.inl ⟨by rfl, ?_⟩) ?_ ?_
                    rotate_left
                    · intro w'
                      go_simp
                      with_reducible rfl
                    rotate_left
                    · simp only [Act.put, sp_]
                      rfl
                    refine pure_ (i := 14) (N := some 39) (v := ?_) (a' := ?_) #[true, true, true, true, true, true, true, true, true, true, true, true, true, true, true, false, false, false, false, false, false, false, false] rfl rfl (any_of HT_.out (by kernel_rfl)) (fun _ _ _ h => h) (Or.inl ⟨by rfl, ?_⟩) ?_ ?_
                    rotate_left
                    · intro w'
                      go_simp
                      with_reducible rfl
                    rotate_left
                    · simp only [Act.put, sp_]
                      rfl
                    refine take_ (i := 15) (N := some 40) (v := .agg #[.int .i8 a0_0, .int .i8 a0_1, .bool a0_2, .bool a0_3]) (a' := ?_) #[true, true, true, true, true, true, true, true, true, true, true, true, true, true, true, true, false, false, false, false, false, false, false] rfl rfl (take_ofW HT_.out HW_.out (by kernel_rfl)) (fun _ _ _ h => h) (Or.inl ⟨by rfl, fun w' hs => exec_load 29 (.tmp 2) rfl rfl (run_task (blk_below BKC hs))⟩) hHeld ?_ ?_
                    rotate_left
                    · simp only [Act.put, sp_]
                      rfl
                    refine pure_ (i := 16) (N := some 41) (v := ?_) (a' := ?_) #[true, true, true, true, true, true, true, true, true, true, true, true, true, true, true, true, true, false, false, false, false, false, false] rfl rfl (any_of HT_.out (by kernel_rfl)) (fun _ _ _ h => h) (Or.inl ⟨by rfl, ?_⟩) ?_ ?_
                    rotate_left
                    · intro w'
                      go_simp
                      with_reducible rfl
                    rotate_left
                    · simp only [Act.put, sp_]
                      rfl
                    refine pure_ (i := 17) (N := some 42) (v := ?_) (a' := ?_) #[true, true, true, true, true, true, true, true, true, true, true, true, true, true, true, true, true, true, false, false, false, false, false] rfl rfl (any_of HT_.out (by kernel_rfl)) (fun _ _ _ h => h) (Or.inl ⟨by rfl, ?_⟩) ?_ ?_
                    rotate_left
                    · intro w'
                      go_simp
                      with_reducible rfl
                    rotate_left
                    · simp only [Act.put, sp_]
                      rfl
                    refine pure_ (i := 18) (N := some 43) (v := ?_) (a' := ?_) #[true, true, true, true, true, true, true, true, true, true, true, true, true, true, true, true, true, true, true, false, false, false, false] rfl rfl (any_of HT_.out (by kernel_rfl)) (fun _ _ _ h => h) (Or.inl ⟨by rfl, ?_⟩) ?_ ?_
                    rotate_left
                    · intro w'
                      go_simp
                      with_reducible rfl
                    rotate_left
                    · simp only [Act.put, sp_]
                      rfl
                    refine take_ (i := 19) (N := some 44) (v := .agg #[.int .i8 (rd_T58 l1 x5).f2.f0, .bool (rd_T58 l1 x5).f2.f1]) (a' := ?_) #[true, true, true, true, true, true, true, true, true, true, true, true, true, true, true, true, true, true, true, true, false, false, false] rfl rfl (take_ofW HT_.out HW_.out (by kernel_rfl)) (fun _ _ _ h => h) (Or.inl ⟨by rfl, fun w' hs => exec_load 43 (.tmp 43) rfl rfl (run_tell (Kd.C_below HRW hs) x5 c5 c4 rfl)⟩) hHeld ?_ ?_
                    rotate_left
                    · simp only [Act.put, sp_]
                      rfl
                    refine one_ (i := 20) (N := some 45) #[true, true, true, true, true, true, true, true, true, true, true, true, true, true, true, true, true, true, true, true, true, false, false] rfl rfl (one_of HT_.out (by kernel_rfl)) (by decide) (fun K hK => ?_)
                    refine goes_ Try.func36 (by kernel_rfl) rfl #[.agg #[.int .i8 a0_0, .int .i8 a0_1, .bool a0_2, .bool a0_3], .agg #[.int .i8 (rd_T58 l1 x5).f2.f0, .bool (rd_T58 l1 x5).f2.f1]] (by rfl) rfl rfl arg_ ?_
                    with_reducible refine (B.spec_l03Find.calls k1 a0_0 a0_1 a0_2 a0_3 (rd_T58 l1 x5).f2.f0 (rd_T58 l1 x5).f2.f1 q _ A7.out).mono ?_
                    rintro e w10 ⟨rfl, hb⟩
                    refine ⟨_, rfl, ?_⟩
                    have n1_ := A_ (blk_below BK2.out hb)
                    have n2_ := A_ (below_step HB.out hb)
                    clear BK2 HB
                    have BK2 := n1_
                    have HB := n2_
                    clear n1_ n2_
                    refine hK.out _ _ (hb) (fun hHeld => ?_)
                    clear hK K
                    refine norm_ (a' := ?_) ?_ ?_
                    rotate_left
                    · show Act.put _ (some 45) _ = _
                      simp only [Act.put, sp_]
                      rfl
                    refine pure_ (i := 21) (N := some 46) (v := ?_) (a' := ?_) #[true, true, true, true, true, true, true, true, true, true, true, true, true, true, true, true, true, true, true, true, true, true, false] rfl rfl (any_of HT_.out (by kernel_rfl)) (fun _ _ _ h => h) (Or.inl ⟨by rfl, ?_⟩) ?_ ?_
                    rotate_left
                    · intro w'
                      go_simp
                      with_reducible rfl
                    rotate_left
                    · simp only [Act.put, sp_]
                      rfl
                    refine pure_ (i := 22) (N := some 47) (v := ?_) (a' := ?_) #[true, true, true, true, true, true, true, true, true, true, true, true, true, true, true, true, true, true, true, true, true, true, true] rfl rfl (any_of HT_.out (by kernel_rfl)) (fun _ _ _ h => h) (Or.inl ⟨by rfl, ?_⟩) ?_ ?_
                    rotate_left
                    · intro w'
                      go_simp
                      with_reducible rfl
                    rotate_left
                    · simp only [Act.put, sp_]
                      rfl
                    refine done_ (done_of HT_.out (by kernel_rfl)) ?_
                    go_wp2
                    go_roundg k1
                    case measure => have := HK1.out; omega
                    case rel => exact ⟨(wrap64 (x5 + 1)), rs_, H', ⟨by have := HK1.out; omega⟩, ⟨BK2.out⟩, ⟨HB.out⟩⟩
                · rw [if_neg cN] at H
                  obtain rfl := Option.some.inj H
                  replace cN := Bool.eq_false_iff.mpr cN
                  go_wp2
                  have n1_ := A_ (blk_drew BK2.out)
                  have n2_ := A_ (below_drew1 HB.out)
                  clear BK2 HB
                  have BK2 := n1_
                  have HB := n2_
                  clear n1_ n2_
                  refine start_ (n := 23) (S := fun W => Below wr.drew.heap.size wr.drew W) (ds := []) #[false, false, false, false, false, false, false, false, false, false, false, false, false, false, false, false, false, false, false, false, false, false, false] (by kernel_rfl) rfl rfl (Below.refl _ _) (fun hHeld => ?_); refine with_tabW spec_l03Plan.tab8 spec_l03Plan.bits8 (fun HT_ HW_ => ?_)
                  generalize wr.drew = w9 at HB BK2 hHeld ⊢
                  have HRW := Kd.C_below HR1.out HB.out
                  have BKC := BK2.out
                  refine pure_ (i := 0) (N := some 25) (v := ?_) (a' := ?_) #[true, false, false, false, false, false, false, false, false, false, false, false, false, false, false, false, false, false, false, false, false, false, false] rfl rfl (any_of HT_.out (by kernel_rfl)) (fun _ _ _ h => h) (Or.inl ⟨by rfl, ?_⟩) ?_ ?_
                  rotate_left
                  · intro w'
                    go_simp
                    with_reducible rfl
                  rotate_left
                  · simp only [Act.put, sp_]
                    rfl
                  refine pure_ (i := 1) (N := some 26) (v := ?_) (a' := ?_) #[true, true, false, false, false, false, false, false, false, false, false, false, false, false, false, false, false, false, false, false, false, false, false] rfl rfl (any_of HT_.out (by kernel_rfl)) (fun _ _ _ h => h) (Or.inl ⟨by rfl, ?_⟩) ?_ ?_
                  rotate_left
                  · intro w'
                    go_simp
                    with_reducible rfl
                  rotate_left
                  · simp only [Act.put, sp_]
                    rfl
                  refine pure_ (i := 2) (N := some 27) (v := ?_) (a' := ?_) #[true, true, true, false, false, false, false, false, false, false, false, false, false, false, false, false, false, false, false, false, false, false, false] rfl rfl (any_of HT_.out (by kernel_rfl)) (fun _ _ _ h => h) (Or.inl ⟨by rfl, ?_⟩) ?_ ?_
                  rotate_left
                  · intro w'
                    go_simp
                    with_reducible rfl
                  rotate_left
                  · simp only [Act.put, sp_]
                    rfl
                  refine take_ (i := 3) (N := some 28) (v := .agg #[.int .i8 (rd_T58 l1 x5).f0.f0, .int .i8 (rd_T58 l1 x5).f0.f1, .int .i8 (rd_T58 l1 x5).f0.f2, .int .i8 (rd_T58 l1 x5).f0.f3, .int .i8 (rd_T58 l1 x5).f0.f4, .int .i8 (rd_T58 l1 x5).f0.f5, .int .i8 (rd_T58 l1 x5).f0.f6, .int .i8 (rd_T58 l1 x5).f0.f7, .int .i8 (rd_T58 l1 x5).f0.f8, .int .i8 (rd_T58 l1 x5).f0.f9, .int .i8 (rd_T58 l1 x5).f0.f10, .int .i8 (rd_T58 l1 x5).f0.f11, .int .i8 (rd_T58 l1 x5).f0.f12, .int .i8 (rd_T58 l1 x5).f0.f13]) (a' := ?_) #[true, true, true, true, false, false, false, false, false, false, false, false, false, false, false, false, false, false, false, false, false, false, false] rfl rfl (take_ofW HT_.out HW_.out (by kernel_rfl)) (fun _ _ _ h => h) (Or.inl ⟨by rfl, fun w' hs => exec_load 26 (.tmp 27) rfl rfl (run_pans (Kd.C_below HRW hs) x5 c5 c4 rfl)⟩) hHeld ?_ ?_
                  rotate_left
                  · simp only [Act.put, sp_]
                    rfl
                  refine pure_ (i := 4) (N := some 29) (v := ?_) (a' := ?_) #[true, true, true, true, true, false, false, false, false, false, false, false, false, false, false, false, false, false, false, false, false, false, false] rfl rfl (any_of HT_.out (by kernel_rfl)) (fun _ _ _ h => h) (Or.inl ⟨by rfl, ?_⟩) ?_ ?_
                  rotate_left
                  · intro w'
                    go_simp
                    with_reducible rfl
                  rotate_left
                  · simp only [Act.put, sp_]
                    rfl
                  refine pure_ (i := 5) (N := some 30) (v := ?_) (a' := ?_) #[true, true, true, true, true, true, false, false, false, false, false, false, false, false, false, false, false, false, false, false, false, false, false] rfl rfl (any_of HT_.out (by kernel_rfl)) (fun _ _ _ h => h) (Or.inl ⟨by rfl, ?_⟩) ?_ ?_
                  rotate_left
                  · intro w'
                    go_simp
                    with_reducible rfl
                  rotate_left
                  · simp only [Act.put, sp_]
                    rfl
                  refine pure_ (i := 6) (N := some 31) (v := ?_) (a' := ?_) #[true, true, true, true, true, true, true, false, false, false, false, false, false, false, false, false, false, false, false, false, false, false, false] rfl rfl (any_of HT_.out (by kernel_rfl)) (fun _ _ _ h => h) (Or.inl ⟨by rfl, ?_⟩) ?_ ?_
                  rotate_left
                  · intro w'
                    go_simp
                    with_reducible rfl
                  rotate_left
                  · simp only [Act.put, sp_]
                    rfl
                  refine pure_ (i := 7) (N := some 32) (v := ?_) (a' := ?_) #[true, true, true, true, true, true, true, true, false, false, false, false, false, false, false, false, false, false, false, false, false, false, false] rfl rfl (any_of HT_.out (by kernel_rfl)) (fun _ _ _ h => h) (Or.inl ⟨by rfl, ?_⟩) ?_ ?_
                  rotate_left
                  · intro w'
                    go_simp
                    with_reducible rfl
                  rotate_left
                  · simp only [Act.put, sp_]
                    rfl
                  refine pure_ (i := 8) (N := some 33) (v := ?_) (a' := ?_) #[true, true, true, true, true, true, true, true, true, false, false, false, false, false, false, false, false, false, false, false, false, false, false] rfl rfl (any_of HT_.out (by kernel_rfl)) (fun _ _ _ h => h) (Or.inl ⟨by rfl, ?_⟩) ?_ ?_
                  rotate_left
                  · intro w'
                    go_simp
                    with_reducible rfl
                  rotate_left
                  · simp only [Act.put, sp_]
                    rfl
                  refine pure_ (i := 9) (N := some 34) (v := ?_) (a' := ?_) #[true, true, true, true, true, true, true, true, true, true, false, false, false, false, false, false, false, false, false, false, false, false, false] rfl rfl (any_of HT_.out (by kernel_rfl)) (fun _ _ _ h => h) (Or.inl ⟨by rfl, ?_⟩) ?_ ?_
                  rotate_left
                  · intro w'
                    go_simp
                    with_reducible rfl
                  rotate_left
                  · simp only [Act.put, sp_]
                    rfl
                  refine take_ (i := 10) (N := some 35) (v := .agg #[.int .i16 (rd_T58 l1 x5).f1.f0, .int .i16 (rd_T58 l1 x5).f1.f1, .int .i16 (rd_T58 l1 x5).f1.f2]) (a' := ?_) #[true, true, true, true, true, true, true, true, true, true, true, false, false, false, false, false, false, false, false, false, false, false, false] rfl rfl (take_ofW HT_.out HW_.out (by kernel_rfl)) (fun _ _ _ h => h) (Or.inl ⟨by rfl, fun w' hs => exec_load 56 (.tmp 34) rfl rfl (run_nexts (Kd.C_below HRW hs) x5 c5 c4 rfl)⟩) hHeld ?_ ?_
                  rotate_left
                  · simp only [Act.put, sp_]
                    rfl
                  refine pure_ (i := 11) (N := some 36) (v := ?_) (a' := ?_) #[true, true, true, true, true, true, true, true, true, true, true, true, false, false, false, false, false, false, false, false, false, false, false] rfl rfl (any_of HT_.out (by kernel_rfl)) (fun _ _ _ h => h) (Or.inl ⟨by rfl, ?_⟩) ?_ ?_
                  rotate_left
                  · intro w'
                    go_simp
                    with_reducible rfl
                  rotate_left
                  · simp only [Act.put, sp_]
                    rfl
                  refine pure_ (i := 12) (N := some 37) (v := ?_) (a' := ?_) #[true, true, true, true, true, true, true, true, true, true, true, true, true, false, false, false, false, false, false, false, false, false, false] rfl rfl (any_of HT_.out (by kernel_rfl)) (fun _ _ _ h => h) (Or.inl ⟨by rfl, ?_⟩) ?_ ?_
                  rotate_left
                  · intro w'
                    go_simp
                    with_reducible rfl
                  rotate_left
                  · simp only [Act.put, sp_]
                    rfl
                  refine pure_ (i := 13) (N := some 38) (v := ?_) (a' := ?_) #[true, true, true, true, true, true, true, true, true, true, true, true, true, true, false, false, false, false, false, false, false, false, false] rfl rfl (any_of HT_.out (by kernel_rfl)) (fun _ _ _ h => h) (Or.inl ⟨by rfl, ?_⟩) ?_ ?_
                  rotate_left
                  · intro w'
                    go_simp
                    with_reducible rfl
                  rotate_left
                  · simp only [Act.put, sp_]
                    rfl
                  refine pure_ (i := 14) (N := some 39) (v := ?_) (a' := ?_) #[true, true, true, true, true, true, true, true, true, true, true, true, true, true, true, false, false, false, false, false, false, false, false] rfl rfl (any_of HT_.out (by kernel_rfl)) (fun _ _ _ h => h) (Or.inl ⟨by rfl, ?_⟩) ?_ ?_
                  rotate_left
                  · intro w'
                    go_simp
                    with_reducible rfl
                  rotate_left
                  · simp only [Act.put, sp_]
                    rfl
                  refine pure_ (i := 15) (N := some 40) (v := undef) (a' := ?_) #[true, true, true, true, true, true, true, true, true, true, true, true, true, true, true, true, false, false, false, false, false, false, false] rfl rfl (any_of HT_.out (by kernel_rfl)) (fun _ _ _ h => h) (Or.inr ⟨by rfl, rfl⟩) ?_ ?_
                  rotate_left
                  · simp only [Act.put, sp_]
                    rfl
                  refine pure_ (i := 16) (N := some 41) (v := undef) (a' := ?_) #[true, true, true, true, true, true, true, true, true, true, true, true, true, true, true, true, true, false, false, false, false, false, false] rfl rfl (any_of HT_.out (by kernel_rfl)) (fun _ _ _ h => h) (Or.inr ⟨by rfl, rfl⟩) ?_ ?_
                  rotate_left
                  · simp only [Act.put, sp_]
                    rfl
                  refine pure_ (i := 17) (N := some 42) (v := undef) (a' := ?_) #[true, true, true, true, true, true, true, true, true, true, true, true, true, true, true, true, true, true, false, false, false, false, false] rfl rfl (any_of HT_.out (by kernel_rfl)) (fun _ _ _ h => h) (Or.inr ⟨by rfl, rfl⟩) ?_ ?_
                  rotate_left
                  · simp only [Act.put, sp_]
                    rfl
                  refine pure_ (i := 18) (N := some 43) (v := undef) (a' := ?_) #[true, true, true, true, true, true, true, true, true, true, true, true, true, true, true, true, true, true, true, false, false, false, false] rfl rfl (any_of HT_.out (by kernel_rfl)) (fun _ _ _ h => h) (Or.inr ⟨by rfl, rfl⟩) ?_ ?_
                  rotate_left
                  · simp only [Act.put, sp_]
                    rfl
                  refine pure_ (i := 19) (N := some 44) (v := undef) (a' := ?_) #[true, true, true, true, true, true, true, true, true, true, true, true, true, true, true, true, true, true, true, true, false, false, false] rfl rfl (any_of HT_.out (by kernel_rfl)) (fun _ _ _ h => h) (Or.inr ⟨by rfl, rfl⟩) ?_ ?_
                  rotate_left
                  · simp only [Act.put, sp_]
                    rfl
                  refine pure_ (i := 20) (N := some 45) (v := undef) (a' := ?_) #[true, true, true, true, true, true, true, true, true, true, true, true, true, true, true, true, true, true, true, true, true, false, false] rfl rfl (any_of HT_.out (by kernel_rfl)) (fun _ _ _ h => h) (Or.inr ⟨by rfl, rfl⟩) ?_ ?_
                  rotate_left
                  · simp only [Act.put, sp_]
                    rfl
                  refine pure_ (i := 21) (N := some 46) (v := undef) (a' := ?_) #[true, true, true, true, true, true, true, true, true, true, true, true, true, true, true, true, true, true, true, true, true, true, false] rfl rfl (any_of HT_.out (by kernel_rfl)) (fun _ _ _ h => h) (Or.inr ⟨by rfl, rfl⟩) ?_ ?_
                  rotate_left
                  · simp only [Act.put, sp_]
                    rfl
                  refine pure_ (i := 22) (N := some 47) (v := ?_) (a' := ?_) #[true, true, true, true, true, true, true, true, true, true, true, true, true, true, true, true, true, true, true, true, true, true, true] rfl rfl (any_of HT_.out (by kernel_rfl)) (fun _ _ _ h => h) (Or.inl ⟨by rfl, ?_⟩) ?_ ?_
                  rotate_left
                  · intro w'
                    go_simp
                    with_reducible rfl
                  rotate_left
                  · simp only [Act.put, sp_]
                    rfl
                  refine done_ (done_of HT_.out (by kernel_rfl)) ?_
                  go_wp2
                  go_ret
                  exact ⟨rfl, HB.out⟩
              · rw [if_neg cP] at H
                obtain rfl := Option.some.inj H
                replace cP := Bool.eq_false_iff.mpr cP
                go_wp2
                have n1_ := A_ (blk_drew BK2.out)
                have n2_ := A_ (below_drew1 HB.out)
                clear BK2 HB
                have BK2 := n1_
                have HB := n2_
                clear n1_ n2_
                refine start_ (n := 23) (S := fun W => Below wr.drew.heap.size wr.drew W) (ds := []) #[false, false, false, false, false, false, false, false, false, false, false, false, false, false, false, false, false, false, false, false, false, false, false] (by kernel_rfl) rfl rfl (Below.refl _ _) (fun hHeld => ?_); refine with_tabW spec_l03Plan.tab8 spec_l03Plan.bits8 (fun HT_ HW_ => ?_)
                generalize wr.drew = w9 at HB BK2 hHeld ⊢
                have HRW := Kd.C_below HR1.out HB.out
                have BKC := BK2.out
                refine pure_ (i := 0) (N := some 25) (v := ?_) (a' := ?_) #[true, false, false, false, false, false, false, false, false, false, false, false, false, false, false, false, false, false, false, false, false, false, false] rfl rfl (any_of HT_.out (by kernel_rfl)) (fun _ _ _ h => h) (Or.inl ⟨by rfl, ?_⟩) ?_ ?_
                rotate_left
                · intro w'
                  go_simp
                  with_reducible rfl
                rotate_left
                · simp only [Act.put, sp_]
                  rfl
                refine pure_ (i := 1) (N := some 26) (v := ?_) (a' := ?_) #[true, true, false, false, false, false, false, false, false, false, false, false, false, false, false, false, false, false, false, false, false, false, false] rfl rfl (any_of HT_.out (by kernel_rfl)) (fun _ _ _ h => h) (Or.inl ⟨by rfl, ?_⟩) ?_ ?_
                rotate_left
                · intro w'
                  go_simp
                  with_reducible rfl
                rotate_left
                · simp only [Act.put, sp_]
                  rfl
                refine pure_ (i := 2) (N := some 27) (v := ?_) (a' := ?_) #[true, true, true, false, false, false, false, false, false, false, false, false, false, false, false, false, false, false, false, false, false, false, false] rfl rfl (any_of HT_.out (by kernel_rfl)) (fun _ _ _ h => h) (Or.inl ⟨by rfl, ?_⟩) ?_ ?_
                rotate_left
                · intro w'
                  go_simp
                  with_reducible rfl
                rotate_left
                · simp only [Act.put, sp_]
                  rfl
                refine take_ (i := 3) (N := some 28) (v := .agg #[.int .i8 (rd_T58 l1 x5).f0.f0, .int .i8 (rd_T58 l1 x5).f0.f1, .int .i8 (rd_T58 l1 x5).f0.f2, .int .i8 (rd_T58 l1 x5).f0.f3, .int .i8 (rd_T58 l1 x5).f0.f4, .int .i8 (rd_T58 l1 x5).f0.f5, .int .i8 (rd_T58 l1 x5).f0.f6, .int .i8 (rd_T58 l1 x5).f0.f7, .int .i8 (rd_T58 l1 x5).f0.f8, .int .i8 (rd_T58 l1 x5).f0.f9, .int .i8 (rd_T58 l1 x5).f0.f10, .int .i8 (rd_T58 l1 x5).f0.f11, .int .i8 (rd_T58 l1 x5).f0.f12, .int .i8 (rd_T58 l1 x5).f0.f13]) (a' := ?_) #[true, true, true, true, false, false, false, false, false, false, false, false, false, false, false, false, false, false, false, false, false, false, false] rfl rfl (take_ofW HT_.out HW_.out (by kernel_rfl)) (fun _ _ _ h => h) (Or.inl ⟨by rfl, fun w' hs => exec_load 26 (.tmp 27) rfl rfl (run_pans (Kd.C_below HRW hs) x5 c5 c4 rfl)⟩) hHeld ?_ ?_
                rotate_left
                · simp only [Act.put, sp_]
                  rfl
                refine pure_ (i := 4) (N := some 29) (v := ?_) (a' := ?_) #[true, true, true, true, true, false, false, false, false, false, false, false, false, false, false, false, false, false, false, false, false, false, false] rfl rfl (any_of HT_.out (by kernel_rfl)) (fun _ _ _ h => h) (Or.inl ⟨by rfl, ?_⟩) ?_ ?_
                rotate_left
                · intro w'
                  go_simp
                  with_reducible rfl
                rotate_left
                · simp only [Act.put, sp_]
                  rfl
                refine pure_ (i := 5) (N := some 30) (v := ?_) (a' := ?_) #[true, true, true, true, true, true, false, false, false, false, false, false, false, false, false, false, false, false, false, false, false, false, false] rfl rfl (any_of HT_.out (by kernel_rfl)) (fun _ _ _ h => h) (Or.inl ⟨by rfl, ?_⟩) ?_ ?_
                rotate_left
                · intro w'
                  go_simp
                  with_reducible rfl
                rotate_left
                · simp only [Act.put, sp_]
                  rfl
                refine pure_ (i := 6) (N := some 31) (v := ?_) (a' := ?_) #[true, true, true, true, true, true, true, false, false, false, false, false, false, false, false, false, false, false, false, false, false, false, false] rfl rfl (any_of HT_.out (by kernel_rfl)) (fun _ _ _ h => h) (Or.inl ⟨by rfl, ?_⟩) ?_ ?_
                rotate_left
                · intro w'
                  go_simp
                  with_reducible rfl
                rotate_left
                · simp only [Act.put, sp_]
                  rfl
                refine pure_ (i := 7) (N := some 32) (v := undef) (a' := ?_) #[true, true, true, true, true, true, true, true, false, false, false, false, false, false, false, false, false, false, false, false, false, false, false] rfl rfl (any_of HT_.out (by kernel_rfl)) (fun _ _ _ h => h) (Or.inr ⟨by rfl, rfl⟩) ?_ ?_
                rotate_left
                · simp only [Act.put, sp_]
                  rfl
                refine pure_ (i := 8) (N := some 33) (v := undef) (a' := ?_) #[true, true, true, true, true, true, true, true, true, false, false, false, false, false, false, false, false, false, false, false, false, false, false] rfl rfl (any_of HT_.out (by kernel_rfl)) (fun _ _ _ h => h) (Or.inr ⟨by rfl, rfl⟩) ?_ ?_
                rotate_left
                · simp only [Act.put, sp_]
                  rfl
                refine pure_ (i := 9) (N := some 34) (v := undef) (a' := ?_) #[true, true, true, true, true, true, true, true, true, true, false, false, false, false, false, false, false, false, false, false, false, false, false] rfl rfl (any_of HT_.out (by kernel_rfl)) (fun _ _ _ h => h) (Or.inr ⟨by rfl, rfl⟩) ?_ ?_
                rotate_left
                · simp only [Act.put, sp_]
                  rfl
                refine pure_ (i := 10) (N := some 35) (v := undef) (a' := ?_) #[true, true, true, true, true, true, true, true, true, true, true, false, false, false, false, false, false, false, false, false, false, false, false] rfl rfl (any_of HT_.out (by kernel_rfl)) (fun _ _ _ h => h) (Or.inr ⟨by rfl, rfl⟩) ?_ ?_
                rotate_left
                · simp only [Act.put, sp_]
                  rfl
                refine pure_ (i := 11) (N := some 36) (v := undef) (a' := ?_) #[true, true, true, true, true, true, true, true, true, true, true, true, false, false, false, false, false, false, false, false, false, false, false] rfl rfl (any_of HT_.out (by kernel_rfl)) (fun _ _ _ h => h) (Or.inr ⟨by rfl, rfl⟩) ?_ ?_
                rotate_left
                · simp only [Act.put, sp_]
                  rfl
                refine pure_ (i := 12) (N := some 37) (v := undef) (a' := ?_) #[true, true, true, true, true, true, true, true, true, true, true, true, true, false, false, false, false, false, false, false, false, false, false] rfl rfl (any_of HT_.out (by kernel_rfl)) (fun _ _ _ h => h) (Or.inr ⟨by rfl, rfl⟩) ?_ ?_
                rotate_left
                · simp only [Act.put, sp_]
                  rfl
                refine pure_ (i := 13) (N := some 38) (v := ?_) (a' := ?_) #[true, true, true, true, true, true, true, true, true, true, true, true, true, true, false, false, false, false, false, false, false, false, false] rfl rfl (any_of HT_.out (by kernel_rfl)) (fun _ _ _ h => h) (Or.inl ⟨by rfl, ?_⟩) ?_ ?_
                rotate_left
                · intro w'
                  go_simp
                  with_reducible rfl
                rotate_left
                · simp only [Act.put, sp_]
                  rfl
                refine pure_ (i := 14) (N := some 39) (v := ?_) (a' := ?_) #[true, true, true, true, true, true, true, true, true, true, true, true, true, true, true, false, false, false, false, false, false, false, false] rfl rfl (any_of HT_.out (by kernel_rfl)) (fun _ _ _ h => h) (Or.inl ⟨by rfl, ?_⟩) ?_ ?_
                rotate_left
                · intro w'
                  go_simp
                  with_reducible rfl
                rotate_left
                · simp only [Act.put, sp_]
                  rfl
                refine pure_ (i := 15) (N := some 40) (v := undef) (a' := ?_) #[true, true, true, true, true, true, true, true, true, true, true, true, true, true, true, true, false, false, false, false, false, false, false] rfl rfl (any_of HT_.out (by kernel_rfl)) (fun _ _ _ h => h) (Or.inr ⟨by rfl, rfl⟩) ?_ ?_
                rotate_left
                · simp only [Act.put, sp_]
                  rfl
                refine pure_ (i := 16) (N := some 41) (v := undef) (a' := ?_) #[true, true, true, true, true, true, true, true, true, true, true, true, true, true, true, true, true, false, false, false, false, false, false] rfl rfl (any_of HT_.out (by kernel_rfl)) (fun _ _ _ h => h) (Or.inr ⟨by rfl, rfl⟩) ?_ ?_
                rotate_left
                · simp only [Act.put, sp_]
                  rfl
                refine pure_ (i := 17) (N := some 42) (v := undef) (a' := ?_) #[true, true, true, true, true, true, true, true, true, true, true, true, true, true, true, true, true, true, false, false, false, false, false] rfl rfl (any_of HT_.out (by kernel_rfl)) (fun _ _ _ h => h) (Or.inr ⟨by rfl, rfl⟩) ?_ ?_
                rotate_left
                · simp only [Act.put, sp_]
                  rfl
                refine pure_ (i := 18) (N := some 43) (v := undef) (a' := ?_) #[true, true, true, true, true, true, true, true, true, true, true, true, true, true, true, true, true, true, true, false, false, false, false] rfl rfl (any_of HT_.out (by kernel_rfl)) (fun _ _ _ h => h) (Or.inr ⟨by rfl, rfl⟩) ?_ ?_
                rotate_left
                · simp only [Act.put, sp_]
                  rfl
                refine pure_ (i := 19) (N := some 44) (v := undef) (a' := ?_) #[true, true, true, true, true, true, true, true, true, true, true, true, true, true, true, true, true, true, true, true, false, false, false] rfl rfl (any_of HT_.out (by kernel_rfl)) (fun _ _ _ h => h) (Or.inr ⟨by rfl, rfl⟩) ?_ ?_
                rotate_left
                · simp only [Act.put, sp_]
                  rfl
                refine pure_ (i := 20) (N := some 45) (v := undef) (a' := ?_) #[true, true, true, true, true, true, true, true, true, true, true, true, true, true, true, true, true, true, true, true, true, false, false] rfl rfl (any_of HT_.out (by kernel_rfl)) (fun _ _ _ h => h) (Or.inr ⟨by rfl, rfl⟩) ?_ ?_
                rotate_left
                · simp only [Act.put, sp_]
                  rfl
                refine pure_ (i := 21) (N := some 46) (v := undef) (a' := ?_) #[true, true, true, true, true, true, true, true, true, true, true, true, true, true, true, true, true, true, true, true, true, true, false] rfl rfl (any_of HT_.out (by kernel_rfl)) (fun _ _ _ h => h) (Or.inr ⟨by rfl, rfl⟩) ?_ ?_
                rotate_left
                · simp only [Act.put, sp_]
                  rfl
                refine pure_ (i := 22) (N := some 47) (v := ?_) (a' := ?_) #[true, true, true, true, true, true, true, true, true, true, true, true, true, true, true, true, true, true, true, true, true, true, true] rfl rfl (any_of HT_.out (by kernel_rfl)) (fun _ _ _ h => h) (Or.inl ⟨by rfl, ?_⟩) ?_ ?_
                rotate_left
                · intro w'
                  go_simp
                  with_reducible rfl
                rotate_left
                · simp only [Act.put, sp_]
                  rfl
                refine done_ (done_of HT_.out (by kernel_rfl)) ?_
                go_wp2
                go_ret
                exact ⟨rfl, HB.out⟩
            · rw [if_neg c8] at H
              replace c8 := Bool.eq_false_iff.mpr c8
              by_cases cP : ((rd_T58 l1 x5).f0.f0 == 0 && ((rd_T58 l1 x5).f0.f1 == 0 && ((rd_T58 l1 x5).f0.f2 == 0 && ((rd_T58 l1 x5).f0.f3 == 0 && ((rd_T58 l1 x5).f0.f4 == 0 && ((rd_T58 l1 x5).f0.f5 == 0 && ((rd_T58 l1 x5).f0.f6 == 0 && ((rd_T58 l1 x5).f0.f7 == 0 && ((rd_T58 l1 x5).f0.f8 == 0 && ((rd_T58 l1 x5).f0.f9 == 0 && ((rd_T58 l1 x5).f0.f10 == 0 && ((rd_T58 l1 x5).f0.f11 == 0 && ((rd_T58 l1 x5).f0.f12 == 0 && ((rd_T58 l1 x5).f0.f13 == 0)))))))))))))) = true
              · rw [if_pos cP] at H
                obtain rfl := Option.some.inj H
                go_wp2
                have n1_ := A_ (blk_drew BK2.out)
                have n2_ := A_ (below_drew1 HB.out)
                clear BK2 HB
                have BK2 := n1_
                have HB := n2_
                clear n1_ n2_
                refine start_ (n := 23) (S := fun W => Below wr.drew.heap.size wr.drew W) (ds := []) #[false, false, false, false, false, false, false, false, false, false, false, false, false, false, false, false, false, false, false, false, false, false, false] (by kernel_rfl) rfl rfl (Below.refl _ _) (fun hHeld => ?_); refine with_tabW spec_l03Plan.tab10 spec_l03Plan.bits10 (fun HT_ HW_ => ?_)
                generalize wr.drew = w9 at HB BK2 hHeld ⊢
                have HRW := Kd.C_below HR1.out HB.out
                have BKC := BK2.out
                refine pure_ (i := 0) (N := some 48) (v := ?_) (a' := ?_) #[true, false, false, false, false, false, false, false, false, false, false, false, false, false, false, false, false, false, false, false, false, false, false] rfl rfl (any_of HT_.out (by kernel_rfl)) (fun _ _ _ h => h) (Or.inl ⟨by rfl, ?_⟩) ?_ ?_
                rotate_left
                · intro w'
                  go_simp
                  with_reducible rfl
                rotate_left
                · simp only [Act.put, sp_]
                  rfl
                refine pure_ (i := 1) (N := some 49) (v := ?_) (a' := ?_) #[true, true, false, false, false, false, false, false, false, false, false, false, false, false, false, false, false, false, false, false, false, false, false] rfl rfl (any_of HT_.out (by kernel_rfl)) (fun _ _ _ h => h) (Or.inl ⟨by rfl, ?_⟩) ?_ ?_
                rotate_left
                · intro w'
                  go_simp
                  with_reducible rfl
                rotate_left
                · simp only [Act.put, sp_]
                  rfl
                refine pure_ (i := 2) (N := some 50) (v := ?_) (a' := ?_) #[true, true, true, false, false, false, false, false, false, false, false, false, false, false, false, false, false, false, false, false, false, false, false] rfl rfl (any_of HT_.out (by kernel_rfl)) (fun _ _ _ h => h) (Or.inl ⟨by rfl, ?_⟩) ?_ ?_
                rotate_left
                · intro w'
                  go_simp
                  with_reducible rfl
                rotate_left
                · simp only [Act.put, sp_]
                  rfl
                refine take_ (i := 3) (N := some 51) (v := .agg #[.int .i8 (rd_T58 l1 x5).f0.f0, .int .i8 (rd_T58 l1 x5).f0.f1, .int .i8 (rd_T58 l1 x5).f0.f2, .int .i8 (rd_T58 l1 x5).f0.f3, .int .i8 (rd_T58 l1 x5).f0.f4, .int .i8 (rd_T58 l1 x5).f0.f5, .int .i8 (rd_T58 l1 x5).f0.f6, .int .i8 (rd_T58 l1 x5).f0.f7, .int .i8 (rd_T58 l1 x5).f0.f8, .int .i8 (rd_T58 l1 x5).f0.f9, .int .i8 (rd_T58 l1 x5).f0.f10, .int .i8 (rd_T58 l1 x5).f0.f11, .int .i8 (rd_T58 l1 x5).f0.f12, .int .i8 (rd_T58 l1 x5).f0.f13]) (a' := ?_) #[true, true, true, true, false, false, false, false, false, false, false, false, false, false, false, false, false, false, false, false, false, false, false] rfl rfl (take_ofW HT_.out HW_.out (by kernel_rfl)) (fun _ _ _ h => h) (Or.inl ⟨by rfl, fun w' hs => exec_load 26 (.tmp 50) rfl rfl (run_pans (Kd.C_below HRW hs) x5 c5 c4 rfl)⟩) hHeld ?_ ?_
                rotate_left
                · simp only [Act.put, sp_]
                  rfl
                refine pure_ (i := 4) (N := some 52) (v := ?_) (a' := ?_) #[true, true, true, true, true, false, false, false, false, false, false, false, false, false, false, false, false, false, false, false, false, false, false] rfl rfl (any_of HT_.out (by kernel_rfl)) (fun _ _ _ h => h) (Or.inl ⟨by rfl, ?_⟩) ?_ ?_
                rotate_left
                · intro w'
                  go_simp
                  with_reducible rfl
                rotate_left
                · simp only [Act.put, sp_]
                  rfl
                refine pure_ (i := 5) (N := some 53) (v := ?_) (a' := ?_) #[true, true, true, true, true, true, false, false, false, false, false, false, false, false, false, false, false, false, false, false, false, false, false] rfl rfl (any_of HT_.out (by kernel_rfl)) (fun _ _ _ h => h) (Or.inl ⟨by rfl, ?_⟩) ?_ ?_
                rotate_left
                · intro w'
                  go_simp
                  with_reducible rfl
                rotate_left
                · simp only [Act.put, sp_]
                  rfl
                refine pure_ (i := 6) (N := some 54) (v := ?_) (a' := ?_) #[true, true, true, true, true, true, true, false, false, false, false, false, false, false, false, false, false, false, false, false, false, false, false] rfl rfl (any_of HT_.out (by kernel_rfl)) (fun _ _ _ h => h) (Or.inl ⟨by rfl, ?_⟩) ?_ ?_
                rotate_left
                · intro w'
                  go_simp
                  with_reducible rfl
                rotate_left
                · simp only [Act.put, sp_]
                  rfl
                refine pure_ (i := 7) (N := some 55) (v := undef) (a' := ?_) #[true, true, true, true, true, true, true, true, false, false, false, false, false, false, false, false, false, false, false, false, false, false, false] rfl rfl (any_of HT_.out (by kernel_rfl)) (fun _ _ _ h => h) (Or.inr ⟨by rfl, rfl⟩) ?_ ?_
                rotate_left
                · simp only [Act.put, sp_]
                  rfl
                refine pure_ (i := 8) (N := some 56) (v := undef) (a' := ?_) #[true, true, true, true, true, true, true, true, true, false, false, false, false, false, false, false, false, false, false, false, false, false, false] rfl rfl (any_of HT_.out (by kernel_rfl)) (fun _ _ _ h => h) (Or.inr ⟨by rfl, rfl⟩) ?_ ?_
                rotate_left
                · simp only [Act.put, sp_]
                  rfl
                refine pure_ (i := 9) (N := some 57) (v := undef) (a' := ?_) #[true, true, true, true, true, true, true, true, true, true, false, false, false, false, false, false, false, false, false, false, false, false, false] rfl rfl (any_of HT_.out (by kernel_rfl)) (fun _ _ _ h => h) (Or.inr ⟨by rfl, rfl⟩) ?_ ?_
                rotate_left
                · simp only [Act.put, sp_]
                  rfl
                refine pure_ (i := 10) (N := some 58) (v := undef) (a' := ?_) #[true, true, true, true, true, true, true, true, true, true, true, false, false, false, false, false, false, false, false, false, false, false, false] rfl rfl (any_of HT_.out (by kernel_rfl)) (fun _ _ _ h => h) (Or.inr ⟨by rfl, rfl⟩) ?_ ?_
                rotate_left
                · simp only [Act.put, sp_]
                  rfl
                refine pure_ (i := 11) (N := some 59) (v := undef) (a' := ?_) #[true, true, true, true, true, true, true, true, true, true, true, true, false, false, false, false, false, false, false, false, false, false, false] rfl rfl (any_of HT_.out (by kernel_rfl)) (fun _ _ _ h => h) (Or.inr ⟨by rfl, rfl⟩) ?_ ?_
                rotate_left
                · simp only [Act.put, sp_]
                  rfl
                refine pure_ (i := 12) (N := some 60) (v := undef) (a' := ?_) #[true, true, true, true, true, true, true, true, true, true, true, true, true, false, false, false, false, false, false, false, false, false, false] rfl rfl (any_of HT_.out (by kernel_rfl)) (fun _ _ _ h => h) (Or.inr ⟨by rfl, rfl⟩) ?_ ?_
                rotate_left
                · simp only [Act.put, sp_]
                  rfl
                refine pure_ (i := 13) (N := some 61) (v := undef) (a' := ?_) #[true, true, true, true, true, true, true, true, true, true, true, true, true, true, false, false, false, false, false, false, false, false, false] rfl rfl (any_of HT_.out (by kernel_rfl)) (fun _ _ _ h => h) (Or.inr ⟨by rfl, rfl⟩) ?_ ?_
                rotate_left
                · simp only [Act.put, sp_]
                  rfl
                refine pure_ (i := 14) (N := some 62) (v := ?_) (a' := ?_) #[true, true, true, true, true, true, true, true, true, true, true, true, true, true, true, false, false, false, false, false, false, false, false] rfl rfl (any_of HT_.out (by kernel_rfl)) (fun _ _ _ h => h) (Or.inl ⟨by rfl, ?_⟩) ?_ ?_
                rotate_left
                · intro w'
                  go_simp
                  with_reducible rfl
                rotate_left
                · simp only [Act.put, sp_]
                  rfl
                refine pure_ (i := 15) (N := some 63) (v := ?_) (a' := ?_) #[true, true, true, true, true, true, true, true, true, true, true, true, true, true, true, true, false, false, false, false, false, false, false] rfl rfl (any_of HT_.out (by kernel_rfl)) (fun _ _ _ h => h) (Or.inl ⟨by rfl, ?_⟩) ?_ ?_
                rotate_left
                · intro w'
                  go_simp
                  with_reducible rfl
                rotate_left
                · simp only [Act.put, sp_]
                  rfl
                refine pure_ (i := 16) (N := some 64) (v := undef) (a' := ?_) #[true, true, true, true, true, true, true, true, true, true, true, true, true, true, true, true, true, false, false, false, false, false, false] rfl rfl (any_of HT_.out (by kernel_rfl)) (fun _ _ _ h => h) (Or.inr ⟨by rfl, rfl⟩) ?_ ?_
                rotate_left
                · simp only [Act.put, sp_]
                  rfl
                refine pure_ (i := 17) (N := some 65) (v := undef) (a' := ?_) #[true, true, true, true, true, true, true, true, true, true, true, true, true, true, true, true, true, true, false, false, false, false, false] rfl rfl (any_of HT_.out (by kernel_rfl)) (fun _ _ _ h => h) (Or.inr ⟨by rfl, rfl⟩) ?_ ?_
                rotate_left
                · simp only [Act.put, sp_]
                  rfl
                refine pure_ (i := 18) (N := some 66) (v := undef) (a' := ?_) #[true, true, true, true, true, true, true, true, true, true, true, true, true, true, true, true, true, true, true, false, false, false, false] rfl rfl (any_of HT_.out (by kernel_rfl)) (fun _ _ _ h => h) (Or.inr ⟨by rfl, rfl⟩) ?_ ?_
                rotate_left
                · simp only [Act.put, sp_]
                  rfl
                refine pure_ (i := 19) (N := some 67) (v := undef) (a' := ?_) #[true, true, true, true, true, true, true, true, true, true, true, true, true, true, true, true, true, true, true, true, false, false, false] rfl rfl (any_of HT_.out (by kernel_rfl)) (fun _ _ _ h => h) (Or.inr ⟨by rfl, rfl⟩) ?_ ?_
                rotate_left
                · simp only [Act.put, sp_]
                  rfl
                refine pure_ (i := 20) (N := some 68) (v := undef) (a' := ?_) #[true, true, true, true, true, true, true, true, true, true, true, true, true, true, true, true, true, true, true, true, true, false, false] rfl rfl (any_of HT_.out (by kernel_rfl)) (fun _ _ _ h => h) (Or.inr ⟨by rfl, rfl⟩) ?_ ?_
                rotate_left
                · simp only [Act.put, sp_]
                  rfl
                refine pure_ (i := 21) (N := some 69) (v := undef) (a' := ?_) #[true, true, true, true, true, true, true, true, true, true, true, true, true, true, true, true, true, true, true, true, true, true, false] rfl rfl (any_of HT_.out (by kernel_rfl)) (fun _ _ _ h => h) (Or.inr ⟨by rfl, rfl⟩) ?_ ?_
                rotate_left
                · simp only [Act.put, sp_]
                  rfl
                refine pure_ (i := 22) (N := some 70) (v := ?_) (a' := ?_) #[true, true, true, true, true, true, true, true, true, true, true, true, true, true, true, true, true, true, true, true, true, true, true] rfl rfl (any_of HT_.out (by kernel_rfl)) (fun _ _ _ h => h) (Or.inl ⟨by rfl, ?_⟩) ?_ ?_
                rotate_left
                · intro w'
                  go_simp
                  with_reducible rfl
                rotate_left
                · simp only [Act.put, sp_]
                  rfl
                refine done_ (done_of HT_.out (by kernel_rfl)) ?_
                go_wp2
                go_ret
                exact ⟨rfl, HB.out⟩
              · rw [if_neg cP] at H
                replace cP := Bool.eq_false_iff.mpr cP
                obtain ⟨b, A70, H⟩ := Option.bind_eq_some_iff.mp H
                have A7 := Aside0.mk A70
                clear A70
                cases b with
                | false =>
                  rw [if_neg (by simp)] at H
                  obtain rfl := Option.some.inj H
                  go_wp2
                  have n1_ := A_ (blk_drew BK2.out)
                  have n2_ := A_ (below_drew1 HB.out)
                  clear BK2 HB
                  have BK2 := n1_
                  have HB := n2_
                  clear n1_ n2_
                  refine start_ (n := 23) (S := fun W => Below wr.drew.heap.size wr.drew W) (ds := []) #[false, false, false, false, false, false, false, false, false, false, false, false, false, false, false, false, false, false, false, false, false, false, false] (by kernel_rfl) rfl rfl (Below.refl _ _) (fun hHeld => ?_); refine with_tabW spec_l03Plan.tab10 spec_l03Plan.bits10 (fun HT_ HW_ => ?_)
                  generalize wr.drew = w9 at HB BK2 hHeld ⊢
                  have HRW := Kd.C_below HR1.out HB.out
                  have BKC := BK2.out
                  refine pure_ (i := 0) (N := some 48) (v := ?_) (a' := ?_) #[true, false, false, false, false, false, false, false, false, false, false, false, false, false, false, false, false, false, false, false, false, false, false] rfl rfl (any_of HT_.out (by kernel_rfl)) (fun _ _ _ h => h) (Or.inl ⟨by rfl, ?_⟩) ?_ ?_
                  rotate_left
                  · intro w'
                    go_simp
                    with_reducible rfl
                  rotate_left
                  · simp only [Act.put, sp_]
                    rfl
                  refine pure_ (i := 1) (N := some 49) (v := ?_) (a' := ?_) #[true, true, false, false, false, false, false, false, false, false, false, false, false, false, false, false, false, false, false, false, false, false, false] rfl rfl (any_of HT_.out (by kernel_rfl)) (fun _ _ _ h => h) (Or.inl ⟨by rfl, ?_⟩) ?_ ?_
                  rotate_left
                  · intro w'
                    go_simp
                    with_reducible rfl
                  rotate_left
                  · simp only [Act.put, sp_]
                    rfl
                  refine pure_ (i := 2) (N := some 50) (v := ?_) (a' := ?_) #[true, true, true, false, false, false, false, false, false, false, false, false, false, false, false, false, false, false, false, false, false, false, false] rfl rfl (any_of HT_.out (by kernel_rfl)) (fun _ _ _ h => h) (Or.inl ⟨by rfl, ?_⟩) ?_ ?_
                  rotate_left
                  · intro w'
                    go_simp
                    with_reducible rfl
                  rotate_left
                  · simp only [Act.put, sp_]
                    rfl
                  refine take_ (i := 3) (N := some 51) (v := .agg #[.int .i8 (rd_T58 l1 x5).f0.f0, .int .i8 (rd_T58 l1 x5).f0.f1, .int .i8 (rd_T58 l1 x5).f0.f2, .int .i8 (rd_T58 l1 x5).f0.f3, .int .i8 (rd_T58 l1 x5).f0.f4, .int .i8 (rd_T58 l1 x5).f0.f5, .int .i8 (rd_T58 l1 x5).f0.f6, .int .i8 (rd_T58 l1 x5).f0.f7, .int .i8 (rd_T58 l1 x5).f0.f8, .int .i8 (rd_T58 l1 x5).f0.f9, .int .i8 (rd_T58 l1 x5).f0.f10, .int .i8 (rd_T58 l1 x5).f0.f11, .int .i8 (rd_T58 l1 x5).f0.f12, .int .i8 (rd_T58 l1 x5).f0.f13]) (a' := ?_) #[true, true, true, true, false, false, false, false, false, false, false, false, false, false, false, false, false, false, false, false, false, false, false] rfl rfl (take_ofW HT_.out HW_.out (by kernel_rfl)) (fun _ _ _ h => h) (Or.inl ⟨by rfl, fun w' hs => exec_load 26 (.tmp 50) rfl rfl (run_pans (Kd.C_below HRW hs) x5 c5 c4 rfl)⟩) hHeld ?_ ?_
                  rotate_left
                  · simp only [Act.put, sp_]
                    rfl
                  refine pure_ (i := 4) (N := some 52) (v := ?_) (a' := ?_) #[true, true, true, true, true, false, false, false, false, false, false, false, false, false, false, false, false, false, false, false, false, false, false] rfl rfl (any_of HT_.out (by kernel_rfl)) (fun _ _ _ h => h) (Or.inl ⟨by rfl, ?_⟩) ?_ ?_
                  rotate_left
                  · intro w'
                    go_simp
                    with_reducible rfl
                  rotate_left
                  · simp only [Act.put, sp_]
                    rfl
                  refine pure_ (i := 5) (N := some 53) (v := ?_) (a' := ?_) #[true, true, true, true, true, true, false, false, false, false, false, false, false, false, false, false, false, false, false, false, false, false, false] rfl rfl (any_of HT_.out (by kernel_rfl)) (fun _ _ _ h => h) (Or.inl ⟨by rfl, ?_⟩) ?_ ?_
                  rotate_left
                  · intro w'
                    go_simp
                    with_reducible rfl
                  rotate_left
                  · simp only [Act.put, sp_]
                    rfl
                  refine pure_ (i := 6) (N := some 54) (v := ?_) (a' := ?_) #[true, true, true, true, true, true, true, false, false, false, false, false, false, false, false, false, false, false, false, false, false, false, false] rfl rfl (any_of HT_.out (by kernel_rfl)) (fun _ _ _ h => h) (Or.inl ⟨by rfl, ?_⟩) ?_ ?_
                  rotate_left
                  · intro w'
                    go_simp
                    with_reducible rfl
                  rotate_left
                  · simp only [Act.put, sp_]
                    rfl
                  refine take_ (i := 7) (N := some 55) (v := .agg #[.int .i8 a0_0, .int .i8 a0_1, .bool a0_2, .bool a0_3]) (a' := ?_) #[true, true, true, true, true, true, true, true, false, false, false, false, false, false, false, false, false, false, false, false, false, false, false] rfl rfl (take_ofW HT_.out HW_.out (by kernel_rfl)) (fun _ _ _ h => h) (Or.inl ⟨by rfl, fun w' hs => exec_load 29 (.tmp 2) rfl rfl (run_task (blk_below BKC hs))⟩) hHeld ?_ ?_
                  rotate_left
                  · simp only [Act.put, sp_]
                    rfl
                  refine pure_ (i := 8) (N := some 56) (v := ?_) (a' := ?_) #[true, true, true, true, true, true, true, true, true, false, false, false, false, false, false, false, false, false, false, false, false, false, false] rfl rfl (any_of HT_.out (by kernel_rfl)) (fun _ _ _ h => h) (Or.inl ⟨by rfl, ?_⟩) ?_ ?_
                  rotate_left
                  · intro w'
                    go_simp
                    with_reducible rfl
                  rotate_left
                  · simp only [Act.put, sp_]
                    rfl
                  refine pure_ (i := 9) (N := some 57) (v := ?_) (a' := ?_) #[true, true, true, true, true, true, true, true, true, true, false, false, false, false, false, false, false, false, false, false, false, false, false] rfl rfl (any_of HT_.out (by kernel_rfl)) (fun _ _ _ h => h) (Or.inl ⟨by rfl, ?_⟩) ?_ ?_
                  rotate_left
                  · intro w'
                    go_simp
                    with_reducible rfl
                  rotate_left
                  · simp only [Act.put, sp_]
                    rfl
                  refine pure_ (i := 10) (N := some 58) (v := ?_) (a' := ?_) #[true, true, true, true, true, true, true, true, true, true, true, false, false, false, false, false, false, false, false, false, false, false, false] rfl rfl (any_of HT_.out (by kernel_rfl)) (fun _ _ _ h => h) (Or.inl ⟨by rfl, ?_⟩) ?_ ?_
                  rotate_left
                  · intro w'
                    go_simp
                    with_reducible rfl
                  rotate_left
                  · simp only [Act.put, sp_]
                    rfl
                  refine take_ (i := 11) (N := some 59) (v := .agg #[.int .i8 (rd_T58 l1 x5).f0.f0, .int .i8 (rd_T58 l1 x5).f0.f1, .int .i8 (rd_T58 l1 x5).f0.f2, .int .i8 (rd_T58 l1 x5).f0.f3, .int .i8 (rd_T58 l1 x5).f0.f4, .int .i8 (rd_T58 l1 x5).f0.f5, .int .i8 (rd_T58 l1 x5).f0.f6, .int .i8 (rd_T58 l1 x5).f0.f7, .int .i8 (rd_T58 l1 x5).f0.f8, .int .i8 (rd_T58 l1 x5).f0.f9, .int .i8 (rd_T58 l1 x5).f0.f10, .int .i8 (rd_T58 l1 x5).f0.f11, .int .i8 (rd_T58 l1 x5).f0.f12, .int .i8 (rd_T58 l1 x5).f0.f13]) (a' := ?_) #[true, true, true, true, true, true, true, true, true, true, true, true, false, false, false, false, false, false, false, false, false, false, false] rfl rfl (take_ofW HT_.out HW_.out (by kernel_rfl)) (fun _ _ _ h => h) (Or.inl ⟨by rfl, fun w' hs => exec_load 26 (.tmp 58) rfl rfl (run_pans (Kd.C_below HRW hs) x5 c5 c4 rfl)⟩) hHeld ?_ ?_
                  rotate_left
                  · simp only [Act.put, sp_]
                    rfl
                  refine one_ (i := 12) (N := some 60) #[true, true, true, true, true, true, true, true, true, true, true, true, true, false, false, false, false, false, false, false, false, false, false] rfl rfl (one_of HT_.out (by kernel_rfl)) (by decide) (fun K hK => ?_)
                  refine goes_ Try.func23 (by kernel_rfl) rfl #[.agg #[.int .i8 a0_0, .int .i8 a0_1, .bool a0_2, .bool a0_3], .agg #[.int .i8 (rd_T58 l1 x5).f0.f0, .int .i8 (rd_T58 l1 x5).f0.f1, .int .i8 (rd_T58 l1 x5).f0.f2, .int .i8 (rd_T58 l1 x5).f0.f3, .int .i8 (rd_T58 l1 x5).f0.f4, .int .i8 (rd_T58 l1 x5).f0.f5, .int .i8 (rd_T58 l1 x5).f0.f6, .int .i8 (rd_T58 l1 x5).f0.f7, .int .i8 (rd_T58 l1 x5).f0.f8, .int .i8 (rd_T58 l1 x5).f0.f9, .int .i8 (rd_T58 l1 x5).f0.f10, .int .i8 (rd_T58 l1 x5).f0.f11, .int .i8 (rd_T58 l1 x5).f0.f12, .int .i8 (rd_T58 l1 x5).f0.f13]] (by rfl) rfl rfl arg_ ?_
                  with_reducible refine (B.spec_l03Weighing.calls k1 a0_0 a0_1 a0_2 a0_3 (rd_T58 l1 x5).f0.f0 (rd_T58 l1 x5).f0.f1 (rd_T58 l1 x5).f0.f2 (rd_T58 l1 x5).f0.f3 (rd_T58 l1 x5).f0.f4 (rd_T58 l1 x5).f0.f5 (rd_T58 l1 x5).f0.f6 (rd_T58 l1 x5).f0.f7 (rd_T58 l1 x5).f0.f8 (rd_T58 l1 x5).f0.f9 (rd_T58 l1 x5).f0.f10 (rd_T58 l1 x5).f0.f11 (rd_T58 l1 x5).f0.f12 (rd_T58 l1 x5).f0.f13 false _ A7.out).mono ?_
                  rintro e w10 ⟨rfl, hb⟩
                  refine ⟨_, rfl, ?_⟩
                  have n1_ := A_ (blk_below BK2.out hb)
                  have n2_ := A_ (below_step HB.out hb)
                  clear BK2 HB
                  have BK2 := n1_
                  have HB := n2_
                  clear n1_ n2_
                  refine hK.out _ _ (hb) (fun hHeld => ?_)
                  clear hK K
                  refine norm_ (a' := ?_) ?_ ?_
                  rotate_left
                  · show Act.put _ (some 60) _ = _
                    simp only [Act.put, sp_]
                    rfl
                  refine pure_ (i := 13) (N := some 61) (v := ?_) (a' := ?_) #[true, true, true, true, true, true, true, true, true, true, true, true, true, true, false, false, false, false, false, false, false, false, false] rfl rfl (any_of HT_.out (by kernel_rfl)) (fun _ _ _ h => h) (Or.inl ⟨by rfl, ?_⟩) ?_ ?_
                  rotate_left
                  · intro w'
                    go_simp
                    with_reducible rfl
                  rotate_left
                  · simp only [Act.put, sp_]
                    rfl
                  refine pure_ (i := 14) (N := some 62) (v := ?_) (a' := ?_) #[true, true, true, true, true, true, true, true, true, true, true, true, true, true, true, false, false, false, false, false, false, false, false] rfl rfl (any_of HT_.out (by kernel_rfl)) (fun _ _ _ h => h) (Or.inl ⟨by rfl, ?_⟩) ?_ ?_
                  rotate_left
                  · intro w'
                    go_simp
                    with_reducible rfl
                  rotate_left
                  · simp only [Act.put, sp_]
                    rfl
                  refine pure_ (i := 15) (N := some 63) (v := ?_) (a' := ?_) #[true, true, true, true, true, true, true, true, true, true, true, true, true, true, true, true, false, false, false, false, false, false, false] rfl rfl (any_of HT_.out (by kernel_rfl)) (fun _ _ _ h => h) (Or.inl ⟨by rfl, ?_⟩) ?_ ?_
                  rotate_left
                  · intro w'
                    go_simp
                    with_reducible rfl
                  rotate_left
                  · simp only [Act.put, sp_]
                    rfl
                  refine pure_ (i := 16) (N := some 64) (v := undef) (a' := ?_) #[true, true, true, true, true, true, true, true, true, true, true, true, true, true, true, true, true, false, false, false, false, false, false] rfl rfl (any_of HT_.out (by kernel_rfl)) (fun _ _ _ h => h) (Or.inr ⟨by rfl, rfl⟩) ?_ ?_
                  rotate_left
                  · simp only [Act.put, sp_]
                    rfl
                  refine pure_ (i := 17) (N := some 65) (v := undef) (a' := ?_) #[true, true, true, true, true, true, true, true, true, true, true, true, true, true, true, true, true, true, false, false, false, false, false] rfl rfl (any_of HT_.out (by kernel_rfl)) (fun _ _ _ h => h) (Or.inr ⟨by rfl, rfl⟩) ?_ ?_
                  rotate_left
                  · simp only [Act.put, sp_]
                    rfl
                  refine pure_ (i := 18) (N := some 66) (v := undef) (a' := ?_) #[true, true, true, true, true, true, true, true, true, true, true, true, true, true, true, true, true, true, true, false, false, false, false] rfl rfl (any_of HT_.out (by kernel_rfl)) (fun _ _ _ h => h) (Or.inr ⟨by rfl, rfl⟩) ?_ ?_
                  rotate_left
                  · simp only [Act.put, sp_]
                    rfl
                  refine pure_ (i := 19) (N := some 67) (v := undef) (a' := ?_) #[true, true, true, true, true, true, true, true, true, true, true, true, true, true, true, true, true, true, true, true, false, false, false] rfl rfl (any_of HT_.out (by kernel_rfl)) (fun _ _ _ h => h) (Or.inr ⟨by rfl, rfl⟩) ?_ ?_
                  rotate_left
                  · simp only [Act.put, sp_]
                    rfl
                  refine pure_ (i := 20) (N := some 68) (v := undef) (a' := ?_) #[true, true, true, true, true, true, true, true, true, true, true, true, true, true, true, true, true, true, true, true, true, false, false] rfl rfl (any_of HT_.out (by kernel_rfl)) (fun _ _ _ h => h) (Or.inr ⟨by rfl, rfl⟩) ?_ ?_
                  rotate_left
                  · simp only [Act.put, sp_]
                    rfl
                  refine pure_ (i := 21) (N := some 69) (v := undef) (a' := ?_) #[true, true, true, true, true, true, true, true, true, true, true, true, true, true, true, true, true, true, true, true, true, true, false] rfl rfl (any_of HT_.out (by kernel_rfl)) (fun _ _ _ h => h) (Or.inr ⟨by rfl, rfl⟩) ?_ ?_
                  rotate_left
                  · simp only [Act.put, sp_]
                    rfl
                  refine pure_ (i := 22) (N := some 70) (v := ?_) (a' := ?_) #[true, true, true, true, true, true, true, true, true, true, true, true, true, true, true, true, true, true, true, true, true, true, true] rfl rfl (any_of HT_.out (by kernel_rfl)) (fun _ _ _ h => h) (Or.inl ⟨by rfl, ?_⟩) ?_ ?_
                  rotate_left
                  · intro w'
                    go_simp
                    with_reducible rfl
                  rotate_left
                  · simp only [Act.put, sp_]
                    rfl
                  refine done_ (done_of HT_.out (by kernel_rfl)) ?_
                  go_wp2
                  go_ret
                  exact ⟨rfl, HB.out⟩
                | true =>
                  rw [if_pos rfl] at H
                  by_cases cT : ((rd_T58 l1 x5).f2.f0 == 0 && !(rd_T58 l1 x5).f2.f1) = true
                  · rw [if_pos cT] at H
                    have H' := Aside0.mk H
                    clear H
                    go_wp2
                    have n1_ := A_ (blk_drew BK2.out)
                    have n2_ := A_ (below_drew1 HB.out)
                    clear BK2 HB
                    have BK2 := n1_
                    have HB := n2_
                    clear n1_ n2_
                    refine start_ (n := 23) (S := fun W => Below wr.drew.heap.size wr.drew W) (ds := []) #[false, false, false, false, false, false, false, false, false, false, false, false, false, false, false, false, false, false, false, false, false, false, false] (by kernel_rfl) rfl rfl (Below.refl _ _) (fun hHeld => ?_); refine with_tabW spec_l03Plan.tab10 spec_l03Plan.bits10 (fun HT_ HW_ => ?_)
                    generalize wr.drew = w9 at HB BK2 hHeld ⊢
                    have HRW := Kd.C_below HR1.out HB.out
                    have BKC := BK2.out
                    refine pure_ (i := 0) (N := some 48) (v := ?_) (a' := ?_) #[true, false, false, false, false, false, false, false, false, false, false, false, false, false, false, false, false, false, false, false, false, false, false] rfl rfl (any_of HT_.out (by kernel_rfl)) (fun _ _ _ h => h) (Or.inl ⟨by rfl, ?_⟩) ?_ ?_
                    rotate_left
                    · intro w'
                      go_simp
                      with_reducible rfl
                    rotate_left
                    · simp only [Act.put, sp_]
                      rfl
                    refine pure_ (i := 1) (N := some 49) (v := ?_) (a' := ?_) #[true, true, false, false, false, false, false, false, false, false, false, false, false, false, false, false, false, false, false, false, false, false, false] rfl rfl (any_of HT_.out (by kernel_rfl)) (fun _ _ _ h => h) (Or.inl ⟨by rfl, ?_⟩) ?_ ?_
                    rotate_left
                    · intro w'
                      go_simp
                      with_reducible rfl
                    rotate_left
                    · simp only [Act.put, sp_]
                      rfl
                    refine pure_ (i := 2) (N := some 50) (v := ?_) (a' := ?_) #[true, true, true, false, false, false, false, false, false, false, false, false, false, false, false, false, false, false, false, false, false, false, false] rfl rfl (any_of HT_.out (by kernel_rfl)) (fun _ _ _ h => h) (Or.inl ⟨by rfl, ?_⟩) ?_ ?_
                    rotate_left
                    · intro w'
                      go_simp
                      with_reducible rfl
                    rotate_left
                    · simp only [Act.put, sp_]
                      rfl
                    refine take_ (i := 3) (N := some 51) (v := .agg #[.int .i8 (rd_T58 l1 x5).f0.f0, .int .i8 (rd_T58 l1 x5).f0.f1, .int .i8 (rd_T58 l1 x5).f0.f2, .int .i8 (rd_T58 l1 x5).f0.f3, .int .i8 (rd_T58 l1 x5).f0.f4, .int .i8 (rd_T58 l1 x5).f0.f5, .int .i8 (rd_T58 l1 x5).f0.f6, .int .i8 (rd_T58 l1 x5).f0.f7, .int .i8 (rd_T58 l1 x5).f0.f8, .int .i8 (rd_T58 l1 x5).f0.f9, .int .i8 (rd_T58 l1 x5).f0.f10, .int .i8 (rd_T58 l1 x5).f0.f11, .int .i8 (rd_T58 l1 x5).f0.f12, .int .i8 (rd_T58 l1 x5).f0.f13]) (a' := ?_) #[true, true, true, true, false, false, false, false, false, false, false, false, false, false, false, false, false, false, false, false, false, false, false] rfl rfl (take_ofW HT_.out HW_.out (by kernel_rfl)) (fun _ _ _ h => h) (Or.inl ⟨by rfl, fun w' hs => exec_load 26 (.tmp 50) rfl rfl (run_pans (Kd.C_below HRW hs) x5 c5 c4 rfl)⟩) hHeld ?_ ?_
                    rotate_left
                    · simp only [Act.put, sp_]
                      rfl
                    refine pure_ (i := 4) (N := some 52) (v := ?_) (a' := ?_) #[true, true, true, true, true, false, false, false, false, false, false, false, false, false, false, false, false, false, false, false, false, false, false] rfl rfl (any_of HT_.out (by kernel_rfl)) (fun _ _ _ h => h) (Or.inl ⟨by rfl, ?_⟩) ?_ ?_
                    rotate_left
                    · intro w'
                      go_simp
                      with_reducible rfl
                    rotate_left
                    · simp only [Act.put, sp_]
                      rfl
                    refine pure_ (i := 5) (N := some 53) (v := ?_) (a' := ?_) #[true, true, true, true, true, true, false, false, false, false, false, false, false, false, false, false, false, false, false, false, false, false, false] rfl rfl (any_of HT_.out (by kernel_rfl)) (fun _ _ _ h => h) (Or.inl ⟨by rfl, ?_⟩) ?_ ?_
                    rotate_left
                    · intro w'
                      go_simp
                      with_reducible rfl
                    rotate_left
                    · simp only [Act.put, sp_]
                      rfl
                    refine pure_ (i := 6) (N := some 54) (v := ?_) (a' := ?_) #[true, true, true, true, true, true, true, false, false, false, false, false, false, false, false, false, false, false, false, false, false, false, false] rfl rfl (any_of HT_.out (by kernel_rfl)) (fun _ _ _ h => h) (Or.inl ⟨by rfl, ?_⟩) ?_ ?_
                    rotate_left
                    · intro w'
                      go_simp
                      with_reducible rfl
                    rotate_left
                    · simp only [Act.put, sp_]
                      rfl
                    refine take_ (i := 7) (N := some 55) (v := .agg #[.int .i8 a0_0, .int .i8 a0_1, .bool a0_2, .bool a0_3]) (a' := ?_) #[true, true, true, true, true, true, true, true, false, false, false, false, false, false, false, false, false, false, false, false, false, false, false] rfl rfl (take_ofW HT_.out HW_.out (by kernel_rfl)) (fun _ _ _ h => h) (Or.inl ⟨by rfl, fun w' hs => exec_load 29 (.tmp 2) rfl rfl (run_task (blk_below BKC hs))⟩) hHeld ?_ ?_
                    rotate_left
                    · simp only [Act.put, sp_]
                      rfl
                    refine pure_ (i := 8) (N := some 56) (v := ?_) (a' := ?_) #[true, true, true, true, true, true, true, true, true, false, false, false, false, false, false, false, false, false, false, false, false, false, false] rfl rfl (any_of HT_.out (by kernel_rfl)) (fun _ _ _ h => h) (Or.inl ⟨by rfl, ?_⟩) ?_ ?_
                    rotate_left
                    · intro w'
                      go_simp
                      with_reducible rfl
                    rotate_left
                    · simp only [Act.put, sp_]
                      rfl
                    refine pure_ (i := 9) (N := some 57) (v := ?_) (a' := ?_) #[true, true, true, true, true, true, true, true, true, true, false, false, false, false, false, false, false, false, false, false, false, false, false] rfl rfl (any_of HT_.out (by kernel_rfl)) (fun _ _ _ h => h) (Or.inl ⟨by rfl, ?_⟩) ?_ ?_
                    rotate_left
                    · intro w'
                      go_simp
                      with_reducible rfl
                    rotate_left
                    · simp only [Act.put, sp_]
                      rfl
                    refine pure_ (i := 10) (N := some 58) (v := ?_) (a' := ?_) #[true, true, true, true, true, true, true, true, true, true, true, false, false, false, false, false, false, false, false, false, false, false, false] rfl rfl (any_of HT_.out (by kernel_rfl)) (fun _ _ _ h => h) (Or.inl ⟨by rfl, ?_⟩) ?_ ?_
                    rotate_left
                    · intro w'
                      go_simp
                      with_reducible rfl
                    rotate_left
                    · simp only [Act.put, sp_]
                      rfl
                    refine take_ (i := 11) (N := some 59) (v := .agg #[.int .i8 (rd_T58 l1 x5).f0.f0, .int .i8 (rd_T58 l1 x5).f0.f1, .int .i8 (rd_T58 l1 x5).f0.f2, .int .i8 (rd_T58 l1 x5).f0.f3, .int .i8 (rd_T58 l1 x5).f0.f4, .int .i8 (rd_T58 l1 x5).f0.f5, .int .i8 (rd_T58 l1 x5).f0.f6, .int .i8 (rd_T58 l1 x5).f0.f7, .int .i8 (rd_T58 l1 x5).f0.f8, .int .i8 (rd_T58 l1 x5).f0.f9, .int .i8 (rd_T58 l1 x5).f0.f10, .int .i8 (rd_T58 l1 x5).f0.f11, .int .i8 (rd_T58 l1 x5).f0.f12, .int .i8 (rd_T58 l1 x5).f0.f13]) (a' := ?_) #[true, true, true, true, true, true, true, true, true, true, true, true, false, false, false, false, false, false, false, false, false, false, false] rfl rfl (take_ofW HT_.out HW_.out (by kernel_rfl)) (fun _ _ _ h => h) (Or.inl ⟨by rfl, fun w' hs => exec_load 26 (.tmp 58) rfl rfl (run_pans (Kd.C_below HRW hs) x5 c5 c4 rfl)⟩) hHeld ?_ ?_
                    rotate_left
                    · simp only [Act.put, sp_]
                      rfl
                    refine one_ (i := 12) (N := some 60) #[true, true, true, true, true, true, true, true, true, true, true, true, true, false, false, false, false, false, false, false, false, false, false] rfl rfl (one_of HT_.out (by kernel_rfl)) (by decide) (fun K hK => ?_)
                    refine goes_ Try.func23 (by kernel_rfl) rfl #[.agg #[.int .i8 a0_0, .int .i8 a0_1, .bool a0_2, .bool a0_3], .agg #[.int .i8 (rd_T58 l1 x5).f0.f0, .int .i8 (rd_T58 l1 x5).f0.f1, .int .i8 (rd_T58 l1 x5).f0.f2, .int .i8 (rd_T58 l1 x5).f0.f3, .int .i8 (rd_T58 l1 x5).f0.f4, .int .i8 (rd_T58 l1 x5).f0.f5, .int .i8 (rd_T58 l1 x5).f0.f6, .int .i8 (rd_T58 l1 x5).f0.f7, .int .i8 (rd_T58 l1 x5).f0.f8, .int .i8 (rd_T58 l1 x5).f0.f9, .int .i8 (rd_T58 l1 x5).f0.f10, .int .i8 (rd_T58 l1 x5).f0.f11, .int .i8 (rd_T58 l1 x5).f0.f12, .int .i8 (rd_T58 l1 x5).f0.f13]] (by rfl) rfl rfl arg_ ?_
                    with_reducible refine (B.spec_l03Weighing.calls k1 a0_0 a0_1 a0_2 a0_3 (rd_T58 l1 x5).f0.f0 (rd_T58 l1 x5).f0.f1 (rd_T58 l1 x5).f0.f2 (rd_T58 l1 x5).f0.f3 (rd_T58 l1 x5).f0.f4 (rd_T58 l1 x5).f0.f5 (rd_T58 l1 x5).f0.f6 (rd_T58 l1 x5).f0.f7 (rd_T58 l1 x5).f0.f8 (rd_T58 l1 x5).f0.f9 (rd_T58 l1 x5).f0.f10 (rd_T58 l1 x5).f0.f11 (rd_T58 l1 x5).f0.f12 (rd_T58 l1 x5).f0.f13 true _ A7.out).mono ?_
                    rintro e w10 ⟨rfl, hb⟩
                    refine ⟨_, rfl, ?_⟩
                    have n1_ := A_ (blk_below BK2.out hb)
                    have n2_ := A_ (below_step HB.out hb)
                    clear BK2 HB
                    have BK2 := n1_
                    have HB := n2_
                    clear n1_ n2_
                    refine hK.out _ _ (hb) (fun hHeld => ?_)
                    clear hK K
                    refine norm_ (a' := ?_) ?_ ?_
                    rotate_left
                    · show Act.put _ (some 60) _ = _
                      simp only [Act.put, sp_]
                      rfl
                    refine pure_ (i := 13) (N := some 61) (v := ?_) (a' := ?_) #[true, true, true, true, true, true, true, true, true, true, true, true, true, true, false, false, false, false, false, false, false, false, false] rfl rfl (any_of HT_.out (by kernel_rfl)) (fun _ _ _ h => h) (Or.inl ⟨by rfl, ?_⟩) ?_ ?_
                    rotate_left
                    · intro w'
                      go_simp
                      with_reducible rfl
                    rotate_left
                    · simp only [Act.put, sp_]
                      rfl
                    refine pure_ (i := 14) (N := some 62) (v := ?_) (a' := ?_) #[true, true, true, true, true, true, true, true, true, true, true, true, true, true, true, false, false, false, false, false, false, false, false] rfl rfl (any_of HT_.out (by kernel_rfl)) (fun _ _ _ h => h) (Or.inl ⟨by rfl, ?_⟩) ?_ ?_
                    rotate_left
                    · intro w'
                      go_simp
                      with_reducible rfl
                    rotate_left
                    · simp only [Act.put, sp_]
                      rfl
                    refine pure_ (i := 15) (N := some 63) (v := ?_) (a' := ?_) #[true, true, true, true, true, true, true, true, true, true, true, true, true, true, true, true, false, false, false, false, false, false, false] rfl rfl (any_of HT_.out (by kernel_rfl)) (fun _ _ _ h => h) (Or.inl ⟨by rfl, ?_⟩) ?_ ?_
                    rotate_left
                    · intro w'
                      go_simp
                      with_reducible rfl
                    rotate_left
                    · simp only [Act.put, sp_]
                      rfl
                    refine pure_ (i := 16) (N := some 64) (v := ?_) (a' := ?_) #[true, true, true, true, true, true, true, true, true, true, true, true, true, true, true, true, true, false, false, false, false, false, false] rfl rfl (any_of HT_.out (by kernel_rfl)) (fun _ _ _ h => h) (Or.inl ⟨by rfl, ?_⟩) ?_ ?_
                    rotate_left
                    · intro w'
                      go_simp
                      with_reducible rfl
                    rotate_left
                    · simp only [Act.put, sp_]
                      rfl
                    refine pure_ (i := 17) (N := some 65) (v := ?_) (a' := ?_) #[true, true, true, true, true, true, true, true, true, true, true, true, true, true, true, true, true, true, false, false, false, false, false] rfl rfl (any_of HT_.out (by kernel_rfl)) (fun _ _ _ h => h) (Or.inl ⟨by rfl, ?_⟩) ?_ ?_
                    rotate_left
                    · intro w'
                      go_simp
                      with_reducible rfl
                    rotate_left
                    · simp only [Act.put, sp_]
                      rfl
                    refine pure_ (i := 18) (N := some 66) (v := ?_) (a' := ?_) #[true, true, true, true, true, true, true, true, true, true, true, true, true, true, true, true, true, true, true, false, false, false, false] rfl rfl (any_of HT_.out (by kernel_rfl)) (fun _ _ _ h => h) (Or.inl ⟨by rfl, ?_⟩) ?_ ?_
                    rotate_left
                    · intro w'
                      go_simp
                      with_reducible rfl
                    rotate_left
                    · simp only [Act.put, sp_]
                      rfl
                    refine take_ (i := 19) (N := some 67) (v := .agg #[.int .i8 (rd_T58 l1 x5).f2.f0, .bool (rd_T58 l1 x5).f2.f1]) (a' := ?_) #[true, true, true, true, true, true, true, true, true, true, true, true, true, true, true, true, true, true, true, true, false, false, false] rfl rfl (take_ofW HT_.out HW_.out (by kernel_rfl)) (fun _ _ _ h => h) (Or.inl ⟨by rfl, fun w' hs => exec_load 43 (.tmp 66) rfl rfl (run_tell (Kd.C_below HRW hs) x5 c5 c4 rfl)⟩) hHeld ?_ ?_
                    rotate_left
                    · simp only [Act.put, sp_]
                      rfl
                    refine pure_ (i := 20) (N := some 68) (v := ?_) (a' := ?_) #[true, true, true, true, true, true, true, true, true, true, true, true, true, true, true, true, true, true, true, true, true, false, false] rfl rfl (any_of HT_.out (by kernel_rfl)) (fun _ _ _ h => h) (Or.inl ⟨by rfl, ?_⟩) ?_ ?_
                    rotate_left
                    · intro w'
                      go_simp
                      with_reducible rfl
                    rotate_left
                    · simp only [Act.put, sp_]
                      rfl
                    refine pure_ (i := 21) (N := some 69) (v := ?_) (a' := ?_) #[true, true, true, true, true, true, true, true, true, true, true, true, true, true, true, true, true, true, true, true, true, true, false] rfl rfl (any_of HT_.out (by kernel_rfl)) (fun _ _ _ h => h) (Or.inl ⟨by rfl, ?_⟩) ?_ ?_
                    rotate_left
                    · intro w'
                      go_simp
                      with_reducible rfl
                    rotate_left
                    · simp only [Act.put, sp_]
                      rfl
                    refine pure_ (i := 22) (N := some 70) (v := ?_) (a' := ?_) #[true, true, true, true, true, true, true, true, true, true, true, true, true, true, true, true, true, true, true, true, true, true, true] rfl rfl (any_of HT_.out (by kernel_rfl)) (fun _ _ _ h => h) (Or.inl ⟨by rfl, ?_⟩) ?_ ?_
                    rotate_left
                    · intro w'
                      go_simp
                      with_reducible rfl
                    rotate_left
                    · simp only [Act.put, sp_]
                      rfl
                    refine done_ (done_of HT_.out (by kernel_rfl)) ?_
                    go_wp2
                    go_loopg [7] k1 (fun kq v7 w' => ∃ (x7 : Int), v7 = .int .i64 x7 ∧ Aside0 (spec_l03Plan.l1 kq l1 x5 x7 a0_0 a0_1 a0_2 a0_3 = some r) ∧ Aside0 (kq ≤ k1) ∧ Aside0 (w'.heap[gb2]? = some (.cells #[.int .i8 a0_0, .int .i8 a0_1, .bool a0_2, .bool a0_3] 29 (0, 0))) ∧ Aside0 (Below w.heap.size w w'))
                    case atStart => exact ⟨0, rs_, H', ⟨Nat.le_refl _⟩, ⟨BK2.out⟩, ⟨HB.out⟩⟩
                    case round =>
                      clear H' BK2 HB
                      obtain ⟨x7, rfl, HA, HK2, BK2, HB⟩ := hrel
                      cases gk with
                      | zero => exact absurd HA.out (by simp [spec_l03Plan.l1])
                      | succ k2 =>
                        have H := HA.out
                        clear HA
                        simp only [spec_l03Plan.l1] at H
                        by_cases j3 : x7 < 3
                        · rw [if_pos j3] at H
                          have j3b : decide (x7 < 3) = true := decide_eq_true j3
                          by_cases j0 : 0 ≤ x7
                          · rw [if_pos j0] at H
                            have hx := next_at (Kd.C_below HR1.out HB.out) x5 c5 c4 rfl x7 j0 j3
                            by_cases cA : wrap64 (rd [(rd_T58 l1 x5).f1.f0, (rd_T58 l1 x5).f1.f1, (rd_T58 l1 x5).f1.f2] x7) ≤ x5
                            · rw [if_pos cA] at H
                              have cAb : decide (wrap64 (rd [(rd_T58 l1 x5).f1.f0, (rd_T58 l1 x5).f1.f1, (rd_T58 l1 x5).f1.f2] x7) ≤ x5) = true := decide_eq_true cA
                              obtain rfl := Option.some.inj H
                              go_wp2
                              go_ret
                              exact ⟨rfl, HB.out⟩
                            · rw [if_neg cA] at H
                              have cAb : decide (wrap64 (rd [(rd_T58 l1 x5).f1.f0, (rd_T58 l1 x5).f1.f1, (rd_T58 l1 x5).f1.f2] x7) ≤ x5) = false := decide_eq_false cA
                              by_cases cB : wrap64 (rd [(rd_T58 l1 x5).f1.f0, (rd_T58 l1 x5).f1.f1, (rd_T58 l1 x5).f1.f2] x7) ≥ (l1.length : Int)
                              · rw [if_pos cB] at H
                                have cBb : decide (wrap64 (rd [(rd_T58 l1 x5).f1.f0, (rd_T58 l1 x5).f1.f1, (rd_T58 l1 x5).f1.f2] x7) ≥ (l1.length : Int)) = true := decide_eq_true cB
                                obtain rfl := Option.some.inj H
                                go_wp2
                                go_ret
                                exact ⟨rfl, HB.out⟩
                              · rw [if_neg cB] at H
                                have cBb : decide (wrap64 (rd [(rd_T58 l1 x5).f1.f0, (rd_T58 l1 x5).f1.f1, (rd_T58 l1 x5).f1.f2] x7) ≥ (l1.length : Int)) = false := decide_eq_false cB
                                have H' := Aside0.mk H
                                clear H
                                go_wp2
                                go_roundg k2
                                case measure => have := HK1.out; have := HK2.out; omega
                                case rel => exact ⟨(wrap64 (x7 + 1)), (by congr 1; unfold wrap64; omega), H', ⟨by have := HK1.out; have := HK2.out; omega⟩, ⟨BK2.out⟩, ⟨HB.out⟩⟩
                          · rw [if_neg j0] at H
                            cases H
                        · rw [if_neg j3] at H
                          have j3b : decide (x7 < 3) = false := decide_eq_false j3
                          have H' := Aside0.mk H
                          clear H
                          go_wp2
                          go_roundg k2
                          case measure => have := HK1.out; have := HK2.out; omega
                          case rel => exact ⟨(wrap64 (x5 + 1)), rs_, H', ⟨by have := HK1.out; have := HK2.out; omega⟩, ⟨BK2.out⟩, ⟨HB.out⟩⟩
                  · rw [if_neg cT] at H
                    replace cT := Bool.eq_false_iff.mpr cT
                    obtain rfl := Option.some.inj H
                    go_wp2
                    have n1_ := A_ (blk_drew BK2.out)
                    have n2_ := A_ (below_drew1 HB.out)
                    clear BK2 HB
                    have BK2 := n1_
                    have HB := n2_
                    clear n1_ n2_
                    refine start_ (n := 23) (S := fun W => Below wr.drew.heap.size wr.drew W) (ds := []) #[false, false, false, false, false, false, false, false, false, false, false, false, false, false, false, false, false, false, false, false, false, false, false] (by kernel_rfl) rfl rfl (Below.refl _ _) (fun hHeld => ?_); refine with_tabW spec_l03Plan.tab10 spec_l03Plan.bits10 (fun HT_ HW_ => ?_)
                    generalize wr.drew = w9 at HB BK2 hHeld ⊢
                    have HRW := Kd.C_below HR1.out HB.out
                    have BKC := BK2.out
                    refine pure_ (i := 0) (N := some 48) (v := ?_) (a' := ?_) #[true, false, false, false, false, false, false, false, false, false, false, false, false, false, false, false, false, false, false, false, false, false, false] rfl rfl (any_of HT_.out (by kernel_rfl)) (fun _ _ _ h => h) (Or.inl ⟨by rfl, ?_⟩) ?_ ?_
                    rotate_left
                    · intro w'
                      go_simp
                      with_reducible rfl
                    rotate_left
                    · simp only [Act.put, sp_]
                      rfl
                    refine pure_ (i := 1) (N := some 49) (v := ?_) (a' := ?_) #[true, true, false, false, false, false, false, false, false, false, false, false, false, false, false, false, false, false, false, false, false, false, false] rfl rfl (any_of HT_.out (by kernel_rfl)) (fun _ _ _ h => h) (Or.inl ⟨by rfl, ?_⟩) ?_ ?_
                    rotate_left
                    · intro w'
                      go_simp
                      with_reducible rfl
                    rotate_left
                    · simp only [Act.put, sp_]
                      rfl
                    refine pure_ (i := 2) (N := some 50) (v := ?_) (a' := ?_) #[true, true, true, false, false, false, false, false, false, false, false, false, false, false, false, false, false, false, false, false, false, false, false] rfl rfl (any_of HT_.out (by kernel_rfl)) (fun _ _ _ h => h) (Or.inl ⟨by rfl, ?_⟩) ?_ ?_
                    rotate_left
                    · intro w'
                      go_simp
                      with_reducible rfl
                    rotate_left
                    · simp only [Act.put, sp_]
                      rfl
                    refine take_ (i := 3) (N := some 51) (v := .agg #[.int .i8 (rd_T58 l1 x5).f0.f0, .int .i8 (rd_T58 l1 x5).f0.f1, .int .i8 (rd_T58 l1 x5).f0.f2, .int .i8 (rd_T58 l1 x5).f0.f3, .int .i8 (rd_T58 l1 x5).f0.f4, .int .i8 (rd_T58 l1 x5).f0.f5, .int .i8 (rd_T58 l1 x5).f0.f6, .int .i8 (rd_T58 l1 x5).f0.f7, .int .i8 (rd_T58 l1 x5).f0.f8, .int .i8 (rd_T58 l1 x5).f0.f9, .int .i8 (rd_T58 l1 x5).f0.f10, .int .i8 (rd_T58 l1 x5).f0.f11, .int .i8 (rd_T58 l1 x5).f0.f12, .int .i8 (rd_T58 l1 x5).f0.f13]) (a' := ?_) #[true, true, true, true, false, false, false, false, false, false, false, false, false, false, false, false, false, false, false, false, false, false, false] rfl rfl (take_ofW HT_.out HW_.out (by kernel_rfl)) (fun _ _ _ h => h) (Or.inl ⟨by rfl, fun w' hs => exec_load 26 (.tmp 50) rfl rfl (run_pans (Kd.C_below HRW hs) x5 c5 c4 rfl)⟩) hHeld ?_ ?_
                    rotate_left
                    · simp only [Act.put, sp_]
                      rfl
                    refine pure_ (i := 4) (N := some 52) (v := ?_) (a' := ?_) #[true, true, true, true, true, false, false, false, false, false, false, false, false, false, false, false, false, false, false, false, false, false, false] rfl rfl (any_of HT_.out (by kernel_rfl)) (fun _ _ _ h => h) (Or.inl ⟨by rfl, ?_⟩) ?_ ?_
                    rotate_left
                    · intro w'
                      go_simp
                      with_reducible rfl
                    rotate_left
                    · simp only [Act.put, sp_]
                      rfl
                    refine pure_ (i := 5) (N := some 53) (v := ?_) (a' := ?_) #[true, true, true, true, true, true, false, false, false, false, false, false, false, false, false, false, false, false, false, false, false, false, false] rfl rfl (any_of HT_.out (by kernel_rfl)) (fun _ _ _ h => h) (Or.inl ⟨by rfl, ?_⟩) ?_ ?_
                    rotate_left
                    · intro w'
                      go_simp
                      with_reducible rfl
                    rotate_left
                    · simp only [Act.put, sp_]
                      rfl
                    refine pure_ (i := 6) (N := some 54) (v := ?_) (a' := ?_) #[true, true, true, true, true, true, true, false, false, false, false, false, false, false, false, false, false, false, false, false, false, false, false] rfl rfl (any_of HT_.out (by kernel_rfl)) (fun _ _ _ h => h) (Or.inl ⟨by rfl, ?_⟩) ?_ ?_
                    rotate_left
                    · intro w'
                      go_simp
                      with_reducible rfl
                    rotate_left
                    · simp only [Act.put, sp_]
                      rfl
                    refine take_ (i := 7) (N := some 55) (v := .agg #[.int .i8 a0_0, .int .i8 a0_1, .bool a0_2, .bool a0_3]) (a' := ?_) #[true, true, true, true, true, true, true, true, false, false, false, false, false, false, false, false, false, false, false, false, false, false, false] rfl rfl (take_ofW HT_.out HW_.out (by kernel_rfl)) (fun _ _ _ h => h) (Or.inl ⟨by rfl, fun w' hs => exec_load 29 (.tmp 2) rfl rfl (run_task (blk_below BKC hs))⟩) hHeld ?_ ?_
                    rotate_left
                    · simp only [Act.put, sp_]
                      rfl
                    refine pure_ (i := 8) (N := some 56) (v := ?_) (a' := ?_) #[true, true, true, true, true, true, true, true, true, false, false, false, false, false, false, false, false, false, false, false, false, false, false] rfl rfl (any_of HT_.out (by kernel_rfl)) (fun _ _ _ h => h) (Or.inl ⟨by rfl, ?_⟩) ?_ ?_
                    rotate_left
                    · intro w'
                      go_simp
                      with_reducible rfl
                    rotate_left
                    · simp only [Act.put, sp_]
                      rfl
                    refine pure_ (i := 9) (N := some 57) (v := ?_) (a' := ?_) #[true, true, true, true, true, true, true, true, true, true, false, false, false, false, false, false, false, false, false, false, false, false, false] rfl rfl (any_of HT_.out (by kernel_rfl)) (fun _ _ _ h => h) (Or.inl ⟨by rfl, ?_⟩) ?_ ?_
                    rotate_left
                    · intro w'
                      go_simp
                      with_reducible rfl
                    rotate_left
                    · simp only [Act.put, sp_]
                      rfl
                    refine pure_ (i := 10) (N := some 58) (v := ?_) (a' := ?_) #[true, true, true, true, true, true, true, true, true, true, true, false, false, false, false, false, false, false, false, false, false, false, false] rfl rfl (any_of HT_.out (by kernel_rfl)) (fun _ _ _ h => h) (Or.inl ⟨by rfl, ?_⟩) ?_ ?_
                    rotate_left
                    · intro w'
                      go_simp
                      with_reducible rfl
                    rotate_left
                    · simp only [Act.put, sp_]
                      rfl
                    refine take_ (i := 11) (N := some 59) (v := .agg #[.int .i8 (rd_T58 l1 x5).f0.f0, .int .i8 (rd_T58 l1 x5).f0.f1, .int .i8 (rd_T58 l1 x5).f0.f2, .int .i8 (rd_T58 l1 x5).f0.f3, .int .i8 (rd_T58 l1 x5).f0.f4, .int .i8 (rd_T58 l1 x5).f0.f5, .int .i8 (rd_T58 l1 x5).f0.f6, .int .i8 (rd_T58 l1 x5).f0.f7, .int .i8 (rd_T58 l1 x5).f0.f8, .int .i8 (rd_T58 l1 x5).f0.f9, .int .i8 (rd_T58 l1 x5).f0.f10, .int .i8 (rd_T58 l1 x5).f0.f11, .int .i8 (rd_T58 l1 x5).f0.f12, .int .i8 (rd_T58 l1 x5).f0.f13]) (a' := ?_) #[true, true, true, true, true, true, true, true, true, true, true, true, false, false, false, false, false, false, false, false, false, false, false] rfl rfl (take_ofW HT_.out HW_.out (by kernel_rfl)) (fun _ _ _ h => h) (Or.inl ⟨by rfl, fun w' hs => exec_load 26 (.tmp 58) rfl rfl (run_pans (Kd.C_below HRW hs) x5 c5 c4 rfl)⟩) hHeld ?_ ?_
                    rotate_left
                    · simp only [Act.put, sp_]
                      rfl
                    refine one_ (i := 12) (N := some 60) #[true, true, true, true, true, true, true, true, true, true, true, true, true, false, false, false, false, false, false, false, false, false, false] rfl rfl (one_of HT_.out (by kernel_rfl)) (by decide) (fun K hK => ?_)
                    refine goes_ Try.func23 (by kernel_rfl) rfl #[.agg #[.int .i8 a0_0, .int .i8 a0_1, .bool a0_2, .bool a0_3], .agg #[.int .i8 (rd_T58 l1 x5).f0.f0, .int .i8 (rd_T58 l1 x5).f0.f1, .int .i8 (rd_T58 l1 x5).f0.f2, .int .i8 (rd_T58 l1 x5).f0.f3, .int .i8 (rd_T58 l1 x5).f0.f4, .int .i8 (rd_T58 l1 x5).f0.f5, .int .i8 (rd_T58 l1 x5).f0.f6, .int .i8 (rd_T58 l1 x5).f0.f7, .int .i8 (rd_T58 l1 x5).f0.f8, .int .i8 (rd_T58 l1 x5).f0.f9, .int .i8 (rd_T58 l1 x5).f0.f10, .int .i8 (rd_T58 l1 x5).f0.f11, .int .i8 (rd_T58 l1 x5).f0.f12, .int .i8 (rd_T58 l1 x5).f0.f13]] (by rfl) rfl rfl arg_ ?_
                    with_reducible refine (B.spec_l03Weighing.calls k1 a0_0 a0_1 a0_2 a0_3 (rd_T58 l1 x5).f0.f0 (rd_T58 l1 x5).f0.f1 (rd_T58 l1 x5).f0.f2 (rd_T58 l1 x5).f0.f3 (rd_T58 l1 x5).f0.f4 (rd_T58 l1 x5).f0.f5 (rd_T58 l1 x5).f0.f6 (rd_T58 l1 x5).f0.f7 (rd_T58 l1 x5).f0.f8 (rd_T58 l1 x5).f0.f9 (rd_T58 l1 x5).f0.f10 (rd_T58 l1 x5).f0.f11 (rd_T58 l1 x5).f0.f12 (rd_T58 l1 x5).f0.f13 true _ A7.out).mono ?_
                    rintro e w10 ⟨rfl, hb⟩
                    refine ⟨_, rfl, ?_⟩
                    have n1_ := A_ (blk_below BK2.out hb)
                    have n2_ := A_ (below_step HB.out hb)
                    clear BK2 HB
                    have BK2 := n1_
                    have HB := n2_
                    clear n1_ n2_
                    refine hK.out _ _ (hb) (fun hHeld => ?_)
                    clear hK K
                    refine norm_ (a' := ?_) ?_ ?_
                    rotate_left
                    · show Act.put _ (some 60) _ = _
                      simp only [Act.put, sp_]
                      rfl
                    refine pure_ (i := 13) (N := some 61) (v := ?_) (a' := ?_) #[true, true, true, true, true, true, true, true, true, true, true, true, true, true, false, false, false, false, false, false, false, false, false] rfl rfl (any_of HT_.out (by kernel_rfl)) (fun _ _ _ h => h) (Or.inl ⟨by rfl, ?_⟩) ?_ ?_
                    rotate_left
                    · intro w'
                      go_simp
                      with_reducible rfl
                    rotate_left
                    · simp only [Act.put, sp_]
                      rfl
                    refine pure_ (i := 14) (N := some 62) (v := ?_) (a' := ?_) #[true, true, true, true, true, true, true, true, true, true, true, true, true, true, true, false, false, false, false, false, false, false, false] rfl rfl (any_of HT_.out (by kernel_rfl)) (fun _ _ _ h => h) (Or.inl ⟨by rfl, ?_⟩) ?_ ?_
                    rotate_left
                    · intro w'
                      go_simp
                      with_reducible rfl
                    rotate_left
                    · simp only [Act.put, sp_]
                      rfl
                    refine pure_ (i := 15) (N := some 63) (v := ?_) (a' := ?_) #[true, true, true, true, true, true, true, true, true, true, true, true, true, true, true, true, false, false, false, false, false, false, false] rfl rfl (any_of HT_.out (by kernel_rfl)) (fun _ _ _ h => h) (Or.inl ⟨by rfl, ?_⟩) ?_ ?_
                    rotate_left
                    · intro w'
                      go_simp
                      with_reducible rfl
                    rotate_left
                    · simp only [Act.put, sp_]
                      rfl
                    refine pure_ (i := 16) (N := some 64) (v := ?_) (a' := ?_) #[true, true, true, true, true, true, true, true, true, true, true, true, true, true, true, true, true, false, false, false, false, false, false] rfl rfl (any_of HT_.out (by kernel_rfl)) (fun _ _ _ h => h) (Or.inl ⟨by rfl, ?_⟩) ?_ ?_
                    rotate_left
                    · intro w'
                      go_simp
                      with_reducible rfl
                    rotate_left
                    · simp only [Act.put, sp_]
                      rfl
                    refine pure_ (i := 17) (N := some 65) (v := ?_) (a' := ?_) #[true, true, true, true, true, true, true, true, true, true, true, true, true, true, true, true, true, true, false, false, false, false, false] rfl rfl (any_of HT_.out (by kernel_rfl)) (fun _ _ _ h => h) (Or.inl ⟨by rfl, ?_⟩) ?_ ?_
                    rotate_left
                    · intro w'
                      go_simp
                      with_reducible rfl
                    rotate_left
                    · simp only [Act.put, sp_]
                      rfl
                    refine pure_ (i := 18) (N := some 66) (v := ?_) (a' := ?_) #[true, true, true, true, true, true, true, true, true, true, true, true, true, true, true, true, true, true, true, false, false, false, false] rfl rfl (any_of HT_.out (by kernel_rfl)) (fun _ _ _ h => h) (Or.inl ⟨by rfl, ?_⟩) ?_ ?_
                    rotate_left
                    · intro w'
                      go_simp
                      with_reducible rfl
                    rotate_left
                    · simp only [Act.put, sp_]
                      rfl
                    refine take_ (i := 19) (N := some 67) (v := .agg #[.int .i8 (rd_T58 l1 x5).f2.f0, .bool (rd_T58 l1 x5).f2.f1]) (a' := ?_) #[true, true, true, true, true, true, true, true, true, true, true, true, true, true, true, true, true, true, true, true, false, false, false] rfl rfl (take_ofW HT_.out HW_.out (by kernel_rfl)) (fun _ _ _ h => h) (Or.inl ⟨by rfl, fun w' hs => exec_load 43 (.tmp 66) rfl rfl (run_tell (Kd.C_below HRW hs) x5 c5 c4 rfl)⟩) hHeld ?_ ?_
                    rotate_left
                    · simp only [Act.put, sp_]
                      rfl
                    refine pure_ (i := 20) (N := some 68) (v := ?_) (a' := ?_) #[true, true, true, true, true, true, true, true, true, true, true, true, true, true, true, true, true, true, true, true, true, false, false] rfl rfl (any_of HT_.out (by kernel_rfl)) (fun _ _ _ h => h) (Or.inl ⟨by rfl, ?_⟩) ?_ ?_
                    rotate_left
                    · intro w'
                      go_simp
                      with_reducible rfl
                    rotate_left
                    · simp only [Act.put, sp_]
                      rfl
                    refine pure_ (i := 21) (N := some 69) (v := ?_) (a' := ?_) #[true, true, true, true, true, true, true, true, true, true, true, true, true, true, true, true, true, true, true, true, true, true, false] rfl rfl (any_of HT_.out (by kernel_rfl)) (fun _ _ _ h => h) (Or.inl ⟨by rfl, ?_⟩) ?_ ?_
                    rotate_left
                    · intro w'
                      go_simp
                      with_reducible rfl
                    rotate_left
                    · simp only [Act.put, sp_]
                      rfl
                    refine pure_ (i := 22) (N := some 70) (v := ?_) (a' := ?_) #[true, true, true, true, true, true, true, true, true, true, true, true, true, true, true, true, true, true, true, true, true, true, true] rfl rfl (any_of HT_.out (by kernel_rfl)) (fun _ _ _ h => h) (Or.inl ⟨by rfl, ?_⟩) ?_ ?_
                    rotate_left
                    · intro w'
                      go_simp
                      with_reducible rfl
                    rotate_left
                    · simp only [Act.put, sp_]
                      rfl
                    refine done_ (done_of HT_.out (by kernel_rfl)) ?_
                    go_wp2
                    go_ret
                    exact ⟨rfl, HB.out⟩
          · rw [if_neg c5] at H
            cases H
        · rw [if_neg c4] at H
          have c4b : decide (x5 < (l1.length : Int)) = false := decide_eq_false c4
          obtain rfl := Option.some.inj H
          go_wp2
          go_ret
          exact ⟨rfl, HB.out⟩
end Go.Proofs.Ytcghglembmohcaa.M
