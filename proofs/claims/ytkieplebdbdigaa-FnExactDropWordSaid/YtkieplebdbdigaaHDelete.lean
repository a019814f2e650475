/- slices.Delete of one word of a row of the call's own: told by hand. -/
import Derived.Lib.SliceRun
import Derived.StillTailTactics
import Derived.Test.YtkieplebdbdigaaMx0
namespace Go.Proofs.Ytkieplebdbdigaa.M
open Go.RowKit Go.Proofs.YtkieplebdbdigaaW.PrintWords Go.Proofs.YtkieplebdbdigaaW.PrintLast Go.Proofs.YtkieplebdbdigaaW.PrintMore
set_option linter.unusedVariables false
set_option linter.unusedSimpArgs false

/-- 'clear' of the cells behind a row's end: the row stays. -/
theorem R_clear_run {P : Program} {α : Type} (d : Kd α) {W : World} (base : Nat) (t e : TypeId) (z : Value) (ht : P.underlying t = some (.slice e)) (hz : ∀ w, (zeroValue e).run P w = .ok z w) (hzs : z.cells.size = d.sz)
    (hz1 : ∀ u ∈ z.cells.toList, u.oneCell' = true) {g m c q : Nat} {xs : List α} {ok : Nat → Prop} (HO : d.R e W base ok (.slice (some ⟨g, 0, none⟩) m c) xs) (hq : m + q ≤ c) (hp : 0 < q) :
    ∃ w1, (∀ ty c2, (Builtin.clear_ #[t] ty #[.slice (some ⟨g, m * d.sz, none⟩) q c2]).run P W = .ok (.tuple #[]) w1) ∧ d.R e w1 base ok (.slice (some ⟨g, 0, none⟩) m c) xs ∧ W.grownBy w1 (some g) := by
  obtain ⟨hn, hnc, _⟩ := Kd.R_reads' HO
  obtain ⟨hok, inner, hown, hr⟩ := HO
  rcases hown.2 with ⟨hv, _⟩ | ⟨g', cap', cur, hv, hb, hh, _, hcm, hcs, htake⟩
  · cases hv
  injection hv with ha _ hc
  injection ha with ha
  injection ha with hg
  subst hg; subst hc
  obtain ⟨news, hnews⟩ : ∃ news, news = (Builtin.zeroCells z.cells q).toList := ⟨_, rfl⟩
  have hnl : news.length = q * d.sz := by rw [hnews, ← hzs]; simp [Builtin.zeroCells]
  have hone : ∀ u ∈ news, u.oneCell' = true := by
    intro u hu
    rw [hnews] at hu
    simp only [Builtin.zeroCells, Array.toList_map, List.mem_map] at hu
    obtain ⟨i, hi, rfl⟩ := hu
    have hi' : i < q * z.cells.size := by simpa using hi
    have h0 : 0 < z.cells.size := by
      rcases Nat.eq_zero_or_pos z.cells.size with h | h
      · rw [h, Nat.mul_zero] at hi'; omega
      · exact h
    refine hz1 _ ?_
    rw [getElem!_pos z.cells _ (Nat.mod_lt _ h0)]
    simp
  have hle : m * d.sz + q * d.sz ≤ c * d.sz := by rw [← Nat.add_mul]; exact Nat.mul_le_mul_right _ hq
  have hfit : m * d.sz + news.length ≤ cur.size := by rw [hnl, hcs]; exact hle
  have hst := run_storeCells_cells (P := P) g (m * d.sz) news 0 W
    (by intro j hj; rw [cell_of_row W g _ cur e (0, 0) hh]; simp; omega)
    (by intro j hj; exact blk_frozen hh _) hone
  simp only [Nat.add_zero] at hst
  obtain ⟨q', rfl⟩ : ∃ q', q = q' + 1 := ⟨q - 1, by omega⟩
  obtain ⟨cur', h3, h4, h5⟩ := setCells_row news (m * d.sz) W cur hh hfit
  obtain ⟨s1, s2, s3, s4⟩ := setCells_same g news (m * d.sz) W
  have hfar : ∀ k', k' ≠ g → (W.setCells g (m * d.sz) news).heap[k']? = W.heap[k']? := fun k' hk' => setCells_far news _ k' hk'
  have hgo : some g = (Value.slice (some ⟨g, 0, none⟩) m c).ownBlock := by simp [Value.ownBlock]
  refine ⟨W.setCells g (m * d.sz) news, ?_, ⟨hok, inner, ⟨hown.1, .inr ⟨g, c, cur', by rw [hn], hb, h3, by rw [← hn]; exact hnc, hcm, by rw [h4, hcs], ?_⟩⟩, ?_⟩, ⟨s1, s2, s3, by rw [s4]; exact Nat.le_refl _, fun k' _ hk' => hfar k' (fun he => hk' (by rw [he]))⟩⟩
  · intro ty c2
    subst hnews
    simp [Builtin.clear_, run_underlying ht, hz, hst]
  · have hlt : xs.length * d.sz ≤ (List.take (m * d.sz) cur.toList).length := by
      have e1 : cur.toList.length = c * d.sz := by rw [Array.length_toList, hcs]
      rw [List.length_take, e1, ← hn, Nat.min_eq_left (Nat.mul_le_mul_right _ hnc)]
      exact Nat.le_refl _
    rw [h5, List.append_assoc, List.take_append_of_le_length hlt, List.take_take, ← hn, Nat.min_self, hn]
    exact htake
  · exact hr.imp_ (fun p q hp => d.M_move (fun k' hk' => hfar k' (fun he => hk'.2 (by rw [← hgo, he]))) hp)

def impl_Word_23.f (l : List S41) (i j : Int) : Option (List S41) := if 0 ≤ i then (if i < (l.length : Int) then (if j = i + 1 then some (l.eraseIdx i.toNat) else none) else none) else none

theorem zero41 : ∀ w, (zeroValue 41).run Try.prog w = .ok (.agg #[.int .i8 0, .int .i8 0, .int .i8 0, .int .i8 0]) w := by
  intro w
  have h := info41
  cases hq : Try.prog.info? 41 with
  | none => rw [hq] at h; cases h
  | some i =>
    rw [hq] at h
    simp only [Option.map_some, Option.some.injEq, Prod.mk.injEq] at h
    simp [zeroValue, typeInfo, hq, h.1]
set_option maxHeartbeats 4000000 in
set_option maxRecDepth 100000 in
/-- The walk. -/
theorem delete_calls (base : Nat) (ok : Nat → Prop) (v : Value) (l : List S41) (i j : Int) (r : List S41) (W : World) (hR : Kd.R k41 41 W base ok v l) (hb0 : base ≤ W.heap.size) (h : impl_Word_23.f l i j = some r) :
    Calls Try.prog 23 #[v, .int .i64 i, .int .i64 j] W fun e W' => ∃ v', e = .returned v' ∧ Kd.R k41 41 W' base ok v' r ∧ W.grownBy W' v.ownBlock := by
  unfold impl_Word_23.f at h
  by_cases h0 : 0 ≤ i
  · rw [if_pos h0] at h
    by_cases h1 : i < (l.length : Int)
    · rw [if_pos h1] at h
      by_cases h2 : j = i + 1
      · rw [if_pos h2] at h
        obtain rfl := Option.some.inj h
        obtain ⟨g, c, rfl, hbg, hlt, _⟩ := Kd.R_form hR (by omega)
        obtain ⟨hn, hnc, hC⟩ := Kd.R_reads' hR
        obtain ⟨k, rfl⟩ : ∃ k : Nat, i = k := ⟨i.toNat, by omega⟩
        obtain rfl : j = ((k + 1 : Nat) : Int) := by omega
        have hk : k < l.length := by omega
        have hmx : c ≤ 9223372036854775807 := by
          obtain ⟨_, hown⟩ := Kd.R_own hR
          rcases hown.2 with ⟨hv, _⟩ | ⟨g', cap', cur, hv, hb, hh, _, hcm, hcs, htake⟩
          · cases hv
          · injection hv with _ _ hc
            subst hc
            exact hcm
        have HR := Aside0.mk hR
        clear hR hC h
        go_enter Try.func23, Try.ntmps23
        go_wp2_with fail
        refine wp_region_still_tail 6 (by kernel_rfl) (by kernel_rfl) ?_
        simp only [List.take_succ_cons, List.take_zero, List.drop_succ_cons, List.drop_zero]
        have hkc : k ≤ c := by omega
        have hk1 : 0 ≤ (k : Int) + 1 := by omega
        have hk2 : (k : Int) + 1 ≤ (l.length : Int) := by omega
        repeat still_step
        refine wpStill_nil ?_
        generalize hA25 : (if c = k + 1 then (some ⟨g, 0, none⟩ : Option Addr) else some ⟨g, (k + 1) * 4, none⟩) = A25
        refine Kd.R_delete k41 (w0 := W) base rfl (.tmp 22) (.tmp 25) 27 41 rfl Try.underlying27 (by rfl) (g := g) (n := l.length) (c := c) (k := k) rfl rfl ?hA ?hm (Kd.R_drew HR.out) hk ?HB (by exact hb0) ?_
        case hA => rw [← hA25]; simp only [Option.map_some, add_at, Nat.zero_add]; rfl
        case hm => rfl
        case HB => exact below_drew (Below.refl _ _)
        intro w1 hr1 hb1 hg1
        have HR1 := Aside0.mk hr1
        have HG1 := Aside0.mk hg1
        clear hr1 hb1 hg1 HR hA25
        obtain ⟨w2, hcl0, hr2, hg2⟩ := R_clear_run (P := Try.prog) k41 base 27 41 (.agg #[.int .i8 0, .int .i8 0, .int .i8 0, .int .i8 0]) Try.underlying27 zero41 rfl (by decide) HR1.out (q := l.length - (l.length - 1)) (by omega) (by omega)
        have hcl : ∀ ty c2, (Builtin.clear_ #[27] ty #[.slice (some ⟨g, (l.length - 1) * 4, none⟩) (l.length - (l.length - 1)) c2]).run Try.prog w1 = .ok (.tuple #[]) w2 := hcl0
        have HR2 := Aside0.mk hr2
        have HG2 := Aside0.mk hg2
        clear hr2 hg2 hcl0
        go_wp2_with fail
        all_goals
          go_ret
          refine ⟨_, rfl, HR2.out, ?_⟩
          exact World.grownBy.trans (b := w1) ⟨HG1.out.os, HG1.out.tape, HG1.out.output, HG1.out.size, HG1.out.block⟩ HG2.out
      · rw [if_neg h2] at h; cases h
    · rw [if_neg h1] at h; cases h
  · rw [if_neg h0] at h; cases h
end Go.Proofs.Ytkieplebdbdigaa.M
