/- How data read as the kinds of values that the contracts speak of: whatever the program. -/
import Derived.Test.YtodmfjophjhbeaaDoorWMore
import Derived.OpenShut
import Derived.Deep.Slices
import Derived.Deep.Fields
import Derived.ProofKit
namespace Go.Proofs.YtodmfjophjhbeaaDoor.Rd
open Go.RowKit Go.Deep Go.ChangeShapes Go.WideShapes Go.Proofs.YtodmfjophjhbeaaDoorW.PrintWords
set_option linter.unusedVariables false
/-- Whatever reads as data of type t reads as a value of the kind d, of which Wf holds. -/
def Rd {α : Type} (P : Program) (W : World) (t : TypeId) (d : Kd α) (Wf : α → Prop) : Prop :=
  ∀ {H : Type} {enc : TypeId × Value → H} {fuel : Nat} {cs : List Value} {x : DataW H × List MemPlace}, DataW.trod enc P W 0 (fun _ => true) true fuel t cs = some x → ∃ a, d.K W a cs ∧ Wf a
theorem rd_int {P : Program} {W : World} {t : TypeId} {k : IntKind} (h : P.underlying t = some (.int k)) : Rd P W t (Kd.int k) (fun x => (Lit.int k x).wf = true) := by
  intro H enc fuel cs x hx
  obtain ⟨n, rfl, _, hw⟩ := DataW.trod_int h hx
  exact ⟨n, rfl, hw⟩
theorem rd_bool {P : Program} {W : World} {t : TypeId} (h : P.underlying t = some .bool) : Rd P W t Kd.bool (fun _ => True) := by
  intro H enc fuel cs x hx
  obtain ⟨n, rfl, _⟩ := DataW.trod_bool h hx
  exact ⟨n, rfl, trivial⟩
theorem rd_string {P : Program} {W : World} {t : TypeId} (h : P.underlying t = some .string) : Rd P W t Kd.string (fun s => s.size ≤ maxLen) := by
  intro H enc fuel cs x hx
  obtain ⟨n, rfl, _, hw⟩ := DataW.trod_string h hx
  exact ⟨n, rfl, hw⟩
theorem rd_slice {α : Type} {P : Program} {W : World} {t e : TypeId} {d : Kd α} {Wf : α → Prop} (h : P.underlying t = some (.slice e)) (hd : Rd P W e d Wf) (hs : P.cellsOf e = d.sz) :
    Rd P W t (Kd.slice e d) (fun xs => xs.length ≤ maxLen ∧ ∀ x ∈ xs, Wf x) := by
  intro H enc fuel cs x hx
  rcases open_slice h hx with ⟨rfl, _⟩ | ⟨a, len, cap, m, n, D, Pl, rfl, _, hl, hm, hmm, _, hi⟩
  · exact ⟨[], ⟨none, 0, rfl, Nat.le_refl _, Kd.C_nil d W⟩, by simp, fun x hx => by simp at hx⟩
  · have hlm : len ≤ m := by rw [hmm]; simpa using hl
    have key : ∀ n, n ≤ len → ∃ xs : List α, xs.length = n ∧ ∀ j p, xs[j]? = some p → Wf p ∧ ∃ c, c.length = d.sz ∧ d.K W p c ∧ ∀ i u, c[i]? = some u → W.cell? (a.add (j * d.sz + i)) = some u := by
      intro n
      induction n with
      | zero => exact fun _ => ⟨[], rfl, fun j p hj => by simp at hj⟩
      | succ n ih =>
        intro hn
        obtain ⟨xs, hx1, hx2⟩ := ih (by omega)
        obtain ⟨cs', hc, ht⟩ := hi n (by omega)
        obtain ⟨p, hp, hw⟩ := hd ht
        obtain ⟨_, hcl, hat⟩ := World.cells?_some hc
        refine ⟨xs ++ [p], by simp [hx1], fun j q hj => ?_⟩
        by_cases hje : j < xs.length
        · rw [List.getElem?_append_left hje] at hj
          exact hx2 j q hj
        · have ej : j = n := by
            have := (List.getElem?_eq_some_iff.1 hj).1
            simp at this
            omega
          subst ej
          have eq : p = q := by simpa [hx1] using hj
          subst eq
          refine ⟨hw, cs', by rw [hcl, hs], hp, fun i u hu => ?_⟩
          have hlt : i < P.cellsOf e := by have := (List.getElem?_eq_some_iff.1 hu).1; omega
          have := hat i hlt
          rw [hs] at this
          rw [← Go.Deep.add_add, this, hu]
    obtain ⟨xs, hx1, hx2⟩ := key len (Nat.le_refl _)
    refine ⟨xs, ⟨some a, cap, by rw [hx1], by omega, rfl, by have := hm; unfold maxLen at this; omega, fun _ => ⟨a, rfl, fun j p hj => (hx2 j p hj).2⟩⟩, by omega, fun x hx => ?_⟩
    obtain ⟨j, hj⟩ := List.mem_iff_getElem?.1 hx
    exact (hx2 j x hj).1
theorem okWide_array {P : Program} {w : World} {r : Reach} {base n : Nat} {t e : TypeId} {v : Value} (ht : P.underlying t = some (.array n e)) (h : Value.okWide P w r base t v) : ∃ cs, v = .agg cs ∧ cs.size = P.cellsOf t := by
  simp only [Value.okWide, ht] at h
  obtain ⟨cs, h1, h2, _⟩ := h
  exact ⟨cs, h1, h2⟩
end Go.Proofs.YtodmfjophjhbeaaDoor.Rd
