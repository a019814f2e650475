/- Plain laws: the code of a puzzle and a table. -/
import Derived.Test.YtodmfjophjhbeaaMPureX
-- IMPORTS
import Derived.Test.YtodmfjophjhbeaaMx3
import Derived.Test.YtodmfjophjhbeaaMx5
import Derived.Test.YtodmfjophjhbeaaMx6
import Derived.Test.YtodmfjophjhbeaaMx14
import Derived.Test.YtodmfjophjhbeaaMx16
import Derived.Test.YtodmfjophjhbeaaMx17
namespace Go.Proofs.Ytodmfjophjhbeaa.Pure
open Go.RowKit Go.Proofs.Ytodmfjophjhbeaa.M Go.Proofs.YtodmfjophjhbeaaW.PrintWords Go.Proofs.YtodmfjophjhbeaaW.PrintLast Go.Proofs.YtodmfjophjhbeaaW.PrintMore
set_option linter.unusedVariables false
set_option linter.unusedSimpArgs false

theorem tabled_same {k : Nat} (l : List Int) (hl : l.length ≤ 1048576) (hk : l.length + 20 ≤ k) (p q s t : Int) (z : Bool) (tb : List Int) (hb : ∀ x ∈ tb, (Lit.int .i16 x).wf = true) :
    ∃ e, spec_l02Tabled.f k l p q s t z tb = some e ∧ impl_tableCode.f k l p q s t z tb = some e ∧ (e = 0 ∨ e = 1 ∨ e = 2) ∧ (e = 0 → Tab tb l ∧ WF l p q s t ∧ spec_l02Ok.f k l p q s t z = some true) := by
  obtain ⟨v, hs, hi, hv⟩ := valid_val (k := k) l p q s t z hl (by omega)
  unfold spec_l02Tabled.f impl_tableCode.f impl_size_int16.f
  rw [hs, hi]
  simp only [Option.bind_some]
  cases v with
  | false => exact ⟨1, by simp, by simp, by omega, by omega⟩
  | true =>
    obtain ⟨hc, hj, p0, p1, g1, g2⟩ := hv rfl
    obtain ⟨u, us, ui⟩ := water_val (k := k) (by omega) l hl p q s t p q s t z
    have hu : u = true := by
      have hs2 := hs
      unfold spec_l02Ok.f at hs2
      rw [g1] at hs2
      simp only [Option.bind_some] at hs2
      rw [if_pos (by omega), us] at hs2
      simpa using hs2
    subst hu
    have hw : WF l p q s t := of_water l p q s t 4 k 0 (by omega) (by omega) (by omega) (by simpa [spec_l02Water.f] using us)
    rw [if_pos rfl, if_pos rfl, g1, g2]
    simp only [Option.bind_some, impl_unless.f]
    have hp := prod_same l hc.1 hc.2 hj
    by_cases h : (tb.length : Int) = prodP 1 l
    · refine ⟨0, by rw [if_pos h], by rw [if_pos (by simpa using h)]; rfl, by omega, fun _ => ⟨⟨hc.1, hc.2, hj, by rw [h, hp], by rw [← hp]; exact p1, fun j j0 j1 => ?_⟩, hw, trivial⟩⟩
      refine wf16 (hb _ ?_)
      unfold rd
      have : j.toNat < tb.length := by omega
      rw [List.getD_eq_getElem?_getD, List.getElem?_eq_getElem this]
      exact List.getElem_mem this
    · exact ⟨2, by rw [if_neg h], by rw [if_neg (by simpa using h)]; rfl, by omega, by omega⟩

end Go.Proofs.Ytodmfjophjhbeaa.Pure
