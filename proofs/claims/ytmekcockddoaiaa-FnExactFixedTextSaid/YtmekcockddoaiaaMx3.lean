-- By this seat's own program over the kit's printer (arrays, functions told by hand); nothing of it is trusted: the kernel checks it.
import Derived.Test.YtmekcockddoaiaaMx0
namespace Go.Proofs.Ytmekcockddoaiaa.M
open Go.RowKit Go.Proofs.YtmekcockddoaiaaW.PrintWords Go.Proofs.YtmekcockddoaiaaW.PrintLast Go.Proofs.YtmekcockddoaiaaW.PrintMore
attribute [local go_sem] max2_int min2_int max_two min_two max_three min_three max_four min_four   -- for this text's walks alone
set_option linter.unusedVariables false
set_option linter.unusedSimpArgs false

/-! ### spec_l04Kinds: function 22 -/
def spec_l04Kinds.f  : Option (List ByteArray) := some (([(⟨#[104, 101, 97, 118, 121]⟩ : ByteArray), (⟨#[108, 105, 103, 104, 116]⟩ : ByteArray), (⟨#[101, 105, 116, 104, 101, 114]⟩ : ByteArray)] : List ByteArray))
set_option maxHeartbeats 8000000 in
set_option maxRecDepth 100000 in
theorem spec_l04Kinds.calls  (r : List ByteArray) (w : World) (h : spec_l04Kinds.f  = some r) :
  Calls Try.prog 22 #[] w fun e w' => ∃ v0_ : Value, e = .returned (v0_) ∧ Kd.R Kd.string 9 w' w.heap.size (fun _ => True) v0_ r ∧ Below w.heap.size w w' := by
 have HB := A_ (Below.refl w.heap.size w)
 have H : (some (([(⟨#[104, 101, 97, 118, 121]⟩ : ByteArray), (⟨#[108, 105, 103, 104, 116]⟩ : ByteArray), (⟨#[101, 105, 116, 104, 101, 114]⟩ : ByteArray)] : List ByteArray))) = some r := h
 clear h
 obtain ⟨y113, hy113⟩ : ∃ y_ : List ByteArray, y_ = (([(⟨#[104, 101, 97, 118, 121]⟩ : ByteArray), (⟨#[108, 105, 103, 104, 116]⟩ : ByteArray), (⟨#[101, 105, 116, 104, 101, 114]⟩ : ByteArray)] : List ByteArray)) := ⟨_, rfl⟩
 replace H : (some y113) = some r := by first | (rw [hy113]; with_reducible exact H) | (have H2_ := (Option.bind_some _ _).symm.trans H; rw [hy113]; with_reducible exact H2_) | (have H2_ := (Option.bind_some _ _).symm.trans H; with_reducible exact H2_) | with_reducible exact H | (rw [hy113]; exact H) | exact H
 have Ny113 := Aside0.mk hy113
 clear hy113
 obtain rfl := Option.some.inj H
 go_enter Try.func22, Try.ntmps22
 go_wp2_with (first | ((with_reducible refine gate_dst (N := 1) rfl ?_); refine Kd.R_lit Kd.string _ 9 ?hg (N := 1) ?hd (xs := ([(⟨#[104, 101, 97, 118, 121]⟩ : ByteArray), (⟨#[108, 105, 103, 104, 116]⟩ : ByteArray), (⟨#[101, 105, 116, 104, 101, 114]⟩ : ByteArray)] : List ByteArray)) (inner := [.string (⟨#[104, 101, 97, 118, 121]⟩ : ByteArray), .string (⟨#[108, 105, 103, 104, 116]⟩ : ByteArray), .string (⟨#[101, 105, 116, 104, 101, 114]⟩ : ByteArray)]) (ok := fun _ => True) (okp := fun _ => True) ?hr ?hp (fun _ hk => hk) trivial (Below.refl _ _) (Nat.le_refl _) (by simp) ?_; (case hd => rfl); (case hg => rfl); (case hr => first | (go_simp; done) | (go_simp; rfl)); (case hp => exact (Reps.one (show Kd.M Kd.string _ _ _ (⟨#[104, 101, 97, 118, 121]⟩ : ByteArray) [.string (⟨#[104, 101, 97, 118, 121]⟩ : ByteArray)] from rfl) (Reps.one (show Kd.M Kd.string _ _ _ (⟨#[108, 105, 103, 104, 116]⟩ : ByteArray) [.string (⟨#[108, 105, 103, 104, 116]⟩ : ByteArray)] from rfl) (Reps.one (show Kd.M Kd.string _ _ _ (⟨#[101, 105, 116, 104, 101, 114]⟩ : ByteArray) [.string (⟨#[101, 105, 116, 104, 101, 114]⟩ : ByteArray)] from rfl) (Reps.none _ _))))); intro v114 w1 ho2 hb hg_ hnew_; clear hg_ hnew_; (first | rw [← Ny113.out] at ho2 | (simp only [Int.reduceToNat] at ho2; rw [← Ny113.out] at ho2)); have n0_ := A_ (Kd.R_lower ho2 (below_size (bl_ HB))); have n1_ := A_ (below_step (bl_ HB) hb); clear HB; have HO115 := n0_; have HB := n1_; clear n0_ n1_; clear hb ho2))
 go_ret
 exact ⟨_, by first | rfl | (simp [errW_none, errW_some] <;> rfl) | (simp [*, errW_none, errW_some] <;> rfl), pr_ HO115, bl_ HB⟩

end Go.Proofs.Ytmekcockddoaiaa.M
