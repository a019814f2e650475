-- By this seat's own program over the kit's printer (arrays, functions told by hand); nothing of it is trusted: the kernel checks it.
import Derived.Test.YtcghglembmohcaaProg
import Derived.Below
import Derived.Deep.Draws
import Derived.Deep.AppendLies
import Derived.Maps.AppendAt
import Derived.OwnWalk
import Derived.Laws.BytesArg
import Derived.Laws.MakeOwn
import Derived.Laws.OwnMore
import Derived.Deep.OwnRows
import Derived.Tactics
import Derived.Lib.ConvBytes
import Derived.Laws.Slices
import Derived.WalkKit
import Derived.KernelRfl
import Derived.RowKit3
import Derived.Deep.LoopGhost
import Derived.Deep.QuietTactic
import Derived.BigQuiet
import Derived.WideLaws
import Derived.Deep.DeepCutAuto
import Derived.Deep.CutBlock
import Derived.Deep.RegionHeld3
import Derived.Laws.Rows
import Derived.Lib.AppendStr
import Derived.ArgAppend
import Derived.Laws.IdiomCopy
import Derived.OrdersHeld
import Derived.Laws.BitsLemmas
import Derived.RowKit
import Derived.Test.YtcghglembmohcaaWMore
import Derived.Test.YtcghglembmohcaaMWords
namespace Go.Proofs.Ytcghglembmohcaa.M
open Go.RowKit Go.Proofs.YtcghglembmohcaaW.PrintWords Go.Proofs.YtcghglembmohcaaW.PrintLast Go.Proofs.YtcghglembmohcaaW.PrintMore
attribute [local go_sem] max2_int min2_int max_two min_two max_three min_three max_four min_four   -- for this text's walks alone
set_option linter.unusedVariables false
set_option linter.unusedSimpArgs false



def errW : Option Int → Value
 | none => .nilIface
 | some c => .iface 0 (.int .i64 c)
theorem errW_none : errW none = .nilIface := rfl
theorem errW_some (c : Int) : errW (some c) = .iface 0 (.int .i64 c) := rfl

theorem info43 : (Try.prog.info? 43).map (fun i => (i.zero, i.size, i.bytes)) = some (some (.agg #[(.int .i8 0), (.bool false)]), 2, 2) := by kernel_rfl
theorem info58 : (Try.prog.info? 58).map (fun i => (i.zero, i.size, i.bytes)) = some (some (.agg #[(.int .i8 0), (.int .i8 0), (.int .i8 0), (.int .i8 0), (.int .i8 0), (.int .i8 0), (.int .i8 0), (.int .i8 0), (.int .i8 0), (.int .i8 0), (.int .i8 0), (.int .i8 0), (.int .i8 0), (.int .i8 0), (.int .i16 0), (.int .i16 0), (.int .i16 0), (.int .i8 0), (.bool false), (.bool false)]), 20, 24) := by kernel_rfl
-- the values' own types
/-! #### struct type 25 -/
structure S25 where
 f0 : Int
 f1 : Int
 f2 : Int
 f3 : Int
 f4 : Int
 f5 : Int
 f6 : Int
 f7 : Int
 f8 : Int
 f9 : Int
 f10 : Int
 f11 : Int
 f12 : Int
 f13 : Int
def z25 : S25 := ⟨(0 : Int), (0 : Int), (0 : Int), (0 : Int), (0 : Int), (0 : Int), (0 : Int), (0 : Int), (0 : Int), (0 : Int), (0 : Int), (0 : Int), (0 : Int), (0 : Int)⟩
def k25 : Kd S25 := Kd.iso (Kd.pair (Kd.int .i8) (Kd.pair (Kd.int .i8) (Kd.pair (Kd.int .i8) (Kd.pair (Kd.int .i8) (Kd.pair (Kd.int .i8) (Kd.pair (Kd.int .i8) (Kd.pair (Kd.int .i8) (Kd.pair (Kd.int .i8) (Kd.pair (Kd.int .i8) (Kd.pair (Kd.int .i8) (Kd.pair (Kd.int .i8) (Kd.pair (Kd.int .i8) (Kd.pair (Kd.int .i8) (Kd.int .i8)))))))))))))) (fun x : S25 => (x.f0, x.f1, x.f2, x.f3, x.f4, x.f5, x.f6, x.f7, x.f8, x.f9, x.f10, x.f11, x.f12, x.f13))
theorem k25_open {w : World} {x : S25} {cs : List Value} (h : k25.K w x cs) : cs = [.int .i8 x.f0, .int .i8 x.f1, .int .i8 x.f2, .int .i8 x.f3, .int .i8 x.f4, .int .i8 x.f5, .int .i8 x.f6, .int .i8 x.f7, .int .i8 x.f8, .int .i8 x.f9, .int .i8 x.f10, .int .i8 x.f11, .int .i8 x.f12, .int .i8 x.f13] := by
 obtain ⟨_, _, rfl, rfl, ⟨_, _, rfl, rfl, ⟨_, _, rfl, rfl, ⟨_, _, rfl, rfl, ⟨_, _, rfl, rfl, ⟨_, _, rfl, rfl, ⟨_, _, rfl, rfl, ⟨_, _, rfl, rfl, ⟨_, _, rfl, rfl, ⟨_, _, rfl, rfl, ⟨_, _, rfl, rfl, ⟨_, _, rfl, rfl, ⟨_, _, rfl, rfl, rfl⟩⟩⟩⟩⟩⟩⟩⟩⟩⟩⟩⟩⟩ := h
 exact rfl
theorem k25_openM {w : World} {base : Nat} {ok : Nat → Prop} {x : S25} {cs : List Value} (h : k25.M w base ok x cs) : cs = [.int .i8 x.f0, .int .i8 x.f1, .int .i8 x.f2, .int .i8 x.f3, .int .i8 x.f4, .int .i8 x.f5, .int .i8 x.f6, .int .i8 x.f7, .int .i8 x.f8, .int .i8 x.f9, .int .i8 x.f10, .int .i8 x.f11, .int .i8 x.f12, .int .i8 x.f13] := by
 obtain ⟨_, _, rfl, rfl, ⟨_, _, rfl, rfl, ⟨_, _, rfl, rfl, ⟨_, _, rfl, rfl, ⟨_, _, rfl, rfl, ⟨_, _, rfl, rfl, ⟨_, _, rfl, rfl, ⟨_, _, rfl, rfl, ⟨_, _, rfl, rfl, ⟨_, _, rfl, rfl, ⟨_, _, rfl, rfl, ⟨_, _, rfl, rfl, ⟨_, _, rfl, rfl, rfl⟩⟩⟩⟩⟩⟩⟩⟩⟩⟩⟩⟩⟩ := h
 exact rfl
theorem k25_mk (w : World) (x : S25)  : k25.K w x [.int .i8 x.f0, .int .i8 x.f1, .int .i8 x.f2, .int .i8 x.f3, .int .i8 x.f4, .int .i8 x.f5, .int .i8 x.f6, .int .i8 x.f7, .int .i8 x.f8, .int .i8 x.f9, .int .i8 x.f10, .int .i8 x.f11, .int .i8 x.f12, .int .i8 x.f13] := ⟨[.int .i8 x.f0], [.int .i8 x.f1, .int .i8 x.f2, .int .i8 x.f3, .int .i8 x.f4, .int .i8 x.f5, .int .i8 x.f6, .int .i8 x.f7, .int .i8 x.f8, .int .i8 x.f9, .int .i8 x.f10, .int .i8 x.f11, .int .i8 x.f12, .int .i8 x.f13], rfl, rfl, ⟨[.int .i8 x.f1], [.int .i8 x.f2, .int .i8 x.f3, .int .i8 x.f4, .int .i8 x.f5, .int .i8 x.f6, .int .i8 x.f7, .int .i8 x.f8, .int .i8 x.f9, .int .i8 x.f10, .int .i8 x.f11, .int .i8 x.f12, .int .i8 x.f13], rfl, rfl, ⟨[.int .i8 x.f2], [.int .i8 x.f3, .int .i8 x.f4, .int .i8 x.f5, .int .i8 x.f6, .int .i8 x.f7, .int .i8 x.f8, .int .i8 x.f9, .int .i8 x.f10, .int .i8 x.f11, .int .i8 x.f12, .int .i8 x.f13], rfl, rfl, ⟨[.int .i8 x.f3], [.int .i8 x.f4, .int .i8 x.f5, .int .i8 x.f6, .int .i8 x.f7, .int .i8 x.f8, .int .i8 x.f9, .int .i8 x.f10, .int .i8 x.f11, .int .i8 x.f12, .int .i8 x.f13], rfl, rfl, ⟨[.int .i8 x.f4], [.int .i8 x.f5, .int .i8 x.f6, .int .i8 x.f7, .int .i8 x.f8, .int .i8 x.f9, .int .i8 x.f10, .int .i8 x.f11, .int .i8 x.f12, .int .i8 x.f13], rfl, rfl, ⟨[.int .i8 x.f5], [.int .i8 x.f6, .int .i8 x.f7, .int .i8 x.f8, .int .i8 x.f9, .int .i8 x.f10, .int .i8 x.f11, .int .i8 x.f12, .int .i8 x.f13], rfl, rfl, ⟨[.int .i8 x.f6], [.int .i8 x.f7, .int .i8 x.f8, .int .i8 x.f9, .int .i8 x.f10, .int .i8 x.f11, .int .i8 x.f12, .int .i8 x.f13], rfl, rfl, ⟨[.int .i8 x.f7], [.int .i8 x.f8, .int .i8 x.f9, .int .i8 x.f10, .int .i8 x.f11, .int .i8 x.f12, .int .i8 x.f13], rfl, rfl, ⟨[.int .i8 x.f8], [.int .i8 x.f9, .int .i8 x.f10, .int .i8 x.f11, .int .i8 x.f12, .int .i8 x.f13], rfl, rfl, ⟨[.int .i8 x.f9], [.int .i8 x.f10, .int .i8 x.f11, .int .i8 x.f12, .int .i8 x.f13], rfl, rfl, ⟨[.int .i8 x.f10], [.int .i8 x.f11, .int .i8 x.f12, .int .i8 x.f13], rfl, rfl, ⟨[.int .i8 x.f11], [.int .i8 x.f12, .int .i8 x.f13], rfl, rfl, ⟨[.int .i8 x.f12], [.int .i8 x.f13], rfl, rfl, rfl⟩⟩⟩⟩⟩⟩⟩⟩⟩⟩⟩⟩⟩
theorem k25_mkM (w : World) (base : Nat) (ok : Nat → Prop) (x : S25)  : k25.M w base ok x [.int .i8 x.f0, .int .i8 x.f1, .int .i8 x.f2, .int .i8 x.f3, .int .i8 x.f4, .int .i8 x.f5, .int .i8 x.f6, .int .i8 x.f7, .int .i8 x.f8, .int .i8 x.f9, .int .i8 x.f10, .int .i8 x.f11, .int .i8 x.f12, .int .i8 x.f13] := ⟨[.int .i8 x.f0], [.int .i8 x.f1, .int .i8 x.f2, .int .i8 x.f3, .int .i8 x.f4, .int .i8 x.f5, .int .i8 x.f6, .int .i8 x.f7, .int .i8 x.f8, .int .i8 x.f9, .int .i8 x.f10, .int .i8 x.f11, .int .i8 x.f12, .int .i8 x.f13], rfl, rfl, ⟨[.int .i8 x.f1], [.int .i8 x.f2, .int .i8 x.f3, .int .i8 x.f4, .int .i8 x.f5, .int .i8 x.f6, .int .i8 x.f7, .int .i8 x.f8, .int .i8 x.f9, .int .i8 x.f10, .int .i8 x.f11, .int .i8 x.f12, .int .i8 x.f13], rfl, rfl, ⟨[.int .i8 x.f2], [.int .i8 x.f3, .int .i8 x.f4, .int .i8 x.f5, .int .i8 x.f6, .int .i8 x.f7, .int .i8 x.f8, .int .i8 x.f9, .int .i8 x.f10, .int .i8 x.f11, .int .i8 x.f12, .int .i8 x.f13], rfl, rfl, ⟨[.int .i8 x.f3], [.int .i8 x.f4, .int .i8 x.f5, .int .i8 x.f6, .int .i8 x.f7, .int .i8 x.f8, .int .i8 x.f9, .int .i8 x.f10, .int .i8 x.f11, .int .i8 x.f12, .int .i8 x.f13], rfl, rfl, ⟨[.int .i8 x.f4], [.int .i8 x.f5, .int .i8 x.f6, .int .i8 x.f7, .int .i8 x.f8, .int .i8 x.f9, .int .i8 x.f10, .int .i8 x.f11, .int .i8 x.f12, .int .i8 x.f13], rfl, rfl, ⟨[.int .i8 x.f5], [.int .i8 x.f6, .int .i8 x.f7, .int .i8 x.f8, .int .i8 x.f9, .int .i8 x.f10, .int .i8 x.f11, .int .i8 x.f12, .int .i8 x.f13], rfl, rfl, ⟨[.int .i8 x.f6], [.int .i8 x.f7, .int .i8 x.f8, .int .i8 x.f9, .int .i8 x.f10, .int .i8 x.f11, .int .i8 x.f12, .int .i8 x.f13], rfl, rfl, ⟨[.int .i8 x.f7], [.int .i8 x.f8, .int .i8 x.f9, .int .i8 x.f10, .int .i8 x.f11, .int .i8 x.f12, .int .i8 x.f13], rfl, rfl, ⟨[.int .i8 x.f8], [.int .i8 x.f9, .int .i8 x.f10, .int .i8 x.f11, .int .i8 x.f12, .int .i8 x.f13], rfl, rfl, ⟨[.int .i8 x.f9], [.int .i8 x.f10, .int .i8 x.f11, .int .i8 x.f12, .int .i8 x.f13], rfl, rfl, ⟨[.int .i8 x.f10], [.int .i8 x.f11, .int .i8 x.f12, .int .i8 x.f13], rfl, rfl, ⟨[.int .i8 x.f11], [.int .i8 x.f12, .int .i8 x.f13], rfl, rfl, ⟨[.int .i8 x.f12], [.int .i8 x.f13], rfl, rfl, rfl⟩⟩⟩⟩⟩⟩⟩⟩⟩⟩⟩⟩⟩
def rd_T25 (xs : List S25) (i : Int) : S25 := xs.getD i.toNat z25
theorem at_T25 {w : World} {A : Option Addr} {n : Nat} {xs : List S25} (h : Kd.C k25 w A n xs) (i : Int) (h0 : 0 ≤ i) (h1 : i < n) : ∃ ad , A = some ad ∧ w.cell? (ad.add (i.toNat * 14)) = some (.int .i8 (rd_T25 xs i).f0) ∧ w.cell? ⟨(ad.add (i.toNat * 14)).block, (ad.add (i.toNat * 14)).off + 1, none⟩ = some (.int .i8 (rd_T25 xs i).f1) ∧ w.cell? ⟨(ad.add (i.toNat * 14)).block, (ad.add (i.toNat * 14)).off + 2, none⟩ = some (.int .i8 (rd_T25 xs i).f2) ∧ w.cell? ⟨(ad.add (i.toNat * 14)).block, (ad.add (i.toNat * 14)).off + 3, none⟩ = some (.int .i8 (rd_T25 xs i).f3) ∧ w.cell? ⟨(ad.add (i.toNat * 14)).block, (ad.add (i.toNat * 14)).off + 4, none⟩ = some (.int .i8 (rd_T25 xs i).f4) ∧ w.cell? ⟨(ad.add (i.toNat * 14)).block, (ad.add (i.toNat * 14)).off + 5, none⟩ = some (.int .i8 (rd_T25 xs i).f5) ∧ w.cell? ⟨(ad.add (i.toNat * 14)).block, (ad.add (i.toNat * 14)).off + 6, none⟩ = some (.int .i8 (rd_T25 xs i).f6) ∧ w.cell? ⟨(ad.add (i.toNat * 14)).block, (ad.add (i.toNat * 14)).off + 7, none⟩ = some (.int .i8 (rd_T25 xs i).f7) ∧ w.cell? ⟨(ad.add (i.toNat * 14)).block, (ad.add (i.toNat * 14)).off + 8, none⟩ = some (.int .i8 (rd_T25 xs i).f8) ∧ w.cell? ⟨(ad.add (i.toNat * 14)).block, (ad.add (i.toNat * 14)).off + 9, none⟩ = some (.int .i8 (rd_T25 xs i).f9) ∧ w.cell? ⟨(ad.add (i.toNat * 14)).block, (ad.add (i.toNat * 14)).off + 10, none⟩ = some (.int .i8 (rd_T25 xs i).f10) ∧ w.cell? ⟨(ad.add (i.toNat * 14)).block, (ad.add (i.toNat * 14)).off + 11, none⟩ = some (.int .i8 (rd_T25 xs i).f11) ∧ w.cell? ⟨(ad.add (i.toNat * 14)).block, (ad.add (i.toNat * 14)).off + 12, none⟩ = some (.int .i8 (rd_T25 xs i).f12) ∧ w.cell? ⟨(ad.add (i.toNat * 14)).block, (ad.add (i.toNat * 14)).off + 13, none⟩ = some (.int .i8 (rd_T25 xs i).f13) := by
 obtain ⟨ad, c, e, _, hK, hc0⟩ := Kd.C_get h z25 i h0 h1
 have hc : ∀ j u, c[j]? = some u → w.cell? (ad.add (i.toNat * 14 + j)) = some u := hc0
 obtain rfl := k25_open hK
 exact ⟨ad, e, hc 0 _ rfl, by rw [← add_field _ _ 1 (by omega)]; exact hc 1 _ rfl, by rw [← add_field _ _ 2 (by omega)]; exact hc 2 _ rfl, by rw [← add_field _ _ 3 (by omega)]; exact hc 3 _ rfl, by rw [← add_field _ _ 4 (by omega)]; exact hc 4 _ rfl, by rw [← add_field _ _ 5 (by omega)]; exact hc 5 _ rfl, by rw [← add_field _ _ 6 (by omega)]; exact hc 6 _ rfl, by rw [← add_field _ _ 7 (by omega)]; exact hc 7 _ rfl, by rw [← add_field _ _ 8 (by omega)]; exact hc 8 _ rfl, by rw [← add_field _ _ 9 (by omega)]; exact hc 9 _ rfl, by rw [← add_field _ _ 10 (by omega)]; exact hc 10 _ rfl, by rw [← add_field _ _ 11 (by omega)]; exact hc 11 _ rfl, by rw [← add_field _ _ 12 (by omega)]; exact hc 12 _ rfl, by rw [← add_field _ _ 13 (by omega)]; exact hc 13 _ rfl⟩

/-! #### struct type 56 -/
structure S56 where
 f0 : Int
 f1 : Int
 f2 : Int
def z56 : S56 := ⟨(0 : Int), (0 : Int), (0 : Int)⟩
def k56 : Kd S56 := Kd.iso (Kd.pair (Kd.int .i16) (Kd.pair (Kd.int .i16) (Kd.int .i16))) (fun x : S56 => (x.f0, x.f1, x.f2))
theorem k56_open {w : World} {x : S56} {cs : List Value} (h : k56.K w x cs) : cs = [.int .i16 x.f0, .int .i16 x.f1, .int .i16 x.f2] := by
 obtain ⟨_, _, rfl, rfl, ⟨_, _, rfl, rfl, rfl⟩⟩ := h
 exact rfl
theorem k56_openM {w : World} {base : Nat} {ok : Nat → Prop} {x : S56} {cs : List Value} (h : k56.M w base ok x cs) : cs = [.int .i16 x.f0, .int .i16 x.f1, .int .i16 x.f2] := by
 obtain ⟨_, _, rfl, rfl, ⟨_, _, rfl, rfl, rfl⟩⟩ := h
 exact rfl
theorem k56_mk (w : World) (x : S56)  : k56.K w x [.int .i16 x.f0, .int .i16 x.f1, .int .i16 x.f2] := ⟨[.int .i16 x.f0], [.int .i16 x.f1, .int .i16 x.f2], rfl, rfl, ⟨[.int .i16 x.f1], [.int .i16 x.f2], rfl, rfl, rfl⟩⟩
theorem k56_mkM (w : World) (base : Nat) (ok : Nat → Prop) (x : S56)  : k56.M w base ok x [.int .i16 x.f0, .int .i16 x.f1, .int .i16 x.f2] := ⟨[.int .i16 x.f0], [.int .i16 x.f1, .int .i16 x.f2], rfl, rfl, ⟨[.int .i16 x.f1], [.int .i16 x.f2], rfl, rfl, rfl⟩⟩
def rd_T56 (xs : List S56) (i : Int) : S56 := xs.getD i.toNat z56
theorem at_T56 {w : World} {A : Option Addr} {n : Nat} {xs : List S56} (h : Kd.C k56 w A n xs) (i : Int) (h0 : 0 ≤ i) (h1 : i < n) : ∃ ad , A = some ad ∧ w.cell? (ad.add (i.toNat * 3)) = some (.int .i16 (rd_T56 xs i).f0) ∧ w.cell? ⟨(ad.add (i.toNat * 3)).block, (ad.add (i.toNat * 3)).off + 1, none⟩ = some (.int .i16 (rd_T56 xs i).f1) ∧ w.cell? ⟨(ad.add (i.toNat * 3)).block, (ad.add (i.toNat * 3)).off + 2, none⟩ = some (.int .i16 (rd_T56 xs i).f2) := by
 obtain ⟨ad, c, e, _, hK, hc0⟩ := Kd.C_get h z56 i h0 h1
 have hc : ∀ j u, c[j]? = some u → w.cell? (ad.add (i.toNat * 3 + j)) = some u := hc0
 obtain rfl := k56_open hK
 exact ⟨ad, e, hc 0 _ rfl, by rw [← add_field _ _ 1 (by omega)]; exact hc 1 _ rfl, by rw [← add_field _ _ 2 (by omega)]; exact hc 2 _ rfl⟩

/-! #### struct type 42 -/
structure S42 where
 f0 : Int
 f1 : Bool
def z42 : S42 := ⟨(0 : Int), false⟩
def k42 : Kd S42 := Kd.iso (Kd.pair (Kd.int .i8) Kd.bool) (fun x : S42 => (x.f0, x.f1))
theorem k42_open {w : World} {x : S42} {cs : List Value} (h : k42.K w x cs) : cs = [.int .i8 x.f0, .bool x.f1] := by
 obtain ⟨_, _, rfl, rfl, rfl⟩ := h
 exact rfl
theorem k42_openM {w : World} {base : Nat} {ok : Nat → Prop} {x : S42} {cs : List Value} (h : k42.M w base ok x cs) : cs = [.int .i8 x.f0, .bool x.f1] := by
 obtain ⟨_, _, rfl, rfl, rfl⟩ := h
 exact rfl
theorem k42_mk (w : World) (x : S42)  : k42.K w x [.int .i8 x.f0, .bool x.f1] := ⟨[.int .i8 x.f0], [.bool x.f1], rfl, rfl, rfl⟩
theorem k42_mkM (w : World) (base : Nat) (ok : Nat → Prop) (x : S42)  : k42.M w base ok x [.int .i8 x.f0, .bool x.f1] := ⟨[.int .i8 x.f0], [.bool x.f1], rfl, rfl, rfl⟩
def rd_T42 (xs : List S42) (i : Int) : S42 := xs.getD i.toNat z42
theorem at_T42 {w : World} {A : Option Addr} {n : Nat} {xs : List S42} (h : Kd.C k42 w A n xs) (i : Int) (h0 : 0 ≤ i) (h1 : i < n) : ∃ ad , A = some ad ∧ w.cell? (ad.add (i.toNat * 2)) = some (.int .i8 (rd_T42 xs i).f0) ∧ w.cell? ⟨(ad.add (i.toNat * 2)).block, (ad.add (i.toNat * 2)).off + 1, none⟩ = some (.bool (rd_T42 xs i).f1) := by
 obtain ⟨ad, c, e, _, hK, hc0⟩ := Kd.C_get h z42 i h0 h1
 have hc : ∀ j u, c[j]? = some u → w.cell? (ad.add (i.toNat * 2 + j)) = some u := hc0
 obtain rfl := k42_open hK
 exact ⟨ad, e, hc 0 _ rfl, by rw [← add_field _ _ 1 (by omega)]; exact hc 1 _ rfl⟩

/-! #### struct type 61 -/
structure S61 where
 f0 : S25
 f1 : S56
 f2 : S42
 f3 : Bool
def z61 : S61 := ⟨z25, z56, z42, false⟩
def k61 : Kd S61 := Kd.iso (Kd.pair k25 (Kd.pair k56 (Kd.pair k42 Kd.bool))) (fun x : S61 => (x.f0, x.f1, x.f2, x.f3))
theorem k61_open {w : World} {x : S61} {cs : List Value} (h : k61.K w x cs) : cs = [.int .i8 x.f0.f0, .int .i8 x.f0.f1, .int .i8 x.f0.f2, .int .i8 x.f0.f3, .int .i8 x.f0.f4, .int .i8 x.f0.f5, .int .i8 x.f0.f6, .int .i8 x.f0.f7, .int .i8 x.f0.f8, .int .i8 x.f0.f9, .int .i8 x.f0.f10, .int .i8 x.f0.f11, .int .i8 x.f0.f12, .int .i8 x.f0.f13, .int .i16 x.f1.f0, .int .i16 x.f1.f1, .int .i16 x.f1.f2, .int .i8 x.f2.f0, .bool x.f2.f1, .bool x.f3] := by
 obtain ⟨_, _, rfl, s0, ⟨_, _, rfl, s14, ⟨_, _, rfl, s17, rfl⟩⟩⟩ := h
 obtain rfl := k25_open s0
 obtain rfl := k56_open s14
 obtain rfl := k42_open s17
 exact rfl
theorem k61_openM {w : World} {base : Nat} {ok : Nat → Prop} {x : S61} {cs : List Value} (h : k61.M w base ok x cs) : cs = [.int .i8 x.f0.f0, .int .i8 x.f0.f1, .int .i8 x.f0.f2, .int .i8 x.f0.f3, .int .i8 x.f0.f4, .int .i8 x.f0.f5, .int .i8 x.f0.f6, .int .i8 x.f0.f7, .int .i8 x.f0.f8, .int .i8 x.f0.f9, .int .i8 x.f0.f10, .int .i8 x.f0.f11, .int .i8 x.f0.f12, .int .i8 x.f0.f13, .int .i16 x.f1.f0, .int .i16 x.f1.f1, .int .i16 x.f1.f2, .int .i8 x.f2.f0, .bool x.f2.f1, .bool x.f3] := by
 obtain ⟨_, _, rfl, s0, ⟨_, _, rfl, s14, ⟨_, _, rfl, s17, rfl⟩⟩⟩ := h
 obtain rfl := k25_openM s0
 obtain rfl := k56_openM s14
 obtain rfl := k42_openM s17
 exact rfl
theorem k61_mk (w : World) (x : S61)  : k61.K w x [.int .i8 x.f0.f0, .int .i8 x.f0.f1, .int .i8 x.f0.f2, .int .i8 x.f0.f3, .int .i8 x.f0.f4, .int .i8 x.f0.f5, .int .i8 x.f0.f6, .int .i8 x.f0.f7, .int .i8 x.f0.f8, .int .i8 x.f0.f9, .int .i8 x.f0.f10, .int .i8 x.f0.f11, .int .i8 x.f0.f12, .int .i8 x.f0.f13, .int .i16 x.f1.f0, .int .i16 x.f1.f1, .int .i16 x.f1.f2, .int .i8 x.f2.f0, .bool x.f2.f1, .bool x.f3] := ⟨[.int .i8 x.f0.f0, .int .i8 x.f0.f1, .int .i8 x.f0.f2, .int .i8 x.f0.f3, .int .i8 x.f0.f4, .int .i8 x.f0.f5, .int .i8 x.f0.f6, .int .i8 x.f0.f7, .int .i8 x.f0.f8, .int .i8 x.f0.f9, .int .i8 x.f0.f10, .int .i8 x.f0.f11, .int .i8 x.f0.f12, .int .i8 x.f0.f13], [.int .i16 x.f1.f0, .int .i16 x.f1.f1, .int .i16 x.f1.f2, .int .i8 x.f2.f0, .bool x.f2.f1, .bool x.f3], rfl, (k25_mk w x.f0 ), ⟨[.int .i16 x.f1.f0, .int .i16 x.f1.f1, .int .i16 x.f1.f2], [.int .i8 x.f2.f0, .bool x.f2.f1, .bool x.f3], rfl, (k56_mk w x.f1 ), ⟨[.int .i8 x.f2.f0, .bool x.f2.f1], [.bool x.f3], rfl, (k42_mk w x.f2 ), rfl⟩⟩⟩
theorem k61_mkM (w : World) (base : Nat) (ok : Nat → Prop) (x : S61)  : k61.M w base ok x [.int .i8 x.f0.f0, .int .i8 x.f0.f1, .int .i8 x.f0.f2, .int .i8 x.f0.f3, .int .i8 x.f0.f4, .int .i8 x.f0.f5, .int .i8 x.f0.f6, .int .i8 x.f0.f7, .int .i8 x.f0.f8, .int .i8 x.f0.f9, .int .i8 x.f0.f10, .int .i8 x.f0.f11, .int .i8 x.f0.f12, .int .i8 x.f0.f13, .int .i16 x.f1.f0, .int .i16 x.f1.f1, .int .i16 x.f1.f2, .int .i8 x.f2.f0, .bool x.f2.f1, .bool x.f3] := ⟨[.int .i8 x.f0.f0, .int .i8 x.f0.f1, .int .i8 x.f0.f2, .int .i8 x.f0.f3, .int .i8 x.f0.f4, .int .i8 x.f0.f5, .int .i8 x.f0.f6, .int .i8 x.f0.f7, .int .i8 x.f0.f8, .int .i8 x.f0.f9, .int .i8 x.f0.f10, .int .i8 x.f0.f11, .int .i8 x.f0.f12, .int .i8 x.f0.f13], [.int .i16 x.f1.f0, .int .i16 x.f1.f1, .int .i16 x.f1.f2, .int .i8 x.f2.f0, .bool x.f2.f1, .bool x.f3], rfl, (k25_mkM w base ok x.f0 ), ⟨[.int .i16 x.f1.f0, .int .i16 x.f1.f1, .int .i16 x.f1.f2], [.int .i8 x.f2.f0, .bool x.f2.f1, .bool x.f3], rfl, (k56_mkM w base ok x.f1 ), ⟨[.int .i8 x.f2.f0, .bool x.f2.f1], [.bool x.f3], rfl, (k42_mkM w base ok x.f2 ), rfl⟩⟩⟩
def rd_T61 (xs : List S61) (i : Int) : S61 := xs.getD i.toNat z61
theorem at_T61 {w : World} {A : Option Addr} {n : Nat} {xs : List S61} (h : Kd.C k61 w A n xs) (i : Int) (h0 : 0 ≤ i) (h1 : i < n) : ∃ ad , A = some ad ∧ w.cell? (ad.add (i.toNat * 20)) = some (.int .i8 (rd_T61 xs i).f0.f0) ∧ w.cell? ⟨(ad.add (i.toNat * 20)).block, (ad.add (i.toNat * 20)).off + 1, none⟩ = some (.int .i8 (rd_T61 xs i).f0.f1) ∧ w.cell? ⟨(ad.add (i.toNat * 20)).block, (ad.add (i.toNat * 20)).off + 2, none⟩ = some (.int .i8 (rd_T61 xs i).f0.f2) ∧ w.cell? ⟨(ad.add (i.toNat * 20)).block, (ad.add (i.toNat * 20)).off + 3, none⟩ = some (.int .i8 (rd_T61 xs i).f0.f3) ∧ w.cell? ⟨(ad.add (i.toNat * 20)).block, (ad.add (i.toNat * 20)).off + 4, none⟩ = some (.int .i8 (rd_T61 xs i).f0.f4) ∧ w.cell? ⟨(ad.add (i.toNat * 20)).block, (ad.add (i.toNat * 20)).off + 5, none⟩ = some (.int .i8 (rd_T61 xs i).f0.f5) ∧ w.cell? ⟨(ad.add (i.toNat * 20)).block, (ad.add (i.toNat * 20)).off + 6, none⟩ = some (.int .i8 (rd_T61 xs i).f0.f6) ∧ w.cell? ⟨(ad.add (i.toNat * 20)).block, (ad.add (i.toNat * 20)).off + 7, none⟩ = some (.int .i8 (rd_T61 xs i).f0.f7) ∧ w.cell? ⟨(ad.add (i.toNat * 20)).block, (ad.add (i.toNat * 20)).off + 8, none⟩ = some (.int .i8 (rd_T61 xs i).f0.f8) ∧ w.cell? ⟨(ad.add (i.toNat * 20)).block, (ad.add (i.toNat * 20)).off + 9, none⟩ = some (.int .i8 (rd_T61 xs i).f0.f9) ∧ w.cell? ⟨(ad.add (i.toNat * 20)).block, (ad.add (i.toNat * 20)).off + 10, none⟩ = some (.int .i8 (rd_T61 xs i).f0.f10) ∧ w.cell? ⟨(ad.add (i.toNat * 20)).block, (ad.add (i.toNat * 20)).off + 11, none⟩ = some (.int .i8 (rd_T61 xs i).f0.f11) ∧ w.cell? ⟨(ad.add (i.toNat * 20)).block, (ad.add (i.toNat * 20)).off + 12, none⟩ = some (.int .i8 (rd_T61 xs i).f0.f12) ∧ w.cell? ⟨(ad.add (i.toNat * 20)).block, (ad.add (i.toNat * 20)).off + 13, none⟩ = some (.int .i8 (rd_T61 xs i).f0.f13) ∧ w.cell? ⟨(ad.add (i.toNat * 20)).block, (ad.add (i.toNat * 20)).off + 14, none⟩ = some (.int .i16 (rd_T61 xs i).f1.f0) ∧ w.cell? ⟨(ad.add (i.toNat * 20)).block, (ad.add (i.toNat * 20)).off + 15, none⟩ = some (.int .i16 (rd_T61 xs i).f1.f1) ∧ w.cell? ⟨(ad.add (i.toNat * 20)).block, (ad.add (i.toNat * 20)).off + 16, none⟩ = some (.int .i16 (rd_T61 xs i).f1.f2) ∧ w.cell? ⟨(ad.add (i.toNat * 20)).block, (ad.add (i.toNat * 20)).off + 17, none⟩ = some (.int .i8 (rd_T61 xs i).f2.f0) ∧ w.cell? ⟨(ad.add (i.toNat * 20)).block, (ad.add (i.toNat * 20)).off + 18, none⟩ = some (.bool (rd_T61 xs i).f2.f1) ∧ w.cell? ⟨(ad.add (i.toNat * 20)).block, (ad.add (i.toNat * 20)).off + 19, none⟩ = some (.bool (rd_T61 xs i).f3) := by
 obtain ⟨ad, c, e, _, hK, hc0⟩ := Kd.C_get h z61 i h0 h1
 have hc : ∀ j u, c[j]? = some u → w.cell? (ad.add (i.toNat * 20 + j)) = some u := hc0
 obtain rfl := k61_open hK
 exact ⟨ad, e, hc 0 _ rfl, by rw [← add_field _ _ 1 (by omega)]; exact hc 1 _ rfl, by rw [← add_field _ _ 2 (by omega)]; exact hc 2 _ rfl, by rw [← add_field _ _ 3 (by omega)]; exact hc 3 _ rfl, by rw [← add_field _ _ 4 (by omega)]; exact hc 4 _ rfl, by rw [← add_field _ _ 5 (by omega)]; exact hc 5 _ rfl, by rw [← add_field _ _ 6 (by omega)]; exact hc 6 _ rfl, by rw [← add_field _ _ 7 (by omega)]; exact hc 7 _ rfl, by rw [← add_field _ _ 8 (by omega)]; exact hc 8 _ rfl, by rw [← add_field _ _ 9 (by omega)]; exact hc 9 _ rfl, by rw [← add_field _ _ 10 (by omega)]; exact hc 10 _ rfl, by rw [← add_field _ _ 11 (by omega)]; exact hc 11 _ rfl, by rw [← add_field _ _ 12 (by omega)]; exact hc 12 _ rfl, by rw [← add_field _ _ 13 (by omega)]; exact hc 13 _ rfl, by rw [← add_field _ _ 14 (by omega)]; exact hc 14 _ rfl, by rw [← add_field _ _ 15 (by omega)]; exact hc 15 _ rfl, by rw [← add_field _ _ 16 (by omega)]; exact hc 16 _ rfl, by rw [← add_field _ _ 17 (by omega)]; exact hc 17 _ rfl, by rw [← add_field _ _ 18 (by omega)]; exact hc 18 _ rfl, by rw [← add_field _ _ 19 (by omega)]; exact hc 19 _ rfl⟩

/-! #### struct type 26 -/
structure S26 where
 f0 : Int
 f1 : Int
 f2 : Int
 f3 : Int
 f4 : Int
 f5 : Int
 f6 : Int
 f7 : Int
 f8 : Int
 f9 : Int
 f10 : Int
 f11 : Int
 f12 : Int
 f13 : Int
def z26 : S26 := ⟨(0 : Int), (0 : Int), (0 : Int), (0 : Int), (0 : Int), (0 : Int), (0 : Int), (0 : Int), (0 : Int), (0 : Int), (0 : Int), (0 : Int), (0 : Int), (0 : Int)⟩
def k26 : Kd S26 := Kd.iso (Kd.pair (Kd.int .i8) (Kd.pair (Kd.int .i8) (Kd.pair (Kd.int .i8) (Kd.pair (Kd.int .i8) (Kd.pair (Kd.int .i8) (Kd.pair (Kd.int .i8) (Kd.pair (Kd.int .i8) (Kd.pair (Kd.int .i8) (Kd.pair (Kd.int .i8) (Kd.pair (Kd.int .i8) (Kd.pair (Kd.int .i8) (Kd.pair (Kd.int .i8) (Kd.pair (Kd.int .i8) (Kd.int .i8)))))))))))))) (fun x : S26 => (x.f0, x.f1, x.f2, x.f3, x.f4, x.f5, x.f6, x.f7, x.f8, x.f9, x.f10, x.f11, x.f12, x.f13))
theorem k26_open {w : World} {x : S26} {cs : List Value} (h : k26.K w x cs) : cs = [.int .i8 x.f0, .int .i8 x.f1, .int .i8 x.f2, .int .i8 x.f3, .int .i8 x.f4, .int .i8 x.f5, .int .i8 x.f6, .int .i8 x.f7, .int .i8 x.f8, .int .i8 x.f9, .int .i8 x.f10, .int .i8 x.f11, .int .i8 x.f12, .int .i8 x.f13] := by
 obtain ⟨_, _, rfl, rfl, ⟨_, _, rfl, rfl, ⟨_, _, rfl, rfl, ⟨_, _, rfl, rfl, ⟨_, _, rfl, rfl, ⟨_, _, rfl, rfl, ⟨_, _, rfl, rfl, ⟨_, _, rfl, rfl, ⟨_, _, rfl, rfl, ⟨_, _, rfl, rfl, ⟨_, _, rfl, rfl, ⟨_, _, rfl, rfl, ⟨_, _, rfl, rfl, rfl⟩⟩⟩⟩⟩⟩⟩⟩⟩⟩⟩⟩⟩ := h
 exact rfl
theorem k26_openM {w : World} {base : Nat} {ok : Nat → Prop} {x : S26} {cs : List Value} (h : k26.M w base ok x cs) : cs = [.int .i8 x.f0, .int .i8 x.f1, .int .i8 x.f2, .int .i8 x.f3, .int .i8 x.f4, .int .i8 x.f5, .int .i8 x.f6, .int .i8 x.f7, .int .i8 x.f8, .int .i8 x.f9, .int .i8 x.f10, .int .i8 x.f11, .int .i8 x.f12, .int .i8 x.f13] := by
 obtain ⟨_, _, rfl, rfl, ⟨_, _, rfl, rfl, ⟨_, _, rfl, rfl, ⟨_, _, rfl, rfl, ⟨_, _, rfl, rfl, ⟨_, _, rfl, rfl, ⟨_, _, rfl, rfl, ⟨_, _, rfl, rfl, ⟨_, _, rfl, rfl, ⟨_, _, rfl, rfl, ⟨_, _, rfl, rfl, ⟨_, _, rfl, rfl, ⟨_, _, rfl, rfl, rfl⟩⟩⟩⟩⟩⟩⟩⟩⟩⟩⟩⟩⟩ := h
 exact rfl
theorem k26_mk (w : World) (x : S26)  : k26.K w x [.int .i8 x.f0, .int .i8 x.f1, .int .i8 x.f2, .int .i8 x.f3, .int .i8 x.f4, .int .i8 x.f5, .int .i8 x.f6, .int .i8 x.f7, .int .i8 x.f8, .int .i8 x.f9, .int .i8 x.f10, .int .i8 x.f11, .int .i8 x.f12, .int .i8 x.f13] := ⟨[.int .i8 x.f0], [.int .i8 x.f1, .int .i8 x.f2, .int .i8 x.f3, .int .i8 x.f4, .int .i8 x.f5, .int .i8 x.f6, .int .i8 x.f7, .int .i8 x.f8, .int .i8 x.f9, .int .i8 x.f10, .int .i8 x.f11, .int .i8 x.f12, .int .i8 x.f13], rfl, rfl, ⟨[.int .i8 x.f1], [.int .i8 x.f2, .int .i8 x.f3, .int .i8 x.f4, .int .i8 x.f5, .int .i8 x.f6, .int .i8 x.f7, .int .i8 x.f8, .int .i8 x.f9, .int .i8 x.f10, .int .i8 x.f11, .int .i8 x.f12, .int .i8 x.f13], rfl, rfl, ⟨[.int .i8 x.f2], [.int .i8 x.f3, .int .i8 x.f4, .int .i8 x.f5, .int .i8 x.f6, .int .i8 x.f7, .int .i8 x.f8, .int .i8 x.f9, .int .i8 x.f10, .int .i8 x.f11, .int .i8 x.f12, .int .i8 x.f13], rfl, rfl, ⟨[.int .i8 x.f3], [.int .i8 x.f4, .int .i8 x.f5, .int .i8 x.f6, .int .i8 x.f7, .int .i8 x.f8, .int .i8 x.f9, .int .i8 x.f10, .int .i8 x.f11, .int .i8 x.f12, .int .i8 x.f13], rfl, rfl, ⟨[.int .i8 x.f4], [.int .i8 x.f5, .int .i8 x.f6, .int .i8 x.f7, .int .i8 x.f8, .int .i8 x.f9, .int .i8 x.f10, .int .i8 x.f11, .int .i8 x.f12, .int .i8 x.f13], rfl, rfl, ⟨[.int .i8 x.f5], [.int .i8 x.f6, .int .i8 x.f7, .int .i8 x.f8, .int .i8 x.f9, .int .i8 x.f10, .int .i8 x.f11, .int .i8 x.f12, .int .i8 x.f13], rfl, rfl, ⟨[.int .i8 x.f6], [.int .i8 x.f7, .int .i8 x.f8, .int .i8 x.f9, .int .i8 x.f10, .int .i8 x.f11, .int .i8 x.f12, .int .i8 x.f13], rfl, rfl, ⟨[.int .i8 x.f7], [.int .i8 x.f8, .int .i8 x.f9, .int .i8 x.f10, .int .i8 x.f11, .int .i8 x.f12, .int .i8 x.f13], rfl, rfl, ⟨[.int .i8 x.f8], [.int .i8 x.f9, .int .i8 x.f10, .int .i8 x.f11, .int .i8 x.f12, .int .i8 x.f13], rfl, rfl, ⟨[.int .i8 x.f9], [.int .i8 x.f10, .int .i8 x.f11, .int .i8 x.f12, .int .i8 x.f13], rfl, rfl, ⟨[.int .i8 x.f10], [.int .i8 x.f11, .int .i8 x.f12, .int .i8 x.f13], rfl, rfl, ⟨[.int .i8 x.f11], [.int .i8 x.f12, .int .i8 x.f13], rfl, rfl, ⟨[.int .i8 x.f12], [.int .i8 x.f13], rfl, rfl, rfl⟩⟩⟩⟩⟩⟩⟩⟩⟩⟩⟩⟩⟩
theorem k26_mkM (w : World) (base : Nat) (ok : Nat → Prop) (x : S26)  : k26.M w base ok x [.int .i8 x.f0, .int .i8 x.f1, .int .i8 x.f2, .int .i8 x.f3, .int .i8 x.f4, .int .i8 x.f5, .int .i8 x.f6, .int .i8 x.f7, .int .i8 x.f8, .int .i8 x.f9, .int .i8 x.f10, .int .i8 x.f11, .int .i8 x.f12, .int .i8 x.f13] := ⟨[.int .i8 x.f0], [.int .i8 x.f1, .int .i8 x.f2, .int .i8 x.f3, .int .i8 x.f4, .int .i8 x.f5, .int .i8 x.f6, .int .i8 x.f7, .int .i8 x.f8, .int .i8 x.f9, .int .i8 x.f10, .int .i8 x.f11, .int .i8 x.f12, .int .i8 x.f13], rfl, rfl, ⟨[.int .i8 x.f1], [.int .i8 x.f2, .int .i8 x.f3, .int .i8 x.f4, .int .i8 x.f5, .int .i8 x.f6, .int .i8 x.f7, .int .i8 x.f8, .int .i8 x.f9, .int .i8 x.f10, .int .i8 x.f11, .int .i8 x.f12, .int .i8 x.f13], rfl, rfl, ⟨[.int .i8 x.f2], [.int .i8 x.f3, .int .i8 x.f4, .int .i8 x.f5, .int .i8 x.f6, .int .i8 x.f7, .int .i8 x.f8, .int .i8 x.f9, .int .i8 x.f10, .int .i8 x.f11, .int .i8 x.f12, .int .i8 x.f13], rfl, rfl, ⟨[.int .i8 x.f3], [.int .i8 x.f4, .int .i8 x.f5, .int .i8 x.f6, .int .i8 x.f7, .int .i8 x.f8, .int .i8 x.f9, .int .i8 x.f10, .int .i8 x.f11, .int .i8 x.f12, .int .i8 x.f13], rfl, rfl, ⟨[.int .i8 x.f4], [.int .i8 x.f5, .int .i8 x.f6, .int .i8 x.f7, .int .i8 x.f8, .int .i8 x.f9, .int .i8 x.f10, .int .i8 x.f11, .int .i8 x.f12, .int .i8 x.f13], rfl, rfl, ⟨[.int .i8 x.f5], [.int .i8 x.f6, .int .i8 x.f7, .int .i8 x.f8, .int .i8 x.f9, .int .i8 x.f10, .int .i8 x.f11, .int .i8 x.f12, .int .i8 x.f13], rfl, rfl, ⟨[.int .i8 x.f6], [.int .i8 x.f7, .int .i8 x.f8, .int .i8 x.f9, .int .i8 x.f10, .int .i8 x.f11, .int .i8 x.f12, .int .i8 x.f13], rfl, rfl, ⟨[.int .i8 x.f7], [.int .i8 x.f8, .int .i8 x.f9, .int .i8 x.f10, .int .i8 x.f11, .int .i8 x.f12, .int .i8 x.f13], rfl, rfl, ⟨[.int .i8 x.f8], [.int .i8 x.f9, .int .i8 x.f10, .int .i8 x.f11, .int .i8 x.f12, .int .i8 x.f13], rfl, rfl, ⟨[.int .i8 x.f9], [.int .i8 x.f10, .int .i8 x.f11, .int .i8 x.f12, .int .i8 x.f13], rfl, rfl, ⟨[.int .i8 x.f10], [.int .i8 x.f11, .int .i8 x.f12, .int .i8 x.f13], rfl, rfl, ⟨[.int .i8 x.f11], [.int .i8 x.f12, .int .i8 x.f13], rfl, rfl, ⟨[.int .i8 x.f12], [.int .i8 x.f13], rfl, rfl, rfl⟩⟩⟩⟩⟩⟩⟩⟩⟩⟩⟩⟩⟩
def rd_T26 (xs : List S26) (i : Int) : S26 := xs.getD i.toNat z26
theorem at_T26 {w : World} {A : Option Addr} {n : Nat} {xs : List S26} (h : Kd.C k26 w A n xs) (i : Int) (h0 : 0 ≤ i) (h1 : i < n) : ∃ ad , A = some ad ∧ w.cell? (ad.add (i.toNat * 14)) = some (.int .i8 (rd_T26 xs i).f0) ∧ w.cell? ⟨(ad.add (i.toNat * 14)).block, (ad.add (i.toNat * 14)).off + 1, none⟩ = some (.int .i8 (rd_T26 xs i).f1) ∧ w.cell? ⟨(ad.add (i.toNat * 14)).block, (ad.add (i.toNat * 14)).off + 2, none⟩ = some (.int .i8 (rd_T26 xs i).f2) ∧ w.cell? ⟨(ad.add (i.toNat * 14)).block, (ad.add (i.toNat * 14)).off + 3, none⟩ = some (.int .i8 (rd_T26 xs i).f3) ∧ w.cell? ⟨(ad.add (i.toNat * 14)).block, (ad.add (i.toNat * 14)).off + 4, none⟩ = some (.int .i8 (rd_T26 xs i).f4) ∧ w.cell? ⟨(ad.add (i.toNat * 14)).block, (ad.add (i.toNat * 14)).off + 5, none⟩ = some (.int .i8 (rd_T26 xs i).f5) ∧ w.cell? ⟨(ad.add (i.toNat * 14)).block, (ad.add (i.toNat * 14)).off + 6, none⟩ = some (.int .i8 (rd_T26 xs i).f6) ∧ w.cell? ⟨(ad.add (i.toNat * 14)).block, (ad.add (i.toNat * 14)).off + 7, none⟩ = some (.int .i8 (rd_T26 xs i).f7) ∧ w.cell? ⟨(ad.add (i.toNat * 14)).block, (ad.add (i.toNat * 14)).off + 8, none⟩ = some (.int .i8 (rd_T26 xs i).f8) ∧ w.cell? ⟨(ad.add (i.toNat * 14)).block, (ad.add (i.toNat * 14)).off + 9, none⟩ = some (.int .i8 (rd_T26 xs i).f9) ∧ w.cell? ⟨(ad.add (i.toNat * 14)).block, (ad.add (i.toNat * 14)).off + 10, none⟩ = some (.int .i8 (rd_T26 xs i).f10) ∧ w.cell? ⟨(ad.add (i.toNat * 14)).block, (ad.add (i.toNat * 14)).off + 11, none⟩ = some (.int .i8 (rd_T26 xs i).f11) ∧ w.cell? ⟨(ad.add (i.toNat * 14)).block, (ad.add (i.toNat * 14)).off + 12, none⟩ = some (.int .i8 (rd_T26 xs i).f12) ∧ w.cell? ⟨(ad.add (i.toNat * 14)).block, (ad.add (i.toNat * 14)).off + 13, none⟩ = some (.int .i8 (rd_T26 xs i).f13) := by
 obtain ⟨ad, c, e, _, hK, hc0⟩ := Kd.C_get h z26 i h0 h1
 have hc : ∀ j u, c[j]? = some u → w.cell? (ad.add (i.toNat * 14 + j)) = some u := hc0
 obtain rfl := k26_open hK
 exact ⟨ad, e, hc 0 _ rfl, by rw [← add_field _ _ 1 (by omega)]; exact hc 1 _ rfl, by rw [← add_field _ _ 2 (by omega)]; exact hc 2 _ rfl, by rw [← add_field _ _ 3 (by omega)]; exact hc 3 _ rfl, by rw [← add_field _ _ 4 (by omega)]; exact hc 4 _ rfl, by rw [← add_field _ _ 5 (by omega)]; exact hc 5 _ rfl, by rw [← add_field _ _ 6 (by omega)]; exact hc 6 _ rfl, by rw [← add_field _ _ 7 (by omega)]; exact hc 7 _ rfl, by rw [← add_field _ _ 8 (by omega)]; exact hc 8 _ rfl, by rw [← add_field _ _ 9 (by omega)]; exact hc 9 _ rfl, by rw [← add_field _ _ 10 (by omega)]; exact hc 10 _ rfl, by rw [← add_field _ _ 11 (by omega)]; exact hc 11 _ rfl, by rw [← add_field _ _ 12 (by omega)]; exact hc 12 _ rfl, by rw [← add_field _ _ 13 (by omega)]; exact hc 13 _ rfl⟩

/-! #### struct type 43 -/
structure S43 where
 f0 : Int
 f1 : Bool
def z43 : S43 := ⟨(0 : Int), false⟩
def k43 : Kd S43 := Kd.iso (Kd.pair (Kd.int .i8) Kd.bool) (fun x : S43 => (x.f0, x.f1))
theorem k43_open {w : World} {x : S43} {cs : List Value} (h : k43.K w x cs) : cs = [.int .i8 x.f0, .bool x.f1] := by
 obtain ⟨_, _, rfl, rfl, rfl⟩ := h
 exact rfl
theorem k43_openM {w : World} {base : Nat} {ok : Nat → Prop} {x : S43} {cs : List Value} (h : k43.M w base ok x cs) : cs = [.int .i8 x.f0, .bool x.f1] := by
 obtain ⟨_, _, rfl, rfl, rfl⟩ := h
 exact rfl
theorem k43_mk (w : World) (x : S43)  : k43.K w x [.int .i8 x.f0, .bool x.f1] := ⟨[.int .i8 x.f0], [.bool x.f1], rfl, rfl, rfl⟩
theorem k43_mkM (w : World) (base : Nat) (ok : Nat → Prop) (x : S43)  : k43.M w base ok x [.int .i8 x.f0, .bool x.f1] := ⟨[.int .i8 x.f0], [.bool x.f1], rfl, rfl, rfl⟩
def rd_T43 (xs : List S43) (i : Int) : S43 := xs.getD i.toNat z43
theorem at_T43 {w : World} {A : Option Addr} {n : Nat} {xs : List S43} (h : Kd.C k43 w A n xs) (i : Int) (h0 : 0 ≤ i) (h1 : i < n) : ∃ ad , A = some ad ∧ w.cell? (ad.add (i.toNat * 2)) = some (.int .i8 (rd_T43 xs i).f0) ∧ w.cell? ⟨(ad.add (i.toNat * 2)).block, (ad.add (i.toNat * 2)).off + 1, none⟩ = some (.bool (rd_T43 xs i).f1) := by
 obtain ⟨ad, c, e, _, hK, hc0⟩ := Kd.C_get h z43 i h0 h1
 have hc : ∀ j u, c[j]? = some u → w.cell? (ad.add (i.toNat * 2 + j)) = some u := hc0
 obtain rfl := k43_open hK
 exact ⟨ad, e, hc 0 _ rfl, by rw [← add_field _ _ 1 (by omega)]; exact hc 1 _ rfl⟩

/-! #### struct type 58 -/
structure S58 where
 f0 : S26
 f1 : S56
 f2 : S43
 f3 : Bool
def z58 : S58 := ⟨z26, z56, z43, false⟩
def k58 : Kd S58 := Kd.iso (Kd.pair k26 (Kd.pair k56 (Kd.pair k43 Kd.bool))) (fun x : S58 => (x.f0, x.f1, x.f2, x.f3))
theorem k58_open {w : World} {x : S58} {cs : List Value} (h : k58.K w x cs) : cs = [.int .i8 x.f0.f0, .int .i8 x.f0.f1, .int .i8 x.f0.f2, .int .i8 x.f0.f3, .int .i8 x.f0.f4, .int .i8 x.f0.f5, .int .i8 x.f0.f6, .int .i8 x.f0.f7, .int .i8 x.f0.f8, .int .i8 x.f0.f9, .int .i8 x.f0.f10, .int .i8 x.f0.f11, .int .i8 x.f0.f12, .int .i8 x.f0.f13, .int .i16 x.f1.f0, .int .i16 x.f1.f1, .int .i16 x.f1.f2, .int .i8 x.f2.f0, .bool x.f2.f1, .bool x.f3] := by
 obtain ⟨_, _, rfl, s0, ⟨_, _, rfl, s14, ⟨_, _, rfl, s17, rfl⟩⟩⟩ := h
 obtain rfl := k26_open s0
 obtain rfl := k56_open s14
 obtain rfl := k43_open s17
 exact rfl
theorem k58_openM {w : World} {base : Nat} {ok : Nat → Prop} {x : S58} {cs : List Value} (h : k58.M w base ok x cs) : cs = [.int .i8 x.f0.f0, .int .i8 x.f0.f1, .int .i8 x.f0.f2, .int .i8 x.f0.f3, .int .i8 x.f0.f4, .int .i8 x.f0.f5, .int .i8 x.f0.f6, .int .i8 x.f0.f7, .int .i8 x.f0.f8, .int .i8 x.f0.f9, .int .i8 x.f0.f10, .int .i8 x.f0.f11, .int .i8 x.f0.f12, .int .i8 x.f0.f13, .int .i16 x.f1.f0, .int .i16 x.f1.f1, .int .i16 x.f1.f2, .int .i8 x.f2.f0, .bool x.f2.f1, .bool x.f3] := by
 obtain ⟨_, _, rfl, s0, ⟨_, _, rfl, s14, ⟨_, _, rfl, s17, rfl⟩⟩⟩ := h
 obtain rfl := k26_openM s0
 obtain rfl := k56_openM s14
 obtain rfl := k43_openM s17
 exact rfl
theorem k58_mk (w : World) (x : S58)  : k58.K w x [.int .i8 x.f0.f0, .int .i8 x.f0.f1, .int .i8 x.f0.f2, .int .i8 x.f0.f3, .int .i8 x.f0.f4, .int .i8 x.f0.f5, .int .i8 x.f0.f6, .int .i8 x.f0.f7, .int .i8 x.f0.f8, .int .i8 x.f0.f9, .int .i8 x.f0.f10, .int .i8 x.f0.f11, .int .i8 x.f0.f12, .int .i8 x.f0.f13, .int .i16 x.f1.f0, .int .i16 x.f1.f1, .int .i16 x.f1.f2, .int .i8 x.f2.f0, .bool x.f2.f1, .bool x.f3] := ⟨[.int .i8 x.f0.f0, .int .i8 x.f0.f1, .int .i8 x.f0.f2, .int .i8 x.f0.f3, .int .i8 x.f0.f4, .int .i8 x.f0.f5, .int .i8 x.f0.f6, .int .i8 x.f0.f7, .int .i8 x.f0.f8, .int .i8 x.f0.f9, .int .i8 x.f0.f10, .int .i8 x.f0.f11, .int .i8 x.f0.f12, .int .i8 x.f0.f13], [.int .i16 x.f1.f0, .int .i16 x.f1.f1, .int .i16 x.f1.f2, .int .i8 x.f2.f0, .bool x.f2.f1, .bool x.f3], rfl, (k26_mk w x.f0 ), ⟨[.int .i16 x.f1.f0, .int .i16 x.f1.f1, .int .i16 x.f1.f2], [.int .i8 x.f2.f0, .bool x.f2.f1, .bool x.f3], rfl, (k56_mk w x.f1 ), ⟨[.int .i8 x.f2.f0, .bool x.f2.f1], [.bool x.f3], rfl, (k43_mk w x.f2 ), rfl⟩⟩⟩
theorem k58_mkM (w : World) (base : Nat) (ok : Nat → Prop) (x : S58)  : k58.M w base ok x [.int .i8 x.f0.f0, .int .i8 x.f0.f1, .int .i8 x.f0.f2, .int .i8 x.f0.f3, .int .i8 x.f0.f4, .int .i8 x.f0.f5, .int .i8 x.f0.f6, .int .i8 x.f0.f7, .int .i8 x.f0.f8, .int .i8 x.f0.f9, .int .i8 x.f0.f10, .int .i8 x.f0.f11, .int .i8 x.f0.f12, .int .i8 x.f0.f13, .int .i16 x.f1.f0, .int .i16 x.f1.f1, .int .i16 x.f1.f2, .int .i8 x.f2.f0, .bool x.f2.f1, .bool x.f3] := ⟨[.int .i8 x.f0.f0, .int .i8 x.f0.f1, .int .i8 x.f0.f2, .int .i8 x.f0.f3, .int .i8 x.f0.f4, .int .i8 x.f0.f5, .int .i8 x.f0.f6, .int .i8 x.f0.f7, .int .i8 x.f0.f8, .int .i8 x.f0.f9, .int .i8 x.f0.f10, .int .i8 x.f0.f11, .int .i8 x.f0.f12, .int .i8 x.f0.f13], [.int .i16 x.f1.f0, .int .i16 x.f1.f1, .int .i16 x.f1.f2, .int .i8 x.f2.f0, .bool x.f2.f1, .bool x.f3], rfl, (k26_mkM w base ok x.f0 ), ⟨[.int .i16 x.f1.f0, .int .i16 x.f1.f1, .int .i16 x.f1.f2], [.int .i8 x.f2.f0, .bool x.f2.f1, .bool x.f3], rfl, (k56_mkM w base ok x.f1 ), ⟨[.int .i8 x.f2.f0, .bool x.f2.f1], [.bool x.f3], rfl, (k43_mkM w base ok x.f2 ), rfl⟩⟩⟩
def rd_T58 (xs : List S58) (i : Int) : S58 := xs.getD i.toNat z58
theorem at_T58 {w : World} {A : Option Addr} {n : Nat} {xs : List S58} (h : Kd.C k58 w A n xs) (i : Int) (h0 : 0 ≤ i) (h1 : i < n) : ∃ ad , A = some ad ∧ w.cell? (ad.add (i.toNat * 20)) = some (.int .i8 (rd_T58 xs i).f0.f0) ∧ w.cell? ⟨(ad.add (i.toNat * 20)).block, (ad.add (i.toNat * 20)).off + 1, none⟩ = some (.int .i8 (rd_T58 xs i).f0.f1) ∧ w.cell? ⟨(ad.add (i.toNat * 20)).block, (ad.add (i.toNat * 20)).off + 2, none⟩ = some (.int .i8 (rd_T58 xs i).f0.f2) ∧ w.cell? ⟨(ad.add (i.toNat * 20)).block, (ad.add (i.toNat * 20)).off + 3, none⟩ = some (.int .i8 (rd_T58 xs i).f0.f3) ∧ w.cell? ⟨(ad.add (i.toNat * 20)).block, (ad.add (i.toNat * 20)).off + 4, none⟩ = some (.int .i8 (rd_T58 xs i).f0.f4) ∧ w.cell? ⟨(ad.add (i.toNat * 20)).block, (ad.add (i.toNat * 20)).off + 5, none⟩ = some (.int .i8 (rd_T58 xs i).f0.f5) ∧ w.cell? ⟨(ad.add (i.toNat * 20)).block, (ad.add (i.toNat * 20)).off + 6, none⟩ = some (.int .i8 (rd_T58 xs i).f0.f6) ∧ w.cell? ⟨(ad.add (i.toNat * 20)).block, (ad.add (i.toNat * 20)).off + 7, none⟩ = some (.int .i8 (rd_T58 xs i).f0.f7) ∧ w.cell? ⟨(ad.add (i.toNat * 20)).block, (ad.add (i.toNat * 20)).off + 8, none⟩ = some (.int .i8 (rd_T58 xs i).f0.f8) ∧ w.cell? ⟨(ad.add (i.toNat * 20)).block, (ad.add (i.toNat * 20)).off + 9, none⟩ = some (.int .i8 (rd_T58 xs i).f0.f9) ∧ w.cell? ⟨(ad.add (i.toNat * 20)).block, (ad.add (i.toNat * 20)).off + 10, none⟩ = some (.int .i8 (rd_T58 xs i).f0.f10) ∧ w.cell? ⟨(ad.add (i.toNat * 20)).block, (ad.add (i.toNat * 20)).off + 11, none⟩ = some (.int .i8 (rd_T58 xs i).f0.f11) ∧ w.cell? ⟨(ad.add (i.toNat * 20)).block, (ad.add (i.toNat * 20)).off + 12, none⟩ = some (.int .i8 (rd_T58 xs i).f0.f12) ∧ w.cell? ⟨(ad.add (i.toNat * 20)).block, (ad.add (i.toNat * 20)).off + 13, none⟩ = some (.int .i8 (rd_T58 xs i).f0.f13) ∧ w.cell? ⟨(ad.add (i.toNat * 20)).block, (ad.add (i.toNat * 20)).off + 14, none⟩ = some (.int .i16 (rd_T58 xs i).f1.f0) ∧ w.cell? ⟨(ad.add (i.toNat * 20)).block, (ad.add (i.toNat * 20)).off + 15, none⟩ = some (.int .i16 (rd_T58 xs i).f1.f1) ∧ w.cell? ⟨(ad.add (i.toNat * 20)).block, (ad.add (i.toNat * 20)).off + 16, none⟩ = some (.int .i16 (rd_T58 xs i).f1.f2) ∧ w.cell? ⟨(ad.add (i.toNat * 20)).block, (ad.add (i.toNat * 20)).off + 17, none⟩ = some (.int .i8 (rd_T58 xs i).f2.f0) ∧ w.cell? ⟨(ad.add (i.toNat * 20)).block, (ad.add (i.toNat * 20)).off + 18, none⟩ = some (.bool (rd_T58 xs i).f2.f1) ∧ w.cell? ⟨(ad.add (i.toNat * 20)).block, (ad.add (i.toNat * 20)).off + 19, none⟩ = some (.bool (rd_T58 xs i).f3) := by
 obtain ⟨ad, c, e, _, hK, hc0⟩ := Kd.C_get h z58 i h0 h1
 have hc : ∀ j u, c[j]? = some u → w.cell? (ad.add (i.toNat * 20 + j)) = some u := hc0
 obtain rfl := k58_open hK
 exact ⟨ad, e, hc 0 _ rfl, by rw [← add_field _ _ 1 (by omega)]; exact hc 1 _ rfl, by rw [← add_field _ _ 2 (by omega)]; exact hc 2 _ rfl, by rw [← add_field _ _ 3 (by omega)]; exact hc 3 _ rfl, by rw [← add_field _ _ 4 (by omega)]; exact hc 4 _ rfl, by rw [← add_field _ _ 5 (by omega)]; exact hc 5 _ rfl, by rw [← add_field _ _ 6 (by omega)]; exact hc 6 _ rfl, by rw [← add_field _ _ 7 (by omega)]; exact hc 7 _ rfl, by rw [← add_field _ _ 8 (by omega)]; exact hc 8 _ rfl, by rw [← add_field _ _ 9 (by omega)]; exact hc 9 _ rfl, by rw [← add_field _ _ 10 (by omega)]; exact hc 10 _ rfl, by rw [← add_field _ _ 11 (by omega)]; exact hc 11 _ rfl, by rw [← add_field _ _ 12 (by omega)]; exact hc 12 _ rfl, by rw [← add_field _ _ 13 (by omega)]; exact hc 13 _ rfl, by rw [← add_field _ _ 14 (by omega)]; exact hc 14 _ rfl, by rw [← add_field _ _ 15 (by omega)]; exact hc 15 _ rfl, by rw [← add_field _ _ 16 (by omega)]; exact hc 16 _ rfl, by rw [← add_field _ _ 17 (by omega)]; exact hc 17 _ rfl, by rw [← add_field _ _ 18 (by omega)]; exact hc 18 _ rfl, by rw [← add_field _ _ 19 (by omega)]; exact hc 19 _ rfl⟩

end Go.Proofs.Ytcghglembmohcaa.M
