-- By this seat's own program over the kit's printer (arrays, functions told by hand); nothing of it is trusted: the kernel checks it.
import Derived.Test.YtajbeamkjoeifaaProg
import Derived.Below
import Derived.Deep.Draws
import Derived.Deep.AppendLies
import Derived.Maps.AppendAt
import Derived.OwnWalk
import Derived.Laws.BytesArg
import Derived.Laws.MakeOwn
import Derived.Laws.OwnMore
import Derived.Deep.OwnRows
import Derived.Tactics
import Derived.Lib.ConvBytes
import Derived.Laws.Slices
import Derived.WalkKit
import Derived.KernelRfl
import Derived.RowKit3
import Derived.Deep.LoopGhost
import Derived.Deep.QuietTactic
import Derived.BigQuiet
import Derived.WideLaws
import Derived.Deep.DeepCutAuto
import Derived.Deep.CutBlock
import Derived.Deep.RegionHeld3
import Derived.Laws.Rows
import Derived.Lib.AppendStr
import Derived.ArgAppend
import Derived.Laws.IdiomCopy
import Derived.OrdersHeld
import Derived.Laws.BitsLemmas
import Derived.RowKit
import Derived.Test.YtajbeamkjoeifaaWWords
import Derived.Test.YtajbeamkjoeifaaWLast
import Derived.Test.YtajbeamkjoeifaaWTab
import Derived.Test.YtajbeamkjoeifaaWFour
import Derived.Test.YtajbeamkjoeifaaWQPut
import Derived.Test.YtajbeamkjoeifaaWApart
import Derived.Test.YtajbeamkjoeifaaWArr
import Derived.Test.YtajbeamkjoeifaaWZeros
import Derived.Test.YtajbeamkjoeifaaWFoot
import Derived.Test.YtajbeamkjoeifaaWKept
import Derived.Test.YtajbeamkjoeifaaWShare
import Derived.Test.YtajbeamkjoeifaaWN
import Derived.Test.YtajbeamkjoeifaaWFootNe
import Derived.Test.YtajbeamkjoeifaaWAt
import Derived.Test.YtajbeamkjoeifaaWEqStruct
import Derived.Test.YtajbeamkjoeifaaWRepsOne
import Derived.Test.YtajbeamkjoeifaaWInv
import Derived.Test.YtajbeamkjoeifaaWInvWords
import Derived.Test.YtajbeamkjoeifaaWGuard
import Derived.Test.YtajbeamkjoeifaaWNEv
import Derived.Test.YtajbeamkjoeifaaWMore
import Derived.Test.YtajbeamkjoeifaaMWords
namespace Go.Proofs.Ytajbeamkjoeifaa.M
open Go.RowKit Go.Proofs.YtajbeamkjoeifaaW.PrintWords Go.Proofs.YtajbeamkjoeifaaW.PrintLast Go.Proofs.YtajbeamkjoeifaaW.PrintMore
attribute [local go_sem] max2_int min2_int max_two min_two max_three min_three max_four min_four   -- for this text's walks alone
set_option linter.unusedVariables false
set_option linter.unusedSimpArgs false



def errW : Option Int → Value
  | none => .nilIface
  | some c => .iface 0 (.int .i64 c)
theorem errW_none : errW none = .nilIface := rfl
theorem errW_some (c : Int) : errW (some c) = .iface 0 (.int .i64 c) := rfl

theorem info5 : (Try.prog.info? 5).map (fun i => (i.zero, i.size, i.bytes)) = some (some (.int .u8 0), 1, 1) := by kernel_rfl
theorem info40 : (Try.prog.info? 40).map (fun i => (i.zero, i.size, i.bytes)) = some (some (.agg #[(.int .i8 0), (.bool false)]), 2, 2) := by kernel_rfl
theorem info83 : (Try.prog.info? 83).map (fun i => (i.zero, i.size, i.bytes)) = some (some (.agg #[(.int .i8 0), (.int .i8 0), (.int .i8 0), (.int .i8 0), (.int .i8 0), (.int .i8 0), (.int .i8 0), (.int .i8 0), (.int .i8 0), (.int .i8 0), (.int .i8 0), (.int .i8 0), (.int .i8 0), (.int .i8 0), (.int .i16 0), (.int .i16 0), (.int .i16 0), (.int .i8 0), (.bool false), (.bool false)]), 20, 24) := by kernel_rfl
-- the values' own types
/-! #### struct type 40 -/
structure S40 where
  f0 : Int
  f1 : Bool
def z40 : S40 := ⟨(0 : Int), false⟩
def k40 : Kd S40 := Kd.iso (Kd.pair (Kd.int .i8) Kd.bool) (fun x : S40 => (x.f0, x.f1))
theorem k40_open {w : World} {x : S40} {cs : List Value} (h : k40.K w x cs) : cs = [.int .i8 x.f0, .bool x.f1] := by
  obtain ⟨_, _, rfl, rfl, rfl⟩ := h
  exact rfl
theorem k40_openM {w : World} {base : Nat} {ok : Nat → Prop} {x : S40} {cs : List Value} (h : k40.M w base ok x cs) : cs = [.int .i8 x.f0, .bool x.f1] := by
  obtain ⟨_, _, rfl, rfl, rfl⟩ := h
  exact rfl
theorem k40_mk (w : World) (x : S40)  : k40.K w x [.int .i8 x.f0, .bool x.f1] := ⟨[.int .i8 x.f0], [.bool x.f1], rfl, rfl, rfl⟩
theorem k40_mkM (w : World) (base : Nat) (ok : Nat → Prop) (x : S40)  : k40.M w base ok x [.int .i8 x.f0, .bool x.f1] := ⟨[.int .i8 x.f0], [.bool x.f1], rfl, rfl, rfl⟩
def rd_T40 (xs : List S40) (i : Int) : S40 := xs.getD i.toNat z40
theorem at_T40 {w : World} {A : Option Addr} {n : Nat} {xs : List S40} (h : Kd.C k40 w A n xs) (i : Int) (h0 : 0 ≤ i) (h1 : i < n) : ∃ ad , A = some ad ∧ w.cell? (ad.add (i.toNat * 2)) = some (.int .i8 (rd_T40 xs i).f0) ∧ w.cell? ⟨(ad.add (i.toNat * 2)).block, (ad.add (i.toNat * 2)).off + 1, none⟩ = some (.bool (rd_T40 xs i).f1) := by
  obtain ⟨ad, c, e, _, hK, hc0⟩ := Kd.C_get h z40 i h0 h1
  have hc : ∀ j u, c[j]? = some u → w.cell? (ad.add (i.toNat * 2 + j)) = some u := hc0
  obtain rfl := k40_open hK
  exact ⟨ad, e, hc 0 _ rfl, by rw [← add_field _ _ 1 (by omega)]; exact hc 1 _ rfl⟩

/-! #### struct type 29 -/
structure S29 where
  f0 : Int
  f1 : Int
  f2 : Int
  f3 : Int
  f4 : Int
  f5 : Int
  f6 : Int
  f7 : Int
  f8 : Int
  f9 : Int
  f10 : Int
  f11 : Int
  f12 : Int
  f13 : Int
def z29 : S29 := ⟨(0 : Int), (0 : Int), (0 : Int), (0 : Int), (0 : Int), (0 : Int), (0 : Int), (0 : Int), (0 : Int), (0 : Int), (0 : Int), (0 : Int), (0 : Int), (0 : Int)⟩
def k29 : Kd S29 := Kd.iso (Kd.pair (Kd.int .i8) (Kd.pair (Kd.int .i8) (Kd.pair (Kd.int .i8) (Kd.pair (Kd.int .i8) (Kd.pair (Kd.int .i8) (Kd.pair (Kd.int .i8) (Kd.pair (Kd.int .i8) (Kd.pair (Kd.int .i8) (Kd.pair (Kd.int .i8) (Kd.pair (Kd.int .i8) (Kd.pair (Kd.int .i8) (Kd.pair (Kd.int .i8) (Kd.pair (Kd.int .i8) (Kd.int .i8)))))))))))))) (fun x : S29 => (x.f0, x.f1, x.f2, x.f3, x.f4, x.f5, x.f6, x.f7, x.f8, x.f9, x.f10, x.f11, x.f12, x.f13))
theorem k29_open {w : World} {x : S29} {cs : List Value} (h : k29.K w x cs) : cs = [.int .i8 x.f0, .int .i8 x.f1, .int .i8 x.f2, .int .i8 x.f3, .int .i8 x.f4, .int .i8 x.f5, .int .i8 x.f6, .int .i8 x.f7, .int .i8 x.f8, .int .i8 x.f9, .int .i8 x.f10, .int .i8 x.f11, .int .i8 x.f12, .int .i8 x.f13] := by
  obtain ⟨_, _, rfl, rfl, ⟨_, _, rfl, rfl, ⟨_, _, rfl, rfl, ⟨_, _, rfl, rfl, ⟨_, _, rfl, rfl, ⟨_, _, rfl, rfl, ⟨_, _, rfl, rfl, ⟨_, _, rfl, rfl, ⟨_, _, rfl, rfl, ⟨_, _, rfl, rfl, ⟨_, _, rfl, rfl, ⟨_, _, rfl, rfl, ⟨_, _, rfl, rfl, rfl⟩⟩⟩⟩⟩⟩⟩⟩⟩⟩⟩⟩⟩ := h
  exact rfl
theorem k29_openM {w : World} {base : Nat} {ok : Nat → Prop} {x : S29} {cs : List Value} (h : k29.M w base ok x cs) : cs = [.int .i8 x.f0, .int .i8 x.f1, .int .i8 x.f2, .int .i8 x.f3, .int .i8 x.f4, .int .i8 x.f5, .int .i8 x.f6, .int .i8 x.f7, .int .i8 x.f8, .int .i8 x.f9, .int .i8 x.f10, .int .i8 x.f11, .int .i8 x.f12, .int .i8 x.f13] := by
  obtain ⟨_, _, rfl, rfl, ⟨_, _, rfl, rfl, ⟨_, _, rfl, rfl, ⟨_, _, rfl, rfl, ⟨_, _, rfl, rfl, ⟨_, _, rfl, rfl, ⟨_, _, rfl, rfl, ⟨_, _, rfl, rfl, ⟨_, _, rfl, rfl, ⟨_, _, rfl, rfl, ⟨_, _, rfl, rfl, ⟨_, _, rfl, rfl, ⟨_, _, rfl, rfl, rfl⟩⟩⟩⟩⟩⟩⟩⟩⟩⟩⟩⟩⟩ := h
  exact rfl
theorem k29_mk (w : World) (x : S29)  : k29.K w x [.int .i8 x.f0, .int .i8 x.f1, .int .i8 x.f2, .int .i8 x.f3, .int .i8 x.f4, .int .i8 x.f5, .int .i8 x.f6, .int .i8 x.f7, .int .i8 x.f8, .int .i8 x.f9, .int .i8 x.f10, .int .i8 x.f11, .int .i8 x.f12, .int .i8 x.f13] := ⟨[.int .i8 x.f0], [.int .i8 x.f1, .int .i8 x.f2, .int .i8 x.f3, .int .i8 x.f4, .int .i8 x.f5, .int .i8 x.f6, .int .i8 x.f7, .int .i8 x.f8, .int .i8 x.f9, .int .i8 x.f10, .int .i8 x.f11, .int .i8 x.f12, .int .i8 x.f13], rfl, rfl, ⟨[.int .i8 x.f1], [.int .i8 x.f2, .int .i8 x.f3, .int .i8 x.f4, .int .i8 x.f5, .int .i8 x.f6, .int .i8 x.f7, .int .i8 x.f8, .int .i8 x.f9, .int .i8 x.f10, .int .i8 x.f11, .int .i8 x.f12, .int .i8 x.f13], rfl, rfl, ⟨[.int .i8 x.f2], [.int .i8 x.f3, .int .i8 x.f4, .int .i8 x.f5, .int .i8 x.f6, .int .i8 x.f7, .int .i8 x.f8, .int .i8 x.f9, .int .i8 x.f10, .int .i8 x.f11, .int .i8 x.f12, .int .i8 x.f13], rfl, rfl, ⟨[.int .i8 x.f3], [.int .i8 x.f4, .int .i8 x.f5, .int .i8 x.f6, .int .i8 x.f7, .int .i8 x.f8, .int .i8 x.f9, .int .i8 x.f10, .int .i8 x.f11, .int .i8 x.f12, .int .i8 x.f13], rfl, rfl, ⟨[.int .i8 x.f4], [.int .i8 x.f5, .int .i8 x.f6, .int .i8 x.f7, .int .i8 x.f8, .int .i8 x.f9, .int .i8 x.f10, .int .i8 x.f11, .int .i8 x.f12, .int .i8 x.f13], rfl, rfl, ⟨[.int .i8 x.f5], [.int .i8 x.f6, .int .i8 x.f7, .int .i8 x.f8, .int .i8 x.f9, .int .i8 x.f10, .int .i8 x.f11, .int .i8 x.f12, .int .i8 x.f13], rfl, rfl, ⟨[.int .i8 x.f6], [.int .i8 x.f7, .int .i8 x.f8, .int .i8 x.f9, .int .i8 x.f10, .int .i8 x.f11, .int .i8 x.f12, .int .i8 x.f13], rfl, rfl, ⟨[.int .i8 x.f7], [.int .i8 x.f8, .int .i8 x.f9, .int .i8 x.f10, .int .i8 x.f11, .int .i8 x.f12, .int .i8 x.f13], rfl, rfl, ⟨[.int .i8 x.f8], [.int .i8 x.f9, .int .i8 x.f10, .int .i8 x.f11, .int .i8 x.f12, .int .i8 x.f13], rfl, rfl, ⟨[.int .i8 x.f9], [.int .i8 x.f10, .int .i8 x.f11, .int .i8 x.f12, .int .i8 x.f13], rfl, rfl, ⟨[.int .i8 x.f10], [.int .i8 x.f11, .int .i8 x.f12, .int .i8 x.f13], rfl, rfl, ⟨[.int .i8 x.f11], [.int .i8 x.f12, .int .i8 x.f13], rfl, rfl, ⟨[.int .i8 x.f12], [.int .i8 x.f13], rfl, rfl, rfl⟩⟩⟩⟩⟩⟩⟩⟩⟩⟩⟩⟩⟩
theorem k29_mkM (w : World) (base : Nat) (ok : Nat → Prop) (x : S29)  : k29.M w base ok x [.int .i8 x.f0, .int .i8 x.f1, .int .i8 x.f2, .int .i8 x.f3, .int .i8 x.f4, .int .i8 x.f5, .int .i8 x.f6, .int .i8 x.f7, .int .i8 x.f8, .int .i8 x.f9, .int .i8 x.f10, .int .i8 x.f11, .int .i8 x.f12, .int .i8 x.f13] := ⟨[.int .i8 x.f0], [.int .i8 x.f1, .int .i8 x.f2, .int .i8 x.f3, .int .i8 x.f4, .int .i8 x.f5, .int .i8 x.f6, .int .i8 x.f7, .int .i8 x.f8, .int .i8 x.f9, .int .i8 x.f10, .int .i8 x.f11, .int .i8 x.f12, .int .i8 x.f13], rfl, rfl, ⟨[.int .i8 x.f1], [.int .i8 x.f2, .int .i8 x.f3, .int .i8 x.f4, .int .i8 x.f5, .int .i8 x.f6, .int .i8 x.f7, .int .i8 x.f8, .int .i8 x.f9, .int .i8 x.f10, .int .i8 x.f11, .int .i8 x.f12, .int .i8 x.f13], rfl, rfl, ⟨[.int .i8 x.f2], [.int .i8 x.f3, .int .i8 x.f4, .int .i8 x.f5, .int .i8 x.f6, .int .i8 x.f7, .int .i8 x.f8, .int .i8 x.f9, .int .i8 x.f10, .int .i8 x.f11, .int .i8 x.f12, .int .i8 x.f13], rfl, rfl, ⟨[.int .i8 x.f3], [.int .i8 x.f4, .int .i8 x.f5, .int .i8 x.f6, .int .i8 x.f7, .int .i8 x.f8, .int .i8 x.f9, .int .i8 x.f10, .int .i8 x.f11, .int .i8 x.f12, .int .i8 x.f13], rfl, rfl, ⟨[.int .i8 x.f4], [.int .i8 x.f5, .int .i8 x.f6, .int .i8 x.f7, .int .i8 x.f8, .int .i8 x.f9, .int .i8 x.f10, .int .i8 x.f11, .int .i8 x.f12, .int .i8 x.f13], rfl, rfl, ⟨[.int .i8 x.f5], [.int .i8 x.f6, .int .i8 x.f7, .int .i8 x.f8, .int .i8 x.f9, .int .i8 x.f10, .int .i8 x.f11, .int .i8 x.f12, .int .i8 x.f13], rfl, rfl, ⟨[.int .i8 x.f6], [.int .i8 x.f7, .int .i8 x.f8, .int .i8 x.f9, .int .i8 x.f10, .int .i8 x.f11, .int .i8 x.f12, .int .i8 x.f13], rfl, rfl, ⟨[.int .i8 x.f7], [.int .i8 x.f8, .int .i8 x.f9, .int .i8 x.f10, .int .i8 x.f11, .int .i8 x.f12, .int .i8 x.f13], rfl, rfl, ⟨[.int .i8 x.f8], [.int .i8 x.f9, .int .i8 x.f10, .int .i8 x.f11, .int .i8 x.f12, .int .i8 x.f13], rfl, rfl, ⟨[.int .i8 x.f9], [.int .i8 x.f10, .int .i8 x.f11, .int .i8 x.f12, .int .i8 x.f13], rfl, rfl, ⟨[.int .i8 x.f10], [.int .i8 x.f11, .int .i8 x.f12, .int .i8 x.f13], rfl, rfl, ⟨[.int .i8 x.f11], [.int .i8 x.f12, .int .i8 x.f13], rfl, rfl, ⟨[.int .i8 x.f12], [.int .i8 x.f13], rfl, rfl, rfl⟩⟩⟩⟩⟩⟩⟩⟩⟩⟩⟩⟩⟩
def rd_T29 (xs : List S29) (i : Int) : S29 := xs.getD i.toNat z29
theorem at_T29 {w : World} {A : Option Addr} {n : Nat} {xs : List S29} (h : Kd.C k29 w A n xs) (i : Int) (h0 : 0 ≤ i) (h1 : i < n) : ∃ ad , A = some ad ∧ w.cell? (ad.add (i.toNat * 14)) = some (.int .i8 (rd_T29 xs i).f0) ∧ w.cell? ⟨(ad.add (i.toNat * 14)).block, (ad.add (i.toNat * 14)).off + 1, none⟩ = some (.int .i8 (rd_T29 xs i).f1) ∧ w.cell? ⟨(ad.add (i.toNat * 14)).block, (ad.add (i.toNat * 14)).off + 2, none⟩ = some (.int .i8 (rd_T29 xs i).f2) ∧ w.cell? ⟨(ad.add (i.toNat * 14)).block, (ad.add (i.toNat * 14)).off + 3, none⟩ = some (.int .i8 (rd_T29 xs i).f3) ∧ w.cell? ⟨(ad.add (i.toNat * 14)).block, (ad.add (i.toNat * 14)).off + 4, none⟩ = some (.int .i8 (rd_T29 xs i).f4) ∧ w.cell? ⟨(ad.add (i.toNat * 14)).block, (ad.add (i.toNat * 14)).off + 5, none⟩ = some (.int .i8 (rd_T29 xs i).f5) ∧ w.cell? ⟨(ad.add (i.toNat * 14)).block, (ad.add (i.toNat * 14)).off + 6, none⟩ = some (.int .i8 (rd_T29 xs i).f6) ∧ w.cell? ⟨(ad.add (i.toNat * 14)).block, (ad.add (i.toNat * 14)).off + 7, none⟩ = some (.int .i8 (rd_T29 xs i).f7) ∧ w.cell? ⟨(ad.add (i.toNat * 14)).block, (ad.add (i.toNat * 14)).off + 8, none⟩ = some (.int .i8 (rd_T29 xs i).f8) ∧ w.cell? ⟨(ad.add (i.toNat * 14)).block, (ad.add (i.toNat * 14)).off + 9, none⟩ = some (.int .i8 (rd_T29 xs i).f9) ∧ w.cell? ⟨(ad.add (i.toNat * 14)).block, (ad.add (i.toNat * 14)).off + 10, none⟩ = some (.int .i8 (rd_T29 xs i).f10) ∧ w.cell? ⟨(ad.add (i.toNat * 14)).block, (ad.add (i.toNat * 14)).off + 11, none⟩ = some (.int .i8 (rd_T29 xs i).f11) ∧ w.cell? ⟨(ad.add (i.toNat * 14)).block, (ad.add (i.toNat * 14)).off + 12, none⟩ = some (.int .i8 (rd_T29 xs i).f12) ∧ w.cell? ⟨(ad.add (i.toNat * 14)).block, (ad.add (i.toNat * 14)).off + 13, none⟩ = some (.int .i8 (rd_T29 xs i).f13) := by
  obtain ⟨ad, c, e, _, hK, hc0⟩ := Kd.C_get h z29 i h0 h1
  have hc : ∀ j u, c[j]? = some u → w.cell? (ad.add (i.toNat * 14 + j)) = some u := hc0
  obtain rfl := k29_open hK
  exact ⟨ad, e, hc 0 _ rfl, by rw [← add_field _ _ 1 (by omega)]; exact hc 1 _ rfl, by rw [← add_field _ _ 2 (by omega)]; exact hc 2 _ rfl, by rw [← add_field _ _ 3 (by omega)]; exact hc 3 _ rfl, by rw [← add_field _ _ 4 (by omega)]; exact hc 4 _ rfl, by rw [← add_field _ _ 5 (by omega)]; exact hc 5 _ rfl, by rw [← add_field _ _ 6 (by omega)]; exact hc 6 _ rfl, by rw [← add_field _ _ 7 (by omega)]; exact hc 7 _ rfl, by rw [← add_field _ _ 8 (by omega)]; exact hc 8 _ rfl, by rw [← add_field _ _ 9 (by omega)]; exact hc 9 _ rfl, by rw [← add_field _ _ 10 (by omega)]; exact hc 10 _ rfl, by rw [← add_field _ _ 11 (by omega)]; exact hc 11 _ rfl, by rw [← add_field _ _ 12 (by omega)]; exact hc 12 _ rfl, by rw [← add_field _ _ 13 (by omega)]; exact hc 13 _ rfl⟩

/-! #### struct type 81 -/
structure S81 where
  f0 : Int
  f1 : Int
  f2 : Int
def z81 : S81 := ⟨(0 : Int), (0 : Int), (0 : Int)⟩
def k81 : Kd S81 := Kd.iso (Kd.pair (Kd.int .i16) (Kd.pair (Kd.int .i16) (Kd.int .i16))) (fun x : S81 => (x.f0, x.f1, x.f2))
theorem k81_open {w : World} {x : S81} {cs : List Value} (h : k81.K w x cs) : cs = [.int .i16 x.f0, .int .i16 x.f1, .int .i16 x.f2] := by
  obtain ⟨_, _, rfl, rfl, ⟨_, _, rfl, rfl, rfl⟩⟩ := h
  exact rfl
theorem k81_openM {w : World} {base : Nat} {ok : Nat → Prop} {x : S81} {cs : List Value} (h : k81.M w base ok x cs) : cs = [.int .i16 x.f0, .int .i16 x.f1, .int .i16 x.f2] := by
  obtain ⟨_, _, rfl, rfl, ⟨_, _, rfl, rfl, rfl⟩⟩ := h
  exact rfl
theorem k81_mk (w : World) (x : S81)  : k81.K w x [.int .i16 x.f0, .int .i16 x.f1, .int .i16 x.f2] := ⟨[.int .i16 x.f0], [.int .i16 x.f1, .int .i16 x.f2], rfl, rfl, ⟨[.int .i16 x.f1], [.int .i16 x.f2], rfl, rfl, rfl⟩⟩
theorem k81_mkM (w : World) (base : Nat) (ok : Nat → Prop) (x : S81)  : k81.M w base ok x [.int .i16 x.f0, .int .i16 x.f1, .int .i16 x.f2] := ⟨[.int .i16 x.f0], [.int .i16 x.f1, .int .i16 x.f2], rfl, rfl, ⟨[.int .i16 x.f1], [.int .i16 x.f2], rfl, rfl, rfl⟩⟩
def rd_T81 (xs : List S81) (i : Int) : S81 := xs.getD i.toNat z81
theorem at_T81 {w : World} {A : Option Addr} {n : Nat} {xs : List S81} (h : Kd.C k81 w A n xs) (i : Int) (h0 : 0 ≤ i) (h1 : i < n) : ∃ ad , A = some ad ∧ w.cell? (ad.add (i.toNat * 3)) = some (.int .i16 (rd_T81 xs i).f0) ∧ w.cell? ⟨(ad.add (i.toNat * 3)).block, (ad.add (i.toNat * 3)).off + 1, none⟩ = some (.int .i16 (rd_T81 xs i).f1) ∧ w.cell? ⟨(ad.add (i.toNat * 3)).block, (ad.add (i.toNat * 3)).off + 2, none⟩ = some (.int .i16 (rd_T81 xs i).f2) := by
  obtain ⟨ad, c, e, _, hK, hc0⟩ := Kd.C_get h z81 i h0 h1
  have hc : ∀ j u, c[j]? = some u → w.cell? (ad.add (i.toNat * 3 + j)) = some u := hc0
  obtain rfl := k81_open hK
  exact ⟨ad, e, hc 0 _ rfl, by rw [← add_field _ _ 1 (by omega)]; exact hc 1 _ rfl, by rw [← add_field _ _ 2 (by omega)]; exact hc 2 _ rfl⟩

/-! #### struct type 38 -/
structure S38 where
  f0 : Int
  f1 : Bool
def z38 : S38 := ⟨(0 : Int), false⟩
def k38 : Kd S38 := Kd.iso (Kd.pair (Kd.int .i8) Kd.bool) (fun x : S38 => (x.f0, x.f1))
theorem k38_open {w : World} {x : S38} {cs : List Value} (h : k38.K w x cs) : cs = [.int .i8 x.f0, .bool x.f1] := by
  obtain ⟨_, _, rfl, rfl, rfl⟩ := h
  exact rfl
theorem k38_openM {w : World} {base : Nat} {ok : Nat → Prop} {x : S38} {cs : List Value} (h : k38.M w base ok x cs) : cs = [.int .i8 x.f0, .bool x.f1] := by
  obtain ⟨_, _, rfl, rfl, rfl⟩ := h
  exact rfl
theorem k38_mk (w : World) (x : S38)  : k38.K w x [.int .i8 x.f0, .bool x.f1] := ⟨[.int .i8 x.f0], [.bool x.f1], rfl, rfl, rfl⟩
theorem k38_mkM (w : World) (base : Nat) (ok : Nat → Prop) (x : S38)  : k38.M w base ok x [.int .i8 x.f0, .bool x.f1] := ⟨[.int .i8 x.f0], [.bool x.f1], rfl, rfl, rfl⟩
def rd_T38 (xs : List S38) (i : Int) : S38 := xs.getD i.toNat z38
theorem at_T38 {w : World} {A : Option Addr} {n : Nat} {xs : List S38} (h : Kd.C k38 w A n xs) (i : Int) (h0 : 0 ≤ i) (h1 : i < n) : ∃ ad , A = some ad ∧ w.cell? (ad.add (i.toNat * 2)) = some (.int .i8 (rd_T38 xs i).f0) ∧ w.cell? ⟨(ad.add (i.toNat * 2)).block, (ad.add (i.toNat * 2)).off + 1, none⟩ = some (.bool (rd_T38 xs i).f1) := by
  obtain ⟨ad, c, e, _, hK, hc0⟩ := Kd.C_get h z38 i h0 h1
  have hc : ∀ j u, c[j]? = some u → w.cell? (ad.add (i.toNat * 2 + j)) = some u := hc0
  obtain rfl := k38_open hK
  exact ⟨ad, e, hc 0 _ rfl, by rw [← add_field _ _ 1 (by omega)]; exact hc 1 _ rfl⟩

/-! #### struct type 86 -/
structure S86 where
  f0 : S29
  f1 : S81
  f2 : S38
  f3 : Bool
def z86 : S86 := ⟨z29, z81, z38, false⟩
def k86 : Kd S86 := Kd.iso (Kd.pair k29 (Kd.pair k81 (Kd.pair k38 Kd.bool))) (fun x : S86 => (x.f0, x.f1, x.f2, x.f3))
theorem k86_open {w : World} {x : S86} {cs : List Value} (h : k86.K w x cs) : cs = [.int .i8 x.f0.f0, .int .i8 x.f0.f1, .int .i8 x.f0.f2, .int .i8 x.f0.f3, .int .i8 x.f0.f4, .int .i8 x.f0.f5, .int .i8 x.f0.f6, .int .i8 x.f0.f7, .int .i8 x.f0.f8, .int .i8 x.f0.f9, .int .i8 x.f0.f10, .int .i8 x.f0.f11, .int .i8 x.f0.f12, .int .i8 x.f0.f13, .int .i16 x.f1.f0, .int .i16 x.f1.f1, .int .i16 x.f1.f2, .int .i8 x.f2.f0, .bool x.f2.f1, .bool x.f3] := by
  obtain ⟨_, _, rfl, s0, ⟨_, _, rfl, s14, ⟨_, _, rfl, s17, rfl⟩⟩⟩ := h
  obtain rfl := k29_open s0
  obtain rfl := k81_open s14
  obtain rfl := k38_open s17
  exact rfl
theorem k86_openM {w : World} {base : Nat} {ok : Nat → Prop} {x : S86} {cs : List Value} (h : k86.M w base ok x cs) : cs = [.int .i8 x.f0.f0, .int .i8 x.f0.f1, .int .i8 x.f0.f2, .int .i8 x.f0.f3, .int .i8 x.f0.f4, .int .i8 x.f0.f5, .int .i8 x.f0.f6, .int .i8 x.f0.f7, .int .i8 x.f0.f8, .int .i8 x.f0.f9, .int .i8 x.f0.f10, .int .i8 x.f0.f11, .int .i8 x.f0.f12, .int .i8 x.f0.f13, .int .i16 x.f1.f0, .int .i16 x.f1.f1, .int .i16 x.f1.f2, .int .i8 x.f2.f0, .bool x.f2.f1, .bool x.f3] := by
  obtain ⟨_, _, rfl, s0, ⟨_, _, rfl, s14, ⟨_, _, rfl, s17, rfl⟩⟩⟩ := h
  obtain rfl := k29_openM s0
  obtain rfl := k81_openM s14
  obtain rfl := k38_openM s17
  exact rfl
theorem k86_mk (w : World) (x : S86)  : k86.K w x [.int .i8 x.f0.f0, .int .i8 x.f0.f1, .int .i8 x.f0.f2, .int .i8 x.f0.f3, .int .i8 x.f0.f4, .int .i8 x.f0.f5, .int .i8 x.f0.f6, .int .i8 x.f0.f7, .int .i8 x.f0.f8, .int .i8 x.f0.f9, .int .i8 x.f0.f10, .int .i8 x.f0.f11, .int .i8 x.f0.f12, .int .i8 x.f0.f13, .int .i16 x.f1.f0, .int .i16 x.f1.f1, .int .i16 x.f1.f2, .int .i8 x.f2.f0, .bool x.f2.f1, .bool x.f3] := ⟨[.int .i8 x.f0.f0, .int .i8 x.f0.f1, .int .i8 x.f0.f2, .int .i8 x.f0.f3, .int .i8 x.f0.f4, .int .i8 x.f0.f5, .int .i8 x.f0.f6, .int .i8 x.f0.f7, .int .i8 x.f0.f8, .int .i8 x.f0.f9, .int .i8 x.f0.f10, .int .i8 x.f0.f11, .int .i8 x.f0.f12, .int .i8 x.f0.f13], [.int .i16 x.f1.f0, .int .i16 x.f1.f1, .int .i16 x.f1.f2, .int .i8 x.f2.f0, .bool x.f2.f1, .bool x.f3], rfl, (k29_mk w x.f0 ), ⟨[.int .i16 x.f1.f0, .int .i16 x.f1.f1, .int .i16 x.f1.f2], [.int .i8 x.f2.f0, .bool x.f2.f1, .bool x.f3], rfl, (k81_mk w x.f1 ), ⟨[.int .i8 x.f2.f0, .bool x.f2.f1], [.bool x.f3], rfl, (k38_mk w x.f2 ), rfl⟩⟩⟩
theorem k86_mkM (w : World) (base : Nat) (ok : Nat → Prop) (x : S86)  : k86.M w base ok x [.int .i8 x.f0.f0, .int .i8 x.f0.f1, .int .i8 x.f0.f2, .int .i8 x.f0.f3, .int .i8 x.f0.f4, .int .i8 x.f0.f5, .int .i8 x.f0.f6, .int .i8 x.f0.f7, .int .i8 x.f0.f8, .int .i8 x.f0.f9, .int .i8 x.f0.f10, .int .i8 x.f0.f11, .int .i8 x.f0.f12, .int .i8 x.f0.f13, .int .i16 x.f1.f0, .int .i16 x.f1.f1, .int .i16 x.f1.f2, .int .i8 x.f2.f0, .bool x.f2.f1, .bool x.f3] := ⟨[.int .i8 x.f0.f0, .int .i8 x.f0.f1, .int .i8 x.f0.f2, .int .i8 x.f0.f3, .int .i8 x.f0.f4, .int .i8 x.f0.f5, .int .i8 x.f0.f6, .int .i8 x.f0.f7, .int .i8 x.f0.f8, .int .i8 x.f0.f9, .int .i8 x.f0.f10, .int .i8 x.f0.f11, .int .i8 x.f0.f12, .int .i8 x.f0.f13], [.int .i16 x.f1.f0, .int .i16 x.f1.f1, .int .i16 x.f1.f2, .int .i8 x.f2.f0, .bool x.f2.f1, .bool x.f3], rfl, (k29_mkM w base ok x.f0 ), ⟨[.int .i16 x.f1.f0, .int .i16 x.f1.f1, .int .i16 x.f1.f2], [.int .i8 x.f2.f0, .bool x.f2.f1, .bool x.f3], rfl, (k81_mkM w base ok x.f1 ), ⟨[.int .i8 x.f2.f0, .bool x.f2.f1], [.bool x.f3], rfl, (k38_mkM w base ok x.f2 ), rfl⟩⟩⟩
def rd_T86 (xs : List S86) (i : Int) : S86 := xs.getD i.toNat z86
theorem at_T86 {w : World} {A : Option Addr} {n : Nat} {xs : List S86} (h : Kd.C k86 w A n xs) (i : Int) (h0 : 0 ≤ i) (h1 : i < n) : ∃ ad , A = some ad ∧ w.cell? (ad.add (i.toNat * 20)) = some (.int .i8 (rd_T86 xs i).f0.f0) ∧ w.cell? ⟨(ad.add (i.toNat * 20)).block, (ad.add (i.toNat * 20)).off + 1, none⟩ = some (.int .i8 (rd_T86 xs i).f0.f1) ∧ w.cell? ⟨(ad.add (i.toNat * 20)).block, (ad.add (i.toNat * 20)).off + 2, none⟩ = some (.int .i8 (rd_T86 xs i).f0.f2) ∧ w.cell? ⟨(ad.add (i.toNat * 20)).block, (ad.add (i.toNat * 20)).off + 3, none⟩ = some (.int .i8 (rd_T86 xs i).f0.f3) ∧ w.cell? ⟨(ad.add (i.toNat * 20)).block, (ad.add (i.toNat * 20)).off + 4, none⟩ = some (.int .i8 (rd_T86 xs i).f0.f4) ∧ w.cell? ⟨(ad.add (i.toNat * 20)).block, (ad.add (i.toNat * 20)).off + 5, none⟩ = some (.int .i8 (rd_T86 xs i).f0.f5) ∧ w.cell? ⟨(ad.add (i.toNat * 20)).block, (ad.add (i.toNat * 20)).off + 6, none⟩ = some (.int .i8 (rd_T86 xs i).f0.f6) ∧ w.cell? ⟨(ad.add (i.toNat * 20)).block, (ad.add (i.toNat * 20)).off + 7, none⟩ = some (.int .i8 (rd_T86 xs i).f0.f7) ∧ w.cell? ⟨(ad.add (i.toNat * 20)).block, (ad.add (i.toNat * 20)).off + 8, none⟩ = some (.int .i8 (rd_T86 xs i).f0.f8) ∧ w.cell? ⟨(ad.add (i.toNat * 20)).block, (ad.add (i.toNat * 20)).off + 9, none⟩ = some (.int .i8 (rd_T86 xs i).f0.f9) ∧ w.cell? ⟨(ad.add (i.toNat * 20)).block, (ad.add (i.toNat * 20)).off + 10, none⟩ = some (.int .i8 (rd_T86 xs i).f0.f10) ∧ w.cell? ⟨(ad.add (i.toNat * 20)).block, (ad.add (i.toNat * 20)).off + 11, none⟩ = some (.int .i8 (rd_T86 xs i).f0.f11) ∧ w.cell? ⟨(ad.add (i.toNat * 20)).block, (ad.add (i.toNat * 20)).off + 12, none⟩ = some (.int .i8 (rd_T86 xs i).f0.f12) ∧ w.cell? ⟨(ad.add (i.toNat * 20)).block, (ad.add (i.toNat * 20)).off + 13, none⟩ = some (.int .i8 (rd_T86 xs i).f0.f13) ∧ w.cell? ⟨(ad.add (i.toNat * 20)).block, (ad.add (i.toNat * 20)).off + 14, none⟩ = some (.int .i16 (rd_T86 xs i).f1.f0) ∧ w.cell? ⟨(ad.add (i.toNat * 20)).block, (ad.add (i.toNat * 20)).off + 15, none⟩ = some (.int .i16 (rd_T86 xs i).f1.f1) ∧ w.cell? ⟨(ad.add (i.toNat * 20)).block, (ad.add (i.toNat * 20)).off + 16, none⟩ = some (.int .i16 (rd_T86 xs i).f1.f2) ∧ w.cell? ⟨(ad.add (i.toNat * 20)).block, (ad.add (i.toNat * 20)).off + 17, none⟩ = some (.int .i8 (rd_T86 xs i).f2.f0) ∧ w.cell? ⟨(ad.add (i.toNat * 20)).block, (ad.add (i.toNat * 20)).off + 18, none⟩ = some (.bool (rd_T86 xs i).f2.f1) ∧ w.cell? ⟨(ad.add (i.toNat * 20)).block, (ad.add (i.toNat * 20)).off + 19, none⟩ = some (.bool (rd_T86 xs i).f3) := by
  obtain ⟨ad, c, e, _, hK, hc0⟩ := Kd.C_get h z86 i h0 h1
  have hc : ∀ j u, c[j]? = some u → w.cell? (ad.add (i.toNat * 20 + j)) = some u := hc0
  obtain rfl := k86_open hK
  exact ⟨ad, e, hc 0 _ rfl, by rw [← add_field _ _ 1 (by omega)]; exact hc 1 _ rfl, by rw [← add_field _ _ 2 (by omega)]; exact hc 2 _ rfl, by rw [← add_field _ _ 3 (by omega)]; exact hc 3 _ rfl, by rw [← add_field _ _ 4 (by omega)]; exact hc 4 _ rfl, by rw [← add_field _ _ 5 (by omega)]; exact hc 5 _ rfl, by rw [← add_field _ _ 6 (by omega)]; exact hc 6 _ rfl, by rw [← add_field _ _ 7 (by omega)]; exact hc 7 _ rfl, by rw [← add_field _ _ 8 (by omega)]; exact hc 8 _ rfl, by rw [← add_field _ _ 9 (by omega)]; exact hc 9 _ rfl, by rw [← add_field _ _ 10 (by omega)]; exact hc 10 _ rfl, by rw [← add_field _ _ 11 (by omega)]; exact hc 11 _ rfl, by rw [← add_field _ _ 12 (by omega)]; exact hc 12 _ rfl, by rw [← add_field _ _ 13 (by omega)]; exact hc 13 _ rfl, by rw [← add_field _ _ 14 (by omega)]; exact hc 14 _ rfl, by rw [← add_field _ _ 15 (by omega)]; exact hc 15 _ rfl, by rw [← add_field _ _ 16 (by omega)]; exact hc 16 _ rfl, by rw [← add_field _ _ 17 (by omega)]; exact hc 17 _ rfl, by rw [← add_field _ _ 18 (by omega)]; exact hc 18 _ rfl, by rw [← add_field _ _ 19 (by omega)]; exact hc 19 _ rfl⟩

/-! #### struct type 31 -/
structure S31 where
  f0 : Int
  f1 : Int
  f2 : Int
  f3 : Int
  f4 : Int
  f5 : Int
  f6 : Int
  f7 : Int
  f8 : Int
  f9 : Int
  f10 : Int
  f11 : Int
  f12 : Int
  f13 : Int
def z31 : S31 := ⟨(0 : Int), (0 : Int), (0 : Int), (0 : Int), (0 : Int), (0 : Int), (0 : Int), (0 : Int), (0 : Int), (0 : Int), (0 : Int), (0 : Int), (0 : Int), (0 : Int)⟩
def k31 : Kd S31 := Kd.iso (Kd.pair (Kd.int .i8) (Kd.pair (Kd.int .i8) (Kd.pair (Kd.int .i8) (Kd.pair (Kd.int .i8) (Kd.pair (Kd.int .i8) (Kd.pair (Kd.int .i8) (Kd.pair (Kd.int .i8) (Kd.pair (Kd.int .i8) (Kd.pair (Kd.int .i8) (Kd.pair (Kd.int .i8) (Kd.pair (Kd.int .i8) (Kd.pair (Kd.int .i8) (Kd.pair (Kd.int .i8) (Kd.int .i8)))))))))))))) (fun x : S31 => (x.f0, x.f1, x.f2, x.f3, x.f4, x.f5, x.f6, x.f7, x.f8, x.f9, x.f10, x.f11, x.f12, x.f13))
theorem k31_open {w : World} {x : S31} {cs : List Value} (h : k31.K w x cs) : cs = [.int .i8 x.f0, .int .i8 x.f1, .int .i8 x.f2, .int .i8 x.f3, .int .i8 x.f4, .int .i8 x.f5, .int .i8 x.f6, .int .i8 x.f7, .int .i8 x.f8, .int .i8 x.f9, .int .i8 x.f10, .int .i8 x.f11, .int .i8 x.f12, .int .i8 x.f13] := by
  obtain ⟨_, _, rfl, rfl, ⟨_, _, rfl, rfl, ⟨_, _, rfl, rfl, ⟨_, _, rfl, rfl, ⟨_, _, rfl, rfl, ⟨_, _, rfl, rfl, ⟨_, _, rfl, rfl, ⟨_, _, rfl, rfl, ⟨_, _, rfl, rfl, ⟨_, _, rfl, rfl, ⟨_, _, rfl, rfl, ⟨_, _, rfl, rfl, ⟨_, _, rfl, rfl, rfl⟩⟩⟩⟩⟩⟩⟩⟩⟩⟩⟩⟩⟩ := h
  exact rfl
theorem k31_openM {w : World} {base : Nat} {ok : Nat → Prop} {x : S31} {cs : List Value} (h : k31.M w base ok x cs) : cs = [.int .i8 x.f0, .int .i8 x.f1, .int .i8 x.f2, .int .i8 x.f3, .int .i8 x.f4, .int .i8 x.f5, .int .i8 x.f6, .int .i8 x.f7, .int .i8 x.f8, .int .i8 x.f9, .int .i8 x.f10, .int .i8 x.f11, .int .i8 x.f12, .int .i8 x.f13] := by
  obtain ⟨_, _, rfl, rfl, ⟨_, _, rfl, rfl, ⟨_, _, rfl, rfl, ⟨_, _, rfl, rfl, ⟨_, _, rfl, rfl, ⟨_, _, rfl, rfl, ⟨_, _, rfl, rfl, ⟨_, _, rfl, rfl, ⟨_, _, rfl, rfl, ⟨_, _, rfl, rfl, ⟨_, _, rfl, rfl, ⟨_, _, rfl, rfl, ⟨_, _, rfl, rfl, rfl⟩⟩⟩⟩⟩⟩⟩⟩⟩⟩⟩⟩⟩ := h
  exact rfl
theorem k31_mk (w : World) (x : S31)  : k31.K w x [.int .i8 x.f0, .int .i8 x.f1, .int .i8 x.f2, .int .i8 x.f3, .int .i8 x.f4, .int .i8 x.f5, .int .i8 x.f6, .int .i8 x.f7, .int .i8 x.f8, .int .i8 x.f9, .int .i8 x.f10, .int .i8 x.f11, .int .i8 x.f12, .int .i8 x.f13] := ⟨[.int .i8 x.f0], [.int .i8 x.f1, .int .i8 x.f2, .int .i8 x.f3, .int .i8 x.f4, .int .i8 x.f5, .int .i8 x.f6, .int .i8 x.f7, .int .i8 x.f8, .int .i8 x.f9, .int .i8 x.f10, .int .i8 x.f11, .int .i8 x.f12, .int .i8 x.f13], rfl, rfl, ⟨[.int .i8 x.f1], [.int .i8 x.f2, .int .i8 x.f3, .int .i8 x.f4, .int .i8 x.f5, .int .i8 x.f6, .int .i8 x.f7, .int .i8 x.f8, .int .i8 x.f9, .int .i8 x.f10, .int .i8 x.f11, .int .i8 x.f12, .int .i8 x.f13], rfl, rfl, ⟨[.int .i8 x.f2], [.int .i8 x.f3, .int .i8 x.f4, .int .i8 x.f5, .int .i8 x.f6, .int .i8 x.f7, .int .i8 x.f8, .int .i8 x.f9, .int .i8 x.f10, .int .i8 x.f11, .int .i8 x.f12, .int .i8 x.f13], rfl, rfl, ⟨[.int .i8 x.f3], [.int .i8 x.f4, .int .i8 x.f5, .int .i8 x.f6, .int .i8 x.f7, .int .i8 x.f8, .int .i8 x.f9, .int .i8 x.f10, .int .i8 x.f11, .int .i8 x.f12, .int .i8 x.f13], rfl, rfl, ⟨[.int .i8 x.f4], [.int .i8 x.f5, .int .i8 x.f6, .int .i8 x.f7, .int .i8 x.f8, .int .i8 x.f9, .int .i8 x.f10, .int .i8 x.f11, .int .i8 x.f12, .int .i8 x.f13], rfl, rfl, ⟨[.int .i8 x.f5], [.int .i8 x.f6, .int .i8 x.f7, .int .i8 x.f8, .int .i8 x.f9, .int .i8 x.f10, .int .i8 x.f11, .int .i8 x.f12, .int .i8 x.f13], rfl, rfl, ⟨[.int .i8 x.f6], [.int .i8 x.f7, .int .i8 x.f8, .int .i8 x.f9, .int .i8 x.f10, .int .i8 x.f11, .int .i8 x.f12, .int .i8 x.f13], rfl, rfl, ⟨[.int .i8 x.f7], [.int .i8 x.f8, .int .i8 x.f9, .int .i8 x.f10, .int .i8 x.f11, .int .i8 x.f12, .int .i8 x.f13], rfl, rfl, ⟨[.int .i8 x.f8], [.int .i8 x.f9, .int .i8 x.f10, .int .i8 x.f11, .int .i8 x.f12, .int .i8 x.f13], rfl, rfl, ⟨[.int .i8 x.f9], [.int .i8 x.f10, .int .i8 x.f11, .int .i8 x.f12, .int .i8 x.f13], rfl, rfl, ⟨[.int .i8 x.f10], [.int .i8 x.f11, .int .i8 x.f12, .int .i8 x.f13], rfl, rfl, ⟨[.int .i8 x.f11], [.int .i8 x.f12, .int .i8 x.f13], rfl, rfl, ⟨[.int .i8 x.f12], [.int .i8 x.f13], rfl, rfl, rfl⟩⟩⟩⟩⟩⟩⟩⟩⟩⟩⟩⟩⟩
theorem k31_mkM (w : World) (base : Nat) (ok : Nat → Prop) (x : S31)  : k31.M w base ok x [.int .i8 x.f0, .int .i8 x.f1, .int .i8 x.f2, .int .i8 x.f3, .int .i8 x.f4, .int .i8 x.f5, .int .i8 x.f6, .int .i8 x.f7, .int .i8 x.f8, .int .i8 x.f9, .int .i8 x.f10, .int .i8 x.f11, .int .i8 x.f12, .int .i8 x.f13] := ⟨[.int .i8 x.f0], [.int .i8 x.f1, .int .i8 x.f2, .int .i8 x.f3, .int .i8 x.f4, .int .i8 x.f5, .int .i8 x.f6, .int .i8 x.f7, .int .i8 x.f8, .int .i8 x.f9, .int .i8 x.f10, .int .i8 x.f11, .int .i8 x.f12, .int .i8 x.f13], rfl, rfl, ⟨[.int .i8 x.f1], [.int .i8 x.f2, .int .i8 x.f3, .int .i8 x.f4, .int .i8 x.f5, .int .i8 x.f6, .int .i8 x.f7, .int .i8 x.f8, .int .i8 x.f9, .int .i8 x.f10, .int .i8 x.f11, .int .i8 x.f12, .int .i8 x.f13], rfl, rfl, ⟨[.int .i8 x.f2], [.int .i8 x.f3, .int .i8 x.f4, .int .i8 x.f5, .int .i8 x.f6, .int .i8 x.f7, .int .i8 x.f8, .int .i8 x.f9, .int .i8 x.f10, .int .i8 x.f11, .int .i8 x.f12, .int .i8 x.f13], rfl, rfl, ⟨[.int .i8 x.f3], [.int .i8 x.f4, .int .i8 x.f5, .int .i8 x.f6, .int .i8 x.f7, .int .i8 x.f8, .int .i8 x.f9, .int .i8 x.f10, .int .i8 x.f11, .int .i8 x.f12, .int .i8 x.f13], rfl, rfl, ⟨[.int .i8 x.f4], [.int .i8 x.f5, .int .i8 x.f6, .int .i8 x.f7, .int .i8 x.f8, .int .i8 x.f9, .int .i8 x.f10, .int .i8 x.f11, .int .i8 x.f12, .int .i8 x.f13], rfl, rfl, ⟨[.int .i8 x.f5], [.int .i8 x.f6, .int .i8 x.f7, .int .i8 x.f8, .int .i8 x.f9, .int .i8 x.f10, .int .i8 x.f11, .int .i8 x.f12, .int .i8 x.f13], rfl, rfl, ⟨[.int .i8 x.f6], [.int .i8 x.f7, .int .i8 x.f8, .int .i8 x.f9, .int .i8 x.f10, .int .i8 x.f11, .int .i8 x.f12, .int .i8 x.f13], rfl, rfl, ⟨[.int .i8 x.f7], [.int .i8 x.f8, .int .i8 x.f9, .int .i8 x.f10, .int .i8 x.f11, .int .i8 x.f12, .int .i8 x.f13], rfl, rfl, ⟨[.int .i8 x.f8], [.int .i8 x.f9, .int .i8 x.f10, .int .i8 x.f11, .int .i8 x.f12, .int .i8 x.f13], rfl, rfl, ⟨[.int .i8 x.f9], [.int .i8 x.f10, .int .i8 x.f11, .int .i8 x.f12, .int .i8 x.f13], rfl, rfl, ⟨[.int .i8 x.f10], [.int .i8 x.f11, .int .i8 x.f12, .int .i8 x.f13], rfl, rfl, ⟨[.int .i8 x.f11], [.int .i8 x.f12, .int .i8 x.f13], rfl, rfl, ⟨[.int .i8 x.f12], [.int .i8 x.f13], rfl, rfl, rfl⟩⟩⟩⟩⟩⟩⟩⟩⟩⟩⟩⟩⟩
def rd_T31 (xs : List S31) (i : Int) : S31 := xs.getD i.toNat z31
theorem at_T31 {w : World} {A : Option Addr} {n : Nat} {xs : List S31} (h : Kd.C k31 w A n xs) (i : Int) (h0 : 0 ≤ i) (h1 : i < n) : ∃ ad , A = some ad ∧ w.cell? (ad.add (i.toNat * 14)) = some (.int .i8 (rd_T31 xs i).f0) ∧ w.cell? ⟨(ad.add (i.toNat * 14)).block, (ad.add (i.toNat * 14)).off + 1, none⟩ = some (.int .i8 (rd_T31 xs i).f1) ∧ w.cell? ⟨(ad.add (i.toNat * 14)).block, (ad.add (i.toNat * 14)).off + 2, none⟩ = some (.int .i8 (rd_T31 xs i).f2) ∧ w.cell? ⟨(ad.add (i.toNat * 14)).block, (ad.add (i.toNat * 14)).off + 3, none⟩ = some (.int .i8 (rd_T31 xs i).f3) ∧ w.cell? ⟨(ad.add (i.toNat * 14)).block, (ad.add (i.toNat * 14)).off + 4, none⟩ = some (.int .i8 (rd_T31 xs i).f4) ∧ w.cell? ⟨(ad.add (i.toNat * 14)).block, (ad.add (i.toNat * 14)).off + 5, none⟩ = some (.int .i8 (rd_T31 xs i).f5) ∧ w.cell? ⟨(ad.add (i.toNat * 14)).block, (ad.add (i.toNat * 14)).off + 6, none⟩ = some (.int .i8 (rd_T31 xs i).f6) ∧ w.cell? ⟨(ad.add (i.toNat * 14)).block, (ad.add (i.toNat * 14)).off + 7, none⟩ = some (.int .i8 (rd_T31 xs i).f7) ∧ w.cell? ⟨(ad.add (i.toNat * 14)).block, (ad.add (i.toNat * 14)).off + 8, none⟩ = some (.int .i8 (rd_T31 xs i).f8) ∧ w.cell? ⟨(ad.add (i.toNat * 14)).block, (ad.add (i.toNat * 14)).off + 9, none⟩ = some (.int .i8 (rd_T31 xs i).f9) ∧ w.cell? ⟨(ad.add (i.toNat * 14)).block, (ad.add (i.toNat * 14)).off + 10, none⟩ = some (.int .i8 (rd_T31 xs i).f10) ∧ w.cell? ⟨(ad.add (i.toNat * 14)).block, (ad.add (i.toNat * 14)).off + 11, none⟩ = some (.int .i8 (rd_T31 xs i).f11) ∧ w.cell? ⟨(ad.add (i.toNat * 14)).block, (ad.add (i.toNat * 14)).off + 12, none⟩ = some (.int .i8 (rd_T31 xs i).f12) ∧ w.cell? ⟨(ad.add (i.toNat * 14)).block, (ad.add (i.toNat * 14)).off + 13, none⟩ = some (.int .i8 (rd_T31 xs i).f13) := by
  obtain ⟨ad, c, e, _, hK, hc0⟩ := Kd.C_get h z31 i h0 h1
  have hc : ∀ j u, c[j]? = some u → w.cell? (ad.add (i.toNat * 14 + j)) = some u := hc0
  obtain rfl := k31_open hK
  exact ⟨ad, e, hc 0 _ rfl, by rw [← add_field _ _ 1 (by omega)]; exact hc 1 _ rfl, by rw [← add_field _ _ 2 (by omega)]; exact hc 2 _ rfl, by rw [← add_field _ _ 3 (by omega)]; exact hc 3 _ rfl, by rw [← add_field _ _ 4 (by omega)]; exact hc 4 _ rfl, by rw [← add_field _ _ 5 (by omega)]; exact hc 5 _ rfl, by rw [← add_field _ _ 6 (by omega)]; exact hc 6 _ rfl, by rw [← add_field _ _ 7 (by omega)]; exact hc 7 _ rfl, by rw [← add_field _ _ 8 (by omega)]; exact hc 8 _ rfl, by rw [← add_field _ _ 9 (by omega)]; exact hc 9 _ rfl, by rw [← add_field _ _ 10 (by omega)]; exact hc 10 _ rfl, by rw [← add_field _ _ 11 (by omega)]; exact hc 11 _ rfl, by rw [← add_field _ _ 12 (by omega)]; exact hc 12 _ rfl, by rw [← add_field _ _ 13 (by omega)]; exact hc 13 _ rfl⟩

/-! #### struct type 83 -/
structure S83 where
  f0 : S31
  f1 : S81
  f2 : S40
  f3 : Bool
def z83 : S83 := ⟨z31, z81, z40, false⟩
def k83 : Kd S83 := Kd.iso (Kd.pair k31 (Kd.pair k81 (Kd.pair k40 Kd.bool))) (fun x : S83 => (x.f0, x.f1, x.f2, x.f3))
theorem k83_open {w : World} {x : S83} {cs : List Value} (h : k83.K w x cs) : cs = [.int .i8 x.f0.f0, .int .i8 x.f0.f1, .int .i8 x.f0.f2, .int .i8 x.f0.f3, .int .i8 x.f0.f4, .int .i8 x.f0.f5, .int .i8 x.f0.f6, .int .i8 x.f0.f7, .int .i8 x.f0.f8, .int .i8 x.f0.f9, .int .i8 x.f0.f10, .int .i8 x.f0.f11, .int .i8 x.f0.f12, .int .i8 x.f0.f13, .int .i16 x.f1.f0, .int .i16 x.f1.f1, .int .i16 x.f1.f2, .int .i8 x.f2.f0, .bool x.f2.f1, .bool x.f3] := by
  obtain ⟨_, _, rfl, s0, ⟨_, _, rfl, s14, ⟨_, _, rfl, s17, rfl⟩⟩⟩ := h
  obtain rfl := k31_open s0
  obtain rfl := k81_open s14
  obtain rfl := k40_open s17
  exact rfl
theorem k83_openM {w : World} {base : Nat} {ok : Nat → Prop} {x : S83} {cs : List Value} (h : k83.M w base ok x cs) : cs = [.int .i8 x.f0.f0, .int .i8 x.f0.f1, .int .i8 x.f0.f2, .int .i8 x.f0.f3, .int .i8 x.f0.f4, .int .i8 x.f0.f5, .int .i8 x.f0.f6, .int .i8 x.f0.f7, .int .i8 x.f0.f8, .int .i8 x.f0.f9, .int .i8 x.f0.f10, .int .i8 x.f0.f11, .int .i8 x.f0.f12, .int .i8 x.f0.f13, .int .i16 x.f1.f0, .int .i16 x.f1.f1, .int .i16 x.f1.f2, .int .i8 x.f2.f0, .bool x.f2.f1, .bool x.f3] := by
  obtain ⟨_, _, rfl, s0, ⟨_, _, rfl, s14, ⟨_, _, rfl, s17, rfl⟩⟩⟩ := h
  obtain rfl := k31_openM s0
  obtain rfl := k81_openM s14
  obtain rfl := k40_openM s17
  exact rfl
theorem k83_mk (w : World) (x : S83)  : k83.K w x [.int .i8 x.f0.f0, .int .i8 x.f0.f1, .int .i8 x.f0.f2, .int .i8 x.f0.f3, .int .i8 x.f0.f4, .int .i8 x.f0.f5, .int .i8 x.f0.f6, .int .i8 x.f0.f7, .int .i8 x.f0.f8, .int .i8 x.f0.f9, .int .i8 x.f0.f10, .int .i8 x.f0.f11, .int .i8 x.f0.f12, .int .i8 x.f0.f13, .int .i16 x.f1.f0, .int .i16 x.f1.f1, .int .i16 x.f1.f2, .int .i8 x.f2.f0, .bool x.f2.f1, .bool x.f3] := ⟨[.int .i8 x.f0.f0, .int .i8 x.f0.f1, .int .i8 x.f0.f2, .int .i8 x.f0.f3, .int .i8 x.f0.f4, .int .i8 x.f0.f5, .int .i8 x.f0.f6, .int .i8 x.f0.f7, .int .i8 x.f0.f8, .int .i8 x.f0.f9, .int .i8 x.f0.f10, .int .i8 x.f0.f11, .int .i8 x.f0.f12, .int .i8 x.f0.f13], [.int .i16 x.f1.f0, .int .i16 x.f1.f1, .int .i16 x.f1.f2, .int .i8 x.f2.f0, .bool x.f2.f1, .bool x.f3], rfl, (k31_mk w x.f0 ), ⟨[.int .i16 x.f1.f0, .int .i16 x.f1.f1, .int .i16 x.f1.f2], [.int .i8 x.f2.f0, .bool x.f2.f1, .bool x.f3], rfl, (k81_mk w x.f1 ), ⟨[.int .i8 x.f2.f0, .bool x.f2.f1], [.bool x.f3], rfl, (k40_mk w x.f2 ), rfl⟩⟩⟩
theorem k83_mkM (w : World) (base : Nat) (ok : Nat → Prop) (x : S83)  : k83.M w base ok x [.int .i8 x.f0.f0, .int .i8 x.f0.f1, .int .i8 x.f0.f2, .int .i8 x.f0.f3, .int .i8 x.f0.f4, .int .i8 x.f0.f5, .int .i8 x.f0.f6, .int .i8 x.f0.f7, .int .i8 x.f0.f8, .int .i8 x.f0.f9, .int .i8 x.f0.f10, .int .i8 x.f0.f11, .int .i8 x.f0.f12, .int .i8 x.f0.f13, .int .i16 x.f1.f0, .int .i16 x.f1.f1, .int .i16 x.f1.f2, .int .i8 x.f2.f0, .bool x.f2.f1, .bool x.f3] := ⟨[.int .i8 x.f0.f0, .int .i8 x.f0.f1, .int .i8 x.f0.f2, .int .i8 x.f0.f3, .int .i8 x.f0.f4, .int .i8 x.f0.f5, .int .i8 x.f0.f6, .int .i8 x.f0.f7, .int .i8 x.f0.f8, .int .i8 x.f0.f9, .int .i8 x.f0.f10, .int .i8 x.f0.f11, .int .i8 x.f0.f12, .int .i8 x.f0.f13], [.int .i16 x.f1.f0, .int .i16 x.f1.f1, .int .i16 x.f1.f2, .int .i8 x.f2.f0, .bool x.f2.f1, .bool x.f3], rfl, (k31_mkM w base ok x.f0 ), ⟨[.int .i16 x.f1.f0, .int .i16 x.f1.f1, .int .i16 x.f1.f2], [.int .i8 x.f2.f0, .bool x.f2.f1, .bool x.f3], rfl, (k81_mkM w base ok x.f1 ), ⟨[.int .i8 x.f2.f0, .bool x.f2.f1], [.bool x.f3], rfl, (k40_mkM w base ok x.f2 ), rfl⟩⟩⟩
def rd_T83 (xs : List S83) (i : Int) : S83 := xs.getD i.toNat z83
theorem at_T83 {w : World} {A : Option Addr} {n : Nat} {xs : List S83} (h : Kd.C k83 w A n xs) (i : Int) (h0 : 0 ≤ i) (h1 : i < n) : ∃ ad , A = some ad ∧ w.cell? (ad.add (i.toNat * 20)) = some (.int .i8 (rd_T83 xs i).f0.f0) ∧ w.cell? ⟨(ad.add (i.toNat * 20)).block, (ad.add (i.toNat * 20)).off + 1, none⟩ = some (.int .i8 (rd_T83 xs i).f0.f1) ∧ w.cell? ⟨(ad.add (i.toNat * 20)).block, (ad.add (i.toNat * 20)).off + 2, none⟩ = some (.int .i8 (rd_T83 xs i).f0.f2) ∧ w.cell? ⟨(ad.add (i.toNat * 20)).block, (ad.add (i.toNat * 20)).off + 3, none⟩ = some (.int .i8 (rd_T83 xs i).f0.f3) ∧ w.cell? ⟨(ad.add (i.toNat * 20)).block, (ad.add (i.toNat * 20)).off + 4, none⟩ = some (.int .i8 (rd_T83 xs i).f0.f4) ∧ w.cell? ⟨(ad.add (i.toNat * 20)).block, (ad.add (i.toNat * 20)).off + 5, none⟩ = some (.int .i8 (rd_T83 xs i).f0.f5) ∧ w.cell? ⟨(ad.add (i.toNat * 20)).block, (ad.add (i.toNat * 20)).off + 6, none⟩ = some (.int .i8 (rd_T83 xs i).f0.f6) ∧ w.cell? ⟨(ad.add (i.toNat * 20)).block, (ad.add (i.toNat * 20)).off + 7, none⟩ = some (.int .i8 (rd_T83 xs i).f0.f7) ∧ w.cell? ⟨(ad.add (i.toNat * 20)).block, (ad.add (i.toNat * 20)).off + 8, none⟩ = some (.int .i8 (rd_T83 xs i).f0.f8) ∧ w.cell? ⟨(ad.add (i.toNat * 20)).block, (ad.add (i.toNat * 20)).off + 9, none⟩ = some (.int .i8 (rd_T83 xs i).f0.f9) ∧ w.cell? ⟨(ad.add (i.toNat * 20)).block, (ad.add (i.toNat * 20)).off + 10, none⟩ = some (.int .i8 (rd_T83 xs i).f0.f10) ∧ w.cell? ⟨(ad.add (i.toNat * 20)).block, (ad.add (i.toNat * 20)).off + 11, none⟩ = some (.int .i8 (rd_T83 xs i).f0.f11) ∧ w.cell? ⟨(ad.add (i.toNat * 20)).block, (ad.add (i.toNat * 20)).off + 12, none⟩ = some (.int .i8 (rd_T83 xs i).f0.f12) ∧ w.cell? ⟨(ad.add (i.toNat * 20)).block, (ad.add (i.toNat * 20)).off + 13, none⟩ = some (.int .i8 (rd_T83 xs i).f0.f13) ∧ w.cell? ⟨(ad.add (i.toNat * 20)).block, (ad.add (i.toNat * 20)).off + 14, none⟩ = some (.int .i16 (rd_T83 xs i).f1.f0) ∧ w.cell? ⟨(ad.add (i.toNat * 20)).block, (ad.add (i.toNat * 20)).off + 15, none⟩ = some (.int .i16 (rd_T83 xs i).f1.f1) ∧ w.cell? ⟨(ad.add (i.toNat * 20)).block, (ad.add (i.toNat * 20)).off + 16, none⟩ = some (.int .i16 (rd_T83 xs i).f1.f2) ∧ w.cell? ⟨(ad.add (i.toNat * 20)).block, (ad.add (i.toNat * 20)).off + 17, none⟩ = some (.int .i8 (rd_T83 xs i).f2.f0) ∧ w.cell? ⟨(ad.add (i.toNat * 20)).block, (ad.add (i.toNat * 20)).off + 18, none⟩ = some (.bool (rd_T83 xs i).f2.f1) ∧ w.cell? ⟨(ad.add (i.toNat * 20)).block, (ad.add (i.toNat * 20)).off + 19, none⟩ = some (.bool (rd_T83 xs i).f3) := by
  obtain ⟨ad, c, e, _, hK, hc0⟩ := Kd.C_get h z83 i h0 h1
  have hc : ∀ j u, c[j]? = some u → w.cell? (ad.add (i.toNat * 20 + j)) = some u := hc0
  obtain rfl := k83_open hK
  exact ⟨ad, e, hc 0 _ rfl, by rw [← add_field _ _ 1 (by omega)]; exact hc 1 _ rfl, by rw [← add_field _ _ 2 (by omega)]; exact hc 2 _ rfl, by rw [← add_field _ _ 3 (by omega)]; exact hc 3 _ rfl, by rw [← add_field _ _ 4 (by omega)]; exact hc 4 _ rfl, by rw [← add_field _ _ 5 (by omega)]; exact hc 5 _ rfl, by rw [← add_field _ _ 6 (by omega)]; exact hc 6 _ rfl, by rw [← add_field _ _ 7 (by omega)]; exact hc 7 _ rfl, by rw [← add_field _ _ 8 (by omega)]; exact hc 8 _ rfl, by rw [← add_field _ _ 9 (by omega)]; exact hc 9 _ rfl, by rw [← add_field _ _ 10 (by omega)]; exact hc 10 _ rfl, by rw [← add_field _ _ 11 (by omega)]; exact hc 11 _ rfl, by rw [← add_field _ _ 12 (by omega)]; exact hc 12 _ rfl, by rw [← add_field _ _ 13 (by omega)]; exact hc 13 _ rfl, by rw [← add_field _ _ 14 (by omega)]; exact hc 14 _ rfl, by rw [← add_field _ _ 15 (by omega)]; exact hc 15 _ rfl, by rw [← add_field _ _ 16 (by omega)]; exact hc 16 _ rfl, by rw [← add_field _ _ 17 (by omega)]; exact hc 17 _ rfl, by rw [← add_field _ _ 18 (by omega)]; exact hc 18 _ rfl, by rw [← add_field _ _ 19 (by omega)]; exact hc 19 _ rfl⟩

end Go.Proofs.Ytajbeamkjoeifaa.M
