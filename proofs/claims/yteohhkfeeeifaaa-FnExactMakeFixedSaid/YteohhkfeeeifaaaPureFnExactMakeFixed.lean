/- The program's MakeFixed returns what the reference's returns. Conditions: none. -/
import Derived.Test.YteohhkfeeeifaaaMPureM
-- IMPORTS
import Derived.Test.YteohhkfeeeifaaaMx0
import Derived.Test.YteohhkfeeeifaaaMx7
import Derived.Test.YteohhkfeeeifaaaMx8
import Derived.Test.YteohhkfeeeifaaaMx9
import Derived.Test.YteohhkfeeeifaaaMx10
import Derived.Test.YteohhkfeeeifaaaMx11
import Derived.Test.YteohhkfeeeifaaaMx12
import Derived.Test.YteohhkfeeeifaaaMx13
import Derived.Test.YteohhkfeeeifaaaMx14
import Derived.Test.YteohhkfeeeifaaaMx19
namespace Go.Proofs.Yteohhkfeeeifaaa.Pure
open Go.RowKit Go.Proofs.Yteohhkfeeeifaaa.M Go.Proofs.YteohhkfeeeifaaaW.PrintWords Go.Proofs.YteohhkfeeeifaaaW.PrintLast Go.Proofs.YteohhkfeeeifaaaW.PrintMore
set_option linter.unusedVariables false
set_option linter.unusedSimpArgs false

abbrev Q4 := Int × Int × Int × Int
def wd (l : Int) (n : Int) : Q4 := (spec_l04At.f 20 l n).getD (0, 0, 0, 0)
def nx (l : Int) (w : Q4) : Q4 := (spec_l04NextWord.f 20 l w.1 w.2.1 w.2.2.1 w.2.2.2).getD (0, 0, 0, 0)
def tn (l : Int) (w : Q4) : Bool := (spec_l04Turns.f 20 l w.1 w.2.1 w.2.2.1 w.2.2.2).getD false
def bg (l q : Int) (w : Q4) : Bool := (impl_begins.f 20 l q w.1 w.2.1 w.2.2.1 w.2.2.2).getD false
/-- Is the word with number n passed over? -/
def skip (q n : Int) (t : Bool) : Bool := if q = 2 then (if t = true then n == 0 else true) else n == 0
theorem all1 : ∀ (l : Fin 4) (n : Fin 81),
    spec_l04At.f 20 ((l.val : Int) + 1) (n.val : Int) = some (wd ((l.val : Int) + 1) n.val) ∧ impl_wordAt.f 20 ((l.val : Int) + 1) (n.val : Int) = some (wd ((l.val : Int) + 1) n.val) ∧
    spec_l04Turns.f 20 ((l.val : Int) + 1) (wd ((l.val : Int) + 1) n.val).1 (wd ((l.val : Int) + 1) n.val).2.1 (wd ((l.val : Int) + 1) n.val).2.2.1 (wd ((l.val : Int) + 1) n.val).2.2.2 = some (tn ((l.val : Int) + 1) (wd ((l.val : Int) + 1) n.val)) := by decide +kernel
theorem all2 : ∀ (l : Fin 4) (n : Fin 81) (i : Fin 3),
    ∀ w : Q4, w = (if i.val = 0 then wd ((l.val : Int) + 1) n.val else if i.val = 1 then nx ((l.val : Int) + 1) (wd ((l.val : Int) + 1) n.val) else nx ((l.val : Int) + 1) (nx ((l.val : Int) + 1) (wd ((l.val : Int) + 1) n.val))) →
    spec_l04NextWord.f 20 ((l.val : Int) + 1) w.1 w.2.1 w.2.2.1 w.2.2.2 = some (nx ((l.val : Int) + 1) w) ∧ impl_next.f 20 ((l.val : Int) + 1) w.1 w.2.1 w.2.2.1 w.2.2.2 = some (nx ((l.val : Int) + 1) w) := by
  have h : ∀ (l : Fin 4) (n : Fin 81) (i : Fin 3),
    spec_l04NextWord.f 20 ((l.val : Int) + 1) (if i.val = 0 then wd ((l.val : Int) + 1) n.val else if i.val = 1 then nx ((l.val : Int) + 1) (wd ((l.val : Int) + 1) n.val) else nx ((l.val : Int) + 1) (nx ((l.val : Int) + 1) (wd ((l.val : Int) + 1) n.val))).1
      (if i.val = 0 then wd ((l.val : Int) + 1) n.val else if i.val = 1 then nx ((l.val : Int) + 1) (wd ((l.val : Int) + 1) n.val) else nx ((l.val : Int) + 1) (nx ((l.val : Int) + 1) (wd ((l.val : Int) + 1) n.val))).2.1
      (if i.val = 0 then wd ((l.val : Int) + 1) n.val else if i.val = 1 then nx ((l.val : Int) + 1) (wd ((l.val : Int) + 1) n.val) else nx ((l.val : Int) + 1) (nx ((l.val : Int) + 1) (wd ((l.val : Int) + 1) n.val))).2.2.1
      (if i.val = 0 then wd ((l.val : Int) + 1) n.val else if i.val = 1 then nx ((l.val : Int) + 1) (wd ((l.val : Int) + 1) n.val) else nx ((l.val : Int) + 1) (nx ((l.val : Int) + 1) (wd ((l.val : Int) + 1) n.val))).2.2.2
      = some (nx ((l.val : Int) + 1) (if i.val = 0 then wd ((l.val : Int) + 1) n.val else if i.val = 1 then nx ((l.val : Int) + 1) (wd ((l.val : Int) + 1) n.val) else nx ((l.val : Int) + 1) (nx ((l.val : Int) + 1) (wd ((l.val : Int) + 1) n.val)))) ∧
    impl_next.f 20 ((l.val : Int) + 1) (if i.val = 0 then wd ((l.val : Int) + 1) n.val else if i.val = 1 then nx ((l.val : Int) + 1) (wd ((l.val : Int) + 1) n.val) else nx ((l.val : Int) + 1) (nx ((l.val : Int) + 1) (wd ((l.val : Int) + 1) n.val))).1
      (if i.val = 0 then wd ((l.val : Int) + 1) n.val else if i.val = 1 then nx ((l.val : Int) + 1) (wd ((l.val : Int) + 1) n.val) else nx ((l.val : Int) + 1) (nx ((l.val : Int) + 1) (wd ((l.val : Int) + 1) n.val))).2.1
      (if i.val = 0 then wd ((l.val : Int) + 1) n.val else if i.val = 1 then nx ((l.val : Int) + 1) (wd ((l.val : Int) + 1) n.val) else nx ((l.val : Int) + 1) (nx ((l.val : Int) + 1) (wd ((l.val : Int) + 1) n.val))).2.2.1
      (if i.val = 0 then wd ((l.val : Int) + 1) n.val else if i.val = 1 then nx ((l.val : Int) + 1) (wd ((l.val : Int) + 1) n.val) else nx ((l.val : Int) + 1) (nx ((l.val : Int) + 1) (wd ((l.val : Int) + 1) n.val))).2.2.2
      = some (nx ((l.val : Int) + 1) (if i.val = 0 then wd ((l.val : Int) + 1) n.val else if i.val = 1 then nx ((l.val : Int) + 1) (wd ((l.val : Int) + 1) n.val) else nx ((l.val : Int) + 1) (nx ((l.val : Int) + 1) (wd ((l.val : Int) + 1) n.val)))) := by decide +kernel
  intro l n i w hw
  subst hw
  exact h l n i
theorem all3 : ∀ (l : Fin 4) (q : Fin 3) (n : Fin 81), n.val < 3 ^ (l.val + 1) →
    impl_begins.f 20 ((l.val : Int) + 1) (q.val : Int) (wd ((l.val : Int) + 1) n.val).1 (wd ((l.val : Int) + 1) n.val).2.1 (wd ((l.val : Int) + 1) n.val).2.2.1 (wd ((l.val : Int) + 1) n.val).2.2.2 = some (if n.val < 3 ^ l.val then !(skip q.val n.val (tn ((l.val : Int) + 1) (wd ((l.val : Int) + 1) n.val))) else false) := by decide +kernel
theorem pow_all : ∀ (l : Fin 4), spec_l03Power.f 20 (l.val : Int) = some ((3 ^ l.val : Nat) : Int) ∧ impl_power.f 20 ((l.val : Int) + 1) = some ((3 ^ (l.val + 1) : Nat) : Int) := by decide +kernel

/-- What holds of one number of letters and one kind. -/
structure Facts (l q : Int) (S P : Nat) : Prop where
  le : S ≤ P ∧ P ≤ 81
  power : ∀ k, 20 ≤ k → spec_l03Power.f k (wrap64 (l - 1)) = some (S : Int) ∧ impl_power.f k l = some (P : Int)
  word : ∀ n : Nat, n < P → ∃ (w w1 w2 w3 : Q4) (t : Bool), ∀ k, 20 ≤ k → spec_l04At.f k l (n : Int) = some w ∧ impl_wordAt.f k l (n : Int) = some w ∧ spec_l04Turns.f k l w.1 w.2.1 w.2.2.1 w.2.2.2 = some t ∧
    impl_begins.f k l q w.1 w.2.1 w.2.2.1 w.2.2.2 = some (if n < S then !(skip q n t) else false) ∧
    spec_l04NextWord.f k l w.1 w.2.1 w.2.2.1 w.2.2.2 = some w1 ∧ impl_next.f k l w.1 w.2.1 w.2.2.1 w.2.2.2 = some w1 ∧
    spec_l04NextWord.f k l w1.1 w1.2.1 w1.2.2.1 w1.2.2.2 = some w2 ∧ impl_next.f k l w1.1 w1.2.1 w1.2.2.1 w1.2.2.2 = some w2 ∧
    spec_l04NextWord.f k l w2.1 w2.2.1 w2.2.2.1 w2.2.2.2 = some w3
theorem facts (l : Fin 4) (q : Fin 3) : Facts ((l.val : Int) + 1) (q.val : Int) (3 ^ l.val) (3 ^ (l.val + 1)) := by
  have hp : 3 ^ (l.val + 1) ≤ 81 := by
    have : l.val = 0 ∨ l.val = 1 ∨ l.val = 2 ∨ l.val = 3 := by omega
    rcases this with h | h | h | h <;> rw [h] <;> decide
  refine ⟨⟨by rw [Nat.pow_succ]; omega, hp⟩, fun k hk => ?_, fun n hn => ?_⟩
  · obtain ⟨p1, p2⟩ := pow_all l
    rw [show wrap64 ((l.val : Int) + 1 - 1) = (l.val : Int) by unfold wrap64; omega]
    exact ⟨at_rounds (spec_l03Power.mono _) hk p1, at_rounds (impl_power.mono _) hk p2⟩
  · have hn' : n < 81 := by omega
    obtain ⟨a1, a2, a3⟩ := all1 l ⟨n, hn'⟩
    obtain ⟨b1, b2⟩ := all2 l ⟨n, hn'⟩ 0 _ rfl
    obtain ⟨c1, c2⟩ := all2 l ⟨n, hn'⟩ 1 _ rfl
    obtain ⟨d1, d2⟩ := all2 l ⟨n, hn'⟩ 2 _ rfl
    have e1 := all3 l q ⟨n, hn'⟩ hn
    exact ⟨_, _, _, _, _, fun k hk => ⟨at_rounds (spec_l04At.mono _ _) hk a1, at_rounds (impl_wordAt.mono _ _) hk a2, at_rounds (spec_l04Turns.mono _ _ _ _ _) hk a3, at_rounds (impl_begins.mono _ _ _ _ _ _) hk e1,
      at_rounds (spec_l04NextWord.mono _ _ _ _ _) hk b1, at_rounds (impl_next.mono _ _ _ _ _) hk b2, at_rounds (spec_l04NextWord.mono _ _ _ _ _) hk c1, at_rounds (impl_next.mono _ _ _ _ _) hk c2, at_rounds (spec_l04NextWord.mono _ _ _ _ _) hk d1⟩⟩

def done (c a b : Int) (ws : List S24) : Int × Int × List S24 × Int := if (ws.length : Int) < c then (0, 0, [], 6) else (a, b, ws, 0)
theorem done_len (c a b : Int) (ws : List S24) (h : ws.length ≤ 100) : (done c a b ws).2.2.1.length ≤ 100 := by
  unfold done; split
  · simp
  · exact h
theorem tail {l q : Int} {S P : Nat} (H : Facts l q S P) (c a b : Int) (ws : List S24) : ∀ (d n k : Nat), n + d = P → 2 * d + 22 ≤ k → (c ≤ ws.length ∨ S ≤ n) → impl_MakeFixed.l0 k l q c (P : Int) (n : Int) a b ws = some (done c a b ws) := by
  intro d
  induction d with
  | zero =>
    intro n k h hk hs
    obtain ⟨k, rfl⟩ := fuel (show 1 ≤ k by omega)
    simp only [impl_MakeFixed.l0, impl_Word.f, Option.bind_some]
    rw [if_neg (by omega)]
    unfold done
    by_cases hc : (ws.length : Int) < c
    · rw [if_pos hc, if_pos hc]
    · rw [if_neg hc, if_neg hc]
  | succ d ih =>
    intro n k h hk hs
    obtain ⟨k, rfl⟩ := fuel (show 2 ≤ k by omega)
    have hP := H.le
    obtain ⟨w, w1, w2, w3, t, hw⟩ := H.word n (by omega)
    obtain ⟨h1, h2, h3, h4, _⟩ := hw (k + 1) (by omega)
    have := ih (n + 1) k (by omega) (by omega) (by omega)
    have e1 : impl_MakeFixed.j2 (k + 1) l q c (P : Int) (n : Int) false a b ws w.1 w.2.1 w.2.2.1 w.2.2.2 = some (done c a b ws) := by
      simp only [impl_MakeFixed.j2]
      rw [if_neg (by simp), wi (by omega) (by omega), show (n : Int) + 1 = ((n + 1 : Nat) : Int) by omega]
      exact this
    rw [show k + 2 = (k + 1) + 1 from rfl, impl_MakeFixed.l0, if_pos (by omega), h2]
    simp only [Option.bind_some, impl_Word.f]
    by_cases hc : (ws.length : Int) < c
    · rw [if_pos hc, h4, if_neg (by omega)]
      simp only [Option.bind_some]
      exact e1
    · rw [if_neg hc]
      exact e1
theorem same {l q : Int} {S P : Nat} (H : Facts l q S P) (c a b : Int) (hc : c ≤ 80) : ∀ (d n k : Nat) (ws : List S24), n + d = S → ws.length ≤ 100 → 8 * d + 200 ≤ k →
    ∃ r, spec_MakeFixed.l0 k l q c (n : Int) a b ws = some r ∧ impl_MakeFixed.l0 k l q c (P : Int) (n : Int) a b ws = some r ∧ r.2.2.1.length ≤ 100 := by
  have hP := H.le
  intro d
  induction d with
  | zero =>
    intro n k ws h hl hk
    obtain rfl : n = S := by omega
    refine ⟨_, ?_, tail H c a b ws (P - n) n k (by omega) (by omega) (by omega), done_len c a b ws hl⟩
    obtain ⟨k, rfl⟩ := fuel (show 2 ≤ k by omega)
    rw [show k + 2 = (k + 1) + 1 from rfl, spec_MakeFixed.l0, (H.power (k + 1) (by omega)).1]
    simp only [Option.bind_some]
    rw [if_neg (by omega), spec_MakeFixed.j2, if_neg (by simp)]
    unfold done
    by_cases hq : (ws.length : Int) < c
    · rw [if_pos hq, if_pos hq]
    · rw [if_neg hq, if_neg hq]
  | succ d ih =>
    intro n k ws h hl hk
    have hw1 : wrap64 ((n : Int) + 1) = ((n + 1 : Nat) : Int) := by rw [wi (by omega) (by omega)]; omega
    by_cases hq : (ws.length : Int) < c
    · obtain ⟨w, w1, w2, w3, t, hw⟩ := H.word n (by omega)
      obtain ⟨k, rfl⟩ := fuel (show 8 ≤ k by omega)
      -- the reference: j3 and its rounds
      have e3 : ∀ b3, spec_MakeFixed.j3 (k + 5) l q c (n : Int) b3 a b ws w.1 w.2.1 w.2.2.1 w.2.2.2 = if b3 = true then spec_MakeFixed.l0 (k + 4) l q c ((n + 1 : Nat) : Int) a b ws else
          spec_MakeFixed.l0 k l q c ((n + 1 : Nat) : Int) a b (ws ++ [(⟨w.1, w.2.1, w.2.2.1, w.2.2.2⟩ : S24), ⟨w1.1, w1.2.1, w1.2.2.1, w1.2.2.2⟩, ⟨w2.1, w2.2.1, w2.2.2.1, w2.2.2.2⟩]) := by
        intro b3
        rw [show k + 5 = (k + 4) + 1 from rfl, spec_MakeFixed.j3, hw1]
        cases b3
        · rw [if_neg (by simp), if_neg (by simp)]
          obtain ⟨_, _, _, _, n1, _, _, _, _⟩ := hw (k + 3) (by omega)
          obtain ⟨_, _, _, _, _, _, n2, _, _⟩ := hw (k + 2) (by omega)
          obtain ⟨_, _, _, _, _, _, _, _, n3⟩ := hw (k + 1) (by omega)
          rw [show k + 4 = (k + 3) + 1 from rfl, spec_MakeFixed.l1, if_pos (by decide), if_pos (by omega), n1]
          simp only [Option.bind_some]
          rw [show wrap64 (0 + 1) = 1 by rw [wi (by omega) (by omega)]; rfl, show k + 3 = (k + 2) + 1 from rfl, spec_MakeFixed.l1, if_pos (by decide), if_pos (by simp; omega), n2]
          simp only [Option.bind_some]
          rw [show wrap64 (1 + 1) = 2 by rw [wi (by omega) (by omega)]; rfl, show k + 2 = (k + 1) + 1 from rfl, spec_MakeFixed.l1, if_pos (by decide), if_pos (by simp; omega), n3]
          simp only [Option.bind_some]
          rw [show wrap64 (2 + 1) = 3 by rw [wi (by omega) (by omega)]; rfl, spec_MakeFixed.l1, if_neg (by decide), hw1]
          simp only [List.append_assoc, List.cons_append, List.nil_append]
        · rw [if_pos rfl, if_pos rfl]
      obtain ⟨g1, g2, g3, g4, g5, g6, g7, g8, g9⟩ := hw (k + 6) (by omega)
      obtain ⟨v1, v2, v3, v4, v5, v6, v7, v8, v9⟩ := hw (k + 7) (by omega)
      have es : spec_MakeFixed.l0 (k + 8) l q c (n : Int) a b ws = spec_MakeFixed.j3 (k + 6) l q c (n : Int) (skip q n t) a b ws w.1 w.2.1 w.2.2.1 w.2.2.2 := by
        rw [show k + 8 = (k + 7) + 1 from rfl, spec_MakeFixed.l0, (H.power (k + 7) (by omega)).1]
        simp only [Option.bind_some]
        rw [if_pos (by omega), show k + 7 = (k + 6) + 1 from rfl, spec_MakeFixed.j2, if_pos (by simpa using hq), g1]
        simp only [Option.bind_some]
        unfold skip
        by_cases h2 : q = 2
        · rw [if_pos h2, if_pos h2, g3]
          simp only [Option.bind_some]
          cases t
          · rw [if_neg (by simp), if_neg (by simp)]
          · rw [if_pos rfl, if_pos rfl]
        · rw [if_neg h2, if_neg h2]
      have ei : impl_MakeFixed.l0 (k + 8) l q c (P : Int) (n : Int) a b ws = impl_MakeFixed.j2 (k + 7) l q c (P : Int) (n : Int) (!(skip q n t)) a b ws w.1 w.2.1 w.2.2.1 w.2.2.2 := by
        rw [show k + 8 = (k + 7) + 1 from rfl, impl_MakeFixed.l0, if_pos (by omega), v2]
        simp only [Option.bind_some, impl_Word.f]
        rw [if_pos hq, v4, if_pos (by omega)]
        simp only [Option.bind_some]
      have e4 := e3
      rw [es, ei]
      cases hsk : skip q n t
      · -- a group is added
        obtain ⟨r, r1, r2, r3⟩ := ih (n + 1) k (ws ++ [(⟨w.1, w.2.1, w.2.2.1, w.2.2.2⟩ : S24), ⟨w1.1, w1.2.1, w1.2.2.1, w1.2.2.2⟩, ⟨w2.1, w2.2.1, w2.2.2.1, w2.2.2.2⟩]) (by omega) (by simp; omega) (by omega)
        refine ⟨r, ?_, ?_, r3⟩
        · refine (spec_MakeFixed.mono_l (k + 5)).2.2.2.1 _ _ _ _ _ _ _ _ _ _ _ _ r ?_
          rw [e3, if_neg (by simp)]
          exact r1
        · rw [show k + 7 = (k + 6) + 1 from rfl, impl_MakeFixed.j2, Bool.not_false, if_pos rfl, g6]
          simp only [Option.bind_some]
          rw [g8]
          simp only [Option.bind_some]
          rw [if_pos (by simp; omega), hw1]
          exact at_rounds (g := fun k => impl_MakeFixed.l0 k l q c (P : Int) ((n + 1 : Nat) : Int) a b _) (fun k => (impl_MakeFixed.mono_l k).2.1 _ _ _ _ _ _ _ _) (by omega) r2
      · obtain ⟨r, r1, r2, r3⟩ := ih (n + 1) (k + 5) ws (by omega) hl (by omega)
        refine ⟨r, ?_, ?_, r3⟩
        · rw [show k + 6 = (k + 5) + 1 from rfl, spec_MakeFixed.j3, if_pos rfl, hw1]
          exact r1
        · rw [show k + 7 = (k + 6) + 1 from rfl, impl_MakeFixed.j2, Bool.not_true, if_neg (by simp), hw1]
          exact (impl_MakeFixed.mono_l (k + 5)).2.1 _ _ _ _ _ _ _ _ r r2
    · refine ⟨_, ?_, tail H c a b ws (P - n) n k (by omega) (by omega) (by omega), done_len c a b ws hl⟩
      obtain ⟨k, rfl⟩ := fuel (show 2 ≤ k by omega)
      rw [show k + 2 = (k + 1) + 1 from rfl, spec_MakeFixed.l0, (H.power (k + 1) (by omega)).1]
      simp only [Option.bind_some]
      rw [if_pos (by omega), spec_MakeFixed.j2, if_neg (by simpa using hq)]
      unfold done
      rw [if_neg hq, if_neg hq]

theorem kind_spec (q : Int) : spec_l04Kind.f q = some (decide (0 ≤ q ∧ q ≤ 2)) := by
  unfold spec_l04Kind.f; rw [in_val]; rfl
theorem kind_impl (q : Int) : impl_isKind.f q = some (decide (0 ≤ q ∧ q ≤ 2)) := by
  unfold impl_isKind.f; rw [within_val]; rfl
theorem same_f (l q c : Int) (k : Nat) (hk : 1000 ≤ k) : ∃ r, spec_MakeFixed.f k l q c = some r ∧ impl_MakeFixed.f k l q c = some r ∧ r.2.2.1.length ≤ 100 := by
  obtain ⟨k, rfl⟩ := fuel (show 1 ≤ k by omega)
  have bad : ∃ r, spec_MakeFixed.j0 (k + 1) l q c true = some r ∧ impl_MakeFixed.j0 (k + 1) l q c true = some r ∧ r.2.2.1.length ≤ 100 := by
    refine ⟨(0, 0, [], 2), ?_, ?_, by simp⟩
    · rw [spec_MakeFixed.j0, if_pos rfl]
    · rw [impl_MakeFixed.j0, if_pos rfl]
  unfold spec_MakeFixed.f impl_MakeFixed.f
  rw [letters_spec, letters_impl, kind_spec, kind_impl, in_val, within_val]
  simp only [Option.bind_some]
  by_cases h1 : 1 ≤ l ∧ l ≤ 4
  · rw [decide_eq_true h1, if_pos rfl, if_pos rfl]
    by_cases h2 : 0 ≤ q ∧ q ≤ 2
    · rw [decide_eq_true h2, if_pos rfl, if_pos rfl]
      by_cases h3 : 1 ≤ c ∧ c ≤ 80
      · rw [decide_eq_true h3, spec_MakeFixed.j0, impl_MakeFixed.j0]
        simp only [Bool.not_true, Bool.false_eq_true, if_false]
        by_cases h4 : Int.tmod c 3 = 0
        · rw [if_pos h4, if_pos h4]
          have H := facts ⟨(l - 1).toNat, by omega⟩ ⟨q.toNat, by omega⟩
          simp only [show (((l - 1).toNat : Nat) : Int) + 1 = l by omega, show ((q.toNat : Nat) : Int) = q by omega] at H
          have hs : 3 ^ (l - 1).toNat ≤ 27 := by
            have : (l - 1).toNat = 0 ∨ (l - 1).toNat = 1 ∨ (l - 1).toNat = 2 ∨ (l - 1).toNat = 3 := by omega
            rcases this with h | h | h | h <;> rw [h] <;> decide
          rw [(H.power k (by omega)).2]
          simp only [Option.bind_some]
          obtain ⟨r, r1, r2, r3⟩ := same H c (IntKind.i8.wrap l) (IntKind.i8.wrap q) h3.2 (3 ^ (l - 1).toNat) 0 k [] (by omega) (by simp) (by omega)
          exact ⟨r, r1, r2, r3⟩
        · rw [if_neg h4, if_neg h4]
          exact ⟨_, rfl, rfl, by simp⟩
      · rw [decide_eq_false h3]; exact bad
    · rw [decide_eq_false h2, if_neg (by simp), if_neg (by simp)]; exact bad
  · rw [decide_eq_false h1, if_neg (by simp), if_neg (by simp)]; exact bad
theorem FnExactMakeFixed : laws_FnExactMakeFixed.Pure := by
  intro a0 a1 a2 _ _ _
  refine ⟨3002, ?_⟩
  obtain ⟨⟨p, q, l, e⟩, h1, h2, h3⟩ := same_f a0 a1 a2 3001 (by omega)
  simp only at h3
  unfold laws_FnExactMakeFixed.f
  rw [spec_MakeFixed.mono a0 a1 a2 3001 _ h1, impl_MakeFixed.mono a0 a1 a2 3001 _ h2]
  simp only [Option.bind_some]
  rw [eqFixed_self p q l (by omega) (by omega)]
  simp only [Option.bind_some, if_true, bne_self_eq_false]
  rw [show (3002 : Nat) = 3001 + 1 from rfl, laws_FnExactMakeFixed.j0, if_neg (by simp), markF_val p q l 1 (by omega) (by omega) (by omega) (by omega)]
  simp only [Option.bind_some]
  rw [heldF_val p q l 1 (by omega) (by omega) (by omega) (by omega)]
  simp only [Option.bind_some]
  rw [if_neg (by omega), if_true, h2]
  simp only [Option.bind_some]
  rw [eqFixed_self p q l (by omega) (by omega)]
  simp only [Option.bind_some, if_true, bne_self_eq_false]
  rw [show (3001 : Nat) = 3000 + 1 from rfl, laws_FnExactMakeFixed.j1, if_neg (by simp), heldF_val p q l 1 (by omega) (by omega) (by omega) (by omega)]
  simp only [Option.bind_some]
  rw [if_neg (by omega), if_true]

end Go.Proofs.Yteohhkfeeeifaaa.Pure
