/- Joined texts: RdL. Conditions: each part names its own. -/
import Derived.Test.YtmbjehnddgcboaaGreatDoorZRdT
import Derived.Test.YtmbjehnddgcboaaGreatDoorZRdH
import Derived.Test.YtmbjehnddgcboaaGreatDoorC5
import Derived.Test.YtmbjehnddgcboaaGreatDoorC1
/- The reader of box: what a whole container reads as. Conditions: none. -/
namespace Go.Proofs.YtmbjehnddgcboaaGreatDoor
open Go.RowKit
set_option linter.unusedVariables false
set_option linter.unusedSimpArgs false

abbrev PartsRes := Except Err (List Entry × List Coded × List Int)
def consP (e : Entry) (cs : List Coded) (fs : List Int) (r : PartsRes × Nat × Nat) : PartsRes × Nat × Nat :=
  (match r.1 with | .ok x => .ok (e :: x.1, cs ++ x.2.1, fs ++ x.2.2) | .error er => .error er, r.2)
def partsR (l : List Int) (F parts : Int) : Nat → Nat → Nat → Nat → Nat → PartsRes × Nat × Nat
  | 0, _, _, p, n => (.ok ([], [], []), p, n)
  | c + 1, k, a, p, n =>
    match (partR l p n k a (F - a) (parts - 1 - k)).1 with
    | .error e => (.error e, (partR l p n k a (F - a) (parts - 1 - k)).2)
    | .ok x => consP x.1 x.2.1 x.2.2 (partsR l F parts c (k + 1) (a + x.2.1.length) (partR l p n k a (F - a) (parts - 1 - k)).2.1 (partR l p n k a (F - a) (parts - 1 - k)).2.2)
def preP (es : List Entry) (cs : List Coded) (fs : List Int) (r : PartsRes × Nat × Nat) : PartsRes × Nat × Nat :=
  (match r.1 with | .ok x => .ok (es ++ x.1, cs ++ x.2.1, fs ++ x.2.2) | .error er => .error er, r.2)
theorem preP_nil (r : PartsRes × Nat × Nat) : preP [] [] [] r = r := by
  obtain ⟨a, b⟩ := r
  cases a <;> rfl
theorem preP_cons (es : List Entry) (cs cs' : List Coded) (fs fs' : List Int) (e : Entry) (r : PartsRes × Nat × Nat) : preP es cs fs (consP e cs' fs' r) = preP (es ++ [e]) (cs ++ cs') (fs ++ fs') r := by
  obtain ⟨a, b⟩ := r
  cases a <;> simp [preP, consP]
structure WholeD where
  head : HeadD
  parts : List Entry
  coded : List Coded
  fills : List Int
def closeR (l : List Int) (h : HeadD) (es : List Entry) (cs : List Coded) (fs : List Int) (p n : Nat) : (Except Err WholeD) × Nat × Nat :=
  match (exactR l p n 18 (indexB es)).1 with
  | some e => (.error e, (exactR l p n 18 (indexB es)).2)
  | none =>
    match (exactR l (exactR l p n 18 (indexB es)).2.1 (exactR l p n 18 (indexB es)).2.2 19 (tailB (l.take (exactR l p n 18 (indexB es)).2.1) p)).1 with
    | some e => (.error e, (exactR l (exactR l p n 18 (indexB es)).2.1 (exactR l p n 18 (indexB es)).2.2 19 (tailB (l.take (exactR l p n 18 (indexB es)).2.1) p)).2)
    | none =>
      match endR l (exactR l (exactR l p n 18 (indexB es)).2.1 (exactR l p n 18 (indexB es)).2.2 19 (tailB (l.take (exactR l p n 18 (indexB es)).2.1) p)).2.1 with
      | some e => (.error e, (exactR l (exactR l p n 18 (indexB es)).2.1 (exactR l p n 18 (indexB es)).2.2 19 (tailB (l.take (exactR l p n 18 (indexB es)).2.1) p)).2)
      | none => (.ok ⟨h, es, cs, fs⟩, (exactR l (exactR l p n 18 (indexB es)).2.1 (exactR l p n 18 (indexB es)).2.2 19 (tailB (l.take (exactR l p n 18 (indexB es)).2.1) p)).2)
def bodyR (l : List Int) (h : HeadD) (r : PartsRes × Nat × Nat) : (Except Err WholeD) × Nat × Nat :=
  match r.1 with
  | .error e => (.error e, r.2)
  | .ok x => closeR l h x.1 x.2.1 x.2.2 r.2.1 r.2.2
def allR (l : List Int) : (Except Err WholeD) × Nat × Nat :=
  match (headR l 0 0).1 with
  | .error e => (.error e, (headR l 0 0).2)
  | .ok h => bodyR l h (partsR l h.F h.parts h.parts.toNat 0 0 (headR l 0 0).2.1 (headR l 0 0).2.2)

theorem framesR_len {l : List Int} : ∀ (c i p n : Nat) {x : List Coded × List Int}, (framesR l c i p n).1 = .ok x → x.1.length = c ∧ x.2.length = c
  | 0, i, p, n, x, h => by
    simp only [framesR] at h
    cases h
    simp
  | c + 1, i, p, n, x, h => by
    unfold framesR at h
    cases hpk : peekR l p with
    | error e => rw [hpk] at h; cases h
    | ok u =>
      rw [hpk] at h
      simp only at h
      split at h
      · cases h
      · cases hrb : readB ⟨u.kind, u.data⟩ with
        | some k => rw [hrb] at h; cases h
        | none =>
          rw [hrb] at h
          simp only [consF] at h
          cases hf : (framesR l c (i + 1) (u.end_ + zeros (l.drop u.end_)) (n + 1 + zeros (l.drop u.end_))).1 with
          | error e => rw [hf] at h; cases h
          | ok y =>
            rw [hf] at h
            have ih := framesR_len c _ _ _ hf
            cases h
            simp [ih]
theorem partR_ok {l : List Int} (hl : ∀ x ∈ l, InK .u8 x) {p n : Nat} {num first left behind : Int} (hp : p ≤ l.length) (hn : n ≤ p) :
    p ≤ (partR l p n num first left behind).2.1 ∧ (partR l p n num first left behind).2.1 ≤ l.length ∧ (partR l p n num first left behind).2.2 ≤ (partR l p n num first left behind).2.1 ∧
    ∀ x, (partR l p n num first left behind).1 = .ok x → x.1.first = first ∧ 1 ≤ x.1.count ∧ x.1.count ≤ left - behind ∧ (behind = 0 → x.1.count = left) ∧ x.1.offset = p ∧ (x.2.1.length : Int) = x.1.count ∧ (x.2.2.length : Int) = x.1.count ∧ x.1.length = ((partR l p n num first left behind).2.1 : Int) - p := by
  unfold partR
  cases hnx : nextR l p 17 3 with
  | error e => exact ⟨Nat.le_refl _, hp, hn, fun x h => by cases h⟩
  | ok u =>
    obtain ⟨hpk, _, _⟩ := nextR_peek hnx
    have h1 := peekR_ok hpk hp hl
    simp only
    split
    · exact ⟨Nat.le_refl _, hp, hn, fun x h => by cases h⟩
    · rename_i hb
      have h2 := framesR_pos hl (u.data.getD 2 0).toNat 0 u.end_ (n + 1) (by omega) (by omega)
      refine ⟨by simp only; omega, by simp only; omega, by simp only; omega, fun x h => ?_⟩
      cases hf : (framesR l (u.data.getD 2 0).toNat 0 u.end_ (n + 1)).1 with
      | error e => rw [hf] at h; cases h
      | ok y =>
        rw [hf] at h
        have hlen := framesR_len _ _ _ _ hf
        cases h
        refine ⟨rfl, by simp only; omega, by simp only; omega, fun hb0 => ?_, rfl, by simp only; omega, by simp only; omega, rfl⟩
        exact Decidable.not_not.1 fun h' => hb (.inr (.inr (.inr (.inr ⟨hb0, h'⟩))))
theorem exactR_pos {l : List Int} (hl : ∀ x ∈ l, InK .u8 x) {p n : Nat} {k : Int} {d : List Int} (hp : p ≤ l.length) (hn : n ≤ p) : p ≤ (exactR l p n k d).2.1 ∧ (exactR l p n k d).2.1 ≤ l.length ∧ (exactR l p n k d).2.2 ≤ (exactR l p n k d).2.1 := by
  unfold exactR
  cases hnx : nextR l p k d.length with
  | error e => exact ⟨Nat.le_refl _, hp, hn⟩
  | ok u =>
    obtain ⟨hpk, _, _⟩ := nextR_peek hnx
    have h1 := peekR_ok hpk hp hl
    simp only
    split
    · simp only; omega
    · exact ⟨Nat.le_refl _, hp, hn⟩
theorem headR_pos {l : List Int} (hl : ∀ x ∈ l, InK .u8 x) {p n : Nat} (hp : p ≤ l.length) (hn : n ≤ p) : p ≤ (headR l p n).2.1 ∧ (headR l p n).2.1 ≤ l.length ∧ (headR l p n).2.2 ≤ (headR l p n).2.1 ∧ ∀ h, (headR l p n).1 = .ok h → headOk h := by
  unfold headR
  cases hnx : nextR l p 16 22 with
  | error e => exact ⟨Nat.le_refl _, hp, hn, fun h hh => by cases hh⟩
  | ok u =>
    obtain ⟨hpk, _, _⟩ := nextR_peek hnx
    have h1 := peekR_ok hpk hp hl
    simp only
    split
    · rename_i hok
      refine ⟨by simp only; omega, by simp only; omega, by simp only; omega, fun h hh => ?_⟩
      cases hh
      exact hok
    · exact ⟨Nat.le_refl _, hp, hn, fun h hh => by cases hh⟩
end Go.Proofs.YtmbjehnddgcboaaGreatDoor
