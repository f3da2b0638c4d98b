/- Joined texts: KAllX. Conditions: each part names its own. -/
import Derived.Test.YtmbjehnddgcboaaGreatDoorZK14
import Derived.Test.YtmbjehnddgcboaaGreatDoorZKHead
import Derived.Test.YtmbjehnddgcboaaGreatDoorZKExact
import Derived.Test.YtmbjehnddgcboaaGreatDoorZNum
import Derived.Test.YtmbjehnddgcboaaGreatDoorZKSum
import Derived.Test.YtmbjehnddgcboaaGreatDoorC5
import Derived.Test.YtmbjehnddgcboaaGreatDoorC12
import Derived.Test.YtmbjehnddgcboaaGreatDoorC11
import Derived.Test.YtmbjehnddgcboaaGreatDoorC10
import Derived.Deep.RegionHeld3
/- The document's container, read whole: which way out is taken. Conditions: the reader lies in a block behind its units, at their beginning. -/
namespace Go.Proofs.YtmbjehnddgcboaaGreatDoor
open Go.RowKit
set_option linter.unusedVariables false
set_option linter.unusedSimpArgs false

abbrev zAll : Obj := .cells #[.int .i64 0, .int .i64 0, .int .i64 0, .int .i64 0, .int .i64 0, .int .i64 0, .int .i64 0, .int .i64 0, .int .i64 0, .int .i64 0, .int .i64 0, .slice none 0 0, .slice none 0 0, .slice none 0 0] 38
def allV (h : HeadD) (pv cv fv : Value) : Value := .agg #[.int .i64 h.W, .int .i64 h.H, .int .i64 h.F, .int .i64 h.c.qmin, .int .i64 h.c.qmax, .int .i64 h.c.reach, .int .i64 h.c.cut, .int .i64 h.c.gop, .int .i64 h.c.rate, .int .i64 h.c.room, .int .i64 h.c.fill, pv, cv, fv]
/-- what all hands back -/
def KAllP (K : KS) (R : Nat) (w : World) (r : (Except Err WholeD) × Nat × Nat) (e : Ending) (w' : World) : Prop :=
  Only [R] w w' ∧ KRd K R w' r.2.1 r.2.2 ∧ match r.1 with
    | .ok x => ∃ pv cv fv sa scap, e = .returned (.tuple #[allV x.head pv cv fv, .agg #[.int .i64 0, .slice sa 0 scap]]) ∧ scap ≤ maxLen ∧ OwnE w.heap.size w' pv x.parts ∧ OwnK K.lo K.hi w.heap.size w' cv x.coded ∧ Own .i64 3 w.heap.size w' fv x.fills
    | .error er => ∃ i0 i1 i2 i3 i4 i5 i6 i7 i8 i9 i10 pa pn pcap ca cn ccap fa fn fcap sa scap, e = .returned (.tuple #[.agg #[.int .i64 i0, .int .i64 i1, .int .i64 i2, .int .i64 i3, .int .i64 i4, .int .i64 i5, .int .i64 i6, .int .i64 i7, .int .i64 i8, .int .i64 i9, .int .i64 i10, .slice pa pn pcap, .slice ca cn ccap, .slice fa fn fcap], .agg #[.int .i64 er.code, .slice sa er.path.length scap]]) ∧ Cells 2 K.lo K.hi w' (.slice sa er.path.length scap) er.path.length (flat er.path)
theorem headR_peek {l : List Int} {p n : Nat} : headR l p n = match peekR l p with
    | .error e => (.error e, p, n)
    | .ok u => if headU u.kind u.data then (.ok (headD u.data), u.end_, n + 1) else (.error ⟨[], 2⟩, p, n) := by
  unfold headR nextR
  cases h : peekR l p with
  | error e => rfl
  | ok u =>
    simp only
    by_cases h1 : u.kind ≠ 16 ∨ (u.data.length : Int) ≠ 22
    · rw [if_pos h1, if_neg (fun hh => by rcases h1 with h1 | h1; exact h1 hh.1; have := hh.2.1; omega)]
    · rw [if_neg h1]
      simp only
      by_cases h2 : headOk (headD u.data)
      · rw [if_pos h2, if_pos ⟨by omega, by omega, h2⟩]
      · rw [if_neg h2, if_neg (fun hh => h2 hh.2.2)]


def tagH (l : List Int) : Nat := match peekR l 0 with | .error _ => 1 | .ok _ => 6
/-- closeR with the way out told -/
def closeX (l : List Int) (h : HeadD) (es : List Entry) (cs : List Coded) (fs : List Int) (p n : Nat) : Nat × (Except Err WholeD) × Nat × Nat :=
  match (exactR l p n 18 (indexB es)).1 with
  | some e => (3, (.error e, (exactR l p n 18 (indexB es)).2))
  | none =>
    match (exactR l (exactR l p n 18 (indexB es)).2.1 (exactR l p n 18 (indexB es)).2.2 19 (tailB (l.take (exactR l p n 18 (indexB es)).2.1) p)).1 with
    | some e => (4, (.error e, (exactR l (exactR l p n 18 (indexB es)).2.1 (exactR l p n 18 (indexB es)).2.2 19 (tailB (l.take (exactR l p n 18 (indexB es)).2.1) p)).2))
    | none =>
      match endR l (exactR l (exactR l p n 18 (indexB es)).2.1 (exactR l p n 18 (indexB es)).2.2 19 (tailB (l.take (exactR l p n 18 (indexB es)).2.1) p)).2.1 with
      | some e => (5, (.error e, (exactR l (exactR l p n 18 (indexB es)).2.1 (exactR l p n 18 (indexB es)).2.2 19 (tailB (l.take (exactR l p n 18 (indexB es)).2.1) p)).2))
      | none => (7, (.ok ⟨h, es, cs, fs⟩, (exactR l (exactR l p n 18 (indexB es)).2.1 (exactR l p n 18 (indexB es)).2.2 19 (tailB (l.take (exactR l p n 18 (indexB es)).2.1) p)).2))
def bodyX (l : List Int) (h : HeadD) (r : PartsRes × Nat × Nat) : Nat × (Except Err WholeD) × Nat × Nat :=
  match r.1 with
  | .error e => (2, (.error e, r.2))
  | .ok x => closeX l h x.1 x.2.1 x.2.2 r.2.1 r.2.2
def allX (l : List Int) : Nat × (Except Err WholeD) × Nat × Nat :=
  match (headR l 0 0).1 with
  | .error e => (tagH l, (.error e, (headR l 0 0).2))
  | .ok h => bodyX l h (partsR l h.F h.parts h.parts.toNat 0 0 (headR l 0 0).2.1 (headR l 0 0).2.2)
theorem closeX_eq (l : List Int) (h : HeadD) (es : List Entry) (cs : List Coded) (fs : List Int) (p n : Nat) : (closeX l h es cs fs p n).2 = closeR l h es cs fs p n := by
  unfold closeX closeR
  cases (exactR l p n 18 (indexB es)).1 with
  | some e => rfl
  | none =>
    simp only
    cases (exactR l (exactR l p n 18 (indexB es)).2.1 (exactR l p n 18 (indexB es)).2.2 19 (tailB (l.take (exactR l p n 18 (indexB es)).2.1) p)).1 with
    | some e => rfl
    | none =>
      simp only
      cases endR l (exactR l (exactR l p n 18 (indexB es)).2.1 (exactR l p n 18 (indexB es)).2.2 19 (tailB (l.take (exactR l p n 18 (indexB es)).2.1) p)).2.1 with
      | some e => rfl
      | none => rfl
theorem closeX_tag (l : List Int) (h : HeadD) (es : List Entry) (cs : List Coded) (fs : List Int) (p n : Nat) : (closeX l h es cs fs p n).1 = 3 ∨ (closeX l h es cs fs p n).1 = 4 ∨ (closeX l h es cs fs p n).1 = 5 ∨ (closeX l h es cs fs p n).1 = 7 := by
  unfold closeX
  cases (exactR l p n 18 (indexB es)).1 with
  | some e => simp
  | none =>
    simp only
    cases (exactR l (exactR l p n 18 (indexB es)).2.1 (exactR l p n 18 (indexB es)).2.2 19 (tailB (l.take (exactR l p n 18 (indexB es)).2.1) p)).1 with
    | some e => simp
    | none =>
      simp only
      cases endR l (exactR l (exactR l p n 18 (indexB es)).2.1 (exactR l p n 18 (indexB es)).2.2 19 (tailB (l.take (exactR l p n 18 (indexB es)).2.1) p)).2.1 with
      | some e => simp
      | none => simp
theorem bodyX_tag (l : List Int) (h : HeadD) (r : PartsRes × Nat × Nat) : (bodyX l h r).2 = bodyR l h r ∧ ((bodyX l h r).1 = 2 ∨ (bodyX l h r).1 = 3 ∨ (bodyX l h r).1 = 4 ∨ (bodyX l h r).1 = 5 ∨ (bodyX l h r).1 = 7) := by
  unfold bodyX bodyR
  cases r.1 with
  | error e => simp
  | ok x => exact ⟨closeX_eq _ _ _ _ _ _ _, .inr (closeX_tag _ _ _ _ _ _ _)⟩
theorem allX_tag (l : List Int) : (allX l).2 = allR l ∧ ((allX l).1 = 1 ∨ (allX l).1 = 2 ∨ (allX l).1 = 3 ∨ (allX l).1 = 4 ∨ (allX l).1 = 5 ∨ (allX l).1 = 6 ∨ (allX l).1 = 7) := by
  unfold allX allR
  cases (headR l 0 0).1 with
  | error e =>
    refine ⟨rfl, ?_⟩
    show tagH l = 1 ∨ _
    unfold tagH
    cases peekR l 0 with
    | error e => simp
    | ok u => simp
  | ok h =>
    obtain ⟨a, b⟩ := bodyX_tag l h (partsR l h.F h.parts h.parts.toNat 0 0 (headR l 0 0).2.1 (headR l 0 0).2.2)
    refine ⟨a, ?_⟩
    simp only
    omega
theorem allX_ok {l : List Int} {u : UnitD} (hu : peekR l 0 = .ok u) : 2 ≤ (allX l).1 := by
  unfold allX
  cases (headR l 0 0).1 with
  | error e =>
    show 2 ≤ tagH l
    unfold tagH
    rw [hu]
    simp
  | ok h =>
    have := (bodyX_tag l h (partsR l h.F h.parts h.parts.toNat 0 0 (headR l 0 0).2.1 (headR l 0 0).2.2)).2
    simp only
    omega
end Go.Proofs.YtmbjehnddgcboaaGreatDoor
