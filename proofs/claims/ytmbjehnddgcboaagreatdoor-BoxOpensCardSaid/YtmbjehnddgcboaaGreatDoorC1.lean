/- Joined texts: Base, Sum, Small, VbvA, Put, Make, Header, Rows2, Add, Crc, Zeros. Conditions: each part names its own. -/
import Derived.Test.YtmbjehnddgcboaaGreatDoorProg
import Derived.WalkKit
import Derived.WalkSpells
import Derived.WalkLawsBesides
import Derived.Maps.AppendAt
import Derived.Deep.AppendLies
import Derived.Deep.QuietTactic
import Derived.BigQuiet
import Derived.Lib.Hide
import Derived.Deep.RegionHeld3
import Derived.StillTailTactics
import Derived.Lib.AppendZerosOnto
/- Words for memory that all walks of this seat share: what a slice reads as, what a call may have written, and append. Conditions: none. -/
namespace Go.Proofs.YtmbjehnddgcboaaGreatDoor
open Go.RowKit
set_option linter.unusedVariables false
set_option linter.unusedSimpArgs false

/-! ### what may have been written -/
/-- Of the blocks that were there, only those of the list S may have changed. -/
structure Only (S : List Nat) (w w' : World) : Prop where
  os : w'.os = w.os
  tape : w'.tape = w.tape
  output : w'.output = w.output
  size : w.heap.size ≤ w'.heap.size
  block : ∀ k, k < w.heap.size → k ∉ S → w'.heap[k]? = w.heap[k]?

section
variable {S T U : List Nat} {w w' a b c : World}
theorem Only.refl (S : List Nat) (w : World) : Only S w w := ⟨rfl, rfl, rfl, Nat.le_refl _, fun _ _ _ => rfl⟩
theorem Only.trans (h : Only S a b) (k : Only T b c) (hS : ∀ g ∈ S, g < a.heap.size → g ∈ U) (hT : ∀ g ∈ T, g < a.heap.size → g ∈ U) : Only U a c :=
  ⟨k.os.trans h.os, k.tape.trans h.tape, k.output.trans h.output, Nat.le_trans h.size k.size, fun i hi hn =>
    (k.block i (Nat.lt_of_lt_of_le hi h.size) (fun e => hn (hT i e hi))).trans (h.block i hi (fun e => hn (hS i e hi)))⟩
theorem Only.mono (h : Only S a b) (hS : ∀ g ∈ S, g < a.heap.size → g ∈ U) : Only U a b := h.trans (Only.refl [] b) hS (by simp)
theorem Only.of_below (h : Below w.heap.size w w') : Only S w w' := ⟨h.os, h.tape, h.output, h.size, fun k hk _ => h.block k hk⟩
theorem Only.of_grown {row : Option Nat} (h : w.grownBy w' row) : Only row.toList w w' :=
  ⟨h.os, h.tape, h.output, h.size, fun k hk hn => h.block k hk (fun e => hn (by cases row <;> simp_all))⟩
theorem Only.below {B : Nat} (h : Only S w w') (hB : B ≤ w.heap.size) (hS : ∀ g ∈ S, B ≤ g) : Below B w w' :=
  ⟨h.os, h.tape, h.output, h.size, fun k hk => h.block k (by omega) (fun e => by have := hS k e; omega)⟩
theorem Only.quiet (h : Only [] w w') : Below w.heap.size w w' := h.below (Nat.le_refl _) (by simp)
theorem Only.alloc (h : Only S a w) (o : Obj) : Only S a (w.alloc o) :=
  h.trans (T := []) (Only.of_below ((Below.refl _ _).alloc (Nat.le_refl _) o)) (fun _ h _ => h) (by simp)
theorem Only.drew (h : Only S a w) : Only S a w.drew := ⟨h.os, h.tape, h.output, h.size, h.block⟩
theorem Only.drewN (h : Only S a w) (n : Nat) : Only S a (w.drewN n) := ⟨h.os, h.tape, h.output, h.size, h.block⟩
theorem Only.setCell (h : Only S a w) {p : Addr} (hp : p.block < a.heap.size → p.block ∈ S) (u : Value) : Only S a (w.setCell p u) :=
  ⟨h.os, h.tape, h.output, by simpa [World.setCell] using h.size, fun i hi hne => (Below.heap_setCell w p u i (by
    rintro rfl; exact hne (hp hi))).trans (h.block i hi hne)⟩
theorem Only.below_trans {B : Nat} (h : Below B a b) (hB : B ≤ a.heap.size) (k : Only S b c) (hS : ∀ g ∈ S, B ≤ g) : Below B a c :=
  h.trans (k.below (Nat.le_trans hB h.size) hS)
theorem Only.cell (h : Only S w w') {p : Addr} {v : Value} (hc : w.cell? p = some v) (hn : p.block ∉ S) : w'.cell? p = some v :=
  (World.cell?_of_block (h.block p.block (block_lt_of_cell hc) hn)).trans hc
end

theorem Only.q {a b c : World} (h : Only [] a b) (k : Only [] b c) : Only [] a c := h.trans k (by simp) (by simp)
theorem Only.new (w : World) (o : Obj) : Only [] w (w.alloc o) := (Only.refl _ _).alloc _

/-! ### a slice that reads as a list of cells -/
def Cells (size lo hi : Nat) (w : World) (v : Value) (n : Nat) (xs : List Value) : Prop :=
  xs.length = n * size ∧ ∃ (a : Option Addr) (cap : Nat), v = .slice a n cap ∧ n ≤ cap ∧ cap ≤ maxLen ∧
    (0 < n → ∃ b off, a = some ⟨b, off, none⟩ ∧ lo ≤ b ∧ b < hi ∧ ∀ j u, xs[j]? = some u → w.cell? ⟨b, off + j, none⟩ = some u)

section
variable {size lo hi lo' hi' n : Nat} {w w' : World} {v : Value} {xs : List Value} {S : List Nat}
theorem Cells.only (h : Cells size lo hi w v n xs) (o : Only S w w') (hS : ∀ g ∈ S, g < lo ∨ hi ≤ g) : Cells size lo hi w' v n xs := by
  obtain ⟨h1, a, cap, h2, h3, h4, h5⟩ := h
  refine ⟨h1, a, cap, h2, h3, h4, fun hn => ?_⟩
  obtain ⟨b, off, e, hl, hh, hc⟩ := h5 hn
  exact ⟨b, off, e, hl, hh, fun j u hu => o.cell (hc j u hu) (fun hm => by have := hS _ hm; simp at this; omega)⟩
theorem Cells.mono (h : Cells size lo hi w v n xs) (hl : lo' ≤ lo) (hh : hi ≤ hi') : Cells size lo' hi' w v n xs := by
  obtain ⟨h1, a, cap, h2, h3, h4, h5⟩ := h
  refine ⟨h1, a, cap, h2, h3, h4, fun hn => ?_⟩
  obtain ⟨b, off, e, hl', hh', hc⟩ := h5 hn
  exact ⟨b, off, e, by omega, by omega, hc⟩
theorem Cells.below (h : Cells size lo hi w v n xs) {B : Nat} (hb : Below B w w') (hB : hi ≤ B) : Cells size lo hi w' v n xs := by
  obtain ⟨h1, a, cap, h2, h3, h4, h5⟩ := h
  refine ⟨h1, a, cap, h2, h3, h4, fun hn => ?_⟩
  obtain ⟨b, off, e, hl, hh, hc⟩ := h5 hn
  exact ⟨b, off, e, hl, hh, fun j u hu => (hb.cell (p := ⟨b, off + j, none⟩) (by simp; omega)).trans (hc j u hu)⟩
theorem Cells.nil (size lo hi : Nat) (w : World) : Cells size lo hi w (.slice none 0 0) 0 [] :=
  ⟨by simp, none, 0, rfl, Nat.le_refl _, by simp, fun h => absurd h (by omega)⟩
theorem Cells.of_own {base : Nat} {e : TypeId} (h : w.ownsRow base e size v n xs) : Cells size base w.heap.size w v n xs := by
  obtain ⟨h1, h2⟩ := h
  refine ⟨h1, ?_⟩
  rcases h2 with ⟨rfl, rfl⟩ | ⟨g, cap, cur, rfl, hb, hg, hn, hm, hcs, ht⟩
  · exact ⟨none, 0, rfl, Nat.le_refl _, by simp, fun h => absurd h (by omega)⟩
  · refine ⟨some ⟨g, 0, none⟩, cap, rfl, hn, hm, fun _ => ⟨g, 0, rfl, hb, (Array.getElem?_eq_some_iff.1 hg).1, fun j u hu => ?_⟩⟩
    rw [cell_of_row w g (0 + j) cur e (0, 0) hg]
    rw [← ht, List.getElem?_take] at hu
    split at hu
    · simpa using hu
    · cases hu
theorem Cells.len_le (h : Cells size lo hi w v n xs) : n ≤ maxLen := by
  obtain ⟨_, a, cap, _, h3, h4, _⟩ := h; omega
end

/-! ### integers -/
/-- Does a number fit its kind? -/
def InK : IntKind → Int → Prop
  | .u8, x => 0 ≤ x ∧ x ≤ 255
  | .i64, x => -9223372036854775808 ≤ x ∧ x ≤ 9223372036854775807
  | .u32, x => 0 ≤ x ∧ x ≤ 4294967295
  | .u64, x => 0 ≤ x ∧ x ≤ 18446744073709551615
  | _, _ => True
/-- A slice that reads as a list of integers. -/
def Ints (k : IntKind) (lo hi : Nat) (w : World) (v : Value) (l : List Int) : Prop :=
  Cells 1 lo hi w v l.length (l.map (Value.int k)) ∧ ∀ x ∈ l, InK k x
/-- A slice of the call's own that reads as a list of integers. -/
def Own (k : IntKind) (e : TypeId) (base : Nat) (w : World) (v : Value) (l : List Int) : Prop :=
  w.ownsRow base e 1 v l.length (l.map (Value.int k)) ∧ ∀ x ∈ l, InK k x

section
variable {k : IntKind} {e : TypeId} {lo hi lo' hi' base : Nat} {w w' : World} {v : Value} {l : List Int} {S : List Nat}
theorem Ints.only (h : Ints k lo hi w v l) (o : Only S w w') (hS : ∀ g ∈ S, g < lo ∨ hi ≤ g) : Ints k lo hi w' v l := ⟨h.1.only o hS, h.2⟩
theorem Ints.quiet (h : Ints k lo hi w v l) (o : Only [] w w') : Ints k lo hi w' v l := ⟨h.1.only o (by simp), h.2⟩
theorem Ints.mono (h : Ints k lo hi w v l) (hl : lo' ≤ lo) (hh : hi ≤ hi') : Ints k lo' hi' w v l := ⟨h.1.mono hl hh, h.2⟩
theorem Ints.below (h : Ints k lo hi w v l) {B : Nat} (hb : Below B w w') (hB : hi ≤ B) : Ints k lo hi w' v l := ⟨h.1.below hb hB, h.2⟩
theorem Ints.nil (k : IntKind) (lo hi : Nat) (w : World) : Ints k lo hi w (.slice none 0 0) [] := ⟨Cells.nil _ _ _ _, by simp⟩
theorem Ints.open (h : Ints k lo hi w v l) : ∃ (a : Option Addr) (cap : Nat), v = .slice a l.length cap ∧ l.length ≤ cap ∧ cap ≤ maxLen ∧
    (∀ i, i < l.length → ∃ b off, a = some ⟨b, off, none⟩ ∧ lo ≤ b ∧ b < hi) ∧
    ∀ b off, a = some ⟨b, off, none⟩ → ∀ i, i < l.length → w.cell? ⟨b, off + i, none⟩ = some (.int k (l.getD i 0)) := by
  obtain ⟨⟨_, a, cap, h2, h3, h4, h5⟩, _⟩ := h
  refine ⟨a, cap, h2, h3, h4, fun i hi => ?_, fun b off e i hi => ?_⟩
  · obtain ⟨b, off, e, x, y, _⟩ := h5 (by omega)
    exact ⟨b, off, e, x, y⟩
  · obtain ⟨b', off', e', x, y, hc⟩ := h5 (by omega)
    rw [e] at e'
    injection e' with e'
    injection e' with e1 e2
    subst e1; subst e2
    refine hc i _ ?_
    simp [List.getElem?_eq_getElem hi]
theorem Ints.at (h : Ints k lo hi w v l) {i : Nat} (hi' : i < l.length) : ∃ b off cap, v = .slice (some ⟨b, off, none⟩) l.length cap ∧ lo ≤ b ∧ b < hi ∧
    w.cell? ⟨b, off + i, none⟩ = some (.int k (l.getD i 0)) := by
  obtain ⟨a, cap, rfl, _, _, h1, h2⟩ := h.open
  obtain ⟨b, off, rfl, x, y⟩ := h1 i hi'
  exact ⟨b, off, cap, rfl, x, y, h2 b off rfl i hi'⟩
theorem Ints.range (h : Ints k lo hi w v l) {i : Nat} (hi' : i < l.length) : InK k (l.getD i 0) := by
  refine h.2 _ ?_
  simp [hi']
theorem Own.ints (h : Own k e base w v l) : Ints k base w.heap.size w v l := ⟨Cells.of_own h.1, h.2⟩
theorem Own.nil (k : IntKind) (e : TypeId) (base : Nat) (w : World) : Own k e base w (.slice none 0 0) [] := ⟨World.ownsRow_nil w base e 1, by simp⟩
end

section
variable {size base n : Nat} {e : TypeId} {w w' : World} {v : Value} {xs : List Value} {S : List Nat} {k : IntKind} {l : List Int}
theorem owns_only (h : w.ownsRow base e size v n xs) (o : Only S w w') (hS : ∀ g ∈ S, v.ownBlock ≠ some g) : w'.ownsRow base e size v n xs := by
  refine ⟨h.1, ?_⟩
  rcases h.2 with hn | ⟨g, cap, cur, rfl, hb, hgg, rest⟩
  · exact .inl hn
  · refine .inr ⟨g, cap, cur, rfl, hb, ?_, rest⟩
    rw [o.block g (Array.getElem?_eq_some_iff.1 hgg).1 (fun hm => hS g hm rfl)]
    exact hgg
theorem owns_base {base' : Nat} (h : w.ownsRow base e size v n xs) (hb : base' ≤ base) : w.ownsRow base' e size v n xs := by
  refine ⟨h.1, ?_⟩
  rcases h.2 with hn | ⟨g, cap, cur, rfl, hb', rest⟩
  · exact .inl hn
  · exact .inr ⟨g, cap, cur, rfl, by omega, rest⟩
theorem Own.only (h : Own k e base w v l) (o : Only S w w') (hS : ∀ g ∈ S, v.ownBlock ≠ some g) : Own k e base w' v l := ⟨owns_only h.1 o hS, h.2⟩
theorem Own.quiet (h : Own k e base w v l) (o : Only [] w w') : Own k e base w' v l := h.only o (by simp)
theorem Own.lower {base' : Nat} (h : Own k e base w v l) (hb : base' ≤ base) : Own k e base' w v l := ⟨owns_base h.1 hb, h.2⟩
/-- where an own row lies -/
theorem Own.at (h : Own k e base w v l) : ∀ g, v.ownBlock = some g → base ≤ g ∧ g < w.heap.size := h.1.lt
end

/-! ### a row that grows -/
/-- From w to w' the row of bv has grown into the row of v'; nothing else that was there has changed. -/
structure Acc (bv : Value) (w : World) (v' : Value) (w' : World) : Prop where
  only : Only bv.ownBlock.toList w w'
  at_ : v'.ownBlock = bv.ownBlock ∨ ∀ g, v'.ownBlock = some g → w.heap.size ≤ g
section
variable {a b c : Value} {w w' w'' : World} {S : List Nat}
theorem Acc.refl (a : Value) (w : World) : Acc a w a w := ⟨Only.refl _ _, .inl rfl⟩
theorem Acc.trans (h : Acc a w b w') (k : Acc b w' c w'') : Acc a w c w'' := by
  have hsz := h.only.size
  refine ⟨h.only.trans k.only (fun g hg _ => hg) (fun g hg hlt => ?_), ?_⟩
  · rcases h.at_ with e | e
    · rw [← e]; exact hg
    · have : b.ownBlock = some g := by simpa using hg
      have := e g this
      omega
  · rcases k.at_ with e | e
    · rcases h.at_ with e' | e'
      · exact .inl (e.trans e')
      · refine .inr (fun g hg => e' g ?_)
        rw [← e]; exact hg
    · exact .inr (fun g hg => by have := e g hg; omega)
theorem Acc.quiet (h : Only [] w w') : Acc a w a w' := ⟨h.mono (by simp), .inl rfl⟩
theorem Acc.then (h : Acc a w b w') (k : Only [] w' w'') : Acc a w b w'' := h.trans (Acc.quiet k)
/-- Seen from an elder world: a row that did not lie there. -/
theorem Acc.from_nil (h : Acc a w b w') (ha : a.ownBlock = none) : Only [] w w' := h.only.mono (by rw [ha]; simp)
theorem Acc.below {B : Nat} (h : Acc a w b w') (ha : ∀ g, a.ownBlock = some g → B ≤ g) (hB : B ≤ w.heap.size) : Below B w w' :=
  h.only.below hB (by intro g hg; exact ha g (by simpa using hg))
theorem Acc.base {B : Nat} (h : Acc a w b w') (ha : ∀ g, a.ownBlock = some g → B ≤ g) (hB : B ≤ w.heap.size) : ∀ g, b.ownBlock = some g → B ≤ g := by
  intro g hg
  rcases h.at_ with e | e
  · exact ha g (e ▸ hg)
  · have := e g hg; omega
end

/-- every row of v lies from B on -/
def From (B : Nat) (v : Value) : Prop := ∀ g, v.ownBlock = some g → B ≤ g
theorem From.lit {B g n c : Nat} (h : B ≤ g) : From B (.slice (some ⟨g, 0, none⟩) n c) := by intro x hx; simp [Value.ownBlock] at hx; omega
theorem From.nil (B : Nat) : From B (.slice none 0 0) := by intro x hx; simp [Value.ownBlock] at hx
theorem Acc.from_ {a b : Value} {w w' : World} {B : Nat} (h : Acc a w b w') (ha : From B a) (hB : B ≤ w.heap.size) : From B b := h.base ha hB
theorem Acc.cell {a b : Value} {w w' : World} {B : Nat} (h : Acc a w b w') (ha : From B a) {p : Addr} {v : Value} (hc : w.cell? p = some v) (hp : p.block < B) : w'.cell? p = some v :=
  h.only.cell hc (fun hm => by have := ha p.block (by simpa using hm); omega)
theorem Only.acc {a b : Value} {w0 w w' : World} (h : Only [] w0 w) (k : Acc a w b w') (ha : From w0.heap.size a) : Only [] w0 w' :=
  h.trans k.only (by simp) (fun g hg hlt => by have := ha g (by simpa using hg); omega)

/-! ### append onto an own row -/
/-- What the walk must know of a slice type t, its elements' type e. -/
structure Elem (P : Program) (t e : TypeId) (z : Value) (size bytes : Nat) : Prop where
  ut : P.underlying t = some (.slice e)
  inf : ∃ i, P.info? e = some i ∧ i.zero = some z ∧ i.size = size ∧ i.bytes = bytes
  zs : z.cells.size = size
  pos : 0 < size
  bp : 0 < bytes
theorem Elem.mk' {P : Program} {t e : TypeId} {z : Value} {size bytes : Nat} (ut : P.underlying t = some (.slice e))
    (h : (P.info? e).map (fun i => (i.zero, i.size, i.bytes)) = some (some z, size, bytes)) (zs : z.cells.size = size) (pos : 0 < size) (bp : 0 < bytes) : Elem P t e z size bytes := by
  obtain ⟨i, h1, h2, h3, h4⟩ := info_parts h
  exact ⟨ut, ⟨i, h1, h2, h3, h4⟩, zs, pos, bp⟩

section
variable {P : Program}
theorem run_append_cells {w : World} {t ty e : TypeId} {z : Value} {size bytes base lo hi n m : Nat} {v sv : Value} {xs news : List Value} (E : Elem P t e z size bytes)
    (hown : w.ownsRow base e size v n xs) (hs : Cells size lo hi w sv m news) (h1 : ∀ u ∈ news, u.oneCell' = true)
    (h63 : n + m ≤ maxLen) (hbytes : (n + m) * bytes ≤ 140737488355328) (hbase : base ≤ w.heap.size) :
    ∃ v' w', (Builtin.append_ #[t, t] ty #[v, sv]).run P w = .ok v' w' ∧ w'.ownsRow base e size v' (n + m) (xs ++ news) ∧ Only v.ownBlock.toList w w' ∧
      (v'.ownBlock = v.ownBlock ∨ v'.ownBlock = some w.heap.size) := by
  obtain ⟨i, hi, hz, hsize, hby⟩ := E.inf
  obtain ⟨hl, A, cap, rfl, _, _, hc⟩ := hs
  have hnil : ∀ c, m = 0 → ∃ v' w', (Builtin.append_ #[t, t] ty #[v, .slice none m c]).run P w = .ok v' w' ∧ w'.ownsRow base e size v' (n + m) (xs ++ news) ∧ Only v.ownBlock.toList w w' ∧
      (v'.ownBlock = v.ownBlock ∨ v'.ownBlock = some w.heap.size) := by
    rintro c rfl
    have hn : news = [] := List.eq_nil_of_length_eq_zero (by simpa using hl)
    subst hn
    refine ⟨v, w, ?_, by simpa using hown, Only.refl _ _, .inl rfl⟩
    rcases hown.2 with ⟨rfl, rfl⟩ | ⟨g, cap, cur, rfl, _, _, hnc, _⟩
    · simp [Builtin.append_, run_underlying E.ut, sizeOf, typeInfo, hi, Builtin.lenOf, Builtin.firstCells]
    · simp [Builtin.append_, run_underlying E.ut, sizeOf, typeInfo, hi, Builtin.lenOf, Builtin.firstCells, hnc, storeCells]
  rcases A with _ | ad
  · have hm : m = 0 := by
      rcases Nat.eq_zero_or_pos m with h0 | h0
      · exact h0
      · obtain ⟨b, off, h, _⟩ := hc h0
        cases h
    exact hnil cap hm
  · have hcells : ∀ j u, news[j]? = some u → w.cell? (ad.add j) = some u := by
      intro j u hu
      rcases Nat.eq_zero_or_pos m with h0 | h0
      · subst h0
        have hn : news = [] := List.eq_nil_of_length_eq_zero (by simpa using hl)
        subst hn
        simp at hu
      · obtain ⟨b, off, h, _, _, hc'⟩ := hc h0
        injection h with h
        subst h
        have := hc' j u hu
        unfold Addr.add
        split
        · rename_i hj; subst hj; simpa using this
        · simpa using this
    obtain ⟨v', w', hrun, h2, h3, _, h5⟩ := run_append_own_at (P := P) w base t ty e i z size bytes E.ut hi hz hsize hby E.zs E.pos v n xs hown ad m cap news hl hcells h1 h63 hbytes hbase
    exact ⟨v', w', hrun, h2, Only.of_grown h3, h5⟩
theorem wp_append_cells {w : World} {o : Oper} {a : Act} {K : Act → World → Prop} {Q : Exit → Act → World → Prop} (s x : Operand) (t : TypeId)
    (ho : o.op = .call { callee := .builtin .append, args := #[s, x], argTypes := #[t, t] })
    {e : TypeId} {z : Value} {size bytes base lo hi n m : Nat} {v sv : Value} {xs news : List Value} (E : Elem P t e z size bytes)
    (hown : w.ownsRow base e size v n xs) (hv : a.eval s = v) (hs : Cells size lo hi w sv m news) (hx : a.eval x = sv) (h1 : ∀ u ∈ news, u.oneCell' = true)
    (h63 : n + m ≤ maxLen) (hbytes : (n + m) * bytes ≤ 140737488355328) (hbase : base ≤ w.heap.size)
    (h : ∀ v' w', w'.ownsRow base e size v' (n + m) (xs ++ news) → Only v.ownBlock.toList w w' → (v'.ownBlock = v.ownBlock ∨ v'.ownBlock = some w.heap.size) → K (a.put o.dst v') w') : o.wp P a w K Q := by
  obtain ⟨v', w', hrun, h2, h3, h4⟩ := run_append_cells (P := P) (ty := o.type) E hown hs h1 h63 hbytes hbase
  unfold Oper.wp execOp
  simp only [ho, resolve, invoke, builtin, Sem.run_bind, Sem.run_pure, Result.andThen_ok, List.map_toArray, List.map_cons, List.map_nil, hv, hx, hrun]
  exact h v' w' h2 h3 h4
theorem wpList_append_cells {w : World} {ops : Array Oper} {rest : List Oper} {o : Oper} {a : Act} {Q : Exit → Act → World → Prop} (hgd : o.guard = none) (s x : Operand) (t : TypeId)
    (ho : o.op = .call { callee := .builtin .append, args := #[s, x], argTypes := #[t, t] })
    {e : TypeId} {z : Value} {size bytes base lo hi n m : Nat} {v sv : Value} {xs news : List Value} (E : Elem P t e z size bytes)
    (hown : w.ownsRow base e size v n xs) (hv : a.eval s = v) (hs : Cells size lo hi w sv m news) (hx : a.eval x = sv) (h1 : ∀ u ∈ news, u.oneCell' = true)
    (h63 : n + m ≤ maxLen) (hbytes : (n + m) * bytes ≤ 140737488355328) (hbase : base ≤ w.heap.size)
    (h : ∀ v' w', w'.ownsRow base e size v' (n + m) (xs ++ news) → Only v.ownBlock.toList w w' → (v'.ownBlock = v.ownBlock ∨ v'.ownBlock = some w.heap.size) → wpList P ops Q rest (a.put o.dst v') w') : wpList P ops Q (o :: rest) a w :=
  wpList_plain hgd fun _ hK => wp_append_cells s x t ho E hown hv hs hx h1 h63 hbytes hbase fun v' w' h2 h3 h4 => hK _ _ (h v' w' h2 h3 h4)
/-- the same inside a region that draws its order -/
theorem step_append_cells {w : World} {ops : Array Oper} {o : Oper} {a : Act} {K : Act → World → Prop} {Q : Exit → Act → World → Prop} {E' : Prop} (hgd : o.guard = none) (s x : Operand) (t : TypeId)
    (ho : o.op = .call { callee := .builtin .append, args := #[s, x], argTypes := #[t, t] })
    {e : TypeId} {z : Value} {size bytes base lo hi n m : Nat} {v sv : Value} {xs news : List Value} (E : Elem P t e z size bytes)
    (hown : w.ownsRow base e size v n xs) (hv : a.eval s = v) (hs : Cells size lo hi w sv m news) (hx : a.eval x = sv) (h1 : ∀ u ∈ news, u.oneCell' = true)
    (h63 : n + m ≤ maxLen) (hbytes : (n + m) * bytes ≤ 140737488355328) (hbase : base ≤ w.heap.size)
    (h : ∀ v' w', w'.ownsRow base e size v' (n + m) (xs ++ news) → Acc v w v' w' → K (a.put o.dst v') w') : if Region.wanted o (yielded ops a.tmps) = true then Oper.wp P o a w K Q else E' := by
  rw [if_pos (by simp [Region.wanted, hgd])]
  exact wp_append_cells s x t ho E hown hv hs hx h1 h63 hbytes hbase fun v' w' h2 h3 h4 => h v' w' h2 ⟨h3, h4.imp id fun e g hg => by rw [e] at hg; injection hg with hg; omega⟩
/-- append onto an own row of integers. -/
theorem wpList_append_ints {w : World} {ops : Array Oper} {rest : List Oper} {o : Oper} {a : Act} {Q : Exit → Act → World → Prop} (hgd : o.guard = none) (s x : Operand) (t : TypeId)
    (ho : o.op = .call { callee := .builtin .append, args := #[s, x], argTypes := #[t, t] })
    {k : IntKind} {e : TypeId} {z : Value} {bytes base lo hi : Nat} {v sv : Value} {l m : List Int} (E : Elem P t e z 1 bytes)
    (hown : Own k e base w v l) (hv : a.eval s = v) (hs : Ints k lo hi w sv m) (hx : a.eval x = sv)
    (hbytes : (l.length + m.length) * bytes ≤ 140737488355328) (hbase : base ≤ w.heap.size)
    (h : ∀ v' w', Own k e base w' v' (l ++ m) → Acc v w v' w' → wpList P ops Q rest (a.put o.dst v') w') : wpList P ops Q (o :: rest) a w := by
  have hle : l.length + m.length ≤ 140737488355328 := Nat.le_trans (Nat.le_mul_of_pos_right _ E.bp) hbytes
  refine wpList_append_cells hgd s x t ho E hown.1 hv hs.1 hx (by simp only [List.mem_map]; rintro u ⟨x, _, rfl⟩; rfl) (by simp only [maxLen]; omega) hbytes hbase fun v' w' h2 h3 h4 => h v' w' ⟨?_, ?_⟩ ⟨h3, h4.imp id fun e g hg => by rw [e] at hg; injection hg with hg; omega⟩
  · simpa using h2
  · intro y hy
    rcases List.mem_append.1 hy with hy | hy
    · exact hown.2 y hy
    · exact hs.2 y hy
end
/-- The cells of a block that was just made, as integers. -/
theorem ints_new {k : IntKind} {w : World} {t : TypeId} {l : List Int} {vs : Array Value} (hl : vs = (l.map (Value.int k)).toArray) (hm : l.length ≤ maxLen) (hk : ∀ x ∈ l, InK k x) (n : Nat) (hn : n = l.length) :
    Ints k w.heap.size (w.heap.size + 1) (w.alloc (.cells vs t)) (.slice (some ⟨w.heap.size, 0, none⟩) n n) l := by
  subst hn; subst hl
  refine ⟨⟨by simp, some ⟨w.heap.size, 0, none⟩, _, rfl, Nat.le_refl _, hm, fun _ => ⟨w.heap.size, 0, rfl, Nat.le_refl _, Nat.lt_succ_self _, fun j u hu => ?_⟩⟩, hk⟩
  rw [cell_of_row _ _ _ _ _ _ (heap_alloc_new w _)]
  simpa using hu
theorem own_new {k : IntKind} {w : World} {t : TypeId} {l : List Int} {vs : Array Value} (hl : vs = (l.map (Value.int k)).toArray) (hm : l.length ≤ maxLen) (hk : ∀ x ∈ l, InK k x) (n : Nat) (hn : n = l.length) :
    Own k t w.heap.size (w.alloc (.cells vs t)) (.slice (some ⟨w.heap.size, 0, none⟩) n n) l := by
  subst hn; subst hl
  refine ⟨⟨by simp, .inr ⟨w.heap.size, _, _, rfl, Nat.le_refl _, heap_alloc_new w _, Nat.le_refl _, hm, by simp, by simp [List.take_of_length_le]⟩⟩, hk⟩
/-- The cells of a block that was just made, as cells of a slice. -/
theorem cells_newG {size : Nat} {w : World} {t : TypeId} {vs : Array Value} {g n : Nat} {xs : List Value} (hl : vs.toList = xs) (hn : xs.length = n * size) (hm : n ≤ maxLen) (hg : w.heap.size = g) :
    Cells size g (g + 1) (w.alloc (.cells vs t)) (.slice (some ⟨g, 0, none⟩) n n) n xs := by
  subst hg; subst hl
  refine ⟨hn, some ⟨w.heap.size, 0, none⟩, n, rfl, Nat.le_refl _, hm, fun _ => ⟨w.heap.size, 0, rfl, Nat.le_refl _, Nat.lt_succ_self _, fun j u hu => ?_⟩⟩
  rw [cell_of_row _ _ _ _ _ _ (heap_alloc_new w _)]
  simpa using hu
theorem heap_alloc_new' {w : World} {o : Obj} {g : Nat} (hg : w.heap.size = g) : (w.alloc o).heap[g]? = some o := by subst hg; exact heap_alloc_new w o
/-- own_new and ints_new, the block's number as the walk writes it. -/
theorem own_newG {k : IntKind} {w : World} {t : TypeId} {l : List Int} {vs : Array Value} {g : Nat} (hl : vs = (l.map (Value.int k)).toArray) (hm : l.length ≤ maxLen) (hk : ∀ x ∈ l, InK k x) (n : Nat) (hn : n = l.length) (hg : w.heap.size = g) :
    Own k t g (w.alloc (.cells vs t)) (.slice (some ⟨g, 0, none⟩) n n) l := by
  subst hg; exact own_new hl hm hk n hn
theorem ints_newG {k : IntKind} {w : World} {t : TypeId} {l : List Int} {vs : Array Value} {g : Nat} (hl : vs = (l.map (Value.int k)).toArray) (hm : l.length ≤ maxLen) (hk : ∀ x ∈ l, InK k x) (n : Nat) (hn : n = l.length) (hg : w.heap.size = g) :
    Ints k g (g + 1) (w.alloc (.cells vs t)) (.slice (some ⟨g, 0, none⟩) n n) l := by
  subst hg; exact ints_new hl hm hk n hn
end Go.Proofs.YtmbjehnddgcboaaGreatDoor
/- unit.Sum is the checksum crc of the bytes. Conditions: the slice reads as bytes. -/
namespace Go.Proofs.YtmbjehnddgcboaaGreatDoor
open Go.RowKit
set_option linter.unusedVariables false
set_option linter.unusedSimpArgs false

def crcBit (c : Nat) : Nat := if c % 2 = 1 then (c / 2) ^^^ 3988292384 else c / 2
def crcBits : Nat → Nat → Nat
  | 0, c => c
  | n + 1, c => crcBit (crcBits n c)
def crcIn (c : Nat) (x : Int) : Nat := crcBits 8 (c ^^^ x.toNat)
def crcGo (c : Nat) (l : List Int) : Nat := l.foldl crcIn c
def crc (l : List Int) : Nat := crcGo 4294967295 l ^^^ 4294967295

theorem crcBit_lt {c : Nat} (h : c < 4294967296) : crcBit c < 4294967296 := by
  unfold crcBit
  split
  · exact Nat.xor_lt_two_pow (n := 32) (by omega) (by omega)
  · omega
theorem crcBits_lt : ∀ (n : Nat) {c : Nat}, c < 4294967296 → crcBits n c < 4294967296
  | 0, _, h => h
  | n + 1, _, h => crcBit_lt (crcBits_lt n h)
theorem crcIn_lt {c : Nat} {x : Int} (h : c < 4294967296) (hx : InK .u8 x) : crcIn c x < 4294967296 := by
  unfold InK at hx
  exact crcBits_lt 8 (Nat.xor_lt_two_pow (n := 32) h (by omega))
theorem crcGo_lt : ∀ (l : List Int) {c : Nat}, c < 4294967296 → (∀ x ∈ l, InK .u8 x) → crcGo c l < 4294967296
  | [], _, h, _ => h
  | x :: l, _, h, hl => crcGo_lt l (crcIn_lt h (hl x (by simp))) (fun y hy => hl y (by simp [hy]))
theorem crc_lt (l : List Int) (hl : ∀ x ∈ l, InK .u8 x) : crc l < 4294967296 :=
  Nat.xor_lt_two_pow (n := 32) (crcGo_lt l (by omega) hl) (by omega)
theorem crcGo_snoc (c : Nat) (l : List Int) (x : Int) : crcGo c (l ++ [x]) = crcIn (crcGo c l) x := by simp [crcGo]
theorem take_snoc {l : List Int} {k : Nat} (h : k < l.length) : l.take (k + 1) = l.take k ++ [l.getD k 0] := by
  rw [List.take_succ_eq_append_getElem h]; simp [h]
theorem crc_odd {c : Nat} (hc : c < 4294967296) (h : c % 2 = 1) : bits .and .u32 (c : Int) 1 = 1 := by
  have := u32_and_nat c 1 hc (by omega)
  rw [Nat.and_one_is_mod, h] at this
  exact this
theorem crc_even {c : Nat} (hc : c < 4294967296) (h : c % 2 = 0) : bits .and .u32 (c : Int) 1 = 0 := by
  have := u32_and_nat c 1 hc (by omega)
  rw [Nat.and_one_is_mod, h] at this
  exact this
theorem crc_fold {c : Nat} (hc : c < 4294967296) : bits .xor .u32 ((c : Int) / 2) 3988292384 = ((c / 2 ^^^ 3988292384 : Nat) : Int) := by
  have := u32_xor_nat (c / 2) 3988292384 (by omega) (by omega)
  simpa using this
theorem u32_xor_nat' (c : Nat) (x : Int) (hc : c < 4294967296) (hx : 0 ≤ x ∧ x ≤ 255) : bits .xor .u32 (c : Int) x = ((c ^^^ x.toNat : Nat) : Int) := by
  obtain ⟨X, rfl⟩ := Int.eq_ofNat_of_zero_le hx.1
  exact u32_xor_nat c X hc (by omega)
theorem crc_in {c : Nat} {x : Int} (hc : c < 4294967296) (hx : InK .u8 x) : bits .xor .u32 (c : Int) x = ((c ^^^ x.toNat : Nat) : Int) := by
  unfold InK at hx
  exact u32_xor_nat' c x hc hx

set_option maxHeartbeats 400000 in
theorem sum_any {lo hi : Nat} {v : Value} {l : List Int} {w : World} (h : Ints .u8 lo hi w v l) :
    Calls Tryz.prog 60 #[v] w fun e w' => e = .returned (.int .u32 (crc l : Nat)) ∧ w = w' := by
  have hlen := h.1.len_le
  unfold maxLen at hlen
  have hr := h.2
  obtain ⟨a, cap, rfl, hcap, hm, hat, hcell⟩ := h.open
  go_enter Tryz.func60, Tryz.ntmps60
  go_wp2
  go_loop [8, 3, 5, 16] (fun i c _ _ => ∃ k : Nat, k ≤ l.length ∧ i = .int .i64 k ∧ c = .int .u32 (crcGo 4294967295 (l.take k) : Nat)) (fun i _ _ _ => l.length - (intOf i).toNat)
  case atStart => exact ⟨0, by omega, rfl, rfl⟩
  case round =>
    obtain ⟨k, hk, rfl, rfl⟩ := hrel
    have hs := crcGo_lt (l.take k) (c := 4294967295) (by omega) (fun x hx => hr x (List.mem_of_mem_take hx))
    by_cases hlt : k < l.length
    · obtain ⟨b, off, rfl, _, _⟩ := hat k hlt
      have hc' := hcell b off rfl k hlt
      have hx : InK .u8 (l.getD k 0) := by refine hr _ ?_; simp [hlt]
      have hnext : crcGo 4294967295 (l.take (k + 1)) = crcBits 8 (crcGo 4294967295 (l.take k) ^^^ (l.getD k 0).toNat) := by
        rw [take_snoc hlt, crcGo_snoc]; rfl
      have hin := crc_in hs hx
      have hs' : crcGo 4294967295 (l.take k) ^^^ (l.getD k 0).toNat < 4294967296 := Nat.xor_lt_two_pow (n := 32) hs (by unfold InK at hx; omega)
      have hx0 : (l.getD k 0) % 4294967296 = l.getD k 0 := by unfold InK at hx; omega
      generalize crcGo 4294967295 (l.take k) = s at *
      generalize l.getD k 0 = x at *
      have Hn := Lib.hid hnext
      clear hnext hat hcell hr
      generalize hq : s ^^^ x.toNat = q at *
      clear hq
      go_wp2
      go_loop [16, 3] (fun i c => ∃ j : Nat, j ≤ 8 ∧ i = .int .i64 j ∧ c = .int .u32 (crcBits j q : Nat)) (fun i _ => 8 - (intOf i).toNat)
      case atStart => exact ⟨0, by omega, rfl, rfl⟩
      case round =>
        obtain ⟨j, hj, rfl, rfl⟩ := hrel
        have hb := crcBits_lt j hs'
        by_cases hjl : j < 8
        · generalize hcq : crcBits j q = c at *
          have Hcq := Lib.hid hcq
          clear hcq
          by_cases hodd : c % 2 = 1
          · have e1 := crc_odd hb hodd
            have e2 := crc_fold hb
            have Ho := Lib.hid hodd
            clear hodd
            go_wp2
            go_round
            case rel => exact ⟨j + 1, by omega, by go_num, by show _ = Value.int .u32 ((crcBit (crcBits j q) : Nat) : Int); rw [Hcq.out]; simp [crcBit, Ho.out]⟩
            case measure => simp [intOf]; omega
          · have e1 := crc_even hb (by omega)
            have Ho := Lib.hid hodd
            clear hodd
            go_wp2
            go_round
            case rel => exact ⟨j + 1, by omega, by go_num, by show _ = Value.int .u32 ((crcBit (crcBits j q) : Nat) : Int); rw [Hcq.out]; simp [crcBit, Ho.out]⟩
            case measure => simp [intOf]; omega
        · obtain rfl : j = 8 := by omega
          go_wp2
          go_round
          case rel => exact ⟨k + 1, by omega, by go_num, by rw [Hn.out]⟩
          case measure => simp [intOf]; omega
    · obtain rfl : k = l.length := by omega
      have e3 : bits .xor .u32 IntKind.u32.max (crcGo 4294967295 l : Int) = ((crc l : Nat) : Int) := by
        rw [List.take_length] at hs
        have := u32_xor_nat 4294967295 (crcGo 4294967295 l) (by omega) hs
        rw [crc, Nat.xor_comm]; exact this
      have E3 := Lib.hid e3
      clear e3
      go_wp2
      go_ret
      exact ⟨by show Ending.returned (.int .u32 (bits .xor .u32 IntKind.u32.max _)) = _; rw [E3.out], rfl⟩
end Go.Proofs.YtmbjehnddgcboaaGreatDoor
/- The small predicates of vbv, plane, gop, syntax and unit answer what their texts say. Conditions: none. -/
namespace Go.Proofs.YtmbjehnddgcboaaGreatDoor
open Go.RowKit
set_option linter.unusedVariables false
set_option linter.unusedSimpArgs false

theorem ret_bool {a b : Bool} (h : a = b) : Ending.returned (.bool a) = .returned (.bool b) := by rw [h]
theorem ret_int {k : IntKind} {a b : Int} (h : a = b) : Ending.returned (.int k a) = .returned (.int k b) := by rw [h]

def fromB (v l m : Int) : Bool := decide (l ≤ v) && decide (v ≤ m)
theorem from_any (v l m : Int) (w : World) :
    Calls Tryz.prog 74 #[.int .i64 v, .int .i64 l, .int .i64 m] w fun e w' => e = .returned (.bool (fromB v l m)) ∧ w = w' := by
  go_enter Tryz.func74, Tryz.ntmps74
  go_wp2
  all_goals
    go_ret
    exact ⟨ret_bool (by unfold fromB; rw [Bool.eq_iff_iff]; simp; try omega), rfl⟩

def sideB (n : Int) : Bool := decide (8 ≤ n ∧ n ≤ 32 ∧ n % 8 = 0)
set_option maxHeartbeats 400000 in
theorem side_any (n : Int) (w : World) :
    Calls Tryz.prog 52 #[.int .i64 n] w fun e w' => e = .returned (.bool (sideB n)) ∧ w = w' := by
  by_cases h8 : 8 ≤ n
  · by_cases h32 : n ≤ 32
    all_goals
      go_enter Tryz.func52, Tryz.ntmps52
      go_wp2
      all_goals
        go_ret
        exact ⟨ret_bool (by unfold sideB; rw [Bool.eq_iff_iff]; simp; try omega), rfl⟩
  · go_enter Tryz.func52, Tryz.ntmps52
    go_wp2
    all_goals
      go_ret
      exact ⟨ret_bool (by unfold sideB; rw [Bool.eq_iff_iff]; simp; try omega), rfl⟩

def sampleB (n : Int) : Bool := decide (0 ≤ n ∧ n ≤ 255)
theorem sample_any (n : Int) (w : World) :
    Calls Tryz.prog 53 #[.int .i64 n] w fun e w' => e = .returned (.bool (sampleB n)) ∧ w = w' := by
  go_enter Tryz.func53, Tryz.ntmps53
  go_wp2
  all_goals
    go_ret
    exact ⟨ret_bool (by unfold sampleB; rw [Bool.eq_iff_iff]; simp; try omega), rfl⟩

def firstB (k : Int) : Bool := decide (k = 1 ∨ k = 4)
theorem gfirst_any (k : Int) (w : World) :
    Calls Tryz.prog 77 #[.int .i64 k] w fun e w' => e = .returned (.bool (firstB k)) ∧ w = w' := by
  go_enter Tryz.func77, Tryz.ntmps77
  go_wp2
  all_goals
    go_ret
    exact ⟨ret_bool (by unfold firstB; rw [Bool.eq_iff_iff]; simp; try omega), rfl⟩

def kindB (k : Int) : Bool := decide (1 ≤ k ∧ k ≤ 4)
theorem kind_any (k : Int) (w : World) :
    Calls Tryz.prog 90 #[.int .i64 k] w fun e w' => e = .returned (.bool (kindB k)) ∧ w = w' := by
  go_enter Tryz.func90, Tryz.ntmps90
  go_wp2
  all_goals
    go_ret
    exact ⟨ret_bool (by unfold kindB; rw [Bool.eq_iff_iff]; simp; try omega), rfl⟩

def bareB (k : Int) : Bool := decide (k = 3 ∨ k = 4)
theorem bare_any (k : Int) (w : World) :
    Calls Tryz.prog 91 #[.int .i64 k] w fun e w' => e = .returned (.bool (bareB k)) ∧ w = w' := by
  go_enter Tryz.func91, Tryz.ntmps91
  go_wp2
  all_goals
    go_ret
    exact ⟨ret_bool (by unfold bareB; rw [Bool.eq_iff_iff]; simp; try omega), rfl⟩

def headB (n f c : Int) : Bool := decide (0 ≤ n ∧ n < 16 ∧ 0 ≤ f ∧ f < 16 ∧ 1 ≤ c ∧ c ≤ 16)
set_option maxHeartbeats 400000 in
theorem ghead_any (n f c : Int) (w : World) :
    Calls Tryz.prog 76 #[.int .i64 n, .agg #[.int .i64 f, .int .i64 c]] w fun e w' => e = .returned (.bool (headB n f c)) ∧ Only [] w w' := by
  go_enter Tryz.func76, Tryz.ntmps76
  go_wp2
  all_goals
    go_ret
    exact ⟨ret_bool (by unfold headB; rw [Bool.eq_iff_iff]; simp; try omega), (Only.refl _ _).alloc _⟩

theorem size_any (n : Int) (w : World) (h : 0 ≤ n) (h1 : n ≤ 9223372036854775799) :
    Calls Tryz.prog 49 #[.int .i64 n] w fun e w' => e = .returned (.int .i64 (n + 8)) ∧ w = w' := by
  go_enter Tryz.func49, Tryz.ntmps49
  go_wp2
  go_ret
  exact ⟨rfl, rfl⟩

theorem ok_any (c : Int) (x : Value) (w : World) :
    Calls Tryz.prog 20 #[.agg #[.int .i64 c, x]] w fun e w' => e = .returned (.bool (c == 0)) ∧ Only [] w w' := by
  go_enter Tryz.func20, Tryz.ntmps20
  go_wp2
  go_ret
  exact ⟨rfl, (Only.refl _ _).alloc _⟩

/-- syntax.Cost: eight bytes more than the data. -/
theorem cost_any {lo hi : Nat} {k : Int} {v : Value} {l : List Int} {w : World} (h : Ints .u8 lo hi w v l) (hl : l.length ≤ 9223372036854775799) :
    Calls Tryz.prog 22 #[.agg #[.int .i64 k, v]] w fun e w' => e = .returned (.int .i64 (l.length + 8)) ∧ Only [] w w' := by
  obtain ⟨a, cap, rfl, _⟩ := h.open
  go_enter Tryz.func22, Tryz.ntmps22
  go_wp2_with (go_at_call 49; refine (size_any _ _ (by omega) (by omega)).mono ?_; rintro e w' ⟨rfl, rfl⟩)
  go_ret
  exact ⟨rfl, (Only.refl _ _).alloc _⟩
end Go.Proofs.YtmbjehnddgcboaaGreatDoor
/- vbv.May and vbv.Check answer whether a configuration is valid. Conditions: none. -/
namespace Go.Proofs.YtmbjehnddgcboaaGreatDoor
open Go.RowKit
set_option linter.unusedVariables false
set_option linter.unusedSimpArgs false

structure Cfg where
  qmin : Int
  qmax : Int
  reach : Int
  cut : Int
  gop : Int
  rate : Int
  room : Int
  fill : Int
  deriving DecidableEq
def Cfg.v (c : Cfg) : Value := .agg #[.int .i64 c.qmin, .int .i64 c.qmax, .int .i64 c.reach, .int .i64 c.cut, .int .i64 c.gop, .int .i64 c.rate, .int .i64 c.room, .int .i64 c.fill]
def mayB (c : Cfg) : Bool := decide (0 ≤ c.qmin ∧ c.qmin ≤ c.qmax ∧ c.qmax ≤ 15 ∧ 0 ≤ c.reach ∧ c.reach ≤ 7 ∧ 0 ≤ c.cut ∧ c.cut ≤ 16320 ∧ 1 ≤ c.gop ∧ c.gop ≤ 16 ∧ 8 ≤ c.rate ∧ c.rate ≤ c.room ∧ c.room ≤ 16384 ∧ 8 ≤ c.fill ∧ c.fill ≤ c.room)

set_option maxHeartbeats 1000000 in
theorem may_any (c : Cfg) (w : World) :
    Calls Tryz.prog 51 #[c.v] w fun e w' => e = .returned (.bool (mayB c)) ∧ Only [] w w' := by
  obtain ⟨a0, a1, a2, a3, a4, a5, a6, a7⟩ := c
  unfold Cfg.v
  go_enter Tryz.func51, Tryz.ntmps51
  go_wp2_with (go_at_call 74; refine (from_any _ _ _ _).mono ?_; rintro e w' ⟨rfl, rfl⟩)
  all_goals
    go_ret
    refine ⟨ret_bool ?_, (Only.refl _ _).alloc _⟩
    simp only [fromB, Bool.and_eq_true, decide_eq_true_eq] at *
    unfold mayB
    rw [Bool.eq_iff_iff]
    simp
    try omega
theorem may_bounds {c : Cfg} (h : mayB c = true) : 0 ≤ c.qmin ∧ c.qmin ≤ 15 ∧ 0 ≤ c.qmax ∧ c.qmax ≤ 15 ∧ 0 ≤ c.reach ∧ c.reach ≤ 7 ∧ 0 ≤ c.cut ∧ c.cut ≤ 16320 ∧ 1 ≤ c.gop ∧ c.gop ≤ 16 ∧ 8 ≤ c.rate ∧ c.rate ≤ 16384 ∧ 8 ≤ c.room ∧ c.room ≤ 16384 ∧ 8 ≤ c.fill ∧ c.fill ≤ 16384 ∧ c.rate ≤ c.room ∧ c.fill ≤ c.room := by
  unfold mayB at h
  have := of_decide_eq_true h
  omega
end Go.Proofs.YtmbjehnddgcboaaGreatDoor
/- box.put lays a number in bytes behind an own row, the highest byte first. Conditions: at most seven bytes. -/
namespace Go.Proofs.YtmbjehnddgcboaaGreatDoor
open Go.RowKit
set_option linter.unusedVariables false
set_option linter.unusedSimpArgs false

theorem E8 : Elem Tryz.prog 22 5 (.int .u8 0) 1 1 := Elem.mk' Tryz.underlying22 (by kernel_rfl) rfl (by omega) (by omega)
theorem EI : Elem Tryz.prog 36 3 (.int .i64 0) 1 8 := Elem.mk' Tryz.underlying36 (by kernel_rfl) rfl (by omega) (by omega)

/-- n bytes of a number, the highest first. -/
def be (v : Int) : Nat → List Int
  | 0 => []
  | n + 1 => v / 2 ^ (8 * n) % 256 :: be v n
theorem be_length (v : Int) : ∀ n, (be v n).length = n
  | 0 => rfl
  | n + 1 => by simp [be, be_length v n]
theorem be_range (v : Int) : ∀ n, ∀ x ∈ be v n, InK .u8 x
  | 0 => by simp [be]
  | n + 1 => by
    intro x hx
    simp only [be, List.mem_cons] at hx
    rcases hx with rfl | hx
    · exact ⟨by omega, by omega⟩
    · exact be_range v n x hx

set_option maxHeartbeats 400000 in
theorem put_any {base : Nat} {bv : Value} {l : List Int} (v : Int) (n : Nat) {w : World} (h : Own .u8 5 base w bv l) (hb : base ≤ w.heap.size) (hn : n ≤ 7) (hl : l.length ≤ 1000000000) :
    Calls Tryz.prog 59 #[bv, .int .i64 v, .int .i64 n] w fun e w' => ∃ v', e = .returned v' ∧ Own .u8 5 base w' v' (l ++ be v n) ∧ Acc bv w v' w' := by
  go_enter Tryz.func59, Tryz.ntmps59
  go_wp2
  go_loopw [7, 0] (fun k b wr => ∃ j : Nat, j ≤ n ∧ k = .int .i64 ((j : Int) - 1) ∧ ∃ m, Own .u8 5 base wr b (l ++ m) ∧ m ++ be v j = be v n ∧ Acc bv w b wr) (fun k _ _ => (intOf k + 1).toNat)
  case atStart => exact ⟨n, Nat.le_refl _, rfl, [], by simpa using h, by simp, Acc.refl _ _⟩
  case round =>
    obtain ⟨j, hj, rfl, m, hown, hm, ho⟩ := hrel
    have Hm := Lib.hid hm
    have Hl := Lib.hid hl
    clear hm hl
    rcases j with _ | j
    · go_wp2
      go_ret
      refine ⟨_, rfl, ?_, ho⟩
      have := Hm.out
      simp only [be, List.append_nil] at this
      rw [← this]; exact hown
    · rw [show (((j + 1 : Nat) : Int) - 1) = (j : Int) by omega]
      clear h
      have hlm : (l ++ m).length ≤ 1000000007 := by
        have := congrArg List.length Hm.out
        simp only [List.length_append, be_length] at this ⊢
        have := Hl.out
        omega
      have Hlm := Lib.hid hlm
      clear hlm
      have hnew := ints_new (k := .u8) (w := wr) (t := 5) (l := [v / 2 ^ (8 * j) % 256]) rfl (by simp [maxLen]) (by simp [InK]; omega) 1 rfl
      have hb' : base ≤ (wr.alloc (Obj.cells #[Value.int IntKind.u8 (v / 2 ^ (8 * j) % 256)] 5)).heap.size := by have := ho.only.size; simp; omega
      go_wp2_with (at_builtin; refine wpList_append_ints rfl (.tmp 14) (.tmp 20) _ rfl E8 (hown.quiet ((Only.refl [] _).alloc _)) rfl hnew rfl ?c1 hb' (fun v1 w1 hown1 ho1 => ?_))
      case c1 => have := Hlm.out; simp only [List.length_append, List.length_cons, List.length_nil] at this ⊢; omega
      go_roundw
      case rel => exact ⟨j, by omega, by go_num, m ++ [v / 2 ^ (8 * j) % 256], by simpa using hown1, by simpa [be] using Hm.out, (ho.then ((Only.refl [] _).alloc _)).trans ho1⟩
      case measure => simp [intOf]
theorem put2_any {base : Nat} {bv : Value} {l : List Int} (v : Int) {w : World} (h : Own .u8 5 base w bv l) (hb : base ≤ w.heap.size) (hl : l.length ≤ 1000000000) :
    Calls Tryz.prog 59 #[bv, .int .i64 v, .int .i64 2] w fun e w' => ∃ v', e = .returned v' ∧ Own .u8 5 base w' v' (l ++ be v 2) ∧ Acc bv w v' w' :=
  put_any v 2 h hb (by omega) hl
theorem put4_any {base : Nat} {bv : Value} {l : List Int} (v : Int) {w : World} (h : Own .u8 5 base w bv l) (hb : base ≤ w.heap.size) (hl : l.length ≤ 1000000000) :
    Calls Tryz.prog 59 #[bv, .int .i64 v, .int .i64 4] w fun e w' => ∃ v', e = .returned v' ∧ Own .u8 5 base w' v' (l ++ be v 4) ∧ Acc bv w v' w' :=
  put_any v 4 h hb (by omega) hl
end Go.Proofs.YtmbjehnddgcboaaGreatDoor
/- unit.Make makes the bytes of a unit, or says why not; box.add lays a unit behind an own row. Conditions: the data reads as bytes. -/
namespace Go.Proofs.YtmbjehnddgcboaaGreatDoor
open Go.RowKit
set_option linter.unusedVariables false
set_option linter.unusedSimpArgs false

/-- The bytes of a unit that is no fill. -/
def unitHead (kind : Int) (l : List Int) : List Int := [kind, (l.length : Int) / 65536, (l.length : Int) / 256 % 256, (l.length : Int) % 256] ++ l
def unitB (kind : Int) (l : List Int) : List Int := unitHead kind l ++ be (crc (unitHead kind l)) 4
/-- unit.Make: the bytes, or a code. -/
def makeU (kind : Int) (l : List Int) : Except Int (List Int) :=
  if kind < 0 ∨ 255 < kind ∨ (kind = 0 ∧ 0 < l.length) then .error 13
  else if 65536 < l.length then .error 5
  else if kind = 0 then .ok [0]
  else .ok (unitB kind l)
theorem unitB_length (kind : Int) (l : List Int) : (unitB kind l).length = l.length + 8 := by simp [unitB, unitHead, be_length]

theorem makeU_kind {kind : Int} {l : List Int} (h : kind < 0 ∨ 255 < kind ∨ (kind = 0 ∧ 0 < l.length)) : makeU kind l = .error 13 := by simp [makeU, h]

def be4 (c : Nat) : List Int := [(c : Int) / 16777216, (c : Int) / 65536 % 256, (c : Int) / 256 % 256, (c : Int) % 256]
theorem be4_eq {c : Nat} (h : c < 4294967296) : be c 4 = be4 c := by
  have e : be c 4 = [(c : Int) / 16777216 % 256, (c : Int) / 65536 % 256, (c : Int) / 256 % 256, (c : Int) / 1 % 256] := rfl
  rw [e, be4]
  simp only [List.cons.injEq, and_true, Int.ediv_one]
  omega
theorem be4_range {c : Nat} (h : c < 4294967296) : ∀ x ∈ be4 c, InK .u8 x := by rw [← be4_eq h]; exact be_range _ _
/-- what Make hands back -/
def MadeU (w : World) (r : Except Int (List Int)) (e : Ending) (w' : World) : Prop :=
  Only [] w w' ∧ match r with
    | .ok b => ∃ v, e = .returned (.tuple #[v, .nilIface]) ∧ Own .u8 5 w.heap.size w' v b
    | .error c => e = .returned (.tuple #[.slice none 0 0, .iface 39 (.int .i64 c)])

set_option maxHeartbeats 800000 in
theorem make_any {lo hi : Nat} (kind : Int) {v : Value} {l : List Int} {w : World} (h : Ints .u8 lo hi w v l) :
    Calls Tryz.prog 58 #[.int .i64 kind, v] w (MadeU w (makeU kind l)) := by
  have hlen := h.1.len_le
  unfold maxLen at hlen
  obtain ⟨a, cap, rfl, hcap, hm, hat, hcell⟩ := h.open
  clear hat hcell
  have Hm := Lib.hid hm
  clear hm
  by_cases hk1 : kind < 0
  · go_enter Tryz.func58, Tryz.ntmps58
    go_wp2
    go_ret2
    rw [makeU_kind (.inl hk1)]
    exact ⟨Only.refl _ _, rfl⟩
  by_cases hk2 : 255 < kind
  · go_enter Tryz.func58, Tryz.ntmps58
    go_wp2
    go_ret2
    rw [makeU_kind (.inr (.inl hk2))]
    exact ⟨Only.refl _ _, rfl⟩
  by_cases hk0 : kind = 0
  · subst hk0
    by_cases hl0 : 0 < l.length
    · go_enter Tryz.func58, Tryz.ntmps58
      go_wp2
      go_ret2
      rw [makeU_kind (.inr (.inr ⟨rfl, hl0⟩))]
      exact ⟨Only.refl _ _, rfl⟩
    · have hz : l = [] := List.eq_nil_of_length_eq_zero (by omega)
      have hfin : makeU 0 l = .ok [0] := by subst hz; simp [makeU]
      have Hz := Lib.hid hz
      have Hfin := Lib.hid hfin
      clear hz hfin
      go_enter Tryz.func58, Tryz.ntmps58
      go_wp2
      go_ret2
      rw [Hfin.out]
      exact ⟨(Only.refl _ _).alloc _, _, rfl, own_new rfl (by simp [maxLen]) (by simp [InK]) 1 rfl⟩
  · have hk0' : (kind == 0) = false := by simpa using hk0
    by_cases hl : 65536 < l.length
    · have hfin : makeU kind l = .error 5 := by simp [makeU, hl, hk0]; omega
      have Hfin := Lib.hid hfin
      clear hfin
      go_enter Tryz.func58, Tryz.ntmps58
      go_wp2
      go_ret2
      rw [Hfin.out]
      exact ⟨Only.refl _ _, rfl⟩
    · have hfin : makeU kind l = .ok (unitB kind l) := by simp [makeU, hl, hk0]; omega
      have Hfin := Lib.hid hfin
      clear hfin
      go_enter Tryz.func58, Tryz.ntmps58
      have hin : ∀ x ∈ [kind, (l.length : Int) / 65536, (l.length : Int) / 256 % 256, (l.length : Int) % 256], InK .u8 x := by
        simp only [List.mem_cons, List.not_mem_nil, or_false, forall_eq_or_imp, forall_eq, InK]; omega
      have hlen4 : ([kind, (l.length : Int) / 65536, (l.length : Int) / 256 % 256, (l.length : Int) % 256] ++ l).length ≤ 70000 := by simp; omega
      have Hlen4 := Lib.hid hlen4
      clear hlen4
      go_wp2_with (first
        | (at_builtin; refine wpList_append_ints rfl (.tmp 47) (.tmp 48) _ rfl E8 (own_new (l := [kind, (l.length : Int) / 65536, (l.length : Int) / 256 % 256, (l.length : Int) % 256]) rfl (by simp [maxLen]) hin 4 rfl) rfl (h.quiet ((Only.refl _ _).alloc _)) rfl ?c1 ?c2 (fun v1 w1 hown1 ho1 => ?_))
        | (go_at_call 60; refine (sum_any hown1.ints).mono ?_; rintro e w' ⟨rfl, rfl⟩; have hcl := crc_lt _ hown1.2; generalize hcq : crc _ = c at *; have Hcq := Lib.hid hcq; clear hcq)
        | (at_builtin; refine wpList_append_ints rfl (.tmp 52) (.tmp 64) _ rfl E8 (hown1.quiet ((Only.refl _ _).alloc _)) rfl (ints_new (l := be4 c) rfl (by simp [maxLen, be4]) (be4_range hcl) 4 rfl) rfl ?c3 ?c4 (fun v2 w2 hown2 ho2 => ?_)))
      case c1 => have := Hlen4.out; simp only [List.length_append] at this; omega
      case c3 => have := Hlen4.out; simp only [List.length_append, List.length_cons, List.length_nil, be4] at this ⊢; omega
      case c4 => have := ho1.only.size; simp at this ⊢; omega
      go_ret2
      rw [Hfin.out]
      have hs1 := ho1.only.size
      simp only [World.size_alloc] at hs1
      have hb1 : ∀ g, v1.ownBlock = some g → w.heap.size ≤ g := ho1.base (by simp [Value.ownBlock]) (by simp)
      have hA : Only [] w w1 := ((Only.refl [] w).alloc _).trans ho1.only (by simp) (by simp [Value.ownBlock])
      have hB : Only [] w w2 := (hA.alloc _).trans ho2.only (by simp) (by intro g hg hlt; have := hb1 g (by simpa using hg); omega)
      refine ⟨hB, v2, rfl, ?_⟩
      have e : unitB kind l = ([kind, (l.length : Int) / 65536, (l.length : Int) / 256 % 256, (l.length : Int) % 256] ++ l) ++ be4 c := by
        rw [unitB, be4_eq (crc_lt _ ?_)]
        · rw [← Hcq.out]; rfl
        · exact hown1.2
      rw [e]
      exact hown2
end Go.Proofs.YtmbjehnddgcboaaGreatDoor
/- box.header, box.add and box.tail lay their bytes. Conditions: numbers in their bounds. -/
namespace Go.Proofs.YtmbjehnddgcboaaGreatDoor
open Go.RowKit
set_option linter.unusedVariables false
set_option linter.unusedSimpArgs false

def headerB (W H F np : Int) (c : Cfg) : List Int :=
  [W / 8, H / 8, F, np, c.qmin, c.qmax, c.reach, c.gop] ++ be c.cut 2 ++ be c.rate 4 ++ be c.room 4 ++ be c.fill 4
/-- A box.Info as a value. -/
def infoV (W H F : Int) (c : Cfg) (parts : Value) : Value := .agg #[.int .i64 W, .int .i64 H, .int .i64 F, .int .i64 c.qmin, .int .i64 c.qmax, .int .i64 c.reach, .int .i64 c.cut, .int .i64 c.gop, .int .i64 c.rate, .int .i64 c.room, .int .i64 c.fill, parts]

set_option maxRecDepth 100000 in
set_option maxHeartbeats 1000000 in
theorem header_any (W H F : Int) (c : Cfg) (a : Option Addr) (np cap : Nat) {w : World} (hc : mayB c = true) (hW0 : 0 ≤ W) (hW1 : W ≤ 2040) (hH0 : 0 ≤ H) (hH1 : H ≤ 2040) (hF0 : 0 ≤ F) (hF1 : F ≤ 255) (hnp : np ≤ 255) :
    Calls Tryz.prog 33 #[infoV W H F c (.slice a np cap)] w fun e w' => ∃ v, e = .returned v ∧ Own .u8 5 w.heap.size w' v (headerB W H F np c) ∧ Only [] w w' := by
  obtain ⟨q0, q1, q2, q3, q4, q5, q6, q7, q8, q9, q10, q11, q12, q13, q14, q15, _⟩ := may_bounds hc
  clear hc
  obtain ⟨c0, c1, c2, c3, c4, c5, c6, c7⟩ := c
  simp only at q0 q1 q2 q3 q4 q5 q6 q7 q8 q9 q10 q11 q12 q13 q14 q15
  unfold infoV
  simp only
  go_enter Tryz.func33, Tryz.ntmps33
  go_wp2_with fail
  generalize hW : ((World.alloc _ _).alloc _).alloc _ = W3
  have hin : ∀ x ∈ [W / 8, H / 8, F, (np : Int), c0, c1, c2, c4], InK .u8 x := by
    simp only [List.mem_cons, List.not_mem_nil, or_false, forall_eq_or_imp, forall_eq, InK]; omega
  have hO : Only [] w W3 := by rw [← hW]; exact (((Only.refl _ _).alloc _).alloc _).alloc _
  have hown : Own .u8 5 (w.heap.size + 1 + 1) W3 (.slice (some ⟨w.heap.size + 1 + 1, 0, none⟩) 8 8) [W / 8, H / 8, F, (np : Int), c0, c1, c2, c4] := by
    rw [← hW]; exact own_newG rfl (by simp [maxLen]) hin 8 rfl (by simp)
  have hsz : w.heap.size + 3 ≤ W3.heap.size := by rw [← hW]; simp
  have hcell : W3.heap[w.heap.size + 1]? = some (.cells #[.int .i64 c0, .int .i64 c1, .int .i64 c2, .int .i64 c3, .int .i64 c4, .int .i64 c5, .int .i64 c6, .int .i64 c7] 26 (0, 0)) := by
    rw [← hW, Below.heap_alloc _ _ _ (by simp)]
    exact heap_alloc_new' (by simp)
  have k3 : W3.cell? ⟨w.heap.size + 1, 3, none⟩ = some (.int .i64 c3) := by rw [cell_of_row _ _ _ _ _ _ hcell]; rfl
  have k5 : W3.cell? ⟨w.heap.size + 1, 5, none⟩ = some (.int .i64 c5) := by rw [cell_of_row _ _ _ _ _ _ hcell]; rfl
  have k6 : W3.cell? ⟨w.heap.size + 1, 6, none⟩ = some (.int .i64 c6) := by rw [cell_of_row _ _ _ _ _ _ hcell]; rfl
  have k7 : W3.cell? ⟨w.heap.size + 1, 7, none⟩ = some (.int .i64 c7) := by rw [cell_of_row _ _ _ _ _ _ hcell]; rfl
  clear hcell hW
  have hfin : headerB W H F np ⟨c0, c1, c2, c3, c4, c5, c6, c7⟩ = [W / 8, H / 8, F, (np : Int), c0, c1, c2, c4] ++ be c3 2 ++ be c5 4 ++ be c6 4 ++ be c7 4 := rfl
  have Hfin := Lib.hid hfin
  clear hfin
  go_region_held3 (fun w' => w'.cell? ⟨w.heap.size + 1, 3, none⟩ = some (.int .i64 c3) ∧ w'.cell? ⟨w.heap.size + 1, 5, none⟩ = some (.int .i64 c5) ∧ w'.cell? ⟨w.heap.size + 1, 6, none⟩ = some (.int .i64 c6) ∧ w'.cell? ⟨w.heap.size + 1, 7, none⟩ = some (.int .i64 c7))
    (first
      | (go_split_ands; refine ⟨ho4.cell hb3 (by assumption) (by simp), ho4.cell hb3 (by assumption) (by simp), ho4.cell hb3 (by assumption) (by simp), ho4.cell hb3 (by assumption) (by simp)⟩)
      | (go_split_ands; refine ⟨ho3.cell hb2 (by assumption) (by simp), ho3.cell hb2 (by assumption) (by simp), ho3.cell hb2 (by assumption) (by simp), ho3.cell hb2 (by assumption) (by simp)⟩)
      | (go_split_ands; refine ⟨ho2.cell hb1 (by assumption) (by simp), ho2.cell hb1 (by assumption) (by simp), ho2.cell hb1 (by assumption) (by simp), ho2.cell hb1 (by assumption) (by simp)⟩)
      | (go_split_ands; refine ⟨ho1.cell hb0 (by assumption) (by simp), ho1.cell hb0 (by assumption) (by simp), ho1.cell hb0 (by assumption) (by simp), ho1.cell hb0 (by assumption) (by simp)⟩)
      | go_keep
      | fail)
    (first
      | (go_at_call 59; (refine (put4_any c7 hown3 ?_ ?_).mono ?_); (have := ho3.only.size; omega); (simp [be_length]); (rintro e w4 ⟨v4, rfl, hown4, ho4⟩))
      | (go_at_call 59; (refine (put4_any c6 hown2 ?_ ?_).mono ?_); (have := ho2.only.size; omega); (simp [be_length]); (rintro e w3 ⟨v3, rfl, hown3, ho3⟩); (have hz3 : w.heap.size + 3 ≤ w3.heap.size := (by have := ho3.only.size; omega)); (have hb3 : From (w.heap.size + 1 + 1) v3 := ho3.from_ hb2 (by omega)))
      | (go_at_call 59; (refine (put4_any c5 hown1 ?_ ?_).mono ?_); (have := ho1.only.size; omega); (simp [be_length]); (rintro e w2 ⟨v2, rfl, hown2, ho2⟩); (have hz2 : w.heap.size + 3 ≤ w2.heap.size := (by have := ho2.only.size; omega)); (have hb2 : From (w.heap.size + 1 + 1) v2 := ho2.from_ hb1 (by omega)))
      | (go_at_call 59; (refine (put2_any (w := W3.drew) c3 hown ?_ ?_).mono ?_); (simp; omega); (simp); (rintro e w1 ⟨v1, rfl, hown1, ho1⟩); (have hz1 : w.heap.size + 3 ≤ w1.heap.size := (by have := ho1.only.size; simp at this; omega)); (have hb0 : From (w.heap.size + 1 + 1) (.slice (some ⟨w.heap.size + 1 + 1, 0, none⟩) 8 8) := From.lit (by omega)); (have hb1 : From (w.heap.size + 1 + 1) v1 := ho1.from_ hb0 (by simp; omega)))
      | fail)
  go_wp2
  go_ret
  refine ⟨v4, rfl, ?_, ?_⟩
  · rw [Hfin.out]; exact hown4.lower (by omega)
  · have a0 : Acc (.slice (some ⟨w.heap.size + 1 + 1, 0, none⟩) 8 8) W3 v4 w4 := (Acc.quiet (Only.refl [] _).drew).trans (((ho1.trans ho2).trans ho3).trans ho4)
    exact hO.acc a0 (From.lit (by omega))
end Go.Proofs.YtmbjehnddgcboaaGreatDoor
/- Slices of structs: coded frames, chunks, entries, and how they stay over what a call writes. Conditions: none. -/
namespace Go.Proofs.YtmbjehnddgcboaaGreatDoor
open Go.RowKit
set_option linter.unusedVariables false
set_option linter.unusedSimpArgs false

/-- A slice of n elements of 'size' cells each: cell j of element i holds f i j. -/
def Rows (size lo hi : Nat) (w : World) (v : Value) (n : Nat) (f : Nat → Nat → Value) : Prop :=
  ∃ (a : Option Addr) (cap : Nat), v = .slice a n cap ∧ n ≤ cap ∧ cap ≤ maxLen ∧
    (0 < n → ∃ b off, a = some ⟨b, off, none⟩ ∧ lo ≤ b ∧ b < hi ∧ ∀ i j, i < n → j < size → w.cell? ⟨b, off + i * size + j, none⟩ = some (f i j))
section
variable {size lo hi lo' hi' n : Nat} {w w' : World} {v : Value} {f : Nat → Nat → Value} {S : List Nat}
theorem Rows.only (h : Rows size lo hi w v n f) (o : Only S w w') (hS : ∀ g ∈ S, g < lo ∨ hi ≤ g) : Rows size lo hi w' v n f := by
  obtain ⟨a, cap, h2, h3, h4, h5⟩ := h
  refine ⟨a, cap, h2, h3, h4, fun hn => ?_⟩
  obtain ⟨b, off, e, hl, hh, hc⟩ := h5 hn
  exact ⟨b, off, e, hl, hh, fun i j hi hj => o.cell (hc i j hi hj) (fun hm => by have := hS _ hm; simp at this; omega)⟩
theorem Rows.mono (h : Rows size lo hi w v n f) (hl : lo' ≤ lo) (hh : hi ≤ hi') : Rows size lo' hi' w v n f := by
  obtain ⟨a, cap, h2, h3, h4, h5⟩ := h
  refine ⟨a, cap, h2, h3, h4, fun hn => ?_⟩
  obtain ⟨b, off, e, hl', hh', hc⟩ := h5 hn
  exact ⟨b, off, e, by omega, by omega, hc⟩
theorem Rows.len_le (h : Rows size lo hi w v n f) : n ≤ maxLen := by obtain ⟨a, cap, _, h3, h4, _⟩ := h; omega
theorem Rows.at (h : Rows size lo hi w v n f) {i : Nat} (hi' : i < n) : ∃ b off cap, v = .slice (some ⟨b, off, none⟩) n cap ∧ lo ≤ b ∧ b < hi ∧
    ∀ j, j < size → w.cell? ⟨b, off + i * size + j, none⟩ = some (f i j) := by
  obtain ⟨a, cap, rfl, _, _, h5⟩ := h
  obtain ⟨b, off, rfl, hl, hh, hc⟩ := h5 (by omega)
  exact ⟨b, off, cap, rfl, hl, hh, fun j hj => hc i j hi' hj⟩
theorem Rows.open (h : Rows size lo hi w v n f) : ∃ (a : Option Addr) (cap : Nat), v = .slice a n cap ∧ n ≤ cap ∧ cap ≤ maxLen ∧
    ∀ i, i < n → ∃ b off, a = some ⟨b, off, none⟩ ∧ lo ≤ b ∧ b < hi ∧ ∀ j, j < size → w.cell? ⟨b, off + i * size + j, none⟩ = some (f i j) := by
  obtain ⟨a, cap, h2, h3, h4, h5⟩ := h
  refine ⟨a, cap, h2, h3, h4, fun i hi => ?_⟩
  obtain ⟨b, off, e, hl, hh, hc⟩ := h5 (by omega)
  exact ⟨b, off, e, hl, hh, fun j hj => hc i j hi hj⟩
theorem Rows.nil (size lo hi : Nat) (w : World) (f : Nat → Nat → Value) : Rows size lo hi w (.slice none 0 0) 0 f :=
  ⟨none, 0, rfl, Nat.le_refl _, by simp, fun h => absurd h (by omega)⟩
/-- An own row, read as rows. -/
theorem Rows.of_own {base : Nat} {e : TypeId} {xs : List Value} (h : w.ownsRow base e size v n xs) (hf : ∀ i j, i < n → j < size → xs[i * size + j]? = some (f i j)) : Rows size base w.heap.size w v n f := by
  obtain ⟨h1, a, cap, h2, h3, h4, h5⟩ := Cells.of_own h
  refine ⟨a, cap, h2, h3, h4, fun hn => ?_⟩
  obtain ⟨b, off, e, hl, hh, hc⟩ := h5 hn
  refine ⟨b, off, e, hl, hh, fun i j hi hj => ?_⟩
  have := hc (i * size + j) _ (hf i j hi hj)
  rwa [← Nat.add_assoc] at this
end

/-! ### coded frames -/
structure Coded where
  kind : Int
  data : List Int
  deriving DecidableEq, Inhabited
def CodedsAt (lo hi : Nat) (w : World) (v : Value) (l : List Coded) : Prop :=
  ∃ f, Rows 2 lo hi w v l.length f ∧ ∀ i, i < l.length → f i 0 = .int .i64 (l.getD i default).kind ∧ InK .i64 (l.getD i default).kind ∧ Ints .u8 lo hi w (f i 1) (l.getD i default).data
/-! ### chunks -/
structure Chunk where
  number : Int
  first : Int
  count : Int
  coded : List Coded
  deriving DecidableEq, Inhabited
def ChunkOk (k : Chunk) : Prop := InK .i64 k.number ∧ InK .i64 k.first ∧ InK .i64 k.count
def ChunksAt (lo hi : Nat) (w : World) (v : Value) (l : List Chunk) : Prop :=
  ∃ f, Rows 4 lo hi w v l.length f ∧ ∀ i, i < l.length → f i 0 = .int .i64 (l.getD i default).number ∧ f i 1 = .int .i64 (l.getD i default).first ∧ f i 2 = .int .i64 (l.getD i default).count ∧
    ChunkOk (l.getD i default) ∧ CodedsAt lo hi w (f i 3) (l.getD i default).coded
/-! ### entries -/
structure Entry where
  first : Int
  count : Int
  offset : Int
  length : Int
  deriving DecidableEq, Inhabited
def Entry.cells (e : Entry) : List Value := [.int .i64 e.first, .int .i64 e.count, .int .i64 e.offset, .int .i64 e.length]
def entryF (l : List Entry) (i j : Nat) : Value := ((l.getD i default).cells).getD j undef
def EntriesAt (lo hi : Nat) (w : World) (v : Value) (l : List Entry) : Prop := Rows 4 lo hi w v l.length (entryF l)

section
variable {lo hi lo' hi' : Nat} {w w' : World} {v : Value} {S : List Nat}
theorem CodedsAt.only {l : List Coded} (h : CodedsAt lo hi w v l) (o : Only S w w') (hS : ∀ g ∈ S, g < lo ∨ hi ≤ g) : CodedsAt lo hi w' v l := by
  obtain ⟨f, h1, h2⟩ := h
  exact ⟨f, h1.only o hS, fun i hi => ⟨(h2 i hi).1, (h2 i hi).2.1, (h2 i hi).2.2.only o hS⟩⟩
theorem CodedsAt.quiet {l : List Coded} (h : CodedsAt lo hi w v l) (o : Only [] w w') : CodedsAt lo hi w' v l := h.only o (by simp)
theorem CodedsAt.mono {l : List Coded} (h : CodedsAt lo hi w v l) (hl : lo' ≤ lo) (hh : hi ≤ hi') : CodedsAt lo' hi' w v l := by
  obtain ⟨f, h1, h2⟩ := h
  exact ⟨f, h1.mono hl hh, fun i hi => ⟨(h2 i hi).1, (h2 i hi).2.1, (h2 i hi).2.2.mono hl hh⟩⟩
theorem ChunksAt.only {l : List Chunk} (h : ChunksAt lo hi w v l) (o : Only S w w') (hS : ∀ g ∈ S, g < lo ∨ hi ≤ g) : ChunksAt lo hi w' v l := by
  obtain ⟨f, h1, h2⟩ := h
  exact ⟨f, h1.only o hS, fun i hi => ⟨(h2 i hi).1, (h2 i hi).2.1, (h2 i hi).2.2.1, (h2 i hi).2.2.2.1, (h2 i hi).2.2.2.2.only o hS⟩⟩
theorem ChunksAt.quiet {l : List Chunk} (h : ChunksAt lo hi w v l) (o : Only [] w w') : ChunksAt lo hi w' v l := h.only o (by simp)
theorem EntriesAt.only {l : List Entry} (h : EntriesAt lo hi w v l) (o : Only S w w') (hS : ∀ g ∈ S, g < lo ∨ hi ≤ g) : EntriesAt lo hi w' v l := Rows.only h o hS
theorem EntriesAt.quiet {l : List Entry} (h : EntriesAt lo hi w v l) (o : Only [] w w') : EntriesAt lo hi w' v l := h.only o (by simp)
/-- element i of a slice of coded frames -/
theorem CodedsAt.at {l : List Coded} (h : CodedsAt lo hi w v l) {i : Nat} (hi' : i < l.length) : ∃ b off cap dv, v = .slice (some ⟨b, off, none⟩) l.length cap ∧ lo ≤ b ∧ b < hi ∧
    w.cell? ⟨b, off + i * 2, none⟩ = some (.int .i64 (l.getD i default).kind) ∧ w.cell? ⟨b, off + i * 2 + 1, none⟩ = some dv ∧ InK .i64 (l.getD i default).kind ∧ Ints .u8 lo hi w dv (l.getD i default).data := by
  obtain ⟨f, h1, h2⟩ := h
  obtain ⟨b, off, cap, rfl, x, y, hc⟩ := h1.at hi'
  obtain ⟨e0, e1, e2⟩ := h2 i hi'
  exact ⟨b, off, cap, f i 1, rfl, x, y, by rw [← e0]; exact hc 0 (by omega), hc 1 (by omega), e1, e2⟩
theorem CodedsAt.open {l : List Coded} (h : CodedsAt lo hi w v l) : ∃ (a : Option Addr) (cap : Nat), v = .slice a l.length cap ∧ l.length ≤ cap ∧ cap ≤ maxLen ∧
    ∀ i, i < l.length → ∃ b off dv, a = some ⟨b, off, none⟩ ∧ lo ≤ b ∧ b < hi ∧
      w.cell? ⟨b, off + i * 2, none⟩ = some (.int .i64 (l.getD i default).kind) ∧ w.cell? ⟨b, off + i * 2 + 1, none⟩ = some dv ∧ InK .i64 (l.getD i default).kind ∧ Ints .u8 lo hi w dv (l.getD i default).data := by
  obtain ⟨f, h1, h2⟩ := h
  obtain ⟨a, cap, rfl, x, y, hc⟩ := h1.open
  refine ⟨a, cap, rfl, x, y, fun i hi => ?_⟩
  obtain ⟨b, off, e, p, q, hj⟩ := hc i hi
  obtain ⟨e0, e1, e2⟩ := h2 i hi
  exact ⟨b, off, f i 1, e, p, q, by rw [← e0]; exact hj 0 (by omega), hj 1 (by omega), e1, e2⟩
theorem ChunksAt.open {l : List Chunk} (h : ChunksAt lo hi w v l) : ∃ (a : Option Addr) (cap : Nat), v = .slice a l.length cap ∧ l.length ≤ cap ∧ cap ≤ maxLen ∧
    ∀ i, i < l.length → ∃ b off cv, a = some ⟨b, off, none⟩ ∧ lo ≤ b ∧ b < hi ∧
      w.cell? ⟨b, off + i * 4, none⟩ = some (.int .i64 (l.getD i default).number) ∧ w.cell? ⟨b, off + i * 4 + 1, none⟩ = some (.int .i64 (l.getD i default).first) ∧
      w.cell? ⟨b, off + i * 4 + 2, none⟩ = some (.int .i64 (l.getD i default).count) ∧ w.cell? ⟨b, off + i * 4 + 3, none⟩ = some cv ∧ ChunkOk (l.getD i default) ∧ CodedsAt lo hi w cv (l.getD i default).coded := by
  obtain ⟨f, h1, h2⟩ := h
  obtain ⟨a, cap, rfl, x, y, hc⟩ := h1.open
  refine ⟨a, cap, rfl, x, y, fun i hi => ?_⟩
  obtain ⟨b, off, e, p, q, hj⟩ := hc i hi
  obtain ⟨e0, e1, e2, e3, e4⟩ := h2 i hi
  exact ⟨b, off, f i 3, e, p, q, by rw [← e0]; exact hj 0 (by omega), by rw [← e1]; exact hj 1 (by omega), by rw [← e2]; exact hj 2 (by omega), hj 3 (by omega), e3, e4⟩
theorem EntriesAt.open {l : List Entry} (h : EntriesAt lo hi w v l) : ∃ (a : Option Addr) (cap : Nat), v = .slice a l.length cap ∧ l.length ≤ cap ∧ cap ≤ maxLen ∧
    ∀ i, i < l.length → ∃ b off, a = some ⟨b, off, none⟩ ∧ lo ≤ b ∧ b < hi ∧
      w.cell? ⟨b, off + i * 4, none⟩ = some (.int .i64 (l.getD i default).first) ∧ w.cell? ⟨b, off + i * 4 + 1, none⟩ = some (.int .i64 (l.getD i default).count) ∧
      w.cell? ⟨b, off + i * 4 + 2, none⟩ = some (.int .i64 (l.getD i default).offset) ∧ w.cell? ⟨b, off + i * 4 + 3, none⟩ = some (.int .i64 (l.getD i default).length) := by
  obtain ⟨a, cap, rfl, x, y, hc⟩ := Rows.open h
  refine ⟨a, cap, rfl, x, y, fun i hi => ?_⟩
  obtain ⟨b, off, e, p, q, hj⟩ := hc i hi
  exact ⟨b, off, e, p, q, hj 0 (by omega), hj 1 (by omega), hj 2 (by omega), hj 3 (by omega)⟩
end
end Go.Proofs.YtmbjehnddgcboaaGreatDoor
/- box.add and box.tail. Conditions: the kind is one of a unit, the data not too long. -/
namespace Go.Proofs.YtmbjehnddgcboaaGreatDoor
open Go.RowKit
set_option linter.unusedVariables false
set_option linter.unusedSimpArgs false

set_option maxHeartbeats 400000 in
theorem add_any {lo hi base : Nat} {bv dv : Value} {m l : List Int} (kind : Int) {w : World} (hown : Own .u8 5 base w bv m) (hb : base ≤ w.heap.size) (h : Ints .u8 lo hi w dv l) (hfrom : From base bv)
    (hk : 1 ≤ kind ∧ kind ≤ 255) (hl : l.length ≤ 65536) (hm : m.length ≤ 100000000) :
    Calls Tryz.prog 32 #[bv, .int .i64 kind, dv] w fun e w' => ∃ v', e = .returned v' ∧ Own .u8 5 base w' v' (m ++ unitB kind l) ∧ Acc bv w v' w' := by
  have hmk : makeU kind l = .ok (unitB kind l) := by unfold makeU; rw [if_neg (by omega), if_neg (by omega), if_neg (by omega)]
  have hul : (unitB kind l).length ≤ 70000 := by rw [unitB_length]; omega
  have Hmk := Lib.hid hmk
  have Hul := Lib.hid hul
  have Hm := Lib.hid hm
  clear hmk hul hm
  go_enter Tryz.func32, Tryz.ntmps32
  go_wp2_with (first
    | (go_at_call 58; refine (make_any kind h).mono ?_; rintro e w1 hmade; rw [Hmk.out] at hmade; obtain ⟨hq, uv, rfl, hu⟩ := hmade)
    | (at_builtin; refine wpList_append_ints rfl (.tmp 15) (.tmp 16) _ rfl E8 (hown.quiet hq) rfl hu.ints rfl ?c1 ?c2 (fun v1 w2 hown1 ho1 => ?_)))
  case c1 => have := Hul.out; have := Hm.out; omega
  case c2 => have := hq.size; omega
  go_ret
  exact ⟨v1, rfl, hown1, (Acc.quiet hq).trans ho1⟩

def tailB (ahead : List Int) (at_ : Int) : List Int := be at_ 4 ++ be (crc ahead : Nat) 4
set_option maxHeartbeats 400000 in
theorem tail_any {lo hi : Nat} {v : Value} {l : List Int} (n : Int) {w : World} (h : Ints .u8 lo hi w v l) :
    Calls Tryz.prog 35 #[v, .int .i64 n] w fun e w' => ∃ v', e = .returned v' ∧ Own .u8 5 w.heap.size w' v' (tailB l n) ∧ Only [] w w' := by
  have hcl := crc_lt l h.2
  go_enter Tryz.func35, Tryz.ntmps35
  go_wp2_with (first
    | (go_at_call 60; refine (sum_any (h.quiet hq1)).mono ?_; rintro e w' ⟨rfl, rfl⟩)
    | (go_at_call 59; refine (put4_any _ hown1 ?_ ?_).mono ?_; (have := hq1.size; omega); (simp [be_length]); rintro e w2 ⟨v2, rfl, hown2, ho2⟩)
    | (go_at_call 59; refine (put4_any (base := w.heap.size) n (Own.nil _ _ _ _) ?_ ?_).mono ?_; (exact Nat.le_refl _); (simp); rintro e w1 ⟨v1, rfl, hown1, ho1⟩; have hq1 : Only [] w w1 := ho1.from_nil rfl)
    | fail)
  go_ret
  refine ⟨v2, rfl, hown2, ?_⟩
  exact hq1.acc ho2 (ho1.from_ (From.nil _) (Nat.le_refl _))
end Go.Proofs.YtmbjehnddgcboaaGreatDoor
/- The checksum tells any one byte from any other in its place. Conditions: none. -/
namespace Go.Proofs.YtmbjehnddgcboaaGreatDoor
open Go.RowKit
set_option linter.unusedVariables false
set_option linter.unusedSimpArgs false

theorem xor_cancel {a b p : Nat} (h : a ^^^ p = b ^^^ p) : a = b := by
  have := congrArg (· ^^^ p) h
  simpa [Nat.xor_assoc] using this
theorem xor_cancel_left {a b p : Nat} (h : p ^^^ a = p ^^^ b) : a = b := by
  rw [Nat.xor_comm p a, Nat.xor_comm p b] at h
  exact xor_cancel h
theorem crc_top {a b : Nat} (ha : a < 2147483648) (hb : b < 2147483648) : a ^^^ 3988292384 ≠ b := by
  intro h
  have h1 := congrArg (fun x => x.testBit 31) h
  simp only [Nat.testBit_xor] at h1
  rw [Nat.testBit_lt_two_pow (show a < 2 ^ 31 by omega), Nat.testBit_lt_two_pow (show b < 2 ^ 31 by omega)] at h1
  revert h1
  decide
theorem crcBit_inj {a b : Nat} (ha : a < 4294967296) (hb : b < 4294967296) (h : crcBit a = crcBit b) : a = b := by
  unfold crcBit at h
  split at h <;> split at h
  · have := xor_cancel h; omega
  · exact absurd h (crc_top (by omega) (by omega))
  · exact absurd h.symm (crc_top (by omega) (by omega))
  · omega
theorem crcBits_inj : ∀ (n : Nat) {a b : Nat}, a < 4294967296 → b < 4294967296 → crcBits n a = crcBits n b → a = b
  | 0, a, b, _, _, h => h
  | n + 1, a, b, ha, hb, h => crcBits_inj n ha hb (crcBit_inj (crcBits_lt n ha) (crcBits_lt n hb) h)
theorem xor_byte_lt {c : Nat} {x : Int} (h : c < 4294967296) (hx : InK .u8 x) : c ^^^ x.toNat < 4294967296 := by
  unfold InK at hx
  exact Nat.xor_lt_two_pow (n := 32) h (by omega)
theorem crcIn_inj {a b : Nat} {x : Int} (ha : a < 4294967296) (hb : b < 4294967296) (hx : InK .u8 x) (h : crcIn a x = crcIn b x) : a = b :=
  xor_cancel (crcBits_inj 8 (xor_byte_lt ha hx) (xor_byte_lt hb hx) h)
theorem crcIn_inj' {c : Nat} {x y : Int} (hc : c < 4294967296) (hx : InK .u8 x) (hy : InK .u8 y) (h : crcIn c x = crcIn c y) : x = y := by
  have := xor_cancel_left (crcBits_inj 8 (xor_byte_lt hc hx) (xor_byte_lt hc hy) h)
  unfold InK at hx hy
  omega
theorem crcGo_inj : ∀ (l : List Int) {a b : Nat}, (∀ x ∈ l, InK .u8 x) → a < 4294967296 → b < 4294967296 → crcGo a l = crcGo b l → a = b
  | [], a, b, _, _, _, h => h
  | x :: l, a, b, hl, ha, hb, h => crcIn_inj ha hb (hl x (by simp)) (crcGo_inj l (fun y hy => hl y (by simp [hy])) (crcIn_lt ha (hl x (by simp))) (crcIn_lt hb (hl x (by simp))) h)
theorem crcGo_append (c : Nat) (l m : List Int) : crcGo c (l ++ m) = crcGo (crcGo c l) m := by simp [crcGo]
/-- one byte for another: another checksum -/
theorem crc_turned {l m : List Int} {x y : Int} (hl : ∀ z ∈ l, InK .u8 z) (hm : ∀ z ∈ m, InK .u8 z) (hx : InK .u8 x) (hy : InK .u8 y) (h : crc (l ++ x :: m) = crc (l ++ y :: m)) : x = y := by
  have h1 := xor_cancel h
  rw [crcGo_append, crcGo_append] at h1
  have hc : crcGo 4294967295 l < 4294967296 := crcGo_lt l (by omega) hl
  exact crcIn_inj' hc hx hy (crcGo_inj m hm (crcIn_lt hc hx) (crcIn_lt hc hy) h1)
theorem crc_set {l : List Int} {i : Nat} {y : Int} (hl : ∀ z ∈ l, InK .u8 z) (hi : i < l.length) (hy : InK .u8 y) (h : crc (l.set i y) = crc l) : l.getD i 0 = y := by
  have e1 : l = l.take i ++ l.getD i 0 :: l.drop (i + 1) := by
    have : l.getD i 0 = l[i] := by simp [hi]
    rw [this, List.getElem_cons_drop, List.take_append_drop]
  have e2 : l.set i y = l.take i ++ y :: l.drop (i + 1) := by rw [List.set_eq_take_append_cons_drop, if_pos hi]
  rw [e2] at h
  have h2 : crc l = crc (l.take i ++ l.getD i 0 :: l.drop (i + 1)) := congrArg crc e1
  rw [h2] at h
  refine (crc_turned (fun z hz => hl z (List.mem_of_mem_take hz)) (fun z hz => hl z (List.mem_of_mem_drop hz)) hy ?_ h).symm
  exact hl _ (by simp [hi])
end Go.Proofs.YtmbjehnddgcboaaGreatDoor
/- append(b, make([]T, n)...): an own row of integers grows by n zeros. Conditions: not too many. -/
namespace Go.Proofs.YtmbjehnddgcboaaGreatDoor
open Go.RowKit
set_option linter.unusedVariables false
set_option linter.unusedSimpArgs false

theorem zeroCells_one (k : IntKind) (m : Nat) : Builtin.zeroCells #[.int k 0] m = (List.replicate m (Value.int k 0)).toArray := by
  unfold Builtin.zeroCells
  apply Array.ext
  · simp
  · intro i h1 h2
    simp [Nat.mod_one]
theorem map_rep (k : IntKind) (m : Nat) : (List.replicate m (0 : Int)).map (Value.int k) = List.replicate m (Value.int k 0) := by simp
section
variable {P : Program}
theorem run_append_zeros {w : World} {t tn ty e : TypeId} {k kn : IntKind} {bytes base m : Nat} {v : Value} {l : List Int} (E : Elem P t e (.int k 0) 1 bytes) (htn : P.underlying tn = some (.int kn))
    (hown : Own k e base w v l) (hbytes : (l.length + m) * bytes ≤ 140737488355328) (hbase : base ≤ w.heap.size) (h0 : InK k 0) :
    ∃ v' w', (Builtin.append_ #[t, tn] ty #[v, .int .i64 m]).run P w = .ok v' w' ∧ Own k e base w' v' (l ++ List.replicate m 0) ∧ Acc v w v' w' := by
  have hle : l.length + m ≤ 140737488355328 := Nat.le_trans (Nat.le_mul_of_pos_right _ E.bp) hbytes
  have hmb : m * bytes ≤ 140737488355328 := Nat.le_trans (Nat.mul_le_mul_right _ (by omega)) hbytes
  obtain ⟨i, hi, hz, hsize, hby⟩ := E.inf
  have hw : IntKind.i64.wrap (m : Int) = m := by rw [IntKind.wrap_i64]; omega
  have hneg : ¬ ((m : Int) < 0) := by omega
  have hw0 : IntKind.i64.wrap 0 = 0 := by rw [IntKind.wrap_i64]; omega
  have hr : ∀ y ∈ l ++ List.replicate m 0, InK k y := by
    intro y hy
    rcases List.mem_append.1 hy with hy | hy
    · exact hown.2 y hy
    · rw [(List.mem_replicate.1 hy).2]; exact h0
  have hcz : (Value.int k 0).cells = #[.int k 0] := rfl
  have h48i : ¬ (281474976710656 < (m : Int) * (i.bytes : Int)) := by
    rw [hby, ← Int.natCast_mul]; omega
  have grown : ∀ (n old : Nat) (xs : List Value), n = l.length → xs = l.map (Value.int k) → old < n + m →
      Own k e base (w.drew.alloc (.cells (xs.toArray ++ Builtin.zeroCells (Value.int k 0).cells m ++ Builtin.zeroCells (Value.int k 0).cells (grownCap w (n + m) old e - (n + m))) e)) (.slice (some ⟨w.heap.size, 0, none⟩) (n + m) (grownCap w (n + m) old e)) (l ++ List.replicate m 0) := by
    intro n old xs hn hxs ho
    subst hn; subst hxs
    have hge := grownCap_ge w (l.length + m) old e
    have hcm : grownCap w (l.length + m) old e ≤ maxLen := grownCap_le_maxLen w (l.length + m) old e (by simp only [maxLen]; omega)
    have hlen : (l ++ List.replicate m 0).length = l.length + m := by simp
    refine ⟨?_, hr⟩
    rw [hlen]
    refine ⟨by simp, .inr ⟨w.heap.size, _, _, rfl, hbase, heap_alloc_new w.drew _, hge, hcm, ?_, ?_⟩⟩
    · simp only [Array.size_append, List.size_toArray, size_zeroCells, hcz, List.length_map]
      simp; omega
    · rw [hcz, zeroCells_one, zeroCells_one, Array.toList_append, Array.toList_append]
      simp only [List.map_append, map_rep]
      rw [List.take_left' (by simp)]
  have quiet : ∀ (cs : Array Value) (v0 : Value) n c, Acc v0 w (.slice (some ⟨w.heap.size, 0, none⟩) n c) (w.drew.alloc (.cells cs e)) := fun cs v0 n c =>
    ⟨((Only.refl v0.ownBlock.toList w).drew).alloc _, .inr (fun g hg => by simp [Value.ownBlock] at hg; omega)⟩
  rcases hown.1.2 with ⟨rfl, hl0⟩ | ⟨g, cap, cur, rfl, hbg, hg, hnc, hcm, hcs, htake⟩
  · have hl : l = [] := List.eq_nil_of_length_eq_zero hl0
    subst hl
    by_cases hm : m = 0
    · subst hm
      refine ⟨.slice none 0 0, w, ?_, by simpa using hown, Acc.refl _ _⟩
      simp [Builtin.append_, run_underlying E.ut, run_underlying htn, sizeOf, typeInfo, hi, asInt, asIntOf, hw0, storeCells]
    · have hr2 := Lib.run_append_grow_zeros (P := P) w t tn ty e i _ .i64 kn E.ut htn hi hz none 0 0 [] (by simp [Builtin.firstCells]) m (by omega) (by omega) (by omega) (by omega) (by rw [hby]; omega) (by rw [hby]; exact growslice_fits (by omega) (by simpa using hbytes))
      exact ⟨_, _, hr2, grown 0 0 [] rfl rfl (by omega), quiet _ _ _ _⟩
  · by_cases hroom : l.length + m ≤ cap
    · by_cases hm : m = 0
      · subst hm
        refine ⟨_, w, ?_, by simpa using hown, Acc.refl _ _⟩
        simp [Builtin.append_, run_underlying E.ut, run_underlying htn, sizeOf, typeInfo, hi, asInt, asIntOf, hw0, hnc, storeCells]
      · have hst := run_storeCells_at (P := P) g l.length e (List.replicate m (Value.int k 0)) 0 cur w hg (by rw [List.length_replicate]; omega) (by intro u hu; rw [(List.mem_replicate.1 hu).2]; rfl)
        simp only [Nat.add_zero, List.length_replicate] at hst
        have hadd : (⟨g, 0, none⟩ : Addr).add l.length = ⟨g, l.length, none⟩ := by unfold Addr.add; split <;> simp_all
        have hrun : (Builtin.append_ #[t, tn] ty #[.slice (some ⟨g, 0, none⟩) l.length cap, .int .i64 m]).run P w = .ok (.slice (some ⟨g, 0, none⟩) (l.length + m) cap) (w.setRow g (cur.toList.take l.length ++ List.replicate m (Value.int k 0) ++ cur.toList.drop (l.length + m)).toArray) := by
          simp [Builtin.append_, run_underlying E.ut, run_underlying htn, sizeOf, typeInfo, zeroValue, hi, hz, asInt, asIntOf, hw, hneg, hroom, hsize, hm, h48i, hcz, zeroCells_one, hadd]
          simp only [List.append_assoc] at hst
          rw [hst]
          rfl
        have hL : (l ++ List.replicate m (0 : Int)).length = l.length + m := by simp
        refine ⟨_, _, hrun, ⟨?_, hr⟩, ⟨?_, .inl rfl⟩⟩
        · rw [hL]
          refine ⟨by simp, .inr ⟨g, cap, _, rfl, hbg, setRow_heap w g cur _ e _ hg, hroom, hcm, ?_, ?_⟩⟩
          · simp only [List.size_toArray, List.length_append, List.length_take, List.length_drop, Array.length_toList, List.length_replicate]
            omega
          · simp only [Nat.mul_one] at htake ⊢
            rw [htake, List.map_append, map_rep]
            exact List.take_left' (by simp)
        · exact ⟨rfl, rfl, rfl, by simp, fun j hj hn => setRow_other w g j _ (fun e => hn (by simp [Value.ownBlock, e]))⟩
    · have holds : ∀ j u, (l.map (Value.int k))[j]? = some u → w.cell? ((⟨g, 0, none⟩ : Addr).add j) = some u := hown.1.cells (g := g) rfl
      have hr2 := Lib.run_append_grow_zeros (P := P) w t tn ty e i _ .i64 kn E.ut htn hi hz (some ⟨g, 0, none⟩) l.length cap (l.map (Value.int k)) (by rw [hsize]; exact run_firstCells_some w.drew 1 l.length ⟨g, 0, none⟩ l.length cap _ (by simp) (by simpa using holds)) m (by omega) (by omega) (by omega) (by omega) (by rw [hby]; omega) (by rw [hby]; exact growslice_fits (by omega) hbytes)
      exact ⟨_, _, hr2, grown l.length cap _ rfl rfl (by omega), quiet _ _ _ _⟩
theorem wp_append_zeros {w : World} {o : Oper} {a : Act} {K : Act → World → Prop} {Q : Exit → Act → World → Prop} (s x : Operand) (t tn : TypeId)
    (ho : o.op = .call { callee := .builtin .append, args := #[s, x], argTypes := #[t, tn] })
    {e : TypeId} {k kn : IntKind} {bytes base : Nat} {v : Value} {l : List Int} {m : Int} (E : Elem P t e (.int k 0) 1 bytes) (htn : P.underlying tn = some (.int kn))
    (hown : Own k e base w v l) (hv : a.eval s = v) (hx : a.eval x = .int .i64 m) (hm : 0 ≤ m) (hbytes : (l.length + m.toNat) * bytes ≤ 140737488355328) (hbase : base ≤ w.heap.size) (h0 : InK k 0)
    (h : ∀ v' w', Own k e base w' v' (l ++ List.replicate m.toNat 0) → Acc v w v' w' → K (a.put o.dst v') w') : o.wp P a w K Q := by
  obtain ⟨n, rfl⟩ := Int.eq_ofNat_of_zero_le hm
  simp only [Int.toNat_natCast] at hbytes h
  obtain ⟨v', w', hrun, h2, h3⟩ := run_append_zeros (P := P) (ty := o.type) E htn hown hbytes hbase h0
  unfold Oper.wp execOp
  simp only [ho, resolve, invoke, builtin, Sem.run_bind, Sem.run_pure, Result.andThen_ok, List.map_toArray, List.map_cons, List.map_nil, hv, hx, hrun]
  exact h v' w' h2 h3
theorem wpList_append_zeros {w : World} {ops : Array Oper} {rest : List Oper} {o : Oper} {a : Act} {Q : Exit → Act → World → Prop} (hgd : o.guard = none) (s x : Operand) (t tn : TypeId)
    (ho : o.op = .call { callee := .builtin .append, args := #[s, x], argTypes := #[t, tn] })
    {e : TypeId} {k kn : IntKind} {bytes base : Nat} {v : Value} {l : List Int} {m : Int} (E : Elem P t e (.int k 0) 1 bytes) (htn : P.underlying tn = some (.int kn))
    (hown : Own k e base w v l) (hv : a.eval s = v) (hx : a.eval x = .int .i64 m) (hm : 0 ≤ m) (hbytes : (l.length + m.toNat) * bytes ≤ 140737488355328) (hbase : base ≤ w.heap.size) (h0 : InK k 0)
    (h : ∀ v' w', Own k e base w' v' (l ++ List.replicate m.toNat 0) → Acc v w v' w' → wpList P ops Q rest (a.put o.dst v') w') : wpList P ops Q (o :: rest) a w :=
  wpList_plain hgd fun _ hK => wp_append_zeros s x t tn ho E htn hown hv hx hm hbytes hbase h0 fun v' w' h2 h3 => hK _ _ (h v' w' h2 h3)
theorem step_append_zeros {w : World} {ops : Array Oper} {o : Oper} {a : Act} {K : Act → World → Prop} {Q : Exit → Act → World → Prop} {E' : Prop} (hgd : o.guard = none) (s x : Operand) (t tn : TypeId)
    (ho : o.op = .call { callee := .builtin .append, args := #[s, x], argTypes := #[t, tn] })
    {e : TypeId} {k kn : IntKind} {bytes base : Nat} {v : Value} {l : List Int} {m : Int} (E : Elem P t e (.int k 0) 1 bytes) (htn : P.underlying tn = some (.int kn))
    (hown : Own k e base w v l) (hv : a.eval s = v) (hx : a.eval x = .int .i64 m) (hm : 0 ≤ m) (hbytes : (l.length + m.toNat) * bytes ≤ 140737488355328) (hbase : base ≤ w.heap.size) (h0 : InK k 0)
    (h : ∀ v' w', Own k e base w' v' (l ++ List.replicate m.toNat 0) → Acc v w v' w' → K (a.put o.dst v') w') : if Region.wanted o (yielded ops a.tmps) = true then Oper.wp P o a w K Q else E' := by
  rw [if_pos (by simp [Region.wanted, hgd])]
  exact wp_append_zeros s x t tn ho E htn hown hv hx hm hbytes hbase h0 h
end
end Go.Proofs.YtmbjehnddgcboaaGreatDoor
