/- Joined texts: OwnS. Conditions: each part names its own. -/
import Derived.Test.YtmbjehnddgcboaaGreatDoorC4
import Derived.Deep.OwnRows
/- A slice of integers that the call made itself: its cells, stores into it, a slice that make has just laid. Conditions: none. -/
namespace Go.Proofs.YtmbjehnddgcboaaGreatDoor
open Go.RowKit
set_option linter.unusedVariables false
set_option linter.unusedSimpArgs false

/-- an own slice at block g, its whole capacity known -/
def Arr (k : IntKind) (e : TypeId) (g : Nat) (w : World) (cap : Nat) (l : List Int) : Prop := Own k e g w (.slice (some ⟨g, 0, none⟩) l.length cap) l
section
variable {k : IntKind} {e : TypeId} {g cap base : Nat} {w w' : World} {l : List Int}
theorem Own.cellS {n : Nat} (h : Own k e base w (.slice (some ⟨g, 0, none⟩) n cap) l) (hn : n = l.length) {i : Nat} (hi : i < l.length) : w.cell? ⟨g, i, none⟩ = some (.int k (l.getD i 0)) := by
  subst hn
  have := h.1.cellAt i (by omega)
  rw [this, List.getElem?_map]
  simp [hi]
theorem Own.frzS {n : Nat} (h : Own k e base w (.slice (some ⟨g, 0, none⟩) n cap) l) (hn : n = l.length) (j : Nat) : w.frozen? ⟨g, j, none⟩ = false := by
  subst hn
  exact h.1.frozenAt j
theorem Own.storeS {n : Nat} (h : Own k e base w (.slice (some ⟨g, 0, none⟩) n cap) l) (hn : n = l.length) {x : Int} (hx : InK k x) (i : Nat) :
    Own k e base (w.setCell ⟨g, i, none⟩ (.int k x)) (.slice (some ⟨g, 0, none⟩) n cap) (l.set i x) ∧ Only [g] w (w.setCell ⟨g, i, none⟩ (.int k x)) := by
  subst hn
  obtain ⟨hst, hgr⟩ := h.1.stored i (.int k x)
  refine ⟨⟨?_, fun y hy => ?_⟩, Only.of_grown hgr⟩
  · rw [List.length_set, List.map_set]; exact hst
  · rcases List.mem_or_eq_of_mem_set hy with hy | rfl
    · exact h.2 y hy
    · exact hx
end
theorem InK.zero (k : IntKind) : InK k 0 := by cases k <;> simp [InK]
/-- what make has just laid: zeros -/
theorem own_made (k : IntKind) (t : TypeId) (w : World) (n : Nat) (hn : n ≤ maxLen) :
    Own k t w.heap.size (w.alloc (.cells (madeCells #[.int k 0] n) t)) (.slice (some ⟨w.heap.size, 0, none⟩) n n) (List.replicate n 0) := by
  have h0 := World.ownsRow_lit w (base := w.heap.size) (e := t) (size := 1) (madeCells #[.int k 0] n) n (Nat.le_refl _) hn (by rw [size_madeCells, Nat.mul_one])
  rw [toList_madeCells_one] at h0
  exact ⟨by simpa using h0, fun x hx => by rw [(List.mem_replicate.1 hx).2]; exact InK.zero k⟩
theorem Acc.row {a b : Value} {w w' : World} {B g : Nat} {o : Obj} (h : Acc a w b w') (ha : From B a) (hr : w.heap[g]? = some o) (hg : g < B) : w'.heap[g]? = some o :=
  (h.only.block g (Array.getElem?_eq_some_iff.1 hr).1 (fun hm => by have := ha g (by simpa using hm); omega)).trans hr
theorem Only.row {w w' : World} {g : Nat} {o : Obj} (h : Only [] w w') (hr : w.heap[g]? = some o) : w'.heap[g]? = some o :=
  (h.block g (Array.getElem?_eq_some_iff.1 hr).1 (by simp)).trans hr
theorem row2 {w : World} {g : Nat} {v0 v1 : Value} {t : TypeId} (h : w.heap[g]? = some (.cells #[v0, v1] t (0, 0))) :
    w.cell? ⟨g, 0, none⟩ = some v0 ∧ w.cell? ⟨g, 1, none⟩ = some v1 ∧ w.frozen? ⟨g, 0, none⟩ = false ∧ w.frozen? ⟨g, 1, none⟩ = false ∧ g < w.heap.size :=
  ⟨by rw [cell_of_row _ _ _ _ _ _ h]; rfl, by rw [cell_of_row _ _ _ _ _ _ h]; rfl, frozen_of_row _ _ _ _ _ h, frozen_of_row _ _ _ _ _ h, (Array.getElem?_eq_some_iff.1 h).1⟩
theorem Only.set2 {w w1 : World} {g : Nat} (h : Only [] w w1) (hg : w.heap.size ≤ g) (u0 u1 : Value) : Only [] w ((w1.setCell ⟨g, 0, none⟩ u0).setCell ⟨g, 1, none⟩ u1) :=
  (h.setCell (fun hh => absurd hh (by simp; omega)) _).setCell (fun hh => absurd hh (by simp; omega)) _
/-- a part of a slice of bytes, wherever its capacity ends: from i on -/
theorem slice_from {lo hi b off cap : Nat} {w : World} {l : List Int} (h : Ints .u8 lo hi w (.slice (some ⟨b, off, none⟩) l.length cap) l) (hlc : l.length ≤ cap) {i : Nat} (hi' : i ≤ l.length) {z : Int} (hz : z = (i : Int)) :
    ∃ a', (∀ W, (Instr.slice 22 (.slice (some ⟨b, off, none⟩) l.length cap) (some (.int .i64 z)) none none).run Tryz.prog W = .ok (.slice a' (l.length - i) (cap - i)) W) ∧ Ints .u8 lo hi w (.slice a' (l.length - i) (cap - i)) (l.drop i) := by
  subst hz
  by_cases hc : cap = i
  · have hl : l.length = i := by omega
    have hd : l.drop i = [] := List.drop_eq_nil_of_le (by omega)
    refine ⟨some ⟨b, off, none⟩, fun W => ?_, ?_⟩
    · subst hc
      simp [Instr.slice, run_underlying Tryz.underlying22, Instr.sliceBounds, Instr.sliceBound, asIntOf, go_sem, hl]
    · rw [hd, hl, hc, Nat.sub_self]
      exact ⟨⟨rfl, some ⟨b, off, none⟩, 0, rfl, Nat.le_refl _, Nat.zero_le _, fun h => absurd h (by simp)⟩, by simp⟩
  · refine ⟨some ⟨b, off + i, none⟩, fun W => ?_, ?_⟩
    · have h5 : ¬ cap = i := hc
      simp [Instr.slice, run_underlying Tryz.underlying22, Instr.sliceBounds, Instr.sliceBound, asIntOf, go_sem, hi', hlc, h5]
    · have := h.sub hi' (Nat.le_refl _) (cap - i) (by omega) (by omega)
      rwa [List.take_length] at this
/-- from i up to j -/
theorem slice_part {lo hi b off cap : Nat} {w : World} {l : List Int} (h : Ints .u8 lo hi w (.slice (some ⟨b, off, none⟩) l.length cap) l) (hlc : l.length ≤ cap) {i j : Nat} (hij : i ≤ j) (hj : j ≤ l.length) {y z : Int} (hy : y = (i : Int)) (hz : z = (j : Int)) :
    ∃ a', (∀ W, (Instr.slice 22 (.slice (some ⟨b, off, none⟩) l.length cap) (some (.int .i64 y)) (some (.int .i64 z)) none).run Tryz.prog W = .ok (.slice a' (j - i) (cap - i)) W) ∧ Ints .u8 lo hi w (.slice a' (j - i) (cap - i)) ((l.take j).drop i) := by
  subst hz; subst hy
  by_cases hc : cap = i
  · have hd : (l.take j).drop i = [] := List.drop_eq_nil_of_le (by rw [List.length_take]; omega)
    have hji : j = i := by omega
    refine ⟨some ⟨b, off, none⟩, fun W => ?_, ?_⟩
    · subst hc; subst hji
      simp [Instr.slice, run_underlying Tryz.underlying22, Instr.sliceBounds, Instr.sliceBound, asIntOf, go_sem]
    · rw [hd, hji, hc, Nat.sub_self]
      exact ⟨⟨rfl, some ⟨b, off, none⟩, 0, rfl, Nat.le_refl _, Nat.zero_le _, fun h => absurd h (by simp)⟩, by simp⟩
  · refine ⟨some ⟨b, off + i, none⟩, fun W => ?_, h.sub hij hj (cap - i) (by omega) (by omega)⟩
    have h5 : ¬ cap = i := hc
    have h6 : j ≤ cap := by omega
    simp [Instr.slice, run_underlying Tryz.underlying22, Instr.sliceBounds, Instr.sliceBound, asIntOf, go_sem, hij, h6, h5]
/-- up to j -/
theorem slice_upto {lo hi b off cap : Nat} {w : World} {l : List Int} (h : Ints .u8 lo hi w (.slice (some ⟨b, off, none⟩) l.length cap) l) (hlc : l.length ≤ cap) {j : Nat} (hj : j ≤ l.length) {z : Int} (hz : z = (j : Int)) :
    (∀ W, (Instr.slice 22 (.slice (some ⟨b, off, none⟩) l.length cap) none (some (.int .i64 z)) none).run Tryz.prog W = .ok (.slice (some ⟨b, off, none⟩) j cap) W) ∧ Ints .u8 lo hi w (.slice (some ⟨b, off, none⟩) j cap) (l.take j) := by
  refine ⟨fun W => slice_to j hz (by omega) W, ?_⟩
  have := h.sub (Nat.zero_le j) hj cap (Nat.le_refl _) (by omega)
  simpa using this
theorem set1_cell {w : World} {a p : Addr} {u v : Value} (hc : w.cell? p = some v) (hp : a.block ≠ p.block) : (w.setCell a u).cell? p = some v :=
  (World.cell?_setCell_other w a p u (fun e => hp (by rw [e]))).trans hc
theorem set2_cell {w : World} {g : Nat} {p : Addr} {u0 u1 v : Value} (hc : w.cell? p = some v) (hp : g ≠ p.block) : ((w.setCell ⟨g, 0, none⟩ u0).setCell ⟨g, 1, none⟩ u1).cell? p = some v := set1_cell (set1_cell hc hp) hp
theorem set3_cell {w : World} {g : Nat} {p : Addr} {u0 u1 u2 v : Value} (hc : w.cell? p = some v) (hp : g ≠ p.block) : (((w.setCell ⟨g, 0, none⟩ u0).setCell ⟨g, 1, none⟩ u1).setCell ⟨g, 2, none⟩ u2).cell? p = some v := set1_cell (set2_cell hc hp) hp
theorem set4_cell {w : World} {g : Nat} {p : Addr} {u0 u1 u2 u3 v : Value} (hc : w.cell? p = some v) (hp : g ≠ p.block) : ((((w.setCell ⟨g, 0, none⟩ u0).setCell ⟨g, 1, none⟩ u1).setCell ⟨g, 2, none⟩ u2).setCell ⟨g, 3, none⟩ u3).cell? p = some v := set1_cell (set3_cell hc hp) hp
end Go.Proofs.YtmbjehnddgcboaaGreatDoor
