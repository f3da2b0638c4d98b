/- Joined texts: K14. Conditions: each part names its own. -/
import Derived.Test.YtmbjehnddgcboaaGreatDoorZKParts
/- A struct of fourteen cells, stored cell by cell, then returned from its cells. Conditions: none. -/
namespace Go.Proofs.YtmbjehnddgcboaaGreatDoor
open Go.RowKit
set_option linter.unusedVariables false
set_option linter.unusedSimpArgs false

abbrev set14 (w : World) (g : Nat) (v0 v1 v2 v3 v4 v5 v6 v7 v8 v9 v10 v11 v12 v13 : Value) : World :=
  (((((((((((((w.setCell ⟨g, 0, none⟩ v0).setCell ⟨g, 1, none⟩ v1).setCell ⟨g, 2, none⟩ v2).setCell ⟨g, 3, none⟩ v3).setCell ⟨g, 4, none⟩ v4).setCell ⟨g, 5, none⟩ v5).setCell ⟨g, 6, none⟩ v6).setCell ⟨g, 7, none⟩ v7).setCell ⟨g, 8, none⟩ v8).setCell ⟨g, 9, none⟩ v9).setCell ⟨g, 10, none⟩ v10).setCell ⟨g, 11, none⟩ v11).setCell ⟨g, 12, none⟩ v12).setCell ⟨g, 13, none⟩ v13
section
variable {w Wf : World} {g : Nat} {a0 a1 a2 a3 a4 a5 a6 a7 a8 a9 a10 a11 a12 a13 v0 v1 v2 v3 v4 v5 v6 v7 v8 v9 v10 v11 v12 v13 : Value} {t : TypeId}
theorem step14_0 (h : w.heap[g]? = some (.cells #[a0, a1, a2, a3, a4, a5, a6, a7, a8, a9, a10, a11, a12, a13] t (0, 0))) : (w.setCell ⟨g, 0, none⟩ v0).heap[g]? = some (.cells #[v0, a1, a2, a3, a4, a5, a6, a7, a8, a9, a10, a11, a12, a13] t (0, 0)) := heap_setCell_same w g 0 _ _ v0 h
theorem step14_1 (h : w.heap[g]? = some (.cells #[v0, a1, a2, a3, a4, a5, a6, a7, a8, a9, a10, a11, a12, a13] t (0, 0))) : (w.setCell ⟨g, 1, none⟩ v1).heap[g]? = some (.cells #[v0, v1, a2, a3, a4, a5, a6, a7, a8, a9, a10, a11, a12, a13] t (0, 0)) := heap_setCell_same w g 1 _ _ v1 h
theorem step14_2 (h : w.heap[g]? = some (.cells #[v0, v1, a2, a3, a4, a5, a6, a7, a8, a9, a10, a11, a12, a13] t (0, 0))) : (w.setCell ⟨g, 2, none⟩ v2).heap[g]? = some (.cells #[v0, v1, v2, a3, a4, a5, a6, a7, a8, a9, a10, a11, a12, a13] t (0, 0)) := heap_setCell_same w g 2 _ _ v2 h
theorem step14_3 (h : w.heap[g]? = some (.cells #[v0, v1, v2, a3, a4, a5, a6, a7, a8, a9, a10, a11, a12, a13] t (0, 0))) : (w.setCell ⟨g, 3, none⟩ v3).heap[g]? = some (.cells #[v0, v1, v2, v3, a4, a5, a6, a7, a8, a9, a10, a11, a12, a13] t (0, 0)) := heap_setCell_same w g 3 _ _ v3 h
theorem step14_4 (h : w.heap[g]? = some (.cells #[v0, v1, v2, v3, a4, a5, a6, a7, a8, a9, a10, a11, a12, a13] t (0, 0))) : (w.setCell ⟨g, 4, none⟩ v4).heap[g]? = some (.cells #[v0, v1, v2, v3, v4, a5, a6, a7, a8, a9, a10, a11, a12, a13] t (0, 0)) := heap_setCell_same w g 4 _ _ v4 h
theorem step14_5 (h : w.heap[g]? = some (.cells #[v0, v1, v2, v3, v4, a5, a6, a7, a8, a9, a10, a11, a12, a13] t (0, 0))) : (w.setCell ⟨g, 5, none⟩ v5).heap[g]? = some (.cells #[v0, v1, v2, v3, v4, v5, a6, a7, a8, a9, a10, a11, a12, a13] t (0, 0)) := heap_setCell_same w g 5 _ _ v5 h
theorem step14_6 (h : w.heap[g]? = some (.cells #[v0, v1, v2, v3, v4, v5, a6, a7, a8, a9, a10, a11, a12, a13] t (0, 0))) : (w.setCell ⟨g, 6, none⟩ v6).heap[g]? = some (.cells #[v0, v1, v2, v3, v4, v5, v6, a7, a8, a9, a10, a11, a12, a13] t (0, 0)) := heap_setCell_same w g 6 _ _ v6 h
theorem step14_7 (h : w.heap[g]? = some (.cells #[v0, v1, v2, v3, v4, v5, v6, a7, a8, a9, a10, a11, a12, a13] t (0, 0))) : (w.setCell ⟨g, 7, none⟩ v7).heap[g]? = some (.cells #[v0, v1, v2, v3, v4, v5, v6, v7, a8, a9, a10, a11, a12, a13] t (0, 0)) := heap_setCell_same w g 7 _ _ v7 h
theorem step14_8 (h : w.heap[g]? = some (.cells #[v0, v1, v2, v3, v4, v5, v6, v7, a8, a9, a10, a11, a12, a13] t (0, 0))) : (w.setCell ⟨g, 8, none⟩ v8).heap[g]? = some (.cells #[v0, v1, v2, v3, v4, v5, v6, v7, v8, a9, a10, a11, a12, a13] t (0, 0)) := heap_setCell_same w g 8 _ _ v8 h
theorem step14_9 (h : w.heap[g]? = some (.cells #[v0, v1, v2, v3, v4, v5, v6, v7, v8, a9, a10, a11, a12, a13] t (0, 0))) : (w.setCell ⟨g, 9, none⟩ v9).heap[g]? = some (.cells #[v0, v1, v2, v3, v4, v5, v6, v7, v8, v9, a10, a11, a12, a13] t (0, 0)) := heap_setCell_same w g 9 _ _ v9 h
theorem step14_10 (h : w.heap[g]? = some (.cells #[v0, v1, v2, v3, v4, v5, v6, v7, v8, v9, a10, a11, a12, a13] t (0, 0))) : (w.setCell ⟨g, 10, none⟩ v10).heap[g]? = some (.cells #[v0, v1, v2, v3, v4, v5, v6, v7, v8, v9, v10, a11, a12, a13] t (0, 0)) := heap_setCell_same w g 10 _ _ v10 h
theorem step14_11 (h : w.heap[g]? = some (.cells #[v0, v1, v2, v3, v4, v5, v6, v7, v8, v9, v10, a11, a12, a13] t (0, 0))) : (w.setCell ⟨g, 11, none⟩ v11).heap[g]? = some (.cells #[v0, v1, v2, v3, v4, v5, v6, v7, v8, v9, v10, v11, a12, a13] t (0, 0)) := heap_setCell_same w g 11 _ _ v11 h
theorem step14_12 (h : w.heap[g]? = some (.cells #[v0, v1, v2, v3, v4, v5, v6, v7, v8, v9, v10, v11, a12, a13] t (0, 0))) : (w.setCell ⟨g, 12, none⟩ v12).heap[g]? = some (.cells #[v0, v1, v2, v3, v4, v5, v6, v7, v8, v9, v10, v11, v12, a13] t (0, 0)) := heap_setCell_same w g 12 _ _ v12 h
theorem step14_13 (h : w.heap[g]? = some (.cells #[v0, v1, v2, v3, v4, v5, v6, v7, v8, v9, v10, v11, v12, a13] t (0, 0))) : (w.setCell ⟨g, 13, none⟩ v13).heap[g]? = some (.cells #[v0, v1, v2, v3, v4, v5, v6, v7, v8, v9, v10, v11, v12, v13] t (0, 0)) := heap_setCell_same w g 13 _ _ v13 h
theorem row14 (h : w.heap[g]? = some (.cells #[a0, a1, a2, a3, a4, a5, a6, a7, a8, a9, a10, a11, a12, a13] t (0, 0))) : (set14 w g v0 v1 v2 v3 v4 v5 v6 v7 v8 v9 v10 v11 v12 v13).heap[g]? = some (.cells #[v0, v1, v2, v3, v4, v5, v6, v7, v8, v9, v10, v11, v12, v13] t (0, 0)) :=
  step14_13 (step14_12 (step14_11 (step14_10 (step14_9 (step14_8 (step14_7 (step14_6 (step14_5 (step14_4 (step14_3 (step14_2 (step14_1 (step14_0 h)))))))))))))
theorem only14 : Only [g] w (set14 w g v0 v1 v2 v3 v4 v5 v6 v7 v8 v9 v10 v11 v12 v13) := Only.setCell (Only.setCell (Only.setCell (Only.setCell (Only.setCell (Only.setCell (Only.setCell (Only.setCell (Only.setCell (Only.setCell (Only.setCell (Only.setCell (Only.setCell (Only.setCell (Only.refl _ _) (by simp) _) (by simp) _) (by simp) _) (by simp) _) (by simp) _) (by simp) _) (by simp) _) (by simp) _) (by simp) _) (by simp) _) (by simp) _) (by simp) _) (by simp) _) (by simp) _
theorem cells14 (h : Wf.heap[g]? = some (.cells #[v0, v1, v2, v3, v4, v5, v6, v7, v8, v9, v10, v11, v12, v13] t (0, 0))) : (Wf.cell? ⟨g, 0, none⟩ = some v0 ∧ Wf.cell? ⟨g, 1, none⟩ = some v1 ∧ Wf.cell? ⟨g, 2, none⟩ = some v2 ∧ Wf.cell? ⟨g, 3, none⟩ = some v3 ∧ Wf.cell? ⟨g, 4, none⟩ = some v4 ∧ Wf.cell? ⟨g, 5, none⟩ = some v5 ∧ Wf.cell? ⟨g, 6, none⟩ = some v6) ∧ (Wf.cell? ⟨g, 7, none⟩ = some v7 ∧ Wf.cell? ⟨g, 8, none⟩ = some v8 ∧ Wf.cell? ⟨g, 9, none⟩ = some v9 ∧ Wf.cell? ⟨g, 10, none⟩ = some v10 ∧ Wf.cell? ⟨g, 11, none⟩ = some v11 ∧ Wf.cell? ⟨g, 12, none⟩ = some v12 ∧ Wf.cell? ⟨g, 13, none⟩ = some v13) := by
  refine ⟨⟨?_, ?_, ?_, ?_, ?_, ?_, ?_⟩, ?_, ?_, ?_, ?_, ?_, ?_, ?_⟩ <;> (rw [cell_of_row _ _ _ _ _ _ h]; rfl)
theorem frz14 (h : Wf.heap[g]? = some (.cells #[v0, v1, v2, v3, v4, v5, v6, v7, v8, v9, v10, v11, v12, v13] t (0, 0))) : (Wf.frozen? ⟨g, 0, none⟩ = false ∧ Wf.frozen? ⟨g, 1, none⟩ = false ∧ Wf.frozen? ⟨g, 2, none⟩ = false ∧ Wf.frozen? ⟨g, 3, none⟩ = false ∧ Wf.frozen? ⟨g, 4, none⟩ = false ∧ Wf.frozen? ⟨g, 5, none⟩ = false ∧ Wf.frozen? ⟨g, 6, none⟩ = false) ∧ (Wf.frozen? ⟨g, 7, none⟩ = false ∧ Wf.frozen? ⟨g, 8, none⟩ = false ∧ Wf.frozen? ⟨g, 9, none⟩ = false ∧ Wf.frozen? ⟨g, 10, none⟩ = false ∧ Wf.frozen? ⟨g, 11, none⟩ = false ∧ Wf.frozen? ⟨g, 12, none⟩ = false ∧ Wf.frozen? ⟨g, 13, none⟩ = false) := by
  refine ⟨⟨?_, ?_, ?_, ?_, ?_, ?_, ?_⟩, ?_, ?_, ?_, ?_, ?_, ?_, ?_⟩ <;> exact frozen_of_row _ _ _ _ _ h
theorem row14h (h : w.heap[g]? = some (.cells #[a0, a1, a2, a3, a4, a5, a6, a7, a8, a9, a10, a11, a12, a13] t (0, 0))) : (set12 w g v0 v1 v2 v3 v4 v5 v6 v7 v8 v9 v10 v11).heap[g]? = some (.cells #[v0, v1, v2, v3, v4, v5, v6, v7, v8, v9, v10, v11, a12, a13] t (0, 0)) :=
  step14_11 (step14_10 (step14_9 (step14_8 (step14_7 (step14_6 (step14_5 (step14_4 (step14_3 (step14_2 (step14_1 (step14_0 h)))))))))))
/-- sixteen result cells, written -/
theorem set16r {A B : Nat} {y0 y1 b0 b1 : Value} {s : TypeId} (hA : w.heap[A]? = some (.cells #[a0, a1, a2, a3, a4, a5, a6, a7, a8, a9, a10, a11, a12, a13] t (0, 0))) (hB : w.heap[B]? = some (.cells #[b0, b1] s (0, 0))) (hAB : A ≠ B) (hw : ((set14 w A v0 v1 v2 v3 v4 v5 v6 v7 v8 v9 v10 v11 v12 v13).setCell ⟨B, 0, none⟩ y0).setCell ⟨B, 1, none⟩ y1 = Wf) :
    Wf.heap[A]? = some (.cells #[v0, v1, v2, v3, v4, v5, v6, v7, v8, v9, v10, v11, v12, v13] t (0, 0)) ∧ (Wf.cell? ⟨B, 0, none⟩ = some y0 ∧ Wf.cell? ⟨B, 1, none⟩ = some y1) ∧ Only [A, B] w Wf := by
  have o1 : Only [A] w (set14 w A v0 v1 v2 v3 v4 v5 v6 v7 v8 v9 v10 v11 v12 v13) := only14
  have r1 := row14 (v0 := v0) (v1 := v1) (v2 := v2) (v3 := v3) (v4 := v4) (v5 := v5) (v6 := v6) (v7 := v7) (v8 := v8) (v9 := v9) (v10 := v10) (v11 := v11) (v12 := v12) (v13 := v13) hA
  have rB := o1.rowAt hB (by simpa using fun h => hAB h.symm)
  obtain ⟨k0, k1, o2, r2⟩ := set2r rB hw
  exact ⟨o2.rowAt r1 (by simpa using hAB), ⟨k0, k1⟩, o1.trans o2 (by simp) (by simp)⟩
end
end Go.Proofs.YtmbjehnddgcboaaGreatDoor
