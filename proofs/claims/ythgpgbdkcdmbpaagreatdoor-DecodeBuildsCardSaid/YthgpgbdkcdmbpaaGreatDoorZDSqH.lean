/- Helpers of the laws of squares: two frames as a list, loads and stores of whole rows. Conditions: none. -/
import Derived.Test.YthgpgbdkcdmbpaaGreatDoorK9
import Derived.Test.YthgpgbdkcdmbpaaGreatDoorZDFew
import Derived.Test.YthgpgbdkcdmbpaaGreatDoorK2
import Derived.Test.YthgpgbdkcdmbpaaGreatDoorS1
namespace Go.Proofs.YthgpgbdkcdmbpaaGreatDoor
open Go.RowKit
set_option linter.unusedVariables false
set_option linter.unusedSimpArgs false
theorem frames_two {W : World} {f p : FrameD} {pv pu : Value} {lo hi lo' hi' : Nat} (hp : Ints .i64 lo hi W pv f.pix) (hu : Ints .i64 lo' hi' W pu p.pix) :
  FramesAt 0 (max (max hi hi') (W.heap.size + 1)) (W.alloc (.cells #[.int .i64 f.W, .int .i64 f.H, pv, .int .i64 p.W, .int .i64 p.H, pu] 27)) (.slice (some ⟨W.heap.size, 0, none⟩) 2 2) [f, p] := by
 have hr := heap_alloc_new W (.cells #[.int .i64 f.W, .int .i64 f.H, pv, .int .i64 p.W, .int .i64 p.H, pu] 27)
 refine ⟨fun i j => if i = 0 then (if j = 0 then .int .i64 f.W else if j = 1 then .int .i64 f.H else pv) else (if j = 0 then .int .i64 p.W else if j = 1 then .int .i64 p.H else pu), ⟨some ⟨W.heap.size, 0, none⟩, 2, rfl, Nat.le_refl _, by simp [maxLen], fun _ => ⟨W.heap.size, 0, rfl, by omega, by omega, fun i j hi hj => ?_⟩⟩, fun i hi => ?_⟩
 ·have hi0 : i = 0 ∨ i = 1 := by simp at hi; omega
  rw [cell_of_row _ _ _ _ _ _ hr]
  rcases hi0 with rfl | rfl <;> rcases (by omega : j = 0 ∨ j = 1 ∨ j = 2) with rfl | rfl | rfl <;> rfl
 ·have hi0 : i = 0 ∨ i = 1 := by simp at hi; omega
  rcases hi0 with rfl | rfl
  ·exact ⟨rfl, rfl, (hp.quiet (Only.new W _)).mono (by omega) (by omega)⟩
  ·exact ⟨rfl, rfl, (hu.quiet (Only.new W _)).mono (by omega) (by omega)⟩
theorem weigh_lens {L : List Int} {S : List (List Int)} (h : weighD L S ≤ 20000) : L.length ≤ 1000000000 ∧ ∀ i, i < 4 → (S.getD i []).length ≤ 1000000000 := by
 simp only [weighD, wsum] at h
 refine ⟨by omega, fun i hi => ?_⟩
 rcases (by omega : i = 0 ∨ i = 1 ∨ i = 2 ∨ i = 3) with rfl | rfl | rfl | rfl <;> omega
/-- the load of a whole row, where its guard is met -/
theorem wpList_load_row_on {P : Program} {w : World} {ops : Array Oper} {rest : List Oper} {o : Oper} {a : Act} {Q : Exit → Act → World → Prop} (hgd : Region.wanted o (yielded ops a.tmps) = true) (x : Operand) (t : TypeId) (ho : o.op = .load t x)
  {g : Nat} {c : Array Value} {ty : TypeId} {fr : Nat × Nat} {d : TypeDesc} (hx : a.eval x = .pointer (some ⟨g, 0, none⟩)) (hr : w.heap[g]? = some (.cells c ty fr)) (hu : P.underlying t = some d) (hd : (match d with | .struct _ | .array _ _ => true | _ => false) = true)
  (hi : (P.info? t).map (·.size) = some c.size) (h : wpList P ops Q rest (a.put o.dst (.agg c)) w) : wpList P ops Q (o :: rest) a w :=
 wpList_step fun _ hK => by
  rw [if_pos hgd]
  unfold Oper.wp execOp
  simp only [ho, hx, Instr.loadAt, Instr.sureAddr, Sem.run_bind, Sem.run_pure, Result.andThen_ok, run_loadVar_row w g ty t c fr d hr hu hd hi]
  exact hK _ _ h
theorem wp_make {P : Program} {w w' : World} {o : Oper} {a : Act} {K : Act → World → Prop} {Q : Exit → Act → World → Prop} (t : TypeId) (l c : Operand) (ho : o.op = .makeSlice t l c) {v : Value}
  (hr : (Instr.makeSlice t (a.eval l) (a.eval c)).run P w = .ok v w') (h : K (a.put o.dst v) w') : o.wp P a w K Q := by
 unfold Oper.wp execOp
 simp only [ho, Sem.run_bind, Sem.run_pure, Result.andThen_ok, hr]
 exact h
theorem wp_store_row {P : Program} {w : World} {o : Oper} {a : Act} {K : Act → World → Prop} {Q : Exit → Act → World → Prop} (x y : Operand) (t : TypeId) (ho : o.op = .store t x y)
  {g : Nat} {c c' : Array Value} {ty : TypeId} (hx : a.eval x = .pointer (some ⟨g, 0, none⟩)) (hy : a.eval y = .agg c') (hr : w.heap[g]? = some (.cells c ty (0, 0))) (hi : (P.info? t).map (·.size) = some c'.size) (hs : c.size = c'.size) (h1 : c'.all (·.oneCell') = true)
  (h : K (a.put o.dst undef) (w.setRow g c')) : o.wp P a w K Q := by
 unfold Oper.wp execOp
 simp only [ho, hx, hy, Instr.storeAt, Instr.sureAddr, Sem.run_bind, Sem.run_pure, Result.andThen_ok, run_storeVar_row w g ty t c c' hr hi hs h1]
 exact h
end Go.Proofs.YthgpgbdkcdmbpaaGreatDoor
