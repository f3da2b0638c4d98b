/- The law kinlaw21.DecodeTotal answers true. Conditions: the arguments read; errors.errorType holds error's type. -/
import Derived.Test.YthgpgbdkcdmbpaaGreatDoorZDFirst
namespace Go.Proofs.YthgpgbdkcdmbpaaGreatDoor
open Go.RowKit
set_option linter.unusedVariables false
set_option linter.unusedSimpArgs false
set_option maxRecDepth 100000
set_option maxHeartbeats 16000000
theorem frames_one {W : World} {f : FrameD} {pv : Value} {lo hi B : Nat} (hB : B = W.heap.size) (hp : Ints .i64 lo hi W pv f.pix) :
  FramesAt (min lo B) (max hi (B + 1)) (W.alloc (.cells #[.int .i64 f.W, .int .i64 f.H, pv] 27)) (.slice (some ⟨B, 0, none⟩) 1 1) [f] := by
 subst hB
 have hr := heap_alloc_new W (.cells #[.int .i64 f.W, .int .i64 f.H, pv] 27)
 refine ⟨fun i j => if j = 0 then .int .i64 f.W else if j = 1 then .int .i64 f.H else pv, ⟨some ⟨W.heap.size, 0, none⟩, 1, rfl, Nat.le_refl _, by simp [maxLen], fun _ => ⟨W.heap.size, 0, rfl, by omega, by omega, fun i j hi hj => ?_⟩⟩, fun i hi => ?_⟩
 ·have hi0 : i = 0 := by simp at hi; omega
  subst hi0
  rw [cell_of_row _ _ _ _ _ _ hr]
  rcases (by omega : j = 0 ∨ j = 1 ∨ j = 2) with rfl | rfl | rfl <;> rfl
 ·have hi0 : i = 0 := by simp at hi; omega
  subst hi0
  exact ⟨rfl, rfl, (hp.quiet (Only.new W _)).mono (by omega) (by omega)⟩
end Go.Proofs.YthgpgbdkcdmbpaaGreatDoor
