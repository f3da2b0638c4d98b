/- decode.Frame where no squares are read: sides that may not be, a unit that may not be, no frame ahead, a flat one, a skip. Conditions: the arguments read. -/
import Derived.Test.YtkigikallkpbcaaGreatDoorS5
import Derived.Test.YtkigikallkpbcaaGreatDoorS4
import Derived.Test.YtkigikallkpbcaaGreatDoorC3
import Derived.Test.YtkigikallkpbcaaGreatDoorK1
namespace Go.Proofs.YtkigikallkpbcaaGreatDoor
open Go.RowKit
set_option linter.unusedVariables false
set_option linter.unusedSimpArgs false
set_option maxRecDepth 100000
set_option maxHeartbeats 16000000
theorem row3_set {w:World} {g:Nat} {a b c x y z:Value} {t:TypeId} (h:w.heap[g]?=some (.cells #[a,b,c] t (0,0))) :
  (((w.setCell ⟨g,0,none⟩ x).setCell ⟨g,1,none⟩ y).setCell ⟨g,2,none⟩ z).heap[g]?=some (.cells #[x,y,z] t (0,0))∧Only [g] w (((w.setCell ⟨g,0,none⟩ x).setCell ⟨g,1,none⟩ y).setCell ⟨g,2,none⟩ z):=by
 have h1:=heap_setCell_same w g 0 _ _ x h
 have h2:=heap_setCell_same _ g 1 _ _ y h1
 have h3:=heap_setCell_same _ g 2 _ _ z h2
 exact ⟨h3,(((Only.refl _ _).setCell (by simp) _).setCell (by simp) _).setCell (by simp) _⟩
section
variable {lo hi lo' hi':Nat} {dv pv:Value} {w:World} {c:Coded} {prev:FrameD} {l:List Int} {W H:Int}
end
end Go.Proofs.YtkigikallkpbcaaGreatDoor
