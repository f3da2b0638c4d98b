/- decode.Frame where no squares are read: sides that may not be, a unit that may not be, no frame ahead, a flat one, a skip. Conditions: the arguments read. -/
import Derived.Test.YthcafdfdglfabaaGreatDoorS4
namespace Go.Proofs.YthcafdfdglfabaaGreatDoor
open Go.RowKit
set_option linter.unusedVariables false
set_option linter.unusedSimpArgs false
set_option maxRecDepth 100000
set_option maxHeartbeats 16000000
theorem fd {w:World} {g:Nat} {a b c x y z:Value} {t:TypeId} (h:w.heap[g]?=some (.cells #[a,b,c] t (0,0))) :
  (((w.setCell ⟨g,0,none⟩ x).setCell ⟨g,1,none⟩ y).setCell ⟨g,2,none⟩ z).heap[g]?=some (.cells #[x,y,z] t (0,0))/\ae [g] w (((w.setCell ⟨g,0,none⟩ x).setCell ⟨g,1,none⟩ y).setCell ⟨g,2,none⟩ z):=by
 have h1:=heap_setCell_same w g 0 _ _ x h;have h2:=heap_setCell_same _ g 1 _ _ y h1;have h3:=heap_setCell_same _ g 2 _ _ z h2;exact ⟨h3,(((ae.refl _ _).setCell Mg _).setCell Mg _).setCell Mg _⟩
section
variable {lo hi lo' hi':Nat} {dv pv:Value} {w:World} {c:kH} {prev:ai} {l:List Int} {W H:Int}
end
end Go.Proofs.YthcafdfdglfabaaGreatDoor
