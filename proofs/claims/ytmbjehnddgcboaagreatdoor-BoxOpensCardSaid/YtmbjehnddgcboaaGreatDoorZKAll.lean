/- Joined texts: KAll. Conditions: each part names its own. -/
import Derived.Test.YtmbjehnddgcboaaGreatDoorZKAllA
import Derived.Test.YtmbjehnddgcboaaGreatDoorZKAllB
import Derived.Test.YtmbjehnddgcboaaGreatDoorZKAllC
import Derived.Test.YtmbjehnddgcboaaGreatDoorZKAllD
import Derived.Test.YtmbjehnddgcboaaGreatDoorZKAllE
/- The document's container, read whole. Conditions: the reader lies in a block behind its units, at their beginning. -/
namespace Go.Proofs.YtmbjehnddgcboaaGreatDoor
open Go.RowKit
set_option linter.unusedVariables false
set_option linter.unusedSimpArgs false
theorem kall_any {K : KS} {R lo hi : Nat} {bv : Value} {w : World} (h : KRd K R w 0 0) (hb : Ints .u8 lo hi w bv K.l) (hR : R < lo ∨ hi ≤ R) (hhi2 : hi ≤ w.heap.size) :
    Calls Tryz.prog 19 #[.pointer (some ⟨R, 0, none⟩), bv] w (KAllP K R w (allR K.l)) := by
  obtain ⟨e, ht⟩ := allX_tag K.l
  rw [← e]
  rcases ht with ht | ht | ht | ht | ht | ht | ht
  · exact kall_1 h hb hR hhi2 ht
  · exact kall_2 h hb hR hhi2 ht
  · exact kall_3 h hb hR hhi2 ht
  · exact kall_4 h hb hR hhi2 ht
  · exact kall_5 h hb hR hhi2 ht
  · exact kall_6 h hb hR hhi2 ht
  · exact kall_7 h hb hR hhi2 ht
#print axioms kall_any
end Go.Proofs.YtmbjehnddgcboaaGreatDoor
