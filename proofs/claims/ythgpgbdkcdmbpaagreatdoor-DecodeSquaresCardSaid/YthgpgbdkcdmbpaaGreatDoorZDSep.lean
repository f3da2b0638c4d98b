/- Joined texts: DSep. Conditions: each part names its own. -/
import Derived.Test.YthgpgbdkcdmbpaaGreatDoorK2
/- Two own rows that lie apart. Conditions: none. -/
namespace Go.Proofs.YthgpgbdkcdmbpaaGreatDoor
open Go.RowKit
/-- two rows lie apart -/
def SepD (a b : Value) : Prop := ∀ g, a.ownBlock = some g → b.ownBlock ≠ some g
theorem SepD.symm {a b : Value} (h : SepD a b) : SepD b a := fun g hg e => h g e hg
theorem SepD.nil (b : Value) : SepD (.slice none 0 0) b := fun g hg => by simp [Value.ownBlock] at hg
theorem Acc.sepD {a b c : Value} {w w' : World} (h : Acc a w b w') (s : SepD a c) (hc : ∀ g, c.ownBlock = some g → g < w.heap.size) : SepD b c := by
  intro g hg e
  rcases h.at_ with e' | e'
  · exact s g (e' ▸ hg) e
  · have := e' g hg; have := hc g e; omega
theorem Own.accD {k : IntKind} {e : TypeId} {base : Nat} {w w' : World} {v a b : Value} {l : List Int} (h : Own k e base w v l) (x : Acc a w b w') (s : SepD a v) : Own k e base w' v l :=
  h.only x.only (fun g hg => s g (by simpa using hg))
end Go.Proofs.YthgpgbdkcdmbpaaGreatDoor
