/- Joined texts: RdA. Conditions: each part names its own. -/
import Derived.Test.YtmbjehnddgcboaaGreatDoorZRdE
/- The reader of box: alone. Conditions: the reader lies in a block behind its bytes. -/
namespace Go.Proofs.YtmbjehnddgcboaaGreatDoor
open Go.RowKit
set_option linter.unusedVariables false
set_option linter.unusedSimpArgs false

theorem ints_range {l : List Int} (h : ∀ x ∈ l, InK .u8 x) {i : Nat} (hi : i < l.length) : 0 ≤ l.getD i 0 ∧ l.getD i 0 ≤ 255 := by
  have : InK .u8 (l.getD i 0) := by refine h _ ?_; simp [hi]
  exact this

theorem nextD_in {d : List Int} {p : Nat} {u : UnitD} (h : nextD d p = .ok u) (hr : ∀ x ∈ d, InK .u8 x) : ∀ x ∈ u.data, InK .u8 x := by
  unfold nextD at h
  split at h
  · cases h; simp
  split at h
  · cases h
  split at h
  · cases h
  split at h
  · cases h
  split at h
  · cases h
  cases h
  exact fun x hx => hr x (List.mem_of_mem_drop (List.mem_of_mem_take hx))
theorem peekR_in {l : List Int} {p : Nat} {u : UnitD} (h : peekR l p = .ok u) (hr : ∀ x ∈ l, InK .u8 x) : ∀ x ∈ u.data, InK .u8 x := by
  unfold peekR at h
  split at h
  · cases h
  exact nextD_in h (fun x hx => hr x (List.mem_of_mem_drop hx))

end Go.Proofs.YtmbjehnddgcboaaGreatDoor
