/- Joined texts: CfgM. Conditions: each part names its own. -/
import Derived.Test.YtmbjehnddgcboaaGreatDoorC1
/- kinref18.May answers whether a configuration is valid. Conditions: none. -/
namespace Go.Proofs.YtmbjehnddgcboaaGreatDoor
open Go.RowKit
set_option linter.unusedVariables false
set_option linter.unusedSimpArgs false

set_option maxRecDepth 100000 in
set_option maxHeartbeats 4000000 in
theorem kmay_any (c : Cfg) (w : World) :
    Calls Tryz.prog 68 #[c.v] w fun e w' => e = .returned (.bool (mayB c)) ∧ Only [] w w' := by
  obtain ⟨a0, a1, a2, a3, a4, a5, a6, a7⟩ := c
  unfold Cfg.v
  go_enter Tryz.func68, Tryz.ntmps68
  go_wp2_with fail
  all_goals
    go_ret
    refine ⟨ret_bool ?_, (Only.refl _ _).alloc _⟩
    unfold mayB
    rw [Bool.eq_iff_iff]
    simp
    try omega
end Go.Proofs.YtmbjehnddgcboaaGreatDoor
