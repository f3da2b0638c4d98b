/- Joined texts: Cfg. Conditions: each part names its own. -/
import Derived.Test.YtmbjehnddgcboaaGreatDoorC1
/- kinref18.May, kinref23.side, number and begins answer as the program's own. Conditions: none. -/
namespace Go.Proofs.YtmbjehnddgcboaaGreatDoor
open Go.RowKit
set_option linter.unusedVariables false
set_option linter.unusedSimpArgs false

theorem kside_any (n : Int) (w : World) : Calls Tryz.prog 67 #[.int .i64 n] w fun e w' => e = .returned (.bool (sideB n)) ∧ w = w' := by
  by_cases h1 : 8 ≤ n
  · by_cases h2 : n ≤ 32
    · go_enter Tryz.func67, Tryz.ntmps67
      go_wp2
      all_goals
        go_ret
        refine ⟨ret_bool ?_, rfl⟩
        unfold sideB
        rw [Bool.eq_iff_iff]
        simp
        try omega
    · go_enter Tryz.func67, Tryz.ntmps67
      go_wp2
      go_ret
      refine ⟨ret_bool ?_, rfl⟩
      unfold sideB; rw [eq_comm, decide_eq_false_iff_not]; omega
  · go_enter Tryz.func67, Tryz.ntmps67
    go_wp2
    go_ret
    refine ⟨ret_bool ?_, rfl⟩
    unfold sideB; rw [eq_comm, decide_eq_false_iff_not]; omega

def numB (n : Int) : Bool := decide (0 ≤ n ∧ n ≤ 15)
theorem begins_any (k : Int) (w : World) : Calls Tryz.prog 94 #[.int .i64 k] w fun e w' => e = .returned (.bool (firstB k)) ∧ w = w' := by
  by_cases h1 : k = 1
  · subst h1
    go_enter Tryz.func94, Tryz.ntmps94
    go_wp2
    all_goals
      go_ret
      exact ⟨ret_bool (by simp [firstB]), rfl⟩
  · have h1b : (k == 1) = false := by simpa using h1
    have H1 := Lib.hid h1
    clear h1
    go_enter Tryz.func94, Tryz.ntmps94
    go_wp2
    all_goals
      go_ret
      refine ⟨ret_bool ?_, rfl⟩
      have := H1.out
      unfold firstB
      rw [Bool.eq_iff_iff]
      simp [this]

end Go.Proofs.YtmbjehnddgcboaaGreatDoor
