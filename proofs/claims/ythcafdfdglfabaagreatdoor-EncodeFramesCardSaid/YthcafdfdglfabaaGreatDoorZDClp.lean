/- plane.Clip. Conditions: none. -/
import Derived.Test.YthcafdfdglfabaaGreatDoorK1
namespace Go.Proofs.YthcafdfdglfabaaGreatDoor
open Go.RowKit
set_option linter.unusedVariables false
set_option linter.unusedSimpArgs false
set_option maxRecDepth 100000
set_option maxHeartbeats 16000000
theorem wA (v:Int) (w:World):Calls Tryz.prog 147 #[v] w fun e w'=>e=.returned (.int .i64 (ep v))/\w=w':=by
 go_enter Tryz.func147,Tryz.ntmps147;go_wp2
 all_goals
  go_ret;exact ⟨dN (by unfold ep;first | rfl | omega | (split <;> omega)),rfl⟩
end Go.Proofs.YthcafdfdglfabaaGreatDoor
