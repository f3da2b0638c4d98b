/- coef.Code as the decoder asks it. Conditions: the coder is a reader that may stand so; the list is of zeros. -/
import Derived.Test.YthcafdfdglfabaaGreatDoorS1
import Derived.Test.YthcafdfdglfabaaGreatDoorZDOrder
import Derived.Test.YthcafdfdglfabaaGreatDoorK2
namespace Go.Proofs.YthcafdfdglfabaaGreatDoor
open Go.RowKit
set_option linter.unusedVariables false
set_option linter.unusedSimpArgs false
set_option maxRecDepth 100000
set_option maxHeartbeats 16000000
theorem CO (w:World):Calls Tryz.prog 198 #[.int .i64 4] w fun e w'=>e=.returned (.int .i64 14)/\w=w':=by
 go_enter Tryz.func198,Tryz.ntmps198;go_wp2;go_ret;exact ⟨rfl,rfl⟩
theorem CP (w:World):Calls Tryz.prog 198 #[.int .i64 8] w fun e w'=>e=.returned (.int .i64 39)/\w=w':=by
 go_enter Tryz.func198,Tryz.ntmps198;go_wp2;go_ret;exact ⟨rfl,rfl⟩
section
variable {base last a i:Nat} {rest:List Nat} {out:List Int} {m:Mod}
end
end Go.Proofs.YthcafdfdglfabaaGreatDoor
