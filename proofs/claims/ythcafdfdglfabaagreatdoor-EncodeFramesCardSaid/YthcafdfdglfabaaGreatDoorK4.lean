/- rac.Decoder: next, narrow, Code, Flat, NewDecoder. Conditions: the decoder lies in a block behind its bytes. -/
import Derived.Test.YthcafdfdglfabaaGreatDoorK1
import Derived.Test.YthcafdfdglfabaaGreatDoorC4
import Derived.StillTailTactics
namespace Go.Proofs.YthcafdfdglfabaaGreatDoor
open Go.RowKit
set_option linter.unusedVariables false
set_option linter.unusedSimpArgs false
set_option maxRecDepth 100000
set_option maxHeartbeats 16000000
theorem zj (p:Int) (w:World) (h1:1<=p) (h2:p<=2047):Calls Tryz.prog 260 #[p] w fun e w'=>e=.returned (.bool true)/\w=w':=by
 go_enter Tryz.func260,Tryz.ntmps260;go_wp2;go_ret;exact ⟨rfl,rfl⟩
end Go.Proofs.YthcafdfdglfabaaGreatDoor
