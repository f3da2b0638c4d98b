/- rac.Decoder: next, narrow, Code, Flat, NewDecoder. Conditions: the decoder lies in a block behind its bytes. -/
import Derived.Test.YtkigikallkpbcaaGreatDoorK1
import Derived.Test.YtkigikallkpbcaaGreatDoorC4
import Derived.Test.YtkigikallkpbcaaGreatDoorC1
import Derived.StillTailTactics
import Derived.BigRegion
import Derived.Deep.RegionWith
import Derived.Laws.Bits64b
namespace Go.Proofs.YtkigikallkpbcaaGreatDoor
open Go.RowKit
set_option linter.unusedVariables false
set_option linter.unusedSimpArgs false
set_option maxRecDepth 100000
set_option maxHeartbeats 16000000
theorem chance_any (p:Int) (w:World) (h1:1≤p) (h2:p≤2047):Calls Tryz.prog 215 #[.int .i64 p] w fun e w'=>e=.returned (.bool true)∧w=w':=by
 go_enter Tryz.func215,Tryz.ntmps215
 go_wp2
 go_ret
 exact ⟨rfl,rfl⟩
end Go.Proofs.YtkigikallkpbcaaGreatDoor
