/- Squares in four parts, told by a coder of the document's: the steps, what is made. Conditions: the coder stands so. -/
import Derived.Test.YtkigikallkpbcaaGreatDoorR2
import Derived.Test.YtkigikallkpbcaaGreatDoorK6
import Derived.Test.YtkigikallkpbcaaGreatDoorK2
namespace Go.Proofs.YtkigikallkpbcaaGreatDoor
open Go.RowKit
set_option linter.unusedVariables false
set_option linter.unusedSimpArgs false
set_option maxRecDepth 100000
set_option maxHeartbeats 16000000
section
end
section
variable {σ:Type} {C:CodO σ} {qm:List Int} {ql:List (List Int)} {k:Nat} {ms:List Int} {ls:List (List Int)} {m m1 m2:σ} {mo:Nat} {l:List Int} {e:Err}
theorem smallGoG_more (h1:modeG C (qm.getD ms.length 0) m=(mo,m1)) (h2:coefG C 4 (ql.getD ls.length []) m1=(.ok l,m2)):smallGoG C qm ql (k+1) ms ls m=smallGoG C qm ql k (ms ++ [(mo:Int)]) (ls ++ [l]) m2:=by
 rw [smallGoG,h1];simp only [h2]
end
section
variable {O:Nat} {F F':List Nat} {w w':World} {vq:List Value} {ls:List (List Int)}
end
end Go.Proofs.YtkigikallkpbcaaGreatDoor
