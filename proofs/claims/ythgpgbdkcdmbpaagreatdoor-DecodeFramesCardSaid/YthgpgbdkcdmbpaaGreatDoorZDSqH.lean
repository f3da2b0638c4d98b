/- Helpers of the laws of squares: two frames as a list, loads and stores of whole rows. Conditions: none. -/
import Derived.Test.YthgpgbdkcdmbpaaGreatDoorK6
import Derived.Test.YthgpgbdkcdmbpaaGreatDoorK2
import Derived.Deep.DeepCutAuto
import Derived.Test.YthgpgbdkcdmbpaaGreatDoorZDFew
import Derived.Test.YthgpgbdkcdmbpaaGreatDoorS1
namespace Go.Proofs.YthgpgbdkcdmbpaaGreatDoor
open Go.RowKit
set_option linter.unusedVariables false
set_option linter.unusedSimpArgs false
set_option maxRecDepth 100000
set_option maxHeartbeats 16000000
theorem wp_store_row {P : Program} {w : World} {o : Oper} {a : Act} {K : Act → World → Prop} {Q : Exit → Act → World → Prop} (x y : Operand) (t : TypeId) (ho : o.op = .store t x y)
  {g : Nat} {c c' : Array Value} {ty : TypeId} (hx : a.eval x = .pointer (some ⟨g, 0, none⟩)) (hy : a.eval y = .agg c') (hr : w.heap[g]? = some (.cells c ty (0, 0))) (hi : (P.info? t).map (·.size) = some c'.size) (hs : c.size = c'.size) (h1 : c'.all (·.oneCell') = true)
  (h : K (a.put o.dst undef) (w.setRow g c')) : o.wp P a w K Q := by
 unfold Oper.wp execOp
 simp only [ho, hx, hy, Instr.storeAt, Instr.sureAddr, Sem.run_bind, Sem.run_pure, Result.andThen_ok, run_storeVar_row w g ty t c c' hr hi hs h1]
 exact h
end Go.Proofs.YthgpgbdkcdmbpaaGreatDoor
