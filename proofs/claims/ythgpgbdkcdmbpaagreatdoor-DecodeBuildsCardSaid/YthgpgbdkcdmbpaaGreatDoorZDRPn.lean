/- kinlaw20.Plain: a square as the document's square. Conditions: its lists read. -/
import Derived.Test.YthgpgbdkcdmbpaaGreatDoorZDRBo
namespace Go.Proofs.YthgpgbdkcdmbpaaGreatDoor
open Go.RowKit
set_option linter.unusedVariables false
set_option linter.unusedSimpArgs false
set_option maxRecDepth 100000 in
set_option maxHeartbeats 4000000 in
theorem kplain_any {lo hi : Nat} {w : World} {k mo vx vy : Int} {ms : List Int} {lv : Value} {vs : List Value} {L : List Int} {S : List (List Int)} (hm : ms.length = 4) (h : SqIn lo hi w lv vs L S) :
  Calls Tryz.prog 29 #[.agg (sqL k mo ms vx vy lv vs).toArray] w fun e w' => e = .returned (.agg (sqL k mo ms vx vy lv vs).toArray) ∧ Only [] w w' := by
 obtain ⟨la, lcap, a0, c0, a1, c1, a2, c2, a3, c3, rfl, rfl⟩ := h.open
 obtain ⟨m0, m1, m2, m3, rfl⟩ := len4 hm
 have HQ := Lib.hid (fun (o o' : Obj) => (Only.new w o).alloc o')
 have HR := Lib.hid (fun (o o' : Obj) => heap_alloc_new (w.alloc o) o')
 generalize L.length = n at *
 generalize (S.getD 0 []).length = n0 at *
 generalize (S.getD 1 []).length = n1 at *
 generalize (S.getD 2 []).length = n2 at *
 generalize (S.getD 3 []).length = n3 at *
 clear h hm
 simp only [sqL, List.map_cons, List.map_nil, List.cons_append, List.nil_append]
 go_enter Tryz.func29, Tryz.ntmps29
 go_wp2_with fail
 have hr := HR.out (.cells #[.int .i64 k, .int .i64 mo, .int .i64 m0, .int .i64 m1, .int .i64 m2, .int .i64 m3, .int .i64 vx, .int .i64 vy, .slice la n lcap, .slice a0 n0 c0, .slice a1 n1 c1, .slice a2 n2 c2, .slice a3 n3 c3] 64) (.cells #[.int .i64 k, .int .i64 mo, .int .i64 m0, .int .i64 m1, .int .i64 m2, .int .i64 m3, .int .i64 vx, .int .i64 vy, .slice la n lcap, .slice a0 n0 c0, .slice a1 n1 c1, .slice a2 n2 c2, .slice a3 n3 c3] 70)
 rw [World.size_alloc] at hr
 exact bodyPost_ret (results_cell_row Tryz.results29 _ _ (w.heap.size + 1) _ _ _ _ rfl hr Tryz.underlying70 rfl (by kernel_rfl)) rfl ⟨rfl, HQ.out _ _⟩
end Go.Proofs.YthgpgbdkcdmbpaaGreatDoor
