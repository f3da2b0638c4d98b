/- Joined texts: DBlock. Conditions: each part names its own. -/
import Derived.Test.YthgpgbdkcdmbpaaGreatDoorZDSquareW
/- motion.Block of eight times eight. Conditions: a frame that may be, a place in it, a vector that may be. -/
namespace Go.Proofs.YthgpgbdkcdmbpaaGreatDoor
open Go.RowKit
set_option linter.unusedVariables false
set_option linter.unusedSimpArgs false

set_option maxRecDepth 100000 in
set_option maxHeartbeats 4000000 in
theorem mblock_any {lo hi : Nat} {pv : Value} {w : World} {f : FrameD} (hok : FrOk f) (h : Ints .i64 lo hi w pv f.pix) (x y vx vy : Int) (hx : 0 ≤ x ∧ x ≤ 32) (hy : 0 ≤ y ∧ y ≤ 32) (hvx : -15 ≤ vx ∧ vx ≤ 15) (hvy : -15 ≤ vy ∧ vy ≤ 15) :
    Calls Tryz.prog 72 #[.agg #[.int .i64 f.W, .int .i64 f.H, pv], .int .i64 x, .int .i64 y, .int .i64 8, .agg #[.int .i64 vx, .int .i64 vy]] w fun e w' => ∃ v', e = .returned v' ∧ Own .i64 3 w.heap.size w' v' (blockD f x y 8 vx vy) ∧ Only [] w w' := by
  suffices key : ∀ Q : Ending → World → Prop, Hid (∀ e w', (∃ v', e = .returned v' ∧ Own .i64 3 w.heap.size w' v' (blockD f x y 8 vx vy) ∧ Only [] w w') → Q e w') → Calls Tryz.prog 72 #[.agg #[.int .i64 f.W, .int .i64 f.H, pv], .int .i64 x, .int .i64 y, .int .i64 8, .agg #[.int .i64 vx, .int .i64 vy]] w Q from key _ (Lib.hid fun _ _ h => h)
  intro Q HPost
  obtain ⟨a, cap, rfl, -⟩ := h.open
  have hq1 := Only.new w (.cells #[.int .i64 f.W, .int .i64 f.H, .slice a f.pix.length cap] 27)
  have hq2 := hq1.q (Only.new _ (.cells #[.int .i64 vx, .int .i64 vy] 61))
  have hr1 := (Only.new (w.alloc (.cells #[.int .i64 f.W, .int .i64 f.H, .slice a f.pix.length cap] 27)) (.cells #[.int .i64 vx, .int .i64 vy] 61)).row (heap_alloc_new w _)
  have hr2 := heap_alloc_new' (w := w.alloc (.cells #[.int .i64 f.W, .int .i64 f.H, .slice a f.pix.length cap] 27)) (o := .cells #[.int .i64 vx, .int .i64 vy] 61) (g := w.heap.size + 1) (by simp)
  have HI := Lib.hid (h.quiet hq2)
  have HR1 := Lib.hid hr1
  have HR2 := Lib.hid hr2
  have HQ2 := Lib.hid hq2
  have HM := Lib.hid (fun (W : World) (o : Ints .i64 lo hi W (.slice a f.pix.length cap) f.pix) => pmay_any f.W f.H o)
  have ht : mayF ⟨f.W, f.H, f.pix⟩ = true := mayF_iff.2 hok
  have hvt : (vpartB vx && vpartB vy) = true := by simp [vpartB, hvx, hvy]
  have HS := Lib.hid (fun (W : World) (o : Ints .i64 lo hi W (.slice a f.pix.length cap) f.pix) => msquare_any hok o x y vx vy hx hy hvx hvy)
  have HV := Lib.hid (fun (W : World) => vmay_any vx vy W)
  rw [ht] at HM
  rw [hvt] at HV
  obtain ⟨hx0, hx1⟩ := hx
  obtain ⟨hy0, hy1⟩ := hy
  clear h hq1 hq2 hr1 hr2 ht hvt
  go_enter Tryz.func72, Tryz.ntmps72
  go_wp2_with fail
  obtain ⟨r0, r1, r2⟩ := frame_cells HR1.out
  generalize hW2 : World.alloc (World.alloc w _) _ = W2 at *
  clear hW2
  go_wp2_with fail
  go_at_call 12
  refine (HM.out W2 HI.out).mono ?_
  rintro e w3 ⟨rfl, hq3⟩
  obtain ⟨r3, r4, r5⟩ := frame_cells (hq3.row HR1.out)
  obtain ⟨v0, v1⟩ := row2 (hq3.row HR2.out)
  have HQ3 := Lib.hid hq3
  clear hq3 r0 r1 r2
  go_wp2_with fail
  go_at_call 94
  refine (HV.out w3).mono ?_
  rintro e w4 ⟨rfl, hq4⟩
  have hq34 := HQ3.out.q hq4
  obtain ⟨r0, r1, r2⟩ := frame_cells (hq34.row HR1.out)
  obtain ⟨u0, u1⟩ := row2 (hq34.row HR2.out)
  have HQ4 := Lib.hid hq34
  clear hq4 hq34 r3 r4 r5 v0 v1
  go_wp2_with fail
  go_at_call 108
  refine (HS.out w4 (HI.out.quiet HQ4.out)).mono ?_
  rintro e w5 ⟨v5, rfl, hown, hq5⟩
  have HO := Lib.hid hown
  have HQ5 := Lib.hid hq5
  clear hown hq5
  go_wp2_with fail
  exact HPost.out _ _ ⟨v5, rfl, HO.out.lower (Nat.le_trans HQ2.out.size HQ4.out.size), (HQ2.out.q HQ4.out).q HQ5.out⟩
#print axioms mblock_any
end Go.Proofs.YthgpgbdkcdmbpaaGreatDoor
