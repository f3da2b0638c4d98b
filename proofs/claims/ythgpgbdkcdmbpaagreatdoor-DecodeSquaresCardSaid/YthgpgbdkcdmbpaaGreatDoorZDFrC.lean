/- Joined texts: DFrC. Conditions: each part names its own. -/
import Derived.Test.YthgpgbdkcdmbpaaGreatDoorZDFrB
/- decode.Frame tells what the coded frame means. Conditions: the arguments read. -/
namespace Go.Proofs.YthgpgbdkcdmbpaaGreatDoor
open Go.RowKit
set_option linter.unusedVariables false
set_option linter.unusedSimpArgs false

theorem frame_any {lo hi lo' hi' : Nat} {dv pv : Value} {w : World} {c : Coded} {prev : FrameD} (W H : Int) (hd : Ints .u8 lo hi w dv c.data) (hp : Ints .i64 lo' hi' w pv prev.pix) :
    Calls Tryz.prog 11 #[.agg #[.int .i64 c.kind, dv], .agg #[.int .i64 prev.W, .int .i64 prev.H, pv], .int .i64 W, .int .i64 H] w (FrameP w (frameD c prev W H)) := by
  unfold frameD
  by_cases hn : newB W H 128 = false
  · rw [if_pos hn]
    exact frame_sides hd hp hn
  rw [if_neg hn]
  have hn' : newB W H 128 = true := by simpa using hn
  obtain ⟨K, l⟩ := c
  cases hr : readB ⟨K, l⟩ with
  | some k => exact frame_unit hd hp hn' hr
  | none =>
    have hk := readB_kind hr
    simp only at hk hd ⊢
    rcases (by omega : K = 1 ∨ K = 2 ∨ K = 3 ∨ K = 4) with rfl | rfl | rfl | rfl
    · rw [if_neg (by omega), if_neg (by omega), if_neg (by omega)]
      exact frame_squares1 hd hp hn' hr
    · cases hm : matesB prev W H with
      | false =>
        rw [if_pos ⟨.inl rfl, rfl⟩]
        exact frame_mates2 hd hp hn' hr hm
      | true =>
        rw [if_neg (fun h => by cases h.2), if_neg (by omega), if_neg (by omega)]
        exact frame_squares2 hd hp hn' hr hm
    · cases hm : matesB prev W H with
      | false =>
        rw [if_pos ⟨.inr rfl, rfl⟩]
        exact frame_mates3 hd hp hn' hr hm
      | true =>
        rw [if_neg (fun h => by cases h.2), if_neg (by omega), if_pos rfl]
        exact frame_skip3 hd hp hn' hr hm
    · rw [if_neg (by omega), if_pos rfl]
      exact frame_flat4 hd hp hn' hr
#print axioms frame_any
end Go.Proofs.YthgpgbdkcdmbpaaGreatDoor
