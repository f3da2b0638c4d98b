/- Joined texts: Info. Conditions: each part names its own. -/
import Derived.Test.YtmbjehnddgcboaaGreatDoorC2
import Derived.Test.YtmbjehnddgcboaaGreatDoorC1
import Derived.Test.YtmbjehnddgcboaaGreatDoorC5
/- kinref.Entries, kinlaw24.info where both sides agree. Conditions: the entries read. -/
namespace Go.Proofs.YtmbjehnddgcboaaGreatDoor
open Go.RowKit
set_option linter.unusedVariables false
set_option linter.unusedSimpArgs false

set_option maxRecDepth 100000 in
set_option maxHeartbeats 1000000 in
theorem kentries_any {lo hi lo' hi' : Nat} {v u : Value} {l : List Entry} {w : World} (h : EntriesAt lo hi w v l) (g : EntriesAt lo' hi' w u l) :
    Calls Tryz.prog 24 #[v, u] w fun e w' => e = .returned (.bool true) ∧ Only [] w w' := by
  obtain ⟨a, cap, rfl, hc1, hc2, hat⟩ := h.open
  obtain ⟨a', cap', rfl, hd1, hd2, hat'⟩ := g.open
  have Hat := Lib.hid hat
  have Hat' := Lib.hid hat'
  have hll : (l.length : Int) ≤ 9223372036854775807 := by unfold maxLen at hc2; omega
  have hb : (((l.length : Nat) : Int) != ((l.length : Nat) : Int)) = false := by simp
  clear h g hat hat' hc1 hc2 hd1 hd2
  go_enter Tryz.func24, Tryz.ntmps24
  go_wp2
  clear hb
  go_loopw [5] (fun i wr => ∃ k : Nat, k ≤ l.length ∧ i = .int .i64 k ∧ Only [] w wr) (fun i _ => l.length - (intOf i).toNat)
  case atStart => exact ⟨0, by omega, rfl, Only.refl _ _⟩
  case round =>
    obtain ⟨k, hk, rfl, hq⟩ := hrel
    by_cases hlt : k < l.length
    · obtain ⟨b, off, rfl, _, _, p0, p1, p2, p3⟩ := Hat.out k hlt
      obtain ⟨b', off', rfl, _, _, r0, r1, r2, r3⟩ := Hat'.out k hlt
      have c0 := hq.cell p0 (by simp)
      have c1 := hq.cell p1 (by simp)
      have c2 := hq.cell p2 (by simp)
      have c3 := hq.cell p3 (by simp)
      have d0 := hq.cell r0 (by simp)
      have d1 := hq.cell r1 (by simp)
      have d2 := hq.cell r2 (by simp)
      have d3 := hq.cell r3 (by simp)
      have hx : (0 : Int) ≤ (k : Int) := by omega
      have hx1 : (k : Int) < (l.length : Int) := by omega
      clear p0 p1 p2 p3 r0 r1 r2 r3
      generalize l.getD k default = x at *
      obtain ⟨y0, y1, y2, y3⟩ := x
      simp only at c0 c1 c2 c3 d0 d1 d2 d3
      go_wp2_with fail
      go_quiet (fail)
      go_wp2_with fail
      go_roundw
      case rel => exact ⟨k + 1, by omega, by go_num, hq.drewN _⟩
      case measure => simp [intOf]; omega
    · obtain rfl : k = l.length := by omega
      have hx : ¬ (l.length : Int) < (l.length : Int) := by omega
      go_wp2
      go_ret
      exact ⟨rfl, hq⟩
#print axioms kentries_any

set_option maxRecDepth 100000 in
set_option maxHeartbeats 4000000 in
theorem info_any {lo hi lo' hi' : Nat} {pv qv : Value} {l : List Entry} (W H F : Int) (c : Cfg) {w : World} (h : EntriesAt lo hi w pv l) (g : EntriesAt lo' hi' w qv l) :
    Calls Tryz.prog 10 #[infoV W H F c pv, infoV W H F c qv] w fun e w' => e = .returned (.bool true) ∧ Only [] w w' := by
  obtain ⟨a, cap, hp, _⟩ := id h.open
  subst hp
  obtain ⟨a', cap', hq, _⟩ := id g.open
  subst hq
  obtain ⟨q0, q1, q2, q3, q4, q5, q6, q7⟩ := c
  have HE := Lib.hid (fun (w' : World) (o : Only [] w w') => kentries_any (h.quiet o) (g.quiet o))
  clear h g
  unfold infoV
  simp only
  go_enter Tryz.func10, Tryz.ntmps10
  go_wp2_with fail
  go_at_call 24
  refine (HE.out _ ((Only.new _ _).q (Only.new _ _))).mono ?_
  rintro e w1 ⟨rfl, hq1⟩
  go_wp2_with fail
  go_ret
  exact ⟨rfl, ((Only.new _ _).q (Only.new _ _)).q hq1⟩
#print axioms info_any
end Go.Proofs.YtmbjehnddgcboaaGreatDoor
