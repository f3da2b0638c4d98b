/- Joined texts: Value. Conditions: each part names its own. -/
import Derived.Test.YtmbjehnddgcboaaGreatDoorC4
/- kinref4.Value reads a number of bytes, the highest first. Conditions: seven bytes at most. -/
namespace Go.Proofs.YtmbjehnddgcboaaGreatDoor
open Go.RowKit
set_option linter.unusedVariables false
set_option linter.unusedSimpArgs false

theorem value_any {lo hi : Nat} {v : Value} {l : List Int} {w : World} (h : Ints .u8 lo hi w v l) (hl : l.length ≤ 6) :
    Calls Tryz.prog 66 #[v] w fun e w' => e = .returned (.int .i64 (getB l)) ∧ w = w' := by
  have hr := h.2
  obtain ⟨a, cap, rfl, hcap, hm, hat, hcell⟩ := h.open
  go_enter Tryz.func66, Tryz.ntmps66
  go_wp2
  go_loop [4, 3] (fun i c => ∃ k : Nat, k ≤ l.length ∧ i = .int .i64 k ∧ c = .int .i64 (getB (l.take k))) (fun i _ => l.length - (intOf i).toNat)
  case atStart => exact ⟨0, by omega, rfl, rfl⟩
  case round =>
    obtain ⟨k, hk, rfl, rfl⟩ := hrel
    by_cases hlt : k < l.length
    · obtain ⟨b, off, rfl, _, _⟩ := hat k hlt
      have hc' := hcell b off rfl k hlt
      have hx : InK .u8 (l.getD k 0) := by refine hr _ ?_; simp [hlt]
      have hs := getB_range k (l.take k) (by rw [List.length_take]; omega) (by omega) (fun x hx => hr x (List.mem_of_mem_take hx))
      have hs2 := pow_bound (k := k) (by omega) hs.2
      have hnext : getB (l.take (k + 1)) = getB (l.take k) * 256 + l.getD k 0 := by rw [take_snoc hlt, getB_snoc]
      have hwx : IntKind.i64.wrap (l.getD k 0) = l.getD k 0 := wraps_i64 _ hx.1 (by have := hx.2; omega)
      have h0 := hs.1
      unfold InK at hx
      clear hs
      generalize getB (l.take k) = s at *
      generalize l.getD k 0 = x at *
      have Hn := Lib.hid hnext
      clear hnext hat hcell hr h
      go_wp2
      go_round
      case rel => exact ⟨k + 1, by omega, by go_num, by rw [Hn.out]⟩
      case measure => simp [intOf]; omega
    · obtain rfl : k = l.length := by omega
      go_wp2
      go_ret
      exact ⟨rfl, rfl⟩
end Go.Proofs.YtmbjehnddgcboaaGreatDoor
