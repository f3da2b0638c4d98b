/- Joined texts: KSum. Conditions: each part names its own. -/
import Derived.Test.YtmbjehnddgcboaaGreatDoorC1
/- kinref4.Sum is the checksum crc of the bytes. Conditions: the slice reads as bytes. -/
namespace Go.Proofs.YtmbjehnddgcboaaGreatDoor
open Go.RowKit
set_option linter.unusedVariables false
set_option linter.unusedSimpArgs false

set_option maxHeartbeats 400000 in
theorem ksum_any {lo hi : Nat} {v : Value} {l : List Int} {w : World} (h : Ints .u8 lo hi w v l) :
    Calls Tryz.prog 46 #[v] w fun e w' => e = .returned (.int .u32 (crc l : Nat)) ∧ w = w' := by
  have hlen := h.1.len_le
  unfold maxLen at hlen
  have hr := h.2
  obtain ⟨a, cap, rfl, hcap, hm, hat, hcell⟩ := h.open
  go_enter Tryz.func46, Tryz.ntmps46
  go_wp2
  go_loop [4, 3, 5] (fun i c _ => ∃ k : Nat, k ≤ l.length ∧ i = .int .i64 k ∧ c = .int .u32 (crcGo 4294967295 (l.take k) : Nat)) (fun i _ _ => l.length - (intOf i).toNat)
  case atStart => exact ⟨0, by omega, rfl, rfl⟩
  case round =>
    obtain ⟨k, hk, rfl, rfl⟩ := hrel
    have hs := crcGo_lt (l.take k) (c := 4294967295) (by omega) (fun x hx => hr x (List.mem_of_mem_take hx))
    by_cases hlt : k < l.length
    · obtain ⟨b, off, rfl, _, _⟩ := hat k hlt
      have hc' := hcell b off rfl k hlt
      have hx : InK .u8 (l.getD k 0) := by refine hr _ ?_; simp [hlt]
      have hnext : crcGo 4294967295 (l.take (k + 1)) = crcBits 8 (crcGo 4294967295 (l.take k) ^^^ (l.getD k 0).toNat) := by
        rw [take_snoc hlt, crcGo_snoc]; rfl
      have hin := crc_in hs hx
      have hs' : crcGo 4294967295 (l.take k) ^^^ (l.getD k 0).toNat < 4294967296 := Nat.xor_lt_two_pow (n := 32) hs (by unfold InK at hx; omega)
      have hx0 : (l.getD k 0) % 4294967296 = l.getD k 0 := by unfold InK at hx; omega
      generalize crcGo 4294967295 (l.take k) = s at *
      generalize l.getD k 0 = x at *
      have Hn := Lib.hid hnext
      clear hnext hat hcell hr
      generalize hq : s ^^^ x.toNat = q at *
      clear hq
      go_wp2
      go_loop [5, 3] (fun i c => ∃ j : Nat, j ≤ 8 ∧ i = .int .i64 j ∧ c = .int .u32 (crcBits j q : Nat)) (fun i _ => 8 - (intOf i).toNat)
      case atStart => exact ⟨0, by omega, rfl, rfl⟩
      case round =>
        obtain ⟨j, hj, rfl, rfl⟩ := hrel
        have hb := crcBits_lt j hs'
        by_cases hjl : j < 8
        · generalize hcq : crcBits j q = c at *
          have Hcq := Lib.hid hcq
          clear hcq
          by_cases hodd : c % 2 = 1
          · have e1 := crc_odd hb hodd
            have e2 := crc_fold hb
            have Ho := Lib.hid hodd
            clear hodd
            go_wp2
            go_round
            case rel => exact ⟨j + 1, by omega, by go_num, by show _ = Value.int .u32 ((crcBit (crcBits j q) : Nat) : Int); rw [Hcq.out]; simp [crcBit, Ho.out]⟩
            case measure => simp [intOf]; omega
          · have e1 := crc_even hb (by omega)
            have Ho := Lib.hid hodd
            clear hodd
            go_wp2
            go_round
            case rel => exact ⟨j + 1, by omega, by go_num, by show _ = Value.int .u32 ((crcBit (crcBits j q) : Nat) : Int); rw [Hcq.out]; simp [crcBit, Ho.out]⟩
            case measure => simp [intOf]; omega
        · obtain rfl : j = 8 := by omega
          go_wp2
          go_round
          case rel => exact ⟨k + 1, by omega, by go_num, by rw [Hn.out]⟩
          case measure => simp [intOf]; omega
    · obtain rfl : k = l.length := by omega
      have e3 : bits .xor .u32 IntKind.u32.max (crcGo 4294967295 l : Int) = ((crc l : Nat) : Int) := by
        rw [List.take_length] at hs
        have := u32_xor_nat 4294967295 (crcGo 4294967295 l) (by omega) hs
        rw [crc, Nat.xor_comm]; exact this
      have E3 := Lib.hid e3
      clear e3
      go_wp2
      go_ret
      exact ⟨by show Ending.returned (.int .u32 (bits .xor .u32 IntKind.u32.max _)) = _; rw [E3.out], rfl⟩
end Go.Proofs.YtmbjehnddgcboaaGreatDoor
