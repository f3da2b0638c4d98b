/- Joined texts: Num. Conditions: each part names its own. -/
import Derived.Test.YtmbjehnddgcboaaGreatDoorZOwnS
/- kinref4.Number lays a number in bytes, the highest first. Conditions: one to seven bytes. -/
namespace Go.Proofs.YtmbjehnddgcboaaGreatDoor
open Go.RowKit
set_option linter.unusedVariables false
set_option linter.unusedSimpArgs false

theorem num_set (v : Int) (j k : Nat) : (List.replicate (j + 1) (0 : Int) ++ be v k).set j (v / 2 ^ (8 * k) % 256) = List.replicate j 0 ++ be v (k + 1) := by
  rw [List.replicate_succ', List.append_assoc, List.set_append_right _ _ (by simp)]
  simp [be]
theorem shift_more (v : Int) (k : Nat) : v / 2 ^ (8 * k) / 256 = v / 2 ^ (8 * (k + 1)) := by
  have h0 : (0 : Int) ≤ 2 ^ (8 * k) := Int.le_of_lt (Int.pow_pos (by decide))
  rw [Int.ediv_ediv_of_nonneg h0, show 8 * (k + 1) = 8 * k + 8 by omega, Int.pow_add]
  rfl

set_option maxHeartbeats 800000 in
theorem number_any (v : Int) (n : Nat) (w : World) (h1 : 1 ≤ n) (h7 : n ≤ 7) :
    Calls Tryz.prog 43 #[.int .i64 v, .int .i64 n] w fun e w' => e = .returned (.slice (some ⟨w.heap.size, 0, none⟩) n n) ∧ Own .u8 5 w.heap.size w' (.slice (some ⟨w.heap.size, 0, none⟩) n n) (be v n) ∧ Only [] w w' := by
  have hmk := run_make_row' (P := Tryz.prog) 22 5 (.int .u8 0) 1 E8.ut (by kernel_rfl) rfl .i64 .i64 n (by omega) (by omega)
  have hO := Own.lower (own_made .u8 5 w n (by simp [maxLen]; omega)) (Nat.le_refl _)
  have hOn := Only.new w (.cells (madeCells #[.int .u8 0] n) 5)
  have HO := Lib.hid hO
  have HOn := Lib.hid hOn
  clear hO hOn
  go_enter Tryz.func43, Tryz.ntmps43
  go_wp2_with fail
  clear hmk
  generalize w.alloc (.cells (madeCells #[.int .u8 0] n) 5) = W1 at *
  go_loopw [6, 0] (fun i x wr => ∃ (j k : Nat), j + k = n ∧ i = .int .i64 ((j : Int) - 1) ∧ x = .int .i64 (v / 2 ^ (8 * k)) ∧ Own .u8 5 w.heap.size wr (.slice (some ⟨w.heap.size, 0, none⟩) n n) (List.replicate j 0 ++ be v k) ∧ Only [w.heap.size] W1 wr) (fun i _ _ => (intOf i + 1).toNat)
  case atStart => exact ⟨n, 0, rfl, rfl, by simp, by simpa [be] using HO.out, Only.refl _ _⟩
  case round =>
    obtain ⟨j, k, hjk, rfl, rfl, ho, hq⟩ := hrel
    have hlen : (List.replicate j (0 : Int) ++ be v k).length = n := by simp [be_length]; omega
    cases j with
    | zero =>
      have hx : ¬ (0 : Int) ≤ ((0 : Nat) : Int) - 1 := by omega
      obtain rfl : k = n := by omega
      go_wp2_with fail
      go_ret
      exact ⟨rfl, by simpa using ho, HOn.out.trans hq (by simp) (by simp)⟩
    | succ j =>
      have hj0 : (0 : Int) ≤ (j : Int) := by omega
      have hjn : (j : Int) < (n : Int) := by omega
      have hlt : j < (List.replicate (j + 1) (0 : Int) ++ be v k).length := by omega
      have hc := ho.cellS hlen.symm hlt
      have hf := ho.frzS hlen.symm j
      have hin : InK .u8 (v / 2 ^ (8 * k) % 256) := by unfold InK; omega
      obtain ⟨hs1, hs2⟩ := ho.storeS hlen.symm hin j
      rw [num_set] at hs1
      have Hs1 := Lib.hid hs1
      have Hs2 := Lib.hid hs2
      have Hm := Lib.hid (shift_more v k)
      have hj2 : ((j + 1 : Nat) : Int) - 1 = (j : Int) := by omega
      have Hj2 := Lib.hid hj2
      have hw : IntKind.u8.wrap (v / 2 ^ (8 * k)) = v / 2 ^ (8 * k) % 256 := by simp [IntKind.wrap, IntKind.bits, IntKind.signed]
      clear hs1 hs2 ho hlen hj2
      generalize v / 2 ^ (8 * k) = y at *
      go_wp2_with fail
      go_roundw
      case rel => exact ⟨j, k + 1, by omega, by first | rfl | go_num, by rw [← Hm.out], Hs1.out, hq.trans Hs2.out (by simp) (by simp)⟩
      case measure => first | (simp [intOf]; done) | (simp [intOf]; omega)
theorem number3_any (v : Int) (w : World) :
    Calls Tryz.prog 43 #[.int .i64 v, .int .i64 3] w fun e w' => e = .returned (.slice (some ⟨w.heap.size, 0, none⟩) 3 3) ∧ Own .u8 5 w.heap.size w' (.slice (some ⟨w.heap.size, 0, none⟩) 3 3) (be v 3) ∧ Only [] w w' := number_any v 3 w (by omega) (by omega)
theorem number4_any (v : Int) (w : World) :
    Calls Tryz.prog 43 #[.int .i64 v, .int .i64 4] w fun e w' => e = .returned (.slice (some ⟨w.heap.size, 0, none⟩) 4 4) ∧ Own .u8 5 w.heap.size w' (.slice (some ⟨w.heap.size, 0, none⟩) 4 4) (be v 4) ∧ Only [] w w' := number_any v 4 w (by omega) (by omega)
theorem number2_any (v : Int) (w : World) :
    Calls Tryz.prog 43 #[.int .i64 v, .int .i64 2] w fun e w' => e = .returned (.slice (some ⟨w.heap.size, 0, none⟩) 2 2) ∧ Own .u8 5 w.heap.size w' (.slice (some ⟨w.heap.size, 0, none⟩) 2 2) (be v 2) ∧ Only [] w w' := number_any v 2 w (by omega) (by omega)
theorem be3_len {n : Nat} (h : n ≤ 65536) : be n 3 = [(n : Int) / 65536, (n : Int) / 256 % 256, (n : Int) % 256] := by
  have e : be n 3 = [(n : Int) / 65536 % 256, (n : Int) / 256 % 256, (n : Int) / 1 % 256] := rfl
  rw [e]
  simp only [List.cons.injEq, and_true, Int.ediv_one]
  omega
end Go.Proofs.YtmbjehnddgcboaaGreatDoor
