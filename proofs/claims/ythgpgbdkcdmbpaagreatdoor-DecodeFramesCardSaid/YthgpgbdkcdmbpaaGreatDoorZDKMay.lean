/- kinref6.side, kinref6.May: of any frame whose samples read. Conditions: those. -/
import Derived.Test.YthgpgbdkcdmbpaaGreatDoorK2
import Derived.Test.YthgpgbdkcdmbpaaGreatDoorC3
namespace Go.Proofs.YthgpgbdkcdmbpaaGreatDoor
open Go.RowKit
set_option linter.unusedVariables false
set_option linter.unusedSimpArgs false
set_option maxRecDepth 100000
set_option maxHeartbeats 16000000
theorem qDKMay0 {p : Prop} (h : p := by
 go_enter Tryz.func60, Tryz.ntmps60
 go_wp2
 all_goals
  go_ret
  exact ⟨ret_bool (by unfold sideB; rw [Bool.eq_iff_iff]; simp; try omega), rfl⟩) : p := h
theorem kside_any (n : Int) (w : World) :
  Calls Tryz.prog 60 #[.int .i64 n] w fun e w' => e = .returned (.bool (sideB n)) ∧ w = w' := by
 by_cases h8 : 8 ≤ n
 ·by_cases h32 : n ≤ 32
  all_goals
   exact qDKMay0
 ·exact qDKMay0
section
theorem kmay_any {lo hi : Nat} {pv : Value} {l : List Int} {w : World} (W H : Int) (h : Ints .i64 lo hi w pv l) :
  Calls Tryz.prog 30 #[.agg #[.int .i64 W, .int .i64 H, pv]] w fun e w' => e = .returned (.bool (mayF ⟨W, H, l⟩)) ∧ Only [] w w' := by
 obtain ⟨a, cap, rfl, hlc, hmax, _⟩ := h.open
 have hll : (l.length : Int) ≤ 9223372036854775807 := by unfold maxLen at hmax; omega
 have hq1 : Only [] w (w.alloc (.cells #[.int .i64 W, .int .i64 H, .slice a l.length cap] 27)) := Only.new w _
 have HQ := lh hq1
 have Hh := lh h
 clear h hmax hlc hq1
 cases hW : sideB W with
 | false =>
  have Hr : Hid (mayF ⟨W, H, l⟩ = false) := lh (by simp [mayF, hW])
  have HW := lh hW
  clear hW
  go_enter Tryz.func30, Tryz.ntmps30
  go_wp2_with (first | (go_at_call 60; refine (kside_any _ _).mono ?_; rintro e w' ⟨rfl, rfl⟩; rw [HW.out]) | fail)
  go_ret
  exact ⟨ret_bool (by rw [Hr.out]), HQ.out⟩
 | true =>
  cases hH : sideB H with
  | false =>
   have Hr : Hid (mayF ⟨W, H, l⟩ = false) := lh (by simp [mayF, hH])
   have HW := lh hW
   have HH := lh hH
   clear hW hH
   go_enter Tryz.func30, Tryz.ntmps30
   go_wp2_with (first | (go_at_call 60; refine (kside_any _ _).mono ?_; rintro e w' ⟨rfl, rfl⟩; (first | rw [HW.out] | rw [HH.out])) | fail)
   go_ret
   exact ⟨ret_bool (by rw [Hr.out]), HQ.out⟩
  | true =>
   have bW := of_decide_eq_true hW
   have bH := of_decide_eq_true hH
   have Hr : Hid (mayF ⟨W, H, l⟩ = (decide ((l.length : Int) = W * H) && withinB l 0 255)) := lh (by simp [mayF, hW, hH])
   have HW := lh hW
   have HH := lh hH
   clear hW hH
   obtain ⟨W', rfl⟩ := Int.eq_ofNat_of_zero_le (by omega : 0 ≤ W)
   obtain ⟨H', rfl⟩ := Int.eq_ofNat_of_zero_le (by omega : 0 ≤ H)
   have hn : W' * H' ≤ 1024 := Nat.le_trans (Nat.mul_le_mul (by omega : W' ≤ 32) (by omega : H' ≤ 32)) (by decide)
   have hmul : (W' : Int) * (H' : Int) = ((W' * H' : Nat) : Int) := by rw [Int.natCast_mul]
   have Hmul := lh hmul
   by_cases he : l.length = W' * H'
   ·have Hs := lh (fun (wx : World) (o : Only [] w wx) => within_any 0 255 (Hh.out.quiet o))
    have Hr2 : Hid (mayF ⟨(W' : Int), (H' : Int), l⟩ = withinB l 0 255) := lh (by rw [Hr.out, Hmul.out, he]; simp)
    rw [he] at HQ Hs ⊢
    generalize W' * H' = n at *
    clear he hll bW bH Hr Hmul
    generalize withinB l 0 255 = b at *
    go_enter Tryz.func30, Tryz.ntmps30
    go_wp2_with (first | (go_at_call 60; refine (kside_any _ _).mono ?_; rintro e w' ⟨rfl, rfl⟩; (first | rw [HW.out] | rw [HH.out])) | (go_at_call 23; refine (Hs.out _ HQ.out).mono ?_; rintro e w2 ⟨rfl, rfl⟩) | fail)
    go_ret
    exact ⟨ret_bool (by rw [Hr2.out]), HQ.out⟩
   ·have Hr2 : Hid (mayF ⟨(W' : Int), (H' : Int), l⟩ = false) := lh (by rw [Hr.out, Hmul.out]; simp; omega)
    have hne : ((l.length : Int) == ((W' * H' : Nat) : Int)) = false := by rw [beq_eq_false_iff_ne]; omega
    generalize W' * H' = n at *
    clear he bW bH Hr Hmul
    go_enter Tryz.func30, Tryz.ntmps30
    go_wp2_with (first | (go_at_call 60; refine (kside_any _ _).mono ?_; rintro e w' ⟨rfl, rfl⟩; (first | rw [HW.out] | rw [HH.out])) | fail)
    go_ret
    exact ⟨ret_bool (by rw [Hr2.out]), HQ.out⟩
end
end Go.Proofs.YthgpgbdkcdmbpaaGreatDoor
