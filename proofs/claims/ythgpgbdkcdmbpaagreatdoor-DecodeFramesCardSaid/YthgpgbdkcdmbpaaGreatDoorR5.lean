/- Joined texts: DRkN, DRkO, DRkC. Conditions: each part names its own. -/
import Derived.Test.YthgpgbdkcdmbpaaGreatDoorS8
import Derived.Test.YthgpgbdkcdmbpaaGreatDoorK5
import Derived.Deep.DeepCutAuto
import Derived.Test.YthgpgbdkcdmbpaaGreatDoorS2
import Derived.Test.YthgpgbdkcdmbpaaGreatDoorC3
import Derived.Test.YthgpgbdkcdmbpaaGreatDoorK2
namespace Go.Proofs.YthgpgbdkcdmbpaaGreatDoor
open Go.RowKit
set_option linter.unusedVariables false
set_option linter.unusedSimpArgs false
set_option maxRecDepth 100000
set_option maxHeartbeats 16000000
section
variable {R : Nat} (X : KC R)
/-- a number told, the coder gone on -/
def NumG (F : List Nat) (w : World) (r : Int × X.σ) (e : Ending) (w' : World) : Prop := e = .returned (.int .i64 r.1) ∧ ∃ F', X.At F' w' r.2 ∧ Went F w F' w'
theorem bne_dec (a b : Int) : (a != b) = decide (a ≠ b) := by by_cases h : a = b <;> simp [h]
theorem beq_dec (a b : Int) : (a == b) = decide (a = b) := by by_cases h : a = b <;> simp [h]
theorem onesG_ok {f : Nat → Nat} (hf : ∀ i, f i < 64) (v : Int) : ∀ (k i : Nat) {n : Nat} {s : X.σ}, X.Ok n s → X.Ok (n + 2 * k) (onesG X.C f v k i s).2 ∧ i ≤ (onesG X.C f v k i s).1 ∧ (onesG X.C f v k i s).1 ≤ i + k
 | 0, i, n, s, h => ⟨h, Nat.le_refl _, Nat.le_refl _⟩
 | k + 1, i, n, s, h => by
  have a := X.ok_bit (f i) (decide ((i : Int) < v)) h (hf i)
  unfold onesG
  split
  ·obtain ⟨x, y, z⟩ := onesG_ok hf v k (i + 1) a
   exact ⟨X.ok_le x (by omega), by omega, by omega⟩
  ·exact ⟨X.ok_le a (by omega), by simp, by simp⟩
theorem flatsG_ok (u : Int) : ∀ (k i : Nat) {n : Nat} {s : X.σ}, X.Ok n s → X.Ok (n + 2 * k) (flatsG X.C u k i s).2 ∧ i ≤ (flatsG X.C u k i s).1 ∧ (flatsG X.C u k i s).1 ≤ i + k
 | 0, i, n, s, h => ⟨h, Nat.le_refl _, Nat.le_refl _⟩
 | k + 1, i, n, s, h => by
  have a := X.ok_flat (decide ((2 : Int) ^ (i + 1) ≤ u)) h
  unfold flatsG
  split
  ·obtain ⟨x, y, z⟩ := flatsG_ok u k (i + 1) a
   exact ⟨X.ok_le x (by omega), by omega, by omega⟩
  ·exact ⟨X.ok_le a (by omega), by simp, by simp⟩
theorem bitsG_ok (u : Int) : ∀ (k i : Nat) {n : Nat} {s : X.σ}, X.Ok n s → X.Ok (n + 2 * k) (bitsG X.C u k i s).2 ∧ i * 2 ^ k ≤ (bitsG X.C u k i s).1 ∧ (bitsG X.C u k i s).1 < (i + 1) * 2 ^ k
 | 0, i, n, s, h => ⟨h, by simp [bitsG], by simp [bitsG]⟩
 | k + 1, i, n, s, h => by
  have a := X.ok_flat (decide (u / (2 : Int) ^ k % 2 = 1)) h
  unfold bitsG
  obtain ⟨x, y, z⟩ := bitsG_ok u k (if (X.C.flat (decide (u / (2 : Int) ^ k % 2 = 1)) s).1 then 2 * i + 1 else 2 * i) a
  refine ⟨X.ok_le x (by omega), ?_, ?_⟩
  ·refine Nat.le_trans ?_ y
   rw [Nat.pow_succ]
   split <;> (generalize 2 ^ k = q; simp only [Nat.mul_comm, Nat.mul_left_comm, Nat.add_mul, Nat.mul_add]; omega)
  ·refine Nat.lt_of_lt_of_le z ?_
   rw [Nat.pow_succ]
   split <;> (generalize 2 ^ k = q; simp only [Nat.mul_comm, Nat.mul_left_comm, Nat.add_mul, Nat.mul_add]; omega)
theorem onesG_step {C : CodO X.σ} {f : Nat → Nat} {v : Int} {k n : Nat} {s : X.σ} (h : (C.bit (f n) (decide ((n : Int) < v)) s).1 = true) : onesG C f v (k + 1) n s = onesG C f v k (n + 1) (C.bit (f n) (decide ((n : Int) < v)) s).2 := if_pos h
theorem onesG_stop {C : CodO X.σ} {f : Nat → Nat} {v : Int} {k n : Nat} {s : X.σ} (h : (C.bit (f n) (decide ((n : Int) < v)) s).1 = false) : onesG C f v (k + 1) n s = (n, (C.bit (f n) (decide ((n : Int) < v)) s).2) := if_neg (by rw [h]; simp)
theorem flatsG_step {C : CodO X.σ} {u : Int} {k n : Nat} {s : X.σ} (h : (C.flat (decide ((2 : Int) ^ (n + 1) ≤ u)) s).1 = true) : flatsG C u (k + 1) n s = flatsG C u k (n + 1) (C.flat (decide ((2 : Int) ^ (n + 1) ≤ u)) s).2 := if_pos h
theorem flatsG_stop {C : CodO X.σ} {u : Int} {k n : Nat} {s : X.σ} (h : (C.flat (decide ((2 : Int) ^ (n + 1) ≤ u)) s).1 = false) : flatsG C u (k + 1) n s = (n, (C.flat (decide ((2 : Int) ^ (n + 1) ≤ u)) s).2) := if_neg (by rw [h]; simp)
theorem qDRkN1 {p : Prop} (h : p := by
 go_at_call 122
 refine (HB.out _ ?_ _ ?_).mono ?_
 ·first | rfl | exact bne_dec _ _ | exact beq_dec _ _ | (simp; done) | (simp; omega)
 ·first | rfl | omega
 rintro e w2 ⟨rfl, F2, hk2, hg2⟩
 have Hk2 := lh hk2
 have Hg2 := lh (Hg.out.trans hg2)
 clear hk2 hg2 HB
 go_wp2_with fail
 exact ⟨⟨c + 1, F2, _, by have := Hlt.out; omega, by go_num, Hk2, Hg2, lh (by rw [Hn3.out.2, Hfin.out]; exact (onesG_step X Hb.out).symm), lh (X.ok_le Hob.out (by omega))⟩, by simp [intOf]; have := Hlt.out; omega⟩) : p := h
theorem gkind_any {F : List Nat} {w : World} {s : X.σ} {n : Nat} (h : X.At F w s) (v : Int) (ok : X.Ok n s) (hn : n ≤ 800000000) :
  Calls Tryz.prog 120 #[.pointer (some ⟨R, 0, none⟩), .int .i64 v] w (NumG X F w (((kindG X.C v s).1 : Int), (kindG X.C v s).2)) := by
 refine hidQ fun Q HPost => ?_
 have HK := lh h
 have HOk := lh ok
 clear h ok
 go_enter Tryz.func120, Tryz.ntmps120
 go_wp2_with fail
 go_loopw [5] (fun i wr => ∃ (c : Nat) (Fc : List Nat) (sc : X.σ), c ≤ 3 ∧ i = .int .i64 c ∧ Hid (X.At Fc wr sc) ∧ Hid (Went F w Fc wr) ∧ Hid (onesG X.C (fun n => min n 63) v (3 - c) c sc = onesG X.C (fun n => min n 63) v 3 0 s) ∧ Hid (X.Ok (n + 2 * c) sc)) (fun i _ => 3 - (intOf i).toNat)
 case atStart => exact ⟨0, _, _, by omega, rfl, HK, lh (Went.refl _ _), lh rfl, HOk⟩
 case round =>
  obtain ⟨c, Fc, sc, hc, rfl, Hk, Hg, He, Ho⟩ := hrel
  by_cases hlt : c < 3
  ·have hlti : (c : Int) < 3 := by omega
   have hc0 : (0 : Int) ≤ (c : Int) := by omega
   have hctx : (fun n => min n 63) c < 64 := by show min c 63 < 64; omega
   have HB := lh (fun (b : Bool) (hb : b = decide ((c : Int) < v)) (y : Int) (hy : y = ((min c 63 : Nat) : Int)) => (by subst hb; subst hy; exact X.bit ((fun n => min n 63) c) _ Hk.out Ho.out (by omega) hctx : Calls Tryz.prog 122 #[.pointer (some ⟨R, 0, none⟩), .int .i64 y, .bool b] wr _))
   have Hob := lh (X.ok_bit ((fun n => min n 63) c) (decide ((c : Int) < v)) Ho.out hctx)
   obtain ⟨k3, hk3⟩ : ∃ k3, 3 - c = k3 + 1 := ⟨3 - c - 1, by omega⟩
   have hk3' : 3 - (c + 1) = k3 := by omega
   have Hn3 := lh (And.intro hk3 hk3')
   have Hlt := lh hlt
   clear hk3 hk3' hctx
   have Hfin : Hid (onesG X.C (fun n => min n 63) v 3 0 s = onesG X.C (fun n => min n 63) v (k3 + 1) c sc) := lh (by rw [← Hn3.out.1, He.out])
   cases hb : (X.C.bit ((fun n => min n 63) c) (decide ((c : Int) < v)) sc).1 with
   | true =>
    rw [hb] at HB
    have Hb := lh hb
    clear hb
    go_wp2_with fail
    exact qDRkN1
   | false =>
    rw [hb] at HB
    have Hb := lh hb
    clear hb
    go_wp2_with fail
    go_at_call 122
    refine (HB.out _ ?_ _ ?_).mono ?_
    ·first | rfl | exact bne_dec _ _ | exact beq_dec _ _ | (simp; done) | (simp; omega)
    ·first | rfl | omega
    rintro e w2 ⟨rfl, F2, hk2, hg2⟩
    have Hk2 := lh hk2
    have Hg2 := lh (Hg.out.trans hg2)
    clear hk2 hg2 HB
    have Hez : Hid (onesG X.C (fun n => min n 63) v 3 0 s = (c, (X.C.bit ((fun n => min n 63) c) (decide ((c : Int) < v)) sc).2)) := lh (Hfin.out.trans (onesG_stop X Hb.out))
    go_wp2_with fail
    refine HPost.out _ _ ?_
    unfold kindG
    rw [Hez.out]
    exact ⟨rfl, F2, Hk2.out, Hg2.out⟩
  ·obtain rfl : c = 3 := by omega
   have hlti : ¬ ((3 : Nat) : Int) < 3 := by omega
   have Hez : Hid (onesG X.C (fun n => min n 63) v 3 0 s = (3, sc)) := lh (He.out.symm.trans rfl)
   go_wp2_with fail
   refine HPost.out _ _ ?_
   unfold kindG
   rw [Hez.out]
   exact ⟨rfl, Fc, Hk.out, Hg.out⟩
theorem qDRkN0 {p : Prop} (h : p := by
 go_wp2_with fail
 go_at_call 122
 refine (HB1.out _ _ HK.out _ ?_).mono ?_
 ·first | rfl | exact bne_dec _ _ | exact beq_dec _ _ | (simp; done) | (simp [Hm2.out]; done) | (simp; omega)
 rintro e w1 ⟨rfl, F1, hk1, hg1⟩
 have Hk1 := lh hk1
 have Hg1 := lh (hg1)
 clear hk1 hg1
 go_wp2_with fail
 go_at_call 122
 refine (HB2.out _ _ Hk1.out _ ?_).mono ?_
 ·first | rfl | exact bne_dec _ _ | exact beq_dec _ _ | (simp; done) | (simp [Hm2.out]; done) | (simp; omega)
 rintro e w2 ⟨rfl, F2, hk2, hg2⟩
 have Hk2 := lh hk2
 have Hg2 := lh (Hg1.out.trans hg2)
 clear hk2 hg2
 go_wp2_with fail
 refine HPost.out _ _ ?_
 rw [HM.out]
 exact ⟨rfl, F2, Hk2.out, Hg2.out⟩) : p := h
theorem gmode_any {F : List Nat} {w : World} {s : X.σ} {n : Nat} (h : X.At F w s) (v : Int) (ok : X.Ok n s) (hn : n ≤ 800000000) :
  Calls Tryz.prog 87 #[.pointer (some ⟨R, 0, none⟩), .int .i64 v] w (NumG X F w (((modeG X.C v s).1 : Int), (modeG X.C v s).2)) := by
 refine hidQ fun Q HPost => ?_
 have HK := lh h
 have HOk := lh ok
 clear h ok
 go_enter Tryz.func87, Tryz.ntmps87
 go_upto_region 1 with (fail)
 go_cut [1] (fun s1 wx => s1 = .int .i64 (min (max v 0) 3) ∧ w = wx)
 case first =>
  go_wp2_with fail
  all_goals (go_meet; exact ⟨by congr 1; omega, rfl⟩)
 case rest =>
  obtain ⟨rfl, rfl⟩ := hcut
  have HP : Hid (modeG X.C v s = modeG2 X.C (min (max v 0) 3) s) := lh rfl
  rw [HP.out] at HPost
  have hm0 : 0 ≤ min (max v 0) 3 ∧ min (max v 0) 3 ≤ 3 := by omega
  generalize min (max v 0) 3 = m at *
  clear HP
  have hm2 : m.tmod 2 = m % 2 := Int.tmod_eq_emod_of_nonneg hm0.1
  have Hm2 := lh hm2
  clear hm0
  have ok1 := X.ok_bit 3 (decide (1 < m)) HOk.out (by omega)
  have HB1 := lh (fun (wx : World) (Fx : List Nat) (hx : X.At Fx wx s) (b : Bool) (hb : b = decide (1 < m)) => (by subst hb; exact X.bit 3 _ hx HOk.out (by omega) (by omega) : Calls Tryz.prog 122 #[.pointer (some ⟨R, 0, none⟩), .int .i64 3, .bool b] wx _))
  have HM : Hid (modeG2 X.C m s = if (X.C.bit 3 (decide (1 < m)) s).1 then (if (X.C.bit 5 (decide (m % 2 = 1)) (X.C.bit 3 (decide (1 < m)) s).2).1 then 3 else 2, (X.C.bit 5 (decide (m % 2 = 1)) (X.C.bit 3 (decide (1 < m)) s).2).2) else (if (X.C.bit 4 (decide (m % 2 = 1)) (X.C.bit 3 (decide (1 < m)) s).2).1 then 1 else 0, (X.C.bit 4 (decide (m % 2 = 1)) (X.C.bit 3 (decide (1 < m)) s).2).2)) := lh rfl
  generalize X.C.bit 3 (decide (1 < m)) s = b1 at *
  obtain ⟨t1, s1⟩ := b1
  simp only at ok1 HB1 HM
  have Ok1 := lh ok1
  clear ok1
  cases t1 with
  | true =>
   have ok2 := X.ok_bit 5 (decide (m % 2 = 1)) Ok1.out (by omega)
   have HB2 := lh (fun (wx : World) (Fx : List Nat) (hx : X.At Fx wx s1) (b : Bool) (hb : b = decide (m % 2 = 1)) => (by subst hb; exact X.bit 5 _ hx Ok1.out (by omega) (by omega) : Calls Tryz.prog 122 #[.pointer (some ⟨R, 0, none⟩), .int .i64 5, .bool b] wx _))
   generalize X.C.bit 5 (decide (m % 2 = 1)) s1 = b2 at *
   obtain ⟨t2, s2⟩ := b2
   simp only at HB2 HM
   clear ok2
   cases t2 with
   | true =>
    exact qDRkN0
   | false =>
    exact qDRkN0
  | false =>
   have ok2 := X.ok_bit 4 (decide (m % 2 = 1)) Ok1.out (by omega)
   have HB2 := lh (fun (wx : World) (Fx : List Nat) (hx : X.At Fx wx s1) (b : Bool) (hb : b = decide (m % 2 = 1)) => (by subst hb; exact X.bit 4 _ hx Ok1.out (by omega) (by omega) : Calls Tryz.prog 122 #[.pointer (some ⟨R, 0, none⟩), .int .i64 4, .bool b] wx _))
   generalize X.C.bit 4 (decide (m % 2 = 1)) s1 = b2 at *
   obtain ⟨t2, s2⟩ := b2
   simp only at HB2 HM
   clear ok2
   cases t2 with
   | true =>
    exact qDRkN0
   | false =>
    exact qDRkN0
theorem gpart_any {F : List Nat} {w : World} {s : X.σ} {n : Nat} (h : X.At F w s) (v : Int) (ok : X.Ok n s) (hn : n ≤ 800000000) :
  Calls Tryz.prog 86 #[.pointer (some ⟨R, 0, none⟩), .int .i64 v] w (NumG X F w ((partG X.C v s).1, (partG X.C v s).2)) := by
 refine hidQ fun Q HPost => ?_
 have HK := lh h
 have HOk := lh ok
 clear h ok
 go_enter Tryz.func86, Tryz.ntmps86
 go_upto_region 1 with (fail)
 go_cut [1] (fun s1 wx => s1 = .int .i64 (min (max v (-15)) 15) ∧ w = wx)
 case first =>
  go_wp2_with fail
  all_goals (go_meet; exact ⟨by congr 1; omega, rfl⟩)
 case rest =>
  obtain ⟨rfl, rfl⟩ := hcut
  have HP : Hid (partG X.C v s = partG2 X.C (min (max v (-15)) 15) s) := lh rfl
  rw [HP.out] at HPost
  have hm0 : -15 ≤ min (max v (-15)) 15 ∧ min (max v (-15)) 15 ≤ 15 := by omega
  generalize min (max v (-15)) 15 = m at *
  clear HP
  have ok1 := X.ok_bit 6 (decide (m ≠ 0)) HOk.out (by omega)
  have HB1 := lh (fun (wx : World) (Fx : List Nat) (hx : X.At Fx wx s) (b : Bool) (hb : b = decide (m ≠ 0)) => (by subst hb; exact X.bit 6 _ hx HOk.out (by omega) (by omega) : Calls Tryz.prog 122 #[.pointer (some ⟨R, 0, none⟩), .int .i64 6, .bool b] wx _))
  have HM : Hid (partG2 X.C m s = if (X.C.bit 6 (decide (m ≠ 0)) s).1 then partG3 X.C m (X.C.flat (decide (m < 0)) (X.C.bit 6 (decide (m ≠ 0)) s).2).1 (X.C.flat (decide (m < 0)) (X.C.bit 6 (decide (m ≠ 0)) s).2).2 else (0, (X.C.bit 6 (decide (m ≠ 0)) s).2)) := lh rfl
  generalize X.C.bit 6 (decide (m ≠ 0)) s = b1 at *
  obtain ⟨t1, s1⟩ := b1
  simp only at ok1 HB1 HM
  have Ok1 := lh ok1
  clear ok1
  cases t1 with
  | false =>
   go_wp2_with fail
   go_at_call 122
   refine (HB1.out _ _ HK.out _ ?_).mono ?_
   ·first | rfl | exact bne_dec _ _ | exact beq_dec _ _ | (simp; done) | (simp; omega)
   rintro e w1 ⟨rfl, F1, hk1, hg1⟩
   have Hk1 := lh hk1
   have Hg1 := lh (hg1)
   clear hk1 hg1
   go_wp2_with fail
   refine HPost.out _ _ ?_
   rw [HM.out]
   exact ⟨rfl, F1, Hk1.out, Hg1.out⟩
  | true =>
   have ok2 := X.ok_flat (decide (m < 0)) Ok1.out
   have HB2 := lh (fun (wx : World) (Fx : List Nat) (hx : X.At Fx wx s1) (b : Bool) (hb : b = decide (m < 0)) => (by subst hb; exact X.flat _ hx Ok1.out (by omega) : Calls Tryz.prog 121 #[.pointer (some ⟨R, 0, none⟩), .bool b] wx _))
   generalize X.C.flat (decide (m < 0)) s1 = b2 at *
   obtain ⟨t2, s2⟩ := b2
   simp only at ok2 HB2 HM
   have Ok2 := lh ok2
   clear ok2
   go_wp2_with fail
   go_at_call 122
   refine (HB1.out _ _ HK.out _ ?_).mono ?_
   ·first | rfl | exact bne_dec _ _ | exact beq_dec _ _ | (simp; done) | (simp; omega)
   rintro e w1 ⟨rfl, F1, hk1, hg1⟩
   have Hk1 := lh hk1
   have Hg1 := lh (hg1)
   clear hk1 hg1
   go_wp2_with fail
   go_at_call 121
   refine (HB2.out _ _ Hk1.out _ ?_).mono ?_
   ·first | rfl | exact bne_dec _ _ | exact beq_dec _ _ | (simp; done) | (simp; omega)
   rintro e w2 ⟨rfl, F2, hk2, hg2⟩
   have Hk2 := lh hk2
   have Hg2 := lh (Hg1.out.trans hg2)
   clear hk2 hg2
   go_upto_region 5 with (fail)
   go_cut [6] (fun s6 wx => s6 = .int .i64 (max m (-m) - 1) ∧ w2 = wx)
   case first =>
    go_wp2_with fail
    all_goals (go_meet; exact ⟨by congr 1; omega, rfl⟩)
   case rest =>
    obtain ⟨rfl, rfl⟩ := hcut
    have HgA := Hg2
    have HV : Hid (partG3 X.C m t2 s2 = (signD t2 (onesG X.C (fun n => 7 + min n 6) (max m (-m) - 1) 14 0 s2).1, (onesG X.C (fun n => 7 + min n 6) (max m (-m) - 1) 14 0 s2).2)) := lh rfl
    generalize max m (-m) - 1 = vv at *
    go_wp2_with fail
    go_loopw [7] (fun i wr => ∃ (c : Nat) (Fc : List Nat) (sc : X.σ), c ≤ 14 ∧ i = .int .i64 c ∧ Hid (X.At Fc wr sc) ∧ Hid (Went F2 w2 Fc wr) ∧ Hid (onesG X.C (fun n => 7 + min n 6) vv (14 - c) c sc = onesG X.C (fun n => 7 + min n 6) vv 14 0 s2) ∧ Hid (X.Ok ((n + 2 + 2) + 2 * c) sc)) (fun i _ => 14 - (intOf i).toNat)
    case atStart => exact ⟨0, _, _, by omega, rfl, Hk2, lh (Went.refl _ _), lh rfl, Ok2⟩
    case round =>
     obtain ⟨c, Fc, sc, hc, rfl, Hk, Hg, He, Ho⟩ := hrel
     by_cases hlt : c < 14
     ·have hlti : (c : Int) < 14 := by omega
      have hc0 : (0 : Int) ≤ (c : Int) := by omega
      have hctx : (fun n => 7 + min n 6) c < 64 := by show 7 + min c 6 < 64; omega
      have HB := lh (fun (b : Bool) (hb : b = decide ((c : Int) < vv)) (y : Int) (hy : y = ((7 + min c 6 : Nat) : Int)) => (by subst hb; subst hy; exact X.bit ((fun n => 7 + min n 6) c) _ Hk.out Ho.out (by omega) hctx : Calls Tryz.prog 122 #[.pointer (some ⟨R, 0, none⟩), .int .i64 y, .bool b] wr _))
      have Hob := lh (X.ok_bit ((fun n => 7 + min n 6) c) (decide ((c : Int) < vv)) Ho.out hctx)
      obtain ⟨k3, hk3⟩ : ∃ k3, 14 - c = k3 + 1 := ⟨14 - c - 1, by omega⟩
      have hk3' : 14 - (c + 1) = k3 := by omega
      have Hn3 := lh (And.intro hk3 hk3')
      have Hlt := lh hlt
      clear hk3 hk3' hctx
      have Hfin : Hid (onesG X.C (fun n => 7 + min n 6) vv 14 0 s2 = onesG X.C (fun n => 7 + min n 6) vv (k3 + 1) c sc) := lh (by rw [← Hn3.out.1, He.out])
      cases hb : (X.C.bit ((fun n => 7 + min n 6) c) (decide ((c : Int) < vv)) sc).1 with
      | true =>
       rw [hb] at HB
       have Hb := lh hb
       clear hb
       go_wp2_with fail
       all_goals
        exact qDRkN1
      | false =>
       rw [hb] at HB
       have Hb := lh hb
       clear hb
       go_wp2_with fail
       all_goals
        go_at_call 122
        refine (HB.out _ ?_ _ ?_).mono ?_
        ·first | rfl | exact bne_dec _ _ | exact beq_dec _ _ | (simp; done) | (simp; omega)
        ·first | rfl | omega
        rintro e w2 ⟨rfl, F2, hk2, hg2⟩
        have Hk2 := lh hk2
        have Hg2 := lh (Hg.out.trans hg2)
        clear hk2 hg2 HB
        have Hez : Hid (onesG X.C (fun n => 7 + min n 6) vv 14 0 s2 = (c, (X.C.bit ((fun n => 7 + min n 6) c) (decide ((c : Int) < vv)) sc).2)) := lh (Hfin.out.trans (onesG_stop X Hb.out))
        have HR : Hid (partG2 X.C m s = (signD t2 c, (X.C.bit ((fun n => 7 + min n 6) c) (decide ((c : Int) < vv)) sc).2)) := lh (by rw [HM.out]; show partG3 X.C m t2 s2 = _; rw [HV.out, Hez.out])
        clear HM
        cases t2 with
        | true =>
         go_wp2_with fail
         refine HPost.out _ _ ?_
         rw [HR.out]
         exact ⟨rfl, F2, Hk2.out, (HgA.out.trans Hg2.out)⟩
        | false =>
         go_wp2_with fail
         refine HPost.out _ _ ?_
         rw [HR.out]
         exact ⟨rfl, F2, Hk2.out, (HgA.out.trans Hg2.out)⟩
     ·obtain rfl : c = 14 := by omega
      have hlti : ¬ ((14 : Nat) : Int) < 14 := by omega
      have Hez : Hid (onesG X.C (fun n => 7 + min n 6) vv 14 0 s2 = (14, sc)) := lh (He.out.symm.trans rfl)
      have HR : Hid (partG2 X.C m s = (signD t2 14, sc)) := lh (by rw [HM.out]; show partG3 X.C m t2 s2 = _; rw [HV.out, Hez.out])
      clear HM
      cases t2 with
      | true =>
       go_wp2_with fail
       refine HPost.out _ _ ?_
       rw [HR.out]
       exact ⟨rfl, Fc, Hk.out, (HgA.out.trans Hg.out)⟩
      | false =>
       go_wp2_with fail
       refine HPost.out _ _ ?_
       rw [HR.out]
       exact ⟨rfl, Fc, Hk.out, (HgA.out.trans Hg.out)⟩
theorem pow2_in {k : Nat} (h : k ≤ 13) : (2 : Int) ^ k ≤ 8192 ∧ (0 : Int) ≤ (2 : Int) ^ k := by
 rcases (by omega : k = 0 ∨ k = 1 ∨ k = 2 ∨ k = 3 ∨ k = 4 ∨ k = 5 ∨ k = 6 ∨ k = 7 ∨ k = 8 ∨ k = 9 ∨ k = 10 ∨ k = 11 ∨ k = 12 ∨ k = 13) with rfl | rfl | rfl | rfl | rfl | rfl | rfl | rfl | rfl | rfl | rfl | rfl | rfl | rfl <;> decide
theorem qDRkN2 {p : Prop} (h : p := by
 rw [hb] at HB Hst
 clear hb
 go_wp2_with fail
 go_at_call 121
 refine (HB.out _ ?_).mono ?_
 ·(rw [bits_and_one]; exact beq_dec _ _)
 rintro e w5 ⟨rfl, F5, hk2, hg2⟩
 have Hk2 := lh hk2
 have Hg2 := lh (Hgd.out.trans hg2)
 clear hk2 hg2 HB
 go_wp2_with fail
 exact ⟨⟨j, 2 * gn + 1, F5, _, by have := Hj.out; omega, by go_num, by go_num, Hk2, Hg2, lh (by rw [← Hed.out, Hst.out]; rfl), lh (X.ok_le Hob.out (by have := Hj.out; omega))⟩, by simp [intOf]; try omega⟩) : p := h
theorem qDRkN3 {p : Prop} (h : p := by
 rw [hb] at HB Hst
 clear hb
 go_wp2_with fail
 go_at_call 121
 refine (HB.out _ ?_).mono ?_
 ·(rw [bits_and_one]; exact beq_dec _ _)
 rintro e w5 ⟨rfl, F5, hk2, hg2⟩
 have Hk2 := lh hk2
 have Hg2 := lh (Hgd.out.trans hg2)
 clear hk2 hg2 HB
 go_wp2_with fail
 exact ⟨⟨j, 2 * gn, F5, _, by have := Hj.out; omega, by go_num, by go_num, Hk2, Hg2, lh (by rw [← Hed.out, Hst.out]; rfl), lh (X.ok_le Hob.out (by have := Hj.out; omega))⟩, by simp [intOf]; try omega⟩) : p := h
theorem qDRkN4 {p : Prop} (h : p := by
 have hneg : ¬ ((0 : Nat) : Int) - 1 ≥ 0 := by omega
 have hgs := Hgn.out
 rw [Nat.pow_zero, Nat.mul_one] at hgs
 have Hlast : Hid (greatG X.C u s2 = (gn, sd)) := lh (HT.out.trans Hed.out.symm)
 go_wp2_with fail
 refine HPost.out _ _ ?_
 rw [HS.out, Hlast.out]
 exact ⟨by congr 2; try simp, Fd, Hkd.out, Hgd.out⟩) : p := h
theorem gsize_any {F : List Nat} {w : World} {s : X.σ} {n : Nat} (h : X.At F w s) {base : Nat} (hb : base ≤ 39) (v : Int) (hv : -100000 ≤ v ∧ v ≤ 100000) (ok : X.Ok n s) (hn : n ≤ 800000000) :
  Calls Tryz.prog 126 #[.pointer (some ⟨R, 0, none⟩), .int .i64 base, .int .i64 v] w (NumG X F w (((sizeG X.C base v s).1 : Int), (sizeG X.C base v s).2)) := by
 refine hidQ fun Q HPost => ?_
 have HK := lh h
 have HOk := lh ok
 clear h ok
 have hbi : (base : Int) ≤ 39 := by omega
 have hb0 : (0 : Int) ≤ (base : Int) := by omega
 go_enter Tryz.func126, Tryz.ntmps126
 go_wp2_with fail
 go_loopw [7] (fun i wr => ∃ (c : Nat) (Fc : List Nat) (sc : X.σ), c ≤ 14 ∧ i = .int .i64 c ∧ Hid (X.At Fc wr sc) ∧ Hid (Went F w Fc wr) ∧ Hid (onesG X.C (fun n => base + 17 + min n 7) v (14 - c) c sc = onesG X.C (fun n => base + 17 + min n 7) v 14 0 s) ∧ Hid (X.Ok (n + 2 * c) sc)) (fun i _ => 14 - (intOf i).toNat)
 case atStart => exact ⟨0, _, _, by omega, rfl, HK, lh (Went.refl _ _), lh rfl, HOk⟩
 case round =>
  obtain ⟨c, Fc, sc, hc, rfl, Hk, Hg, He, Ho⟩ := hrel
  by_cases hlt : c < 14
  ·have hlti : (c : Int) < 14 := by omega
   have hc0 : (0 : Int) ≤ (c : Int) := by omega
   have hctx : (fun n => base + 17 + min n 7) c < 64 := by show base + 17 + min c 7 < 64; omega
   have HB := lh (fun (b : Bool) (hb : b = decide ((c : Int) < v)) (y : Int) (hy : y = ((base + 17 + min c 7 : Nat) : Int)) => (by subst hb; subst hy; exact X.bit ((fun n => base + 17 + min n 7) c) _ Hk.out Ho.out (by omega) hctx : Calls Tryz.prog 122 #[.pointer (some ⟨R, 0, none⟩), .int .i64 y, .bool b] wr _))
   have Hob := lh (X.ok_bit ((fun n => base + 17 + min n 7) c) (decide ((c : Int) < v)) Ho.out hctx)
   obtain ⟨k3, hk3⟩ : ∃ k3, 14 - c = k3 + 1 := ⟨14 - c - 1, by omega⟩
   have hk3' : 14 - (c + 1) = k3 := by omega
   have Hn3 := lh (And.intro hk3 hk3')
   have Hlt := lh hlt
   clear hk3 hk3' hctx
   have Hfin : Hid (onesG X.C (fun n => base + 17 + min n 7) v 14 0 s = onesG X.C (fun n => base + 17 + min n 7) v (k3 + 1) c sc) := lh (by rw [← Hn3.out.1, He.out])
   cases hb : (X.C.bit ((fun n => base + 17 + min n 7) c) (decide ((c : Int) < v)) sc).1 with
   | true =>
    rw [hb] at HB
    have Hb := lh hb
    clear hb
    go_wp2_with fail
    all_goals
     exact qDRkN1
   | false =>
    rw [hb] at HB
    have Hb := lh hb
    clear hb
    go_wp2_with fail
    all_goals
     go_at_call 122
     refine (HB.out _ ?_ _ ?_).mono ?_
     ·first | rfl | exact bne_dec _ _ | exact beq_dec _ _ | (simp; done) | (simp; omega)
     ·first | rfl | omega
     rintro e w2 ⟨rfl, F2, hk2, hg2⟩
     have Hk2 := lh hk2
     have Hg2 := lh (Hg.out.trans hg2)
     clear hk2 hg2 HB
     have Hez : Hid (onesG X.C (fun n => base + 17 + min n 7) v 14 0 s = (c, (X.C.bit ((fun n => base + 17 + min n 7) c) (decide ((c : Int) < v)) sc).2)) := lh (Hfin.out.trans (onesG_stop X Hb.out))
     have hc14 : ¬ c = 14 := by have := Hlt.out; omega
     have HR : Hid (sizeG X.C base v s = (c, (X.C.bit ((fun n => base + 17 + min n 7) c) (decide ((c : Int) < v)) sc).2)) := lh (by unfold sizeG; rw [Hez.out]; exact if_neg hc14)
     clear hc14
     go_wp2_with fail
     refine HPost.out _ _ ?_
     rw [HR.out]
     exact ⟨rfl, F2, Hk2.out, Hg2.out⟩
  ·obtain rfl : c = 14 := by omega
   have hlti : ¬ ((14 : Nat) : Int) < 14 := by omega
   have Hez : Hid (onesG X.C (fun n => base + 17 + min n 7) v 14 0 s = (14, sc)) := lh (He.out.symm.trans rfl)
   obtain ⟨s2, hs2⟩ : ∃ x, x = sc := ⟨_, rfl⟩
   have HS : Hid (sizeG X.C base v s = (13 + (greatG X.C (v - 13) s2).1, (greatG X.C (v - 13) s2).2)) := lh (by unfold sizeG; rw [Hez.out, hs2]; exact if_pos rfl)
   rw [← hs2] at Hk
   have HkA := Hk
   have HgA := Hg
   have HoA : Hid (X.Ok (n + 28 + 2 * 0) s2) := lh (by rw [hs2]; exact X.ok_le Ho.out (by omega))
   have hub : -100020 ≤ v - 13 ∧ v - 13 ≤ 100000 := by omega
   have hu : IntKind.i64.wrap (v - 13) = v - 13 := by rw [IntKind.wrap_i64]; omega
   clear He Ho Hk Hg hs2 Hez
   generalize hug : v - 13 = u at *
   go_wp2_with fail
   go_loopw [9] (fun i wr => ∃ (c : Nat) (Fc : List Nat) (sc : X.σ), c ≤ 13 ∧ i = .int .i64 c ∧ Hid (X.At Fc wr sc) ∧ Hid (Went F w Fc wr) ∧ Hid (flatsG X.C u (13 - c) c sc = flatsG X.C u 13 0 s2) ∧ Hid (X.Ok (n + 28 + 2 * c) sc)) (fun i _ => 13 - (intOf i).toNat)
   case atStart => exact ⟨0, _, _, by omega, rfl, HkA, HgA, lh rfl, HoA⟩
   case round =>
    obtain ⟨c, Fc, sc, hc, rfl, Hk, Hg, He, Ho⟩ := hrel
    by_cases hlt : c < 13
    ·have hlti : (c : Int) < 13 := by omega
     have hc0 : (0 : Int) ≤ (c : Int) := by omega
     have hsh : (2 : Int) ^ (c + 1) ≤ 8192 ∧ (0 : Int) ≤ (2 : Int) ^ (c + 1) := pow2_in (by omega)
     have Hsh := lh hsh
     clear hsh
     have HB := lh (fun (b : Bool) (hb : b = decide ((2 : Int) ^ (c + 1) ≤ u)) => (by subst hb; exact X.flat _ Hk.out Ho.out (by omega) : Calls Tryz.prog 121 #[.pointer (some ⟨R, 0, none⟩), .bool b] wr _))
     have Hob := lh (X.ok_flat (decide ((2 : Int) ^ (c + 1) ≤ u)) Ho.out)
     obtain ⟨k3, hk3⟩ : ∃ k3, 13 - c = k3 + 1 := ⟨13 - c - 1, by omega⟩
     have hk3' : 13 - (c + 1) = k3 := by omega
     have Hn3 := lh (And.intro hk3 hk3')
     have Hlt := lh hlt
     clear hk3 hk3'
     have Hfin : Hid (flatsG X.C u 13 0 s2 = flatsG X.C u (k3 + 1) c sc) := lh (by rw [← Hn3.out.1, He.out])
     cases hb : (X.C.flat (decide ((2 : Int) ^ (c + 1) ≤ u)) sc).1 with
     | true =>
      rw [hb] at HB
      have Hb := lh hb
      clear hb
      go_wp2_with fail
      go_at_call 121
      refine (HB.out _ ?_).mono ?_
      ·(rw [show wrap64 ((2 : Int) ^ (c + 1)) = (2 : Int) ^ (c + 1) from by unfold wrap64; have := Hsh.out; omega])
      rintro e w3 ⟨rfl, F3, hk2, hg2⟩
      have Hk2 := lh hk2
      have Hg2 := lh (Hg.out.trans hg2)
      clear hk2 hg2 HB
      go_wp2_with fail
      exact ⟨⟨c + 1, F3, _, by have := Hlt.out; omega, by go_num, Hk2, Hg2, lh (by rw [Hn3.out.2, Hfin.out]; exact (flatsG_step X Hb.out).symm), lh (X.ok_le Hob.out (by omega))⟩, by simp [intOf]; have := Hlt.out; omega⟩
     | false =>
      rw [hb] at HB
      have Hb := lh hb
      clear hb
      go_wp2_with fail
      go_at_call 121
      refine (HB.out _ ?_).mono ?_
      ·(rw [show wrap64 ((2 : Int) ^ (c + 1)) = (2 : Int) ^ (c + 1) from by unfold wrap64; have := Hsh.out; omega])
      rintro e w3 ⟨rfl, F3, hk2, hg2⟩
      have Hk2 := lh hk2
      have Hg2 := lh (Hg.out.trans hg2)
      clear hk2 hg2 HB
      have Hez : Hid (flatsG X.C u 13 0 s2 = (c, (X.C.flat (decide ((2 : Int) ^ (c + 1) ≤ u)) sc).2)) := lh (Hfin.out.trans (flatsG_stop X Hb.out))
      obtain ⟨s3, hs3⟩ : ∃ x, x = (X.C.flat (decide ((2 : Int) ^ (c + 1) ≤ u)) sc).2 := ⟨_, rfl⟩
      have HkC : Hid (X.At F3 _ s3) := lh (by rw [hs3]; exact Hk2.out)
      have HoC : Hid (X.Ok (n + 54) s3) := lh (by rw [hs3]; exact (lh (X.ok_le Hob.out (by omega))).out)
      rw [← hs3] at Hez
      have HT : Hid (greatG X.C u s2 = bitsG X.C u c 1 s3) := lh (by unfold greatG; rw [Hez.out])
      obtain ⟨z, hz⟩ : ∃ z : Nat, z = c := ⟨_, rfl⟩
      rw [← hz] at HT
      have hz13 : z ≤ 13 := by omega
      have HBk := lh (fun (j g : Nat) (sc : X.σ) (hx : X.Ok 0 sc → True) => (bitsG_ok X u j g (n := 0) (s := sc)))
      clear HBk
      have hzb := bitsG_ok X u z 1 HoC.out
      have HZb := lh (show (bitsG X.C u z 1 s3).1 < 16384 by have := hzb.2.2; have h2 : 2 ^ z ≤ 2 ^ 13 := Nat.pow_le_pow_right (by omega) hz13; omega)
      clear hzb hs3
      go_wp2_with fail
      go_loopw [10, 11] (fun g i wr => ∃ (j gn : Nat) (Fc : List Nat) (sc : X.σ), j ≤ z ∧ i = .int .i64 ((j : Int) - 1) ∧ g = .int .i64 gn ∧ Hid (X.At Fc wr sc) ∧ Hid (Went F w Fc wr) ∧ Hid (bitsG X.C u j gn sc = bitsG X.C u z 1 s3) ∧ Hid (X.Ok (n + 54 + 2 * (z - j)) sc)) (fun _ i _ => (intOf i + 1).toNat)
      case atStart => exact ⟨z, 1, _, s3, Nat.le_refl _, by first | rfl | (rw [hz]; go_num) | (subst hz; go_num) | (subst hz; rfl), rfl, HkC, Hg2, lh rfl, lh (X.ok_le HoC.out (by omega))⟩
      case round =>
       obtain ⟨j, gn, Fd, sd, hj, rfl, rfl, Hkd, Hgd, Hed, Hod⟩ := hrel
       have hgn := (bitsG_ok X u j gn Hod.out).2.1
       rw [Hed.out] at hgn
       have Hgn := lh (Nat.lt_of_le_of_lt hgn HZb.out)
       clear hgn
       cases j with
       | zero =>
        exact qDRkN4
       | succ j =>
        have hj0 : ((j + 1 : Nat) : Int) - 1 = (j : Int) := by omega
        rw [hj0]
        have hjn : (0 : Int) ≤ (j : Int) := by omega
        have hj13 : (j : Int) < 13 := by omega
        have hgs : gn < 8192 := by have := Hgn.out; rw [Nat.pow_succ] at this; have h1 : 1 ≤ 2 ^ j := Nat.one_le_two_pow; have := Nat.mul_le_mul_left gn (show 2 ≤ 2 ^ j * 2 by omega); omega
        have HB := lh (fun (b : Bool) (hb : b = decide (u / (2 : Int) ^ j % 2 = 1)) => (by subst hb; exact X.flat _ Hkd.out Hod.out (by omega) : Calls Tryz.prog 121 #[.pointer (some ⟨R, 0, none⟩), .bool b] wr _))
        have Hob := lh (X.ok_flat (decide (u / (2 : Int) ^ j % 2 = 1)) Hod.out)
        have Hst : Hid (bitsG X.C u (j + 1) gn sd = bitsG X.C u j (if (X.C.flat (decide (u / (2 : Int) ^ j % 2 = 1)) sd).1 then 2 * gn + 1 else 2 * gn) (X.C.flat (decide (u / (2 : Int) ^ j % 2 = 1)) sd).2) := lh rfl
        have Hgs := lh hgs
        have Hj := lh hj
        clear hj0 hj
        cases hb : (X.C.flat (decide (u / (2 : Int) ^ j % 2 = 1)) sd).1 with
        | true =>
         exact qDRkN2
        | false =>
         exact qDRkN3
    ·obtain rfl : c = 13 := by omega
     have hlti : ¬ ((13 : Nat) : Int) < 13 := by omega
     have Hez : Hid (flatsG X.C u 13 0 s2 = (13, sc)) := lh (He.out.symm.trans rfl)
     obtain ⟨s3, hs3⟩ : ∃ x, x = sc := ⟨_, rfl⟩
     have HkC : Hid (X.At Fc _ s3) := lh (by rw [hs3]; exact Hk.out)
     have HoC : Hid (X.Ok (n + 54) s3) := lh (by rw [hs3]; exact (lh (X.ok_le Ho.out (by omega))).out)
     rw [← hs3] at Hez
     have HT : Hid (greatG X.C u s2 = bitsG X.C u 13 1 s3) := lh (by unfold greatG; rw [Hez.out])
     obtain ⟨z, hz⟩ : ∃ z : Nat, z = 13 := ⟨_, rfl⟩
     rw [← hz] at HT
     have hz13 : z ≤ 13 := by omega
     have HBk := lh (fun (j g : Nat) (sc : X.σ) (hx : X.Ok 0 sc → True) => (bitsG_ok X u j g (n := 0) (s := sc)))
     clear HBk
     have hzb := bitsG_ok X u z 1 HoC.out
     have HZb := lh (show (bitsG X.C u z 1 s3).1 < 16384 by have := hzb.2.2; have h2 : 2 ^ z ≤ 2 ^ 13 := Nat.pow_le_pow_right (by omega) hz13; omega)
     clear hzb hs3
     go_wp2_with fail
     go_loopw [10, 11] (fun g i wr => ∃ (j gn : Nat) (Fc : List Nat) (sc : X.σ), j ≤ z ∧ i = .int .i64 ((j : Int) - 1) ∧ g = .int .i64 gn ∧ Hid (X.At Fc wr sc) ∧ Hid (Went F w Fc wr) ∧ Hid (bitsG X.C u j gn sc = bitsG X.C u z 1 s3) ∧ Hid (X.Ok (n + 54 + 2 * (z - j)) sc)) (fun _ i _ => (intOf i + 1).toNat)
     case atStart => exact ⟨z, 1, _, s3, Nat.le_refl _, by first | rfl | (rw [hz]; go_num) | (subst hz; go_num) | (subst hz; rfl), rfl, HkC, Hg, lh rfl, lh (X.ok_le HoC.out (by omega))⟩
     case round =>
      obtain ⟨j, gn, Fd, sd, hj, rfl, rfl, Hkd, Hgd, Hed, Hod⟩ := hrel
      have hgn := (bitsG_ok X u j gn Hod.out).2.1
      rw [Hed.out] at hgn
      have Hgn := lh (Nat.lt_of_le_of_lt hgn HZb.out)
      clear hgn
      cases j with
      | zero =>
       exact qDRkN4
      | succ j =>
       have hj0 : ((j + 1 : Nat) : Int) - 1 = (j : Int) := by omega
       rw [hj0]
       have hjn : (0 : Int) ≤ (j : Int) := by omega
       have hj13 : (j : Int) < 13 := by omega
       have hgs : gn < 8192 := by have := Hgn.out; rw [Nat.pow_succ] at this; have h1 : 1 ≤ 2 ^ j := Nat.one_le_two_pow; have := Nat.mul_le_mul_left gn (show 2 ≤ 2 ^ j * 2 by omega); omega
       have HB := lh (fun (b : Bool) (hb : b = decide (u / (2 : Int) ^ j % 2 = 1)) => (by subst hb; exact X.flat _ Hkd.out Hod.out (by omega) : Calls Tryz.prog 121 #[.pointer (some ⟨R, 0, none⟩), .bool b] wr _))
       have Hob := lh (X.ok_flat (decide (u / (2 : Int) ^ j % 2 = 1)) Hod.out)
       have Hst : Hid (bitsG X.C u (j + 1) gn sd = bitsG X.C u j (if (X.C.flat (decide (u / (2 : Int) ^ j % 2 = 1)) sd).1 then 2 * gn + 1 else 2 * gn) (X.C.flat (decide (u / (2 : Int) ^ j % 2 = 1)) sd).2) := lh rfl
       have Hgs := lh hgs
       have Hj := lh hj
       clear hj0 hj
       cases hb : (X.C.flat (decide (u / (2 : Int) ^ j % 2 = 1)) sd).1 with
       | true =>
        exact qDRkN2
       | false =>
        exact qDRkN3
end
theorem qDRkO0 {p : Prop} (h : p := by
 have hba := lh (fun (o : Obj) => (show w.heap.size ≤ (wr.alloc o).heap.size by simp; omega))
 clear hin
 go_wp2_with (first
  | (at_builtin; refine wpList_append_ints rfl (.tmp 42) (.tmp 50) _ rfl EI (HOI.out.quiet (Only.new _ _)) rfl (hsrc.out _) rfl hby.out (hba.out _) (fun v1 w1 hown1 ho1 => ?_); obtain ⟨x1, x1cap, hx1, _⟩ := hown1.ints.open; subst hx1; simp only [List.length_append, List.length_singleton] at hown1 ho1 ⊢; have HO1 := lh hown1; have HA1 := lh ho1; clear hown1 ho1)
  | fail)
 exact ⟨⟨j + 1, by omega, by go_num, by rw [HPJ.out, hrow.out]; have := HO1.out; rw [hval.out] at this; simpa [natI] using this, HA1.out.from_ HFI.out (hba.out _), (HQI.out.q (Only.new _ _)).acc HA1.out HFI.out⟩, by simp [intOf]; omega⟩) : p := h
theorem qDRkO1 {p : Prop} (h : p := by
 go_wp2_with fail
 exact ⟨⟨j + 1, by omega, by go_num, by rw [HPJ.out, hrow.out, List.append_nil]; exact HOI.out, HFI.out, HQI.out⟩, by simp [intOf]; omega⟩) : p := h
theorem qDRkO2 {p : Prop} (h : p := by
 obtain rfl : j = k + 1 := by omega
 have hji : ¬ ((k + 1 : Nat) : Int) ≤ (k : Int) := by omega
 go_wp2_with fail
 exact ⟨⟨k + 1, by omega, by go_num, by rw [HP.out]; exact HOI.out, HFI.out, HQI.out⟩, by simp [intOf]; omega⟩) : p := h
theorem korder4_any (w : World) :
  Calls Tryz.prog 124 #[.int .i64 4] w fun e w' => ∃ v', e = .returned v' ∧ Own .i64 3 w.heap.size w' v' (natI (orderD 4)) ∧ Only [] w w' := by
 go_enter Tryz.func124, Tryz.ntmps124
 go_wp2_with fail
 go_loopw [3, 4] (fun y s wr => ∃ k : Nat, k ≤ 7 ∧ s = .int .i64 k ∧ Own .i64 3 w.heap.size wr y (natI ((List.range k).flatMap fun s => (List.range (s + 1)).flatMap (rowO 4 s))) ∧ From w.heap.size y ∧ Only [] w wr) (fun _ s _ => 7 - (intOf s).toNat)
 case atStart => exact ⟨0, by omega, rfl, by simpa [natI] using Own.nil _ _ _ _, From.nil _, Only.refl _ _⟩
 case round =>
  obtain ⟨k, hk, rfl, hown, hfrom, hq⟩ := hrel
  have HOwn := lh hown
  have HFrom := lh hfrom
  have HQ := lh hq
  clear hown hfrom hq
  by_cases hlt : k < 7
  ·have hlti : (k : Int) ≤ 6 := by omega
   have hk0 : (0 : Int) ≤ (k : Int) := by omega
   have HP := lh (show (List.range (k + 1)).flatMap (fun s => (List.range (s + 1)).flatMap (rowO 4 s)) = (List.range k).flatMap (fun s => (List.range (s + 1)).flatMap (rowO 4 s)) ++ (List.range (k + 1)).flatMap (rowO 4 k) from flatMap_range_succ _ k)
   have HLen := lh (orderPre_len 4 k)
   generalize (List.range k).flatMap (fun s => (List.range (s + 1)).flatMap (rowO 4 s)) = PRE at *
   go_wp2_with fail
   go_loopw [3, 5] (fun y i wi => ∃ j : Nat, j ≤ k + 1 ∧ i = .int .i64 j ∧ Own .i64 3 w.heap.size wi y (natI (PRE ++ (List.range j).flatMap (rowO 4 k))) ∧ From w.heap.size y ∧ Only [] w wi) (fun _ i _ => k + 1 - (intOf i).toNat)
   case atStart => exact ⟨0, by omega, rfl, by simpa using HOwn.out, HFrom.out, HQ.out⟩
   case round =>
    obtain ⟨j, hj, rfl, hown, hfrom, hq⟩ := hrel
    have HOI := lh hown
    have HFI := lh hfrom
    have HQI := lh hq
    clear hown hfrom hq
    by_cases hjl : j < k + 1
    ·have hji : (j : Int) ≤ (k : Int) := by omega
     have hj0 : (0 : Int) ≤ (j : Int) := by omega
     have HPJ := lh (show PRE ++ (List.range (j + 1)).flatMap (rowO 4 k) = PRE ++ (List.range j).flatMap (rowO 4 k) ++ rowO 4 k j by rw [List.range_succ, List.flatMap_append, List.append_assoc]; simp)
     have HLJ := lh (show (PRE ++ (List.range j).flatMap (rowO 4 k)).length ≤ 10000 by have := orderRow_len 4 k j; have := HLen.out; have h16 : (k + 1) * (k + 1) ≤ 16 * 16 := Nat.mul_le_mul (by omega) (by omega); rw [List.length_append]; omega)
     generalize PRE ++ (List.range j).flatMap (rowO 4 k) = S0 at *
     have hzj := HQI.out.size
     by_cases hpar : k % 2 = 0
     ·have hpi : (k : Int) % 2 = 0 := by omega
      by_cases hx : k - j < 4
      ·have hxi : (k : Int) - (j : Int) < 4 := by omega
       by_cases hy : j < 4
       ·have hyi : (k : Int) - ((k : Int) - (j : Int)) < 4 := by omega
        have hrow : Hid (rowO 4 k j = [(k - j) * 4 + j]) := lh (by unfold rowO; rw [if_pos hpar, if_pos hpar, if_pos ⟨hy, hx⟩])
        have hval : Hid ((((k : Int) - (j : Int)) * 4 + (k : Int) - ((k : Int) - (j : Int)) : Int) = ((((k - j) * 4 + j : Nat)) : Int)) := lh (by omega)
        have hin : ∀ x ∈ [(((k : Int) - (j : Int)) * 4 + (k : Int) - ((k : Int) - (j : Int)) : Int)], InK .i64 x := by simp only [mSg, forall_eq, InK]; omega
        have hsrc := lh (fun (W : World) => ints_newG (k := .i64) (w := W) (t := 3) (l := [(((k : Int) - (j : Int)) * 4 + (k : Int) - ((k : Int) - (j : Int)) : Int)]) rfl (by simp [maxLen]) hin 1 rfl rfl)
        have hby := lh (show ((natI S0).length + [(((k : Int) - (j : Int)) * 4 + (k : Int) - ((k : Int) - (j : Int)) : Int)].length) * 8 ≤ 140737488355328 by have := HLJ.out; simp [natI]; omega)
        exact qDRkO0
       ·have hyi : ¬ (k : Int) - ((k : Int) - (j : Int)) < 4 := by omega
        have hrow : Hid (rowO 4 k j = []) := lh (by unfold rowO; rw [if_pos hpar, if_pos hpar, if_neg (by omega)])
        exact qDRkO1
      ·have hxi : ¬ (k : Int) - (j : Int) < 4 := by omega
       have hrow : Hid (rowO 4 k j = []) := lh (by unfold rowO; rw [if_pos hpar, if_pos hpar, if_neg (by omega)])
       exact qDRkO1
     ·have hpi : ¬ (k : Int) % 2 = 0 := by omega
      by_cases hx : j < 4
      ·have hxi : (j : Int) < 4 := by omega
       by_cases hy : k - j < 4
       ·have hyi : (k : Int) - (j : Int) < 4 := by omega
        have hrow : Hid (rowO 4 k j = [j * 4 + (k - j)]) := lh (by unfold rowO; rw [if_neg hpar, if_neg hpar, if_pos ⟨hy, hx⟩])
        have hval : Hid (((j : Int) * 4 + (k : Int) - (j : Int) : Int) = (((j * 4 + (k - j) : Nat)) : Int)) := lh (by omega)
        have hin : ∀ x ∈ [((j : Int) * 4 + (k : Int) - (j : Int) : Int)], InK .i64 x := by simp only [mSg, forall_eq, InK]; omega
        have hsrc := lh (fun (W : World) => ints_newG (k := .i64) (w := W) (t := 3) (l := [((j : Int) * 4 + (k : Int) - (j : Int) : Int)]) rfl (by simp [maxLen]) hin 1 rfl rfl)
        have hby := lh (show ((natI S0).length + [((j : Int) * 4 + (k : Int) - (j : Int) : Int)].length) * 8 ≤ 140737488355328 by have := HLJ.out; simp [natI]; omega)
        exact qDRkO0
       ·have hyi : ¬ (k : Int) - (j : Int) < 4 := by omega
        have hrow : Hid (rowO 4 k j = []) := lh (by unfold rowO; rw [if_neg hpar, if_neg hpar, if_neg (by omega)])
        exact qDRkO1
      ·have hxi : ¬ (j : Int) < 4 := by omega
       have hrow : Hid (rowO 4 k j = []) := lh (by unfold rowO; rw [if_neg hpar, if_neg hpar, if_neg (by omega)])
       exact qDRkO1
    ·exact qDRkO2
  ·obtain rfl : k = 7 := by omega
   have hlti : ¬ ((7 : Nat) : Int) ≤ 6 := by omega
   go_wp2_with fail
   go_ret
   exact ⟨_, rfl, HOwn.out, HQ.out⟩
theorem korder8_any (w : World) :
  Calls Tryz.prog 124 #[.int .i64 8] w fun e w' => ∃ v', e = .returned v' ∧ Own .i64 3 w.heap.size w' v' (natI (orderD 8)) ∧ Only [] w w' := by
 go_enter Tryz.func124, Tryz.ntmps124
 go_wp2_with fail
 go_loopw [3, 4] (fun y s wr => ∃ k : Nat, k ≤ 15 ∧ s = .int .i64 k ∧ Own .i64 3 w.heap.size wr y (natI ((List.range k).flatMap fun s => (List.range (s + 1)).flatMap (rowO 8 s))) ∧ From w.heap.size y ∧ Only [] w wr) (fun _ s _ => 15 - (intOf s).toNat)
 case atStart => exact ⟨0, by omega, rfl, by simpa [natI] using Own.nil _ _ _ _, From.nil _, Only.refl _ _⟩
 case round =>
  obtain ⟨k, hk, rfl, hown, hfrom, hq⟩ := hrel
  have HOwn := lh hown
  have HFrom := lh hfrom
  have HQ := lh hq
  clear hown hfrom hq
  by_cases hlt : k < 15
  ·have hlti : (k : Int) ≤ 14 := by omega
   have hk0 : (0 : Int) ≤ (k : Int) := by omega
   have HP := lh (show (List.range (k + 1)).flatMap (fun s => (List.range (s + 1)).flatMap (rowO 8 s)) = (List.range k).flatMap (fun s => (List.range (s + 1)).flatMap (rowO 8 s)) ++ (List.range (k + 1)).flatMap (rowO 8 k) from flatMap_range_succ _ k)
   have HLen := lh (orderPre_len 8 k)
   generalize (List.range k).flatMap (fun s => (List.range (s + 1)).flatMap (rowO 8 s)) = PRE at *
   go_wp2_with fail
   go_loopw [3, 5] (fun y i wi => ∃ j : Nat, j ≤ k + 1 ∧ i = .int .i64 j ∧ Own .i64 3 w.heap.size wi y (natI (PRE ++ (List.range j).flatMap (rowO 8 k))) ∧ From w.heap.size y ∧ Only [] w wi) (fun _ i _ => k + 1 - (intOf i).toNat)
   case atStart => exact ⟨0, by omega, rfl, by simpa using HOwn.out, HFrom.out, HQ.out⟩
   case round =>
    obtain ⟨j, hj, rfl, hown, hfrom, hq⟩ := hrel
    have HOI := lh hown
    have HFI := lh hfrom
    have HQI := lh hq
    clear hown hfrom hq
    by_cases hjl : j < k + 1
    ·have hji : (j : Int) ≤ (k : Int) := by omega
     have hj0 : (0 : Int) ≤ (j : Int) := by omega
     have HPJ := lh (show PRE ++ (List.range (j + 1)).flatMap (rowO 8 k) = PRE ++ (List.range j).flatMap (rowO 8 k) ++ rowO 8 k j by rw [List.range_succ, List.flatMap_append, List.append_assoc]; simp)
     have HLJ := lh (show (PRE ++ (List.range j).flatMap (rowO 8 k)).length ≤ 10000 by have := orderRow_len 8 k j; have := HLen.out; have h16 : (k + 1) * (k + 1) ≤ 16 * 16 := Nat.mul_le_mul (by omega) (by omega); rw [List.length_append]; omega)
     generalize PRE ++ (List.range j).flatMap (rowO 8 k) = S0 at *
     have hzj := HQI.out.size
     by_cases hpar : k % 2 = 0
     ·have hpi : (k : Int) % 2 = 0 := by omega
      by_cases hx : k - j < 8
      ·have hxi : (k : Int) - (j : Int) < 8 := by omega
       by_cases hy : j < 8
       ·have hyi : (k : Int) - ((k : Int) - (j : Int)) < 8 := by omega
        have hrow : Hid (rowO 8 k j = [(k - j) * 8 + j]) := lh (by unfold rowO; rw [if_pos hpar, if_pos hpar, if_pos ⟨hy, hx⟩])
        have hval : Hid ((((k : Int) - (j : Int)) * 8 + (k : Int) - ((k : Int) - (j : Int)) : Int) = ((((k - j) * 8 + j : Nat)) : Int)) := lh (by omega)
        have hin : ∀ x ∈ [(((k : Int) - (j : Int)) * 8 + (k : Int) - ((k : Int) - (j : Int)) : Int)], InK .i64 x := by simp only [mSg, forall_eq, InK]; omega
        have hsrc := lh (fun (W : World) => ints_newG (k := .i64) (w := W) (t := 3) (l := [(((k : Int) - (j : Int)) * 8 + (k : Int) - ((k : Int) - (j : Int)) : Int)]) rfl (by simp [maxLen]) hin 1 rfl rfl)
        have hby := lh (show ((natI S0).length + [(((k : Int) - (j : Int)) * 8 + (k : Int) - ((k : Int) - (j : Int)) : Int)].length) * 8 ≤ 140737488355328 by have := HLJ.out; simp [natI]; omega)
        exact qDRkO0
       ·have hyi : ¬ (k : Int) - ((k : Int) - (j : Int)) < 8 := by omega
        have hrow : Hid (rowO 8 k j = []) := lh (by unfold rowO; rw [if_pos hpar, if_pos hpar, if_neg (by omega)])
        exact qDRkO1
      ·have hxi : ¬ (k : Int) - (j : Int) < 8 := by omega
       have hrow : Hid (rowO 8 k j = []) := lh (by unfold rowO; rw [if_pos hpar, if_pos hpar, if_neg (by omega)])
       exact qDRkO1
     ·have hpi : ¬ (k : Int) % 2 = 0 := by omega
      by_cases hx : j < 8
      ·have hxi : (j : Int) < 8 := by omega
       by_cases hy : k - j < 8
       ·have hyi : (k : Int) - (j : Int) < 8 := by omega
        have hrow : Hid (rowO 8 k j = [j * 8 + (k - j)]) := lh (by unfold rowO; rw [if_neg hpar, if_neg hpar, if_pos ⟨hy, hx⟩])
        have hval : Hid (((j : Int) * 8 + (k : Int) - (j : Int) : Int) = (((j * 8 + (k - j) : Nat)) : Int)) := lh (by omega)
        have hin : ∀ x ∈ [((j : Int) * 8 + (k : Int) - (j : Int) : Int)], InK .i64 x := by simp only [mSg, forall_eq, InK]; omega
        have hsrc := lh (fun (W : World) => ints_newG (k := .i64) (w := W) (t := 3) (l := [((j : Int) * 8 + (k : Int) - (j : Int) : Int)]) rfl (by simp [maxLen]) hin 1 rfl rfl)
        have hby := lh (show ((natI S0).length + [((j : Int) * 8 + (k : Int) - (j : Int) : Int)].length) * 8 ≤ 140737488355328 by have := HLJ.out; simp [natI]; omega)
        exact qDRkO0
       ·have hyi : ¬ (k : Int) - (j : Int) < 8 := by omega
        have hrow : Hid (rowO 8 k j = []) := lh (by unfold rowO; rw [if_neg hpar, if_neg hpar, if_neg (by omega)])
        exact qDRkO1
      ·have hxi : ¬ (j : Int) < 8 := by omega
       have hrow : Hid (rowO 8 k j = []) := lh (by unfold rowO; rw [if_neg hpar, if_neg hpar, if_neg (by omega)])
       exact qDRkO1
    ·exact qDRkO2
  ·obtain rfl : k = 15 := by omega
   have hlti : ¬ ((15 : Nat) : Int) ≤ 14 := by omega
   go_wp2_with fail
   go_ret
   exact ⟨_, rfl, HOwn.out, HQ.out⟩
theorem kbase_any4 (w : World) : Calls Tryz.prog 123 #[.int .i64 4] w fun e w' => e = .returned (.int .i64 14) ∧ w = w' := by
 go_enter Tryz.func123, Tryz.ntmps123
 go_wp2
 go_ret
 exact ⟨rfl, rfl⟩
theorem kbase_any8 (w : World) : Calls Tryz.prog 123 #[.int .i64 8] w fun e w' => e = .returned (.int .i64 39) ∧ w = w' := by
 go_enter Tryz.func123, Tryz.ntmps123
 go_wp2
 go_ret
 exact ⟨rfl, rfl⟩
theorem within_zero (l : List Int) : withinB l 0 0 = zeroB l := by
 unfold withinB zeroB
 induction l with
 | nil => rfl
 | cons x l ih =>
  simp only [List.all_cons]
  rw [ih]
  congr 1
  by_cases h : x = 0
  ·subst h; rfl
  ·have h2 : (x == 0) = false := by simp [h]
   rw [h2]
   simp only [Bool.and_eq_false_iff, Bool.not_eq_false', Bool.and_eq_true, decide_eq_true_eq, Bool.or_eq_true, Bool.not_eq_true', Bool.or_eq_false_iff, decide_eq_false_iff_not]
   omega
theorem kzero_any {lo hi : Nat} {v : Value} {l : List Int} {w : World} (h : Ints .i64 lo hi w v l) : Calls Tryz.prog 125 #[v] w fun e w' => e = .returned (.bool (zeroB l)) ∧ w = w' := by
 obtain ⟨a, cap, hv, -⟩ := h.open
 have HW := lh (within_any 0 0 h)
 subst hv
 clear h
 go_enter Tryz.func125, Tryz.ntmps125
 go_wp2_with fail
 go_at_call 23
 refine HW.out.mono ?_
 rintro e w1 ⟨rfl, rfl⟩
 go_wp2_with fail
 go_ret
 exact ⟨by rw [show Value.bool (zeroB l) = Value.bool (withinB l 0 0) by rw [within_zero]]; first | rfl | (rw [within_zero]; rfl), rfl⟩
theorem krest_zero {lo hi lo' hi' : Nat} {v u : Value} {l : List Int} {o : List Nat} {w : World} (h : Ints .i64 lo hi w v l) (g : Ints .i64 lo' hi' w u (natI o)) (ho : ∀ a ∈ o, a < l.length) (i : Nat) (hi : i ≤ o.length) :
  Calls Tryz.prog 128 #[v, u, .int .i64 i] w fun e w' => e = .returned (.bool (zerosAt l (o.drop i))) ∧ w = w' := by
 obtain ⟨a, cap, rfl, hc1, hm1, hat, hcell⟩ := h.open
 obtain ⟨b, bcap, rfl, hc2, hm2, hbt, hbcell⟩ := g.open
 have hol : (natI o).length = o.length := by simp [natI]
 rw [hol] at hbt hbcell hc2 ⊢
 have hll : (o.length : Int) ≤ 9223372036854775807 := by unfold maxLen at hm2; omega
 have Hat := lh hat
 have Hcell := lh hcell
 have Hbt := lh hbt
 have Hbcell := lh hbcell
 have Ho := lh ho
 have Hi := lh hi
 clear h g hat hcell hbt hbcell ho hol hc1 hm1 hc2 hm2
 go_enter Tryz.func128, Tryz.ntmps128
 go_wp2_with fail
 go_loopw [7] (fun s wr => ∃ k : Nat, k ≤ o.length ∧ s = .int .i64 k ∧ Hid (zerosAt l (o.drop k) = zerosAt l (o.drop i)) ∧ w = wr) (fun s _ => o.length - (intOf s).toNat)
 case atStart => exact ⟨i, Hi.out, rfl, lh rfl, rfl⟩
 case round =>
  obtain ⟨k, hk, rfl, He, rfl⟩ := hrel
  by_cases hlt : k < o.length
  ·have hki : (k : Int) < (o.length : Int) := by omega
   have hk0 : (0 : Int) ≤ (k : Int) := by omega
   obtain ⟨c, hc⟩ : ∃ c, o.getD k 0 = c := ⟨_, rfl⟩
   have hcl : c < l.length := Ho.out c (by rw [← hc]; simp [hlt])
   obtain ⟨bb, bo, rfl, _, _⟩ := Hbt.out k hlt
   have c1 := Hbcell.out bb bo rfl k hlt
   have hnk : (natI o).getD k 0 = (c : Int) := by rw [← hc]; simp [natI, hlt]
   rw [hnk] at c1
   obtain ⟨ab, ao, rfl, _, _⟩ := Hat.out c hcl
   have c0 := Hcell.out ab ao rfl c hcl
   have hci : (c : Int) < (l.length : Int) := by omega
   have hc0 : (0 : Int) ≤ (c : Int) := by omega
   have Hd : Hid (zerosAt l (o.drop k) = ((l.getD c 0 == 0) && zerosAt l (o.drop (k + 1)))) := lh (by
    rw [List.drop_eq_getElem_cons hlt]
    have : o[k] = c := by rw [← hc]; simp [hlt]
    rw [this]; rfl)
   have Hlt := lh hlt
   generalize l.getD c 0 = x at *
   clear hnk hc hlt
   by_cases hx : x = 0
   ·subst hx
    go_wp2_with fail
    exact ⟨⟨k + 1, by have := Hlt.out; omega, by go_num, lh (by rw [← He.out, Hd.out]; simp), by first | rfl | trivial⟩, by simp [intOf]; have := Hlt.out; omega⟩
   ·have hxb : (x == 0) = false := by rw [beq_eq_false_iff_ne]; exact hx
    go_wp2_with fail
    go_ret
    exact ⟨by rw [← He.out, Hd.out, hxb]; rfl, rfl⟩
  ·obtain rfl : k = o.length := by omega
   have hki : ¬ ((o.length : Nat) : Int) < (o.length : Int) := by omega
   go_wp2_with fail
   go_ret
   exact ⟨by rw [← He.out, List.drop_eq_nil_of_le (Nat.le_refl _)]; rfl, rfl⟩
section
variable {σ : Type} {C : CodO σ} {base last a i : Nat} {l out : List Int} {rest : List Nat} {m m1 m2 m3 : σ} {x : Int} {b : Bool}
theorem goG_skip (hi : i < last) (hB : C.bit (base + 1 + min i 7) (decide (l.getD a 0 ≠ 0)) m = (false, m1)) : coefGoG C base last l (a :: rest) i out m = coefGoG C base last l rest (i + 1) out m1 := by
 rw [coefGoG, if_pos hi, hB]; exact if_neg (by simp)
theorem goG_bad (hi : i < last) (hB : C.bit (base + 1 + min i 7) (decide (l.getD a 0 ≠ 0)) m = (true, m1)) (hL : levelG C base (l.getD a 0) m1 = (x, m2)) (hx : x < -16320 ∨ 16320 < x) : coefGoG C base last l (a :: rest) i out m = (.error ⟨[(sCoef, (i : Int))], 3⟩, m2) := by
 rw [coefGoG, if_pos hi, hB]; simp only [hL, if_true, if_pos hx]
theorem goG_done (hi : i < last) (hB : C.bit (base + 1 + min i 7) (decide (l.getD a 0 ≠ 0)) m = (true, m1)) (hL : levelG C base (l.getD a 0) m1 = (x, m2)) (hx : ¬ (x < -16320 ∨ 16320 < x)) (h9 : C.bit (base + 9 + min i 7) (zerosAt l rest) m2 = (true, m3)) : coefGoG C base last l (a :: rest) i out m = (.ok (out.set a x), m3) := by
 rw [coefGoG, if_pos hi, hB]; simp only [hL, if_true, if_neg hx, h9]
theorem goG_more (hi : i < last) (hB : C.bit (base + 1 + min i 7) (decide (l.getD a 0 ≠ 0)) m = (true, m1)) (hL : levelG C base (l.getD a 0) m1 = (x, m2)) (hx : ¬ (x < -16320 ∨ 16320 < x)) (h9 : C.bit (base + 9 + min i 7) (zerosAt l rest) m2 = (false, m3)) : coefGoG C base last l (a :: rest) i out m = coefGoG C base last l rest (i + 1) (out.set a x) m3 := by
 rw [coefGoG, if_pos hi, hB]; simp only [hL, if_true, if_neg hx, h9]; exact if_neg (by simp)
theorem goG_bad' (hi : ¬ i < last) (hL : levelG C base (l.getD a 0) m = (x, m2)) (hx : x < -16320 ∨ 16320 < x) : coefGoG C base last l (a :: rest) i out m = (.error ⟨[(sCoef, (i : Int))], 3⟩, m2) := by
 rw [coefGoG, if_neg hi]; simp only [hL, if_pos hx]
theorem goG_more' (hi : ¬ i < last) (hL : levelG C base (l.getD a 0) m = (x, m2)) (hx : ¬ (x < -16320 ∨ 16320 < x)) : coefGoG C base last l (a :: rest) i out m = coefGoG C base last l rest (i + 1) (out.set a x) m2 := by
 rw [coefGoG, if_neg hi]; simp only [hL, if_neg hx]
theorem levelG_eq {v : Int} {neg : Bool} {z : Nat} (hf : C.flat (decide (v < 0)) m = (neg, m1)) (hs : sizeG C base (max v (-v) - 1) m1 = (z, m2)) : levelG C base v m = (signD neg z, m2) := by
 unfold levelG; rw [hf]; simp only [hs]
end
theorem natI_at2 (l : List Nat) (i : Nat) : (natI l).getD i 0 = ((l.getD i 0 : Nat) : Int) := by
 unfold natI
 rw [List.getD_eq_getElem?_getD, List.getD_eq_getElem?_getD, List.getElem?_map]
 cases l[i]? <;> rfl
theorem within_lev {l : List Int} (h : LevOk l) : withinB l (-16320) 16320 = true := by
 unfold withinB
 rw [List.all_eq_true]
 intro x hx
 have := h x hx
 simp
 omega
/-- a coder's blocks and the block of a list that is made, behind W -/
structure CLoop (g : Nat) (F : List Nat) (W : World) (Fc : List Nat) (w : World) : Prop where
 only : Only (g :: F) W w
 new : ∀ x ∈ Fc, x ∈ F ∨ W.heap.size ≤ x
section
variable {g : Nat} {F Fc F' : List Nat} {W w w' : World}
theorem CLoop.went (h : CLoop g F W Fc w) (k : Went Fc w F' w') : CLoop g F W F' w' :=
 ⟨h.only.trans k.1 (fun x hx _ => hx) (fun x hx hl => by rcases h.new x hx with a | a; exact List.mem_cons_of_mem _ a; omega), fun x hx => (k.2 x hx).elim (h.new x) (fun a => .inr (Nat.le_trans h.only.size a))⟩
theorem CLoop.store (h : CLoop g F W Fc w) (k : Only [g] w w') : CLoop g F W Fc w' := ⟨h.only.trans k (fun x hx _ => hx) (fun x hx _ => by rw [mSg] at hx; rw [hx]; exact List.mem_cons_self ..), h.new⟩
theorem CLoop.quiet (h : CLoop g F W Fc w) (k : Only [] w w') : CLoop g F W Fc w' := ⟨h.only.trans k (fun x hx _ => hx) (by simp), h.new⟩
theorem CLoop.apart (h : CLoop g F W Fc w) (hg : g < W.heap.size) (hF : g ∉ F) : g ∉ Fc := fun hx => (h.new g hx).elim hF (fun a => by omega)
theorem CLoop.end {w0 : World} {e : Nat} (hq : Only [] w0 W) (h : CLoop g F W Fc w) (o : Only [e] w w') (hg : w0.heap.size ≤ g) (he : w0.heap.size ≤ e) : Went F w0 Fc w' :=
 ⟨(hq.trans h.only (U := F) (by simp) (fun x hx hl => by rcases List.mem_cons.1 hx with rfl | a; omega; exact a)).trans o (fun x hx _ => hx) (fun x hx hl => by rw [mSg] at hx; omega), fun x hx => (h.new x hx).imp_right (fun a => Nat.le_trans hq.size a)⟩
end
/-- what kinref14.Code hands back -/
def CodeG {R : Nat} (X : KC R) (F : List Nat) (w : World) (r : Except Err (List Int) × X.σ) (e : Ending) (w' : World) : Prop :=
 ∃ F', X.At F' w' r.2 ∧ Went F w F' w' ∧ match r.1 with
  | .ok o => ∃ v', e = .returned (.tuple #[v', .agg #[.int .i64 0, .slice none 0 0]]) ∧ Own .i64 3 w.heap.size w' v' o ∧ ∀ g, v'.ownBlock = some g → g ∉ F'
  | .error er => ∃ sv, e = .returned (.tuple #[.slice none 0 0, .agg #[.int .i64 er.code, sv]]) ∧ Cells 2 w.heap.size w'.heap.size w' sv er.path.length (flat er.path)
theorem sizeG_ok {R : Nat} (X : KC R) {base : Nat} (hb : base ≤ 39) (v : Int) {n : Nat} {s : X.σ} (h : X.Ok n s) : X.Ok (n + 80) (sizeG X.C base v s).2 ∧ (sizeG X.C base v s).1 ≤ 16400 := by
 obtain ⟨a, b, c⟩ := onesG_ok X (f := fun n => base + 17 + min n 7) (fun i => by omega) v 14 0 h
 unfold sizeG
 split
 ·obtain ⟨p, q, r⟩ := flatsG_ok X (v - 13) 13 0 a
  obtain ⟨x, y, z⟩ := bitsG_ok X (v - 13) (flatsG X.C (v - 13) 13 0 (onesG X.C (fun n => base + 17 + min n 7) v 14 0 s).2).1 1 p
  have h2 : 2 ^ (flatsG X.C (v - 13) 13 0 (onesG X.C (fun n => base + 17 + min n 7) v 14 0 s).2).1 ≤ 2 ^ 13 := Nat.pow_le_pow_right (by omega) (by omega)
  exact ⟨X.ok_le x (by omega), by show 13 + (greatG X.C (v - 13) _).1 ≤ _; unfold greatG; omega⟩
 ·exact ⟨X.ok_le a (by omega), by omega⟩
end Go.Proofs.YthgpgbdkcdmbpaaGreatDoor
