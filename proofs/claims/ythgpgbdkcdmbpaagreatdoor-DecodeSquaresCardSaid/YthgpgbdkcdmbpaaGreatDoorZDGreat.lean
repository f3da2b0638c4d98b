/- Joined texts: DGreat. Conditions: each part names its own. -/
import Derived.Test.YthgpgbdkcdmbpaaGreatDoorZDNums
/- coef.great as the decoder asks it. Conditions: the coder is a reader that may stand so. -/
namespace Go.Proofs.YthgpgbdkcdmbpaaGreatDoor
open Go.RowKit
set_option linter.unusedVariables false
set_option linter.unusedSimpArgs false

theorem nFlat (R : Nat) (w : World) : (nilAhead 371 81 (.pointer (some ⟨R, 0, none⟩)) "Flat").run Tryz.prog w = .ok (some false) w := by kernel_rfl
theorem nBit (R : Nat) (w : World) : (nilAhead 371 81 (.pointer (some ⟨R, 0, none⟩)) "Bit").run Tryz.prog w = .ok (some false) w := by kernel_rfl
theorem flatsD_step {k n : Nat} {m : Mod} (h : (flatD m).1 = true) : flatsD (k + 1) n m = flatsD k (n + 1) (flatD m).2 := if_pos h
theorem flatsD_stop {k n : Nat} {m : Mod} (h : (flatD m).1 = false) : flatsD (k + 1) n m = (n, (flatD m).2) := if_neg (by rw [h]; simp)

set_option maxRecDepth 100000 in
set_option maxHeartbeats 8000000 in
theorem mgreat_any {lo hi R D : Nat} {bv : Value} {w : World} {m : Mod} (h : ModAt lo hi R D bv w m) (u : Int) (hu : -100000 ≤ u ∧ u ≤ 100000) (hp : m.d.pos ≤ 900000000) :
    Calls Tryz.prog 166 #[cv R, .int .i64 u] w (NumP lo hi R D bv w (((greatD m).1 : Int), (greatD m).2)) := by
  suffices key : ∀ Q : Ending → World → Prop, Hid (∀ e w', NumP lo hi R D bv w (((greatD m).1 : Int), (greatD m).2) e w' → Q e w') → Calls Tryz.prog 166 #[cv R, .int .i64 u] w Q from key _ (Lib.hid fun _ _ h => h)
  intro Q HPost
  have mf := mFlat R
  have nf := nFlat R
  have HK := Lib.hid h
  have HG : Hid (greatD m = bitsD (flatsD 13 0 m).1 1 (flatsD 13 0 m).2) := Lib.hid rfl
  clear h
  go_enter Tryz.func166, Tryz.ntmps166
  go_wp2_with fail
  go_loopw [5] (fun i wr => ∃ (n : Nat) (mc : Mod), n ≤ 13 ∧ i = .int .i64 n ∧ Hid (ModAt lo hi R D bv wr mc) ∧ Hid (flatsD (13 - n) n mc = flatsD 13 0 m) ∧ mc.d.pos ≤ m.d.pos + 2 * n ∧ Only [R, D] w wr) (fun i _ => 13 - (intOf i).toNat)
  case atStart => exact ⟨0, m, by omega, rfl, HK, Lib.hid rfl, by omega, Only.refl _ _⟩
  case round =>
    obtain ⟨n, mc, hn, rfl, Hk, He, hpos, hq⟩ := hrel
    have HQ := Lib.hid hq
    clear hq
    by_cases hlt : n < 13
    · have hlti : (n : Int) < 13 := by omega
      have hn0 : (0 : Int) ≤ (n : Int) := by omega
      have hadv := flatD_adv Hk.out.ok
      have HA := Lib.hid hadv
      have HB := Lib.hid (fun (w' : World) (o : Only [] wr w') (b : Bool) => flat_any (Hk.out.quiet o) b (by omega))
      obtain ⟨k3, hk3⟩ : ∃ k3, 13 - n = k3 + 1 := ⟨13 - n - 1, by omega⟩
      have hk3' : 13 - (n + 1) = k3 := by omega
      have Hn3 := Lib.hid (And.intro hk3 hk3')
      clear hadv hk3 hk3'
      have hfin : Hid (flatsD 13 0 m = flatsD (k3 + 1) n mc) := Lib.hid (by rw [← Hn3.out.1, He.out])
      cases hb : (flatD mc).1 with
      | true =>
        rw [hb] at HB
        have Hb := Lib.hid hb
        clear hb
        go_wp2_with fail
        go_region_with (first
          | (go_at_call 198; refine (HB.out _ (Only.refl _ _).drew _).mono ?_; rintro e w2 ⟨rfl, hk2, hq2⟩; have Hk2 := Lib.hid hk2; have HQ2 := Lib.hid (HQ.out.both (((Only.refl [] _).drew.mono (U := [R, D]) (by simp)).both hq2)); clear hk2 hq2)
          | fail)
        all_goals
          go_wp2_with fail
          exact ⟨⟨n + 1, _, by omega, by go_num, Hk2, Lib.hid (by rw [Hn3.out.2, hfin.out]; exact (flatsD_step Hb.out).symm), by have := HA.out.pos; omega, HQ2.out⟩, by simp [intOf]; omega⟩
      | false =>
        rw [hb] at HB
        have Hb := Lib.hid hb
        clear hb
        go_wp2_with fail
        go_region_with (first
          | (go_at_call 198; refine (HB.out _ (Only.refl _ _).drew _).mono ?_; rintro e w2 ⟨rfl, hk2, hq2⟩; have Hk2 := Lib.hid hk2; have HQ2 := Lib.hid (HQ.out.both (((Only.refl [] _).drew.mono (U := [R, D]) (by simp)).both hq2)); clear hk2 hq2)
          | fail)
        all_goals
          have HG2 : Hid (greatD m = bitsD n 1 (flatD mc).2) := Lib.hid (by rw [HG.out, hfin.out, flatsD_stop Hb.out])
          have Hk1 := Hk2
          have HQ1 := HQ2
          have hpz : (flatD mc).2.d.pos ≤ m.d.pos + 2 * n + 2 := by have := HA.out.pos; omega
          clear HB HA hfin He Hk Hn3 Hb Hk2 HQ2 HQ hpos
          generalize (flatD mc).2 = mz at *
          go_wp2_with fail
          go_loopw [6, 7] (fun nn kk wr => ∃ (j n2 : Nat) (mq : Mod), j ≤ n ∧ nn = .int .i64 n2 ∧ kk = .int .i64 ((j : Int) - 1) ∧ (n2 + 1) * 2 ^ j ≤ 2 * 2 ^ n ∧ Hid (ModAt lo hi R D bv wr mq) ∧ Hid (bitsD j n2 mq = bitsD n 1 mz) ∧ mq.d.pos + 2 * j ≤ mz.d.pos + 2 * n ∧ Only [R, D] w wr) (fun _ kk _ => (intOf kk + 1).toNat)
          case atStart => exact ⟨n, 1, mz, by omega, rfl, by go_num, by omega, Hk1, Lib.hid rfl, by omega, HQ1.out⟩
          case round =>
            obtain ⟨j, n2, mq, hj, rfl, rfl, hn2, Hk, He, hpos, hq⟩ := hrel
            have HQ := Lib.hid hq
            have h13 : (2 : Nat) ^ n ≤ 2 ^ 13 := Nat.pow_le_pow_right (by omega) (by omega)
            have hj1 : 1 ≤ (2 : Nat) ^ j := Nat.one_le_two_pow
            have hn14 : n2 + 1 ≤ 16384 := by
              have : (n2 + 1) * 1 ≤ (n2 + 1) * 2 ^ j := Nat.mul_le_mul_left _ hj1
              omega
            have Hn2 := Lib.hid (And.intro hn2 h13)
            clear hq hn2 h13 hj1
            by_cases hj0 : 0 < j
            · obtain ⟨j', rfl⟩ : ∃ j', j = j' + 1 := ⟨j - 1, by omega⟩
              have hki : (0 : Int) ≤ ((j' + 1 : Nat) : Int) - 1 := by omega
              have hkj : ((j' + 1 : Nat) : Int) - 1 = (j' : Int) := by omega
              have hj63 : (j' : Int) < 64 := by omega
              have hj00 : (0 : Int) ≤ (j' : Int) := by omega
              rw [hkj] at *
              have hadv := flatD_adv Hk.out.ok
              have HA := Lib.hid hadv
              have HB := Lib.hid (fun (w' : World) (o : Only [] wr w') (b : Bool) => flat_any (Hk.out.quiet o) b (by omega))
              clear hadv hkj
              have hfin : Hid (bitsD n 1 mz = bitsD j' (if (flatD mq).1 then 2 * n2 + 1 else 2 * n2) (flatD mq).2) := Lib.hid (by rw [← He.out]; rfl)
              have hpw : Hid ((2 * n2 + 1 + 1) * 2 ^ j' ≤ 2 * 2 ^ n) := Lib.hid (by
                have := Hn2.out.1
                rw [Nat.pow_succ] at this
                have e : (2 * n2 + 1 + 1) * 2 ^ j' = (n2 + 1) * (2 ^ j' * 2) := by rw [show 2 * n2 + 1 + 1 = (n2 + 1) * 2 by omega, Nat.mul_assoc, Nat.mul_comm 2]
                omega)
              have hpw2 : Hid ((2 * n2 + 1) * 2 ^ j' ≤ 2 * 2 ^ n) := Lib.hid (Nat.le_trans (Nat.mul_le_mul_right _ (by omega)) hpw.out)
              cases hb : (flatD mq).1 with
              | true =>
                rw [hb] at HB hfin
                clear hb
                go_wp2_with fail
                go_region_with (first
                  | (go_at_call 198; refine (HB.out _ (Only.refl _ _).drew _).mono ?_; rintro e w2 ⟨rfl, hk2, hq2⟩; have Hk2 := Lib.hid hk2; have HQ2 := Lib.hid (HQ.out.both (((Only.refl [] _).drew.mono (U := [R, D]) (by simp)).both hq2)); clear hk2 hq2)
                  | fail)
                all_goals
                  go_wp2_with fail
                  exact ⟨⟨j', 2 * n2 + 1, _, by omega, by go_num, rfl, hpw.out, Hk2, Lib.hid (by rw [hfin.out]; rfl), by have := HA.out.pos; omega, HQ2.out⟩, by simp [intOf]⟩
              | false =>
                rw [hb] at HB hfin
                clear hb
                go_wp2_with fail
                go_region_with (first
                  | (go_at_call 198; refine (HB.out _ (Only.refl _ _).drew _).mono ?_; rintro e w2 ⟨rfl, hk2, hq2⟩; have Hk2 := Lib.hid hk2; have HQ2 := Lib.hid (HQ.out.both (((Only.refl [] _).drew.mono (U := [R, D]) (by simp)).both hq2)); clear hk2 hq2)
                  | fail)
                all_goals
                  go_wp2_with fail
                  exact ⟨⟨j', 2 * n2, _, by omega, by go_num, rfl, hpw2.out, Hk2, Lib.hid (by rw [hfin.out]; rfl), by have := HA.out.pos; omega, HQ2.out⟩, by simp [intOf]⟩
            · obtain rfl : j = 0 := by omega
              have hki : ¬ (0 : Int) ≤ ((0 : Nat) : Int) - 1 := by omega
              have hb0 : Hid (bitsD n 1 mz = (n2, mq)) := Lib.hid (by rw [← He.out]; rfl)
              go_wp2_with fail
              refine HPost.out _ _ ?_
              rw [HG2.out, hb0.out]
              exact ⟨rfl, Hk.out, HQ.out⟩
    · have Hn13 : Hid (n = 13) := Lib.hid (by omega)
      have hlti : ¬ (n : Int) < 13 := by omega
      have HG2 : Hid (greatD m = bitsD n 1 mc) := Lib.hid (by rw [HG.out, ← He.out, Hn13.out]; rfl)
      have Hk1 := Lib.hid (Hk.out.quiet (Only.refl [] _).drew)
      have HQ1 := Lib.hid (HQ.out.drew)
      have hdf : decide ((n : Int) < 13) = false := decide_eq_false hlti
      clear He Hk HQ
      go_wp2_with fail
      refine wp_region_held_drew (S := (fun _ => True)) (by kernel_rfl) ?_ (fun hHeld => ?_)
      · trivial
      refine wpAnyH_take (i := 0) (oi := ⟨some 8, _, _, _, _, _⟩) (v := ?_) rfl (by kernel_rfl) (by kernel_rfl) (by kernel_rfl) (fun _ _ _ h => h) (Or.inl ⟨by rfl, ?_⟩) (by assumption) ?_
      rotate_left
      · (intro w hSw; (try dsimp only at hSw); go_simp; try with_reducible rfl)
      try simp only [Act.put, List.setIfInBounds_toArray, List.set_cons_zero, List.set_cons_succ]
      refine wpAnyH_take (i := 1) (oi := ⟨some 9, _, _, _, _, _⟩) (v := ?_) rfl (by kernel_rfl) (by kernel_rfl) (by kernel_rfl) (fun _ _ _ h => h) (Or.inl ⟨by rfl, ?_⟩) (by assumption) ?_
      rotate_left
      · (intro w hSw; (try dsimp only at hSw); go_simp; try with_reducible rfl)
      try simp only [Act.put, List.setIfInBounds_toArray, List.set_cons_zero, List.set_cons_succ]
      refine wpAnyH_take (i := 2) (oi := ⟨some 10, _, _, _, _, _⟩) (v := ?_) rfl (by kernel_rfl) (by kernel_rfl) (by kernel_rfl) (fun _ _ _ h => h) (Or.inl ⟨by rfl, ?_⟩) (by assumption) ?_
      rotate_left
      · (intro w hSw; (try dsimp only at hSw); go_simp; try with_reducible rfl)
      try simp only [Act.put, List.setIfInBounds_toArray, List.set_cons_zero, List.set_cons_succ]
      refine wpAnyH_take (i := 3) (oi := ⟨some 11, _, _, _, _, _⟩) (v := undef) rfl (by kernel_rfl) (by kernel_rfl) (by kernel_rfl) (fun _ _ _ h => h) (Or.inr ⟨by rfl, rfl⟩) (by assumption) ?_
      try simp only [Act.put, List.setIfInBounds_toArray, List.set_cons_zero, List.set_cons_succ]
      refine wpAnyH_take (i := 4) (oi := ⟨some 12, _, _, _, _, _⟩) (v := undef) rfl (by kernel_rfl) (by kernel_rfl) (by kernel_rfl) (fun _ _ _ h => h) (Or.inr ⟨by rfl, rfl⟩) (by assumption) ?_
      try simp only [Act.put, List.setIfInBounds_toArray, List.set_cons_zero, List.set_cons_succ]
      refine wpAnyH_take (i := 5) (oi := ⟨some 13, _, _, _, _, _⟩) (v := undef) rfl (by kernel_rfl) (by kernel_rfl) (by kernel_rfl) (fun _ _ _ h => h) (Or.inr ⟨by rfl, rfl⟩) (by assumption) ?_
      try simp only [Act.put, List.setIfInBounds_toArray, List.set_cons_zero, List.set_cons_succ]
      refine wpAnyH_take (i := 6) (oi := ⟨some 14, _, _, _, _, _⟩) (v := undef) rfl (by kernel_rfl) (by kernel_rfl) (by kernel_rfl) (fun _ _ _ h => h) (Or.inr ⟨by rfl, rfl⟩) (by assumption) ?_
      try simp only [Act.put, List.setIfInBounds_toArray, List.set_cons_zero, List.set_cons_succ]
      refine wpAnyH_take (i := 7) (oi := ⟨some 15, _, _, _, _, _⟩) (v := undef) rfl (by kernel_rfl) (by kernel_rfl) (by kernel_rfl) (fun _ _ _ h => h) (Or.inr ⟨by rfl, rfl⟩) (by assumption) ?_
      try simp only [Act.put, List.setIfInBounds_toArray, List.set_cons_zero, List.set_cons_succ]
      refine wpAnyH_take (i := 8) (oi := ⟨some 16, _, _, _, _, _⟩) (v := undef) rfl (by kernel_rfl) (by kernel_rfl) (by kernel_rfl) (fun _ _ _ h => h) (Or.inr ⟨by rfl, rfl⟩) (by assumption) ?_
      try simp only [Act.put, List.setIfInBounds_toArray, List.set_cons_zero, List.set_cons_succ]
      refine wpAnyH_take (i := 9) (oi := ⟨some 17, _, _, _, _, _⟩) (v := undef) rfl (by kernel_rfl) (by kernel_rfl) (by kernel_rfl) (fun _ _ _ h => h) (Or.inr ⟨by rfl, rfl⟩) (by assumption) ?_
      try simp only [Act.put, List.setIfInBounds_toArray, List.set_cons_zero, List.set_cons_succ]
      refine wpAnyH_take (i := 10) (oi := ⟨some 18, _, _, _, _, _⟩) (v := undef) rfl (by kernel_rfl) (by kernel_rfl) (by kernel_rfl) (fun _ _ _ h => h) (Or.inr ⟨by rfl, rfl⟩) (by assumption) ?_
      try simp only [Act.put, List.setIfInBounds_toArray, List.set_cons_zero, List.set_cons_succ]
      refine wpAnyH_take (i := 11) (oi := ⟨some 19, _, _, _, _, _⟩) (v := undef) rfl (by kernel_rfl) (by kernel_rfl) (by kernel_rfl) (fun _ _ _ h => h) (Or.inr ⟨by rfl, rfl⟩) (by assumption) ?_
      try simp only [Act.put, List.setIfInBounds_toArray, List.set_cons_zero, List.set_cons_succ]
      refine wpAnyH_take (i := 12) (oi := ⟨some 20, _, _, _, _, _⟩) (v := ?_) rfl (by kernel_rfl) (by kernel_rfl) (by kernel_rfl) (fun _ _ _ h => h) (Or.inl ⟨by rfl, ?_⟩) (by assumption) ?_
      rotate_left
      · (intro w hSw; (try dsimp only at hSw); go_simp; try with_reducible rfl)
      try simp only [Act.put, List.setIfInBounds_toArray, List.set_cons_zero, List.set_cons_succ]
      refine wpAnyH_done (by kernel_rfl) ?_ _
      go_wp2_with fail
      go_loopw [6, 7] (fun nn kk wr => ∃ (j n2 : Nat) (mq : Mod), j ≤ n ∧ nn = .int .i64 n2 ∧ kk = .int .i64 ((j : Int) - 1) ∧ (n2 + 1) * 2 ^ j ≤ 2 * 2 ^ n ∧ Hid (ModAt lo hi R D bv wr mq) ∧ Hid (bitsD j n2 mq = bitsD n 1 mc) ∧ mq.d.pos + 2 * j ≤ mc.d.pos + 2 * n ∧ Only [R, D] w wr) (fun _ kk _ => (intOf kk + 1).toNat)
      case atStart => exact ⟨n, 1, mc, by omega, rfl, by go_num, by omega, Hk1, Lib.hid rfl, by omega, HQ1.out⟩
      case round =>
        obtain ⟨j, n2, mq, hj, rfl, rfl, hn2, Hk, He, hpos, hq⟩ := hrel
        have HQ := Lib.hid hq
        have h13 : (2 : Nat) ^ n ≤ 2 ^ 13 := Nat.pow_le_pow_right (by omega) (by omega)
        have hj1 : 1 ≤ (2 : Nat) ^ j := Nat.one_le_two_pow
        have hn14 : n2 + 1 ≤ 16384 := by
          have : (n2 + 1) * 1 ≤ (n2 + 1) * 2 ^ j := Nat.mul_le_mul_left _ hj1
          omega
        have Hn2 := Lib.hid (And.intro hn2 h13)
        clear hq hn2 h13 hj1
        by_cases hj0 : 0 < j
        · obtain ⟨j', rfl⟩ : ∃ j', j = j' + 1 := ⟨j - 1, by omega⟩
          have hki : (0 : Int) ≤ ((j' + 1 : Nat) : Int) - 1 := by omega
          have hkj : ((j' + 1 : Nat) : Int) - 1 = (j' : Int) := by omega
          have hj63 : (j' : Int) < 64 := by omega
          have hj00 : (0 : Int) ≤ (j' : Int) := by omega
          rw [hkj] at *
          have hadv := flatD_adv Hk.out.ok
          have HA := Lib.hid hadv
          have HB := Lib.hid (fun (w' : World) (o : Only [] wr w') (b : Bool) => flat_any (Hk.out.quiet o) b (by omega))
          clear hadv hkj
          have hfin : Hid (bitsD n 1 mc = bitsD j' (if (flatD mq).1 then 2 * n2 + 1 else 2 * n2) (flatD mq).2) := Lib.hid (by rw [← He.out]; rfl)
          have hpw : Hid ((2 * n2 + 1 + 1) * 2 ^ j' ≤ 2 * 2 ^ n) := Lib.hid (by
            have := Hn2.out.1
            rw [Nat.pow_succ] at this
            have e : (2 * n2 + 1 + 1) * 2 ^ j' = (n2 + 1) * (2 ^ j' * 2) := by rw [show 2 * n2 + 1 + 1 = (n2 + 1) * 2 by omega, Nat.mul_assoc, Nat.mul_comm 2]
            omega)
          have hpw2 : Hid ((2 * n2 + 1) * 2 ^ j' ≤ 2 * 2 ^ n) := Lib.hid (Nat.le_trans (Nat.mul_le_mul_right _ (by omega)) hpw.out)
          cases hb : (flatD mq).1 with
          | true =>
            rw [hb] at HB hfin
            clear hb
            go_wp2_with fail
            go_region_with (first
              | (go_at_call 198; refine (HB.out _ (Only.refl _ _).drew _).mono ?_; rintro e w2 ⟨rfl, hk2, hq2⟩; have Hk2 := Lib.hid hk2; have HQ2 := Lib.hid (HQ.out.both (((Only.refl [] _).drew.mono (U := [R, D]) (by simp)).both hq2)); clear hk2 hq2)
              | fail)
            all_goals
              go_wp2_with fail
              exact ⟨⟨j', 2 * n2 + 1, _, by omega, by go_num, rfl, hpw.out, Hk2, Lib.hid (by rw [hfin.out]; rfl), by have := HA.out.pos; omega, HQ2.out⟩, by simp [intOf]⟩
          | false =>
            rw [hb] at HB hfin
            clear hb
            go_wp2_with fail
            go_region_with (first
              | (go_at_call 198; refine (HB.out _ (Only.refl _ _).drew _).mono ?_; rintro e w2 ⟨rfl, hk2, hq2⟩; have Hk2 := Lib.hid hk2; have HQ2 := Lib.hid (HQ.out.both (((Only.refl [] _).drew.mono (U := [R, D]) (by simp)).both hq2)); clear hk2 hq2)
              | fail)
            all_goals
              go_wp2_with fail
              exact ⟨⟨j', 2 * n2, _, by omega, by go_num, rfl, hpw2.out, Hk2, Lib.hid (by rw [hfin.out]; rfl), by have := HA.out.pos; omega, HQ2.out⟩, by simp [intOf]⟩
        · obtain rfl : j = 0 := by omega
          have hki : ¬ (0 : Int) ≤ ((0 : Nat) : Int) - 1 := by omega
          have hb0 : Hid (bitsD n 1 mc = (n2, mq)) := Lib.hid (by rw [← He.out]; rfl)
          go_wp2_with fail
          refine HPost.out _ _ ?_
          rw [HG2.out, hb0.out]
          exact ⟨rfl, Hk.out, HQ.out⟩
#print axioms mgreat_any
end Go.Proofs.YthgpgbdkcdmbpaaGreatDoor
