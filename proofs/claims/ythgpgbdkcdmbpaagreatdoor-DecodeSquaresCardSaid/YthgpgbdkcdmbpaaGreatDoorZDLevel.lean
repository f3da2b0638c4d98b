/- Joined texts: DLevel. Conditions: each part names its own. -/
import Derived.Test.YthgpgbdkcdmbpaaGreatDoorZDGreat
/- coef.level as the decoder asks it (of 0). Conditions: the coder is a reader that may stand so. -/
namespace Go.Proofs.YthgpgbdkcdmbpaaGreatDoor
open Go.RowKit
set_option linter.unusedVariables false
set_option linter.unusedSimpArgs false

set_option maxRecDepth 100000 in
set_option maxHeartbeats 8000000 in
theorem mlevel_any {lo hi R D base : Nat} {bv : Value} {w : World} {m : Mod} (h : ModAt lo hi R D bv w m) (hb : base ≤ 39) (hp : m.d.pos ≤ 800000000) :
    Calls Tryz.prog 146 #[cv R, .int .i64 base, .int .i64 0] w (NumP lo hi R D bv w (levelD base m)) := by
  suffices key : ∀ Q : Ending → World → Prop, Hid (∀ e w', NumP lo hi R D bv w (levelD base m) e w' → Q e w') → Calls Tryz.prog 146 #[cv R, .int .i64 base, .int .i64 0] w Q from key _ (Lib.hid fun _ _ h => h)
  intro Q HPost
  have mb := mBit R
  have mf := mFlat R
  have hadv := flatD_adv h.ok
  have hap := hadv.pos
  have HF := Lib.hid (fun (b : Bool) => flat_any h b (by omega))
  have HLv : Hid (∀ n mx, onesD (fun n => base + 17 + min n 7) 14 0 (flatD m).2 = (n, mx) → n ≠ 14 → levelD base m = (signD (flatD m).1 n, mx)) := Lib.hid (fun n mx e hn => by
    unfold levelD sizeD
    rw [e, if_neg hn])
  have HLg : Hid (∀ mx, onesD (fun n => base + 17 + min n 7) 14 0 (flatD m).2 = (14, mx) → levelD base m = (signD (flatD m).1 (13 + (greatD mx).1), (greatD mx).2)) := Lib.hid (fun mx e => by
    unfold levelD sizeD
    rw [e, if_pos rfl])
  generalize (flatD m).2 = m2 at *
  generalize (flatD m).1 = sg at *
  have hbi : (base : Int) ≤ 39 := by omega
  have hb0 : (0 : Int) ≤ (base : Int) := by omega
  clear h hadv
  cases sg with
  | true =>
    go_enter Tryz.func146, Tryz.ntmps146
    go_wp2_with fail
    go_at_call 198
    refine (HF.out _).mono ?_
    rintro e w3 ⟨rfl, hk3, hq3⟩
    have Hk0 := Lib.hid hk3
    have HQ0 := Lib.hid hq3
    clear hk3 hq3 HF
    go_wp2_with fail
    go_loopw [9] (fun i wr => ∃ (n : Nat) (mc : Mod), n ≤ 14 ∧ i = .int .i64 n ∧ Hid (ModAt lo hi R D bv wr mc) ∧ Hid (onesD (fun n => base + 17 + min n 7) (14 - n) n mc = onesD (fun n => base + 17 + min n 7) 14 0 m2) ∧ mc.d.pos ≤ m2.d.pos + 2 * n ∧ Only [R, D] w wr) (fun i _ => 14 - (intOf i).toNat)
    case atStart => exact ⟨0, m2, by omega, rfl, Hk0, Lib.hid rfl, by omega, HQ0.out⟩
    case round =>
      obtain ⟨n, mc, hn, rfl, Hk, He, hpos, hq⟩ := hrel
      have HQ := Lib.hid hq
      clear hq
      by_cases hlt : n < 14
      · have hlti : (n : Int) < 14 := by omega
        have hn0 : (0 : Int) ≤ (n : Int) := by omega
        have hadv := bitD_adv Hk.out.ok (c := base + 17 + min n 7) (by omega)
        have HA := Lib.hid hadv
        have HB := Lib.hid (fun (x : Int) (hx : x = ((base + 17 + min n 7 : Nat) : Int)) (b : Bool) => (by subst hx; exact bit_any Hk.out (c := base + 17 + min n 7) (by omega) b (by omega) : Calls Tryz.prog 197 #[.pointer (some ⟨R, 0, none⟩), .int .i64 x, .bool b] wr _))
        obtain ⟨k3, hk3⟩ : ∃ k3, 14 - n = k3 + 1 := ⟨14 - n - 1, by omega⟩
        have hk3' : 14 - (n + 1) = k3 := by omega
        have Hn3 := Lib.hid (And.intro hk3 hk3')
        clear hadv hk3 hk3'
        have hfin : Hid (onesD (fun n => base + 17 + min n 7) 14 0 m2 = onesD (fun n => base + 17 + min n 7) (k3 + 1) n mc) := Lib.hid (by rw [← Hn3.out.1, He.out])
        cases hb : (bitD (base + 17 + min n 7) mc).1 with
        | true =>
          rw [hb] at HB
          have Hb := Lib.hid hb
          clear hb
          go_wp2_with fail
          all_goals
            go_at_call 197
            refine (HB.out _ (by omega) _).mono ?_
            rintro e w2 ⟨rfl, hk2, hq2⟩
            have Hk2 := Lib.hid hk2
            have HQ2 := Lib.hid (HQ.out.both hq2)
            clear hk2 hq2
            go_wp2_with fail
            exact ⟨⟨n + 1, _, by omega, by go_num, Hk2, Lib.hid (by rw [Hn3.out.2, hfin.out]; exact (onesD_step (f := (fun n => base + 17 + min n 7)) Hb.out).symm), by have := HA.out.pos; omega, HQ2.out⟩, by simp [intOf]; omega⟩
        | false =>
          rw [hb] at HB
          have Hb := Lib.hid hb
          clear hb
          go_wp2_with fail
          all_goals
            go_at_call 197
            refine (HB.out _ (by omega) _).mono ?_
            rintro e w2 ⟨rfl, hk2, hq2⟩
            have HFin : Hid (onesD (fun n => base + 17 + min n 7) 14 0 m2 = (n, (bitD (base + 17 + min n 7) mc).2)) := Lib.hid (by rw [hfin.out]; exact onesD_stop (f := (fun n => base + 17 + min n 7)) Hb.out)
            have Hkx := Lib.hid hk2
            have HQx := Lib.hid (HQ.out.both hq2)
            have hpx : (bitD (base + 17 + min n 7) mc).2.d.pos ≤ m2.d.pos + 28 := by have := HA.out.pos; omega
            clear hk2 hq2 hfin HA HB He Hn3
            generalize (bitD (base + 17 + min n 7) mc).2 = mx at *
            go_wp2_with fail
            refine HPost.out _ _ ?_
            rw [HLv.out _ _ HFin.out (by omega)]
            exact ⟨ret_int (by simp [signD]), Hkx.out, HQx.out⟩
      · obtain rfl : n = 14 := by omega
        have hlti : ¬ ((14 : Nat) : Int) < 14 := by omega
        have HFin : Hid (onesD (fun n => base + 17 + min n 7) 14 0 m2 = (14, mc)) := Lib.hid (He.out.symm.trans rfl)
        have Hkx := Lib.hid Hk.out
        have HQx := HQ
        have hpx : mc.d.pos ≤ m2.d.pos + 28 := by omega
        clear He Hk
        go_wp2_with fail
        go_at_call 166
        refine (mgreat_any Hkx.out _ (by omega) (by omega)).mono ?_
        rintro e w5 ⟨rfl, hk5, hq5⟩
        have hg := (greatD_adv Hkx.out.ok).2
        have Hk5 := Lib.hid hk5
        have HQ5 := Lib.hid (HQx.out.both hq5)
        clear hk5 hq5
        have HLg2 := Lib.hid (HLg.out _ HFin.out)
        generalize (greatD mc).2 = mg at *
        generalize (greatD mc).1 = gg at *
        go_wp2_with fail
        refine HPost.out _ _ ?_
        rw [HLg2.out]
        exact ⟨ret_int (by simp [signD]; try omega), Hk5.out, HQ5.out⟩
  | false =>
    go_enter Tryz.func146, Tryz.ntmps146
    go_wp2_with fail
    go_at_call 198
    refine (HF.out _).mono ?_
    rintro e w3 ⟨rfl, hk3, hq3⟩
    have Hk0 := Lib.hid hk3
    have HQ0 := Lib.hid hq3
    clear hk3 hq3 HF
    go_wp2_with fail
    go_loopw [9] (fun i wr => ∃ (n : Nat) (mc : Mod), n ≤ 14 ∧ i = .int .i64 n ∧ Hid (ModAt lo hi R D bv wr mc) ∧ Hid (onesD (fun n => base + 17 + min n 7) (14 - n) n mc = onesD (fun n => base + 17 + min n 7) 14 0 m2) ∧ mc.d.pos ≤ m2.d.pos + 2 * n ∧ Only [R, D] w wr) (fun i _ => 14 - (intOf i).toNat)
    case atStart => exact ⟨0, m2, by omega, rfl, Hk0, Lib.hid rfl, by omega, HQ0.out⟩
    case round =>
      obtain ⟨n, mc, hn, rfl, Hk, He, hpos, hq⟩ := hrel
      have HQ := Lib.hid hq
      clear hq
      by_cases hlt : n < 14
      · have hlti : (n : Int) < 14 := by omega
        have hn0 : (0 : Int) ≤ (n : Int) := by omega
        have hadv := bitD_adv Hk.out.ok (c := base + 17 + min n 7) (by omega)
        have HA := Lib.hid hadv
        have HB := Lib.hid (fun (x : Int) (hx : x = ((base + 17 + min n 7 : Nat) : Int)) (b : Bool) => (by subst hx; exact bit_any Hk.out (c := base + 17 + min n 7) (by omega) b (by omega) : Calls Tryz.prog 197 #[.pointer (some ⟨R, 0, none⟩), .int .i64 x, .bool b] wr _))
        obtain ⟨k3, hk3⟩ : ∃ k3, 14 - n = k3 + 1 := ⟨14 - n - 1, by omega⟩
        have hk3' : 14 - (n + 1) = k3 := by omega
        have Hn3 := Lib.hid (And.intro hk3 hk3')
        clear hadv hk3 hk3'
        have hfin : Hid (onesD (fun n => base + 17 + min n 7) 14 0 m2 = onesD (fun n => base + 17 + min n 7) (k3 + 1) n mc) := Lib.hid (by rw [← Hn3.out.1, He.out])
        cases hb : (bitD (base + 17 + min n 7) mc).1 with
        | true =>
          rw [hb] at HB
          have Hb := Lib.hid hb
          clear hb
          go_wp2_with fail
          all_goals
            go_at_call 197
            refine (HB.out _ (by omega) _).mono ?_
            rintro e w2 ⟨rfl, hk2, hq2⟩
            have Hk2 := Lib.hid hk2
            have HQ2 := Lib.hid (HQ.out.both hq2)
            clear hk2 hq2
            go_wp2_with fail
            exact ⟨⟨n + 1, _, by omega, by go_num, Hk2, Lib.hid (by rw [Hn3.out.2, hfin.out]; exact (onesD_step (f := (fun n => base + 17 + min n 7)) Hb.out).symm), by have := HA.out.pos; omega, HQ2.out⟩, by simp [intOf]; omega⟩
        | false =>
          rw [hb] at HB
          have Hb := Lib.hid hb
          clear hb
          go_wp2_with fail
          all_goals
            go_at_call 197
            refine (HB.out _ (by omega) _).mono ?_
            rintro e w2 ⟨rfl, hk2, hq2⟩
            have HFin : Hid (onesD (fun n => base + 17 + min n 7) 14 0 m2 = (n, (bitD (base + 17 + min n 7) mc).2)) := Lib.hid (by rw [hfin.out]; exact onesD_stop (f := (fun n => base + 17 + min n 7)) Hb.out)
            have Hkx := Lib.hid hk2
            have HQx := Lib.hid (HQ.out.both hq2)
            have hpx : (bitD (base + 17 + min n 7) mc).2.d.pos ≤ m2.d.pos + 28 := by have := HA.out.pos; omega
            clear hk2 hq2 hfin HA HB He Hn3
            generalize (bitD (base + 17 + min n 7) mc).2 = mx at *
            go_wp2_with fail
            refine HPost.out _ _ ?_
            rw [HLv.out _ _ HFin.out (by omega)]
            exact ⟨ret_int (by simp [signD]), Hkx.out, HQx.out⟩
      · obtain rfl : n = 14 := by omega
        have hlti : ¬ ((14 : Nat) : Int) < 14 := by omega
        have HFin : Hid (onesD (fun n => base + 17 + min n 7) 14 0 m2 = (14, mc)) := Lib.hid (He.out.symm.trans rfl)
        have Hkx := Lib.hid Hk.out
        have HQx := HQ
        have hpx : mc.d.pos ≤ m2.d.pos + 28 := by omega
        clear He Hk
        go_wp2_with fail
        go_at_call 166
        refine (mgreat_any Hkx.out _ (by omega) (by omega)).mono ?_
        rintro e w5 ⟨rfl, hk5, hq5⟩
        have hg := (greatD_adv Hkx.out.ok).2
        have Hk5 := Lib.hid hk5
        have HQ5 := Lib.hid (HQx.out.both hq5)
        clear hk5 hq5
        have HLg2 := Lib.hid (HLg.out _ HFin.out)
        generalize (greatD mc).2 = mg at *
        generalize (greatD mc).1 = gg at *
        go_wp2_with fail
        refine HPost.out _ _ ?_
        rw [HLg2.out]
        exact ⟨ret_int (by simp [signD]; try omega), Hk5.out, HQ5.out⟩
#print axioms mlevel_any
end Go.Proofs.YthgpgbdkcdmbpaaGreatDoor
