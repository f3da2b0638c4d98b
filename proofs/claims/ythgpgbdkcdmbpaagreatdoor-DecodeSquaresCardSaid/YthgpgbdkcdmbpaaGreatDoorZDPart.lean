/- Joined texts: DPart. Conditions: each part names its own. -/
import Derived.Test.YthgpgbdkcdmbpaaGreatDoorZDNums
/- model.Part as the decoder asks it (of 0). Conditions: the coder is a reader that may stand so. -/
namespace Go.Proofs.YthgpgbdkcdmbpaaGreatDoor
open Go.RowKit
set_option linter.unusedVariables false
set_option linter.unusedSimpArgs false

set_option maxRecDepth 100000 in
set_option maxHeartbeats 4000000 in
theorem mpart_any {lo hi R D : Nat} {bv : Value} {w : World} {m : Mod} (h : ModAt lo hi R D bv w m) (hp : m.d.pos ≤ 900000000) :
    Calls Tryz.prog 107 #[cv R, .int .i64 0] w (NumP lo hi R D bv w (partD m)) := by
  suffices key : ∀ Q : Ending → World → Prop, Hid (∀ e w', NumP lo hi R D bv w (partD m) e w' → Q e w') → Calls Tryz.prog 107 #[cv R, .int .i64 0] w Q from key _ (Lib.hid fun _ _ h => h)
  intro Q HPost
  have mb := mBit R
  have mf := mFlat R
  have hadv := bitD_adv h.ok (c := 6) (by omega)
  have hap := hadv.pos
  have HB := Lib.hid (fun (b : Bool) => bit_any h (c := 6) (by omega) b (by omega))
  have HM : Hid (partD m = if (bitD 6 m).1 then (signD (flatD (bitD 6 m).2).1 (onesD (fun n => 7 + min n 6) 14 0 (flatD (bitD 6 m).2).2).1, (onesD (fun n => 7 + min n 6) 14 0 (flatD (bitD 6 m).2).2).2) else (0, (bitD 6 m).2)) := Lib.hid rfl
  have Hok := Lib.hid hadv.ok
  generalize (bitD 6 m).2 = m1 at *
  generalize (bitD 6 m).1 = b1 at *
  clear h hadv
  cases b1 with
  | false =>
    have HM2 : Hid (partD m = (0, m1)) := Lib.hid (by rw [HM.out]; rfl)
    clear HM
    go_enter Tryz.func107, Tryz.ntmps107
    go_wp2_with fail
    go_at_call 104
    refine (bound_any _ _ _ _).mono ?_
    rintro e w1 ⟨rfl, rfl⟩
    rw [show min (max (0 : Int) (-15)) 15 = 0 by decide]
    go_wp2_with fail
    go_at_call 197
    refine (HB.out _).mono ?_
    rintro e w2 ⟨rfl, hk2, hq2⟩
    have Hk2 := Lib.hid hk2
    have HQ2 := Lib.hid hq2
    clear hk2 hq2
    go_wp2_with fail
    refine HPost.out _ _ ?_
    rw [HM2.out]
    exact ⟨rfl, Hk2.out, HQ2.out⟩
  | true =>
    have HM2 : Hid (partD m = (signD (flatD m1).1 (onesD (fun n => 7 + min n 6) 14 0 (flatD m1).2).1, (onesD (fun n => 7 + min n 6) 14 0 (flatD m1).2).2)) := Lib.hid (by rw [HM.out]; rfl)
    have hadv2 := flatD_adv Hok.out
    have hap2 := hadv2.pos
    have HF := Lib.hid (fun (w' : World) (b : Bool) (hk : ModAt lo hi R D bv w' m1) => flat_any hk b (by omega))
    clear HM
    generalize (flatD m1).2 = m2 at *
    generalize (flatD m1).1 = sg at *
    clear hadv2
    cases sg with
    | true =>
      go_enter Tryz.func107, Tryz.ntmps107
      go_wp2_with fail
      go_at_call 104
      refine (bound_any _ _ _ _).mono ?_
      rintro e w1 ⟨rfl, rfl⟩
      rw [show min (max (0 : Int) (-15)) 15 = 0 by decide]
      go_wp2_with fail
      go_at_call 197
      refine (HB.out _).mono ?_
      rintro e w2 ⟨rfl, hk2, hq2⟩
      have Hk2 := Lib.hid hk2
      have HQ2 := Lib.hid hq2
      clear hk2 hq2
      go_wp2_with fail
      go_at_call 198
      refine (HF.out _ _ Hk2.out).mono ?_
      rintro e w3 ⟨rfl, hk3, hq3⟩
      have Hk0 := Lib.hid hk3
      have HQ0 := Lib.hid (HQ2.out.both hq3)
      clear hk3 hq3 HB HF Hk2 HQ2
      go_wp2_with fail
      go_loopw [7] (fun i wr => ∃ (n : Nat) (mc : Mod), n ≤ 14 ∧ i = .int .i64 n ∧ Hid (ModAt lo hi R D bv wr mc) ∧ Hid (onesD (fun n => 7 + min n 6) (14 - n) n mc = onesD (fun n => 7 + min n 6) 14 0 m2) ∧ mc.d.pos ≤ m2.d.pos + 2 * n ∧ Only [R, D] w wr) (fun i _ => 14 - (intOf i).toNat)
      case atStart => exact ⟨0, m2, by omega, rfl, Hk0, Lib.hid rfl, by omega, HQ0.out⟩
      case round =>
        obtain ⟨n, mc, hn, rfl, Hk, He, hpos, hq⟩ := hrel
        have HQ := Lib.hid hq
        clear hq
        by_cases hlt : n < 14
        · have hlti : (n : Int) < 14 := by omega
          have hn0 : (0 : Int) ≤ (n : Int) := by omega
          have hadv := bitD_adv Hk.out.ok (c := 7 + min n 6) (by omega)
          have HA := Lib.hid hadv
          have HB := Lib.hid (fun (x : Int) (hx : x = ((7 + min n 6 : Nat) : Int)) (b : Bool) => (by subst hx; exact bit_any Hk.out (c := 7 + min n 6) (by omega) b (by omega) : Calls Tryz.prog 197 #[.pointer (some ⟨R, 0, none⟩), .int .i64 x, .bool b] wr _))
          obtain ⟨k3, hk3⟩ : ∃ k3, 14 - n = k3 + 1 := ⟨14 - n - 1, by omega⟩
          have hk3' : 14 - (n + 1) = k3 := by omega
          have Hn3 := Lib.hid (And.intro hk3 hk3')
          clear hadv hk3 hk3'
          have hfin : Hid (onesD (fun n => 7 + min n 6) 14 0 m2 = onesD (fun n => 7 + min n 6) (k3 + 1) n mc) := Lib.hid (by rw [← Hn3.out.1, He.out])
          cases hb : (bitD (7 + min n 6) mc).1 with
          | true =>
            rw [hb] at HB
            have Hb := Lib.hid hb
            clear hb
            go_wp2_with fail
            all_goals
              go_at_call 197
              refine (HB.out _ (by omega) _).mono ?_
              rintro e w2 ⟨rfl, hk2, hq2⟩
              have Hk2 := Lib.hid hk2
              have HQ2 := Lib.hid (HQ.out.both hq2)
              clear hk2 hq2
              go_wp2_with fail
              exact ⟨⟨n + 1, _, by omega, by go_num, Hk2, Lib.hid (by rw [Hn3.out.2, hfin.out]; exact (onesD_step (f := (fun n => 7 + min n 6)) Hb.out).symm), by have := HA.out.pos; omega, HQ2.out⟩, by simp [intOf]; omega⟩
          | false =>
            rw [hb] at HB
            have Hb := Lib.hid hb
            clear hb
            go_wp2_with fail
            all_goals
              go_at_call 197
              refine (HB.out _ (by omega) _).mono ?_
              rintro e w2 ⟨rfl, hk2, hq2⟩
              have HFin : Hid (onesD (fun n => 7 + min n 6) 14 0 m2 = (n, (bitD (7 + min n 6) mc).2)) := Lib.hid (by rw [hfin.out]; exact onesD_stop (f := (fun n => 7 + min n 6)) Hb.out)
              have Hkx := Lib.hid hk2
              have HQx := Lib.hid (HQ.out.both hq2)
              have hpx : (bitD (7 + min n 6) mc).2.d.pos ≤ m2.d.pos + 28 := by have := HA.out.pos; omega
              clear hk2 hq2 hfin HA HB He Hn3
              generalize (bitD (7 + min n 6) mc).2 = mx at *
              go_wp2_with fail
              refine HPost.out _ _ ?_
              rw [HM2.out, HFin.out]
              exact ⟨ret_int (by simp [signD]), Hkx.out, HQx.out⟩
        · obtain rfl : n = 14 := by omega
          have hlti : ¬ ((14 : Nat) : Int) < 14 := by omega
          have HFin : Hid (onesD (fun n => 7 + min n 6) 14 0 m2 = (14, mc)) := Lib.hid (He.out.symm.trans rfl)
          have Hkx := Lib.hid Hk.out
          have HQx := HQ
          have hpx : mc.d.pos ≤ m2.d.pos + 28 := by omega
          clear He Hk
          go_wp2_with fail
          refine HPost.out _ _ ?_
          rw [HM2.out, HFin.out]
          exact ⟨ret_int (by simp [signD]), Hkx.out, HQx.out⟩
    | false =>
      go_enter Tryz.func107, Tryz.ntmps107
      go_wp2_with fail
      go_at_call 104
      refine (bound_any _ _ _ _).mono ?_
      rintro e w1 ⟨rfl, rfl⟩
      rw [show min (max (0 : Int) (-15)) 15 = 0 by decide]
      go_wp2_with fail
      go_at_call 197
      refine (HB.out _).mono ?_
      rintro e w2 ⟨rfl, hk2, hq2⟩
      have Hk2 := Lib.hid hk2
      have HQ2 := Lib.hid hq2
      clear hk2 hq2
      go_wp2_with fail
      go_at_call 198
      refine (HF.out _ _ Hk2.out).mono ?_
      rintro e w3 ⟨rfl, hk3, hq3⟩
      have Hk0 := Lib.hid hk3
      have HQ0 := Lib.hid (HQ2.out.both hq3)
      clear hk3 hq3 HB HF Hk2 HQ2
      go_wp2_with fail
      go_loopw [7] (fun i wr => ∃ (n : Nat) (mc : Mod), n ≤ 14 ∧ i = .int .i64 n ∧ Hid (ModAt lo hi R D bv wr mc) ∧ Hid (onesD (fun n => 7 + min n 6) (14 - n) n mc = onesD (fun n => 7 + min n 6) 14 0 m2) ∧ mc.d.pos ≤ m2.d.pos + 2 * n ∧ Only [R, D] w wr) (fun i _ => 14 - (intOf i).toNat)
      case atStart => exact ⟨0, m2, by omega, rfl, Hk0, Lib.hid rfl, by omega, HQ0.out⟩
      case round =>
        obtain ⟨n, mc, hn, rfl, Hk, He, hpos, hq⟩ := hrel
        have HQ := Lib.hid hq
        clear hq
        by_cases hlt : n < 14
        · have hlti : (n : Int) < 14 := by omega
          have hn0 : (0 : Int) ≤ (n : Int) := by omega
          have hadv := bitD_adv Hk.out.ok (c := 7 + min n 6) (by omega)
          have HA := Lib.hid hadv
          have HB := Lib.hid (fun (x : Int) (hx : x = ((7 + min n 6 : Nat) : Int)) (b : Bool) => (by subst hx; exact bit_any Hk.out (c := 7 + min n 6) (by omega) b (by omega) : Calls Tryz.prog 197 #[.pointer (some ⟨R, 0, none⟩), .int .i64 x, .bool b] wr _))
          obtain ⟨k3, hk3⟩ : ∃ k3, 14 - n = k3 + 1 := ⟨14 - n - 1, by omega⟩
          have hk3' : 14 - (n + 1) = k3 := by omega
          have Hn3 := Lib.hid (And.intro hk3 hk3')
          clear hadv hk3 hk3'
          have hfin : Hid (onesD (fun n => 7 + min n 6) 14 0 m2 = onesD (fun n => 7 + min n 6) (k3 + 1) n mc) := Lib.hid (by rw [← Hn3.out.1, He.out])
          cases hb : (bitD (7 + min n 6) mc).1 with
          | true =>
            rw [hb] at HB
            have Hb := Lib.hid hb
            clear hb
            go_wp2_with fail
            all_goals
              go_at_call 197
              refine (HB.out _ (by omega) _).mono ?_
              rintro e w2 ⟨rfl, hk2, hq2⟩
              have Hk2 := Lib.hid hk2
              have HQ2 := Lib.hid (HQ.out.both hq2)
              clear hk2 hq2
              go_wp2_with fail
              exact ⟨⟨n + 1, _, by omega, by go_num, Hk2, Lib.hid (by rw [Hn3.out.2, hfin.out]; exact (onesD_step (f := (fun n => 7 + min n 6)) Hb.out).symm), by have := HA.out.pos; omega, HQ2.out⟩, by simp [intOf]; omega⟩
          | false =>
            rw [hb] at HB
            have Hb := Lib.hid hb
            clear hb
            go_wp2_with fail
            all_goals
              go_at_call 197
              refine (HB.out _ (by omega) _).mono ?_
              rintro e w2 ⟨rfl, hk2, hq2⟩
              have HFin : Hid (onesD (fun n => 7 + min n 6) 14 0 m2 = (n, (bitD (7 + min n 6) mc).2)) := Lib.hid (by rw [hfin.out]; exact onesD_stop (f := (fun n => 7 + min n 6)) Hb.out)
              have Hkx := Lib.hid hk2
              have HQx := Lib.hid (HQ.out.both hq2)
              have hpx : (bitD (7 + min n 6) mc).2.d.pos ≤ m2.d.pos + 28 := by have := HA.out.pos; omega
              clear hk2 hq2 hfin HA HB He Hn3
              generalize (bitD (7 + min n 6) mc).2 = mx at *
              go_wp2_with fail
              refine HPost.out _ _ ?_
              rw [HM2.out, HFin.out]
              exact ⟨ret_int (by simp [signD]), Hkx.out, HQx.out⟩
        · obtain rfl : n = 14 := by omega
          have hlti : ¬ ((14 : Nat) : Int) < 14 := by omega
          have HFin : Hid (onesD (fun n => 7 + min n 6) 14 0 m2 = (14, mc)) := Lib.hid (He.out.symm.trans rfl)
          have Hkx := Lib.hid Hk.out
          have HQx := HQ
          have hpx : mc.d.pos ≤ m2.d.pos + 28 := by omega
          clear He Hk
          go_wp2_with fail
          refine HPost.out _ _ ?_
          rw [HM2.out, HFin.out]
          exact ⟨ret_int (by simp [signD]), Hkx.out, HQx.out⟩
#print axioms mpart_any
end Go.Proofs.YthgpgbdkcdmbpaaGreatDoor
