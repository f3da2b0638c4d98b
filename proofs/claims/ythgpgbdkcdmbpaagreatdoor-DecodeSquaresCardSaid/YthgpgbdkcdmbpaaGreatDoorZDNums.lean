/- Joined texts: DNums. Conditions: each part names its own. -/
import Derived.Test.YthgpgbdkcdmbpaaGreatDoorZDModR
/- model.Kind, Mode, Part: numbers told bit by bit. Conditions: the coder is a reader that may stand so. -/
namespace Go.Proofs.YthgpgbdkcdmbpaaGreatDoor
open Go.RowKit
set_option linter.unusedVariables false
set_option linter.unusedSimpArgs false

/-- a reader as a coder -/
abbrev cv (R : Nat) : Value := .iface 81 (.pointer (some ⟨R, 0, none⟩))
theorem mBit (R : Nat) (w : World) : (Go.method 371 81 (.pointer (some ⟨R, 0, none⟩)) "Bit").run Tryz.prog w = .ok (197, .pointer (some ⟨R, 0, none⟩)) w := by kernel_rfl
theorem mFlat (R : Nat) (w : World) : (Go.method 371 81 (.pointer (some ⟨R, 0, none⟩)) "Flat").run Tryz.prog w = .ok (198, .pointer (some ⟨R, 0, none⟩)) w := by kernel_rfl
/-- what a number told to the coder's caller is -/
def NumP (lo hi R D : Nat) (bv : Value) (w : World) (r : Int × Mod) (e : Ending) (w' : World) : Prop := e = .returned (.int .i64 r.1) ∧ ModAt lo hi R D bv w' r.2 ∧ Only [R, D] w w'
theorem onesD_step {f : Nat → Nat} {k n : Nat} {m : Mod} (h : (bitD (f n) m).1 = true) : onesD f (k + 1) n m = onesD f k (n + 1) (bitD (f n) m).2 := if_pos h
theorem onesD_stop {f : Nat → Nat} {k n : Nat} {m : Mod} (h : (bitD (f n) m).1 = false) : onesD f (k + 1) n m = (n, (bitD (f n) m).2) := if_neg (by rw [h]; simp)
theorem Only.both {R D : Nat} {a b c : World} (h : Only [R, D] a b) (g : Only [R, D] b c) : Only [R, D] a c := h.trans g (fun g h _ => h) (fun g h _ => h)

theorem bound_any (v a b : Int) (w : World) : Calls Tryz.prog 104 #[.int .i64 v, .int .i64 a, .int .i64 b] w fun e w' => e = .returned (.int .i64 (min (max v a) b)) ∧ w = w' := by
  go_enter Tryz.func104, Tryz.ntmps104
  go_wp2
  all_goals
    go_ret
    exact ⟨ret_int (by omega), rfl⟩
#print axioms bound_any

set_option maxRecDepth 100000 in
set_option maxHeartbeats 4000000 in
theorem mkind_any {lo hi R D : Nat} {bv : Value} {w : World} {m : Mod} (h : ModAt lo hi R D bv w m) (k : Int) (hp : m.d.pos ≤ 900000000) :
    Calls Tryz.prog 69 #[cv R, .int .i64 k] w (NumP lo hi R D bv w (((kindD m).1 : Int), (kindD m).2)) := by
  suffices key : ∀ Q : Ending → World → Prop, Hid (∀ e w', NumP lo hi R D bv w (((kindD m).1 : Int), (kindD m).2) e w' → Q e w') → Calls Tryz.prog 69 #[cv R, .int .i64 k] w Q from key _ (Lib.hid fun _ _ h => h)
  intro Q HPost
  have HK := Lib.hid h
  have mb := mBit R
  clear h
  go_enter Tryz.func69, Tryz.ntmps69
  go_wp2_with fail
  go_at_call 104
  refine (bound_any _ _ _ _).mono ?_
  rintro e w1 ⟨rfl, rfl⟩
  generalize min (max k 0) 3 = k0 at *
  go_wp2_with fail
  go_loopw [5] (fun i wr => ∃ (n : Nat) (mc : Mod), n ≤ 3 ∧ i = .int .i64 n ∧ Hid (ModAt lo hi R D bv wr mc) ∧ Hid (onesD (fun n => min n 63) (3 - n) n mc = onesD (fun n => min n 63) 3 0 m) ∧ mc.d.pos ≤ m.d.pos + 2 * n ∧ Only [R, D] w wr) (fun i _ => 3 - (intOf i).toNat)
  case atStart => exact ⟨0, m, by omega, rfl, HK, Lib.hid rfl, by omega, Only.refl _ _⟩
  case round =>
    obtain ⟨n, mc, hn, rfl, Hk, He, hpos, hq⟩ := hrel
    have HQ := Lib.hid hq
    clear hq
    by_cases hlt : n < 3
    · have hlti : (n : Int) < 3 := by omega
      have hadv := bitD_adv Hk.out.ok (c := n) (by omega)
      have HA := Lib.hid hadv
      have HB := Lib.hid (fun (b : Bool) => bit_any Hk.out (c := n) (by omega) b (by omega))
      have hmn : min n 63 = n := by omega
      obtain ⟨k3, hk3⟩ : ∃ k3, 3 - n = k3 + 1 := ⟨3 - n - 1, by omega⟩
      have hk3' : 3 - (n + 1) = k3 := by omega
      have Hn3 := Lib.hid (And.intro hmn (And.intro hk3 hk3'))
      clear hadv hmn hk3 hk3'
      have hfin : Hid (kindD m = onesD (fun n => min n 63) (k3 + 1) n mc) := Lib.hid (by rw [← Hn3.out.2.1, He.out]; rfl)
      cases hb : (bitD n mc).1 with
      | true =>
        rw [hb] at HB
        have Hb := Lib.hid hb
        clear hb
        go_wp2_with fail
        go_at_call 197
        refine (HB.out _).mono ?_
        rintro e w2 ⟨rfl, hk2, hq2⟩
        have Hk2 := Lib.hid hk2
        have HQ2 := Lib.hid (HQ.out.both hq2)
        clear hk2 hq2
        go_wp2_with fail
        go_roundw
        case rel => exact ⟨n + 1, _, by omega, by go_num, Hk2, Lib.hid (by rw [Hn3.out.2.2, ← He.out, Hn3.out.2.1, onesD_step (by simp only [Hn3.out.1]; exact Hb.out)]; simp only [Hn3.out.1]), by have := HA.out.pos; omega, HQ2.out⟩
        case measure => simp [intOf]; omega
      | false =>
        rw [hb] at HB
        have Hb := Lib.hid hb
        clear hb
        go_wp2_with fail
        go_at_call 197
        refine (HB.out _).mono ?_
        rintro e w2 ⟨rfl, hk2, hq2⟩
        have Hk2 := Lib.hid hk2
        have HQ2 := Lib.hid (HQ.out.both hq2)
        clear hk2 hq2
        go_wp2_with fail
        refine HPost.out _ _ ?_
        rw [hfin.out, onesD_stop (by simp only [Hn3.out.1]; exact Hb.out)]
        simp only [Hn3.out.1]
        exact ⟨rfl, Hk2.out, HQ2.out⟩
    · obtain rfl : n = 3 := by omega
      have hlti : ¬ ((3 : Nat) : Int) < 3 := by omega
      go_wp2_with fail
      refine HPost.out _ _ ?_
      have hfin : kindD m = (3, mc) := (He.out.symm.trans rfl)
      rw [hfin]
      exact ⟨rfl, Hk.out, HQ.out⟩
#print axioms mkind_any

set_option maxRecDepth 100000 in
set_option maxHeartbeats 4000000 in
theorem mmode_any {lo hi R D : Nat} {bv : Value} {w : World} {m : Mod} (h : ModAt lo hi R D bv w m) (k : Int) (hp : m.d.pos ≤ 900000000) :
    Calls Tryz.prog 105 #[cv R, .int .i64 k] w (NumP lo hi R D bv w (((modeD m).1 : Int), (modeD m).2)) := by
  suffices key : ∀ Q : Ending → World → Prop, Hid (∀ e w', NumP lo hi R D bv w (((modeD m).1 : Int), (modeD m).2) e w' → Q e w') → Calls Tryz.prog 105 #[cv R, .int .i64 k] w Q from key _ (Lib.hid fun _ _ h => h)
  intro Q HPost
  have mb := mBit R
  have hadv := bitD_adv h.ok (c := 3) (by omega)
  have hap := hadv.pos
  have HB := Lib.hid (fun (b : Bool) => bit_any h (c := 3) (by omega) b (by omega))
  have HM : Hid (modeD m = if (bitD 3 m).1 then (if (bitD 5 (bitD 3 m).2).1 then 3 else 2, (bitD 5 (bitD 3 m).2).2) else (if (bitD 4 (bitD 3 m).2).1 then 1 else 0, (bitD 4 (bitD 3 m).2).2)) := Lib.hid rfl
  generalize (bitD 3 m).2 = m1 at *
  generalize (bitD 3 m).1 = b1 at *
  clear h hadv
  cases b1 with
  | true =>
    have HB2 := Lib.hid (fun (w' : World) (b : Bool) (hk : ModAt lo hi R D bv w' m1) => bit_any hk (c := 5) (by omega) b (by omega))
    generalize (bitD 5 m1).2 = m2 at *
    generalize (bitD 5 m1).1 = b2 at *
    cases b2 with
    | true =>
      have HM2 : Hid (modeD m = (3, m2)) := Lib.hid (by rw [HM.out]; rfl)
      clear HM
      go_enter Tryz.func105, Tryz.ntmps105
      go_wp2_with fail
      go_at_call 104
      refine (bound_any _ _ _ _).mono ?_
      rintro e w1 ⟨rfl, rfl⟩
      generalize hk0 : min (max k 0) 3 = k0 at *
      have hk1 : 0 ≤ k0 := by omega
      clear hk0
      go_wp2_with fail
      go_at_call 197
      refine (HB.out _).mono ?_
      rintro e w2 ⟨rfl, hk2, hq2⟩
      have Hk2 := Lib.hid hk2
      have HQ2 := Lib.hid hq2
      clear hk2 hq2
      go_wp2_with fail
      go_at_call 197
      refine (HB2.out _ _ Hk2.out).mono ?_
      rintro e w3 ⟨rfl, hk3, hq3⟩
      have Hk3 := Lib.hid hk3
      have HQ3 := Lib.hid (HQ2.out.both hq3)
      clear hk3 hq3
      go_wp2_with fail
      refine HPost.out _ _ ?_
      rw [HM2.out]
      exact ⟨rfl, Hk3.out, HQ3.out⟩
    | false =>
      have HM2 : Hid (modeD m = (2, m2)) := Lib.hid (by rw [HM.out]; rfl)
      clear HM
      go_enter Tryz.func105, Tryz.ntmps105
      go_wp2_with fail
      go_at_call 104
      refine (bound_any _ _ _ _).mono ?_
      rintro e w1 ⟨rfl, rfl⟩
      generalize hk0 : min (max k 0) 3 = k0 at *
      have hk1 : 0 ≤ k0 := by omega
      clear hk0
      go_wp2_with fail
      go_at_call 197
      refine (HB.out _).mono ?_
      rintro e w2 ⟨rfl, hk2, hq2⟩
      have Hk2 := Lib.hid hk2
      have HQ2 := Lib.hid hq2
      clear hk2 hq2
      go_wp2_with fail
      go_at_call 197
      refine (HB2.out _ _ Hk2.out).mono ?_
      rintro e w3 ⟨rfl, hk3, hq3⟩
      have Hk3 := Lib.hid hk3
      have HQ3 := Lib.hid (HQ2.out.both hq3)
      clear hk3 hq3
      go_wp2_with fail
      refine HPost.out _ _ ?_
      rw [HM2.out]
      exact ⟨rfl, Hk3.out, HQ3.out⟩
  | false =>
    have HB2 := Lib.hid (fun (w' : World) (b : Bool) (hk : ModAt lo hi R D bv w' m1) => bit_any hk (c := 4) (by omega) b (by omega))
    generalize (bitD 4 m1).2 = m2 at *
    generalize (bitD 4 m1).1 = b2 at *
    cases b2 with
    | true =>
      have HM2 : Hid (modeD m = (1, m2)) := Lib.hid (by rw [HM.out]; rfl)
      clear HM
      go_enter Tryz.func105, Tryz.ntmps105
      go_wp2_with fail
      go_at_call 104
      refine (bound_any _ _ _ _).mono ?_
      rintro e w1 ⟨rfl, rfl⟩
      generalize hk0 : min (max k 0) 3 = k0 at *
      have hk1 : 0 ≤ k0 := by omega
      clear hk0
      go_wp2_with fail
      go_at_call 197
      refine (HB.out _).mono ?_
      rintro e w2 ⟨rfl, hk2, hq2⟩
      have Hk2 := Lib.hid hk2
      have HQ2 := Lib.hid hq2
      clear hk2 hq2
      go_wp2_with fail
      go_at_call 197
      refine (HB2.out _ _ Hk2.out).mono ?_
      rintro e w3 ⟨rfl, hk3, hq3⟩
      have Hk3 := Lib.hid hk3
      have HQ3 := Lib.hid (HQ2.out.both hq3)
      clear hk3 hq3
      go_wp2_with fail
      refine HPost.out _ _ ?_
      rw [HM2.out]
      exact ⟨rfl, Hk3.out, HQ3.out⟩
    | false =>
      have HM2 : Hid (modeD m = (0, m2)) := Lib.hid (by rw [HM.out]; rfl)
      clear HM
      go_enter Tryz.func105, Tryz.ntmps105
      go_wp2_with fail
      go_at_call 104
      refine (bound_any _ _ _ _).mono ?_
      rintro e w1 ⟨rfl, rfl⟩
      generalize hk0 : min (max k 0) 3 = k0 at *
      have hk1 : 0 ≤ k0 := by omega
      clear hk0
      go_wp2_with fail
      go_at_call 197
      refine (HB.out _).mono ?_
      rintro e w2 ⟨rfl, hk2, hq2⟩
      have Hk2 := Lib.hid hk2
      have HQ2 := Lib.hid hq2
      clear hk2 hq2
      go_wp2_with fail
      go_at_call 197
      refine (HB2.out _ _ Hk2.out).mono ?_
      rintro e w3 ⟨rfl, hk3, hq3⟩
      have Hk3 := Lib.hid hk3
      have HQ3 := Lib.hid (HQ2.out.both hq3)
      clear hk3 hq3
      go_wp2_with fail
      refine HPost.out _ _ ?_
      rw [HM2.out]
      exact ⟨rfl, Hk3.out, HQ3.out⟩
#print axioms mmode_any
end Go.Proofs.YthgpgbdkcdmbpaaGreatDoor
