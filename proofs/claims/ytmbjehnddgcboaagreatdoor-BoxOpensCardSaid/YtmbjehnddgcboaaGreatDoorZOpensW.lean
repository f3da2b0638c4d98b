/- Joined texts: OpensW. Conditions: each part names its own. -/
import Derived.Test.YtmbjehnddgcboaaGreatDoorZKTaken
import Derived.Test.YtmbjehnddgcboaaGreatDoorZInfo
import Derived.Test.YtmbjehnddgcboaaGreatDoorC10
import Derived.Test.YtmbjehnddgcboaaGreatDoorC13
/- BoxOpens answers true. Conditions: the bytes read; the variable errors.errorType is laid. -/
namespace Go.Proofs.YtmbjehnddgcboaaGreatDoor
open Go.RowKit
set_option linter.unusedVariables false
set_option linter.unusedSimpArgs false

def errX {α : Type} : Except Err α → Option Err
  | .ok _ => none
  | .error e => some e
def listX : Except Err (List Int) → List Int
  | .ok b => b
  | .error _ => []
def headX : Except Err WholeD → HeadD
  | .ok x => x.head
  | .error _ => ⟨0, 0, 0, cfg0, 0⟩
def partsX : Except Err WholeD → List Entry
  | .ok x => x.parts
  | .error _ => []

theorem opens_both {lo hi : Nat} {bv : Value} {l : List Int} {w : World} (h : Ints .u8 lo hi w bv l) (hh : hi ≤ w.heap.size) (hl : l.length ≤ 1000000000000) :
    Calls Tryz.prog 6 #[bv] w fun e w' => ∃ pa pcap ev, e = .returned (.tuple #[infoV (headX (openR l)).W (headX (openR l)).H (headX (openR l)).F (headX (openR l)).c (.slice pa (partsX (openR l)).length pcap), ev]) ∧
      EntriesAt w.heap.size w'.heap.size w' (.slice pa (partsX (openR l)).length pcap) (partsX (openR l)) ∧ OErrV w.heap.size w'.heap.size w' ev (errX (openR l)) ∧ Only [] w w' := by
  refine (Open_any h hh hl).mono ?_
  intro e w' hP
  unfold OpensP at hP
  cases hr : openR l with
  | ok x =>
    rw [hr] at hP
    obtain ⟨hq, pv, rfl, hp⟩ := hP
    obtain ⟨pa, pcap, hpe, _⟩ := id hp.open
    subst hpe
    exact ⟨pa, pcap, .nilIface, rfl, hp, rfl, hq⟩
  | error er =>
    rw [hr] at hP
    obtain ⟨hq, ev, rfl, hev⟩ := hP
    exact ⟨none, 0, ev, rfl, Rows.nil _ _ _ _ _, hev, hq⟩
theorem kopen_both {lo hi : Nat} {bv : Value} {l : List Int} {w : World} (h : Ints .u8 lo hi w bv l) (hh : hi ≤ w.heap.size) (hl : l.length ≤ 100000000) :
    Calls Tryz.prog 7 #[bv] w fun e w' => ∃ pa pcap ca cn ccap fa fn fcap sa scap, e = .returned (.tuple #[allV (headX (openR l)) (.slice pa (partsX (openR l)).length pcap) (.slice ca cn ccap) (.slice fa fn fcap), .agg #[.int .i64 (codeOf (errX (openR l))), .slice sa (pathOf (errX (openR l))).length scap]]) ∧
      EntriesAt w.heap.size w'.heap.size w' (.slice pa (partsX (openR l)).length pcap) (partsX (openR l)) ∧ Cells 2 w.heap.size w'.heap.size w' (.slice sa (pathOf (errX (openR l))).length scap) (pathOf (errX (openR l))).length (flat (pathOf (errX (openR l)))) ∧ Only [] w w' := by
  refine (kopen_any h hh hl).mono ?_
  intro e w' hP
  unfold KOpenP at hP
  cases hr : openR l with
  | ok x =>
    rw [hr] at hP
    obtain ⟨hq, pv, cv, fv, sa, scap, rfl, hsm, hp, hc, hf⟩ := hP
    obtain ⟨pa, pcap, hpe, _⟩ := id hp.open
    subst hpe
    obtain ⟨ca, ccap, hce, _⟩ := id hc.open
    subst hce
    obtain ⟨fa, fcap, hfe, _⟩ := id hf.open
    subst hfe
    exact ⟨pa, pcap, ca, _, ccap, fa, _, fcap, sa, scap, rfl, hp, ⟨rfl, sa, scap, rfl, Nat.zero_le _, hsm, fun h => absurd h (Nat.lt_irrefl 0)⟩, hq⟩
  | error er =>
    rw [hr] at hP
    obtain ⟨hq, sa, scap, rfl, hev⟩ := hP
    exact ⟨none, 0, none, 0, 0, none, 0, 0, sa, scap, rfl, Rows.nil _ _ _ _ _, hev, hq⟩
theorem sizes_both {lo hi : Nat} {bv : Value} {l : List Int} {w : World} (h : Ints .u8 lo hi w bv l) (hh : hi ≤ w.heap.size) (hl : l.length ≤ 100000000) :
    Calls Tryz.prog 8 #[bv] w fun e w' => ∃ v ev, e = .returned (.tuple #[v, ev]) ∧ Ints .i64 w.heap.size w'.heap.size w' v (listX (sizesR l)) ∧ OErrV w.heap.size w'.heap.size w' ev (errX (sizesR l)) ∧ Only [] w w' := by
  refine (Sizes_any h hh hl).mono ?_
  intro e w' hP
  unfold ListOr at hP
  cases hr : sizesR l with
  | ok x =>
    rw [hr] at hP
    obtain ⟨hq, v, rfl, hv⟩ := hP
    exact ⟨v, .nilIface, rfl, hv.ints, rfl, hq⟩
  | error er =>
    rw [hr] at hP
    obtain ⟨hq, ev, rfl, hev⟩ := hP
    exact ⟨_, ev, rfl, Ints.nil _ _ _ _, hev, hq⟩
theorem taken_both {lo hi : Nat} {bv : Value} {l : List Int} {w : World} (h : Ints .u8 lo hi w bv l) (hh : hi ≤ w.heap.size) (hl : l.length ≤ 100000000) :
    Calls Tryz.prog 9 #[bv] w fun e w' => ∃ v sa scap, e = .returned (.tuple #[v, .agg #[.int .i64 (codeOf (errX (sizesR l))), .slice sa (pathOf (errX (sizesR l))).length scap]]) ∧ Ints .i64 w.heap.size w'.heap.size w' v (listX (sizesR l)) ∧
      Cells 2 w.heap.size w'.heap.size w' (.slice sa (pathOf (errX (sizesR l))).length scap) (pathOf (errX (sizesR l))).length (flat (pathOf (errX (sizesR l)))) ∧ Only [] w w' := by
  refine (ktaken_any h hh hl).mono ?_
  intro e w' hP
  unfold KTakenP at hP
  cases hr : sizesR l with
  | ok x =>
    rw [hr] at hP
    obtain ⟨hq, v, sa, scap, rfl, hsm, hv⟩ := hP
    exact ⟨v, sa, scap, rfl, hv, ⟨rfl, sa, scap, rfl, Nat.zero_le _, hsm, fun h => absurd h (Nat.lt_irrefl 0)⟩, hq⟩
  | error er =>
    rw [hr] at hP
    obtain ⟨hq, sa, scap, rfl, hev⟩ := hP
    exact ⟨_, sa, scap, rfl, Ints.nil _ _ _ _, hev, hq⟩
theorem errX_ok {l : List Int} (hl : ∀ x ∈ l, InK .u8 x) : ((errX (openR l)).isNone = (codeOf (errX (openR l)) == 0) ∧ (pathOf (errX (openR l))).length ≤ 2) ∧ errX (sizesR l) = errX (openR l) := by
  cases hr : openR l with
  | ok x => exact ⟨⟨rfl, by simp [errX, pathOf]⟩, by unfold sizesR; rw [hr]; rfl⟩
  | error er =>
    obtain ⟨n, er2, rfl, _, hok⟩ := openR_err hl hr
    refine ⟨⟨?_, ?_⟩, by unfold sizesR; rw [hr]; rfl⟩
    · symm
      show (er2.code == 0) = false
      rw [beq_eq_false_iff_ne]; have := hok.2.1; omega
    · show er2.path.length + 1 ≤ 2
      have := hok.1; omega

set_option maxRecDepth 100000 in
set_option maxHeartbeats 16000000 in
theorem opensl_any {lo hi : Nat} {v : Value} {l : List Int} {w : World} (h : Ints .u8 lo hi w v l) (hhi : hi ≤ w.heap.size) (hE : ErrT w) :
    Calls Tryz.prog 3 #[v] w fun e w' => e = .returned (.bool true) ∧ Only [] w w' := by
  obtain ⟨va, vcap, rfl, hvc, hvm, _⟩ := h.open
  have hll : (l.length : Int) ≤ 9223372036854775807 := by unfold maxLen at hvm; omega
  have Hh := Lib.hid h
  have HE := Lib.hid hE
  have Hx := Lib.hid (errX_ok h.2)
  have Hhi := Lib.hid hhi
  clear h hE hvm hvc hhi
  by_cases hroom : l.length ≤ 40000
  · have hg : ¬ (40000 : Int) < (l.length : Int) := by omega
    have HOPEN := Lib.hid (fun (w' : World) (lo hi : Nat) (u : Value) (hu : Ints .u8 lo hi w' u l) (hh : hi ≤ w'.heap.size) => opens_both hu hh (by omega))
    have HREAD := Lib.hid (fun (w' : World) (lo hi : Nat) (u : Value) (hu : Ints .u8 lo hi w' u l) (hh : hi ≤ w'.heap.size) => kopen_both hu hh (by omega))
    have HSIZ := Lib.hid (fun (w' : World) (lo hi : Nat) (u : Value) (hu : Ints .u8 lo hi w' u l) (hh : hi ≤ w'.heap.size) => sizes_both hu hh (by omega))
    have HTAK := Lib.hid (fun (w' : World) (lo hi : Nat) (u : Value) (hu : Ints .u8 lo hi w' u l) (hh : hi ≤ w'.heap.size) => taken_both hu hh (by omega))
    have hxe := Hx.out.2
    rw [hxe] at HSIZ HTAK
    have HX := Lib.hid Hx.out.1
    have hroomI : (l.length : Int) ≤ 40000 := by omega
    clear Hx hxe
    generalize headX (openR l) = HD at *
    generalize partsX (openR l) = PT at *
    generalize errX (openR l) = ER at *
    generalize listX (sizesR l) = SZ at *
    obtain ⟨hW, hH, hF, ⟨q0, q1, q2, q3, q4, q5, q6, q7⟩, np⟩ := HD
    go_enter Tryz.func3, Tryz.ntmps3
    go_wp2_with fail
    go_at_call 4
    refine (first_any HE.out).mono ?_
    rintro e w1 ⟨rfl, hq1⟩
    have HQ1 := Lib.hid hq1
    clear hq1
    go_wp2_with fail
    go_at_call 5
    refine (copyb_any (Hh.out.quiet HQ1.out) (by omega)).mono ?_
    rintro e w2 ⟨iv, rfl, hown, hq2⟩
    obtain ⟨ia, icap, hie, _⟩ := hown.ints.open
    subst hie
    have HIN := Lib.hid hown.ints
    have HQ2 := Lib.hid (HQ1.out.q hq2)
    clear hown hq2
    go_wp2_with fail
    go_at_call 6
    refine (HOPEN.out w2 _ _ _ HIN.out (Nat.le_refl _)).mono ?_
    rintro e w3 ⟨pa, pcap, ev, rfl, hp, hev, hq3⟩
    have HP3 := Lib.hid hp
    have HEV3 := Lib.hid hev
    have HQ3 := Lib.hid hq3
    clear hp hev hq3
    unfold infoV
    simp only
    go_wp2_with fail
    go_at_call 7
    have hn3 := Only.new w3 (.cells #[.int .i64 hW, .int .i64 hH, .int .i64 hF, .int .i64 q0, .int .i64 q1, .int .i64 q2, .int .i64 q3, .int .i64 q4, .int .i64 q5, .int .i64 q6, .int .i64 q7, .slice pa PT.length pcap] 29)
    have hq03 : Only [] w (w3.alloc (.cells #[.int .i64 hW, .int .i64 hH, .int .i64 hF, .int .i64 q0, .int .i64 q1, .int .i64 q2, .int .i64 q3, .int .i64 q4, .int .i64 q5, .int .i64 q6, .int .i64 q7, .slice pa PT.length pcap] 29)) := (HQ2.out.q HQ3.out).q hn3
    refine (HREAD.out _ _ _ _ (Hh.out.quiet hq03) (Nat.le_trans Hhi.out hq03.size)).mono ?_
    rintro e w4 ⟨ra, rcap, ca, cn, ccap, fa, fn, fcap, sa, scap, rfl, hr, hs, hq4⟩
    have HR4 := Lib.hid hr
    have HS4 := Lib.hid hs
    have HQ4 := Lib.hid (hn3.q hq4)
    have HA4 := Lib.hid (hq4.row (heap_alloc_new w3 _))
    clear hr hs hq4 hn3 hq03
    unfold allV
    simp only
    go_wp2_with fail
    go_at_call 8
    have hn4 := (Only.new w4 (.cells #[.int .i64 hW, .int .i64 hH, .int .i64 hF, .int .i64 q0, .int .i64 q1, .int .i64 q2, .int .i64 q3, .int .i64 q4, .int .i64 q5, .int .i64 q6, .int .i64 q7, .slice ra PT.length rcap, .slice ca cn ccap, .slice fa fn fcap] 38)).q (Only.new _ (.cells #[.int .i64 (codeOf ER), .slice sa (pathOf ER).length scap] 42))
    have hq24 := (HQ3.out.q HQ4.out).q hn4
    refine (HSIZ.out _ _ _ _ (HIN.out.quiet hq24) hq24.size).mono ?_
    rintro e w5 ⟨zv, ev5, rfl, hz, hev5, hq5⟩
    have HZ5 := Lib.hid hz
    have HEV5 := Lib.hid hev5
    have HQ5 := Lib.hid (hn4.q hq5)
    have HB5 := Lib.hid (hq5.row ((Below.heap_alloc (w4.alloc (.cells #[.int .i64 hW, .int .i64 hH, .int .i64 hF, .int .i64 q0, .int .i64 q1, .int .i64 q2, .int .i64 q3, .int .i64 q4, .int .i64 q5, .int .i64 q6, .int .i64 q7, .slice ra PT.length rcap, .slice ca cn ccap, .slice fa fn fcap] 38)) (.cells #[.int .i64 (codeOf ER), .slice sa (pathOf ER).length scap] 42) w4.heap.size (by simp)).trans (heap_alloc_new w4 _)))
    have HC5 := Lib.hid (hq5.row (heap_alloc_new' (w := w4.alloc (.cells #[.int .i64 hW, .int .i64 hH, .int .i64 hF, .int .i64 q0, .int .i64 q1, .int .i64 q2, .int .i64 q3, .int .i64 q4, .int .i64 q5, .int .i64 q6, .int .i64 q7, .slice ra PT.length rcap, .slice ca cn ccap, .slice fa fn fcap] 38)) (o := .cells #[.int .i64 (codeOf ER), .slice sa (pathOf ER).length scap] 42) (g := w4.heap.size + 1) (by simp)))
    clear hz hev5 hq5 hn4 hq24
    go_wp2_with fail
    go_at_call 9
    have hq05 := ((HQ2.out.q HQ3.out).q HQ4.out).q HQ5.out
    refine (HTAK.out w5 _ _ _ (Hh.out.quiet hq05) (Nat.le_trans Hhi.out hq05.size)).mono ?_
    rintro e w6 ⟨yv, ta, tcap, rfl, hy, ht, hq6⟩
    have HY6 := Lib.hid hy
    have HT6 := Lib.hid ht
    have HQ6 := Lib.hid hq6
    have HQ06 := Lib.hid (hq05.q hq6)
    clear hy ht hq6 hq05
    go_wp2_with fail
    go_at_call 4
    have hn6 := Only.new w6 (.cells #[.int .i64 (codeOf ER), .slice ta (pathOf ER).length tcap] 42)
    refine (first_any (HE.out.quiet (HQ06.out.q hn6))).mono ?_
    rintro e w7 ⟨rfl, hq7⟩
    have HQ7 := Lib.hid (hn6.q hq7)
    have hD7 := hq7.row (heap_alloc_new w6 _)
    have hq57 := HQ6.out.q HQ7.out
    have hq47 := HQ5.out.q hq57
    have hA7 := hq47.row HA4.out
    have hB7 := hq57.row HB5.out
    have hC7 := hq57.row HC5.out
    obtain ⟨⟨a0, a1, a2, a3, a4, a5⟩, a6, a7, a8, a9, a10, a11⟩ := cells12 hA7
    obtain ⟨⟨b0, b1, b2, b3, b4, b5, b6⟩, b7, b8, b9, b10, b11, b12, b13⟩ := cells14 hB7
    have HCD := Lib.hid (And.intro hC7 hD7)
    have HQ47 := Lib.hid hq47
    have HQ57 := Lib.hid hq57
    clear hq7 hn6 hq57 hq47 hA7 hB7 hC7 hD7
    go_wp2_with fail
    go_at_call 10
    have HINFO := info_any hW hH hF ⟨q0, q1, q2, q3, q4, q5, q6, q7⟩ ((HP3.out.quiet HQ4.out).quiet HQ47.out) (HR4.out.quiet HQ47.out)
    unfold infoV at HINFO
    simp only at HINFO
    refine HINFO.mono ?_
    clear HINFO
    rintro e w8 ⟨rfl, hq8⟩
    have HQ8 := Lib.hid hq8
    obtain ⟨c0, c1, _, _, _⟩ := row2 (hq8.row HCD.out.1)
    have HD8 := Lib.hid (hq8.row HCD.out.2)
    clear hq8 a0 a1 a2 a3 a4 a5 a6 a7 a8 a9 a10 a11 b0 b1 b2 b3 b4 b5 b6 b7 b8 b9 b10 b11 b12 b13
    go_wp2_with fail
    go_at_call 11
    have hq38 := HQ4.out.q (HQ47.out.q HQ8.out)
    have hq08 : Only [] w w8 := (HQ06.out.q HQ7.out).q HQ8.out
    refine (same_any (HEV3.out.only hq38 (by simp)) hq38.size (HE.out.quiet hq08) (by have := HX.out.2; omega) (HS4.out.only (HQ47.out.q HQ8.out) (by simp)) HX.out.1 rfl rfl).mono ?_
    rintro e w9 ⟨rfl, hq9⟩
    have HQ9 := Lib.hid hq9
    have HQ09 := Lib.hid (hq08.q hq9)
    have HD9 := Lib.hid (hq9.row HD8.out)
    clear hq38 hq08 hq9 c0 c1
    go_wp2_with fail
    go_at_call 12
    have hq79 := HQ8.out.q HQ9.out
    refine (intsEq_any (HZ5.out.quiet (HQ57.out.q hq79)) (HY6.out.quiet (HQ7.out.q hq79))).mono ?_
    rintro e w10 ⟨rfl, hq10⟩
    have hee : eqB SZ SZ = true := by simp [eqB]
    rw [hee]
    obtain ⟨d0, d1, _, _, _⟩ := row2 (hq10.row HD9.out)
    have HQ10 := Lib.hid (hq79.q hq10)
    have HQ010 := Lib.hid (HQ09.out.q hq10)
    clear hq79 hq10 hee
    go_wp2_with fail
    go_at_call 11
    have hq510 := HQ57.out.q HQ10.out
    refine (same_any (HEV5.out.only hq510 (by simp)) hq510.size (HE.out.quiet HQ010.out) (by have := HX.out.2; omega) (HT6.out.only (HQ7.out.q HQ10.out) (by simp)) HX.out.1 rfl rfl).mono ?_
    rintro e w11 ⟨rfl, hq11⟩
    have HQ11 := Lib.hid hq11
    clear hq510 hq11 d0 d1
    go_wp2_with fail
    go_at_call 13
    refine (bytes_any (HIN.out.quiet (((HQ3.out.q HQ4.out).q HQ47.out).q (HQ10.out.q HQ11.out))) (Hh.out.quiet (HQ010.out.q HQ11.out))).mono ?_
    rintro e w12 ⟨rfl, rfl⟩
    have hee : eqB l l = true := by simp [eqB]
    rw [hee]
    go_wp2_with fail
    go_ret
    exact ⟨rfl, HQ010.out.q HQ11.out⟩
  · have hg : (40000 : Int) < (l.length : Int) := by omega
    go_enter Tryz.func3, Tryz.ntmps3
    go_wp2_with fail
    go_at_call 4
    refine (first_any HE.out).mono ?_
    rintro e w1 ⟨rfl, hq1⟩
    have HQ1 := Lib.hid hq1
    clear hq1
    go_wp2_with fail
    go_at_call 4
    refine (first_any (HE.out.quiet HQ1.out)).mono ?_
    rintro e w2 ⟨rfl, hq2⟩
    go_wp2_with fail
    go_ret
    exact ⟨rfl, HQ1.out.q hq2⟩
#print axioms opensl_any
end Go.Proofs.YtmbjehnddgcboaaGreatDoor
