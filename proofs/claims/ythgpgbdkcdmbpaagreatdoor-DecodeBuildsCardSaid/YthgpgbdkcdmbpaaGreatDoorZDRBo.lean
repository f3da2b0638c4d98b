/- What the document finds wrong with a square's parts: kinref21.bounds. Conditions: the square's lists read. -/
import Derived.Test.YthgpgbdkcdmbpaaGreatDoorZDRBd
import Derived.Test.YthgpgbdkcdmbpaaGreatDoorZDSqM
namespace Go.Proofs.YthgpgbdkcdmbpaaGreatDoor
open Go.RowKit
set_option linter.unusedVariables false
set_option linter.unusedSimpArgs false
theorem lt_next {P : Nat → Prop} {j : Nat} (h : ∀ i, i < j → P i) (hj : P j) (i : Nat) (hi : i < j + 1) : P i := by
 rcases Nat.lt_or_ge i j with h1 | h1
 ·exact h i h1
 ·obtain rfl : i = j := by omega
  exact hj
section
set_option maxRecDepth 100000
set_option maxHeartbeats 4000000
theorem qDRBo1 {p : Prop} (h : p := by
 obtain ⟨z0, z1, y0, y1, -⟩ := row2 HEW1.out
 go_wp2_with fail
 obtain ⟨hrow, hon⟩ := row2_set (x := .int .i64 0) (y := .slice none 0 0) HEW1.out
 have hall := HQW1.out.trans hon (U := []) (by simp) (fun g hg hlt => by rw [List.mem_singleton] at hg; omega)
 exact bodyPost_ret (v := .agg #[.int .i64 0, .slice none 0 0]) (results_cell_row Tryz.results59 _ _ (w.heap.size + 1) _ _ _ _ rfl hrow Tryz.underlying45 rfl (err_info _ rfl)) rfl (HPost.out _ _ ⟨rfl, hall⟩)) : p := h
theorem qDRBo8 {p : Prop} (h : p := by
 go_wp2_with fail
 go_loopw [6] (fun i wr => i = .int .i64 0 ∧ W1 = wr) (fun i _ => 0)
 case atStart => exact ⟨rfl, rfl⟩
 case round =>
  obtain ⟨rfl, rfl⟩ := hrel
  exact qDRBo1) : p := h
theorem kbounds0 {lo hi : Nat} {w : World} {mo vx vy : Int} {m0 m1 m2 m3 : Int} {la : Option Addr} {lcap : Nat} {s0 s1 s2 s3 : Value} {L : List Int} {S : List (List Int)} (h : SqIn lo hi w (.slice la L.length lcap) [s0, s1, s2, s3] L S) (hmk : ∀ x ∈ [m0, m1, m2, m3], InK .i64 x)  : Calls Tryz.prog 59 #[.agg #[.int .i64 0, .int .i64 mo, .int .i64 m0, .int .i64 m1, .int .i64 m2, .int .i64 m3, .int .i64 vx, .int .i64 vy, .slice la L.length lcap, s0, s1, s2, s3]] w fun e w' => (e = .returned (.agg #[.int .i64 0, .slice none 0 0]) ∧ Only [] w w') := by
 refine hidQ fun Q HPost => ?_
 obtain ⟨hq1, HB0, HB1, HB2, Hz1⟩ := boxes3 w (.cells #[.int .i64 0, .int .i64 mo, .int .i64 m0, .int .i64 m1, .int .i64 m2, .int .i64 m3, .int .i64 vx, .int .i64 vy, .slice la L.length lcap, s0, s1, s2, s3] 70) (.cells #[.int .i64 0, .slice none 0 0] 45) (.cells #[.int .i64 vx, .int .i64 vy] 61)
 have HQ1 := Lib.hid hq1
 have HS := Lib.hid h
 have Hmk := Lib.hid hmk
 have c0 := cat (i := 0) (v := .int .i64 0) HB0.out rfl
 have c1 := cat (i := 1) (v := .int .i64 mo) HB0.out rfl
 have c8 := cat (i := 8) (v := .slice la L.length lcap) HB0.out rfl
 clear hq1 h hmk
 go_enter Tryz.func59, Tryz.ntmps59
 go_wp2_with fail
 generalize hW1 : World.alloc (World.alloc (World.alloc w _) _) _ = W1 at *
 clear hW1
 have HQW1 := HQ1
 have HEW1 := HB1
 go_loopw [5] (fun i wr => i = .int .i64 0 ∧ W1 = wr) (fun i _ => 0)
 case atStart => exact ⟨rfl, rfl⟩
 case round =>
  obtain ⟨rfl, rfl⟩ := hrel
  exact qDRBo8
theorem qDRBo0 {p : Prop} (h : p := by
 go_at_call 22
 refine (fail_any 3 W1).mono ?_
 rintro e w3 ⟨rfl, hq3⟩
 have HQw3 := Lib.hid (HQ1.out.q hq3)
 have HEw3 := Lib.hid (hq3.row HB1.out)
 clear hq3
 obtain ⟨z0, z1, y0, y1, -⟩ := row2 HEw3.out
 go_wp2_with fail
 obtain ⟨hrow, hon⟩ := row2_set (x := .int .i64 3) (y := .slice none 0 0) HEw3.out
 have hall := HQw3.out.trans hon (U := []) (by simp) (fun g hg hlt => by rw [List.mem_singleton] at hg; omega)
 exact bodyPost_ret (v := .agg #[.int .i64 3, .slice none 0 0]) (results_cell_row Tryz.results59 _ _ (w.heap.size + 1) _ _ _ _ rfl hrow Tryz.underlying45 rfl (err_info _ rfl)) rfl (HPost.out _ _ ⟨rfl, hall⟩)) : p := h
theorem qDRBo9 {p : Prop} (h : p := by
 clear hq1 h hmk
 go_enter Tryz.func59, Tryz.ntmps59
 go_wp2_with fail
 generalize hW1 : World.alloc (World.alloc (World.alloc w _) _) _ = W1 at *
 clear hW1
 exact qDRBo0) : p := h
theorem qDRBo4 {p : Prop} (h : p := by
 refine hidQ fun Q HPost => ?_
 obtain ⟨hq1, HB0, HB1, HB2, Hz1⟩ := boxes3 w (.cells #[.int .i64 1, .int .i64 mo, .int .i64 m0, .int .i64 m1, .int .i64 m2, .int .i64 m3, .int .i64 vx, .int .i64 vy, .slice la L.length lcap, s0, s1, s2, s3] 70) (.cells #[.int .i64 0, .slice none 0 0] 45) (.cells #[.int .i64 vx, .int .i64 vy] 61)
 have HQ1 := Lib.hid hq1
 have HS := Lib.hid h
 have Hmk := Lib.hid hmk
 have c0 := cat (i := 0) (v := .int .i64 1) HB0.out rfl
 have c1 := cat (i := 1) (v := .int .i64 mo) HB0.out rfl
 have c8 := cat (i := 8) (v := .slice la L.length lcap) HB0.out rfl
 have v0 := cat (i := 0) (v := .int .i64 vx) HB2.out rfl
 have v1 := cat (i := 1) (v := .int .i64 vy) HB2.out rfl
 exact qDRBo9) : p := h
theorem kbounds1a {lo hi : Nat} {w : World} {mo vx vy : Int} {m0 m1 m2 m3 : Int} {la : Option Addr} {lcap : Nat} {s0 s1 s2 s3 : Value} {L : List Int} {S : List (List Int)} (h : SqIn lo hi w (.slice la L.length lcap) [s0, s1, s2, s3] L S) (hmk : ∀ x ∈ [m0, m1, m2, m3], InK .i64 x) (h1 : vx < -15) : Calls Tryz.prog 59 #[.agg #[.int .i64 1, .int .i64 mo, .int .i64 m0, .int .i64 m1, .int .i64 m2, .int .i64 m3, .int .i64 vx, .int .i64 vy, .slice la L.length lcap, s0, s1, s2, s3]] w fun e w' => (e = .returned (.agg #[.int .i64 3, .slice none 0 0]) ∧ Only [] w w') := by
 exact qDRBo4
theorem kbounds1b {lo hi : Nat} {w : World} {mo vx vy : Int} {m0 m1 m2 m3 : Int} {la : Option Addr} {lcap : Nat} {s0 s1 s2 s3 : Value} {L : List Int} {S : List (List Int)} (h : SqIn lo hi w (.slice la L.length lcap) [s0, s1, s2, s3] L S) (hmk : ∀ x ∈ [m0, m1, m2, m3], InK .i64 x) (h0 : ¬ vx < -15) (h1 : 15 < vx) : Calls Tryz.prog 59 #[.agg #[.int .i64 1, .int .i64 mo, .int .i64 m0, .int .i64 m1, .int .i64 m2, .int .i64 m3, .int .i64 vx, .int .i64 vy, .slice la L.length lcap, s0, s1, s2, s3]] w fun e w' => (e = .returned (.agg #[.int .i64 3, .slice none 0 0]) ∧ Only [] w w') := by
 exact qDRBo4
theorem kbounds1c {lo hi : Nat} {w : World} {mo vx vy : Int} {m0 m1 m2 m3 : Int} {la : Option Addr} {lcap : Nat} {s0 s1 s2 s3 : Value} {L : List Int} {S : List (List Int)} (h : SqIn lo hi w (.slice la L.length lcap) [s0, s1, s2, s3] L S) (hmk : ∀ x ∈ [m0, m1, m2, m3], InK .i64 x) (h0 : ¬ vx < -15) (h2 : ¬ 15 < vx) (h1 : vy < -15) : Calls Tryz.prog 59 #[.agg #[.int .i64 1, .int .i64 mo, .int .i64 m0, .int .i64 m1, .int .i64 m2, .int .i64 m3, .int .i64 vx, .int .i64 vy, .slice la L.length lcap, s0, s1, s2, s3]] w fun e w' => (e = .returned (.agg #[.int .i64 3, .slice none 0 0]) ∧ Only [] w w') := by
 exact qDRBo4
theorem kbounds1d {lo hi : Nat} {w : World} {mo vx vy : Int} {m0 m1 m2 m3 : Int} {la : Option Addr} {lcap : Nat} {s0 s1 s2 s3 : Value} {L : List Int} {S : List (List Int)} (h : SqIn lo hi w (.slice la L.length lcap) [s0, s1, s2, s3] L S) (hmk : ∀ x ∈ [m0, m1, m2, m3], InK .i64 x) (h0 : ¬ vx < -15) (h2 : ¬ 15 < vx) (h3 : ¬ vy < -15) (h1 : 15 < vy) : Calls Tryz.prog 59 #[.agg #[.int .i64 1, .int .i64 mo, .int .i64 m0, .int .i64 m1, .int .i64 m2, .int .i64 m3, .int .i64 vx, .int .i64 vy, .slice la L.length lcap, s0, s1, s2, s3]] w fun e w' => (e = .returned (.agg #[.int .i64 3, .slice none 0 0]) ∧ Only [] w w') := by
 exact qDRBo4
theorem qDRBo2 {p : Prop} (h : p := by
 go_at_call 22
 refine (fail_any 14 W1).mono ?_
 rintro e w3 ⟨rfl, hq3⟩
 have HQw3 := Lib.hid (HQ1.out.q hq3)
 have HEw3 := Lib.hid (hq3.row HB1.out)
 clear hq3
 obtain ⟨z0, z1, y0, y1, -⟩ := row2 HEw3.out
 go_wp2_with fail
 obtain ⟨hrow, hon⟩ := row2_set (x := .int .i64 14) (y := .slice none 0 0) HEw3.out
 have hall := HQw3.out.trans hon (U := []) (by simp) (fun g hg hlt => by rw [List.mem_singleton] at hg; omega)
 exact bodyPost_ret (v := .agg #[.int .i64 14, .slice none 0 0]) (results_cell_row Tryz.results59 _ _ (w.heap.size + 1) _ _ _ _ rfl hrow Tryz.underlying45 rfl (err_info _ rfl)) rfl (HPost.out _ _ ⟨rfl, hall⟩)) : p := h
theorem qDRBo5 {p : Prop} (h : p := by
 have Hc14 := Lib.hid hc14
 have Hc3 := Lib.hid hc3
 have Hc0 := Lib.hid hc0
 clear hc14 hc3 hc0
 have hll : (L.length : Int) ≤ 9223372036854775807 := by have := h.large.1.len_le; unfold maxLen at this; omega
 clear hq1 h hmk
 by_cases h64 : L.length = 64
 ·have hb : ((L.length : Int) != 64) = false := by rw [bne_eq_false_iff_eq]; omega
  have H64 := Lib.hid h64
  clear h64
  go_enter Tryz.func59, Tryz.ntmps59
  go_wp2_with fail
  generalize hW1 : World.alloc (World.alloc (World.alloc w _) _) _ = W1 at *
  clear hW1
  have HQW1 := HQ1
  have HEW1 := HB1
  clear hb
  go_loopw [5] (fun i wr => i = .int .i64 0 ∧ W1 = wr) (fun i _ => 0)
  case atStart => exact ⟨rfl, rfl⟩
  case round =>
   obtain ⟨rfl, rfl⟩ := hrel
   go_wp2_with fail
   go_at_call 23
   refine (within_any (-16320) 16320 (HS.out.large.quiet HQ1.out)).mono ?_
   rintro e w' ⟨rfl, rfl⟩
   have hwl : withinB L (-16320) 16320 = levB L := rfl
   cases hv : levB L with
   | false =>
    obtain rfl := Hc3.out H64.out hv
    rw [hwl, hv]
    clear hwl hv
    go_wp2_with fail
    exact qDRBo0
   | true =>
    obtain rfl := Hc0.out H64.out hv
    rw [hwl, hv]
    clear hwl hv
    exact qDRBo8
 ·have hb : ((L.length : Int) == 64) = false := by rw [beq_eq_false_iff_ne]; omega
  obtain rfl := Hc14.out h64
  clear h64
  go_enter Tryz.func59, Tryz.ntmps59
  go_wp2_with fail
  generalize hW1 : World.alloc (World.alloc (World.alloc w _) _) _ = W1 at *
  clear hW1
  exact qDRBo2) : p := h
theorem kbounds1 {lo hi : Nat} {w : World} {mo vx vy : Int} {m0 m1 m2 m3 : Int} {la : Option Addr} {lcap : Nat} {s0 s1 s2 s3 : Value} {L : List Int} {S : List (List Int)} (h : SqIn lo hi w (.slice la L.length lcap) [s0, s1, s2, s3] L S) (hmk : ∀ x ∈ [m0, m1, m2, m3], InK .i64 x) (h0 : ¬ vx < -15) (h2 : ¬ 15 < vx) (h3 : ¬ vy < -15) (h1 : ¬ 15 < vy) {c : Int} (hc14 : L.length ≠ 64 → c = 14) (hc3 : L.length = 64 → levB L = false → c = 3) (hc0 : L.length = 64 → levB L = true → c = 0) : Calls Tryz.prog 59 #[.agg #[.int .i64 1, .int .i64 mo, .int .i64 m0, .int .i64 m1, .int .i64 m2, .int .i64 m3, .int .i64 vx, .int .i64 vy, .slice la L.length lcap, s0, s1, s2, s3]] w fun e w' => (e = .returned (.agg #[.int .i64 c, .slice none 0 0]) ∧ Only [] w w') := by
 refine hidQ fun Q HPost => ?_
 obtain ⟨hq1, HB0, HB1, HB2, Hz1⟩ := boxes3 w (.cells #[.int .i64 1, .int .i64 mo, .int .i64 m0, .int .i64 m1, .int .i64 m2, .int .i64 m3, .int .i64 vx, .int .i64 vy, .slice la L.length lcap, s0, s1, s2, s3] 70) (.cells #[.int .i64 0, .slice none 0 0] 45) (.cells #[.int .i64 vx, .int .i64 vy] 61)
 have HQ1 := Lib.hid hq1
 have HS := Lib.hid h
 have Hmk := Lib.hid hmk
 have c0 := cat (i := 0) (v := .int .i64 1) HB0.out rfl
 have c1 := cat (i := 1) (v := .int .i64 mo) HB0.out rfl
 have c8 := cat (i := 8) (v := .slice la L.length lcap) HB0.out rfl
 have v0 := cat (i := 0) (v := .int .i64 vx) HB2.out rfl
 have v1 := cat (i := 1) (v := .int .i64 vy) HB2.out rfl
 exact qDRBo5
theorem qDRBo6 {p : Prop} (h : p := by
 exact qDRBo9) : p := h
theorem qDRBo7 {p : Prop} (h : p := by
 refine hidQ fun Q HPost => ?_
 obtain ⟨hq1, HB0, HB1, HB2, Hz1⟩ := boxes3 w (.cells #[.int .i64 2, .int .i64 mo, .int .i64 m0, .int .i64 m1, .int .i64 m2, .int .i64 m3, .int .i64 vx, .int .i64 vy, .slice la L.length lcap, s0, s1, s2, s3] 70) (.cells #[.int .i64 0, .slice none 0 0] 45) (.cells #[.int .i64 vx, .int .i64 vy] 61)
 have HQ1 := Lib.hid hq1
 have HS := Lib.hid h
 have Hmk := Lib.hid hmk
 have c0 := cat (i := 0) (v := .int .i64 2) HB0.out rfl
 have c1 := cat (i := 1) (v := .int .i64 mo) HB0.out rfl
 have c8 := cat (i := 8) (v := .slice la L.length lcap) HB0.out rfl
 exact qDRBo6) : p := h
theorem kbounds2a {lo hi : Nat} {w : World} {mo vx vy : Int} {m0 m1 m2 m3 : Int} {la : Option Addr} {lcap : Nat} {s0 s1 s2 s3 : Value} {L : List Int} {S : List (List Int)} (h : SqIn lo hi w (.slice la L.length lcap) [s0, s1, s2, s3] L S) (hmk : ∀ x ∈ [m0, m1, m2, m3], InK .i64 x) (h1 : mo < 0) : Calls Tryz.prog 59 #[.agg #[.int .i64 2, .int .i64 mo, .int .i64 m0, .int .i64 m1, .int .i64 m2, .int .i64 m3, .int .i64 vx, .int .i64 vy, .slice la L.length lcap, s0, s1, s2, s3]] w fun e w' => (e = .returned (.agg #[.int .i64 3, .slice none 0 0]) ∧ Only [] w w') := by
 exact qDRBo7
theorem kbounds2b {lo hi : Nat} {w : World} {mo vx vy : Int} {m0 m1 m2 m3 : Int} {la : Option Addr} {lcap : Nat} {s0 s1 s2 s3 : Value} {L : List Int} {S : List (List Int)} (h : SqIn lo hi w (.slice la L.length lcap) [s0, s1, s2, s3] L S) (hmk : ∀ x ∈ [m0, m1, m2, m3], InK .i64 x) (h0 : ¬ mo < 0) (h1 : 3 < mo) : Calls Tryz.prog 59 #[.agg #[.int .i64 2, .int .i64 mo, .int .i64 m0, .int .i64 m1, .int .i64 m2, .int .i64 m3, .int .i64 vx, .int .i64 vy, .slice la L.length lcap, s0, s1, s2, s3]] w fun e w' => (e = .returned (.agg #[.int .i64 3, .slice none 0 0]) ∧ Only [] w w') := by
 exact qDRBo7
theorem kbounds2 {lo hi : Nat} {w : World} {mo vx vy : Int} {m0 m1 m2 m3 : Int} {la : Option Addr} {lcap : Nat} {s0 s1 s2 s3 : Value} {L : List Int} {S : List (List Int)} (h : SqIn lo hi w (.slice la L.length lcap) [s0, s1, s2, s3] L S) (hmk : ∀ x ∈ [m0, m1, m2, m3], InK .i64 x) (h0 : ¬ mo < 0) (h1 : ¬ 3 < mo) {c : Int} (hc14 : L.length ≠ 64 → c = 14) (hc3 : L.length = 64 → levB L = false → c = 3) (hc0 : L.length = 64 → levB L = true → c = 0) : Calls Tryz.prog 59 #[.agg #[.int .i64 2, .int .i64 mo, .int .i64 m0, .int .i64 m1, .int .i64 m2, .int .i64 m3, .int .i64 vx, .int .i64 vy, .slice la L.length lcap, s0, s1, s2, s3]] w fun e w' => (e = .returned (.agg #[.int .i64 c, .slice none 0 0]) ∧ Only [] w w') := by
 refine hidQ fun Q HPost => ?_
 obtain ⟨hq1, HB0, HB1, HB2, Hz1⟩ := boxes3 w (.cells #[.int .i64 2, .int .i64 mo, .int .i64 m0, .int .i64 m1, .int .i64 m2, .int .i64 m3, .int .i64 vx, .int .i64 vy, .slice la L.length lcap, s0, s1, s2, s3] 70) (.cells #[.int .i64 0, .slice none 0 0] 45) (.cells #[.int .i64 vx, .int .i64 vy] 61)
 have HQ1 := Lib.hid hq1
 have HS := Lib.hid h
 have Hmk := Lib.hid hmk
 have c0 := cat (i := 0) (v := .int .i64 2) HB0.out rfl
 have c1 := cat (i := 1) (v := .int .i64 mo) HB0.out rfl
 have c8 := cat (i := 8) (v := .slice la L.length lcap) HB0.out rfl
 exact qDRBo5
theorem kbounds3 {lo hi : Nat} {w : World} {mo vx vy : Int} {m0 m1 m2 m3 : Int} {la : Option Addr} {lcap : Nat} {s0 s1 s2 s3 : Value} {L : List Int} {S : List (List Int)} (h : SqIn lo hi w (.slice la L.length lcap) [s0, s1, s2, s3] L S) (hmk : ∀ x ∈ [m0, m1, m2, m3], InK .i64 x) {c : Int} (hcm : withinB [m0, m1, m2, m3] 0 3 = false → c = 3) (hc14 : withinB [m0, m1, m2, m3] 0 3 = true → (∃ i, i < 4 ∧ (S.getD i []).length ≠ 16) → c = 14) (hc3 : withinB [m0, m1, m2, m3] 0 3 = true → (∀ i, i < 4 → (S.getD i []).length = 16) → (∃ i, i < 4 ∧ levB (S.getD i []) = false) → c = 3) (hc0 : withinB [m0, m1, m2, m3] 0 3 = true → (∀ i, i < 4 → (S.getD i []).length = 16) → (∀ i, i < 4 → levB (S.getD i []) = true) → c = 0) : Calls Tryz.prog 59 #[.agg #[.int .i64 3, .int .i64 mo, .int .i64 m0, .int .i64 m1, .int .i64 m2, .int .i64 m3, .int .i64 vx, .int .i64 vy, .slice la L.length lcap, s0, s1, s2, s3]] w fun e w' => (e = .returned (.agg #[.int .i64 c, .slice none 0 0]) ∧ Only [] w w') := by
 refine hidQ fun Q HPost => ?_
 obtain ⟨hq1, HB0, HB1, HB2, Hz1⟩ := boxes3 w (.cells #[.int .i64 3, .int .i64 mo, .int .i64 m0, .int .i64 m1, .int .i64 m2, .int .i64 m3, .int .i64 vx, .int .i64 vy, .slice la L.length lcap, s0, s1, s2, s3] 70) (.cells #[.int .i64 0, .slice none 0 0] 45) (.cells #[.int .i64 vx, .int .i64 vy] 61)
 have HQ1 := Lib.hid hq1
 have HS := Lib.hid h
 have Hmk := Lib.hid hmk
 have c0 := cat (i := 0) (v := .int .i64 3) HB0.out rfl
 have hIn : Ints .i64 0 (((w.alloc (.cells #[.int .i64 3, .int .i64 mo, .int .i64 m0, .int .i64 m1, .int .i64 m2, .int .i64 m3, .int .i64 vx, .int .i64 vy, .slice la L.length lcap, s0, s1, s2, s3] 70)).alloc (.cells #[.int .i64 0, .slice none 0 0] 45)).alloc (.cells #[.int .i64 vx, .int .i64 vy] 61)).heap.size (((w.alloc (.cells #[.int .i64 3, .int .i64 mo, .int .i64 m0, .int .i64 m1, .int .i64 m2, .int .i64 m3, .int .i64 vx, .int .i64 vy, .slice la L.length lcap, s0, s1, s2, s3] 70)).alloc (.cells #[.int .i64 0, .slice none 0 0] 45)).alloc (.cells #[.int .i64 vx, .int .i64 vy] 61)) (.slice (some ⟨w.heap.size, 2, none⟩) 4 4) [m0, m1, m2, m3] := ⟨⟨rfl, some ⟨w.heap.size, 2, none⟩, 4, rfl, Nat.le_refl _, by decide, fun _ => ⟨w.heap.size, 2, rfl, Nat.zero_le _, by have := Hz1.out; omega, fun j u hu => by
  rw [cell_of_row _ _ _ _ _ _ HB0.out]
  obtain ⟨hj, rfl⟩ := intsAt hu
  match j, hj with
  | 0, _ => rfl
  | 1, _ => rfl
  | 2, _ => rfl
  | 3, _ => rfl⟩⟩, hmk⟩
 have HWm := Lib.hid (within_any 0 3 hIn)
 have Hc14 := Lib.hid hc14
 have Hc3 := Lib.hid hc3
 have Hc0 := Lib.hid hc0
 have Hcm := Lib.hid hcm
 have HSm := Lib.hid (fun j (hj : j < 4) => h.small j hj)
 have HC9 : Hid (∀ j, j < 4 → (((w.alloc (.cells #[.int .i64 3, .int .i64 mo, .int .i64 m0, .int .i64 m1, .int .i64 m2, .int .i64 m3, .int .i64 vx, .int .i64 vy, .slice la L.length lcap, s0, s1, s2, s3] 70)).alloc (.cells #[.int .i64 0, .slice none 0 0] 45)).alloc (.cells #[.int .i64 vx, .int .i64 vy] 61)).cell? ⟨w.heap.size, 9 + j, none⟩ = some ([s0, s1, s2, s3].getD j nilS)) := Lib.hid (fun j hj => by
  rw [cell_of_row _ _ _ _ _ _ HB0.out]
  match j, hj with
  | 0, _ => rfl
  | 1, _ => rfl
  | 2, _ => rfl
  | 3, _ => rfl)
 clear hc14 hc3 hc0 hcm hIn
 clear hq1 h hmk
 go_enter Tryz.func59, Tryz.ntmps59
 go_wp2_with fail
 generalize hW1 : World.alloc (World.alloc (World.alloc w _) _) _ = W1 at *
 clear hW1
 have HQW1 := HQ1
 have HEW1 := HB1
 go_at_call 23
 refine HWm.out.mono ?_
 rintro e w' ⟨rfl, rfl⟩
 cases hm : withinB [m0, m1, m2, m3] 0 3 with
 | false =>
  obtain rfl := Hcm.out hm
  clear hm
  go_wp2_with fail
  exact qDRBo0
 | true =>
  have HM := Lib.hid hm
  clear hm
  go_wp2_with fail
  go_loopw [5] (fun i wr => ∃ j : Nat, j ≤ 4 ∧ i = .int .i64 j ∧ Hid (∀ i, i < j → (S.getD i []).length = 16) ∧ W1 = wr) (fun i _ => 4 - (intOf i).toNat)
  case atStart => exact ⟨0, by omega, rfl, Lib.hid (fun i hi => absurd hi (by omega)), rfl⟩
  case round =>
   obtain ⟨j, hj, rfl, HLn, rfl⟩ := hrel
   by_cases hlt : j < 4
   ·have hji : (j : Int) < 4 := by omega
    have hj0 : (0 : Int) ≤ (j : Int) := by omega
    obtain ⟨sa, sc, hsv, -⟩ := (HSm.out j hlt).open
    have c9 := HC9.out j hlt
    rw [hsv] at c9
    have hll : ((S.getD j []).length : Int) ≤ 9223372036854775807 := by have := (HSm.out j hlt).1.len_le; unfold maxLen at this; omega
    have Hlt := Lib.hid hlt
    obtain ⟨ln, hln⟩ : ∃ ln, (S.getD j []).length = ln := ⟨_, rfl⟩
    rw [hln] at c9 hll
    by_cases h16 : ln = 16
    ·have hb : ((ln : Int) != 16) = false := by rw [bne_eq_false_iff_eq]; omega
     have H16 := Lib.hid (hln.trans h16)
     clear h16 hsv hlt hln
     go_wp2_with fail
     exact ⟨⟨j + 1, by have := Hlt.out; omega, by go_num, Lib.hid (lt_next HLn.out H16.out), trivial⟩, by simp [intOf]; have := Hlt.out; omega⟩
    ·have hb : ((ln : Int) == 16) = false := by rw [beq_eq_false_iff_ne]; omega
     obtain rfl := Hc14.out HM.out ⟨j, hlt, by rw [hln]; exact h16⟩
     clear h16 hsv hlt hln
     go_wp2_with fail
     exact qDRBo2
   ·obtain rfl : j = 4 := by omega
    have hji : ¬ ((4 : Nat) : Int) < 4 := by omega
    clear hlt
    go_wp2_with fail
    go_loopw [6] (fun i wr => ∃ j : Nat, j ≤ 4 ∧ i = .int .i64 j ∧ Hid (∀ i, i < j → levB (S.getD i []) = true) ∧ W1 = wr) (fun i _ => 4 - (intOf i).toNat)
    case atStart => exact ⟨0, by omega, rfl, Lib.hid (fun i hi => absurd hi (by omega)), rfl⟩
    case round =>
     obtain ⟨j, hj, rfl, HLv, rfl⟩ := hrel
     by_cases hlt : j < 4
     ·have hji : (j : Int) < 4 := by omega
      have hj0 : (0 : Int) ≤ (j : Int) := by omega
      obtain ⟨sa, sc, hsv, -⟩ := (HSm.out j hlt).open
      have c9 := HC9.out j hlt
      rw [hsv] at c9
      have HWj := Lib.hid (within_any (-16320) 16320 ((HSm.out j hlt).quiet HQ1.out))
      rw [hsv] at HWj
      have hwl : withinB (S.getD j []) (-16320) 16320 = levB (S.getD j []) := rfl
      rw [hwl] at HWj
      have Hlt := Lib.hid hlt
      obtain ⟨ln, hln⟩ : ∃ ln, (S.getD j []).length = ln := ⟨_, rfl⟩
      rw [hln] at HWj c9
      clear hsv hwl hlt hln
      cases hv : levB (S.getD j []) with
      | false =>
       obtain rfl := Hc3.out HM.out HLn.out ⟨j, Hlt.out, hv⟩
       rw [hv] at HWj
       clear hv
       go_wp2_with fail
       go_at_call 23
       refine HWj.out.mono ?_
       rintro e w' ⟨rfl, rfl⟩
       go_wp2_with fail
       exact qDRBo0
      | true =>
       rw [hv] at HWj
       have Hv := Lib.hid hv
       clear hv
       go_wp2_with fail
       go_at_call 23
       refine HWj.out.mono ?_
       rintro e w' ⟨rfl, rfl⟩
       go_wp2_with fail
       exact ⟨⟨j + 1, by have := Hlt.out; omega, by go_num, Lib.hid (lt_next HLv.out Hv.out), trivial⟩, by simp [intOf]; have := Hlt.out; omega⟩
     ·obtain rfl : j = 4 := by omega
      have hji : ¬ ((4 : Nat) : Int) < 4 := by omega
      obtain rfl := Hc0.out HM.out HLn.out HLv.out
      clear hlt
      exact qDRBo1
def codeC : Option Int → Int
 | none => 0
 | some c => c
theorem nchk_eq {l : List Int} (h : l.length = 16 ∨ l.length = 64) : nchkB l = !levB l := by
 unfold nchkB checkL
 rw [if_neg (by omega)]
 cases levB l <;> rfl
theorem parts_large {n : Int} {L : List Int} (hn : n = 64) : (L.length ≠ 64 → codeC (partsC true n [L]) = 14) ∧ (L.length = 64 → levB L = false → codeC (partsC true n [L]) = 3) ∧ (L.length = 64 → levB L = true → codeC (partsC true n [L]) = 0) := by
 subst hn
 refine ⟨fun h => ?_, fun h g => ?_, fun h g => ?_⟩
 ·have : nlenB 64 L = true := by simp only [nlenB, bne_iff_ne]; omega
  simp [partsC, this, codeC]
 ·have : nlenB 64 L = false := by simp only [nlenB, bne_eq_false_iff_eq]; omega
  simp [partsC, this, nchk_eq (.inr h), g, codeC]
 ·have : nlenB 64 L = false := by simp only [nlenB, bne_eq_false_iff_eq]; omega
  simp [partsC, this, nchk_eq (.inr h), g, codeC]
theorem qDRBo3 {p : Prop} (h : p := by
 rw [List.any_eq_false]
 intro z hz
 simp only [List.mem_cons, List.not_mem_nil, or_false] at hz
 rcases hz with rfl | rfl | rfl | rfl <;> simp only [nlenB, bne_iff_ne, ne_eq, Classical.not_not]
 ·have := hl 0 (by omega); omega
 ·have := hl 1 (by omega); omega
 ·have := hl 2 (by omega); omega
 ·have := hl 3 (by omega); omega) : p := h
theorem kbounds_any {lo hi : Nat} {w : World} {k mo vx vy : Int} {ms : List Int} {lv : Value} {vs : List Value} {L : List Int} {S : List (List Int)} (hm : ms.length = 4) (h : SqIn lo hi w lv vs L S) (hmk : ∀ x ∈ ms, InK .i64 x) (hk : 0 ≤ k ∧ k ≤ 3) :
  Calls Tryz.prog 59 #[.agg (sqL k mo ms vx vy lv vs).toArray] w fun e w' => e = .returned (.agg #[.int .i64 (codeC (partsC (formD k mo ms vx vy) (wideD k) (listsD k L S))), .slice none 0 0]) ∧ Only [] w w' := by
 obtain ⟨m0, m1, m2, m3, rfl⟩ := len4 hm
 obtain ⟨s0, s1, s2, s3, rfl⟩ := len4 h.len
 obtain ⟨la, lcap, rfl, -⟩ := h.large.open
 rcases (by omega : k = 0 ∨ k = 1 ∨ k = 2 ∨ k = 3) with rfl | rfl | rfl | rfl
 ·have e : codeC (partsC (formD 0 mo [m0, m1, m2, m3] vx vy) (wideD 0) (listsD 0 L S)) = 0 := by simp [codeC, partsC, formD, listsD]
  rw [e]
  exact kbounds0 h hmk
 ·have e : formD 1 mo [m0, m1, m2, m3] vx vy = (vpartB vx && vpartB vy) := by simp [formD]
  have e2 : listsD 1 L S = [L] := by simp [listsD]
  rw [e, e2]
  have bad : (vpartB vx && vpartB vy) = false → codeC (partsC (vpartB vx && vpartB vy) (wideD 1) [L]) = 3 := fun hb => by rw [hb]; simp [partsC, codeC]
  by_cases h0 : vx < -15
  ·rw [bad (by simp [vpartB]; omega)]; exact kbounds1a h hmk h0
  ·by_cases h1 : 15 < vx
   ·rw [bad (by simp [vpartB]; omega)]; exact kbounds1b h hmk h0 h1
   ·by_cases h2 : vy < -15
    ·rw [bad (by simp [vpartB]; omega)]; exact kbounds1c h hmk h0 h1 h2
    ·by_cases h3 : 15 < vy
     ·rw [bad (by simp [vpartB]; omega)]; exact kbounds1d h hmk h0 h1 h2 h3
     ·rw [show (vpartB vx && vpartB vy) = true by simp [vpartB]; omega]
      obtain ⟨a, b, c⟩ := parts_large (n := wideD 1) (L := L) (by simp [wideD])
      exact kbounds1 h hmk h0 h1 h2 h3 a b c
 ·have e : formD 2 mo [m0, m1, m2, m3] vx vy = decide (0 ≤ mo ∧ mo ≤ 3) := by simp [formD]
  have e2 : listsD 2 L S = [L] := by simp [listsD]
  rw [e, e2]
  by_cases h0 : mo < 0
  ·rw [show codeC (partsC (decide (0 ≤ mo ∧ mo ≤ 3)) (wideD 2) [L]) = 3 by rw [decide_eq_false (by omega)]; simp [partsC, codeC]]; exact kbounds2a h hmk h0
  ·by_cases h1 : 3 < mo
   ·rw [show codeC (partsC (decide (0 ≤ mo ∧ mo ≤ 3)) (wideD 2) [L]) = 3 by rw [decide_eq_false (by omega)]; simp [partsC, codeC]]; exact kbounds2b h hmk h0 h1
   ·rw [decide_eq_true (by omega)]
    obtain ⟨a, b, c⟩ := parts_large (n := wideD 2) (L := L) (by simp [wideD])
    exact kbounds2 h hmk h0 h1 a b c
 ·have e : formD 3 mo [m0, m1, m2, m3] vx vy = !([m0, m1, m2, m3].any nmodeB) := by simp [formD]
  have e2 : listsD 3 L S = [S.getD 0 [], S.getD 1 [], S.getD 2 [], S.getD 3 []] := by simp [listsD]
  have e3 : wideD 3 = 16 := by simp [wideD]
  have e4 : withinB [m0, m1, m2, m3] 0 3 = !([m0, m1, m2, m3].any nmodeB) := by
   rw [Bool.eq_iff_iff]
   simp [withinB, nmodeB]
   try omega
  rw [e, ← e4, e2, e3]
  refine kbounds3 h hmk (fun hw => ?_) (fun hw hx => ?_) (fun hw hl hx => ?_) (fun hw hl hx => ?_)
  ·rw [hw]; simp [partsC, codeC]
  ·rw [hw]
   obtain ⟨i, hi, hne⟩ := hx
   have : [S.getD 0 [], S.getD 1 [], S.getD 2 [], S.getD 3 []].any (nlenB 16) = true := by
    rw [List.any_eq_true]
    refine ⟨S.getD i [], ?_, by simp only [nlenB, bne_iff_ne]; omega⟩
    rcases (by omega : i = 0 ∨ i = 1 ∨ i = 2 ∨ i = 3) with rfl | rfl | rfl | rfl <;> simp
   unfold partsC
   rw [if_neg (by simp), if_pos this]
   rfl
  ·rw [hw]
   have hl0 : [S.getD 0 [], S.getD 1 [], S.getD 2 [], S.getD 3 []].any (nlenB 16) = false := by
    exact qDRBo3
   obtain ⟨i, hi, hv⟩ := hx
   have : [S.getD 0 [], S.getD 1 [], S.getD 2 [], S.getD 3 []].any nchkB = true := by
    rw [List.any_eq_true]
    refine ⟨S.getD i [], ?_, by rw [nchk_eq (.inl (hl i hi)), hv]; rfl⟩
    rcases (by omega : i = 0 ∨ i = 1 ∨ i = 2 ∨ i = 3) with rfl | rfl | rfl | rfl <;> simp
   unfold partsC
   rw [if_neg (by simp), if_neg (by rw [hl0]; simp), if_pos this]
   rfl
  ·rw [hw]
   have hl0 : [S.getD 0 [], S.getD 1 [], S.getD 2 [], S.getD 3 []].any (nlenB 16) = false := by
    exact qDRBo3
   have hv0 : [S.getD 0 [], S.getD 1 [], S.getD 2 [], S.getD 3 []].any nchkB = false := by
    rw [List.any_eq_false]
    intro z hz
    simp only [List.mem_cons, List.not_mem_nil, or_false] at hz
    rcases hz with rfl | rfl | rfl | rfl
    ·rw [nchk_eq (.inl (hl 0 (by omega))), hx 0 (by omega)]; simp
    ·rw [nchk_eq (.inl (hl 1 (by omega))), hx 1 (by omega)]; simp
    ·rw [nchk_eq (.inl (hl 2 (by omega))), hx 2 (by omega)]; simp
    ·rw [nchk_eq (.inl (hl 3 (by omega))), hx 3 (by omega)]; simp
   unfold partsC
   rw [if_neg (by simp), if_neg (by rw [hl0]; simp), if_neg (by rw [hv0]; simp)]
   rfl
end
end Go.Proofs.YthgpgbdkcdmbpaaGreatDoor
