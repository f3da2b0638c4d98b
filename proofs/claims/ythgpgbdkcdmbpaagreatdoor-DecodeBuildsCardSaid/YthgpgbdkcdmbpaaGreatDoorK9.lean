/- Joined texts: DWeigh, DLists. Conditions: each part names its own. -/
import Derived.Test.YthgpgbdkcdmbpaaGreatDoorK6
import Derived.Test.YthgpgbdkcdmbpaaGreatDoorK2
import Derived.Deep.DeepCutAuto
namespace Go.Proofs.YthgpgbdkcdmbpaaGreatDoor
open Go.RowKit
set_option linter.unusedVariables false
set_option linter.unusedSimpArgs false
/-- what the first k of the small levels weigh -/
def wsum (S : List (List Int)) : Nat → Nat
 | 0 => 0
 | k + 1 => wsum S k + min (S.getD k []).length 20001
/-- what a square weighs -/
def weighD (L : List Int) (S : List (List Int)) : Nat := min L.length 20001 + wsum S 4
theorem wsum_le (S : List (List Int)) : ∀ k, wsum S k ≤ k * 20001
 | 0 => Nat.le_refl _
 | k + 1 => by have := wsum_le S k; simp only [wsum]; omega
set_option maxRecDepth 100000 in
set_option maxHeartbeats 4000000 in
theorem weighs_any {lo hi : Nat} {w : World} {k mo : Int} {ms : List Int} {vx vy : Int} {lv : Value} {vs : List Value} {L : List Int} {S : List (List Int)} (hm : ms.length = 4) (h : SqIn lo hi w lv vs L S) :
  Calls Tryz.prog 25 #[.agg (sqL k mo ms vx vy lv vs).toArray] w fun e w' => e = .returned (.int .i64 ((weighD L S : Nat) : Int)) ∧ Only [] w w' := by
 refine hidQ fun Q HPost => ?_
 have HC : Hid ((sqL k mo ms vx vy lv vs).toArray[8]? = some lv ∧ (∀ i, i < 4 → (sqL k mo ms vx vy lv vs).toArray[9 + i]? = some (vs.getD i nilS)) ∧ (sqL k mo ms vx vy lv vs).toArray.size = 13) :=
  Lib.hid ⟨sqL_large hm, fun i hi => sqL_small hm h.len hi, by simpa using sqL_size hm h.len⟩
 generalize (sqL k mo ms vx vy lv vs).toArray = sa at *
 obtain ⟨la, lcap, rfl, hlc, hlmax, -⟩ := h.large.open
 have hll : (L.length : Int) ≤ 9223372036854775807 := by unfold maxLen at hlmax; omega
 have HS : Hid (∀ i, i < 4 → ∃ a cap, vs.getD i nilS = .slice a (S.getD i []).length cap ∧ ((S.getD i []).length : Int) ≤ 9223372036854775807) := Lib.hid (fun i hi => by
  obtain ⟨a, cap, e, hlc, hmax, -⟩ := (h.small i hi).open
  exact ⟨a, cap, e, by unfold maxLen at hmax; omega⟩)
 have HQ1 := Lib.hid (Only.new w (.cells sa 64))
 have hB := heap_alloc_new w (.cells sa 64)
 have HB := Lib.hid hB
 have c8 : (w.alloc (.cells sa 64)).cell? ⟨w.heap.size, 8, none⟩ = some (.slice la L.length lcap) := by rw [cell_of_row _ _ _ _ _ _ hB]; exact HC.out.1
 have Hc8 := Lib.hid c8
 clear hB h hm hlmax hlc c8
 go_enter Tryz.func25, Tryz.ntmps25
 go_upto_region 1 with (fail)
 generalize hW1 : World.alloc w _ = W1 at *
 clear hW1
 go_cut [3] (fun s3 wx => s3 = .int .i64 ((min L.length 20001 : Nat) : Int) ∧ W1 = wx)
 case first =>
  have c8 := Hc8.out
  by_cases hl : L.length ≤ 20001
  ·have hli : (L.length : Int) ≤ 20001 := by omega
   go_wp2_with fail
   go_meet
   exact ⟨by rw [Nat.min_eq_left hl], rfl⟩
  ·have hli : ¬ (L.length : Int) ≤ 20001 := by omega
   go_wp2_with fail
   go_meet
   exact ⟨by rw [Nat.min_eq_right (by omega)]; rfl, rfl⟩
 case rest =>
  obtain ⟨rfl, rfl⟩ := hcut
  have HM : Hid (min L.length 20001 ≤ 20001) := Lib.hid (Nat.min_le_right _ _)
  have HW : Hid (weighD L S = min L.length 20001 + wsum S 4) := Lib.hid rfl
  generalize min L.length 20001 = m at *
  go_wp2_with fail
  go_loopw [3, 4] (fun s i wr => ∃ (k : Nat), k ≤ 4 ∧ i = .int .i64 k ∧ s = .int .i64 ((m + wsum S k : Nat) : Int) ∧ W1 = wr) (fun _ i _ => 4 - (intOf i).toNat)
  case atStart => exact ⟨0, by omega, rfl, rfl, rfl⟩
  case round =>
   obtain ⟨k, hk, rfl, rfl, rfl⟩ := hrel
   by_cases hlt : k < 4
   ·obtain ⟨a, cap, e, hmx⟩ := HS.out k hlt
    have hci : W1.cell? ⟨w.heap.size, 9 + k, none⟩ = some (.slice a (S.getD k []).length cap) := by
     rw [cell_of_row _ _ _ _ _ _ HB.out, ← e]
     exact HC.out.2.1 k hlt
    have hki : (k : Int) < 4 := by omega
    have hk0 : (0 : Int) ≤ (k : Int) := by omega
    have Hs : Hid (wsum S (k + 1) = wsum S k + min (S.getD k []).length 20001) := Lib.hid rfl
    have Hle := Lib.hid (wsum_le S k)
    generalize (S.getD k []).length = n at *
    generalize hs0 : wsum S k = s0 at *
    clear e
    by_cases hl : n ≤ 20001
    ·have hli : (n : Int) ≤ 20001 := by omega
     have hw : wrap64 ((m : Int) + (s0 : Int) + (n : Int)) = ((m + (s0 + n) : Nat) : Int) := by have := HM.out; have := Hle.out; unfold wrap64; omega
     go_wp2_with fail
     exact ⟨⟨k + 1, by omega, by go_num, by rw [Hs.out, Nat.min_eq_left hl]; first | rfl | exact congrArg _ hw, trivial⟩, by simp [intOf]; omega⟩
    ·have hli : ¬ (n : Int) ≤ 20001 := by omega
     have hw : wrap64 ((m : Int) + (s0 : Int) + 20001) = ((m + (s0 + 20001) : Nat) : Int) := by have := HM.out; have := Hle.out; unfold wrap64; omega
     go_wp2_with fail
     exact ⟨⟨k + 1, by omega, by go_num, by rw [Hs.out, Nat.min_eq_right (by omega)]; first | rfl | exact congrArg _ hw, trivial⟩, by simp [intOf]; omega⟩
   ·obtain rfl : k = 4 := by omega
    go_wp2_with fail
    exact HPost.out _ _ ⟨by rw [HW.out]; rfl, HQ1.out⟩
/-- a row of lists in memory -/
def ListsAt (lo hi : Nat) (w : World) (v : Value) (ls : List (List Int)) : Prop :=
 ∃ a cap, v = .slice a ls.length cap ∧ ∀ i, i < ls.length → ∃ b off u, a = some ⟨b, off, none⟩ ∧ w.cell? ⟨b, off + i, none⟩ = some u ∧ Ints .i64 lo hi w u (ls.getD i [])
theorem ListsAt.quiet {lo hi : Nat} {w w' : World} {v : Value} {ls : List (List Int)} (h : ListsAt lo hi w v ls) (o : Only [] w w') : ListsAt lo hi w' v ls := by
 obtain ⟨a, cap, e, h⟩ := h
 refine ⟨a, cap, e, fun i hi => ?_⟩
 obtain ⟨b, off, u, e1, c, h⟩ := h i hi
 exact ⟨b, off, u, e1, o.cell c (by simp), h.quiet o⟩
theorem anyL_drop {f : List Int → Bool} {l : List (List Int)} {k : Nat} (h : k < l.length) : (l.drop k).any f = (f (l.getD k []) || (l.drop (k + 1)).any f) := by
 rw [List.drop_eq_getElem_cons h, List.any_cons]
 congr 2
 simp [h]
/-- a prediction's name is none -/
def nmodeB (x : Int) : Bool := decide (x < 0) || decide (3 < x)
theorem parts1_any (x : Int) (w : World) : Calls Tryz.prog 95 #[.int .i64 x] w fun e w' => e = .returned (.bool (nmodeB x)) ∧ w = w' := by
 by_cases h : x < 0
 ·have hb : nmodeB x = true := by simp [nmodeB, h]
  rw [hb]
  go_enter Tryz.func95, Tryz.ntmps95
  go_wp2
  go_ret
  exact ⟨rfl, rfl⟩
 ·have hb : nmodeB x = decide (3 < x) := by simp [nmodeB, h]
  rw [hb]
  go_enter Tryz.func95, Tryz.ntmps95
  go_wp2
  go_ret
  exact ⟨rfl, rfl⟩
/-- a list's length is another -/
def nlenB (n : Int) (l : List Int) : Bool := (l.length : Int) != n
theorem parts2_any {lo hi : Nat} {u : Value} {l : List Int} {n : Int} {G : Nat} {w : World} (h : Ints .i64 lo hi w u l) (hm : w.cell? ⟨G, 0, none⟩ = some (.int .i64 n)) :
  Calls Tryz.prog 97 #[u, .pointer (some ⟨G, 0, none⟩)] w fun e w' => e = .returned (.bool (nlenB n l)) ∧ Only [] w w' := by
 obtain ⟨a, cap, rfl, _⟩ := h.open
 have Hb : Hid (nlenB n l = ((l.length : Int) != n)) := Lib.hid rfl
 clear h
 generalize l.length = m at *
 go_enter Tryz.func97, Tryz.ntmps97
 go_wp2_with fail
 go_ret
 exact ⟨ret_bool (by rw [Hb.out]), Only.refl _ _⟩
/-- a list that coef.Check refuses -/
def nchkB (l : List Int) : Bool := (checkL l).isSome
theorem parts3_any {lo hi : Nat} {u : Value} {l : List Int} {w : World} (h : Ints .i64 lo hi w u l) (hl : l.length ≤ 1000000000) :
  Calls Tryz.prog 98 #[u] w fun e w' => e = .returned (.bool (nchkB l)) ∧ Only [] w w' := by
 have H := Lib.hid (coefCheck_any h hl)
 obtain ⟨a, cap, rfl, _⟩ := h.open
 have Hb : Hid (nchkB l = (checkL l).isSome) := Lib.hid rfl
 clear h hl
 generalize checkL l = c at *
 go_enter Tryz.func98, Tryz.ntmps98
 go_wp2_with fail
 go_at_call 99
 refine H.out.mono ?_
 rintro e w1 ⟨⟨u, rfl, hu⟩, hq1⟩
 cases c with
 | none =>
  obtain rfl := hu
  go_wp2_with fail
  go_ret
  exact ⟨ret_bool (by rw [Hb.out]; rfl), hq1⟩
 | some k =>
  obtain rfl := hu
  go_wp2_with fail
  go_ret
  exact ⟨ret_bool (by rw [Hb.out]; rfl), hq1⟩
set_option maxRecDepth 100000 in
set_option maxHeartbeats 1000000 in
theorem indexM_any {lo hi : Nat} {v : Value} {l : List Int} {w : World} (h : Ints .i64 lo hi w v l) (hl : l.length ≤ 1000000000) :
  Calls Tryz.prog 113 #[v, .func (.func 95) #[] #[]] w fun e w' => (∃ i : Int, e = .returned (.int .i64 i) ∧ (0 ≤ i ↔ l.any nmodeB = true) ∧ -1 ≤ i ∧ i ≤ 1000000000) ∧ Only [] w w' := by
 obtain ⟨a, cap, rfl, hcap, hmax, hat, hcell⟩ := h.open
 have Hat := Lib.hid hat
 have Hcell := Lib.hid hcell
 have HF := Lib.hid (fun (x : Int) (wx : World) => parts1_any x wx)
 have Hl := Lib.hid hl
 have hll : (l.length : Int) ≤ 9223372036854775807 := by omega
 clear h hat hcell hmax hcap hl
 generalize hg : nmodeB = g at *
 clear hg
 go_enter Tryz.func113, Tryz.ntmps113
 go_wp2_with fail
 go_loopw [8] (fun i wr => ∃ k : Nat, k ≤ l.length ∧ i = .int .i64 k ∧ Hid ((l.drop k).any g = l.any g) ∧ Only [] w wr) (fun i _ => l.length - (intOf i).toNat)
 case atStart => exact ⟨0, by omega, rfl, Lib.hid rfl, Only.refl _ _⟩
 case round =>
  obtain ⟨k, hk, rfl, Hk, hq⟩ := hrel
  by_cases hlt : k < l.length
  ·obtain ⟨b, off, rfl, _, _⟩ := Hat.out k hlt
   have c0 := hq.cell (Hcell.out b off rfl k hlt) (by simp)
   have hx : (0 : Int) ≤ (k : Int) := by omega
   have hx1 : (k : Int) < (l.length : Int) := by omega
   have Hdrop := Lib.hid (anyI_drop (f := g) hlt)
   generalize l.getD k 0 = x at *
   cases hxx : g x with
   | true =>
    have Hx := Lib.hid hxx
    clear hxx
    go_wp2_with fail
    go_at_call 95
    refine (HF.out _ _).mono ?_
    rintro e w2 ⟨rfl, rfl⟩
    rw [Hx.out]
    go_wp2_with fail
    go_ret
    refine ⟨⟨k, rfl, ?_, by omega, by have := Hl.out; omega⟩, hq⟩
    rw [← Hk.out, Hdrop.out, Hx.out]
    simp
   | false =>
    have Hx := Lib.hid hxx
    clear hxx
    go_wp2_with fail
    go_at_call 95
    refine (HF.out _ _).mono ?_
    rintro e w2 ⟨rfl, rfl⟩
    rw [Hx.out]
    have hfin : Hid ((l.drop (k + 1)).any g = l.any g) := Lib.hid (by rw [← Hk.out, Hdrop.out, Hx.out]; rfl)
    go_wp2_with fail
    exact ⟨⟨k + 1, by omega, by go_num, hfin, hq⟩, by simp [intOf]; omega⟩
  ·obtain rfl : k = l.length := by omega
   have hx : ¬ (l.length : Int) < (l.length : Int) := by omega
   have Hz : Hid (l.any g = false) := Lib.hid (by rw [← Hk.out, List.drop_length]; rfl)
   go_wp2_with fail
   go_ret
   refine ⟨⟨-1, rfl, ?_, by omega, by omega⟩, hq⟩
   first | rw [Hz.out] | rw [← List.any_eq_true, Hz.out]
   simp
theorem containsM_any {lo hi : Nat} {v : Value} {l : List Int} {w : World} (h : Ints .i64 lo hi w v l) (hl : l.length ≤ 1000000000) :
  Calls Tryz.prog 75 #[v, .func (.func 95) #[] #[]] w fun e w' => e = .returned (.bool (l.any nmodeB)) ∧ Only [] w w' := by
 have H := Lib.hid (indexM_any h hl)
 clear h hl
 generalize l.any nmodeB = B at *
 go_enter Tryz.func75, Tryz.ntmps75
 go_wp2_with (first | (go_at_call 113; refine H.out.mono ?_; rintro e w1 ⟨⟨i, rfl, hi1, hi2, hi3⟩, hq1⟩) | fail)
 go_ret
 exact ⟨ret_bool (by rw [Bool.eq_iff_iff, ← hi1]; try simp), hq1⟩
theorem qDLists0 {p : Prop} (h : p := by
 obtain rfl : k = l.length := by omega
 have hx : ¬ (l.length : Int) < (l.length : Int) := by omega
 have Hz : Hid (l.any g = false) := Lib.hid (by rw [← Hk.out, List.drop_length]; rfl)
 go_wp2_with fail
 exact HPost.out _ _ ⟨⟨-1, rfl, by rw [Hz.out]; simp, by omega, by omega⟩, HQk.out⟩) : p := h
theorem qDLists1 {p : Prop} (h : p := by
 refine Hu.out.mono ?_
 rintro e w2 ⟨rfl, hq2⟩
 have HQ2 := Lib.hid (HQk.out.q hq2)
 clear hq2
 go_wp2_with fail
 exact HPost.out _ _ ⟨⟨k, rfl, by rw [← Hk.out, Hdrop.out]; simp, by omega, by have := Hl.out; omega⟩, HQ2.out⟩) : p := h
theorem qDLists3 {p : Prop} (h : p := by
 refine Hu.out.mono ?_
 rintro e w2 ⟨rfl, hq2⟩
 have HQ2 := Lib.hid (HQk.out.q hq2)
 clear hq2
 go_wp2_with fail
 exact ⟨⟨k + 1, by omega, by go_num, hfin, HQ2⟩, by simp [intOf]; omega⟩) : p := h
set_option maxRecDepth 100000 in
set_option maxHeartbeats 1000000 in
theorem indexN_any {lo hi : Nat} {v : Value} {l : List (List Int)} {w : World} (n : Int) {G : Nat} (h : ListsAt lo hi w v l) (hl : l.length ≤ 1000000000) (hm : w.cell? ⟨G, 0, none⟩ = some (.int .i64 n)) :
  Calls Tryz.prog 138 #[v, .func (.func 97) #[] #[.pointer (some ⟨G, 0, none⟩)]] w fun e w' => (∃ i : Int, e = .returned (.int .i64 i) ∧ (0 ≤ i ↔ l.any (nlenB n) = true) ∧ -1 ≤ i ∧ i ≤ 1000000000) ∧ Only [] w w' := by
 refine hidQ fun Q HPost => ?_
 obtain ⟨a, cap, rfl, hat⟩ := h
 have Hat := Lib.hid hat
 have HF := Lib.hid (fun (k : Nat) (u : Value) (wx : World) (o : Only [] w wx) (hk : k < l.length) (hu : Ints .i64 lo hi wx u (l.getD k [])) => parts2_any hu (o.cell hm (by simp)))
 have Hl := Lib.hid hl
 have hll : (l.length : Int) ≤ 9223372036854775807 := by omega
 clear hat hl hm
 generalize hg : (nlenB n) = g at *
 clear hg
 go_enter Tryz.func138, Tryz.ntmps138
 go_wp2_with fail
 go_loopw [8] (fun i wr => ∃ k : Nat, k ≤ l.length ∧ i = .int .i64 k ∧ Hid ((l.drop k).any g = l.any g) ∧ Hid (Only [] w wr)) (fun i _ => l.length - (intOf i).toNat)
 case atStart => exact ⟨0, by omega, rfl, Lib.hid rfl, Lib.hid (Only.refl _ _)⟩
 case round =>
  obtain ⟨k, hk, rfl, Hk, HQk⟩ := hrel
  by_cases hlt : k < l.length
  ·obtain ⟨b, off, u, rfl, hc, hu⟩ := Hat.out k hlt
   have c0 := HQk.out.cell hc (by simp)
   have hx : (0 : Int) ≤ (k : Int) := by omega
   have hx1 : (k : Int) < (l.length : Int) := by omega
   have Hdrop := Lib.hid (anyL_drop (f := g) hlt)
   have Hu := Lib.hid (HF.out k u wr HQk.out hlt (hu.quiet HQk.out))
   obtain ⟨ua, ucap, rfl, -⟩ := hu.open
   clear hc hu
   generalize (l.getD k []).length = m at *
   generalize g (l.getD k []) = gb at *
   cases gb with
   | true =>
    go_wp2_with fail
    go_at_call 97
    exact qDLists1
   | false =>
    have hfin : Hid ((l.drop (k + 1)).any g = l.any g) := Lib.hid (by rw [← Hk.out, Hdrop.out]; rfl)
    go_wp2_with fail
    go_at_call 97
    exact qDLists3
  ·exact qDLists0
theorem qDLists2 {p : Prop} (h : p := by
 go_enter Tryz.func96, Tryz.ntmps96
 go_wp2_with (first | (go_at_call 138; refine H.out.mono ?_; rintro e w1 ⟨⟨i, rfl, hi1, hi2, hi3⟩, hq1⟩) | fail)
 go_ret
 exact ⟨ret_bool (by rw [Bool.eq_iff_iff, ← hi1]; try simp), hq1⟩) : p := h
theorem containsN_any {lo hi : Nat} {v : Value} {l : List (List Int)} {w : World} (n : Int) {G : Nat} (h : ListsAt lo hi w v l) (hl : l.length ≤ 1000000000) (hm : w.cell? ⟨G, 0, none⟩ = some (.int .i64 n)) :
  Calls Tryz.prog 96 #[v, .func (.func 97) #[] #[.pointer (some ⟨G, 0, none⟩)]] w fun e w' => e = .returned (.bool (l.any (nlenB n))) ∧ Only [] w w' := by
 have H := Lib.hid (indexN_any n h hl hm)
 obtain ⟨a, cap, rfl, -⟩ := h
 clear hl
 generalize l.any (nlenB n) = B at *
 exact qDLists2
set_option maxRecDepth 100000 in
set_option maxHeartbeats 1000000 in
theorem indexC_any {lo hi : Nat} {v : Value} {l : List (List Int)} {w : World} (h : ListsAt lo hi w v l) (hl : l.length ≤ 1000000000) (hs : ∀ k, k < l.length → (l.getD k []).length ≤ 1000000000) :
  Calls Tryz.prog 138 #[v, .func (.func 98) #[] #[]] w fun e w' => (∃ i : Int, e = .returned (.int .i64 i) ∧ (0 ≤ i ↔ l.any nchkB = true) ∧ -1 ≤ i ∧ i ≤ 1000000000) ∧ Only [] w w' := by
 refine hidQ fun Q HPost => ?_
 obtain ⟨a, cap, rfl, hat⟩ := h
 have Hat := Lib.hid hat
 have HF := Lib.hid (fun (k : Nat) (u : Value) (wx : World) (o : Only [] w wx) (hk : k < l.length) (hu : Ints .i64 lo hi wx u (l.getD k [])) => parts3_any hu (hs k hk))
 have Hl := Lib.hid hl
 have hll : (l.length : Int) ≤ 9223372036854775807 := by omega
 clear hat hl hs
 generalize hg : nchkB = g at *
 clear hg
 go_enter Tryz.func138, Tryz.ntmps138
 go_wp2_with fail
 go_loopw [8] (fun i wr => ∃ k : Nat, k ≤ l.length ∧ i = .int .i64 k ∧ Hid ((l.drop k).any g = l.any g) ∧ Hid (Only [] w wr)) (fun i _ => l.length - (intOf i).toNat)
 case atStart => exact ⟨0, by omega, rfl, Lib.hid rfl, Lib.hid (Only.refl _ _)⟩
 case round =>
  obtain ⟨k, hk, rfl, Hk, HQk⟩ := hrel
  by_cases hlt : k < l.length
  ·obtain ⟨b, off, u, rfl, hc, hu⟩ := Hat.out k hlt
   have c0 := HQk.out.cell hc (by simp)
   have hx : (0 : Int) ≤ (k : Int) := by omega
   have hx1 : (k : Int) < (l.length : Int) := by omega
   have Hdrop := Lib.hid (anyL_drop (f := g) hlt)
   have Hu := Lib.hid (HF.out k u wr HQk.out hlt (hu.quiet HQk.out))
   obtain ⟨ua, ucap, rfl, -⟩ := hu.open
   clear hc hu
   generalize (l.getD k []).length = m at *
   generalize g (l.getD k []) = gb at *
   cases gb with
   | true =>
    go_wp2_with fail
    go_at_call 98
    exact qDLists1
   | false =>
    have hfin : Hid ((l.drop (k + 1)).any g = l.any g) := Lib.hid (by rw [← Hk.out, Hdrop.out]; rfl)
    go_wp2_with fail
    go_at_call 98
    exact qDLists3
  ·exact qDLists0
theorem containsC_any {lo hi : Nat} {v : Value} {l : List (List Int)} {w : World} (h : ListsAt lo hi w v l) (hl : l.length ≤ 1000000000) (hs : ∀ k, k < l.length → (l.getD k []).length ≤ 1000000000) :
  Calls Tryz.prog 96 #[v, .func (.func 98) #[] #[]] w fun e w' => e = .returned (.bool (l.any nchkB)) ∧ Only [] w w' := by
 have H := Lib.hid (indexC_any h hl hs)
 obtain ⟨a, cap, rfl, -⟩ := h
 clear hl
 generalize l.any nchkB = B at *
 exact qDLists2
end Go.Proofs.YthgpgbdkcdmbpaaGreatDoor
