/- Joined texts: Err, Vbv, Fills, Play, Cmp, Gop. Conditions: each part names its own. -/
import Derived.Test.YtmbjehnddgcboaaGreatDoorC1
import Derived.Deep.RegionHeld3
/- Errors as values: a code, or a fault that wraps one; fault.In; vbv.Check. Conditions: none. -/
namespace Go.Proofs.YtmbjehnddgcboaaGreatDoor
open Go.RowKit
set_option linter.unusedVariables false
set_option linter.unusedSimpArgs false

/-- An error: the places that it came through, the outermost first; its code. -/
structure Err where
  path : List (ByteArray × Int)
  code : Int
def codeV : Option Int → Value
  | none => .nilIface
  | some c => .iface 39 (.int .i64 c)
/-- What an error is in memory; its faults lie in blocks from lo on, below hi. -/
def FaultAt (lo hi : Nat) (w : World) : List (ByteArray × Int) → Int → Value → Prop
  | [], c, v => v = .iface 39 (.int .i64 c)
  | (s, n) :: p, c, v => ∃ b v', v = .iface 121 (.pointer (some ⟨b, 0, none⟩)) ∧ lo ≤ b ∧ b < hi ∧ w.heap[b]? = some (.cells #[.string s, .int .i64 n, v'] 124 (0, 0)) ∧ FaultAt lo hi w p c v'
def ErrV (lo hi : Nat) (w : World) (v : Value) (e : Err) : Prop := FaultAt lo hi w e.path e.code v
section
variable {lo hi lo' hi' : Nat} {w w' : World} {S : List Nat}
theorem FaultAt.only : ∀ {p : List (ByteArray × Int)} {c : Int} {v : Value}, FaultAt lo hi w p c v → Only S w w' → (∀ g ∈ S, g < lo ∨ hi ≤ g) → FaultAt lo hi w' p c v
  | [], _, _, h, _, _ => h
  | (s, n) :: p, c, v, ⟨b, v', h1, h2, h3, h4, h5⟩, o, hS =>
    ⟨b, v', h1, h2, h3, (o.block b (Array.getElem?_eq_some_iff.1 h4).1 (fun hm => by have := hS b hm; omega)).trans h4, FaultAt.only h5 o hS⟩
theorem FaultAt.mono : ∀ {p : List (ByteArray × Int)} {c : Int} {v : Value}, FaultAt lo hi w p c v → lo' ≤ lo → hi ≤ hi' → FaultAt lo' hi' w p c v
  | [], _, _, h, _, _ => h
  | (s, n) :: p, c, v, ⟨b, v', h1, h2, h3, h4, h5⟩, x, y => ⟨b, v', h1, by omega, by omega, h4, FaultAt.mono h5 x y⟩
theorem ErrV.only {v : Value} {e : Err} (h : ErrV lo hi w v e) (o : Only S w w') (hS : ∀ g ∈ S, g < lo ∨ hi ≤ g) : ErrV lo hi w' v e := FaultAt.only h o hS
theorem ErrV.quiet {v : Value} {e : Err} (h : ErrV lo hi w v e) (o : Only [] w w') : ErrV lo hi w' v e := FaultAt.only h o (by simp)
theorem ErrV.mono {v : Value} {e : Err} (h : ErrV lo hi w v e) (x : lo' ≤ lo) (y : hi ≤ hi') : ErrV lo' hi' w v e := FaultAt.mono h x y
theorem ErrV.code (lo hi : Nat) (w : World) (c : Int) : ErrV lo hi w (.iface 39 (.int .i64 c)) ⟨[], c⟩ := rfl
/-- an error is an interface value that is not nil -/
theorem ErrV.held {v : Value} {e : Err} (h : ErrV lo hi w v e) : ∃ t u, v = .iface t u := by
  obtain ⟨p, c⟩ := e
  cases p with
  | nil => exact ⟨_, _, h⟩
  | cons x p => obtain ⟨b, v', h1, _⟩ := h; exact ⟨_, _, h1⟩
end
def inE (s : ByteArray) (n : Int) (e : Err) : Err := ⟨(s, n) :: e.path, e.code⟩

theorem in_any {lo hi : Nat} {v : Value} {e : Err} (s : ByteArray) (n : Int) {w : World} (h : ErrV lo hi w v e) (hh : hi ≤ w.heap.size) (hl : lo ≤ w.heap.size) :
    Calls Tryz.prog 38 #[.string s, .int .i64 n, v] w fun r w' => ∃ v', r = .returned v' ∧ ErrV lo w'.heap.size w' v' (inE s n e) ∧ Only [] w w' := by
  obtain ⟨t, u, rfl⟩ := h.held
  have hq : ∀ o, Only [] w (w.alloc o) := fun o => (Only.refl _ _).alloc _
  have H := Lib.hid h
  clear h
  go_enter Tryz.func38, Tryz.ntmps38
  go_wp2
  go_ret
  refine ⟨_, rfl, ⟨w.heap.size, _, rfl, hl, by simp, heap_alloc_new w _, ?_⟩, hq _⟩
  exact (H.out.quiet (hq _)).mono (Nat.le_refl _) (by simp; omega)
theorem inc_any (s : ByteArray) (n c : Int) (w : World) :
    Calls Tryz.prog 38 #[.string s, .int .i64 n, .iface 39 (.int .i64 c)] w fun r w' => ∃ v', r = .returned v' ∧ ErrV w.heap.size w'.heap.size w' v' ⟨[(s, n)], c⟩ ∧ Only [] w w' := by
  go_enter Tryz.func38, Tryz.ntmps38
  go_wp2
  go_ret
  refine ⟨_, rfl, ⟨w.heap.size, _, rfl, Nat.le_refl _, by simp, heap_alloc_new w _, rfl⟩, (Only.refl _ _).alloc _⟩

theorem check_any (c : Cfg) (w : World) :
    Calls Tryz.prog 27 #[c.v] w fun e w' => e = .returned (codeV (if mayB c then none else some 11)) ∧ Only [] w w' := by
  have hq : Only [] w (w.alloc (.cells c.v.cells 26)) := (Only.refl _ _).alloc _
  obtain ⟨a0, a1, a2, a3, a4, a5, a6, a7⟩ := c
  by_cases hm : mayB ⟨a0, a1, a2, a3, a4, a5, a6, a7⟩ = true
  all_goals
    have Hm := Lib.hid hm
    clear hm
    unfold Cfg.v
    go_enter Tryz.func27, Tryz.ntmps27
    go_wp2_with (go_at_call 51; refine (may_any ⟨a0, a1, a2, a3, a4, a5, a6, a7⟩ _).mono ?_; rintro e w' ⟨rfl, ho⟩)
    all_goals
      go_ret
      have := Hm.out
      refine ⟨?_, hq.q ho⟩
      simp_all [codeV]
end Go.Proofs.YtmbjehnddgcboaaGreatDoor
/- vbv.check, Fills and Play: what the bucket has, and what is filled. Conditions: the sizes read. -/
namespace Go.Proofs.YtmbjehnddgcboaaGreatDoor
open Go.RowKit
set_option linter.unusedVariables false
set_option linter.unusedSimpArgs false

def sVbv : ByteArray := ⟨#[118, 98, 118]⟩
def sizesB (l : List Int) : Bool := l.all fun n => fromB n 0 1073741824
def vcheck (c : Cfg) (l : List Int) : Option Int := if mayB c = false then some 11 else if 4096 < l.length then some 3 else if sizesB l = false then some 3 else none
theorem sizesB_false {l : List Int} {k : Nat} (hk : k < l.length) (h : fromB (l.getD k 0) 0 1073741824 = false) : sizesB l = false := by
  rw [← Bool.not_eq_true, sizesB, List.all_eq_true]
  intro ha
  have := ha (l.getD k 0) (by simp [hk])
  rw [h] at this; cases this
theorem sizesB_true {l : List Int} (h : ∀ i, i < l.length → fromB (l.getD i 0) 0 1073741824 = true) : sizesB l = true := by
  rw [sizesB, List.all_eq_true]
  intro x hx
  obtain ⟨i, hi, rfl⟩ := List.getElem_of_mem hx
  have := h i hi
  simpa [hi] using this
theorem sizesB_at {l : List Int} (h : sizesB l = true) {i : Nat} (hi : i < l.length) : 0 ≤ l.getD i 0 ∧ l.getD i 0 ≤ 1073741824 := by
  rw [sizesB, List.all_eq_true] at h
  have := h (l.getD i 0) (by simp [hi])
  simp only [fromB, Bool.and_eq_true, decide_eq_true_eq] at this
  omega

set_option maxHeartbeats 800000 in
theorem vcheck_any {lo hi : Nat} (c : Cfg) {v : Value} {l : List Int} {w : World} (h : Ints .i64 lo hi w v l) :
    Calls Tryz.prog 57 #[c.v, v] w fun e w' => e = .returned (codeV (vcheck c l)) ∧ Only [] w w' := by
  obtain ⟨a, cap, rfl, hcap, hmax, hat, hcell⟩ := h.open
  have hll : l.length ≤ 9223372036854775807 := by unfold maxLen at hmax; omega
  have Hat := Lib.hid hat
  have Hcell := Lib.hid hcell
  clear hat hcell h hcap hmax
  obtain ⟨a0, a1, a2, a3, a4, a5, a6, a7⟩ := c
  have hchk := fun W => check_any ⟨a0, a1, a2, a3, a4, a5, a6, a7⟩ W
  unfold Cfg.v at hchk ⊢
  by_cases hm : mayB ⟨a0, a1, a2, a3, a4, a5, a6, a7⟩ = true
  · have Hm := Lib.hid hm
    rw [hm] at hchk
    simp only [if_true, codeV] at hchk
    have Hchk := Lib.hid hchk
    clear hm hchk
    by_cases hlen : 4096 < l.length
    · go_enter Tryz.func57, Tryz.ntmps57
      go_wp2_with (go_at_call 27; refine (Hchk.out _).mono ?_; rintro e w' ⟨rfl, ho⟩)
      go_ret
      exact ⟨by simp [vcheck, Hm.out, hlen, codeV], (Only.new _ _).q ho⟩
    · go_enter Tryz.func57, Tryz.ntmps57
      go_wp2_with (go_at_call 27; refine (Hchk.out _).mono ?_; rintro e w' ⟨rfl, ho⟩)
      have hq : Only [] w w' := (Only.new _ _).q ho
      clear ho
      go_loop [19, 7] (fun i _ => ∃ k : Nat, k ≤ l.length ∧ i = .int .i64 k ∧ ∀ j, j < k → fromB (l.getD j 0) 0 1073741824 = true) (fun i _ => l.length - (intOf i).toNat)
      case atStart => exact ⟨0, by omega, rfl, fun j hj => absurd hj (by omega)⟩
      case round =>
        obtain ⟨k, hk, rfl, hall⟩ := hrel
        have Hall := Lib.hid hall
        clear hall
        by_cases hlt : k < l.length
        · obtain ⟨b, off, rfl, _, _⟩ := Hat.out k hlt
          have hc := hq.cell (Hcell.out b off rfl k hlt) (by simp)
          generalize hx : l.getD k 0 = x at *
          have Hx := Lib.hid hx
          clear hx
          cases hf : fromB x 0 1073741824
          · go_wp2_with (go_at_call 74; refine (from_any _ _ _ _).mono ?_; rintro e w' ⟨rfl, rfl⟩)
            go_ret
            refine ⟨?_, hq⟩
            have : sizesB l = false := sizesB_false hlt (by rw [Hx.out]; exact hf)
            simp [vcheck, Hm.out, hlen, this, codeV]
          · go_wp2_with (go_at_call 74; refine (from_any _ _ _ _).mono ?_; rintro e w' ⟨rfl, rfl⟩)
            go_round
            case rel =>
              refine ⟨k + 1, by omega, by go_num, fun j hj => ?_⟩
              rcases Nat.lt_or_ge j k with h1 | h1
              · exact Hall.out j h1
              · obtain rfl : j = k := by omega
                rw [Hx.out]; exact hf
            case measure => simp [intOf]; omega
        · obtain rfl : k = l.length := by omega
          go_wp2
          go_ret
          refine ⟨?_, hq⟩
          have := sizesB_true Hall.out
          simp [vcheck, Hm.out, hlen, this, codeV]
  · have hm' : mayB ⟨a0, a1, a2, a3, a4, a5, a6, a7⟩ = false := by simpa using hm
    have Hm := Lib.hid hm'
    rw [hm'] at hchk
    simp only [Bool.false_eq_true, if_false, codeV] at hchk
    have Hchk := Lib.hid hchk
    clear hm hm' hchk
    go_enter Tryz.func57, Tryz.ntmps57
    go_wp2_with (go_at_call 27; refine (Hchk.out _).mono ?_; rintro e w' ⟨rfl, ho⟩)
    go_ret
    exact ⟨by simp [vcheck, Hm.out, codeV], (Only.new _ _).q ho⟩
end Go.Proofs.YtmbjehnddgcboaaGreatDoor
/- vbv.Fills: how much is filled behind each size, or why not. Conditions: the sizes read. -/
namespace Go.Proofs.YtmbjehnddgcboaaGreatDoor
open Go.RowKit
set_option linter.unusedVariables false
set_option linter.unusedSimpArgs false

def fillsGo (rate room : Int) : Nat → Int → List Int → Except Err (List Int)
  | _, _, [] => .ok []
  | i, has, n :: r =>
    if has < n then .error ⟨[(sVbv, i)], 14⟩ else
      match fillsGo rate room (i + 1) (min (has + (rate - n)) room) r with
      | .ok l => .ok (max (has + (rate - n) - room) 0 :: l)
      | .error e => .error e
def fills (c : Cfg) (l : List Int) : Except Err (List Int) :=
  match vcheck c l with
  | some k => .error ⟨[], k⟩
  | none => fillsGo c.rate c.room 0 c.fill l
def pre (out : List Int) : Except Err (List Int) → Except Err (List Int)
  | .ok r => .ok (out ++ r)
  | .error e => .error e
theorem pre_nil (r : Except Err (List Int)) : pre [] r = r := by cases r <;> rfl
theorem drop_cons {l : List Int} {k : Nat} (h : k < l.length) : l.drop k = l.getD k 0 :: l.drop (k + 1) := by
  rw [List.drop_eq_getElem_cons h]; simp [h]
/-- a list of ints, or an error -/
def ListOr (w : World) (r : Except Err (List Int)) (e : Ending) (w' : World) : Prop :=
  Only [] w w' ∧ match r with
    | .ok l => ∃ v, e = .returned (.tuple #[v, .nilIface]) ∧ Own .i64 3 w.heap.size w' v l
    | .error er => ∃ ev, e = .returned (.tuple #[.slice none 0 0, ev]) ∧ ErrV w.heap.size w'.heap.size w' ev er

set_option maxRecDepth 100000 in
set_option maxHeartbeats 1000000 in
theorem fills_any {lo hi : Nat} (c : Cfg) {v : Value} {l : List Int} {w : World} (h : Ints .i64 lo hi w v l) :
    Calls Tryz.prog 31 #[c.v, v] w (ListOr w (fills c l)) := by
  obtain ⟨a, cap, rfl, hcap, hmax, hat, hcell⟩ := h.open
  have hll : l.length ≤ 9223372036854775807 := by unfold maxLen at hmax; omega
  have Hat := Lib.hid hat
  have Hcell := Lib.hid hcell
  have Hh := Lib.hid h
  clear hat hcell h hcap hmax
  have hb := fun (h : mayB c = true) => may_bounds h
  have hS := fun (h : sizesB l = true) i (hi : i < l.length) => sizesB_at h hi
  obtain ⟨a0, a1, a2, a3, a4, a5, a6, a7⟩ := c
  have hchk := fun (W : World) (hI : Ints .i64 lo hi W (.slice a l.length cap) l) => vcheck_any (w := W) ⟨a0, a1, a2, a3, a4, a5, a6, a7⟩ hI
  unfold Cfg.v at hchk ⊢
  by_cases hm : vcheck ⟨a0, a1, a2, a3, a4, a5, a6, a7⟩ l = none
  · rw [hm] at hchk
    have hm0 : mayB ⟨a0, a1, a2, a3, a4, a5, a6, a7⟩ = true ∧ l.length ≤ 4096 ∧ sizesB l = true := by
      unfold vcheck at hm
      split at hm <;> try (cases hm; done)
      split at hm <;> try (cases hm; done)
      split at hm <;> try (cases hm; done)
      exact ⟨by simpa using ‹¬ mayB _ = false›, by omega, by simpa using ‹¬ sizesB l = false›⟩
    obtain ⟨m0, m1, m2⟩ := hm0
    obtain ⟨_, _, _, _, _, _, _, _, _, _, q10, q11, q12, q13, q14, q15, _, q17⟩ := hb m0
    have hS' := hS m2
    have hR : fills ⟨a0, a1, a2, a3, a4, a5, a6, a7⟩ l = fillsGo a5 a6 0 a7 l := by simp [fills, hm]
    simp only at q10 q11 q12 q13 q14 q15 q17
    have HR := Lib.hid hR
    have HS := Lib.hid hS'
    simp only [codeV] at hchk
    have Hchk := Lib.hid hchk
    clear hm hchk hR hS' hS hb m0 m2
    go_enter Tryz.func31, Tryz.ntmps31
    go_wp2_with (go_at_call 57; refine (Hchk.out _ (Hh.out.quiet (Only.new _ _))).mono ?_; rintro e w2 ⟨rfl, ho⟩; have k5 := ho.cell (p := ⟨w.heap.size, 5, none⟩) (v := .int .i64 a5) (by simp) (by simp); have k6 := ho.cell (p := ⟨w.heap.size, 6, none⟩) (v := .int .i64 a6) (by simp) (by simp);  have k7 := ho.cell (p := ⟨w.heap.size, 7, none⟩) (v := .int .i64 a7) (by simp) (by simp))
    have hq : Only [] w w2 := (Only.new _ _).q ho
    have hz2 : w.heap.size + 1 ≤ w2.heap.size := by have := ho.size; simp at this; omega
    clear ho
    have K5 := Lib.hid k5
    have K6 := Lib.hid k6
    clear k5 k6 k7
    go_loopw [21, 7, 8, 9, 10] (fun i x y _ _ wr => ∃ (k : Nat) (has : Int) (out : List Int), k ≤ l.length ∧ i = .int .i64 k ∧ x = .int .i64 has ∧ 0 ≤ has ∧ has ≤ a6 ∧ out.length = k ∧
        pre out (fillsGo a5 a6 k has (l.drop k)) = fillsGo a5 a6 0 a7 l ∧ Own .i64 3 w2.heap.size wr y out ∧ From w2.heap.size y ∧ Only [] w2 wr) (fun i _ _ _ _ _ => l.length - (intOf i).toNat)
    case atStart => exact ⟨0, a7, [], by omega, rfl, rfl, by omega, by omega, rfl, pre_nil _, Own.nil _ _ _ _, From.nil _, Only.refl _ _⟩
    case round =>
      obtain ⟨k, has, out, hk, rfl, rfl, h0, h1, hout, hpre, hown, hfrom, hqr⟩ := hrel
      have Hpre := Lib.hid hpre
      have Hout := Lib.hid hout
      clear hpre hout
      by_cases hlt : k < l.length
      · obtain ⟨b, off, rfl, _, _⟩ := Hat.out k hlt
        have hc := (hq.q hqr).cell (Hcell.out b off rfl k hlt) (by simp)
        have k5 := hqr.cell K5.out (by simp)
        have k6 := hqr.cell K6.out (by simp)
        obtain ⟨n0, n1⟩ := HS.out k hlt
        have hd := drop_cons hlt
        generalize l.getD k 0 = n at *
        have Hd := Lib.hid hd
        clear hd
        by_cases hn : has < n
        · go_wp2_with (go_at_call 38; refine (inc_any _ _ _ _).mono ?_; rintro e w3 ⟨ev, rfl, hev, ho3⟩)
          go_ret2
          rw [HR.out, ← Hpre.out, Hd.out, fillsGo, if_pos hn]
          exact ⟨hq.q (hqr.q ho3), ev, rfl, hev.mono (by have := hqr.size; omega) (Nat.le_refl _)⟩
        · have hk6 : ∀ o, (wr.alloc o).cell? ⟨w.heap.size, 6, none⟩ = some (.int .i64 a6) := fun o => (Only.new _ _).cell k6 (by simp)
          have HK6 := Lib.hid hk6
          clear hk6
          by_cases hov : has + (a5 - n) - a6 < 0
          · have hov2 : has + (a5 - n) < a6 := by omega
            have hstep : fillsGo a5 a6 k has (n :: l.drop (k + 1)) = match fillsGo a5 a6 (k + 1) (has + (a5 - n)) (l.drop (k + 1)) with | .ok l => .ok (0 :: l) | .error e => .error e := by
              rw [fillsGo, if_neg hn]
              rw [show max (has + (a5 - n) - a6) 0 = 0 by omega, show min (has + (a5 - n)) a6 = has + (a5 - n) by omega]
            have Hstep := Lib.hid hstep
            clear hstep
            go_wp2_with (at_builtin; refine wpList_append_ints rfl (.tmp 38) (.tmp 44) _ rfl EI (hown.quiet (Only.new _ _)) rfl (ints_newG (l := [0]) rfl (by simp [maxLen]) ?c0 1 rfl rfl) rfl ?c1 ?c2 (fun v1 w1 hown1 ho1 => have k6' := ho1.cell hfrom (HK6.out _) hz2; ?_))
            case c0 => simp only [List.mem_cons, List.not_mem_nil, or_false, forall_eq, InK]; omega
            case c1 => have := Hout.out; simp; omega
            case c2 => have := hqr.size; simp; omega
            go_roundw
            case rel =>
              refine ⟨k + 1, has + (a5 - n), out ++ [0], by omega, by go_num, by first | rfl | exact congrArg (Value.int .i64) (by split <;> omega), by omega, by omega, by have := Hout.out; simp; omega, ?_, hown1, ho1.from_ hfrom (by have := hqr.size; simp; omega), (hqr.q (Only.new _ _)).acc ho1 hfrom⟩
              rw [← Hpre.out, Hd.out, Hstep.out]
              cases fillsGo a5 a6 (k + 1) (has + (a5 - n)) (l.drop (k + 1)) with
              | ok r => simp [pre]
              | error e => rfl
            case measure => simp [intOf]; omega
          · have hov2 : a6 ≤ has + (a5 - n) := by omega
            have hstep : fillsGo a5 a6 k has (n :: l.drop (k + 1)) = match fillsGo a5 a6 (k + 1) (a6) (l.drop (k + 1)) with | .ok l => .ok ((has + (a5 - n) - a6) :: l) | .error e => .error e := by
              rw [fillsGo, if_neg hn]
              rw [show max (has + (a5 - n) - a6) 0 = (has + (a5 - n) - a6) by omega, show min (has + (a5 - n)) a6 = a6 by omega]
            have Hstep := Lib.hid hstep
            clear hstep
            go_wp2_with (at_builtin; refine wpList_append_ints rfl (.tmp 38) (.tmp 44) _ rfl EI (hown.quiet (Only.new _ _)) rfl (ints_newG (l := [(has + (a5 - n) - a6)]) rfl (by simp [maxLen]) ?c0 1 rfl rfl) rfl ?c1 ?c2 (fun v1 w1 hown1 ho1 => have k6' := ho1.cell hfrom (HK6.out _) hz2; ?_))
            case c0 => simp only [List.mem_cons, List.not_mem_nil, or_false, forall_eq, InK]; omega
            case c1 => have := Hout.out; simp; omega
            case c2 => have := hqr.size; simp; omega
            go_roundw
            case rel =>
              refine ⟨k + 1, a6, out ++ [(has + (a5 - n) - a6)], by omega, by go_num, by first | rfl | exact congrArg (Value.int .i64) (by split <;> omega), by omega, by omega, by have := Hout.out; simp; omega, ?_, hown1, ho1.from_ hfrom (by have := hqr.size; simp; omega), (hqr.q (Only.new _ _)).acc ho1 hfrom⟩
              rw [← Hpre.out, Hd.out, Hstep.out]
              cases fillsGo a5 a6 (k + 1) (a6) (l.drop (k + 1)) with
              | ok r => simp [pre]
              | error e => rfl
            case measure => simp [intOf]; omega
      · obtain rfl : k = l.length := by omega
        go_wp2
        go_ret2
        rw [HR.out, ← Hpre.out, List.drop_length, fillsGo, pre, List.append_nil]
        exact ⟨hq.q hqr, _, rfl, hown.lower (by omega)⟩
  · obtain ⟨code, hc⟩ : ∃ code, vcheck ⟨a0, a1, a2, a3, a4, a5, a6, a7⟩ l = some code := by
      cases hx : vcheck ⟨a0, a1, a2, a3, a4, a5, a6, a7⟩ l with
      | none => exact absurd hx hm
      | some k => exact ⟨k, rfl⟩
    rw [hc] at hchk
    have hR : fills ⟨a0, a1, a2, a3, a4, a5, a6, a7⟩ l = .error ⟨[], code⟩ := by simp [fills, hc]
    have HR := Lib.hid hR
    simp only [codeV] at hchk
    have Hchk := Lib.hid hchk
    clear hm hchk hR hS hb hc
    go_enter Tryz.func31, Tryz.ntmps31
    go_wp2_with (go_at_call 57; refine (Hchk.out _ (Hh.out.quiet (Only.new _ _))).mono ?_; rintro e w2 ⟨rfl, ho⟩)
    go_ret2
    rw [HR.out]
    exact ⟨(Only.new _ _).q ho, _, rfl, ErrV.code _ _ _ _⟩
end Go.Proofs.YtmbjehnddgcboaaGreatDoor
/- vbv.Play: what the bucket has behind each size, or why not. Conditions: the sizes read. -/
namespace Go.Proofs.YtmbjehnddgcboaaGreatDoor
open Go.RowKit
set_option linter.unusedVariables false
set_option linter.unusedSimpArgs false

def playGo (rate room : Int) : Nat → Int → List Int → Except Err (List Int)
  | _, _, [] => .ok []
  | i, has, n :: r =>
    if has < n then .error ⟨[(sVbv, i)], 14⟩ else
      if room < has + (rate - n) then .error ⟨[(sVbv, i)], 5⟩ else
      match playGo rate room (i + 1) (has + (rate - n)) r with
      | .ok l => .ok ((has + (rate - n)) :: l)
      | .error e => .error e
def play (c : Cfg) (l : List Int) : Except Err (List Int) :=
  match vcheck c l with
  | some k => .error ⟨[], k⟩
  | none => playGo c.rate c.room 0 c.fill l

end Go.Proofs.YtmbjehnddgcboaaGreatDoor
/- Lists held against one another: kinref.Ints, Within, Bytes, Coded, Codeds, bytes.Equal, CopyBytes; box.get; kinlaw23.Few, kinlaw24.few. Conditions: none but that the lists read. -/
namespace Go.Proofs.YtmbjehnddgcboaaGreatDoor
open Go.RowKit
set_option linter.unusedVariables false
set_option linter.unusedSimpArgs false

def eqB {α : Type} [DecidableEq α] (l m : α) : Bool := decide (l = m)
theorem str_inj : ∀ {l m : List Int}, (∀ x ∈ l, InK .u8 x) → (∀ x ∈ m, InK .u8 x) → l.map (fun n => UInt8.ofNat n.toNat) = m.map (fun n => UInt8.ofNat n.toNat) → l = m
  | [], [], _, _, _ => rfl
  | [], _ :: _, _, _, h => by simp at h
  | _ :: _, [], _, _, h => by simp at h
  | x :: l, y :: m, hl, hm, h => by
    simp only [List.map_cons, List.cons.injEq] at h
    have hx := hl x (by simp)
    have hy := hm y (by simp)
    unfold InK at hx hy
    have e : x = y := by
      have := congrArg UInt8.toNat h.1
      simp only [UInt8.toNat_ofNat'] at this
      omega
    rw [e, str_inj (fun z hz => hl z (by simp [hz])) (fun z hz => hm z (by simp [hz])) h.2]
theorem str_eq {l m : List Int} (hl : ∀ x ∈ l, InK .u8 x) (hm : ∀ x ∈ m, InK .u8 x) : ((strOfNums l).toList == (strOfNums m).toList) = eqB l m := by
  rw [ByteArray.toList_eq, ByteArray.toList_eq, strOfNums_data, strOfNums_data, Bool.eq_iff_iff]
  simp only [beq_iff_eq, eqB, decide_eq_true_eq]
  exact ⟨str_inj hl hm, fun h => by rw [h]⟩
theorem ints_str {lo hi : Nat} {v : Value} {l : List Int} {w : World} (h : Ints .u8 lo hi w v l) :
    (convert 22 9 v).run Tryz.prog w = .ok (.string (strOfNums l)) w := by
  obtain ⟨a, cap, rfl, _, _, hat, hcell⟩ := h.open
  rcases Nat.eq_zero_or_pos l.length with h0 | h0
  · have hl : l = [] := List.eq_nil_of_length_eq_zero h0
    subst hl
    rw [run_convert_bytes_string w _ _ _ _ _ _ Tryz.underlying22 Tryz.underlying5 Tryz.underlying9]
    rcases a with _ | a
    · simp [Conv.bytesToString]; rfl
    · rw [run_bytesToString w _ _ cap [] (by simp [loadCells, loadCellsFrom])]; rfl
  · obtain ⟨b, off, rfl, _, _⟩ := hat 0 h0
    exact run_convert_bytes_arg w _ _ Tryz.underlying22 Tryz.underlying5 b off _ cap l rfl (hcell b off rfl) _ Tryz.underlying9

theorem bytes_any {lo hi lo' hi' : Nat} {v u : Value} {l m : List Int} {w : World} (h : Ints .u8 lo hi w v l) (g : Ints .u8 lo' hi' w u m) :
    Calls Tryz.prog 13 #[v, u] w fun e w' => e = .returned (.bool (eqB l m)) ∧ w = w' := by
  have h1 := ints_str h
  have h2 := ints_str g
  have hs := str_eq h.2 g.2
  have Hs := Lib.hid hs
  clear hs
  go_enter Tryz.func13, Tryz.ntmps13
  go_wp2
  go_ret
  exact ⟨ret_bool Hs.out, rfl⟩
theorem bequal_any {lo hi lo' hi' : Nat} {v u : Value} {l m : List Int} {w : World} (h : Ints .u8 lo hi w v l) (g : Ints .u8 lo' hi' w u m) :
    Calls Tryz.prog 83 #[v, u] w fun e w' => e = .returned (.bool (eqB l m)) ∧ w = w' := by
  have h1 := ints_str h
  have h2 := ints_str g
  have hs := str_eq h.2 g.2
  have Hs := Lib.hid hs
  clear hs
  go_enter Tryz.func83, Tryz.ntmps83
  go_wp2
  go_ret
  exact ⟨ret_bool Hs.out, rfl⟩

theorem copyb_any {lo hi : Nat} {v : Value} {l : List Int} {w : World} (h : Ints .u8 lo hi w v l) (hl : l.length ≤ 140737488355328) :
    Calls Tryz.prog 5 #[v] w fun e w' => ∃ v', e = .returned v' ∧ Own .u8 5 w.heap.size w' v' l ∧ Only [] w w' := by
  go_enter Tryz.func5, Tryz.ntmps5
  go_wp2_with (at_builtin; refine wpList_append_ints rfl (.tmp 3) (.tmp 4) _ rfl E8 (own_new (l := []) rfl (by simp) (by simp) 0 rfl) rfl (h.quiet ((Only.refl _ _).alloc _)) rfl ?c1 ?c2 (fun v1 w1 hown1 ho1 => ?_))
  case c1 => simpa using hl
  case c2 => simp
  go_ret
  exact ⟨v1, rfl, by simpa using hown1, ((Only.refl _ _).alloc _).acc ho1 (From.lit (Nat.le_refl _))⟩

theorem getD_of_lt {α : Type} (l : List α) (d : α) {i : Nat} (h : i < l.length) : l[i]? = some (l.getD i d) := by simp [h]
theorem take_eq_succ {α : Type} {l m : List α} (d : α) {k : Nat} (h : l.take k = m.take k) (hl : k < l.length) (hm : k < m.length) (e : l.getD k d = m.getD k d) : l.take (k + 1) = m.take (k + 1) := by
  rw [List.take_add_one, List.take_add_one, h, getD_of_lt l d hl, getD_of_lt m d hm, e]

set_option maxHeartbeats 400000 in
theorem intsEq_any {lo hi lo' hi' : Nat} {v u : Value} {l m : List Int} {w : World} (h : Ints .i64 lo hi w v l) (g : Ints .i64 lo' hi' w u m) :
    Calls Tryz.prog 12 #[v, u] w fun e w' => e = .returned (.bool (eqB l m)) ∧ Only [] w w' := by
  have hll := h.1.len_le
  unfold maxLen at hll
  obtain ⟨a, cap, rfl, _, _, hat, hcell⟩ := h.open
  obtain ⟨a', cap', rfl, _, _, hat', hcell'⟩ := g.open
  by_cases hlen : l.length = m.length
  · have hlm : m.length = l.length := hlen.symm
    have Hlm := Lib.hid hlm
    clear hlm
    have hb : (((l.length : Nat) : Int) != ((m.length : Nat) : Int)) = false := by simp [hlen]
    go_enter Tryz.func12, Tryz.ntmps12
    clear hlen
    go_wp2
    clear hb
    go_loopw [5] (fun i wr => ∃ k : Nat, k ≤ l.length ∧ i = .int .i64 k ∧ l.take k = m.take k ∧ Only [] w wr) (fun i _ => l.length - (intOf i).toNat)
    case atStart => exact ⟨0, by omega, rfl, by simp, Only.refl _ _⟩
    case round =>
      obtain ⟨k, hk, rfl, htake, hq⟩ := hrel
      have Ht := Lib.hid htake
      clear htake
      by_cases hlt : k < l.length
      · obtain ⟨b, off, rfl, _, _⟩ := hat k hlt
        have hltm : k < m.length := by rw [Hlm.out]; exact hlt
        obtain ⟨b', off', rfl, _, _⟩ := hat' k hltm
        have c1 := hq.cell (hcell b off rfl k hlt) (by simp)
        have c2 := hq.cell (hcell' b' off' rfl k hltm) (by simp)
        clear hat hat' hcell hcell' h g
        have hx : (0 : Int) ≤ (k : Int) := by omega
        have hx1 : (k : Int) < (l.length : Int) := by omega
        have hx2 : (k : Int) < (m.length : Int) := by omega
        generalize he : l.getD k 0 = x at *
        generalize he' : m.getD k 0 = y at *
        have He := Lib.hid he
        have He' := Lib.hid he'
        clear he he'
        by_cases hxy : x = y
        · subst hxy
          go_wp2
          go_quiet (fail)
          go_wp2
          go_roundw
          case rel => exact ⟨k + 1, by omega, by go_num, take_eq_succ 0 Ht.out hlt hltm (by rw [He.out, He'.out]), hq.drewN _⟩
          case measure => simp [intOf]; omega
        · have hbe : (x != y) = true := by simpa using hxy
          go_wp2
          go_quiet (fail)
          go_wp2
          go_ret
          refine ⟨ret_bool ?_, hq.drewN _⟩
          have : l ≠ m := by rintro rfl; exact hxy (He.out.symm.trans He'.out)
          simp [eqB, this]
      · obtain rfl : k = l.length := by omega
        go_wp2
        go_ret
        refine ⟨ret_bool ?_, hq⟩
        have := Ht.out
        rw [List.take_length, ← Hlm.out, List.take_length] at this
        simp [eqB, this]
  · have hb : (((l.length : Nat) : Int) != ((m.length : Nat) : Int)) = true := by simp; omega
    go_enter Tryz.func12, Tryz.ntmps12
    go_wp2
    go_ret
    exact ⟨ret_bool (by have : l ≠ m := fun e => hlen (by rw [e]); simp [eqB, this]), Only.refl _ _⟩

end Go.Proofs.YtmbjehnddgcboaaGreatDoor
/- gop.Sizes, syntax.Read, gop.May, kinlaw23.Few. Conditions: what is handed in reads. -/
namespace Go.Proofs.YtmbjehnddgcboaaGreatDoor
open Go.RowKit
set_option linter.unusedVariables false
set_option linter.unusedSimpArgs false

def costOf (c : Coded) : Int := (c.data.length : Int) + 8
def sizesOf (l : List Coded) : List Int := l.map costOf
theorem getD_map_take {l : List Coded} {k : Nat} (h : k < l.length) : sizesOf (l.take (k + 1)) = sizesOf (l.take k) ++ [((l.getD k default).data.length : Int) + 8] := by
  rw [List.take_succ_eq_append_getElem h, sizesOf, List.map_append]; simp [sizesOf, costOf, h]

set_option maxRecDepth 100000 in
set_option maxHeartbeats 800000 in
theorem sizes_any {lo hi : Nat} {v : Value} {l : List Coded} {w : World} (h : CodedsAt lo hi w v l) (hl : l.length ≤ 1000000) (hd : ∀ i, i < l.length → (l.getD i default).data.length ≤ 1000000000000000) :
    Calls Tryz.prog 30 #[v] w fun e w' => ∃ v', e = .returned v' ∧ Own .i64 3 w.heap.size w' v' (sizesOf l) ∧ Only [] w w' := by
  obtain ⟨a, cap, hv, hcap, hmax, hel⟩ := h.open
  subst hv
  have Hel := Lib.hid hel
  have Hl := Lib.hid hl
  have Hd := Lib.hid hd
  have hll : (l.length : Int) ≤ 9223372036854775807 := by omega
  clear h hel hmax hcap hl hd
  go_enter Tryz.func30, Tryz.ntmps30
  go_wp2
  go_loopw [8, 3] (fun i y wr => ∃ k : Nat, k ≤ l.length ∧ i = .int .i64 k ∧ Own .i64 3 w.heap.size wr y (sizesOf (l.take k)) ∧ From w.heap.size y ∧ Only [] w wr) (fun i _ _ => l.length - (intOf i).toNat)
  case atStart => exact ⟨0, by omega, rfl, Own.nil _ _ _ _, From.nil _, Only.refl _ _⟩
  case round =>
    obtain ⟨k, hk, rfl, hown, hfrom, hq⟩ := hrel
    by_cases hlt : k < l.length
    · obtain ⟨b, off, dv, rfl, _, _, hc1, hc2, _, hd⟩ := Hel.out k hlt
      have c1 := hq.cell hc1 (by simp)
      have c2 := hq.cell hc2 (by simp)
      obtain ⟨da, dcap, rfl, _⟩ := hd.open
      have hdl := Hd.out k hlt
      have hs := getD_map_take hlt
      have hlen : (sizesOf (l.take k)).length = k := by simp [sizesOf]; omega
      have hd' := fun o => hd.quiet (hq.q (Only.new wr o))
      clear hc1 hc2 hd
      have Hs := Lib.hid hs
      clear hs
      generalize sizesOf (l.take k) = S0 at *
      generalize l.getD k default = x at *
      have Hlen := Lib.hid hlen
      have Hdv := Lib.hid hd'
      have hx : (0 : Int) ≤ (k : Int) := by omega
      have hx1 : (k : Int) < (l.length : Int) := by omega
      clear hlen hd'
      go_wp2_with (first
        | (go_at_call 22; (refine (cost_any (Hdv.out _) (by omega)).mono ?_); rintro e w2 ⟨rfl, ho⟩)
        | (at_builtin; refine wpList_append_ints rfl (.tmp 12) (.tmp 15) _ rfl EI (hown.quiet (((Only.new _ _).q ho).q (Only.new _ _))) rfl (ints_newG (l := [(x.data.length : Int) + 8]) rfl (by simp [maxLen]) ?c0 1 rfl rfl) rfl ?c1 ?c2 (fun v1 w1 hown1 ho1 => ?_))
        | fail)
      case c0 => simp only [List.mem_cons, List.not_mem_nil, or_false, forall_eq, InK]; omega
      case c1 => have := Hlen.out; have := Hl.out; simp; omega
      case c2 => have := hq.size; have := ho.size; simp at this ⊢; omega
      have hq2 := (hq.q (Only.new _ _)).q (ho.q (Only.new _ (.cells #[.int .i64 ((x.data.length : Int) + 8)] 3)))
      go_roundw
      case rel => exact ⟨k + 1, by omega, by go_num, by rw [Hs.out]; exact hown1, ho1.from_ hfrom hq2.size, hq2.acc ho1 hfrom⟩
      case measure => simp [intOf]; omega
    · obtain rfl : k = l.length := by omega
      go_wp2
      go_ret
      exact ⟨_, rfl, by simpa using hown, hq⟩
end Go.Proofs.YtmbjehnddgcboaaGreatDoor
