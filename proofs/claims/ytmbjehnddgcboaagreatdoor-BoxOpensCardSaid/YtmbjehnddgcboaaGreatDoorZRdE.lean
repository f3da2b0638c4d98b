/- Joined texts: RdE. Conditions: each part names its own. -/
import Derived.Test.YtmbjehnddgcboaaGreatDoorZRdG
/- The reader of box: exact, alone. Conditions: the reader lies in a block behind its bytes. -/
namespace Go.Proofs.YtmbjehnddgcboaaGreatDoor
open Go.RowKit
set_option linter.unusedVariables false
set_option linter.unusedSimpArgs false

def exactR (l : List Int) (p n : Nat) (kind : Int) (data : List Int) : Option Err × Nat × Nat :=
  match nextR l p kind data.length with
  | .error e => (some e, p, n)
  | .ok u => if u.data = data then (none, u.end_, n + 1) else (some ⟨[], 2⟩, p, n)
theorem nextR_peek {l : List Int} {p : Nat} {k m : Int} {u : UnitD} (h : nextR l p k m = .ok u) : peekR l p = .ok u ∧ u.kind = k ∧ (u.data.length : Int) = m := by
  unfold nextR at h
  split at h
  · cases h
  · rename_i v hv
    split at h
    · cases h
    · rename_i hk
      cases h
      exact ⟨hv, Decidable.not_not.1 fun h => hk (.inl h), Decidable.not_not.1 fun h => hk (.inr h)⟩

set_option maxRecDepth 100000 in
set_option maxHeartbeats 4000000 in
theorem rexact_any {lo hi lo' hi' R p n : Nat} {bv dv : Value} {l data : List Int} {w : World} (kind : Int) (hr : Rd R bv w p n) (h : Ints .u8 lo hi w bv l) (hR : hi ≤ R) (hp : p ≤ l.length) (hn : n ≤ p) (hl : l.length ≤ 1000000000000) (hd : Ints .u8 lo' hi' w dv data) :
    Calls Tryz.prog 63 #[.pointer (some ⟨R, 0, none⟩), .int .i64 kind, dv] w fun e w' => ∃ ev, e = .returned ev ∧ OErrV w.heap.size w'.heap.size w' ev (exactR l p n kind data).1 ∧ Rd R bv w' (exactR l p n kind data).2.1 (exactR l p n kind data).2.2 ∧ Only [R] w w' := by
  have H := Lib.hid (rnext_any kind data.length hr h hp)
  have HR := Lib.hid hr
  have Hd := Lib.hid hd
  have hr8 := h.2
  have hdl := hd.1.len_le
  unfold maxLen at hdl
  have hdl2 : (data.length : Int) ≤ 9223372036854775807 := by omega
  obtain ⟨a, cap, rfl, _⟩ := hd.open
  clear hr h hd hdl
  cases hres : nextR l p kind data.length with
  | error er =>
    have hfin : exactR l p n kind data = (some er, p, n) := by unfold exactR; rw [hres]
    have Hfin := Lib.hid hfin
    have Hres := Lib.hid hres
    clear hfin hres hr8
    go_enter Tryz.func63, Tryz.ntmps63
    go_wp2_with (first | (go_at_call 79; refine H.out.mono ?_; rintro e w1 hP; rw [Hres.out] at hP; obtain ⟨hq, ev, rfl, hev⟩ := hP; obtain ⟨et, eu, rfl⟩ := hev.held) | fail)
    go_ret
    refine ⟨_, rfl, ?_⟩
    rw [Hfin.out]
    exact ⟨(hev.quiet (Only.new _ _)).mono (Nat.le_refl _) (by simp), HR.out.quiet (hq.q (Only.new _ _)), (hq.q (Only.new _ _)).mono (by simp)⟩
  | ok u =>
    obtain ⟨hpk, huk, hul⟩ := nextR_peek hres
    have hpe := peekR_ok hpk hp hr8
    obtain ⟨uk, ud, ua, ue⟩ := u
    simp only at huk hul hpe
    subst huk
    have hul' : ud.length = data.length := by omega
    have HB := Lib.hid (fun (w1 : World) (dv : Value) (W2 : World) (hq : Only [] w W2) (h : Ints .u8 w.heap.size w1.heap.size w1 dv ud) (o : Only [] w1 W2) => bequal_any (h.quiet o) (Hd.out.quiet hq))
    have Hres := Lib.hid hres
    have Hul := Lib.hid hul'
    clear hres hpk hr8 hul hul'
    by_cases he : ud = data
    · have hfin : exactR l p n uk data = (none, ue, n + 1) := by unfold exactR; rw [Hres.out]; exact if_pos he
      have hb : eqB ud data = true := by simp [eqB, he]
      have Hfin := Lib.hid hfin
      have Hb := Lib.hid hb
      clear hfin hb he
      go_enter Tryz.func63, Tryz.ntmps63
      go_wp2_with (first
        | (go_at_call 79; refine H.out.mono ?_; rintro e w1 hP; rw [Hres.out] at hP; obtain ⟨hq, dv, rfl, hdv⟩ := hP; obtain ⟨da, dcap, rfl, _⟩ := hdv.open; simp only; have Hdv := Lib.hid hdv; clear hdv)
        | (go_at_call 83; refine (HB.out w1 _ _ (hq.q (Only.new _ _)) Hdv.out (Only.new _ _)).mono ?_; rintro e w2 ⟨rfl, rfl⟩; rw [Hb.out])
        | (go_at_call 81; refine (pass_any _ _ _ _ _ (n := n) (e_ := ue) (HR.out.quiet (hq.q (Only.new _ _))) (by omega)).mono ?_; rintro e w3 ⟨rfl, hr3, hq3⟩)
        | fail)
      go_ret
      refine ⟨_, rfl, ?_⟩
      rw [Hfin.out]
      exact ⟨rfl, hr3, ((hq.q (Only.new _ _)).mono (U := [R]) (by simp)).trans hq3 (fun g h _ => h) (fun g h _ => h)⟩
    · have hfin : exactR l p n uk data = (some ⟨[], 2⟩, p, n) := by unfold exactR; rw [Hres.out]; exact if_neg he
      have hb : eqB ud data = false := by simp [eqB, he]
      have Hfin := Lib.hid hfin
      have Hb := Lib.hid hb
      clear hfin hb he
      go_enter Tryz.func63, Tryz.ntmps63
      go_wp2_with (first
        | (go_at_call 79; refine H.out.mono ?_; rintro e w1 hP; rw [Hres.out] at hP; obtain ⟨hq, dv, rfl, hdv⟩ := hP; obtain ⟨da, dcap, rfl, _⟩ := hdv.open; simp only; have Hdv := Lib.hid hdv; clear hdv)
        | (go_at_call 83; refine (HB.out w1 _ _ (hq.q (Only.new _ _)) Hdv.out (Only.new _ _)).mono ?_; rintro e w2 ⟨rfl, rfl⟩; rw [Hb.out])
        | fail)
      go_ret
      refine ⟨_, rfl, ?_⟩
      rw [Hfin.out]
      exact ⟨rfl, HR.out.quiet (hq.q (Only.new _ _)), (hq.q (Only.new _ _)).mono (by simp)⟩

def aloneR (l : List Int) (p n : Nat) (first count : Int) : (Except Err (List Coded × List Int)) × Nat × Nat :=
  match nextR l p 17 3 with
  | .error e => (.error e, p, n)
  | .ok u =>
    if u.data.getD 1 0 ≠ first ∨ u.data.getD 2 0 ≠ count then (.error ⟨[], 2⟩, p, n)
    else match (framesR l count.toNat 0 u.end_ (n + 1)).1 with
      | .error e => (.error e, (framesR l count.toNat 0 u.end_ (n + 1)).2)
      | .ok x => match endR l (framesR l count.toNat 0 u.end_ (n + 1)).2.1 with
        | some e => (.error e, (framesR l count.toNat 0 u.end_ (n + 1)).2)
        | none => (.ok x, (framesR l count.toNat 0 u.end_ (n + 1)).2)
theorem framesR_pos {l : List Int} (hl : ∀ x ∈ l, InK .u8 x) : ∀ (c i p n : Nat), p ≤ l.length → n ≤ p → p ≤ (framesR l c i p n).2.1 ∧ (framesR l c i p n).2.1 ≤ l.length ∧ (framesR l c i p n).2.2 ≤ (framesR l c i p n).2.1
  | 0, i, p, n, hp, hn => ⟨Nat.le_refl _, hp, hn⟩
  | c + 1, i, p, n, hp, hn => by
    unfold framesR
    cases hpk : peekR l p with
    | error e => exact ⟨Nat.le_refl _, hp, hn⟩
    | ok u =>
      simp only
      split
      · exact ⟨Nat.le_refl _, hp, hn⟩
      · cases readB ⟨u.kind, u.data⟩ with
        | some k => exact ⟨Nat.le_refl _, hp, hn⟩
        | none =>
          have h1 := peekR_ok hpk hp hl
          have hz := zeros_le (l.drop u.end_)
          rw [List.length_drop] at hz
          have ih := framesR_pos hl c (i + 1) (u.end_ + zeros (l.drop u.end_)) (n + 1 + zeros (l.drop u.end_)) (by omega) (by omega)
          simp only [consF]
          omega
end Go.Proofs.YtmbjehnddgcboaaGreatDoor
