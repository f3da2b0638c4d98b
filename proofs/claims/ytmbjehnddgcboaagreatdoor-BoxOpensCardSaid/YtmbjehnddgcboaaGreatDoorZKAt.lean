/- Joined texts: KAt. Conditions: each part names its own. -/
import Derived.Test.YtmbjehnddgcboaaGreatDoorZKRd
/- The document's reader of units: at, at2, end, fills. Conditions: the reader lies in a block behind its units. -/
namespace Go.Proofs.YtmbjehnddgcboaaGreatDoor
open Go.RowKit
set_option linter.unusedVariables false
set_option linter.unusedSimpArgs false

/-- what a reader's cells are, opened -/
theorem KRd.open {K : KS} {R p n : Nat} {w : World} (h : KRd K R w p n) : ∃ ua ucap, K.uv = .slice ua K.U.length ucap ∧ K.U.length ≤ ucap ∧ ucap ≤ maxLen ∧ w.cell? ⟨R, 0, none⟩ = some (.slice ua K.U.length ucap) ∧ w.cell? ⟨R, 1, none⟩ = some (.int .i64 n) ∧
    w.cell? ⟨R, 2, none⟩ = some (.int .i64 (codeE K.E)) ∧ (∃ sa scap, K.sv = .slice sa (pathE K.E).length scap ∧ w.cell? ⟨R, 3, none⟩ = some (.slice sa (pathE K.E).length scap) ∧ Cells 2 K.lo K.hi w (.slice sa (pathE K.E).length scap) (pathE K.E).length (flat (pathE K.E))) ∧
    K.U.length ≤ 1000000000000 ∧ ∀ i u, K.U[i]? = some u → ∃ b off dv, ua = some ⟨b, off, none⟩ ∧ K.lo ≤ b ∧ b < K.hi ∧ w.cell? ⟨b, off + i * 4, none⟩ = some (.int .i64 u.kind) ∧ w.cell? ⟨b, off + i * 4 + 1, none⟩ = some dv ∧
      w.cell? ⟨b, off + i * 4 + 2, none⟩ = some (.int .i64 u.at_) ∧ w.cell? ⟨b, off + i * 4 + 3, none⟩ = some (.int .i64 u.end_) ∧ Ints .u8 K.lo K.hi w dv u.data := by
  obtain ⟨ua, ucap, huv, hulc, hum, hat⟩ := h.units.open
  have hr := h.row
  rw [huv] at hr
  obtain ⟨k0, k1, k2, k3⟩ := row4_cells hr
  obtain ⟨_, sa, scap, hsv, _⟩ := id h.err
  rw [hsv] at k3
  exact ⟨ua, ucap, huv, hulc, hum, k0, k1, k2, ⟨sa, scap, hsv, k3, hsv ▸ h.err⟩, Nat.le_trans h.nle h.small, hat⟩

theorem peekR_zero {l : List Int} {p : Nat} {u : UnitD} (h : peekR l p = .ok u) : (u.kind = 0 ↔ l.getD p 0 = 0) ∧ (u.kind = 0 → u.end_ = p + 1) := by
  unfold peekR at h
  split at h
  · cases h
  have e : (l.drop p).getD 0 0 = l.getD p 0 := by rw [getD_drop, Nat.add_zero]
  unfold nextD at h
  rw [e] at h
  split at h
  · rename_i h0; cases h; exact ⟨⟨fun _ => h0, fun _ => rfl⟩, fun _ => rfl⟩
  rename_i h0
  split at h
  · cases h
  split at h
  · cases h
  split at h
  · cases h
  split at h
  · cases h
  cases h
  exact ⟨Iff.rfl, fun hk => absurd hk h0⟩
theorem peekR_nonzero {l : List Int} {p : Nat} {er : Err} (hp : p < l.length) (h : peekR l p = .error er) : l.getD p 0 ≠ 0 := by
  intro h0
  unfold peekR at h
  rw [if_neg (by omega)] at h
  have e : (l.drop p).getD 0 0 = l.getD p 0 := by rw [getD_drop, Nat.add_zero]
  unfold nextD at h
  rw [e, if_pos h0] at h
  cases h

set_option maxRecDepth 100000 in
set_option maxHeartbeats 4000000 in
theorem kat_any {K : KS} {R p n : Nat} {w : World} (bv : Value) (h : KRd K R w p n) :
    Calls Tryz.prog 44 #[.pointer (some ⟨R, 0, none⟩), bv] w fun e w' => e = .returned (.int .i64 p) ∧ ∃ nq, w' = w.drewN nq := by
  obtain ⟨ua, ucap, huv, hulc, hum, c0, c1, c2, _, hul, hat⟩ := h.open
  have hn0 : (0 : Int) ≤ (n : Int) := by omega
  by_cases hlt : n < K.U.length
  · obtain ⟨u, hu, _, hpl, hpk, hsp, huat, hue, hule, huk0, huk1⟩ := h.next hlt
    obtain ⟨b, off, dv, rfl, hb1, hb2, m0, m1, m2, m3, hdv⟩ := hat n u hu
    rw [huat] at m2
    have hlti : (n : Int) < (K.U.length : Int) := by omega
    clear h hat huv hu hpk hsp huat hue hule hdv m0 m1 m3 c2
    generalize K.U.length = ul at *
    go_enter Tryz.func44, Tryz.ntmps44
    go_wp2_with fail
    go_quiet (fail)
    go_wp2_with fail
    go_quiet (fail)
    go_wp2_with fail
    go_ret
    exact ⟨rfl, _, World.drewN_drewN _ _ _⟩
  · obtain ⟨hne, hno⟩ := h.no hlt
    have hlti : ¬ (n : Int) < (K.U.length : Int) := by omega
    by_cases h0 : K.U.length = 0
    · have hp0 : p = 0 := h.zero (by omega)
      subst hp0
      rw [h0] at c0 hlti
      have hlt0 : ¬ n < 0 := by omega
      have hi0 : ((0 : Nat) : Int) = 0 := rfl
      clear h hat huv hno c2
      go_enter Tryz.func44, Tryz.ntmps44
      go_wp2_with fail
      go_quiet (fail)
      go_wp2_with fail
      go_ret
      exact ⟨rfl, _, rfl⟩
    · obtain ⟨m, hm⟩ : ∃ m, K.U.length = m + 1 := ⟨K.U.length - 1, by omega⟩
      have hu : K.U[m]? = some (K.U.getD m default) := getD_of_lt _ _ (by omega)
      have hue := h.last _ (by omega) (by rw [hne, hm, Nat.add_sub_cancel]; exact hu)
      obtain ⟨b, off, dv, rfl, hb1, hb2, m0, m1, m2, m3, hdv⟩ := hat m _ hu
      rw [hue] at m3
      have hne0 : ((K.U.length : Int) == 0) = false := by rw [beq_eq_false_iff_ne]; omega
      have hw1 : IntKind.i64.wrap ((K.U.length : Int) - 1) = m := by rw [IntKind.wrap_i64]; omega
      have hml : (m : Int) < (K.U.length : Int) := by omega
      have hm0 : (0 : Int) ≤ (m : Int) := by omega
      clear h hat huv hno c2 hu hue hdv m0 m1 m2 hm hne h0
      generalize K.U.length = ul at *
      go_enter Tryz.func44, Tryz.ntmps44
      go_wp2_with fail
      go_quiet (fail)
      go_wp2_with fail
      go_quiet (fail)
      go_wp2_with fail
      go_ret
      exact ⟨rfl, _, World.drewN_drewN _ _ _⟩

set_option maxRecDepth 100000 in
set_option maxHeartbeats 4000000 in
theorem kat2_any {K : KS} {R p n : Nat} {w : World} (bv : Value) (h : KRd K R w p n) (hn : 0 < n) :
    Calls Tryz.prog 47 #[.pointer (some ⟨R, 0, none⟩), bv] w fun e w' => e = .returned (.int .i64 p) ∧ ∃ nq, w' = w.drewN nq := by
  obtain ⟨ua, ucap, huv, hulc, hum, c0, c1, c2, _, hul, hat⟩ := h.open
  have hle := h.le
  obtain ⟨m, rfl⟩ : ∃ m, n = m + 1 := ⟨n - 1, by omega⟩
  have hu : K.U[m]? = some (K.U.getD m default) := getD_of_lt _ _ (by omega)
  have hue := h.last _ hn (by rw [Nat.add_sub_cancel]; exact hu)
  obtain ⟨b, off, dv, rfl, hb1, hb2, m0, m1, m2, m3, hdv⟩ := hat m _ hu
  rw [hue] at m3
  obtain ⟨M, hM⟩ : ∃ M : Int, ((m + 1 : Nat) : Int) = M := ⟨_, rfl⟩
  rw [hM] at c1
  have hw1 : IntKind.i64.wrap (M - 1) = m := by rw [IntKind.wrap_i64]; omega
  have hml : (m : Int) < (K.U.length : Int) := by omega
  have hm0 : (0 : Int) ≤ (m : Int) := by omega
  clear h hat huv c2 hu hue hdv m0 m1 m2 hle hM hn
  generalize K.U.length = ul at *
  go_enter Tryz.func47, Tryz.ntmps47
  go_wp2_with fail
  go_quiet (fail)
  go_wp2_with fail
  go_ret
  exact ⟨rfl, _, rfl⟩

/-- what end hands back -/
def KEndP (K : KS) (w : World) (E : Option Err) (e : Ending) (w' : World) : Prop :=
  Only [] w w' ∧ ∃ sa scap, e = .returned (.agg #[.int .i64 (codeE E), .slice sa (pathE E).length scap]) ∧ Cells 2 K.lo K.hi w' (.slice sa (pathE E).length scap) (pathE E).length (flat (pathE E))
set_option maxRecDepth 100000 in
set_option maxHeartbeats 4000000 in
theorem kend_any {K : KS} {R p n : Nat} {w : World} (h : KRd K R w p n) :
    Calls Tryz.prog 48 #[.pointer (some ⟨R, 0, none⟩)] w (KEndP K w (endR K.l p)) := by
  suffices key : ∀ Q : Ending → World → Prop, Hid (∀ e w', KEndP K w (endR K.l p) e w' → Q e w') → Calls Tryz.prog 48 #[.pointer (some ⟨R, 0, none⟩)] w Q from key _ (Lib.hid fun _ _ h => h)
  intro Q HPost
  have hRl := h.lt
  have hO := Only.new w (.cells #[.int .i64 0, .slice none 0 0] 42)
  obtain ⟨ua, ucap, huv, hulc, hum, c0, c1, c2, ⟨sa, scap, hsv, c3, hse⟩, hul, hat⟩ := (h.quiet hO).open
  have hn0 : (0 : Int) ≤ (n : Int) := by omega
  have rB := heap_alloc_new w (.cells #[.int .i64 0, .slice none 0 0] 42)
  by_cases hlt : n < K.U.length
  · obtain ⟨u, hu, _, hpl, hpk, _⟩ := h.next hlt
    have Hend : Hid (endR K.l p = some ⟨[], 5⟩) := Lib.hid (by unfold endR; rw [if_pos hpl, hpk])
    have hlti : (n : Int) < (K.U.length : Int) := by omega
    have HO := Lib.hid hO
    have RB := Lib.hid rB
    clear h hat huv hu hpk hsv hse c2 c3 hO rB
    generalize K.U.length = ul at *
    go_enter Tryz.func48, Tryz.ntmps48
    go_wp2_with fail
    go_quiet (fail)
    generalize hW : World.drewN _ _ = W
    have hOW : Only [] w W := by rw [← hW]; exact HO.out.drewN _
    have rW : W.heap[w.heap.size]? = some zErr := by rw [← hW]; exact RB.out
    clear hW c0 c1
    go_wp2_with fail
    go_at_call 36
    refine (fail_any _ _).mono ?_
    rintro e w1 ⟨rfl, hq1⟩
    have rW1 := hq1.row rW
    obtain ⟨m0, m1, f0, f1, hlt1⟩ := row2 rW1
    go_wp2_with fail
    generalize hWf : World.setCell _ _ _ = Wf
    obtain ⟨t0, t1, oF, _⟩ := set2r rW1 hWf
    refine bodyPost_ret (v := .agg #[.int .i64 5, .slice none 0 0]) (by simp [results, Tryz.results48, go_sem, t0, t1]) rfl (HPost.out _ _ ?_)
    unfold KEndP
    rw [Hend.out]
    exact ⟨(hOW.q hq1).tail1 oF (Nat.le_refl _), none, 0, rfl, Cells.nil _ _ _ _⟩
  · obtain ⟨hne, hno⟩ := h.no hlt
    have hlti : ¬ (n : Int) < (K.U.length : Int) := by omega
    have Hend : Hid (endR K.l p = K.E) := Lib.hid (by
      unfold endR
      rcases hno with ⟨h1, h2, h3⟩ | ⟨h1, er, h2, h3⟩
      · rw [if_neg (by omega), h2]
      · rw [if_pos h1, h3, h2])
    have HO := Lib.hid hO
    have RB := Lib.hid rB
    have HSe := Lib.hid hse
    have HHI := Lib.hid h.hiR
    clear h hat huv hsv hse hO rB hno hne
    generalize K.U.length = ul at *
    generalize hec : codeE K.E = ec at *
    generalize hpe : (pathE K.E).length = pe at *
    go_enter Tryz.func48, Tryz.ntmps48
    go_wp2_with fail
    go_quiet (fail)
    generalize hW : World.drewN _ _ = W
    have hOW : Only [] w W := by rw [← hW]; exact HO.out.drewN _
    have hOV : Only [] (w.alloc zErr) W := by rw [← hW]; exact (Only.refl _ _).drewN _
    have rW : W.heap[w.heap.size]? = some zErr := by rw [← hW]; exact RB.out
    have k2 := hOV.cell c2 (by simp)
    have k3 := hOV.cell c3 (by simp)
    obtain ⟨m0, m1, f0, f1, hlt1⟩ := row2 rW
    have HSe2 := Lib.hid (HSe.out.only hOV (by simp))
    clear hW c0 c1 c2 c3
    go_wp2_with fail
    generalize hWf : World.setCell _ _ _ = Wf
    obtain ⟨t0, t1, oF, _⟩ := set2r rW hWf
    refine bodyPost_ret (v := .agg #[.int .i64 ec, .slice sa pe scap]) (by simp [results, Tryz.results48, go_sem, t0, t1]) rfl (HPost.out _ _ ?_)
    unfold KEndP
    rw [Hend.out, hec, hpe]
    exact ⟨hOW.tail1 oF (Nat.le_refl _), sa, scap, rfl, HSe2.out.tail1 oF (.inr (by have := HHI.out; omega))⟩

set_option maxRecDepth 100000 in
set_option maxHeartbeats 4000000 in
theorem krfills_any {K : KS} {R p n : Nat} {w : World} (h : KRd K R w p n) :
    Calls Tryz.prog 86 #[.pointer (some ⟨R, 0, none⟩)] w fun e w' => e = .returned (.int .i64 (zeros (K.l.drop p))) ∧ KRd K R w' (p + zeros (K.l.drop p)) (n + zeros (K.l.drop p)) ∧ Only [R] w w' := by
  have hsm := h.small
  have hnl := h.nle
  go_enter Tryz.func86, Tryz.ntmps86
  go_wp2
  go_loopw [3] (fun c wr => ∃ k : Nat, c = .int .i64 k ∧ k ≤ K.U.length ∧ Hid (zeros (K.l.drop p) = k + zeros (K.l.drop (p + k))) ∧ KRd K R wr (p + k) (n + k) ∧ Only [R] w wr) (fun c _ => K.U.length - (intOf c).toNat)
  case atStart => exact ⟨0, rfl, by omega, Lib.hid (by simp), h, Only.refl _ _⟩
  case round =>
    obtain ⟨k, rfl, hkl, Hz, hrd, hO⟩ := hrel
    obtain ⟨m, hm⟩ : ∃ m, n + k = m := ⟨_, rfl⟩
    rw [hm] at hrd
    obtain ⟨ua, ucap, huv, hulc, hum, c0, c1, c2, _, hul, hat⟩ := hrd.open
    have hn0 : (0 : Int) ≤ (m : Int) := by omega
    have hle := hrd.le
    by_cases hlt : m < K.U.length
    · obtain ⟨u, hu, _, hpl, hpk, hsp, huat, hue, hule, huk0, huk1⟩ := hrd.next hlt
      obtain ⟨b, off, dv, rfl, hb1, hb2, m0, m1, m2, m3, hdv⟩ := hat _ u hu
      obtain ⟨hz1, hz2⟩ := peekR_zero hpk
      have hlti : (m : Int) < (K.U.length : Int) := by omega
      by_cases hkk : u.kind = 0
      · have hue2 := hz2 hkk
        have Hz2 : Hid (zeros (K.l.drop p) = (k + 1) + zeros (K.l.drop (p + (k + 1)))) := Lib.hid (by
          rw [Hz.out, zeros_drop hpl, if_pos (hz1.1 hkk)]; rw [show p + (k + 1) = p + k + 1 by omega]; omega)
        have hset : ∀ W, Only [] wr W → KRd K R (W.setCell ⟨R, 1, none⟩ (.int .i64 ((m : Int) + 1))) (p + (k + 1)) (n + (k + 1)) := by
          rintro W hOW
          rw [hue2] at hsp
          rw [show p + (k + 1) = p + k + 1 by omega, show n + (k + 1) = m + 1 by omega]
          exact (hrd.quiet hOW).set (n' := m + 1) (p' := p + k + 1) hsp (by omega) (by omega) (fun u' _ h => by rw [Nat.add_sub_cancel, hu] at h; injection h with h; rw [← h, hue2]) (by omega)
        have Hset := Lib.hid hset
        have kf := frozen_of_row wr R 1 _ _ hrd.row
        rw [hkk] at m0
        have Hk1 : Hid (k + 1 ≤ K.U.length) := Lib.hid (by omega)
        have hk0 : (0 : Int) ≤ (k : Int) := by omega
        have hkb : (k : Int) ≤ 1000000000000 := by omega
        have hmb : (m : Int) ≤ 1000000000000 := by omega
        have HO := Lib.hid hO
        have Hm := Lib.hid hm
        clear hset hrd hat huv hu hpk hsp huat hue hule huk0 huk1 hdv m1 m2 m3 c2 hz1 hz2 hkk hue2 hO hm
        go_wp2_with fail
        go_quiet (fail)
        go_wp2_with fail
        go_roundw
        case rel => exact ⟨k + 1, by go_num, Hk1.out, Hz2, Hset.out _ ((Only.refl _ _).drewN _), (HO.out.drewN _).setCell (by simp) _⟩
        case measure => have := Hk1.out; simp [intOf]; omega
      · have hkb : (u.kind == 0) = false := by rw [beq_eq_false_iff_ne]; exact hkk
        have Hz2 : Hid (zeros (K.l.drop p) = k) := Lib.hid (by
          rw [Hz.out, zeros_drop hpl, if_neg (fun h => hkk (hz1.2 h))]; rfl)
        have Hrd := Lib.hid hrd
        have HO := Lib.hid hO
        have Hm := Lib.hid hm
        clear hrd hat huv hu hpk hsp huat hue hule huk0 huk1 hdv m1 m2 m3 c2 hz1 hz2 hO hm hkk
        generalize u.kind = q at *
        go_wp2_with fail
        go_quiet (fail)
        go_wp2_with fail
        go_ret
        rw [Hz2.out, Hm.out]
        exact ⟨rfl, Hrd.out.quiet ((Only.refl _ _).drewN _), HO.out.drewN _⟩
    · obtain ⟨hne, hno⟩ := hrd.no hlt
      have Hz2 : Hid (zeros (K.l.drop p) = k) := Lib.hid (by
        rw [Hz.out]
        rcases hno with ⟨h1, _⟩ | ⟨h1, er, _, h2⟩
        · rw [h1, List.drop_length]; rfl
        · rw [zeros_drop h1, if_neg (peekR_nonzero h1 h2)]; rfl)
      have hlti : ¬ (m : Int) < (K.U.length : Int) := by omega
      have hltb : decide ((m : Int) < (K.U.length : Int)) = false := by simpa using hlti
      have Hrd := Lib.hid hrd
      have HO := Lib.hid hO
      have Hm := Lib.hid hm
      clear hrd hat huv c2 hO hm hno hne
      go_wp2_with fail
      go_quiet (fail)
      go_wp2_with fail
      go_ret
      rw [Hz2.out, Hm.out]
      exact ⟨rfl, Hrd.out.quiet ((Only.refl _ _).drewN _), HO.out.drewN _⟩
#print axioms krfills_any
#print axioms kend_any
#print axioms kat_any
#print axioms kat2_any
end Go.Proofs.YtmbjehnddgcboaaGreatDoor
