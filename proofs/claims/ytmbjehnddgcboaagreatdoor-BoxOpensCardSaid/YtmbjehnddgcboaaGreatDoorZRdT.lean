/- Joined texts: RdT. Conditions: each part names its own. -/
import Derived.Test.YtmbjehnddgcboaaGreatDoorZRdA
/- The reader of box: part. Conditions: the reader lies in a block behind its bytes. -/
namespace Go.Proofs.YtmbjehnddgcboaaGreatDoor
open Go.RowKit
set_option linter.unusedVariables false
set_option linter.unusedSimpArgs false

def partR (l : List Int) (p n : Nat) (num first left behind : Int) : (Except Err (Entry × List Coded × List Int)) × Nat × Nat :=
  match nextR l p 17 3 with
  | .error e => (.error e, p, n)
  | .ok u =>
    if u.data.getD 0 0 ≠ num ∨ u.data.getD 1 0 ≠ first ∨ u.data.getD 2 0 < 1 ∨ left - behind < u.data.getD 2 0 ∨ (behind = 0 ∧ u.data.getD 2 0 ≠ left) then (.error ⟨[], 2⟩, p, n)
    else (match (framesR l (u.data.getD 2 0).toNat 0 u.end_ (n + 1)).1 with
      | .error e => .error e
      | .ok x => .ok (⟨first, u.data.getD 2 0, p, ((framesR l (u.data.getD 2 0).toNat 0 u.end_ (n + 1)).2.1 : Int) - p⟩, x.1, x.2), (framesR l (u.data.getD 2 0).toNat 0 u.end_ (n + 1)).2)
def PartP (R : Nat) (bv : Value) (w : World) (r : (Except Err (Entry × List Coded × List Int)) × Nat × Nat) (e : Ending) (w' : World) : Prop :=
  Only [R] w w' ∧ Rd R bv w' r.2.1 r.2.2 ∧ match r.1 with
    | .ok x => ∃ cv fv, e = .returned (.tuple #[.agg #[.int .i64 x.1.first, .int .i64 x.1.count, .int .i64 x.1.offset, .int .i64 x.1.length], cv, fv, .nilIface]) ∧ OwnC w.heap.size w' cv x.2.1 (fun b => fv.ownBlock = some b) ∧ Own .i64 3 w.heap.size w' fv x.2.2
    | .error er => ∃ (a b c d : Int) (ev : Value), e = .returned (.tuple #[.agg #[.int .i64 a, .int .i64 b, .int .i64 c, .int .i64 d], .slice none 0 0, .slice none 0 0, ev]) ∧ ErrV w.heap.size w'.heap.size w' ev er
theorem end4' {w1 Wf : World} {g : Nat} {a b c d v0 v1 v2 v3 : Value} {t : TypeId} (r : w1.heap[g]? = some (.cells #[a, b, c, d] t (0, 0)))
    (h : ((((w1.setCell ⟨g, 0, none⟩ v0).setCell ⟨g, 1, none⟩ v1).setCell ⟨g, 2, none⟩ v2).setCell ⟨g, 3, none⟩ v3) = Wf) :
    (Wf.cell? ⟨g, 0, none⟩ = some v0 ∧ Wf.cell? ⟨g, 1, none⟩ = some v1 ∧ Wf.cell? ⟨g, 2, none⟩ = some v2 ∧ Wf.cell? ⟨g, 3, none⟩ = some v3) ∧ Only [g] w1 Wf := by
  have r2 := row4 (v0 := v0) (v1 := v1) (v2 := v2) (v3 := v3) r
  have o : Only [g] w1 ((((w1.setCell ⟨g, 0, none⟩ v0).setCell ⟨g, 1, none⟩ v1).setCell ⟨g, 2, none⟩ v2).setCell ⟨g, 3, none⟩ v3) := ((((Only.refl _ _).setCell (by simp) _).setCell (by simp) _).setCell (by simp) _).setCell (by simp) _
  rw [h] at r2 o
  exact ⟨row4_cells r2, o⟩

set_option maxRecDepth 100000 in
set_option maxHeartbeats 8000000 in
theorem rpart_any {lo hi R p n : Nat} {bv : Value} {l : List Int} {w : World} (num first left behind : Int) (hr : Rd R bv w p n) (h : Ints .u8 lo hi w bv l) (hR : hi ≤ R) (hp : p ≤ l.length) (hn : n ≤ p) (hl : l.length ≤ 1000000000000)
    (hL : -1000000 ≤ left ∧ left ≤ 1000000) (hB : -1000000 ≤ behind ∧ behind ≤ 1000000) :
    Calls Tryz.prog 62 #[.pointer (some ⟨R, 0, none⟩), .int .i64 num, .int .i64 first, .int .i64 left, .int .i64 behind] w (PartP R bv w (partR l p n num first left behind)) := by
  have hRl := hr.lt
  have H := Lib.hid (fun w' (o : Only [] w w') => rnext_any 17 3 (hr.quiet o) (h.quiet o) hp)
  have HR := Lib.hid hr
  have Hh := Lib.hid h
  have Hl := Lib.hid hl
  have hr8 := h.2
  clear hr h
  cases hres : nextR l p 17 3 with
  | error er =>
    have hfin : partR l p n num first left behind = (.error er, p, n) := by unfold partR; rw [hres]
    have Hfin := Lib.hid hfin
    have Hres := Lib.hid hres
    clear hfin hres hr8
    go_enter Tryz.func62, Tryz.ntmps62
    go_wp2_with (first
      | (go_at_call 79; refine (H.out _ (Only.new _ _)).mono ?_; rintro e w1 hP; rw [Hres.out] at hP; obtain ⟨hq, ev, rfl, hev⟩ := hP; obtain ⟨et, eu, rfl⟩ := hev.held; have rI := hq.fresh; obtain ⟨m0, m1, m2, m3⟩ := row4_cells rI; have k0 := frozen_of_row w1 w.heap.size 0 _ _ rI; have k1 := frozen_of_row w1 w.heap.size 1 _ _ rI; have k2 := frozen_of_row w1 w.heap.size 2 _ _ rI; have k3 := frozen_of_row w1 w.heap.size 3 _ _ rI; have hwl : w.heap.size < w1.heap.size := (Array.getElem?_eq_some_iff.1 rI).1; clear rI)
      | fail)
    generalize hWf : World.alloc _ _ = Wf
    obtain ⟨⟨t0, t1, t2, t3⟩, hO2⟩ := end4 hq hWf
    refine bodyPost_ret (v := .tuple #[.agg #[.int .i64 0, .int .i64 0, .int .i64 0, .int .i64 0], .slice none 0 0, .slice none 0 0, .iface et eu]) (by simp [results, Tryz.results62, go_sem, t0, t1, t2, t3]) rfl ?_
    unfold PartP
    rw [Hfin.out]
    have hA : Only [] w Wf := ((Only.new _ _).q hq).trans hO2 (by simp) (by simp)
    exact ⟨hA.mono (by simp), HR.out.quiet hA, _, _, _, _, _, rfl, (hev.only hO2 (by simp)).mono (by simp) hO2.size⟩
  | ok u =>
    obtain ⟨hpk, huk, hul⟩ := nextR_peek hres
    have hpe := peekR_ok hpk hp hr8
    have hdr := peekR_in hpk hr8
    obtain ⟨uk, ud, ua, ue⟩ := u
    simp only at huk hul hpe hdr
    subst huk
    have hul3 : ud.length = 3 := by omega
    obtain ⟨hua, hue1, hue2, hk0, hk1, hud⟩ := hpe
    have hua2 := hua.symm
    subst hua2
    clear hua
    have hr0 := ints_range hdr (i := 0) (by omega)
    have hr1 := ints_range hdr (i := 1) (by omega)
    have hr2 := ints_range hdr (i := 2) (by omega)
    have hA : partR l p n num first left behind = (if ud.getD 0 0 ≠ num ∨ ud.getD 1 0 ≠ first ∨ ud.getD 2 0 < 1 ∨ left - behind < ud.getD 2 0 ∨ (behind = 0 ∧ ud.getD 2 0 ≠ left) then (.error ⟨[], 2⟩, p, n)
        else (match (framesR l (ud.getD 2 0).toNat 0 ue (n + 1)).1 with
          | .error e => .error e
          | .ok x => .ok (⟨first, ud.getD 2 0, p, ((framesR l (ud.getD 2 0).toNat 0 ue (n + 1)).2.1 : Int) - p⟩, x.1, x.2), (framesR l (ud.getD 2 0).toNat 0 ue (n + 1)).2)) := by unfold partR; rw [hres]
    have HA := Lib.hid hA
    have Hres := Lib.hid hres
    have Hul := Lib.hid hul3
    have Hr8 := Lib.hid hr8
    clear hA hres hpk hul hdr hr8 hul3
    have HC : ∀ (w1 : World) (db doff : Nat), (∀ i, i < ud.length → w1.cell? ⟨db, doff + i, none⟩ = some (.int .u8 (ud.getD i 0))) → Hid (w1.cell? ⟨db, doff, none⟩ = some (.int .u8 (ud.getD 0 0)) ∧ w1.cell? ⟨db, doff + 1, none⟩ = some (.int .u8 (ud.getD 1 0)) ∧ w1.cell? ⟨db, doff + 2, none⟩ = some (.int .u8 (ud.getD 2 0))) := fun w1 db doff h =>
      Lib.hid ⟨h 0 (by have := Hul.out; omega), h 1 (by have := Hul.out; omega), h 2 (by have := Hul.out; omega)⟩
    have HCC := Lib.hid HC
    clear HC
    generalize ud.getD 0 0 = x0 at *
    generalize ud.getD 1 0 = x1 at *
    generalize ud.getD 2 0 = x2 at *
    have hw0 : IntKind.i64.wrap x0 = x0 := wraps_i64 _ hr0.1 (by omega)
    have hw1 : IntKind.i64.wrap x1 = x1 := wraps_i64 _ hr1.1 (by omega)
    have hw2 : IntKind.i64.wrap x2 = x2 := wraps_i64 _ hr2.1 (by omega)
    go_enter Tryz.func62, Tryz.ntmps62
    go_wp2_with (first
      | (go_at_call 79; refine (H.out _ (Only.new _ _)).mono ?_; rintro e w1 hP; rw [Hres.out] at hP; obtain ⟨hq, dv, rfl, hdv⟩ := hP; have hdv : Ints .u8 (w.heap.size + 1) w1.heap.size w1 dv ud := (by simpa using hdv); obtain ⟨da, dcap, rfl, hdc, _, hat, hcl⟩ := hdv.open; simp only; obtain ⟨db, doff, rfl, hdb1, hdb2⟩ := hat 0 (by have := Hul.out; omega); have hcl := hcl db doff rfl; have Hcl := Lib.hid hcl; rw [Hul.out]; clear hdv hat hcl)
      | fail)
    generalize hW3 : World.alloc w1 _ = W3
    have hqU : Only [] w1 W3 := by rw [← hW3]; exact Only.new _ _
    have rU : W3.heap[w1.heap.size]? = some (.cells #[.int .i64 17, .slice (some ⟨db, doff, none⟩) 3 dcap, .int .i64 p, .int .i64 ue] 106 (0, 0)) := by rw [← hW3]; exact heap_alloc_new _ _
    obtain ⟨c0, c1, c2⟩ := (HCC.out W3 db doff (fun i hi => hqU.cell (Hcl.out i hi) (by simp))).out
    obtain ⟨a0, a1, a2, a3⟩ := row4_cells rU
    have hr3 := HR.out.quiet (((Only.new _ _).q hq).q hqU)
    have b1 := hr3.c1
    have RI := Lib.hid (hqU.rowAt hq.fresh (by simp))
    have RU := Lib.hid rU
    have HqU := Lib.hid hqU
    have Hr3 := Lib.hid hr3
    have hW3s : W3.heap.size = w1.heap.size + 1 := by rw [← hW3]; simp
    have HW3s := Lib.hid hW3s
    clear hW3 hqU rU hr3 hW3s HCC Hcl
    go_wp2_with fail
    go_region_held3 (fun w' => (w'.cell? ⟨db, doff + 2, none⟩ = some (.int .u8 x2) ∧ w'.cell? ⟨w1.heap.size, 1, none⟩ = some (.slice (some ⟨db, doff, none⟩) 3 dcap) ∧ w'.cell? ⟨R, 1, none⟩ = some (.int .i64 p)))
      (first | (simp [*, World.cell?_alloc_some, World.cell?_setCell_far, frozen?_alloc_cells, frozen_drew, World.frozen?_setCell]) | fail)
      (fail)
    generalize hW4 : World.drew _ = W4
    have hqI : Only [] W3 W4 := by rw [← hW4]; exact (Only.new _ _).drew
    have rE : W4.heap[W3.heap.size]? = some (.cells #[.int .i64 first, .int .i64 x2, .int .i64 p, .int .i64 0] 59 (0, 0)) := by rw [← hW4]; exact heap_alloc_new' rfl
    have RE := Lib.hid rE
    have RI4 := Lib.hid (hqI.rowAt RI.out (by simp))
    have RU4 := Lib.hid (hqI.rowAt RU.out (by simp))
    have HO4 := Lib.hid ((((Only.new _ _).q hq).q HqU.out).q hqI)
    obtain ⟨e0, e1, e2, e3⟩ := row4_cells rE
    obtain ⟨u0, u1, u2, u3⟩ := row4_cells RU4.out
    obtain ⟨m0, m1, m2, m3⟩ := row4_cells RI4.out
    have k0 := frozen_of_row W4 w.heap.size 0 _ _ RI4.out
    have k1 := frozen_of_row W4 w.heap.size 1 _ _ RI4.out
    have k2 := frozen_of_row W4 w.heap.size 2 _ _ RI4.out
    have k3 := frozen_of_row W4 w.heap.size 3 _ _ RI4.out
    have d0 := hqI.cell c0 (by simp)
    have d1 := hqI.cell c1 (by simp)
    have HZ : Hid (w.heap.size < W3.heap.size) := Lib.hid (by have := HW3s.out; have := hq.size; simp at this; omega)
    clear hqI rE hW4 c0 c1 c2 a0 a1 a2 a3 b1
    have hsub : -2000000 ≤ left - behind ∧ left - behind ≤ 2000000 := by omega
    by_cases hbad : x0 ≠ num ∨ x1 ≠ first ∨ x2 < 1 ∨ left - behind < x2 ∨ (behind = 0 ∧ x2 ≠ left)
    · have hfin : partR l p n num first left behind = (.error ⟨[], 2⟩, p, n) := by rw [HA.out, if_pos hbad]
      have Hfin := Lib.hid hfin
      clear hfin
      have hc : (x0 != num) = true ∨ ((x0 != num) = false ∧ ((x1 != first) = true ∨ ((x1 != first) = false ∧ (x2 < 1 ∨ (¬ x2 < 1 ∧ (left - behind < x2 ∨ (¬ left - behind < x2 ∧ (behind == 0) = true ∧ (x2 != left) = true))))))) := by
        by_cases h0 : x0 = num
        · refine .inr ⟨by simp [h0], ?_⟩
          by_cases h1 : x1 = first
          · refine .inr ⟨by simp [h1], ?_⟩
            by_cases h2 : x2 < 1
            · exact .inl h2
            refine .inr ⟨h2, ?_⟩
            by_cases h3 : left - behind < x2
            · exact .inl h3
            refine .inr ⟨h3, ?_⟩
            rcases hbad with h | h | h | h | ⟨h, h'⟩
            · exact absurd h0 h
            · exact absurd h1 h
            · exact absurd h h2
            · exact absurd h h3
            · exact ⟨by simp [h], by simpa using h'⟩
          · exact .inl (by simpa using h1)
        · exact .inl (by simpa using h0)
      clear hbad
      rcases hc with h1 | ⟨h1, h2 | ⟨h2, h3 | ⟨h3, h4 | ⟨h4, h5, h6⟩⟩⟩⟩
      all_goals
        go_wp2_with fail
        generalize hWf : World.setCell _ _ _ = Wf
        obtain ⟨⟨t0, t1, t2, t3⟩, hO2⟩ := end4' RI4.out hWf
        refine bodyPost_ret (v := .tuple #[.agg #[.int .i64 0, .int .i64 0, .int .i64 0, .int .i64 0], .slice none 0 0, .slice none 0 0, .iface 39 (.int .i64 2)]) (by simp [results, Tryz.results62, go_sem, t0, t1, t2, t3]) rfl ?_
        unfold PartP
        rw [Hfin.out]
        have hA : Only [] w Wf := HO4.out.trans hO2 (by simp) (by simp)
        exact ⟨hA.mono (by simp), HR.out.quiet hA, _, _, _, _, _, rfl, rfl⟩
    · have hg0 : x0 = num := Decidable.not_not.1 fun h => hbad (.inl h)
      have hg1 : x1 = first := Decidable.not_not.1 fun h => hbad (.inr (.inl h))
      have hg2 : ¬ x2 < 1 := fun h => hbad (.inr (.inr (.inl h)))
      have hg3 : ¬ left - behind < x2 := fun h => hbad (.inr (.inr (.inr (.inl h))))
      have hg4 : (behind == 0) = false ∨ ((behind == 0) = true ∧ (x2 != left) = false) := by
        by_cases h : behind = 0
        · refine .inr ⟨by simp [h], ?_⟩
          have : x2 = left := Decidable.not_not.1 fun h' => hbad (.inr (.inr (.inr (.inr ⟨h, h'⟩))))
          simp [this]
        · exact .inl (by simpa using h)
      subst hg0; subst hg1
      obtain ⟨c, rfl⟩ := Int.eq_ofNat_of_zero_le hr2.1
      have hA2 := HA.out
      rw [if_neg hbad, Int.toNat_natCast] at hA2
      have hfp := framesR_pos Hr8.out c 0 ue (n + 1) (by omega) (by omega)
      clear hbad
      generalize hfr : framesR l c 0 ue (n + 1) = FR at *
      obtain ⟨fr, fp, fn⟩ := FR
      have Hfr := Lib.hid hfr
      simp only at hA2 hfp
      clear hfr HA
      have hfpi : (fp : Int) ≤ 1000000000000 := by have := Hl.out; omega
      have hppi : (p : Int) ≤ 1000000000000 := by have := Hl.out; omega
      have hwf : IntKind.i64.wrap ((fp : Int) - (p : Int)) = (fp : Int) - (p : Int) := wraps_i64 _ (by omega) (by omega)
      cases fr with
      | error er =>
        simp only at hA2
        have Hfin := Lib.hid hA2
        clear hA2
        rcases hg4 with hg4 | ⟨hg4, hg5⟩
        all_goals
          go_wp2_with (first
            | (go_at_call 81; refine (pass_any _ _ _ _ _ (n := n) (e_ := ue) (HR.out.quiet HO4.out) (by omega)).mono ?_; rintro e w5 ⟨rfl, hr5, hq5⟩; have rE5 := hq5.rowAt RE.out (by simp; have := HZ.out; omega); obtain ⟨v0, v1, v2, v3⟩ := row4_cells rE5; have hO5 : Only [R] w w5 := (HO4.out.mono (U := [R]) (by simp)).trans hq5 (fun g h _ => h) (fun g h _ => h); have HF := Lib.hid (rframes_any c hr5 (Hh.out.only hO5 (by intro g hg; rw [List.mem_singleton] at hg; omega)) hR (by omega) (by omega) Hl.out (by omega)); have RE5 := Lib.hid rE5; clear hr5 rE5)
            | (go_at_call 82; refine HF.out.mono ?_; rintro e w6 hP; unfold FramesP at hP; rw [Hfr.out] at hP; obtain ⟨hq6, hr6, ev, rfl, hev⟩ := hP; obtain ⟨et, eu, rfl⟩ := hev.held; have rE6 := hq6.rowAt RE5.out (by simp; have := HZ.out; omega); have rI6 := hq6.rowAt (hq5.rowAt RI4.out (by simp; omega)) (by simp; omega); obtain ⟨g0, g1, g2, g3⟩ := row4_cells rE6; have g4 := frozen_of_row w6 W3.heap.size 3 _ _ rE6; have RE6 := Lib.hid rE6; have RI6 := Lib.hid rI6; have b1 := hr6.c1; have Hr6 := Lib.hid hr6; clear rE6 rI6 hr6)
            | fail)
          have hRE : ¬ R = W3.heap.size := by have := HZ.out; omega
          have hRE' : ¬ W3.heap.size = R := by have := HZ.out; omega
          have hcR : ∀ u, (w6.setCell ⟨W3.heap.size, 3, none⟩ u).cell? ⟨R, 1, none⟩ = some (.int .i64 fp) := fun u => by rw [World.cell?_setCell_other _ _ _ _ (by simp [hRE, hRE'])]; exact b1
          have hcE : ∀ u, (w6.setCell ⟨W3.heap.size, 3, none⟩ u).cell? ⟨W3.heap.size, 2, none⟩ = some (.int .i64 p) := fun u => by rw [World.cell?_setCell_other _ _ _ _ (by simp)]; exact g2
          go_region_held3 (fun w' => w'.cell? ⟨R, 1, none⟩ = some (.int .i64 fp) ∧ w'.cell? ⟨W3.heap.size, 2, none⟩ = some (.int .i64 p))
            (first | (go_split_ands; exact ⟨hcR _, hcE _⟩) | (simp [*, World.cell?_alloc_some, World.cell?_setCell_far, frozen?_alloc_cells, frozen_drew, World.frozen?_setCell]) | fail)
            (fail)
          generalize hW7 : World.drew _ = W7
          have hS7 : Only [W3.heap.size] w6 W7 := by rw [← hW7]; exact ((Only.refl _ _).setCell (by simp) _).drew
          have rE7 : W7.heap[W3.heap.size]? = some (.cells #[.int .i64 x1, .int .i64 c, .int .i64 p, .int .i64 ((fp : Int) - p)] 59 (0, 0)) := by rw [← hW7]; exact heap_setCell_same w6 W3.heap.size 3 _ _ (.int .i64 ((fp : Int) - p)) RE6.out
          have rI7 := hS7.rowAt RI6.out (by simp; have := HZ.out; omega)
          obtain ⟨n0, n1, n2, n3⟩ := row4_cells rE7
          obtain ⟨y0, y1, y2, y3⟩ := row4_cells rI7
          have k0 := frozen_of_row W7 w.heap.size 0 _ _ rI7
          have k1 := frozen_of_row W7 w.heap.size 1 _ _ rI7
          have k2 := frozen_of_row W7 w.heap.size 2 _ _ rI7
          have k3 := frozen_of_row W7 w.heap.size 3 _ _ rI7
          have RI7 := Lib.hid rI7
          clear hW7 rE7 rI7
          go_wp2_with fail
          generalize hWf : World.setCell _ _ _ = Wf
          obtain ⟨⟨t0, t1, t2, t3⟩, hO2⟩ := end4' RI7.out hWf
          refine bodyPost_ret (v := .tuple #[.agg #[.int .i64 x1, .int .i64 c, .int .i64 p, .int .i64 ((fp : Int) - p)], .slice none 0 0, .slice none 0 0, .iface et eu]) (by simp [results, Tryz.results62, go_sem, t0, t1, t2, t3]) rfl ?_
          unfold PartP
          rw [Hfin.out]
          have hO6 : Only [R] w w6 := hO5.trans hq6 (fun g h _ => h) (fun g h _ => h)
          have hz := HZ.out
          have hO7 : Only [R] w W7 := hO6.trans hS7 (fun g h _ => h) (fun g hg hlt => absurd (List.mem_singleton.1 hg) (by omega))
          have hO8 : Only [R] w Wf := hO7.trans hO2 (fun g h _ => h) (fun g hg hlt => absurd (List.mem_singleton.1 hg) (by omega))
          have hr8' := (Hr6.out.only hS7 (by simp; omega)).only hO2 (by simp; omega)
          have hz5 := hO5.size
          have hz4 := HO4.out.size
          have hzw := (Array.getElem?_eq_some_iff.1 RE5.out).1
          exact ⟨hO8, hr8', _, _, _, _, _, rfl, ((hev.only hS7 (by intro g hg; rw [List.mem_singleton] at hg; omega)).only hO2 (by intro g hg; rw [List.mem_singleton] at hg; omega)).mono hz5 (by have := hS7.size; have := hO2.size; omega)⟩
      | ok x =>
        obtain ⟨cs, fs⟩ := x
        simp only at hA2
        have Hfin := Lib.hid hA2
        clear hA2
        rcases hg4 with hg4 | ⟨hg4, hg5⟩
        all_goals
          go_wp2_with (first
            | (go_at_call 81; refine (pass_any _ _ _ _ _ (n := n) (e_ := ue) (HR.out.quiet HO4.out) (by omega)).mono ?_; rintro e w5 ⟨rfl, hr5, hq5⟩; have rE5 := hq5.rowAt RE.out (by simp; have := HZ.out; omega); obtain ⟨v0, v1, v2, v3⟩ := row4_cells rE5; have hO5 : Only [R] w w5 := (HO4.out.mono (U := [R]) (by simp)).trans hq5 (fun g h _ => h) (fun g h _ => h); have HF := Lib.hid (rframes_any c hr5 (Hh.out.only hO5 (by intro g hg; rw [List.mem_singleton] at hg; omega)) hR (by omega) (by omega) Hl.out (by omega)); have RE5 := Lib.hid rE5; clear hr5 rE5)
            | (go_at_call 82; refine HF.out.mono ?_; rintro e w6 hP; unfold FramesP at hP; rw [Hfr.out] at hP; obtain ⟨hq6, hr6, cv, fv, rfl, hoc, hof⟩ := hP; have Hoc := Lib.hid hoc; have Hof := Lib.hid hof; clear hoc hof; have rE6 := hq6.rowAt RE5.out (by simp; have := HZ.out; omega); have rI6 := hq6.rowAt (hq5.rowAt RI4.out (by simp; omega)) (by simp; omega); obtain ⟨g0, g1, g2, g3⟩ := row4_cells rE6; have g4 := frozen_of_row w6 W3.heap.size 3 _ _ rE6; have RE6 := Lib.hid rE6; have RI6 := Lib.hid rI6; have b1 := hr6.c1; have Hr6 := Lib.hid hr6; clear rE6 rI6 hr6)
            | fail)
          have hRE : ¬ R = W3.heap.size := by have := HZ.out; omega
          have hRE' : ¬ W3.heap.size = R := by have := HZ.out; omega
          have hcR : ∀ u, (w6.setCell ⟨W3.heap.size, 3, none⟩ u).cell? ⟨R, 1, none⟩ = some (.int .i64 fp) := fun u => by rw [World.cell?_setCell_other _ _ _ _ (by simp [hRE, hRE'])]; exact b1
          have hcE : ∀ u, (w6.setCell ⟨W3.heap.size, 3, none⟩ u).cell? ⟨W3.heap.size, 2, none⟩ = some (.int .i64 p) := fun u => by rw [World.cell?_setCell_other _ _ _ _ (by simp)]; exact g2
          go_region_held3 (fun w' => w'.cell? ⟨R, 1, none⟩ = some (.int .i64 fp) ∧ w'.cell? ⟨W3.heap.size, 2, none⟩ = some (.int .i64 p))
            (first | (go_split_ands; exact ⟨hcR _, hcE _⟩) | (simp [*, World.cell?_alloc_some, World.cell?_setCell_far, frozen?_alloc_cells, frozen_drew, World.frozen?_setCell]) | fail)
            (fail)
          generalize hW7 : World.drew _ = W7
          have hS7 : Only [W3.heap.size] w6 W7 := by rw [← hW7]; exact ((Only.refl _ _).setCell (by simp) _).drew
          have rE7 : W7.heap[W3.heap.size]? = some (.cells #[.int .i64 x1, .int .i64 c, .int .i64 p, .int .i64 ((fp : Int) - p)] 59 (0, 0)) := by rw [← hW7]; exact heap_setCell_same w6 W3.heap.size 3 _ _ (.int .i64 ((fp : Int) - p)) RE6.out
          have rI7 := hS7.rowAt RI6.out (by simp; have := HZ.out; omega)
          obtain ⟨n0, n1, n2, n3⟩ := row4_cells rE7
          obtain ⟨y0, y1, y2, y3⟩ := row4_cells rI7
          have k0 := frozen_of_row W7 w.heap.size 0 _ _ rI7
          have k1 := frozen_of_row W7 w.heap.size 1 _ _ rI7
          have k2 := frozen_of_row W7 w.heap.size 2 _ _ rI7
          have k3 := frozen_of_row W7 w.heap.size 3 _ _ rI7
          have RI7 := Lib.hid rI7
          clear hW7 rE7 rI7
          go_wp2_with fail
          generalize hWf : World.setCell _ _ _ = Wf
          obtain ⟨⟨t0, t1, t2, t3⟩, hO2⟩ := end4' RI7.out hWf
          refine bodyPost_ret (v := .tuple #[.agg #[.int .i64 x1, .int .i64 c, .int .i64 p, .int .i64 ((fp : Int) - p)], cv, fv, .nilIface]) (by simp [results, Tryz.results62, go_sem, t0, t1, t2, t3]) rfl ?_
          unfold PartP
          rw [Hfin.out]
          have hO6 : Only [R] w w6 := hO5.trans hq6 (fun g h _ => h) (fun g h _ => h)
          have hz := HZ.out
          have hO7 : Only [R] w W7 := hO6.trans hS7 (fun g h _ => h) (fun g hg hlt => absurd (List.mem_singleton.1 hg) (by omega))
          have hO8 : Only [R] w Wf := hO7.trans hO2 (fun g h _ => h) (fun g hg hlt => absurd (List.mem_singleton.1 hg) (by omega))
          have hr8' := (Hr6.out.only hS7 (by simp; omega)).only hO2 (by simp; omega)
          have hz5 := hO5.size
          have hz4 := HO4.out.size
          have hzw := (Array.getElem?_eq_some_iff.1 RE5.out).1
          exact ⟨hO8, hr8', cv, fv, rfl, (((Hoc.out.only hS7 (by intro g hg; rw [List.mem_singleton] at hg; omega)).only hO2 (by intro g hg; rw [List.mem_singleton] at hg; omega)).lower hz5), (((Hof.out.only hS7 (by intro g hg; rw [List.mem_singleton] at hg; exact fun e => by have := (Hof.out.at _ e).1; omega)).only hO2 (by intro g hg; rw [List.mem_singleton] at hg; exact fun e => by have := (Hof.out.at _ e).1; omega)).lower hz5)⟩
end Go.Proofs.YtmbjehnddgcboaaGreatDoor
