/- Joined texts: RdW, Open, Opens, OpenL, Sizes. Conditions: each part names its own. -/
import Derived.Test.YtmbjehnddgcboaaGreatDoorZRdL
import Derived.StillTailTactics
import Derived.Deep.RegionWith
import Derived.Test.YtmbjehnddgcboaaGreatDoorC2
import Derived.Test.YtmbjehnddgcboaaGreatDoorC5
/- The reader of box: all. Conditions: the reader lies in a block behind its bytes, at their beginning. -/
namespace Go.Proofs.YtmbjehnddgcboaaGreatDoor
open Go.RowKit
set_option linter.unusedVariables false
set_option linter.unusedSimpArgs false

def AllP (R : Nat) (bv : Value) (w : World) (r : (Except Err WholeD) × Nat × Nat) (e : Ending) (w' : World) : Prop :=
  Only [R] w w' ∧ Rd R bv w' r.2.1 r.2.2 ∧ match r.1 with
    | .ok x => ∃ pv cv fv, e = .returned (.tuple #[infoV x.head.W x.head.H x.head.F x.head.c pv, cv, fv, .nilIface]) ∧ OwnE w.heap.size w' pv x.parts ∧ OwnC w.heap.size w' cv x.coded (fun b => fv.ownBlock = some b ∨ pv.ownBlock = some b) ∧ Own .i64 3 w.heap.size w' fv x.fills ∧ Sep fv pv
    | .error er => ∃ ev, e = .returned (.tuple #[infoV 0 0 0 cfg0 (.slice none 0 0), .slice none 0 0, .slice none 0 0, ev]) ∧ ErrV w.heap.size w'.heap.size w' ev er

theorem OwnE.isSlice {base : Nat} {w : World} {v : Value} {l : List Entry} (h : OwnE base w v l) : ∃ a cap, v = .slice a l.length cap := by
  obtain ⟨_, a, cap, rfl, _⟩ := Cells.of_own h
  exact ⟨a, cap, rfl⟩
theorem OwnE.lower {base base' : Nat} {w : World} {v : Value} {l : List Entry} (h : OwnE base w v l) (hb : base' ≤ base) : OwnE base' w v l := owns_base h hb

theorem exactR_none {l : List Int} (hl : ∀ x ∈ l, InK .u8 x) {p n : Nat} {k : Int} {d : List Int} (hp : p ≤ l.length) (h : (exactR l p n k d).1 = none) : p < (exactR l p n k d).2.1 := by
  unfold exactR at h ⊢
  cases hnx : nextR l p k d.length with
  | error e => rw [hnx] at h; cases h
  | ok u =>
    obtain ⟨hpk, _, _⟩ := nextR_peek hnx
    have h1 := peekR_ok hpk hp hl
    rw [hnx] at h
    simp only at h ⊢
    split at h
    · rename_i he
      rw [if_pos he]
      exact h1.2.1
    · cases h

set_option maxRecDepth 100000 in
set_option maxHeartbeats 16000000 in
theorem rall_any {lo hi R : Nat} {bv : Value} {l : List Int} {w : World} (hr : Rd R bv w 0 0) (h : Ints .u8 lo hi w bv l) (hR : hi ≤ R) (hl : l.length ≤ 1000000000000) :
    Calls Tryz.prog 37 #[.pointer (some ⟨R, 0, none⟩)] w (AllP R bv w (allR l)) := by
  have hRl := hr.lt
  have H := Lib.hid (fun w' (o : Only [] w w') => rhead_any (hr.quiet o) (h.quiet o) hR (Nat.zero_le _) (Nat.le_refl _) hl)
  have HR := Lib.hid hr
  have Hh := Lib.hid h
  have Hl := Lib.hid hl
  have hr8 := h.2
  have hpos := headR_pos hr8 (p := 0) (n := 0) (Nat.zero_le _) (Nat.le_refl _)
  have hA : allR l = (match (headR l 0 0).1 with
    | .error e => (.error e, (headR l 0 0).2)
    | .ok h => bodyR l h (partsR l h.F h.parts h.parts.toNat 0 0 (headR l 0 0).2.1 (headR l 0 0).2.2)) := rfl
  clear hr h
  generalize hhd : headR l 0 0 = HD at *
  obtain ⟨hd, p0, n0⟩ := HD
  have Hhd := Lib.hid hhd
  simp only at hA hpos
  clear hhd
  cases hd with
  | error er =>
    simp only at hA
    have Hfin := Lib.hid hA
    clear hA hpos hr8
    go_enter Tryz.func37, Tryz.ntmps37
    go_wp2_with (first
      | (go_at_call 61; refine (H.out _ (Only.new _ _)).mono ?_; rintro e w1 hP; unfold HeadP at hP; simp only at hP; obtain ⟨hq1, hr1, ev, rfl, hev⟩ := hP; obtain ⟨et, eu, rfl⟩ := hev.held; unfold infoV cfg0; simp only; have rI := hq1.rowAt (heap_alloc_new _ _) (by simp; omega); obtain ⟨⟨m0, m1, m2, m3, m4, m5⟩, ⟨m6, m7, m8, m9, m10, m11⟩⟩ := cells12 rI; obtain ⟨⟨k0, k1, k2, k3, k4, k5⟩, ⟨k6, k7, k8, k9, k10, k11⟩⟩ := frz12 rI; have hwl : w.heap.size < w1.heap.size := (Array.getElem?_eq_some_iff.1 rI).1; have RI := Lib.hid rI; clear rI)
      | fail)
    generalize hWf : World.alloc _ _ = Wf
    obtain ⟨hrow, hO2⟩ := end12 RI.out hWf
    obtain ⟨⟨t0, t1, t2, t3, t4, t5⟩, ⟨t6, t7, t8, t9, t10, t11⟩⟩ := cells12 hrow
    refine bodyPost_ret (v := .tuple #[infoV 0 0 0 cfg0 (.slice none 0 0), .slice none 0 0, .slice none 0 0, .iface et eu]) (by simp [results, Tryz.results37, go_sem, t0, t1, t2, t3, t4, t5, t6, t7, t8, t9, t10, t11, infoV, cfg0]) rfl ?_
    unfold AllP
    rw [Hfin.out]
    have hA : Only [R] w Wf := (((Only.new _ _).mono (U := [R]) (by simp)).trans hq1 (fun g h _ => h) (fun g h _ => h)).trans hO2 (fun g h _ => h) (fun g hg hlt => absurd (List.mem_singleton.1 hg) (by omega))
    exact ⟨hA, hr1.only hO2 (by simp; omega), _, rfl, (hev.only hO2 (by simp)).mono (by simp) hO2.size⟩
  | ok hd =>
    simp only at hA
    have hok := hpos.2.2.2 _ rfl
    obtain ⟨hok1, hok2, hok3, hok4, hok5, hok6⟩ := hok
    obtain ⟨hW, hH, hF, c, np⟩ := hd
    simp only at hok1 hok2 hok3 hok4 hok5 hok6
    obtain ⟨NP, rfl⟩ := Int.eq_ofNat_of_zero_le (by omega : 0 ≤ np)
    obtain ⟨c0, c1, c2, c3, c4, c5, c6, c7⟩ := c
    simp only [Int.toNat_natCast] at hA
    have HA := Lib.hid hA
    have Hr8 := Lib.hid hr8
    clear hA hok1 hok6 hr8
    go_enter Tryz.func37, Tryz.ntmps37
    go_wp2_with (first
      | (go_at_call 61; refine (H.out _ (Only.new _ _)).mono ?_; rintro e w1 hP; unfold HeadP at hP; simp only at hP; obtain ⟨hq1, hr1, rfl⟩ := hP; unfold infoV; simp only)
      | fail)
    generalize hW0 : World.alloc w1 _ = W0
    have hqN : Only [] w1 W0 := by rw [← hW0]; exact Only.new _ _
    have rG : W0.heap[w1.heap.size]? = some (.cells #[.int .i64 hW, .int .i64 hH, .int .i64 hF, .int .i64 c0, .int .i64 c1, .int .i64 c2, .int .i64 c3, .int .i64 c4, .int .i64 c5, .int .i64 c6, .int .i64 c7, .slice none 0 0] 29 (0, 0)) := by rw [← hW0]; exact heap_alloc_new _ _
    have rI : W0.heap[w.heap.size]? = some (.cells #[.int .i64 0, .int .i64 0, .int .i64 0, .int .i64 0, .int .i64 0, .int .i64 0, .int .i64 0, .int .i64 0, .int .i64 0, .int .i64 0, .int .i64 0, .slice none 0 0] 29 (0, 0)) := hqN.rowAt (hq1.rowAt (heap_alloc_new _ _) (by simp; omega)) (by simp)
    have hO0 : Only [R] w W0 := (((Only.new _ _).mono (U := [R]) (by simp)).trans hq1 (fun g h _ => h) (fun g h _ => h)).trans hqN (fun g h _ => h) (by simp)
    have hr0 := hr1.quiet hqN
    have hsz0 : W0.heap.size = w1.heap.size + 1 := by rw [← hW0]; simp
    have hsz1 : w.heap.size < w1.heap.size := by have := hq1.size; simp at this; omega
    clear hW0 hqN hr1 hq1
    have hp1 := hpos.2.1
    have hp2 := hpos.2.2.1
    clear hpos
    generalize hG : w1.heap.size = G at *
    clear hG
    go_loopw [28, 9, 10] (fun i x y wr => ∃ (k q m : Nat) (es : List Entry) (cs : List Coded) (fs : List Int) (pv : Value), k ≤ NP ∧ i = .int .i64 k ∧ q ≤ l.length ∧ m ≤ q ∧ es.length = k ∧ (cs.length : Int) ≤ hF ∧ fs.length = cs.length ∧
      Hid (preP es cs fs (partsR l hF NP (NP - k) k cs.length q m) = partsR l hF NP NP 0 0 p0 n0) ∧ Rd R bv wr q m ∧ wr.heap[G]? = some (.cells #[.int .i64 hW, .int .i64 hH, .int .i64 hF, .int .i64 c0, .int .i64 c1, .int .i64 c2, .int .i64 c3, .int .i64 c4, .int .i64 c5, .int .i64 c6, .int .i64 c7, pv] 29 (0, 0)) ∧ wr.heap[w.heap.size]? = some (.cells #[.int .i64 0, .int .i64 0, .int .i64 0, .int .i64 0, .int .i64 0, .int .i64 0, .int .i64 0, .int .i64 0, .int .i64 0, .int .i64 0, .int .i64 0, .slice none 0 0] 29 (0, 0)) ∧
      OwnE (G + 1) wr pv es ∧ OwnC (G + 1) wr x cs (fun b => y.ownBlock = some b ∨ pv.ownBlock = some b) ∧ Own .i64 3 (G + 1) wr y fs ∧ Sep y pv ∧ From (G + 1) x ∧ From (G + 1) y ∧ From (G + 1) pv ∧ Only [R] w wr) (fun i _ _ _ => NP - (intOf i).toNat)
    case atStart =>
      exact ⟨0, p0, n0, [], [], [], .slice none 0 0, by omega, rfl, hp1, hp2, rfl, by simp; omega, rfl, Lib.hid (preP_nil _), hr0, rG, rI, World.ownsRow_nil _ _ _ _, OwnC.nil _ _ _, Own.nil _ _ _ _, Sep.nil _, From.nil _, From.nil _, From.nil _, hO0⟩
    case round =>
      clear rG rI hO0 hr0 hp1 hp2
      obtain ⟨k, q, m, es, cs, fs, pv, hk, rfl, hq1, hm1, hel, hcl, hfl, Hk, hrd, rG, rI, hoe, hoc, hof, hsy, hfx, hfy, hfp, hO⟩ := hrel
      have hzO := hO.size
      have hGl : G < wr.heap.size := (Array.getElem?_eq_some_iff.1 rG).1
      by_cases hlt : k < NP
      · obtain ⟨g, hg⟩ : ∃ g, NP - k = g + 1 := ⟨NP - k - 1, by omega⟩
        have hlti : (k : Int) < (NP : Int) := by omega
        have hk0 : (0 : Int) ≤ (k : Int) := by omega
        have hpo := partR_ok Hr8.out (num := k) (first := cs.length) (left := hF - cs.length) (behind := (NP : Int) - 1 - k) hq1 hm1
        have hbv := Hh.out.only hO (by intro g hg; rw [List.mem_singleton] at hg; omega)
        have HP := Lib.hid (rpart_any (k : Int) (cs.length : Int) (hF - cs.length) ((NP : Int) - 1 - k) hrd hbv hR hq1 hm1 Hl.out (by omega) (by omega))
        have hstep := Hk.out
        rw [hg, partsR] at hstep
        generalize hpr : partR l q m k cs.length (hF - cs.length) ((NP : Int) - 1 - k) = PR at *
        obtain ⟨pr, q2, m2⟩ := PR
        simp only at hpo hstep
        clear hpr Hk hbv
        obtain ⟨pa, pcap, rfl⟩ := hoe.isSlice
        obtain ⟨xa, xcap, rfl⟩ := hoc.isSlice
        obtain ⟨⟨i0, i1, i2, i3, i4, i5⟩, ⟨i6, i7, i8, i9, i10, i11⟩⟩ := cells12 rG
        have HOE := Lib.hid hoe
        have HOC := Lib.hid hoc
        have HOF := Lib.hid hof
        have HG := Lib.hid rG
        have HI := Lib.hid rI
        have HOw := Lib.hid hO
        have HSY := Lib.hid hsy
        have hcl2 : (cs.length : Int) ≤ 16 := by omega
        have HEl := Lib.hid hel
        have HFl := Lib.hid hfl
        clear hoe hoc hof rG rI hO hsy hrd hel hfl
        cases pr with
        | error er =>
          simp only at hstep
          have hfin : allR l = (.error er, q2, m2) := by rw [HA.out, ← hstep]; rfl
          have Hfin := Lib.hid hfin
          clear hfin hstep hpo
          go_wp2_with (first
            | (go_at_call 62; refine HP.out.mono ?_; rintro e w2 hPP; unfold PartP at hPP; simp only at hPP; obtain ⟨hq2, hr2, a, b, c, d, ev, rfl, hev⟩ := hPP; obtain ⟨et, eu, rfl⟩ := hev.held; have rI2 := hq2.rowAt HI.out (by simp; omega); obtain ⟨⟨m0, m1, m2, m3, m4, m5⟩, ⟨m6, m7, m8, m9, m10, m11⟩⟩ := cells12 rI2; obtain ⟨⟨k0, k1, k2, k3, k4, k5⟩, ⟨k6, k7, k8, k9, k10, k11⟩⟩ := frz12 rI2; have hwl2 : w.heap.size < w2.heap.size := (Array.getElem?_eq_some_iff.1 rI2).1; have RI2 := Lib.hid rI2; clear rI2)
            | fail)
          generalize hWf : World.alloc _ _ = Wf
          obtain ⟨hrow, hO2⟩ := end12 RI2.out hWf
          obtain ⟨⟨t0, t1, t2, t3, t4, t5⟩, ⟨t6, t7, t8, t9, t10, t11⟩⟩ := cells12 hrow
          refine bodyPost_ret (v := .tuple #[infoV 0 0 0 cfg0 (.slice none 0 0), .slice none 0 0, .slice none 0 0, .iface et eu]) (by simp [results, Tryz.results37, go_sem, t0, t1, t2, t3, t4, t5, t6, t7, t8, t9, t10, t11, infoV, cfg0]) rfl ?_
          unfold AllP
          rw [Hfin.out]
          have hA2 : Only [R] w w2 := HOw.out.trans hq2 (fun g h _ => h) (fun g h _ => h)
          have hA : Only [R] w Wf := hA2.trans hO2 (fun g h _ => h) (fun g hg hlt => absurd (List.mem_singleton.1 hg) (by omega))
          exact ⟨hA, hr2.only hO2 (by simp; omega), _, rfl, (hev.only hO2 (by simp; omega)).mono (by omega) hO2.size⟩
        | ok x =>
          obtain ⟨e1, cs2, fs2⟩ := x
          obtain ⟨hx1, hx2, hx3, hx3b, hx4, hx5, hx6, hx7⟩ := hpo.2.2.2 _ rfl
          simp only at hstep hx1 hx2 hx3 hx4 hx5 hx6 hx7
          have hq2 := hpo.2.1
          have hm2 := hpo.2.2.1
          rw [preP_cons] at hstep
          have Hstep := Lib.hid hstep
          obtain ⟨ef, ec, eo, el⟩ := e1
          simp only at hx1 hx2 hx3 hx4 hx5 hx6 hx7
          have Hx := Lib.hid (And.intro hx2 (And.intro hx3 (And.intro hx5 hx6)))
          clear hstep hpo hx1 hx2 hx3 hx3b hx4 hx5 hx6 hx7
          have hqi : (q2 : Int) ≤ 1000000000000 := by have := Hl.out; omega
          go_wp2_with (first
            | (go_at_call 62; refine HP.out.mono ?_; rintro e w2 hPP; unfold PartP at hPP; simp only at hPP; obtain ⟨hO2, hr2, cv2, fv2, rfl, hoc2, hof2⟩ := hPP; obtain ⟨ca2, ccap2, rfl⟩ := hoc2.isSlice; obtain ⟨fa2, fcap2, rfl, _⟩ := hof2.ints.open; simp only;
                have HO2 := Lib.hid hO2; have HR2 := Lib.hid hr2; have HOC2 := Lib.hid hoc2; have HOF2 := Lib.hid hof2;
                have rG2 := hO2.rowAt HG.out (by simp; omega); have g11 : w2.cell? ⟨G, 11, none⟩ = some (.slice pa es.length pcap) := (by rw [cell_of_row _ _ _ _ _ _ rG2]; rfl);
                have v11 := (fun o => (Only.new w2 o).cell g11 (by simp));
                have hz2 := hO2.size;
                have hoe4 := (HOE.out.only hO2 (by intro g hg; rw [List.mem_singleton] at hg; subst hg; exact fun e => by have := hfp _ e; omega)).quiet ((Only.new _ (.cells #[.int .i64 ef, .int .i64 ec, .int .i64 eo, .int .i64 el] 59)).q (Only.new _ (.cells #[.int .i64 ef, .int .i64 ec, .int .i64 eo, .int .i64 el] 59)));
                have hsrc : Cells 4 (w2.heap.size + 1) (w2.heap.size + 1 + 1) ((w2.alloc (.cells #[.int .i64 ef, .int .i64 ec, .int .i64 eo, .int .i64 el] 59)).alloc (.cells #[.int .i64 ef, .int .i64 ec, .int .i64 eo, .int .i64 el] 59)) (.slice (some ⟨w2.heap.size + 1, 0, none⟩) 1 1) 1 (flatE [⟨ef, ec, eo, el⟩]) := cells_newG rfl rfl (by simp [maxLen]) (by simp);
                have hone := flatE_one [(⟨ef, ec, eo, el⟩ : Entry)];
                have h63 : es.length + 1 ≤ maxLen := (by simp only [maxLen]; have := HEl.out; omega);
                have hby1 : (es.length + 1) * 32 ≤ 140737488355328 := (by have := HEl.out; omega);
                have hba1 : G + 1 ≤ ((w2.alloc (.cells #[.int .i64 ef, .int .i64 ec, .int .i64 eo, .int .i64 el] 59)).alloc (.cells #[.int .i64 ef, .int .i64 ec, .int .i64 eo, .int .i64 el] 59)).heap.size := (by simp; omega);
                clear hO2 hr2 hoc2 hof2 rG2)
            | (at_builtin; refine wpList_append_cells rfl (.tmp 55) (.tmp 57) 27 rfl EE hoe4 rfl hsrc rfl hone h63 hby1 hba1 (fun v1 w5 h5 ho5 hat5 => ?_); obtain ⟨_, a5, cap5, rfl, _⟩ := Cells.of_own h5;
                have acc5 : Acc (.slice pa es.length pcap) ((w2.alloc (.cells #[.int .i64 ef, .int .i64 ec, .int .i64 eo, .int .i64 el] 59)).alloc (.cells #[.int .i64 ef, .int .i64 ec, .int .i64 eo, .int .i64 el] 59)) (.slice a5 (es.length + 1) cap5) w5 := ⟨ho5, hat5.imp id (fun e g hg => by rw [e] at hg; injection hg with hg; omega)⟩;
                have H5 := Lib.hid h5; have ACC5 := Lib.hid acc5;
                have rG5 := acc5.only.rowAt (((Only.new _ _).q (Only.new _ _)).rowAt (HO2.out.rowAt HG.out (by simp; omega)) (by simp)) (fun hg => by have := hfp G (by simpa using hg); omega);
                have y11 : w5.cell? ⟨G, 11, none⟩ = some (.slice pa es.length pcap) := (by rw [cell_of_row _ _ _ _ _ _ rG5]; rfl); have z11 := frozen_of_row w5 G 11 _ _ rG5;
                have HG5 := Lib.hid rG5;
                have HI5 := Lib.hid (acc5.only.rowAt (((Only.new _ _).q (Only.new _ _)).rowAt (HO2.out.rowAt HI.out (by simp; omega)) (by simp)) (fun hg => by have := hfp w.heap.size (by simpa using hg); omega));
                have hq24 : Only [] w2 ((w2.alloc (.cells #[.int .i64 ef, .int .i64 ec, .int .i64 eo, .int .i64 el] 59)).alloc (.cells #[.int .i64 ef, .int .i64 ec, .int .i64 eo, .int .i64 el] 59)) := (Only.new _ _).q (Only.new _ _);
                have HQ24 := Lib.hid hq24; have hz24 := hq24.size; have hz5 := acc5.only.size;
                have hS : Only [G] w5 (w5.setCell ⟨G, 11, none⟩ (.slice a5 (es.length + 1) cap5)) := (Only.refl _ _).setCell (by simp) _;
                have HS := Lib.hid hS;
                have hpl := (fun g hg => (HOE.out.lt g hg).2);
                have hocX := (((HOC.out.only HO2.out (by intro g hg; rw [List.mem_singleton] at hg; omega)).quiet hq24).other acc5 (X' := fun b => u10.ownBlock = some b ∨ (Value.slice a5 (es.length + 1) cap5).ownBlock = some b) (fun g hg => .inr hg) (fun g hg => hg.elim (fun h => .inl (.inl h)) .inr)).only hS (by intro g hg; rw [List.mem_singleton] at hg; omega);
                have hocY := (((HOC2.out.quiet hq24).step acc5.only (X' := fun b => (Value.slice fa2 fs2.length fcap2).ownBlock = some b ∨ (Value.slice a5 (es.length + 1) cap5).ownBlock = some b) (fun b hb hbb => by have := hpl b (by simpa using hb); omega) (fun b hb hbb => by rcases hb with hb | hb; exact .inl hb; rcases acc5.at_ with e | e; exact absurd hbb (by have := hpl b (e ▸ hb); omega); exact .inr (e b hb))).only hS (by intro g hg; rw [List.mem_singleton] at hg; omega));
                have hvb := (fun g hg => (HOC.out.at g hg).2);
                have hXb : ∀ g, (u10.ownBlock = some g ∨ (Value.slice a5 (es.length + 1) cap5).ownBlock = some g) → g < (w5.setCell ⟨G, 11, none⟩ (.slice a5 (es.length + 1) cap5)).heap.size ∧ (g < wr.heap.size ∨ ((Value.slice fa2 fs2.length fcap2).ownBlock = some g ∨ (Value.slice a5 (es.length + 1) cap5).ownBlock = some g)) := (fun g hg => by rcases hg with hg | hg; (have := (HOF.out.at g hg).2; exact ⟨by simp; omega, .inl this⟩); exact ⟨by have := (H5.out.lt g hg).2; simpa using this, .inr (.inr hg)⟩);
                have hby2 : (cs.length + cs2.length) * 32 ≤ 140737488355328 := (by have := Hx.out; omega);
                have hba2 : wr.heap.size ≤ (w5.setCell ⟨G, 11, none⟩ (.slice a5 (es.length + 1) cap5)).heap.size := (by simp; omega);
                clear h5 acc5 rG5 hq24 hS hoe4 hsrc hone ho5 hat5 v11 g11)
            | (at_builtin; refine wpList_append_coded rfl (.tmp 60) (.tmp 61) 35 rfl EC hocX rfl hocY rfl (by omega) hvb hXb hby2 hba2 (fun v2 w6 hoc6 acc6 => ?_); have HOC6 := Lib.hid hoc6; have ACC6 := Lib.hid acc6;
                have hsx5 : Sep (.slice xa cs.length xcap) (.slice a5 (es.length + 1) cap5) := hocX.sep (fun b h => .inr h);
                have hsxy : Sep (.slice xa cs.length xcap) u10 := HOC.out.sep (fun b h => .inl h);
                have hofA := (((((HOF.out.only HO2.out (by intro g hg; rw [List.mem_singleton] at hg; subst hg; exact fun e => by have := hfy _ e; omega)).quiet HQ24.out).acc ACC5.out HSY.out.symm).only HS.out (by intro g hg; rw [List.mem_singleton] at hg; subst hg; exact fun e => by have := hfy _ e; omega)).acc acc6 hsxy);
                have hofB := ((((HOF2.out.quiet HQ24.out).only ACC5.out.only (fun g hg e => by have h1 := hpl g (by simpa using hg); have := (HOF2.out.at g e).1; omega)).only HS.out (by intro g hg; rw [List.mem_singleton] at hg; exact fun e => by have := (HOF2.out.at g e).1; omega)).only acc6.only (fun g hg e => by have h1 := hvb g (by simpa using hg); have := (HOF2.out.at g e).1; omega));
                have hby3 : (fs.length + fs2.length) * 8 ≤ 140737488355328 := (by have := Hx.out; have := HFl.out; omega);
                have hz6 := acc6.only.size;
                have hba3 : G + 1 ≤ w6.heap.size := (by simp at hz6; omega);
                have HSX := Lib.hid hsx5; clear hoc6 acc6 hocX hocY hsx5 hsxy hXb)
            | (at_builtin; refine wpList_append_ints rfl (.tmp 63) (.tmp 64) 36 rfl EI hofA rfl hofB.ints rfl hby3 hba3 (fun v3 w7 hof7 acc7 => ?_); have HOF7 := Lib.hid hof7; have ACC7 := Lib.hid acc7; clear hof7 acc7 hofA hofB)
            | fail)
          have hV1 : ∀ g, (Value.slice a5 (es.length + 1) cap5).ownBlock = some g → G + 1 ≤ g ∧ g < w5.heap.size := H5.out.lt
          have hsz5' : w5.heap.size ≤ w6.heap.size := by have := ACC6.out.only.size; simpa using this
          have hsy1 : Sep u10 (.slice a5 (es.length + 1) cap5) := (ACC5.out.sep HSY.out.symm (fun g hg => by have := (HOF.out.at g hg).2; simp; omega)).symm
          have hlx : ∀ {g : Nat}, g ≤ G → (Value.slice xa cs.length xcap).ownBlock ≠ some g := fun {g} h e => by have := hfx g e; omega
          have hly : ∀ {g : Nat}, g ≤ G → u10.ownBlock ≠ some g := fun {g} h e => by have := hfy g e; omega
          have hlp : ∀ {g : Nat}, g ≤ G → (Value.slice pa es.length pcap).ownBlock ≠ some g := fun {g} h e => by have := hfp g e; omega
          have hRG : R ≤ G := by omega
          have hrd7 : Rd R bv w7 q2 m2 := ((((HR2.out.quiet HQ24.out).only ACC5.out.only (fun hg => hlp hRG (by simpa using hg))).only HS.out (by simp; omega)).only ACC6.out.only (fun hg => hlx hRG (by simpa using hg))).only ACC7.out.only (fun hg => hly hRG (by simpa using hg))
          have rG7 := ACC7.out.only.rowAt (ACC6.out.only.rowAt (heap_setCell_same w5 G 11 _ _ (.slice a5 (es.length + 1) cap5) HG5.out) (fun hg => hlx (Nat.le_refl G) (by simpa using hg))) (fun hg => hly (Nat.le_refl G) (by simpa using hg))
          have rI7 := ACC7.out.only.rowAt (ACC6.out.only.rowAt (HS.out.rowAt HI5.out (by simp; omega)) (fun hg => hlx (by omega : w.heap.size ≤ G) (by simpa using hg))) (fun hg => hly (by omega : w.heap.size ≤ G) (by simpa using hg))
          have hoe5 : OwnE (G + 1) w5 (.slice a5 (es.length + 1) cap5) (es ++ [⟨ef, ec, eo, el⟩]) := by
            unfold OwnE
            rw [flatE_append, List.length_append]
            exact H5.out
          have hoe7 := ((hoe5.only HS.out (by intro g hg; rw [List.mem_singleton] at hg; subst hg; exact fun e => by have := (hV1 _ e).1; omega)).only ACC6.out.only (fun g hg => HSX.out g (by simpa using hg))).only ACC7.out.only (fun g hg => hsy1 g (by simpa using hg))
          have hoc7 := HOC6.out.other ACC7.out (X' := fun b => v3.ownBlock = some b ∨ (Value.slice a5 (es.length + 1) cap5).ownBlock = some b) (fun g hg => .inl hg) (fun g hg => hg.elim .inr (fun h => .inl (.inr h)))
          have hsy7 := ACC7.out.sep hsy1 (fun g hg => Nat.lt_of_lt_of_le (hV1 g hg).2 hsz5')
          have hO7 : Only [R] w w7 := by
            have o2 : Only [R] w w2 := HOw.out.trans HO2.out (fun g h _ => h) (fun g h _ => h)
            have o4 := o2.trans HQ24.out (U := [R]) (fun g h _ => h) (by simp)
            have o5 : Only [R] w w5 := o4.trans ACC5.out.only (fun g h _ => h) (fun g hg hlt => absurd (by simpa using hg) (hlp (by omega : g ≤ G)))
            have o5' := o5.trans HS.out (U := [R]) (fun g h _ => h) (fun g hg hlt => absurd (List.mem_singleton.1 hg) (by omega))
            have o6 : Only [R] w w6 := o5'.trans ACC6.out.only (fun g h _ => h) (fun g hg hlt => absurd (by simpa using hg) (hlx (by omega : g ≤ G)))
            exact o6.trans ACC7.out.only (fun g h _ => h) (fun g hg hlt => absurd (by simpa using hg) (hly (by omega : g ≤ G)))
          have hfin7 : Hid (preP (es ++ [⟨ef, ec, eo, el⟩]) (cs ++ cs2) (fs ++ fs2) (partsR l hF NP (NP - (k + 1)) (k + 1) (cs ++ cs2).length q2 m2) = partsR l hF NP NP 0 0 p0 n0) := Lib.hid (by
            rw [← Hstep.out, List.length_append, show NP - (k + 1) = g by rw [← Nat.sub_sub, hg]; rfl])
          have hxx := Hx.out
          have hel2 := HEl.out
          have hfl2 := HFl.out
          refine ⟨⟨k + 1, q2, m2, es ++ [⟨ef, ec, eo, el⟩], cs ++ cs2, fs ++ fs2, .slice a5 (es.length + 1) cap5, by omega, by go_num, hq2, hm2, by simp; omega, by rw [List.length_append]; omega, by rw [List.length_append, List.length_append]; omega, hfin7, hrd7, rG7, rI7, hoe7, hoc7, HOF7.out, hsy7, ACC6.out.from_ hfx (by simp at hba2 ⊢; omega), ACC7.out.from_ hfy hba3, ACC5.out.from_ hfp hba1, hO7⟩, ?_⟩
          simp [intOf]; omega
      · obtain rfl : k = NP := by omega
        have hx : ¬ (k : Int) < (k : Int) := by omega
        have hparts : partsR l hF k k 0 0 p0 n0 = (.ok (es, cs, fs), q, m) := by rw [← Hk.out, Nat.sub_self]; simp [partsR, preP]
        have hall : allR l = closeR l ⟨hW, hH, hF, ⟨c0, c1, c2, c3, c4, c5, c6, c7⟩, (k : Int)⟩ es cs fs q m := by rw [HA.out, hparts]; rfl
        have Hall := Lib.hid hall
        clear Hk hparts hall
        have hbv := Hh.out.only hO (by intro g hg; rw [List.mem_singleton] at hg; omega)
        have HIx := Lib.hid (fun w' (o : Only [] wr w') => index_any (hoe.quiet o).entries (by omega))
        obtain ⟨pa, pcap, rfl⟩ := hoe.isSlice
        obtain ⟨xa, xcap, rfl⟩ := hoc.isSlice
        obtain ⟨⟨i0, i1, i2, i3, i4, i5⟩, ⟨i6, i7, i8, i9, i10, i11⟩⟩ := cells12 rG
        obtain ⟨ba, bcap, rfl, hbc, hbm, hbat, _⟩ := hbv.open
        have r0 := hrd.c0
        have r1 := hrd.c1
        have HBV := Lib.hid hbv
        have HRd := Lib.hid hrd
        have HOE := Lib.hid hoe
        have HOC := Lib.hid hoc
        have HOF := Lib.hid hof
        have HG := Lib.hid rG
        have HI := Lib.hid rI
        have HOw := Lib.hid hO
        have HSY := Lib.hid hsy
        have HEl := Lib.hid hel
        have HFl := Lib.hid hfl
        clear hoe hoc hof rG rI hO hsy hrd hbv hel hfl
        have hx1 := exactR_pos Hr8.out (k := 18) (d := indexB es) hq1 hm1
        generalize hex : exactR l q m 18 (indexB es) = EX at *
        obtain ⟨ex, q2, m2⟩ := EX
        simp only at hx1
        have HEX := Lib.hid hex
        clear hex
        cases ex with
        | some er =>
          have hfin : allR l = (.error er, q2, m2) := by rw [Hall.out]; unfold closeR; rw [HEX.out]
          have Hfin := Lib.hid hfin
          clear hfin
          go_wp2_with (first
            | (go_at_call 34; refine (HIx.out _ (Only.refl _ _)).mono ?_; rintro e w2 ⟨iv, rfl, hown2, hq2⟩; have hbv2 := HBV.out.quiet hq2; have HE1 := Lib.hid (rexact_any 18 (HRd.out.quiet hq2) hbv2 hR hq1 hm1 Hl.out hown2.ints); have HQ2 := Lib.hid hq2; clear hbv2 hown2 hq2)
            | (go_at_call 63; refine HE1.out.mono ?_; rintro e w3 ⟨ev, rfl, hev, hr3, hO3⟩; rw [HEX.out] at hev hr3; simp only at hev hr3; have hev2 : ErrV w2.heap.size w3.heap.size w3 ev er := hev; obtain ⟨et, eu, rfl⟩ := hev2.held; clear hev; have HO3 := Lib.hid hO3; have HR3 := Lib.hid hr3; have hz3 := (HQ2.out.q (Only.refl _ _)).size; have hz4 := hO3.size; have rI3 := hO3.rowAt (HQ2.out.rowAt HI.out (by simp)) (by simp; omega); obtain ⟨⟨m0, m1, m2', m3', m4, m5⟩, ⟨m6, m7, m8, m9, m10, m11⟩⟩ := cells12 rI3; obtain ⟨⟨k0, k1, k2, k3, k4, k5⟩, ⟨k6, k7, k8, k9, k10, k11⟩⟩ := frz12 rI3; have HI3 := Lib.hid rI3; clear hO3 hr3 rI3 HE1)
            | fail)
          have hOw3 : Only [R] w w3 := (HOw.out.trans HQ2.out (U := [R]) (fun g h _ => h) (by simp)).trans HO3.out (fun g h _ => h) (fun g h _ => h)
          generalize hWf : World.setCell _ _ _ = Wf
          obtain ⟨hrow, hOf⟩ := end12' HI3.out hWf
          obtain ⟨⟨t0, t1, t2, t3, t4, t5⟩, ⟨t6, t7, t8, t9, t10, t11⟩⟩ := cells12 hrow
          refine bodyPost_ret (v := .tuple #[infoV 0 0 0 cfg0 (.slice none 0 0), .slice none 0 0, .slice none 0 0, .iface et eu]) (by simp [results, Tryz.results37, go_sem, t0, t1, t2, t3, t4, t5, t6, t7, t8, t9, t10, t11, infoV, cfg0]) rfl ?_
          unfold AllP
          rw [Hfin.out]
          have hAf : Only [R] w Wf := (hOw3).trans hOf (fun g h _ => h) (fun g hg hlt => absurd (List.mem_singleton.1 hg) (by omega))
          exact ⟨hAf, (HR3.out).only hOf (by simp; omega), _, rfl, (ErrV.only hev2 hOf (by simp; omega)).mono (by omega) hOf.size⟩
        | none =>
          have hlt2 := exactR_none Hr8.out (p := q) (n := m) (k := 18) (d := indexB es) hq1 (by rw [HEX.out])
          rw [HEX.out] at hlt2
          simp only at hlt2
          have hx2 := exactR_pos Hr8.out (p := q2) (n := m2) (k := 19) (d := tailB (l.take q2) q) hx1.2.1 hx1.2.2
          have hall2 : allR l = (match (exactR l q2 m2 19 (tailB (l.take q2) q)).1 with
            | some e => (.error e, (exactR l q2 m2 19 (tailB (l.take q2) q)).2)
            | none => match endR l (exactR l q2 m2 19 (tailB (l.take q2) q)).2.1 with
              | some e => (.error e, (exactR l q2 m2 19 (tailB (l.take q2) q)).2)
              | none => (.ok ⟨⟨hW, hH, hF, ⟨c0, c1, c2, c3, c4, c5, c6, c7⟩, (k : Int)⟩, es, cs, fs⟩, (exactR l q2 m2 19 (tailB (l.take q2) q)).2)) := by
            rw [Hall.out]; unfold closeR; simp only [HEX.out]; rfl
          generalize hex2 : exactR l q2 m2 19 (tailB (l.take q2) q) = EX2 at *
          obtain ⟨ex2, q3, m3⟩ := EX2
          simp only at hx2 hall2
          have HEX2 := Lib.hid hex2
          have Hall2 := Lib.hid hall2
          clear hex2 hall2
          go_wp2_with (first
            | (go_at_call 34; refine (HIx.out _ (Only.refl _ _)).mono ?_; rintro e w2 ⟨iv, rfl, hown2, hq2⟩; have hbv2 := HBV.out.quiet hq2; have HE1 := Lib.hid (rexact_any 18 (HRd.out.quiet hq2) hbv2 hR hq1 hm1 Hl.out hown2.ints); have HQ2 := Lib.hid hq2; clear hbv2 hown2 hq2)
            | (go_at_call 63; refine HE1.out.mono ?_; rintro e w3 ⟨ev, rfl, hev, hr3, hO3⟩; rw [HEX.out] at hev hr3; simp only at hev hr3; have hev2 : ev = .nilIface := hev; subst hev2; clear hev; have HO3 := Lib.hid hO3; have HR3 := Lib.hid hr3; have hz3 := (HQ2.out.q (Only.refl _ _)).size; have hz4 := hO3.size; have rI3 := hO3.rowAt (HQ2.out.rowAt HI.out (by simp)) (by simp; omega); obtain ⟨⟨m0, m1, m2', m3', m4, m5⟩, ⟨m6, m7, m8, m9, m10, m11⟩⟩ := cells12 rI3; obtain ⟨⟨k0, k1, k2, k3, k4, k5⟩, ⟨k6, k7, k8, k9, k10, k11⟩⟩ := frz12 rI3; have HI3 := Lib.hid rI3; clear hO3 hr3 rI3 HE1)
            | fail)
          obtain ⟨bb, boff, rfl, _, _⟩ := hbat 0 (by omega)
          have HBV2 := HBV.out.quiet HQ2.out
          have hbv3 := HBV2.only HO3.out (by intro g hg; rw [List.mem_singleton] at hg; omega)
          have d0 := HR3.out.c0
          have d1 := HR3.out.c1
          have hcpp : (q2 : Int) ≤ (bcap : Int) := by omega
          have hcpn : q2 ≤ bcap := by omega
          have hcz : ¬ bcap = 0 := by omega
          have HQ3D : Hid (Only [] w3 w3.drew) := Lib.hid (Only.refl _ _).drew
          have HBV3 := Lib.hid (hbv3.quiet HQ3D.out)
          have hzd : w3.drew.heap.size = w3.heap.size := rfl
          have hsub0 := HBV3.out.sub (i := 0) (j := q2) (Nat.zero_le _) hx1.2.1 bcap (Nat.le_refl _) (by omega)
          have hsub1 : Ints .u8 lo hi w3.drew (.slice (some ⟨bb, boff, none⟩) q2 bcap) (l.take q2) := by simpa using hsub0
          have HSub := Lib.hid hsub1
          clear hbv3 hsub0 hsub1 HBV2 hbat
          have hOw3 : Only [R] w w3 := (HOw.out.trans HQ2.out (U := [R]) (fun g h _ => h) (by simp)).trans HO3.out (fun g h _ => h) (fun g h _ => h)
          cases ex2 with
          | some er =>
            have hfin : allR l = (.error er, q3, m3) := Hall2.out
            have Hfin := Lib.hid hfin
            clear hfin
            go_region_with (first
              | (go_at_call 35; refine (tail_any (q : Int) HSub.out).mono ?_; rintro e w4 ⟨tv, rfl, hown4, hq4⟩; have hbv4 := (HBV3.out.quiet hq4); have HE2 := Lib.hid (rexact_any 19 ((HR3.out.quiet HQ3D.out).quiet hq4) hbv4 hR hx1.2.1 hx1.2.2 Hl.out hown4.ints); have HQ4 := Lib.hid hq4; clear hbv4 hown4 hq4)
              | (go_at_call 63; refine HE2.out.mono ?_; rintro e w5 ⟨ev, rfl, hev, hr5, hO5⟩; rw [HEX2.out] at hev hr5; simp only at hev hr5; have hev5 : ErrV w4.heap.size w5.heap.size w5 ev er := hev; obtain ⟨et, eu, rfl⟩ := hev5.held; clear hev; have HO5 := Lib.hid hO5; have HR5 := Lib.hid hr5; have hz6 := (HQ4.out).size; have hz7 := hO5.size; have rI5 := hO5.rowAt (HQ4.out.rowAt (HQ3D.out.rowAt HI3.out (by simp)) (by simp)) (by simp; omega); obtain ⟨⟨n0, n1, n2, n3, n4, n5⟩, ⟨n6, n7, n8, n9, n10, n11⟩⟩ := cells12 rI5; obtain ⟨⟨y0, y1, y2, y3, y4, y5⟩, ⟨y6, y7, y8, y9, y10, y11⟩⟩ := frz12 rI5; have HI5 := Lib.hid rI5; clear hO5 hr5 rI5 HE2)
              | fail)
            all_goals
              go_wp2_with fail
              generalize hWf : World.setCell _ _ _ = Wf
              obtain ⟨hrow, hOf⟩ := end12' HI5.out hWf
              obtain ⟨⟨t0, t1, t2, t3, t4, t5⟩, ⟨t6, t7, t8, t9, t10, t11⟩⟩ := cells12 hrow
              refine bodyPost_ret (v := .tuple #[infoV 0 0 0 cfg0 (.slice none 0 0), .slice none 0 0, .slice none 0 0, .iface et eu]) (by simp [results, Tryz.results37, go_sem, t0, t1, t2, t3, t4, t5, t6, t7, t8, t9, t10, t11, infoV, cfg0]) rfl ?_
              unfold AllP
              rw [Hfin.out]
              have hAf : Only [R] w Wf := (((((HOw.out.trans HQ2.out (U := [R]) (fun g h _ => h) (by simp)).trans HO3.out (U := [R]) (fun g h _ => h) (fun g h _ => h)).trans HQ3D.out (U := [R]) (fun g h _ => h) (by simp)).trans HQ4.out (U := [R]) (fun g h _ => h) (by simp)).trans HO5.out (U := [R]) (fun g h _ => h) (fun g h _ => h)).trans hOf (fun g h _ => h) (fun g hg hlt => absurd (List.mem_singleton.1 hg) (by omega))
              exact ⟨hAf, (HR5.out).only hOf (by simp; omega), _, rfl, (ErrV.only hev5 hOf (by simp; omega)).mono (by omega) hOf.size⟩
          | none =>
            have hall3 := Hall2.out
            simp only at hall3
            cases hend : endR l q3 with
            | some er =>
              rw [hend] at hall3
              have Hfin := Lib.hid hall3
              have Hend := Lib.hid hend
              clear hall3 hend
              go_region_with (first
              | (go_at_call 35; refine (tail_any (q : Int) HSub.out).mono ?_; rintro e w4 ⟨tv, rfl, hown4, hq4⟩; have hbv4 := (HBV3.out.quiet hq4); have HE2 := Lib.hid (rexact_any 19 ((HR3.out.quiet HQ3D.out).quiet hq4) hbv4 hR hx1.2.1 hx1.2.2 Hl.out hown4.ints); have HQ4 := Lib.hid hq4; clear hbv4 hown4 hq4)
              | (go_at_call 63; refine HE2.out.mono ?_; rintro e w5 ⟨ev, rfl, hev, hr5, hO5⟩; rw [HEX2.out] at hev hr5; simp only at hev hr5; have hev5 : ev = .nilIface := hev; subst hev5; clear hev; have HO5 := Lib.hid hO5; have HR5 := Lib.hid hr5; have hz6 := (HQ4.out).size; have hz7 := hO5.size; have rI5 := hO5.rowAt (HQ4.out.rowAt (HQ3D.out.rowAt HI3.out (by simp)) (by simp)) (by simp; omega); obtain ⟨⟨n0, n1, n2, n3, n4, n5⟩, ⟨n6, n7, n8, n9, n10, n11⟩⟩ := cells12 rI5; obtain ⟨⟨y0, y1, y2, y3, y4, y5⟩, ⟨y6, y7, y8, y9, y10, y11⟩⟩ := frz12 rI5; have HI5 := Lib.hid rI5; clear hO5 hr5 rI5 HE2)
                | fail)
              all_goals
                have hbv5 := (HBV3.out.quiet HQ4.out).only HO5.out (by intro g hg; rw [List.mem_singleton] at hg; omega)
                have HEnd := Lib.hid (rend_any HR5.out hbv5 hx2.2.1)
                go_wp2_with (first
                  | (go_at_call 64; refine HEnd.out.mono ?_; rintro e w6 ⟨ev, rfl, hev, hq6⟩; rw [Hend.out] at hev; have hev6 : ErrV w5.heap.size w6.heap.size w6 ev er := hev; obtain ⟨et, eu, rfl⟩ := hev6.held; clear hev; have rI6 := hq6.rowAt HI5.out (by simp); obtain ⟨⟨p0', p1, p2, p3, p4, p5⟩, ⟨p6, p7, p8, p9, p10, p11⟩⟩ := cells12 rI6; obtain ⟨⟨x0, x1, x2, x3, x4, x5⟩, ⟨x6, x7, x8, x9, x10, x11⟩⟩ := frz12 rI6; have HI6 := Lib.hid rI6; clear rI6)
                  | fail)
                generalize hWf : World.setCell _ _ _ = Wf
                obtain ⟨hrow, hOf⟩ := end12' HI6.out hWf
                obtain ⟨⟨t0, t1, t2, t3, t4, t5⟩, ⟨t6, t7, t8, t9, t10, t11⟩⟩ := cells12 hrow
                refine bodyPost_ret (v := .tuple #[infoV 0 0 0 cfg0 (.slice none 0 0), .slice none 0 0, .slice none 0 0, .iface et eu]) (by simp [results, Tryz.results37, go_sem, t0, t1, t2, t3, t4, t5, t6, t7, t8, t9, t10, t11, infoV, cfg0]) rfl ?_
                unfold AllP
                rw [Hfin.out]
                have hOw6 : Only [R] w w6 := (((((HOw.out.trans HQ2.out (U := [R]) (fun g h _ => h) (by simp)).trans HO3.out (U := [R]) (fun g h _ => h) (fun g h _ => h)).trans HQ3D.out (U := [R]) (fun g h _ => h) (by simp)).trans HQ4.out (U := [R]) (fun g h _ => h) (by simp)).trans HO5.out (U := [R]) (fun g h _ => h) (fun g h _ => h)).trans hq6 (fun g h _ => h) (by simp)
                have hAf : Only [R] w Wf := hOw6.trans hOf (fun g h _ => h) (fun g hg hlt => absurd (List.mem_singleton.1 hg) (by omega))
                exact ⟨hAf, (HR5.out.quiet hq6).only hOf (by simp; omega), _, rfl, (ErrV.only hev6 hOf (by simp; omega)).mono (by omega) hOf.size⟩
            | none =>
              rw [hend] at hall3
              have Hfin := Lib.hid hall3
              have Hend := Lib.hid hend
              clear hall3 hend
              go_region_with (first
              | (go_at_call 35; refine (tail_any (q : Int) HSub.out).mono ?_; rintro e w4 ⟨tv, rfl, hown4, hq4⟩; have hbv4 := (HBV3.out.quiet hq4); have HE2 := Lib.hid (rexact_any 19 ((HR3.out.quiet HQ3D.out).quiet hq4) hbv4 hR hx1.2.1 hx1.2.2 Hl.out hown4.ints); have HQ4 := Lib.hid hq4; clear hbv4 hown4 hq4)
              | (go_at_call 63; refine HE2.out.mono ?_; rintro e w5 ⟨ev, rfl, hev, hr5, hO5⟩; rw [HEX2.out] at hev hr5; simp only at hev hr5; have hev5 : ev = .nilIface := hev; subst hev5; clear hev; have HO5 := Lib.hid hO5; have HR5 := Lib.hid hr5; have hz6 := (HQ4.out).size; have hz7 := hO5.size; have rI5 := hO5.rowAt (HQ4.out.rowAt (HQ3D.out.rowAt HI3.out (by simp)) (by simp)) (by simp; omega); obtain ⟨⟨n0, n1, n2, n3, n4, n5⟩, ⟨n6, n7, n8, n9, n10, n11⟩⟩ := cells12 rI5; obtain ⟨⟨y0, y1, y2, y3, y4, y5⟩, ⟨y6, y7, y8, y9, y10, y11⟩⟩ := frz12 rI5; have HI5 := Lib.hid rI5; clear hO5 hr5 rI5 HE2)
                | fail)
              all_goals
                have hbv5 := (HBV3.out.quiet HQ4.out).only HO5.out (by intro g hg; rw [List.mem_singleton] at hg; omega)
                have HEnd := Lib.hid (rend_any HR5.out hbv5 hx2.2.1)
                go_wp2_with (first
                  | (go_at_call 64; refine HEnd.out.mono ?_; rintro e w6 ⟨ev, rfl, hev, hq6⟩; rw [Hend.out] at hev; have hev6 : ev = .nilIface := hev; subst hev6; clear hev; have rI6 := hq6.rowAt HI5.out (by simp); obtain ⟨⟨p0', p1, p2, p3, p4, p5⟩, ⟨p6, p7, p8, p9, p10, p11⟩⟩ := cells12 rI6; obtain ⟨⟨x0, x1, x2, x3, x4, x5⟩, ⟨x6, x7, x8, x9, x10, x11⟩⟩ := frz12 rI6; have rG6 := hq6.rowAt (HO5.out.rowAt (HQ4.out.rowAt (HQ3D.out.rowAt (HO3.out.rowAt (HQ2.out.rowAt HG.out (by simp)) (by simp; omega)) (by simp)) (by simp)) (by simp; omega)) (by simp); obtain ⟨⟨s0, s1, s2, s3, s4, s5⟩, ⟨s6, s7, s8, s9, s10, s11⟩⟩ := cells12 rG6; have HI6 := Lib.hid rI6; clear rI6 rG6)
                  | fail)
                generalize hWf : World.setCell _ _ _ = Wf
                obtain ⟨hrow, hOf⟩ := end12' HI6.out hWf
                obtain ⟨⟨t0, t1, t2, t3, t4, t5⟩, ⟨t6, t7, t8, t9, t10, t11⟩⟩ := cells12 hrow
                refine bodyPost_ret (v := .tuple #[infoV hW hH hF ⟨c0, c1, c2, c3, c4, c5, c6, c7⟩ (.slice pa es.length pcap), .slice xa cs.length xcap, u10, .nilIface]) (by simp [results, Tryz.results37, go_sem, t0, t1, t2, t3, t4, t5, t6, t7, t8, t9, t10, t11, infoV]) rfl ?_
                unfold AllP
                rw [Hfin.out]
                have hOw6 : Only [R] w w6 := (((((HOw.out.trans HQ2.out (U := [R]) (fun g h _ => h) (by simp)).trans HO3.out (U := [R]) (fun g h _ => h) (fun g h _ => h)).trans HQ3D.out (U := [R]) (fun g h _ => h) (by simp)).trans HQ4.out (U := [R]) (fun g h _ => h) (by simp)).trans HO5.out (U := [R]) (fun g h _ => h) (fun g h _ => h)).trans hq6 (fun g h _ => h) (by simp)
                have hAf : Only [R] w Wf := hOw6.trans hOf (fun g h _ => h) (fun g hg hlt => absurd (List.mem_singleton.1 hg) (by omega))
                have hoe6 := (((((HOE.out.quiet HQ2.out).only HO3.out (by intro g hg; rw [List.mem_singleton] at hg; subst hg; exact fun e => by have := hfp _ e; omega)).quiet HQ3D.out).quiet HQ4.out).only HO5.out (by intro g hg; rw [List.mem_singleton] at hg; subst hg; exact fun e => by have := hfp _ e; omega)).quiet hq6
                have hoc6 := (((((HOC.out.quiet HQ2.out).only HO3.out (by intro g hg; rw [List.mem_singleton] at hg; omega)).quiet HQ3D.out).quiet HQ4.out).only HO5.out (by intro g hg; rw [List.mem_singleton] at hg; omega)).quiet hq6
                have hof6 := (((((HOF.out.quiet HQ2.out).only HO3.out (by intro g hg; rw [List.mem_singleton] at hg; subst hg; exact fun e => by have := hfy _ e; omega)).quiet HQ3D.out).quiet HQ4.out).only HO5.out (by intro g hg; rw [List.mem_singleton] at hg; subst hg; exact fun e => by have := hfy _ e; omega)).quiet hq6
                exact ⟨hAf, (HR5.out.quiet hq6).only hOf (by simp; omega), _, _, _, rfl, (hoe6.only hOf (by intro g hg; rw [List.mem_singleton] at hg; subst hg; exact fun e => by have := hfp _ e; omega)).lower (by omega), (hoc6.only hOf (by intro g hg; rw [List.mem_singleton] at hg; omega)).lower (by omega), (hof6.only hOf (by intro g hg; rw [List.mem_singleton] at hg; subst hg; exact fun e => by have := hfy _ e; omega)).lower (by omega), HSY.out⟩
end Go.Proofs.YtmbjehnddgcboaaGreatDoor
/- box.open, box.Open: what a container tells of itself. Conditions: the bytes read. -/
namespace Go.Proofs.YtmbjehnddgcboaaGreatDoor
open Go.RowKit
set_option linter.unusedVariables false
set_option linter.unusedSimpArgs false

def sBox : ByteArray := ⟨#[98, 111, 120]⟩
/-- what a container's bytes are: all that is read, or the error with its place -/
def openR (l : List Int) : Except Err WholeD :=
  match (allR l).1 with
  | .error e => .error (inE sBox (allR l).2.2 e)
  | .ok x => .ok x
def OpenP (w : World) (r : Except Err WholeD) (e : Ending) (w' : World) : Prop :=
  Only [] w w' ∧ match r with
    | .ok x => ∃ pv cv fv, e = .returned (.tuple #[infoV x.head.W x.head.H x.head.F x.head.c pv, cv, fv, .nilIface]) ∧ EntriesAt w.heap.size w'.heap.size w' pv x.parts ∧ CodedsAt w.heap.size w'.heap.size w' cv x.coded ∧ Ints .i64 w.heap.size w'.heap.size w' fv x.fills
    | .error er => ∃ ev, e = .returned (.tuple #[infoV 0 0 0 cfg0 (.slice none 0 0), .slice none 0 0, .slice none 0 0, ev]) ∧ ErrV w.heap.size w'.heap.size w' ev er

set_option maxRecDepth 100000 in
set_option maxHeartbeats 8000000 in
theorem open_any {lo hi : Nat} {bv : Value} {l : List Int} {w : World} (h : Ints .u8 lo hi w bv l) (hh : hi ≤ w.heap.size) (hl : l.length ≤ 1000000000000) :
    Calls Tryz.prog 17 #[bv] w (OpenP w (openR l)) := by
  have Hh := Lib.hid h
  obtain ⟨ba, bcap, rfl, _⟩ := h.open
  have hO : Only [] w ((w.alloc (.cells #[.int .i64 0, .int .i64 0, .int .i64 0, .int .i64 0, .int .i64 0, .int .i64 0, .int .i64 0, .int .i64 0, .int .i64 0, .int .i64 0, .int .i64 0, .slice none 0 0] 29)).alloc (.cells #[.slice ba l.length bcap, .int .i64 0, .int .i64 0] 100)) := (Only.new _ _).q (Only.new _ _)
  have hr : Rd (w.heap.size + 1) (.slice ba l.length bcap) ((w.alloc (.cells #[.int .i64 0, .int .i64 0, .int .i64 0, .int .i64 0, .int .i64 0, .int .i64 0, .int .i64 0, .int .i64 0, .int .i64 0, .int .i64 0, .int .i64 0, .slice none 0 0] 29)).alloc (.cells #[.slice ba l.length bcap, .int .i64 0, .int .i64 0] 100)) 0 0 := heap_alloc_new' (by simp)
  have H := Lib.hid (rall_any hr (h.quiet hO) (by omega) hl)
  have hI : ((w.alloc (.cells #[.int .i64 0, .int .i64 0, .int .i64 0, .int .i64 0, .int .i64 0, .int .i64 0, .int .i64 0, .int .i64 0, .int .i64 0, .int .i64 0, .int .i64 0, .slice none 0 0] 29)).alloc (.cells #[.slice ba l.length bcap, .int .i64 0, .int .i64 0] 100)).heap[w.heap.size]? = some (.cells #[.int .i64 0, .int .i64 0, .int .i64 0, .int .i64 0, .int .i64 0, .int .i64 0, .int .i64 0, .int .i64 0, .int .i64 0, .int .i64 0, .int .i64 0, .slice none 0 0] 29 (0, 0)) := (Below.heap_alloc _ _ _ (by simp)).trans (heap_alloc_new _ _)
  have HI := Lib.hid hI
  have HO := Lib.hid hO
  clear h hO hr hI
  cases hres : (allR l).1 with
  | error er =>
    have hfin : openR l = .error (inE sBox (allR l).2.2 er) := by unfold openR; rw [hres]
    have Hfin := Lib.hid hfin
    generalize hall : allR l = A at *
    obtain ⟨a, p, n⟩ := A
    simp only at hres
    subst hres
    clear hfin hall
    go_enter Tryz.func17, Tryz.ntmps17
    go_wp2_with (first
      | (go_at_call 37; refine H.out.mono ?_; rintro e w2 hP; unfold AllP at hP; simp only at hP; obtain ⟨hq2, hr2, ev, rfl, hev⟩ := hP; obtain ⟨et, eu, rfl⟩ := id hev.held; unfold infoV cfg0; simp only; have c2 := hr2.c2; have v2 := (fun o => (Only.new w2 o).cell c2 (by simp)); have HEv := Lib.hid hev; have HI2 := Lib.hid (hq2.rowAt HI.out (by simp)); have Hq2 := Lib.hid hq2; clear hev hq2 hr2 c2)
      | (go_at_call 38; refine (in_any _ _ (HEv.out.quiet (Only.new _ _)) (by simp) (by have := Hq2.out.size; simp at this ⊢; omega)).mono ?_; rintro e w3 ⟨ev3, rfl, hev3, hq3⟩; obtain ⟨et3, eu3, rfl⟩ := id hev3.held; have rI3 := hq3.rowAt ((Only.new _ _).rowAt HI2.out (by simp)) (by simp); obtain ⟨⟨m0, m1, m2, m3, m4, m5⟩, ⟨m6, m7, m8, m9, m10, m11⟩⟩ := cells12 rI3; obtain ⟨⟨k0, k1, k2, k3, k4, k5⟩, ⟨k6, k7, k8, k9, k10, k11⟩⟩ := frz12 rI3; have HI3 := Lib.hid rI3; clear rI3)
      | fail)
    generalize hWf : World.setCell _ _ _ = Wf
    obtain ⟨hrow, hOf⟩ := end12' HI3.out hWf
    obtain ⟨⟨t0, t1, t2, t3, t4, t5⟩, ⟨t6, t7, t8, t9, t10, t11⟩⟩ := cells12 hrow
    refine bodyPost_ret (v := .tuple #[infoV 0 0 0 cfg0 (.slice none 0 0), .slice none 0 0, .slice none 0 0, .iface et3 eu3]) (by simp [results, Tryz.results17, go_sem, t0, t1, t2, t3, t4, t5, t6, t7, t8, t9, t10, t11, infoV, cfg0]) rfl ?_
    unfold OpenP
    rw [Hfin.out]
    have hO2 : Only [] w w2 := HO.out.trans Hq2.out (by simp) (by simp)
    have hO3 : Only [] w w3 := hO2.q ((Only.new _ _).q hq3)
    have hz := hO2.size
    exact ⟨hO3.trans hOf (by simp) (by simp), _, rfl, (ErrV.only hev3 hOf (by intro g hg; rw [List.mem_singleton] at hg; subst hg; left; simp; try omega)).mono (by simp; try omega) hOf.size⟩
  | ok x =>
    have hfin : openR l = .ok x := by unfold openR; rw [hres]
    have Hfin := Lib.hid hfin
    generalize hall : allR l = A at *
    obtain ⟨a, p, n⟩ := A
    simp only at hres
    subst hres
    clear hfin hall
    obtain ⟨⟨hW, hH, hF, ⟨c0, c1, c2, c3, c4, c5, c6, c7⟩, np⟩, es, cs, fs⟩ := x
    go_enter Tryz.func17, Tryz.ntmps17
    go_wp2_with (first
      | (go_at_call 37; refine H.out.mono ?_; rintro e w2 hP; unfold AllP at hP; simp only at hP; obtain ⟨hq2, hr2, pv, cv, fv, rfl, hoe, hoc, hof, hsp⟩ := hP; obtain ⟨pa, pcap, rfl⟩ := hoe.isSlice; unfold infoV; simp only; have HOE := Lib.hid hoe; have HOC := Lib.hid hoc; have HOF := Lib.hid hof; have rI2 := hq2.rowAt HI.out (by simp); obtain ⟨⟨m0, m1, m2, m3, m4, m5⟩, ⟨m6, m7, m8, m9, m10, m11⟩⟩ := cells12 rI2; obtain ⟨⟨k0, k1, k2, k3, k4, k5⟩, ⟨k6, k7, k8, k9, k10, k11⟩⟩ := frz12 rI2; have hwl : w.heap.size < w2.heap.size := (Array.getElem?_eq_some_iff.1 rI2).1; have HI2 := Lib.hid rI2; have Hq2 := Lib.hid hq2; clear hoe hoc hof hq2 hr2 rI2 hsp)
      | fail)
    generalize hWf : World.alloc _ _ = Wf
    obtain ⟨hrow, hOf⟩ := end12 HI2.out hWf
    obtain ⟨⟨t0, t1, t2, t3, t4, t5⟩, ⟨t6, t7, t8, t9, t10, t11⟩⟩ := cells12 hrow
    refine bodyPost_ret (v := .tuple #[infoV hW hH hF ⟨c0, c1, c2, c3, c4, c5, c6, c7⟩ (.slice pa es.length pcap), cv, fv, .nilIface]) (by simp [results, Tryz.results17, go_sem, t0, t1, t2, t3, t4, t5, t6, t7, t8, t9, t10, t11, infoV]) rfl ?_
    unfold OpenP
    rw [Hfin.out]
    have hO2 : Only [] w w2 := HO.out.trans Hq2.out (by simp) (by simp)
    have hz := hO2.size
    have hzf := hOf.size
    refine ⟨hO2.trans hOf (by simp) (by simp), _, _, _, rfl, ?_, ?_, ?_⟩
    · exact Rows.mono ((HOE.out.entries).only hOf (by intro g hg; rw [List.mem_singleton] at hg; subst hg; left; simp; try omega)) (by simp; omega) hzf
    · exact ((HOC.out.codeds).only hOf (by intro g hg; rw [List.mem_singleton] at hg; subst hg; left; simp; try omega)).mono (by simp; omega) hzf
    · exact ((HOF.out.ints).only hOf (by intro g hg; rw [List.mem_singleton] at hg; subst hg; left; simp; try omega)).mono (by simp; omega) hzf
end Go.Proofs.YtmbjehnddgcboaaGreatDoor
/- box.Open: what a container tells of itself. Conditions: the bytes read. -/
namespace Go.Proofs.YtmbjehnddgcboaaGreatDoor
open Go.RowKit
set_option linter.unusedVariables false
set_option linter.unusedSimpArgs false

def OpensP (w : World) (r : Except Err WholeD) (e : Ending) (w' : World) : Prop :=
  Only [] w w' ∧ match r with
    | .ok x => ∃ pv, e = .returned (.tuple #[infoV x.head.W x.head.H x.head.F x.head.c pv, .nilIface]) ∧ EntriesAt w.heap.size w'.heap.size w' pv x.parts
    | .error er => ∃ ev, e = .returned (.tuple #[infoV 0 0 0 cfg0 (.slice none 0 0), ev]) ∧ ErrV w.heap.size w'.heap.size w' ev er

set_option maxRecDepth 100000 in
set_option maxHeartbeats 8000000 in
theorem Open_any {lo hi : Nat} {bv : Value} {l : List Int} {w : World} (h : Ints .u8 lo hi w bv l) (hh : hi ≤ w.heap.size) (hl : l.length ≤ 1000000000000) :
    Calls Tryz.prog 6 #[bv] w (OpensP w (openR l)) := by
  have hO : Only [] w (w.alloc (.cells #[.int .i64 0, .int .i64 0, .int .i64 0, .int .i64 0, .int .i64 0, .int .i64 0, .int .i64 0, .int .i64 0, .int .i64 0, .int .i64 0, .int .i64 0, .slice none 0 0] 29)) := Only.new _ _
  have H := Lib.hid (open_any (h.quiet hO) (by simp; omega) hl)
  have HO := Lib.hid hO
  clear hO h
  cases hres : openR l with
  | error er =>
    rw [hres] at H
    clear hres
    go_enter Tryz.func6, Tryz.ntmps6
    go_wp2_with (first
      | (go_at_call 17; refine H.out.mono ?_; rintro e w2 hP; unfold OpenP at hP; simp only at hP; obtain ⟨hq2, ev, rfl, hev⟩ := hP; obtain ⟨et, eu, rfl⟩ := id hev.held; unfold infoV cfg0; simp only; have HEv := Lib.hid hev; have rI2 := hq2.fresh; obtain ⟨⟨m0, m1, m2, m3, m4, m5⟩, ⟨m6, m7, m8, m9, m10, m11⟩⟩ := cells12 rI2; obtain ⟨⟨k0, k1, k2, k3, k4, k5⟩, ⟨k6, k7, k8, k9, k10, k11⟩⟩ := frz12 rI2; have hwl : w.heap.size < w2.heap.size := (Array.getElem?_eq_some_iff.1 rI2).1; have HI2 := Lib.hid rI2; have Hq2 := Lib.hid hq2; clear hev hq2 rI2)
      | fail)
    generalize hWf : World.alloc _ _ = Wf
    obtain ⟨hrow, hOf⟩ := end12 HI2.out hWf
    obtain ⟨⟨t0, t1, t2, t3, t4, t5⟩, ⟨t6, t7, t8, t9, t10, t11⟩⟩ := cells12 hrow
    refine bodyPost_ret (v := .tuple #[infoV 0 0 0 cfg0 (.slice none 0 0), .iface et eu]) (by simp [results, Tryz.results6, go_sem, t0, t1, t2, t3, t4, t5, t6, t7, t8, t9, t10, t11, infoV, cfg0]) rfl ?_
    unfold OpensP
    have hO2 : Only [] w w2 := HO.out.q Hq2.out
    exact ⟨hO2.trans hOf (by simp) (by simp), _, rfl, (ErrV.only HEv.out hOf (by intro g hg; rw [List.mem_singleton] at hg; subst hg; left; simp; try omega)).mono (by simp; try omega) hOf.size⟩
  | ok x =>
    rw [hres] at H
    clear hres
    obtain ⟨⟨hW, hH, hF, ⟨c0, c1, c2, c3, c4, c5, c6, c7⟩, np⟩, es, cs, fs⟩ := x
    go_enter Tryz.func6, Tryz.ntmps6
    go_wp2_with (first
      | (go_at_call 17; refine H.out.mono ?_; rintro e w2 hP; unfold OpenP at hP; simp only at hP; obtain ⟨hq2, pv, cv, fv, rfl, hoe, hoc, hof⟩ := hP; obtain ⟨pa, pcap, hpv, _⟩ := id hoe.open; subst hpv; unfold infoV; simp only; have HOE := Lib.hid hoe; have rI2 := hq2.fresh; obtain ⟨⟨m0, m1, m2, m3, m4, m5⟩, ⟨m6, m7, m8, m9, m10, m11⟩⟩ := cells12 rI2; obtain ⟨⟨k0, k1, k2, k3, k4, k5⟩, ⟨k6, k7, k8, k9, k10, k11⟩⟩ := frz12 rI2; have hwl : w.heap.size < w2.heap.size := (Array.getElem?_eq_some_iff.1 rI2).1; have HI2 := Lib.hid rI2; have Hq2 := Lib.hid hq2; clear hoe hoc hof hq2 rI2)
      | fail)
    generalize hWf : World.alloc _ _ = Wf
    obtain ⟨hrow, hOf⟩ := end12 HI2.out hWf
    obtain ⟨⟨t0, t1, t2, t3, t4, t5⟩, ⟨t6, t7, t8, t9, t10, t11⟩⟩ := cells12 hrow
    refine bodyPost_ret (v := .tuple #[infoV hW hH hF ⟨c0, c1, c2, c3, c4, c5, c6, c7⟩ (.slice pa es.length pcap), .nilIface]) (by simp [results, Tryz.results6, go_sem, t0, t1, t2, t3, t4, t5, t6, t7, t8, t9, t10, t11, infoV]) rfl ?_
    unfold OpensP
    have hO2 : Only [] w w2 := HO.out.q Hq2.out
    have hz := hO2.size
    exact ⟨hO2.trans hOf (by simp) (by simp), _, rfl, Rows.mono (HOE.out.only hOf (by intro g hg; rw [List.mem_singleton] at hg; subst hg; left; simp; try omega)) (by simp; try omega) hOf.size⟩
end Go.Proofs.YtmbjehnddgcboaaGreatDoor
/- What an opened container's lists are: as many fills as frames, each within the bytes. Conditions: none. -/
namespace Go.Proofs.YtmbjehnddgcboaaGreatDoor
open Go.RowKit
set_option linter.unusedVariables false
set_option linter.unusedSimpArgs false

/-- frames and fills within n bytes, as many of the one as of the other -/
def Fits (n : Nat) (cs : List Coded) (fs : List Int) : Prop := fs.length = cs.length ∧ (∀ c ∈ cs, c.data.length ≤ n ∧ readB c = none) ∧ ∀ z ∈ fs, 0 ≤ z ∧ z ≤ n
theorem Fits.append {n : Nat} {cs cs' : List Coded} {fs fs' : List Int} (h : Fits n cs fs) (k : Fits n cs' fs') : Fits n (cs ++ cs') (fs ++ fs') := by
  obtain ⟨h1, h2, h3⟩ := h
  obtain ⟨k1, k2, k3⟩ := k
  refine ⟨by simp [h1, k1], fun c hc => ?_, fun z hz => ?_⟩
  · rcases List.mem_append.1 hc with h | h
    · exact h2 c h
    · exact k2 c h
  · rcases List.mem_append.1 hz with h | h
    · exact h3 z h
    · exact k3 z h
theorem framesR_fits {l : List Int} (hl : ∀ x ∈ l, InK .u8 x) : ∀ (c i p n : Nat) {x : List Coded × List Int}, p ≤ l.length → (framesR l c i p n).1 = .ok x → Fits l.length x.1 x.2
  | 0, i, p, n, x, hp, h => by
    simp only [framesR] at h
    cases h
    exact ⟨rfl, by simp, by simp⟩
  | c + 1, i, p, n, x, hp, h => by
    unfold framesR at h
    cases hpk : peekR l p with
    | error e => rw [hpk] at h; cases h
    | ok u =>
      have h1 := peekR_ok hpk hp hl
      have hz := zeros_le (l.drop u.end_)
      rw [List.length_drop] at hz
      rw [hpk] at h
      simp only at h
      split at h
      · cases h
      · cases hrb : readB ⟨u.kind, u.data⟩ with
        | some k => rw [hrb] at h; cases h
        | none =>
          rw [hrb] at h
          simp only [consF] at h
          cases hf : (framesR l c (i + 1) (u.end_ + zeros (l.drop u.end_)) (n + 1 + zeros (l.drop u.end_))).1 with
          | error e => rw [hf] at h; cases h
          | ok y =>
            rw [hf] at h
            have ih := framesR_fits hl c _ _ _ (by omega) hf
            cases h
            have h0 : Fits l.length [⟨u.kind, u.data⟩] [((zeros (l.drop u.end_) : Nat) : Int)] := ⟨rfl, by simp only [List.mem_singleton, forall_eq]; exact ⟨by omega, hrb⟩, by simp only [List.mem_singleton, forall_eq]; omega⟩
            exact h0.append ih
theorem partR_fits {l : List Int} (hl : ∀ x ∈ l, InK .u8 x) {p n : Nat} {num first left behind : Int} {x : Entry × List Coded × List Int} (hp : p ≤ l.length) (h : (partR l p n num first left behind).1 = .ok x) : Fits l.length x.2.1 x.2.2 := by
  unfold partR at h
  cases hnx : nextR l p 17 3 with
  | error e => rw [hnx] at h; cases h
  | ok u =>
    obtain ⟨hpk, _, _⟩ := nextR_peek hnx
    have h1 := peekR_ok hpk hp hl
    rw [hnx] at h
    simp only at h
    split at h
    · cases h
    · cases hf : (framesR l (u.data.getD 2 0).toNat 0 u.end_ (n + 1)).1 with
      | error e => rw [hf] at h; cases h
      | ok y =>
        rw [hf] at h
        have := framesR_fits hl _ _ _ _ (by omega) hf
        cases h
        exact this
theorem partsR_fits {l : List Int} (hl : ∀ x ∈ l, InK .u8 x) {F parts : Int} : ∀ (c k a p n : Nat) {x : List Entry × List Coded × List Int}, p ≤ l.length → n ≤ p → (partsR l F parts c k a p n).1 = .ok x → Fits l.length x.2.1 x.2.2 ∧ x.1.length = c
  | 0, k, a, p, n, x, hp, hn, h => by
    simp only [partsR] at h
    cases h
    exact ⟨⟨rfl, by simp, by simp⟩, rfl⟩
  | c + 1, k, a, p, n, x, hp, hn, h => by
    unfold partsR at h
    have hpo := partR_ok hl (num := (k : Int)) (first := (a : Int)) (left := F - a) (behind := parts - 1 - k) hp hn
    cases hpr : (partR l p n k a (F - a) (parts - 1 - k)).1 with
    | error e => rw [hpr] at h; cases h
    | ok y =>
      have h1 := partR_fits hl hp hpr
      rw [hpr] at h
      simp only [consP] at h
      cases hps : (partsR l F parts c (k + 1) (a + y.2.1.length) (partR l p n k a (F - a) (parts - 1 - k)).2.1 (partR l p n k a (F - a) (parts - 1 - k)).2.2).1 with
      | error e => rw [hps] at h; cases h
      | ok z =>
        rw [hps] at h
        have ih := partsR_fits hl c _ _ _ _ hpo.2.1 hpo.2.2.1 hps
        cases h
        exact ⟨h1.append ih.1, by simp [ih.2]⟩
theorem partsR_sum {l : List Int} (hl : ∀ x ∈ l, InK .u8 x) {F parts : Int} : ∀ (c k a p n : Nat) {x : List Entry × List Coded × List Int}, p ≤ l.length → n ≤ p → (k : Int) + c = parts → 1 ≤ c → (partsR l F parts c k a p n).1 = .ok x → (a : Int) + x.2.1.length = F
  | 0, k, a, p, n, x, hp, hn, hk, hc, h => absurd hc (by omega)
  | c + 1, k, a, p, n, x, hp, hn, hk, hc, h => by
    unfold partsR at h
    have hpo := partR_ok hl (num := (k : Int)) (first := (a : Int)) (left := F - a) (behind := parts - 1 - k) hp hn
    cases hpr : (partR l p n k a (F - a) (parts - 1 - k)).1 with
    | error e => rw [hpr] at h; cases h
    | ok y =>
      obtain ⟨h1, h2, h3, h4, h5, h6, h7, h8⟩ := hpo.2.2.2 y hpr
      rw [hpr] at h
      simp only [consP] at h
      cases hps : (partsR l F parts c (k + 1) (a + y.2.1.length) (partR l p n k a (F - a) (parts - 1 - k)).2.1 (partR l p n k a (F - a) (parts - 1 - k)).2.2).1 with
      | error e => rw [hps] at h; cases h
      | ok z =>
        rw [hps] at h
        cases h
        rw [List.length_append]
        by_cases hc0 : c = 0
        · subst hc0
          simp only [partsR] at hps
          cases hps
          have := h4 (by omega)
          simp only [List.length_nil]
          omega
        · have ih := partsR_sum hl c (k + 1) (a + y.2.1.length) _ _ hpo.2.1 hpo.2.2.1 (by omega) (by omega) hps
          omega
theorem closeR_ok {l : List Int} {h : HeadD} {es : List Entry} {cs : List Coded} {fs : List Int} {p n : Nat} {x : WholeD} (hh : (closeR l h es cs fs p n).1 = .ok x) : x = ⟨h, es, cs, fs⟩ := by
  unfold closeR at hh
  split at hh
  · cases hh
  · split at hh
    · cases hh
    · split at hh
      · cases hh
      · cases hh; rfl
/-- what an opened container is -/
theorem openR_ok {l : List Int} (hl : ∀ x ∈ l, InK .u8 x) {x : WholeD} (h : openR l = .ok x) : headOk x.head ∧ Fits l.length x.coded x.fills ∧ (x.parts.length : Int) = x.head.parts ∧ (x.coded.length : Int) = x.head.F := by
  unfold openR at h
  cases ha : (allR l).1 with
  | error e => rw [ha] at h; cases h
  | ok y =>
    rw [ha] at h
    cases h
    unfold allR at ha
    have hp := headR_pos hl (p := 0) (n := 0) (Nat.zero_le _) (Nat.le_refl _)
    cases hhd : (headR l 0 0).1 with
    | error e => rw [hhd] at ha; cases ha
    | ok hd =>
      have hok := hp.2.2.2 _ hhd
      rw [hhd] at ha
      simp only [bodyR] at ha
      cases hps : (partsR l hd.F hd.parts hd.parts.toNat 0 0 (headR l 0 0).2.1 (headR l 0 0).2.2).1 with
      | error e => rw [hps] at ha; cases ha
      | ok z =>
        rw [hps] at ha
        have hf := partsR_fits hl _ _ _ _ _ hp.2.1 hp.2.2.1 hps
        have := closeR_ok ha
        subst this
        obtain ⟨h1, h2, h3, h4, h5, h6⟩ := hok
        have hsum := partsR_sum hl _ 0 0 _ _ hp.2.1 hp.2.2.1 (by omega) (by omega) hps
        exact ⟨⟨h1, h2, h3, h4, h5, h6⟩, hf.1, by simp only; omega, by simp only; omega⟩
end Go.Proofs.YtmbjehnddgcboaaGreatDoor
/- box.Sizes: how many bytes each frame has, with what is filled. Conditions: the bytes read. -/
namespace Go.Proofs.YtmbjehnddgcboaaGreatDoor
open Go.RowKit
set_option linter.unusedVariables false
set_option linter.unusedSimpArgs false

def takenR (cs : List Coded) (fs : List Int) : List Int := List.zipWith (fun c f => costOf c + f) cs fs
def sizesR (l : List Int) : Except Err (List Int) :=
  match openR l with
  | .error e => .error e
  | .ok x => .ok (takenR x.coded x.fills)
theorem takenR_take {cs : List Coded} {fs : List Int} {k : Nat} (h : k < cs.length) (h2 : k < fs.length) : takenR (cs.take (k + 1)) (fs.take (k + 1)) = takenR (cs.take k) (fs.take k) ++ [((cs.getD k default).data.length : Int) + 8 + fs.getD k 0] := by
  rw [List.take_succ_eq_append_getElem h, List.take_succ_eq_append_getElem h2, takenR, List.zipWith_append (by simp; omega)]
  simp [takenR, costOf, h, h2]

set_option maxRecDepth 100000 in
set_option maxHeartbeats 8000000 in
theorem Sizes_any {lo hi : Nat} {bv : Value} {l : List Int} {w : World} (h : Ints .u8 lo hi w bv l) (hh : hi ≤ w.heap.size) (hl : l.length ≤ 100000000) :
    Calls Tryz.prog 8 #[bv] w (ListOr w (sizesR l)) := by
  have H := Lib.hid (open_any h hh (by omega))
  have hr8 := h.2
  clear h
  cases hres : openR l with
  | error er =>
    have hfin : sizesR l = .error er := by unfold sizesR; rw [hres]
    have Hfin := Lib.hid hfin
    rw [hres] at H
    clear hres hfin
    go_enter Tryz.func8, Tryz.ntmps8
    go_wp2_with (first
      | (go_at_call 17; refine H.out.mono ?_; rintro e w2 hP; unfold OpenP at hP; simp only at hP; obtain ⟨hq2, ev, rfl, hev⟩ := hP; obtain ⟨et, eu, rfl⟩ := id hev.held; unfold infoV cfg0; simp only; have HEv := Lib.hid hev; clear hev)
      | fail)
    go_ret2
    rw [Hfin.out]
    exact ⟨hq2.alloc _, _, rfl, (HEv.out.quiet (Only.new _ _)).mono (Nat.le_refl _) (by simp)⟩
  | ok x =>
    have hfin : sizesR l = .ok (takenR x.coded x.fills) := by unfold sizesR; rw [hres]
    have hok := openR_ok hr8 hres
    obtain ⟨hok1, ⟨hf1, hf2, hf3⟩, _, hok2⟩ := hok
    have hcm3 : x.coded.length ≤ 16 := by obtain ⟨_, _, h16, _⟩ := hok1; omega
    clear hok1 hok2
    have Hfin := Lib.hid hfin
    rw [hres] at H
    clear hres hfin
    obtain ⟨⟨hW, hH, hF, ⟨c0, c1, c2, c3, c4, c5, c6, c7⟩, np⟩, es, cs, fs⟩ := x
    simp only at hf1 hf2 hf3 hcm3
    go_enter Tryz.func8, Tryz.ntmps8
    go_wp2_with (first
      | (go_at_call 17; refine H.out.mono ?_; rintro e w2 hP; unfold OpenP at hP; simp only at hP; obtain ⟨hq2, pv, cv, fv, rfl, hoe, hoc, hof⟩ := hP; obtain ⟨pa, pcap, hpv, _⟩ := id hoe.open; subst hpv; unfold infoV; simp only; obtain ⟨ca, ccap, hcv, hcc, hcm, hcel⟩ := id hoc.open; subst hcv; obtain ⟨fa, fcap, hfv, hfc, hfm, hfat, hfcell⟩ := id hof.open; subst hfv; have Hcel := Lib.hid hcel; have Hfat := Lib.hid hfat; have Hfcell := Lib.hid hfcell; clear hoe hoc hof hcel hfat hfcell)
      | fail)
    generalize hWg : World.alloc _ _ = W0
    have hqN : Only [] w2 W0 := by rw [← hWg]; exact Only.new _ _
    have hq0 : Only [] w W0 := hq2.q hqN
    have Hf1 := Lib.hid hf1
    have Hf2 := Lib.hid hf2
    have Hf3 := Lib.hid hf3
    have HqN := Lib.hid hqN
    have hcl : (cs.length : Int) ≤ 9223372036854775807 := by unfold maxLen at hcm; omega
    have hfl : (fs.length : Int) ≤ 9223372036854775807 := by unfold maxLen at hfm; omega
    have hcm2 : cs.length ≤ 9223372036854775807 := by unfold maxLen at hcm; omega
    clear hWg hqN hf1 hf2 hf3 hcm hfm
    go_loopw [23, 8] (fun i y wr => ∃ k : Nat, k ≤ cs.length ∧ i = .int .i64 k ∧ Own .i64 3 W0.heap.size wr y (takenR (cs.take k) (fs.take k)) ∧ From W0.heap.size y ∧ Only [] W0 wr) (fun i _ _ => cs.length - (intOf i).toNat)
    case atStart => exact ⟨0, by omega, rfl, Own.nil _ _ _ _, From.nil _, Only.refl _ _⟩
    case round =>
      obtain ⟨k, hk, rfl, hown, hfrom, hq⟩ := hrel
      by_cases hlt : k < cs.length
      · have hlf : k < fs.length := by have := Hf1.out; omega
        obtain ⟨b, off, dv, hca, _, _, hc1, hc2, hkind, hd⟩ := Hcel.out k hlt
        obtain ⟨fb, foff, hfa, hfb1, hfb2⟩ := Hfat.out k hlf
        subst hca; subst hfa
        have c1 := hq.cell (HqN.out.cell hc1 (by simp)) (by simp)
        have c2 := hq.cell (HqN.out.cell hc2 (by simp)) (by simp)
        have f1 := hq.cell (HqN.out.cell (Hfcell.out fb foff rfl k hlf) (by simp)) (by simp)
        have hd' := hd.quiet (HqN.out.q hq)
        obtain ⟨da, dcap, rfl, _⟩ := hd.open
        have hdl := (Hf2.out (cs.getD k default) (by simp [hlt])).1
        have hz := Hf3.out (fs.getD k 0) (by simp [hlf])
        have hs := takenR_take hlt hlf
        have Hs := Lib.hid hs
        have Hd := Lib.hid hd'
        clear hc1 hc2 hd hd' hs hkind
        have hx : (0 : Int) ≤ (k : Int) := by omega
        have hx1 : (k : Int) < (cs.length : Int) := by omega
        have hx2 : (k : Int) < (fs.length : Int) := by omega
        have hlen : (takenR (cs.take k) (fs.take k)).length ≤ k := by simp [takenR]; omega
        have Hlen := Lib.hid hlen
        generalize takenR (cs.take k) (fs.take k) = S0 at *
        generalize cs.getD k default = x at *
        generalize fs.getD k 0 = z at *
        obtain ⟨xk, xd⟩ := x
        simp only at c1 c2 hdl
        clear hlen
        go_wp2_with fail
        generalize hW3 : World.alloc wr _ = W3
        have hqU : Only [] wr W3 := by rw [← hW3]; exact Only.new _ _
        have rC : W3.heap[wr.heap.size]? = some (.cells #[.int .i64 xk, .slice da xd.length dcap] 71 (0, 0)) := by rw [← hW3]; exact heap_alloc_new _ _
        have a0 : W3.cell? ⟨wr.heap.size, 0, none⟩ = some (.int .i64 xk) := by rw [cell_of_row _ _ _ _ _ _ rC]; rfl
        have a1 : W3.cell? ⟨wr.heap.size, 1, none⟩ = some (.slice da xd.length dcap) := by rw [cell_of_row _ _ _ _ _ _ rC]; rfl
        have f3 := hqU.cell f1 (by simp)
        have hd3 := Hd.out.quiet hqU.drew
        have hcost := cost_any (k := xk) hd3 (by omega)
        have HC := Lib.hid hcost
        have hqz := hq.size
        have hq0z := hq0.size
        have hwv : IntKind.i64.wrap ((xd.length : Int) + 8 + z) = (xd.length : Int) + 8 + z := by rw [IntKind.wrap_i64]; omega
        have HQU := Lib.hid hqU
        have hap : u8.ownBlock ≠ some wr.heap.size := fun e => by have := (hown.at _ e).2; omega
        have hap2 : u8.ownBlock ≠ some fb := fun e => by have := hfrom _ e; have := HqN.out.size; omega
        clear hW3 rC hd3 hcost hqU c1 c2 f1
        go_region_held3 (fun w' => w'.cell? ⟨wr.heap.size, 0, none⟩ = some (.int .i64 xk) ∧ w'.cell? ⟨wr.heap.size, 1, none⟩ = some (.slice da xd.length dcap) ∧ w'.cell? ⟨fb, foff + k, none⟩ = some (.int .i64 z))
          (first
            | (go_split_ands; refine ⟨hacc4.keep (by assumption) hap, hacc4.keep (by assumption) hap, hacc4.keep (by assumption) hap2⟩)
            | (go_split_ands; refine ⟨hq3.cell (by assumption) (by simp), hq3.cell (by assumption) (by simp), hq3.cell (by assumption) (by simp)⟩)
            | (simp [*, World.cell?_alloc_some, World.cell?_setCell_far, frozen?_alloc_cells, frozen_drew, World.frozen?_setCell])
            | fail)
          (first
            | (go_at_call 22; refine HC.out.mono ?_; rintro e w3 ⟨rfl, hq3⟩; have hq3' : Only [] wr w3 := (HQU.out.drew).q hq3; have hz3 := hq3'.size;
                have hown3 := hown.quiet (hq3'.q (Only.new _ (.cells #[.int .i64 ((xd.length : Int) + 8 + z)] 3)));
                have hsrc := ints_newG (k := .i64) (w := w3) (t := 3) (l := [(xd.length : Int) + 8 + z]) rfl (by simp [maxLen]) (by simp only [List.mem_singleton, forall_eq, InK]; omega) 1 rfl rfl;
                have hby : (S0.length + [(xd.length : Int) + 8 + z].length) * 8 ≤ 140737488355328 := (by have := Hlen.out; have := hcm3; simp only [List.length_singleton]; omega);
                have hba : W0.heap.size ≤ (w3.alloc (.cells #[.int .i64 ((xd.length : Int) + 8 + z)] 3)).heap.size := (by simp; omega))
            | (refine step_append_ints rfl (.tmp 28) (.tmp 36) 36 rfl EI hown3 rfl hsrc rfl hby hba (fun v1 w4 hown4 hacc4 => ?_))
            | fail)
        go_wp2_with fail
        have hq3w : Only [] wr (w3.alloc (.cells #[.int .i64 ((xd.length : Int) + 8 + z)] 3)) := hq3'.q (Only.new _ _)
        go_roundw
        case rel => exact ⟨k + 1, by omega, by go_num, by rw [Hs.out]; exact hown4, hacc4.from_ hfrom hba, (hq.q hq3w).acc hacc4 hfrom⟩
        case measure => simp [intOf]; omega
      · obtain rfl : k = cs.length := by omega
        have hx : ¬ (cs.length : Int) < (cs.length : Int) := by omega
        go_wp2
        go_ret2
        rw [Hfin.out]
        refine ⟨hq0.q hq, _, rfl, ?_⟩
        have e1 : cs.take cs.length = cs := List.take_length
        have e2 : fs.take cs.length = fs := by rw [← Hf1.out]; exact List.take_length
        rw [e1, e2] at hown
        exact hown.lower hq0.size
end Go.Proofs.YtmbjehnddgcboaaGreatDoor
