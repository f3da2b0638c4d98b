/- Joined texts: MuxG, First. Conditions: each part names its own. -/
import Derived.Test.YtmbjehnddgcboaaGreatDoorC12
import Derived.Test.YtmbjehnddgcboaaGreatDoorC1
import Derived.Test.YtmbjehnddgcboaaGreatDoorC10
import Derived.Test.YtmbjehnddgcboaaGreatDoorC5
import Derived.Test.YtmbjehnddgcboaaGreatDoorC4
/- box.Mux makes a container of chunks that may be one, or tells why not. Conditions: the chunks read. -/
namespace Go.Proofs.YtmbjehnddgcboaaGreatDoor
open Go.RowKit
set_option linter.unusedVariables false
set_option linter.unusedSimpArgs false

theorem cells8 {Wf : World} {g : Nat} {v0 v1 v2 v3 v4 v5 v6 v7 : Value} {t : TypeId} (h : Wf.heap[g]? = some (.cells #[v0, v1, v2, v3, v4, v5, v6, v7] t (0, 0))) :
    (Wf.cell? ⟨g, 0, none⟩ = some v0 ∧ Wf.cell? ⟨g, 1, none⟩ = some v1 ∧ Wf.cell? ⟨g, 2, none⟩ = some v2 ∧ Wf.cell? ⟨g, 3, none⟩ = some v3) ∧ (Wf.cell? ⟨g, 4, none⟩ = some v4 ∧ Wf.cell? ⟨g, 5, none⟩ = some v5 ∧ Wf.cell? ⟨g, 6, none⟩ = some v6 ∧ Wf.cell? ⟨g, 7, none⟩ = some v7) := by
  refine ⟨⟨?_, ?_, ?_, ?_⟩, ?_, ?_, ?_, ?_⟩ <;> (rw [cell_of_row _ _ _ _ _ _ h]; rfl)

set_option maxRecDepth 100000 in
set_option maxHeartbeats 16000000 in
theorem mux_good {lo hi : Nat} (c : Cfg) (W H : Int) {v : Value} {l : List Chunk} {w : World} (h : ChunksAt lo hi w v l) (hhi : hi ≤ w.heap.size) (hm : mayB c = true) (hn : newB W H 0 = true) (hc : checkB l = none) :
    Calls Tryz.prog 14 #[c.v, .int .i64 W, .int .i64 H, v] w (MuxP w (muxR c W H l)) := by
  obtain ⟨hne, hck, hro⟩ := checkB_none hc
  have h16 := runsOn_le hck hro (by omega)
  have hle := flat_le hck
  have hl0 : 0 < l.length := List.length_pos_iff.2 hne
  have hl16 : l.length ≤ 16 := by omega
  have hfirst := runsOn_first hck hro
  have hckd : ∀ k, k < l.length → chunkB (l.getD k default) = true := fun k hk => hck _ (by simp [hk])
  have hMUX : muxR c W H l = (match fills c (allSizes l) with | .error e => .error e | .ok fl => .ok (muxBytes c W H l fl)) := by
    unfold muxR; rw [if_neg (by simp [hm]), if_neg (by simp [hn]), hc]; rfl
  have HC := Lib.hid (fun w' (o : Only [] w w') => bcheck_any (h.quiet o) (by omega : l.length ≤ 1000000))
  have HH := Lib.hid h
  have HHI := Lib.hid hhi
  obtain ⟨a, cap, rfl, _, _, hel⟩ := h.open
  have HV := Lib.hid (fun w' => check_any c w')
  have HFILL := Lib.hid (fun (w' : World) (lo hi : Nat) (v : Value) (h : Ints .i64 lo hi w' v (allSizes l)) => fills_any c h)
  have HM := Lib.hid hm
  have HMUX := Lib.hid hMUX
  have Hn := Lib.hid hn
  have Hc := Lib.hid hc
  have Hel := Lib.hid hel
  have Hck := Lib.hid hckd
  have Hck2 := Lib.hid hck
  have Hfirst := Lib.hid hfirst
  have H16 := Lib.hid h16
  have hHEAD := fun (np : Nat) (a : Option Addr) (cap : Nat) (F : Int) (w' : World) (hF0 : 0 ≤ F) (hF1 : F ≤ 255) (hnp : np ≤ 255) (h1 : 0 ≤ W ∧ W ≤ 2040) (h2 : 0 ≤ H ∧ H ≤ 2040) => header_any W H F c a np cap (w := w') hm h1.1 h1.2 h2.1 h2.2 hF0 hF1 hnp
  have hWH : (0 ≤ W ∧ W ≤ 2040) ∧ (0 ≤ H ∧ H ≤ 2040) := by
    simp only [newB, Bool.and_eq_true, sideB, decide_eq_true_eq] at hn
    omega
  have HWH := Lib.hid hWH
  have HHEAD := Lib.hid hHEAD
  rw [if_pos hm] at HV
  simp only [codeV] at HV
  have hMX := fun fl => (rfl : muxBytes c W H l fl = muxBytes c W H l fl)
  obtain ⟨a0, a1, a2, a3, a4, a5, a6, a7⟩ := c
  have HO := Lib.hid (Only.new w (.cells #[.int .i64 a0, .int .i64 a1, .int .i64 a2, .int .i64 a3, .int .i64 a4, .int .i64 a5, .int .i64 a6, .int .i64 a7] 26))
  clear h hhi hel hn hc hm hMUX hck hckd hro hfirst h16 hle hne hHEAD hWH hMX
  unfold Cfg.v at HV HFILL ⊢
  unfold infoV at HHEAD
  simp only at HHEAD
  go_enter Tryz.func14, Tryz.ntmps14
  go_wp2_with (first
    | (go_at_call 27; refine (HV.out _).mono ?_; rintro e w1 ⟨rfl, hq1⟩; have Hq1 := Lib.hid hq1; clear hq1)
    | (go_at_call 28; refine (pnew_any _ _ _ _).mono ?_; rintro e w2 hP; unfold NewP at hP; rw [Hn.out] at hP; obtain ⟨hq2, fa, fn, fc, rfl⟩ := hP; have Hq2 := Lib.hid hq2; clear hq2)
    | (go_at_call 29; refine (HC.out _ (HO.out.q (Hq1.out.q (Hq2.out.q (Only.new _ _))))).mono ?_; rintro e w3 ⟨⟨u, rfl, hu⟩, hq3⟩; rw [Hc.out] at hu; have hu2 : u = .nilIface := hu; subst hu2; have rC := hq3.rowAt ((Only.new _ _).rowAt (Hq2.out.rowAt (Hq1.out.rowAt (heap_alloc_new w _) (by simp)) (by simp)) (by simp)) (by simp); obtain ⟨⟨m0, m1, m2, m3⟩, m4, m5, m6, m7⟩ := cells8 rC; have RC := Lib.hid rC; have Hq3 := Lib.hid hq3; clear hu hq3 rC)
    | fail)
  generalize hW0 : World.alloc w3 _ = W0
  have rG : W0.heap[w3.heap.size]? = some (.cells #[.int .i64 W, .int .i64 H, .int .i64 0, .int .i64 a0, .int .i64 a1, .int .i64 a2, .int .i64 a3, .int .i64 a4, .int .i64 a5, .int .i64 a6, .int .i64 a7, .slice none 0 0] 29 (0, 0)) := by rw [← hW0]; exact heap_alloc_new _ _
  have hqN : Only [] w3 W0 := by rw [← hW0]; exact Only.new _ _
  have rC0 := hqN.rowAt RC.out (by simp)
  have hO0 : Only [] w W0 := HO.out.q (Hq1.out.q (Hq2.out.q (((Only.new _ _).q Hq3.out).q hqN)))
  have hsz0 : W0.heap.size = w3.heap.size + 1 := by rw [← hW0]; simp
  have hsz3 : w.heap.size < w3.heap.size := (Array.getElem?_eq_some_iff.1 RC.out).1
  clear hW0 hqN HC HV m0 m1 m2 m3 m4 m5 m6 m7
  generalize hGg : w3.heap.size = G at *
  clear hGg
  go_loopw [52, 15] (fun i y wr => ∃ (k : Nat) (pv : Value), k ≤ l.length ∧ i = .int .i64 k ∧ Own .i64 3 (G + 1) wr y (allSizes (l.take k)) ∧
      wr.heap[G]? = some (.cells #[.int .i64 W, .int .i64 H, .int .i64 0, .int .i64 a0, .int .i64 a1, .int .i64 a2, .int .i64 a3, .int .i64 a4, .int .i64 a5, .int .i64 a6, .int .i64 a7, pv] 29 (0, 0)) ∧
      wr.heap[w.heap.size]? = some (.cells #[.int .i64 a0, .int .i64 a1, .int .i64 a2, .int .i64 a3, .int .i64 a4, .int .i64 a5, .int .i64 a6, .int .i64 a7] 26 (0, 0)) ∧
      OwnE (G + 1) wr pv (ents0 (l.take k)) ∧ Sep y pv ∧ From (G + 1) y ∧ From (G + 1) pv ∧ Only [] w wr) (fun i _ _ => l.length - (intOf i).toNat)
  case atStart => exact ⟨0, .slice none 0 0, by omega, rfl, Own.nil _ _ _ _, rG, rC0, World.ownsRow_nil _ _ _ _, Sep.nil _, From.nil _, From.nil _, hO0⟩
  case round =>
    clear rG rC0 hO0
    obtain ⟨k, pv, hk, rfl, hown, rG, rC, hoe, hsep, hfy, hfp, hO⟩ := hrel
    have hz := hO.size
    have hGl : G < wr.heap.size := (Array.getElem?_eq_some_iff.1 rG).1
    by_cases hlt : k < l.length
    · obtain ⟨b, off, cv, rfl, _, _, hc0, hc1, hc2, hc3, hok, hcd⟩ := Hel.out k hlt
      have c0 := hO.cell hc0 (by simp)
      have c1 := hO.cell hc1 (by simp)
      have c2 := hO.cell hc2 (by simp)
      have c3 := hO.cell hc3 (by simp)
      have hcd' := hcd.quiet hO
      have hx : (0 : Int) ≤ (k : Int) := by omega
      have hx1 : (k : Int) < (l.length : Int) := by omega
      have hgood := chunkB_parts (Hck.out k hlt)
      have hcl16 : (l.getD k default).coded.length ≤ 16 := by have := hgood.1; omega
      have hdl : ∀ i, i < (l.getD k default).coded.length → ((l.getD k default).coded.getD i default).data.length ≤ 1000000000000000 := fun i hi => by have := (readB_none (hgood.2.2 ((l.getD k default).coded.getD i default) (by generalize (l.getD k default).coded = q at *; simp [hi]))).2.2; omega
      have Hs := Lib.hid (allSizes_take hlt)
      have He := Lib.hid (ents0_take hlt)
      have hsl : (allSizes (l.take k)).length ≤ 16 := by
        have := (Hfirst.out k hlt).2; have := H16.out; rw [allSizes_length]; omega
      have hel2 : (ents0 (l.take k)).length ≤ 16 := by rw [ents0_length, List.length_take]; omega
      clear hc0 hc1 hc2 hc3 hcd hgood
      generalize allSizes (l.take k) = S0 at *
      generalize ents0 (l.take k) = E0 at *
      generalize l.getD k default = x at *
      obtain ⟨xn, xf, xc, xl⟩ := x
      simp only at c0 c1 c2 c3 hcd' hcl16 hdl Hs He
      obtain ⟨ca, ccap, rfl, _⟩ := hcd'.open
      obtain ⟨pa, pcap, rfl⟩ := hoe.isSlice
      obtain ⟨ya, ycap, rfl, _⟩ := hown.ints.open
      have HCD := Lib.hid hcd'
      have HOWN := Lib.hid hown
      have HOE := Lib.hid hoe
      have HG := Lib.hid rG
      have HCc := Lib.hid rC
      have HOw := Lib.hid hO
      have HDL := Lib.hid hdl
      clear hcd' hown hoe rG rC hdl hO
      have hyG : (Value.slice ya S0.length ycap).ownBlock ≠ some G := fun e => by have := hfy _ e; omega
      have hyX : (Value.slice ya S0.length ycap).ownBlock ≠ some wr.heap.size := fun e => by have := (HOWN.out.at _ e).2; omega
      have hpG : (Value.slice pa E0.length pcap).ownBlock ≠ some G := fun e => by have := hfp _ e; omega
      have hyC : (Value.slice ya S0.length ycap).ownBlock ≠ some w.heap.size := fun e => by have := hfy _ e; omega
      have hpC : (Value.slice pa E0.length pcap).ownBlock ≠ some w.heap.size := fun e => by have := hfp _ e; omega
      have hfpl : ∀ g, (Value.slice pa E0.length pcap).ownBlock = some g → g < wr.heap.size := fun g e => (HOE.out.lt g e).2
      have HSEP := Lib.hid hsep
      clear hsep
      go_wp2_with (first
        | (go_at_call 30; refine (sizes_any (HCD.out.quiet (Only.new _ _)) (by omega) HDL.out).mono ?_; rintro e w2 ⟨v1, rfl, hown1, hq2⟩;
            have hq12 : Only [] wr w2 := (Only.new _ _).q hq2; have hz2 := hq12.size; have HO1 := Lib.hid hown1; have HQ12 := Lib.hid hq12;
            have HX2 := Lib.hid (hq2.rowAt (heap_alloc_new _ _) (by simp)); have hsz := hq2.size;
            have hown0 := HOWN.out.quiet hq12; have hint1 := hown1.ints; clear hown1 hq2 hq12)
        | (at_builtin; refine wpList_append_ints rfl (.tmp 56) (.tmp 59) _ rfl EI hown0 rfl hint1 rfl (by simp [sizesOf]; omega) (by omega) (fun v3 w3 hown3 acc3 => ?_);
            have rG3 := acc3.only.rowAt (HQ12.out.rowAt HG.out (by simp)) (fun hg => hyG (by simpa using hg)); have g11 : w3.cell? ⟨G, 11, none⟩ = some (.slice pa E0.length pcap) := (by rw [cell_of_row _ _ _ _ _ _ rG3]; rfl);
            have rX3 := acc3.only.rowAt HX2.out (fun hg => hyX (by simpa using hg)); have x1 : w3.cell? ⟨wr.heap.size, 1, none⟩ = some (.int .i64 xf) := (by rw [cell_of_row _ _ _ _ _ _ rX3]; rfl); have x2 : w3.cell? ⟨wr.heap.size, 2, none⟩ = some (.int .i64 xc) := (by rw [cell_of_row _ _ _ _ _ _ rX3]; rfl);
            have HO3 := Lib.hid hown3; have HA3 := Lib.hid acc3; have HG3 := Lib.hid rG3; have hz3 := acc3.only.size;
            have HC3 := Lib.hid (acc3.only.rowAt (HQ12.out.rowAt HCc.out (by simp)) (fun hg => hyC (by simpa using hg)));
            have hoe4 := ((HOE.out.quiet HQ12.out).only acc3.only (fun g hg hg2 => by have h1 := hfy g (by simpa using hg); exact HSEP.out g (by simpa using hg) hg2)).quiet (Only.new _ (.cells #[.int .i64 xf, .int .i64 xc, .int .i64 0, .int .i64 0] 59));
            have hsrc : Cells 4 w3.heap.size (w3.heap.size + 1) (w3.alloc (.cells #[.int .i64 xf, .int .i64 xc, .int .i64 0, .int .i64 0] 59)) (.slice (some ⟨w3.heap.size, 0, none⟩) 1 1) 1 (flatE [⟨xf, xc, 0, 0⟩]) := cells_newG rfl rfl (by simp [maxLen]) rfl;
            have hone := flatE_one [(⟨xf, xc, 0, 0⟩ : Entry)];
            have h63 : E0.length + 1 ≤ maxLen := (by simp only [maxLen]; omega);
            have hby1 : (E0.length + 1) * 32 ≤ 140737488355328 := (by omega);
            have hba1 : G + 1 ≤ (w3.alloc (.cells #[.int .i64 xf, .int .i64 xc, .int .i64 0, .int .i64 0] 59)).heap.size := (by simp; omega);
            clear hown3 acc3 rG3 rX3)
        | (at_builtin; refine wpList_append_cells rfl (.tmp 62) (.tmp 70) 27 rfl EE hoe4 rfl hsrc rfl hone h63 hby1 hba1 (fun v5 w5 h5 ho5 hat5 => ?_); obtain ⟨_, a5, cap5, rfl, _⟩ := Cells.of_own h5;
            have acc5 : Acc (.slice pa E0.length pcap) (w3.alloc (.cells #[.int .i64 xf, .int .i64 xc, .int .i64 0, .int .i64 0] 59)) (.slice a5 (E0.length + 1) cap5) w5 := ⟨ho5, hat5.imp id (fun e g hg => by rw [e] at hg; injection hg with hg; omega)⟩;
            have rG5 := acc5.only.rowAt ((Only.new _ _).rowAt HG3.out (by simp)) (fun hg => hpG (by simpa using hg));
            have y11 : w5.cell? ⟨G, 11, none⟩ = some (.slice pa E0.length pcap) := (by rw [cell_of_row _ _ _ _ _ _ rG5]; rfl); have z11 := frozen_of_row w5 G 11 _ _ rG5;
            have H5 := Lib.hid h5; have ACC5 := Lib.hid acc5; have HG5 := Lib.hid rG5; have hz5 := acc5.only.size;
            have HC5 := Lib.hid (acc5.only.rowAt ((Only.new _ _).rowAt HC3.out (by simp)) (fun hg => hpC (by simpa using hg)));
            clear h5 acc5 rG5 ho5 hat5)
        | fail)
      go_roundw
      case rel =>
        have acc5 := ACC5.out
        have hS : Only [G] w5 (w5.setCell ⟨G, 11, none⟩ (.slice a5 (E0.length + 1) cap5)) := (Only.refl _ _).setCell (by simp) _
        have s35 : Sep v3 (.slice pa E0.length pcap) := HA3.out.sep HSEP.out (fun g e => by have := hfpl g e; omega)
        have s5 : Sep (.slice a5 (E0.length + 1) cap5) v3 := acc5.sep s35.symm (fun g e => by have := (HO3.out.at g e).2; simp; omega)
        have f3 : From (G + 1) v3 := HA3.out.from_ hfy (by omega)
        have f5 : From (G + 1) (.slice a5 (E0.length + 1) cap5) := acc5.from_ hfp (by simp; omega)
        have o3 := (((HO3.out.quiet (Only.new _ _)).acc acc5 s35.symm).only hS (fun g hg e => by rw [List.mem_singleton] at hg; subst hg; have := f3 _ e; omega))
        have e5 : OwnE (G + 1) w5 (.slice a5 (E0.length + 1) cap5) (E0 ++ [⟨xf, xc, 0, 0⟩]) := by
          unfold OwnE; rw [flatE_append, List.length_append]; exact H5.out
        have e6 := e5.only hS (fun g hg e => by rw [List.mem_singleton] at hg; subst hg; have := f5 _ e; omega)
        have oA : Only [] w w5 := ((((HOw.out.q HQ12.out).acc HA3.out (fun g hg => by have := hfy g hg; omega)).q (Only.new _ _)).acc acc5 (fun g hg => by have := hfp g hg; omega))
        have oB : Only [] w (w5.setCell ⟨G, 11, none⟩ (.slice a5 (E0.length + 1) cap5)) := oA.trans hS (by simp) (fun g hg hlt => by rw [List.mem_singleton] at hg; omega)
        exact ⟨k + 1, .slice a5 (E0.length + 1) cap5, by omega, by go_num, by rw [Hs.out]; exact o3, step12_11 HG5.out, hS.rowAt HC5.out (by simp; omega), by rw [He.out]; exact e6, s5.symm, f3, f5, oB⟩
      case measure => simp [intOf]; omega
    · obtain rfl : k = l.length := by omega
      have hx : ¬ (l.length : Int) < (l.length : Int) := by omega
      rw [List.take_length] at hown hoe
      have hsl : (allSizes l).length ≤ 16 := by have := H16.out; rw [allSizes_length]; omega
      have hsl0 : 1 ≤ (allSizes l).length := by have := flat_le Hck2.out; rw [allSizes_length]; omega
      obtain ⟨ya, ycap, rfl, _⟩ := hown.ints.open
      obtain ⟨pg, pcap, hpv, hpg1, hpg2⟩ := hoe.form (by rw [ents0_length]; exact hl0)
      rw [ents0_length] at hpv
      subst hpv
      have hcells := cells8 rC
      have hset : ∀ u, Only [G] wr (wr.setCell ⟨G, 2, none⟩ u) := fun u => (Only.refl _ _).setCell (by simp) u
      have hCG : w.heap.size ∉ [G] := by simp; omega
      have m0 := fun u => (hset u).cell hcells.1.1 hCG
      have m1 := fun u => (hset u).cell hcells.1.2.1 hCG
      have m2 := fun u => (hset u).cell hcells.1.2.2.1 hCG
      have m3 := fun u => (hset u).cell hcells.1.2.2.2 hCG
      have m4 := fun u => (hset u).cell hcells.2.1 hCG
      have m5 := fun u => (hset u).cell hcells.2.2.1 hCG
      have m6 := fun u => (hset u).cell hcells.2.2.2.1 hCG
      have m7 := fun u => (hset u).cell hcells.2.2.2.2 hCG
      have g2 : wr.cell? ⟨G, 2, none⟩ = some (.int .i64 0) := by rw [cell_of_row _ _ _ _ _ _ rG]; rfl
      have z2 := frozen_of_row wr G 2 _ _ rG
      have HINT := Lib.hid (fun u => (hown.only (hset u) (fun g hg e => by rw [List.mem_singleton] at hg; subst hg; have := hfy _ e; omega)).ints)
      have HG1 := Lib.hid (fun u => step12_2 (v2 := u) rG)
      have HSET := Lib.hid hset
      have HOE := Lib.hid hoe
      have HOw := Lib.hid hO
      have hnb : ((allSizes l).length : Int) ≤ 16 := by omega
      clear hown rG rC hcells hset hoe hsep hO hfy hfp
      cases hfl : fills ⟨a0, a1, a2, a3, a4, a5, a6, a7⟩ (allSizes l) with
      | error er =>
        have Hfin := Lib.hid (HMUX.out.trans (by rw [hfl]))
        have Hfl := Lib.hid hfl
        clear hfl
        go_wp2_with (first
          | (go_at_call 31; refine (HFILL.out _ _ _ _ (HINT.out _)).mono ?_; rintro e w2 hP; unfold ListOr at hP; rw [Hfl.out] at hP; obtain ⟨hq2, ev, rfl, hev⟩ := hP; obtain ⟨et, eu, rfl⟩ := id hev.held)
          | fail)
        go_ret2
        rw [Hfin.out]
        have oA : Only [] w w2 := (HOw.out.trans (HSET.out _) (by simp) (fun g hg hlt => by rw [List.mem_singleton] at hg; omega)).q hq2
        exact ⟨oA, _, rfl, hev.mono (by have := (HSET.out (.int .i64 (allSizes l).length)).size; omega) (Nat.le_refl _)⟩
      | ok fl =>
        have Hfin := Lib.hid (HMUX.out.trans (by rw [hfl]))
        have Hfl := Lib.hid hfl
        clear hfl
        go_wp2_with (first
          | (go_at_call 31; refine (HFILL.out _ _ _ _ (HINT.out _)).mono ?_; rintro e w2 hP; unfold ListOr at hP; rw [Hfl.out] at hP; obtain ⟨hq2, fv, rfl, hfo⟩ := hP;
              have rG2 := hq2.rowAt (HG1.out _) (by simp); obtain ⟨⟨n0, n1, n2, n3, n4, n5⟩, ⟨n6, n7, n8, n9, n10, n11⟩⟩ := cells12 rG2; have HG2 := Lib.hid rG2; have HQ2 := Lib.hid hq2; have HFO := Lib.hid hfo; clear rG2 hq2 hfo)
          | (go_at_call 33; refine (HHEAD.out l.length (some ⟨pg, 0, none⟩) pcap _ _ (by omega) (by omega) (by omega) HWH.out.1 HWH.out.2).mono ?_; rintro e w3 ⟨hv, rfl, hown3, hq3⟩; have HO3 := Lib.hid hown3; have HQ3 := Lib.hid hq3; have hint3 := hown3.ints; clear hown3 hq3)
          | (go_at_call 32; refine (add_any (base := w3.heap.size) 16 (Own.nil _ _ _ _) (Nat.le_refl _) hint3 (From.nil _) (by omega) (by rw [headerB_length]; omega) (by simp)).mono ?_; rintro e w4 ⟨bv, rfl, hownb, hacc4⟩; have HOB := Lib.hid hownb; have HA4 := Lib.hid hacc4; clear hownb hacc4)
          | fail)
        have hfok := fills_flok HM.out (fun n hn => by rw [allSizes_eq, List.mem_map] at hn; obtain ⟨x, _, rfl⟩ := hn; unfold costOf; omega) Hfl.out
        obtain ⟨hfll, hflok⟩ := hfok
        have HFlok := Lib.hid hflok
        generalize hU : wr.setCell ⟨G, 2, none⟩ (.int .i64 (allSizes l).length) = U at *
        have HSU : Only [G] wr U := by rw [← hU]; exact HSET.out _
        have hq34 : Only [] w3 w4 := HA4.out.from_nil rfl
        have hq24 : Only [] w2 w4 := HQ3.out.q hq34
        have hqU4 : Only [] U w4 := HQ2.out.q hq24
        have rG4 := hq24.rowAt HG2.out (by simp)
        have oe4 := (HOE.out.only HSU (fun g hg e => by rw [List.mem_singleton] at hg; subst hg; simp [Value.ownBlock] at e; omega)).quiet hqU4
        have fo4 := HFO.out.quiet hq24
        have ob4 := HOB.out
        have oA4 : Only [] w w4 := (HOw.out.trans HSU (by simp) (fun g hg hlt => by rw [List.mem_singleton] at hg; omega)).q hqU4
        have fb4 : From w3.heap.size bv := HA4.out.from_ (From.nil _) (Nat.le_refl _)
        have hzU : wr.heap.size ≤ U.heap.size := HSU.size
        have hz2 : U.heap.size ≤ w2.heap.size := HQ2.out.size
        have hz3 : w2.heap.size ≤ w3.heap.size := HQ3.out.size
        have hz4 : w3.heap.size ≤ w4.heap.size := hq34.size
        have hfvb : ∀ g, fv.ownBlock = some g → g < w3.heap.size := fun g e => by have := (HFO.out.at g e).2; omega
        have hhl : (unitB 16 (headerB W H (allSizes l).length l.length ⟨a0, a1, a2, a3, a4, a5, a6, a7⟩)).length = 30 := by rw [unitB_length, headerB_length]
        rw [List.nil_append] at ob4
        have hmb : muxBytes ⟨a0, a1, a2, a3, a4, a5, a6, a7⟩ W H l fl = (unitB 16 (headerB W H (allSizes l).length l.length ⟨a0, a1, a2, a3, a4, a5, a6, a7⟩) ++ (muxP fl 0 30 l).1 ++ unitB 18 (indexB (muxP fl 0 30 l).2)) ++ unitB 19 (tailB (unitB 16 (headerB W H (allSizes l).length l.length ⟨a0, a1, a2, a3, a4, a5, a6, a7⟩) ++ (muxP fl 0 30 l).1 ++ unitB 18 (indexB (muxP fl 0 30 l).2)) (unitB 16 (headerB W H (allSizes l).length l.length ⟨a0, a1, a2, a3, a4, a5, a6, a7⟩) ++ (muxP fl 0 30 l).1).length) := by
          unfold muxBytes; simp only [hhl]
        have Hmb := Lib.hid hmb
        have hPle := fun k => muxP_le hflok (l.take k) 0 30 (fun x hx => Hck2.out x (List.mem_of_mem_take hx))
        have HPle := Lib.hid hPle
        generalize hHD : unitB 16 (headerB W H (allSizes l).length l.length ⟨a0, a1, a2, a3, a4, a5, a6, a7⟩) = HD at *
        obtain ⟨fb, fcap, hfve, hfb1, hfb2⟩ := fo4.form (by omega)
        subst hfve
        have HFLL := Lib.hid hfll
        clear hfll
        generalize hB : w3.heap.size = B at *
        have hpgB : pg < B := by omega
        have hGB : G < B := by omega
        clear hU hHD hmb hPle HFO HOB HA4 HG2 HQ2 HQ3 HOE HSET HG1 HINT HFILL HHEAD HWH HM HSU hq34 hq24 hqU4 hB hflok m0 m1 m2 m3 m4 m5 m6 m7 g2 z2 Hfl HOw
        go_loopw [91, 20] (fun i y wt => ∃ (k : Nat), k ≤ l.length ∧ i = .int .i64 k ∧ Own .u8 5 B wt y (HD ++ (muxP fl 0 30 (l.take k)).1) ∧
            wt.heap[G]? = some (.cells #[.int .i64 W, .int .i64 H, .int .i64 (allSizes l).length, .int .i64 a0, .int .i64 a1, .int .i64 a2, .int .i64 a3, .int .i64 a4, .int .i64 a5, .int .i64 a6, .int .i64 a7, .slice (some ⟨pg, 0, none⟩) l.length pcap] 29 (0, 0)) ∧
            OwnE (G + 1) wt (.slice (some ⟨pg, 0, none⟩) l.length pcap) (entsAt fl 30 l k) ∧ Own .i64 3 U.heap.size wt (.slice (some ⟨fb, 0, none⟩) fl.length fcap) fl ∧ From B y ∧ B ≤ wt.heap.size ∧ Only [] w wt) (fun i _ _ => l.length - (intOf i).toNat)
        case atStart => exact ⟨0, by omega, rfl, by simpa [muxP] using ob4, rG4, by rw [entsAt_zero]; exact oe4, fo4, fb4, hz4, oA4⟩
        case round =>
          clear ob4 rG4 oe4 fo4 fb4 oA4
          obtain ⟨k, hk, rfl, hown, rG, hoe, hof, hfy, hBz, hO⟩ := hrel
          have hz := hO.size
          by_cases hlt : k < l.length
          · obtain ⟨b, off, cv, rfl, _, _, hc0, hc1, hc2, hc3, hok, hcd⟩ := Hel.out k hlt
            have c0 := hO.cell hc0 (by simp)
            have c1 := hO.cell hc1 (by simp)
            have c2 := hO.cell hc2 (by simp)
            have c3 := hO.cell hc3 (by simp)
            have hcd' := hcd.quiet hO
            have hx : (0 : Int) ≤ (k : Int) := by omega
            have hx1 : (k : Int) < (l.length : Int) := by omega
            have hgood := chunkB_parts (Hck.out k hlt)
            have hF := Hfirst.out k hlt
            have HBs := Lib.hid (bytes_succ (fl := fl) (off := 30) hlt)
            have HEs := Lib.hid (entsAt_succ (fl := fl) (off := 30) hlt)
            have heg := entsAt_getD (fl := fl) (off := 30) hlt
            have hE := entsAt_length (fl := fl) (off := 30) hk
            have hPl : (muxP fl 0 30 (l.take k)).1.length ≤ 24000000 := by have := HPle.out k; rw [List.length_take] at this; omega
            have hfr : (l.getD k default).first.toNat + (l.getD k default).coded.length ≤ fl.length := by rw [HFLL.out, allSizes_length]; have := hF.2; omega
            clear hc0 hc1 hc2 hc3 hcd hok hF
            generalize (muxP fl 0 30 (l.take k)).1 = P at *
            generalize entsAt fl 30 l k = E at *
            generalize l.getD k default = x at *
            obtain ⟨xn, xf, xc, xl⟩ := x
            simp only at c0 c1 c2 c3 hcd' hgood heg hfr HBs HEs
            obtain ⟨ca, ccap, rfl, hcc1, hcc2, hcel⟩ := hcd'.open
            obtain ⟨ya, ycap, hyv, _⟩ := hown.ints.open
            rw [List.length_append, hhl] at hyv
            subst hyv
            have hyl : ∀ g, (Value.slice ya (30 + P.length) ycap).ownBlock = some g → g < wr.heap.size := fun g e => (hown.at g e).2
            have hfbB : fb < B := hfvb fb rfl
            obtain ⟨⟨xf0, xf1, xc1, xc2, xlc⟩, hfk, hrd⟩ := hgood
            have hkE : k < E.length := by omega
            have e0 : wr.cell? ⟨pg, k * 4, none⟩ = some (.int .i64 xf) := by have := hoe.cell hkE (j := 0) (by omega); rw [entryF, heg] at this; exact this
            have e1 : wr.cell? ⟨pg, k * 4 + 1, none⟩ = some (.int .i64 xc) := by have := hoe.cell hkE (j := 1) (by omega); rw [entryF, heg] at this; exact this
            have e2 : wr.cell? ⟨pg, k * 4 + 2, none⟩ = some (.int .i64 0) := by have := hoe.cell hkE (j := 2) (by omega); rw [entryF, heg] at this; exact this
            have g11 : wr.cell? ⟨G, 11, none⟩ = some (.slice (some ⟨pg, 0, none⟩) l.length pcap) := by rw [cell_of_row _ _ _ _ _ _ rG]; rfl
            have z0 := hoe.frozen (k * 4 + 2)
            have hnew := fun o => Only.new wr o
            have pgl : pg < wr.heap.size := (hoe.lt pg rfl).2
            have E2 := fun o => (hnew o).cell e2 (by simp)
            have Z2 := fun (o : Obj) => show (wr.alloc o).frozen? ⟨pg, k * 4 + 2, none⟩ = false from ((OwnE.quiet hoe (hnew o)).frozen (k * 4 + 2))
            have G11 := fun o => (hnew o).cell g11 (by simp)
            clear n0 n1 n2 n3 n4 n5 n6 n7 n8 n9 n10 n11
            have HOE := Lib.hid hoe
            have HOF := Lib.hid hof
            have HOWN := Lib.hid hown
            have HG := Lib.hid rG
            have HOw := Lib.hid hO
            have HCD := Lib.hid hcd'
            have HCel := Lib.hid hcel
            have HFY := Lib.hid hfy
            have HEG := Lib.hid heg
            clear hoe hof hown rG hO hcd' hcel hfy heg
            go_wp2_with fail
            generalize hW1 : World.alloc _ _ = W1
            have hS1 : Only [pg] wr (wr.setCell ⟨pg, k * 4 + 2, none⟩ (.int .i64 (30 + P.length))) := (Only.refl _ _).setCell (by simp) _
            have hA1 : Only [] (wr.setCell ⟨pg, k * 4 + 2, none⟩ (.int .i64 (30 + P.length))) W1 := by rw [← hW1]; exact Only.new _ _
            have rX1 : W1.heap[wr.heap.size]? = some (.cells #[.int .i64 xn, .int .i64 xf, .int .i64 xc, .slice ca xl.length ccap] 90 (0, 0)) := by rw [← hW1]; exact heap_alloc_new' (by simp)
            have hs1 : W1.heap.size = wr.heap.size + 1 := by rw [← hW1]; simp
            have hpgE : (k : Nat) < E.length := hkE
            have oe1 : OwnE (G + 1) W1 (.slice (some ⟨pg, 0, none⟩) l.length pcap) (E.set k ⟨xf, xc, 30 + P.length, 0⟩) := by
              refine (HOE.out.setAt (i := k * 4 + 2) (by simp) ?_).quiet hA1
              have := flatE_set2 (30 + P.length) E k hkE
              rw [HEG.out] at this
              exact this
            have rG1 := hA1.rowAt (hS1.rowAt HG.out (by simp; omega)) (by simp)
            have of1 := (HOF.out.only hS1 (fun g hg e => by rw [List.mem_singleton] at hg; subst hg; have := (HOF.out.at _ e).1; omega)).quiet hA1
            have own1 := (HOWN.out.only hS1 (fun g hg e => by rw [List.mem_singleton] at hg; subst hg; have := (HOWN.out.at _ e).1; omega)).quiet hA1
            have oA1 : Only [] w W1 := (HOw.out.trans hS1 (by simp) (fun g hg hlt => by rw [List.mem_singleton] at hg; omega)).q hA1
            have hg1 : (E.set k ⟨xf, xc, 30 + P.length, 0⟩).getD k default = ⟨xf, xc, 30 + P.length, 0⟩ := by simp [hkE]
            have hk1 : k < (E.set k ⟨xf, xc, 30 + P.length, 0⟩).length := by simpa using hkE
            have d0 : W1.cell? ⟨pg, k * 4, none⟩ = some (.int .i64 xf) := by have := oe1.cell hk1 (j := 0) (by omega); rw [entryF, hg1] at this; exact this
            have d1 : W1.cell? ⟨pg, k * 4 + 1, none⟩ = some (.int .i64 xc) := by have := oe1.cell hk1 (j := 1) (by omega); rw [entryF, hg1] at this; exact this
            have hcd1 := (HCD.out.only hS1 (fun g hg => by rw [List.mem_singleton] at hg; subst hg; have := HHI.out; omega)).quiet hA1
            clear hW1 hA1 hS1 e0 e1 e2 g11 z0 hnew E2 Z2 G11 HOE HOF HOWN HG HOw HCD HCel hcc1 hcc2
            have hw0 : IntKind.u8.wrap (k : Int) = (k : Int) % 256 := by simp [IntKind.wrap, IntKind.bits, IntKind.signed]
            have hw1 : IntKind.u8.wrap xf = xf % 256 := by simp [IntKind.wrap, IntKind.bits, IntKind.signed]
            have hw2 : IntKind.u8.wrap xc = xc % 256 := by simp [IntKind.wrap, IntKind.bits, IntKind.signed]
            have HOE := Lib.hid oe1
            have HOF := Lib.hid of1
            have HOWN := Lib.hid own1
            have HG := Lib.hid rG1
            have HX := Lib.hid rX1
            have HOw := Lib.hid oA1
            have HCD := Lib.hid hcd1
            clear oe1 of1 own1 rG1 rX1 oA1 hcd1 hg1 hk1 hpgE
            have hownD := HOWN.out.quiet (Only.new W1 (.cells #[.int .u8 ((k : Int) % 256), .int .u8 (xf % 256), .int .u8 (xc % 256)] 5)).drew
            have hbD : B ≤ (W1.alloc (.cells #[.int .u8 ((k : Int) % 256), .int .u8 (xf % 256), .int .u8 (xc % 256)] 5)).drew.heap.size := by simp; omega
            have hsrc : Ints .u8 (wr.heap.size + 1) (wr.heap.size + 1 + 1) (W1.alloc (.cells #[.int .u8 ((k : Int) % 256), .int .u8 (xf % 256), .int .u8 (xc % 256)] 5)).drew (.slice (some ⟨wr.heap.size + 1, 0, none⟩) 3 3) [(k : Int) % 256, xf % 256, xc % 256] :=
              (ints_newG rfl (by simp [maxLen]) (by simp only [List.mem_cons, List.not_mem_nil, or_false, forall_eq_or_imp, forall_eq, InK]; omega) 3 rfl hs1 : Ints .u8 (wr.heap.size + 1) (wr.heap.size + 1 + 1) (W1.alloc (.cells #[.int .u8 ((k : Int) % 256), .int .u8 (xf % 256), .int .u8 (xc % 256)] 5)) (.slice (some ⟨wr.heap.size + 1, 0, none⟩) 3 3) [(k : Int) % 256, xf % 256, xc % 256])
            have HQD : Hid (Only [] W1 (W1.alloc (.cells #[.int .u8 ((k : Int) % 256), .int .u8 (xf % 256), .int .u8 (xc % 256)] 5)).drew) := Lib.hid (Only.new _ _).drew
            have hap : (Value.slice ya (30 + P.length) ycap).ownBlock ≠ some pg := fun e => by have := HFY.out _ e; omega
            have hpl30 : (HD ++ P).length ≤ 100000000 := by rw [List.length_append]; omega
            go_region_held3 (fun w' => w'.cell? ⟨pg, k * 4, none⟩ = some (.int .i64 xf) ∧ w'.cell? ⟨pg, k * 4 + 1, none⟩ = some (.int .i64 xc))
              (first | (go_split_ands; refine ⟨HA3.out.keep (by assumption) hap, HA3.out.keep (by assumption) hap⟩) | (simp [*, World.cell?_alloc_some, World.cell?_setCell_far, frozen?_alloc_cells, frozen_drew, World.frozen?_setCell]) | fail)
              (first
                | (go_at_call 32; refine (add_any (base := B) 17 hownD hbD hsrc HFY.out (by omega) (by simp) hpl30).mono ?_; rintro e w3 ⟨v3, rfl, hown3, hacc3⟩; have HO3 := Lib.hid hown3; have HA3 := Lib.hid hacc3;
                    have rX3 := hacc3.only.rowAt (HQD.out.rowAt HX.out (by simp)) (fun hg => by have := hyl _ (by simpa using hg); omega); have x3 : w3.cell? ⟨wr.heap.size, 3, none⟩ = some (.slice ca xl.length ccap) := (by rw [cell_of_row _ _ _ _ _ _ rX3]; rfl); clear hown3 hacc3 rX3)
                | fail)
            go_wp2_with fail
            have hAc : Acc (.slice ya (30 + P.length) ycap) W1 v3 w3 := (Acc.quiet HQD.out).trans HA3.out
            have hyB : ∀ g ∈ (Value.slice ya (30 + P.length) ycap).ownBlock.toList, B ≤ g := fun g hg => HFY.out g (by simpa using hg)
            have HOE3 := Lib.hid (HOE.out.only hAc.only (fun g hg e => by have := hyB g hg; simp [Value.ownBlock] at e; omega))
            have HOF3 := Lib.hid (HOF.out.only hAc.only (fun g hg e => by have := hyB g hg; simp [Value.ownBlock] at e; omega))
            have HG3 := Lib.hid (hAc.only.rowAt HG.out (fun hg => by have := hyB _ hg; omega))
            have HCD3 := Lib.hid (HCD.out.only hAc.only (fun g hg => by have := hyB g hg; have := HHI.out; omega))
            have HOw3 := Lib.hid (HOw.out.acc hAc (HFY.out.mono (by omega)))
            have hfv3 : From B v3 := hAc.from_ HFY.out (by omega)
            have hz13 := hAc.only.size
            obtain ⟨ca2, ccap2, hcae, _, _, hcel⟩ := HCD3.out.open
            cases hcae
            have HCel := Lib.hid hcel
            have own3 := HO3.out
            clear HOE HOF HG HCD HOw HQD HX hAc hownD hbD hsrc hpl30 d0 d1 hcel HOWN HO3
            go_loopw [123, 20] (fun i y2 wi => ∃ (f : Nat), f ≤ xl.length ∧ i = .int .i64 f ∧ Own .u8 5 B wi y2 (HD ++ P ++ unitB 17 [(k : Int) % 256, xf % 256, xc % 256] ++ muxF fl xf.toNat 0 (xl.take f)) ∧ From B y2 ∧ Acc v3 w3 y2 wi) (fun i _ _ => xl.length - (intOf i).toNat)
            case atStart => exact ⟨0, by omega, rfl, by simpa [muxF] using own3, hfv3, Acc.refl _ _⟩
            case round =>
              clear own3
              obtain ⟨f, hf, rfl, hownI, hfi, hacI⟩ := hrel
              have hzI := hacI.only.size
              have hvB : ∀ g ∈ v3.ownBlock.toList, B ≤ g := fun g hg => hfv3 g (by simpa using hg)
              by_cases hltf : f < xl.length
              · obtain ⟨cb, coff, dv, hcae, _, hcb2, hk1, hk2, hkk, hdd⟩ := HCel.out f hltf
                have hcb3 : cb < B := by have := HHI.out; omega
                have k1 := hacI.cell hfv3 hk1 hcb3
                have k2 := hacI.cell hfv3 hk2 hcb3
                have hdI := hdd.only hacI.only (fun g hg => by have := hvB g hg; have := HHI.out; omega)
                have hrb := readB_none (hrd (xl.getD f default) (by simp [hltf]))
                have HFs := Lib.hid (coded_take hltf)
                have hcol : (muxF fl xf.toNat 0 (xl.take f)).length ≤ 1440000 := by
                  have := muxF_le HFlok.out (first := xf.toNat) (xl.take f) 0 (fun c hc => (readB_none (hrd c (List.mem_of_mem_take hc))).2.2)
                  rw [List.length_take] at this; omega
                have hfx : (0 : Int) ≤ (f : Int) := by omega
                have hfx1 : (f : Int) < (xl.length : Int) := by omega
                clear hk1 hk2 hdd hkk
                subst hcae
                generalize xl.getD f default = q at *
                obtain ⟨qk, qd⟩ := q
                simp only at k1 k2 hdI hrb
                obtain ⟨da, dcap, rfl, _⟩ := hdI.open
                obtain ⟨y2a, y2cap, hy2, _⟩ := hownI.ints.open
                generalize hQ : HD ++ P ++ unitB 17 [(k : Int) % 256, xf % 256, xc % 256] ++ muxF fl xf.toNat 0 (xl.take f) = Q at *
                have hQl : Q.length ≤ 30000000 := by rw [← hQ]; simp only [List.length_append, unitB_length, List.length_cons, List.length_nil, hhl]; omega
                subst hy2
                have HDI := Lib.hid hdI
                have HOI := Lib.hid hownI
                have HQ := Lib.hid hQ
                obtain ⟨XF, rfl⟩ := Int.eq_ofNat_of_zero_le xf0
                have hfn : XF + f < fl.length := by omega
                have hfz := HFlok.out.at (XF + f)
                have s0 : wr.cell? ⟨pg, k * 4, none⟩ = some (.int .i64 XF) := by
                  have hg1 : (E.set k ⟨XF, xc, 30 + P.length, 0⟩).getD k default = ⟨XF, xc, 30 + P.length, 0⟩ := by simp [hkE]
                  have := HOE3.out.cell (i := k) (by simpa using hkE) (j := 0) (by omega); rw [entryF, hg1] at this; exact hacI.cell hfv3 this hpgB
                have s1 : wr.cell? ⟨fb, XF + f, none⟩ = some (.int .i64 (fl.getD (XF + f) 0)) := hacI.cell hfv3 (HOF3.out.cell hfn) hfbB
                generalize hzz : fl.getD (XF + f) 0 = z at *
                have HZ := Lib.hid hzz
                clear hzz
                have hyl2 : ∀ g, (Value.slice y2a Q.length y2cap).ownBlock = some g → g < wr.heap.size := fun g e => (hownI.at g e).2
                clear hdI hownI hQ hcol
                go_wp2_with fail
                generalize hW5 : World.alloc wr _ = W5
                have hA5 : Only [] wr W5 := by rw [← hW5]; exact Only.new _ _
                have rZ : W5.heap[wr.heap.size]? = some (.cells #[.int .i64 qk, .slice da qd.length dcap] 71 (0, 0)) := by rw [← hW5]; exact heap_alloc_new _ _
                have hs5 : W5.heap.size = wr.heap.size + 1 := by rw [← hW5]; simp
                have t0 : W5.cell? ⟨wr.heap.size, 0, none⟩ = some (.int .i64 qk) := by rw [cell_of_row _ _ _ _ _ _ rZ]; rfl
                have t1 : W5.cell? ⟨wr.heap.size, 1, none⟩ = some (.slice da qd.length dcap) := by rw [cell_of_row _ _ _ _ _ _ rZ]; rfl
                have t2 := hA5.cell s0 (by simp)
                have t3 := hA5.cell s1 (by simp)
                have hownD := (HOI.out.quiet hA5).quiet (Only.refl [] W5).drew
                have hdD := (HDI.out.quiet hA5).quiet (Only.refl [] W5).drew
                have hbD : B ≤ W5.drew.heap.size := by simp; omega
                have HA5 := Lib.hid hA5
                have a0' : (Value.slice y2a Q.length y2cap).ownBlock ≠ some wr.heap.size := fun e => by have := hyl2 _ e; omega
                have a1' : (Value.slice y2a Q.length y2cap).ownBlock ≠ some pg := fun e => by have := hfi _ e; omega
                have a2' : (Value.slice y2a Q.length y2cap).ownBlock ≠ some fb := fun e => by have := hfi _ e; omega
                have hzD : W5.drew.heap.size = wr.heap.size + 1 := hs5
                have hpgl : pg < W5.drew.heap.size := by omega
                have hfbl : fb < W5.drew.heap.size := by omega
                have hwa : IntKind.i64.wrap ((XF : Int) + (f : Int)) = (XF : Int) + (f : Int) := by rw [IntKind.wrap_i64]; omega
                have hwa0 : (0 : Int) ≤ (XF : Int) + (f : Int) := by omega
                have hwa1 : (XF : Int) + (f : Int) < (fl.length : Int) := by omega
                have hwa2 : ((XF : Int) + (f : Int)).toNat = XF + f := by omega
                clear hW5 rZ s0 s1 k1 k2 hA5
                go_region_held3 (fun w' => w'.cell? ⟨wr.heap.size, 0, none⟩ = some (.int .i64 qk) ∧ w'.cell? ⟨wr.heap.size, 1, none⟩ = some (.slice da qd.length dcap) ∧ w'.cell? ⟨pg, k * 4, none⟩ = some (.int .i64 XF) ∧ w'.cell? ⟨fb, XF + f, none⟩ = some (.int .i64 z))
                  (first
                    | (go_split_ands; refine ⟨hacc7.keep (by assumption) b0', hacc7.keep (by assumption) b0', hacc7.keep (by assumption) b1', hacc7.keep (by assumption) b2'⟩)
                    | (go_split_ands; refine ⟨hacc6.keep (by assumption) a0', hacc6.keep (by assumption) a0', hacc6.keep (by assumption) a1', hacc6.keep (by assumption) a2'⟩)
                    | (simp [*, World.cell?_alloc_some, World.cell?_setCell_far, frozen?_alloc_cells, frozen_drew, World.frozen?_setCell])
                    | fail)
                  (first
                    | (go_at_call 32; refine (add_any (base := B) qk hownD hbD hdD hfi ⟨by omega, by omega⟩ (by omega) (by omega)).mono ?_; rintro e w6 ⟨v6, rfl, hown6, hacc6⟩;
                        have b0' := hacc6.apart a0' (by omega); have b1' := hacc6.apart a1' hpgl; have b2' := hacc6.apart a2' hfbl; have hz6 := hacc6.only.size;
                        have hby : ((Q ++ unitB qk qd).length + z.toNat) * 1 ≤ 140737488355328 := (by rw [List.length_append, unitB_length]; omega); have hba6 : B ≤ w6.heap.size := (by omega))
                    | (refine step_append_zeros rfl (.tmp 133) (.tmp 142) 22 3 rfl E8 Tryz.underlying3 hown6 rfl rfl hfz.1 hby hba6 ⟨by omega, by omega⟩ (fun v7 w7 hown7 hacc7 => ?_))
                    | fail)
                go_wp2_with fail
                go_roundw
                case rel =>
                  have hlist : HD ++ P ++ unitB 17 [(k : Int) % 256, (XF : Int) % 256, xc % 256] ++ muxF fl (XF : Int).toNat 0 (xl.take (f + 1)) = Q ++ unitB qk qd ++ List.replicate z.toNat 0 := by
                    rw [HFs.out, muxF_snoc, ← HQ.out, List.length_take, show (XF : Int).toNat + (0 + min f xl.length) = XF + f by omega, HZ.out]
                    simp only [List.append_assoc]
                  exact ⟨f + 1, by omega, by go_num, by rw [hlist]; exact hown7, hacc7.from_ (hacc6.from_ hfi (by omega)) hba6, ((hacI.then HA5.out).then (Only.refl [] W5).drew).trans (hacc6.trans hacc7)⟩
                case measure => simp [intOf]; omega
              · obtain rfl : f = xl.length := by omega
                have hxx : ¬ (xl.length : Int) < (xl.length : Int) := by omega
                rw [List.take_length] at hownI
                have hcol := muxF_le HFlok.out (first := xf.toNat) xl 0 (fun c hc => (readB_none (hrd c hc)).2.2)
                have hlist : HD ++ P ++ unitB 17 [(k : Int) % 256, xf % 256, xc % 256] ++ muxF fl xf.toNat 0 xl = HD ++ (P ++ chunkBytes fl k ⟨xn, xf, xc, xl⟩) := by simp only [chunkBytes, List.append_assoc]
                rw [hlist] at hownI
                have hQl0 : (HD ++ (P ++ chunkBytes fl k ⟨xn, xf, xc, xl⟩)).length = 30 + P.length + (chunkBytes fl k ⟨xn, xf, xc, xl⟩).length := by simp only [List.length_append, hhl]; omega
                have hcb : (chunkBytes fl k ⟨xn, xf, xc, xl⟩).length ≤ 2000000 := by
                  simp only [chunkBytes, List.length_append, unitB_length, List.length_cons, List.length_nil]; omega
                have HEs2 := Lib.hid HEs.out
                have HBs2 := Lib.hid HBs.out
                generalize chunkBytes fl k ⟨xn, xf, xc, xl⟩ = CB at *
                obtain ⟨y2a, y2cap, hy2, _⟩ := hownI.ints.open
                rw [hQl0] at hy2
                subst hy2
                have hg1 : (E.set k ⟨xf, xc, 30 + P.length, 0⟩).getD k default = ⟨xf, xc, 30 + P.length, 0⟩ := by simp [hkE]
                have hk1 : k < (E.set k ⟨xf, xc, 30 + P.length, 0⟩).length := by simpa using hkE
                have s2 : wr.cell? ⟨pg, k * 4 + 2, none⟩ = some (.int .i64 (30 + P.length)) := by
                  have := HOE3.out.cell hk1 (j := 2) (by omega); rw [entryF, hg1] at this; exact hacI.cell hfv3 this hpgB
                have s3 : wr.cell? ⟨pg, k * 4 + 3, none⟩ = some (.int .i64 0) := by
                  have := HOE3.out.cell hk1 (j := 3) (by omega); rw [entryF, hg1] at this; exact hacI.cell hfv3 this hpgB
                have oeI := HOE3.out.only hacI.only (fun g hg e => by have := hvB g hg; simp [Value.ownBlock] at e; omega)
                have sz := oeI.frozen (k * 4 + 3)
                have hwb : IntKind.i64.wrap ((30 : Int) + P.length + CB.length - (30 + P.length)) = CB.length := by rw [IntKind.wrap_i64]; omega
                have HOEI := Lib.hid oeI
                have HOI := Lib.hid hownI
                have HAI := Lib.hid hacI
                clear oeI hownI hacI hlist hcol hg1 hk1
                go_wp2_with fail
                go_roundw
                case rel =>
                  have hS : Only [pg] wr (wr.setCell ⟨pg, k * 4 + 3, none⟩ (.int .i64 CB.length)) := (Only.refl _ _).setCell (by simp) _
                  have fI : From B (.slice y2a (30 + P.length + CB.length) y2cap) := HAI.out.from_ hfv3 (by omega)
                  have o1 := HOI.out.only hS (fun g hg e => by rw [List.mem_singleton] at hg; subst hg; have := fI _ e; omega)
                  have e1 : OwnE (G + 1) (wr.setCell ⟨pg, k * 4 + 3, none⟩ (.int .i64 CB.length)) (.slice (some ⟨pg, 0, none⟩) l.length pcap) ((E.set k ⟨xf, xc, 30 + P.length, 0⟩).set k ⟨xf, xc, 30 + P.length, CB.length⟩) := by
                    refine HOEI.out.setAt (i := k * 4 + 3) (by simp) ?_
                    have := flatE_set3 CB.length (E.set k ⟨xf, xc, 30 + P.length, 0⟩) k (by simpa using hkE)
                    rw [show (E.set k ⟨xf, xc, 30 + P.length, 0⟩).getD k default = ⟨xf, xc, 30 + P.length, 0⟩ by simp [hkE]] at this
                    exact this
                  rw [List.set_set] at e1
                  have hHEs := HEs2.out
                  push_cast at hHEs
                  rw [← hHEs] at e1
                  have f1 := (HOF3.out.only HAI.out.only (fun g hg e => by have := hvB g hg; simp [Value.ownBlock] at e; omega)).only hS (fun g hg e => by rw [List.mem_singleton] at hg; subst hg; simp [Value.ownBlock] at e; omega)
                  exact ⟨k + 1, by omega, by go_num, by rw [HBs2.out]; exact o1, hS.rowAt (HAI.out.only.rowAt HG3.out (fun hg => by have := hvB _ hg; omega)) (by simp; omega), e1, f1, fI, by simp; omega, (HOw3.out.acc HAI.out (hfv3.mono (by omega))).trans hS (by simp) (fun g hg hlt => by rw [List.mem_singleton] at hg; omega)⟩
                case measure => simp [intOf]; omega
          · obtain rfl : k = l.length := by omega
            have hx : ¬ (l.length : Int) < (l.length : Int) := by omega
            have hPl := HPle.out l.length
            rw [List.take_length] at hown hPl
            rw [entsAt_end] at hoe
            have hEl : (muxP fl 0 30 l).2.length = l.length := muxP_length _ _ _
            have hix : (indexB (muxP fl 0 30 l).2).length ≤ 65536 := by rw [indexB_length, hEl]; omega
            have hEl2 : (muxP fl 0 30 l).2.length ≤ 1000000 := by omega
            have hfin2 : muxR ⟨a0, a1, a2, a3, a4, a5, a6, a7⟩ W H l = .ok ((HD ++ (muxP fl 0 30 l).1 ++ unitB 18 (indexB (muxP fl 0 30 l).2)) ++ unitB 19 (tailB (HD ++ (muxP fl 0 30 l).1 ++ unitB 18 (indexB (muxP fl 0 30 l).2)) (30 + (muxP fl 0 30 l).1.length))) := by
              rw [Hfin.out]
              show Except.ok (muxBytes ⟨a0, a1, a2, a3, a4, a5, a6, a7⟩ W H l fl) = _
              rw [Hmb.out]
              rw [List.length_append, hhl]
              push_cast
              rfl
            have Hfin2 := Lib.hid hfin2
            have HEl := Lib.hid hEl
            clear Hfin Hmb hfin2 hEl HPle
            generalize (muxP fl 0 30 l).1 = P at *
            generalize (muxP fl 0 30 l).2 = E at *
            obtain ⟨ya, ycap, hyv, _⟩ := hown.ints.open
            rw [List.length_append, hhl] at hyv
            subst hyv
            have hents := OwnE.entries hoe
            have g11 : wr.cell? ⟨G, 11, none⟩ = some (.slice (some ⟨pg, 0, none⟩) l.length pcap) := by rw [cell_of_row _ _ _ _ _ _ rG]; rfl
            have HIX := Lib.hid (index_any hents hEl2)
            have HOWN := Lib.hid hown
            have HOw := Lib.hid hO
            have HFY := Lib.hid hfy
            have hpl : (HD ++ P).length ≤ 100000000 := by rw [List.length_append]; omega
            clear hoe hents hown hO hof hfy n0 n1 n2 n3 n4 n5 n6 n7 n8 n9 n10 n11 rG hEl2
            go_wp2_with (first
              | (go_at_call 34; refine HIX.out.mono ?_; rintro e w2 ⟨iv, rfl, hown2, hq2⟩; have HI2 := Lib.hid hown2; have HQ2 := Lib.hid hq2; have hz9 := hq2.size; clear hown2 hq2)
              | (go_at_call 32; refine (add_any (base := B) 19 (HO3.out.quiet HQ4.out) (by omega) HT4.out.ints (HA3.out.from_ HFY.out (by omega)) (by omega) (by rw [tailB_length]; omega) (by simp only [List.length_append, unitB_length]; omega)).mono ?_; rintro e w5 ⟨v5, rfl, hown5, hacc5⟩)
              | (go_at_call 32; refine (add_any (base := B) 18 (HOWN.out.quiet HQ2.out) (by omega) HI2.out.ints HFY.out (by omega) hix hpl).mono ?_; rintro e w3 ⟨v3, rfl, hown3, hacc3⟩; have HO3 := Lib.hid hown3; have HA3 := Lib.hid hacc3; have hz10 := hacc3.only.size; clear hown3 hacc3)
              | (go_at_call 35; refine (tail_any (30 + P.length) HO3.out.ints).mono ?_; rintro e w4 ⟨tv, rfl, hown4, hq4⟩; have HT4 := Lib.hid hown4; have HQ4 := Lib.hid hq4; have hz11 := hq4.size; clear hown4 hq4)
              | fail)
            go_ret2
            rw [Hfin2.out]
            have oA : Only [] w w5 := (((((HOw.out.q HQ2.out).acc HA3.out (HFY.out.mono (by omega))).q HQ4.out).acc hacc5 ((HA3.out.from_ HFY.out (by omega)).mono (by omega))))
            exact ⟨oA, v5, rfl, hown5.lower (by omega)⟩
/-- box.Mux -/
theorem mux_any {lo hi : Nat} (c : Cfg) (W H : Int) {v : Value} {l : List Chunk} {w : World} (h : ChunksAt lo hi w v l) (hhi : hi ≤ w.heap.size) (hl : l.length ≤ 1000000) :
    Calls Tryz.prog 14 #[c.v, .int .i64 W, .int .i64 H, v] w (MuxP w (muxR c W H l)) := by
  by_cases hm : mayB c = true
  · by_cases hn : newB W H 0 = true
    · cases hc : checkB l with
      | none => exact mux_good c W H h hhi hm hn hc
      | some k => exact mux_bad c W H h hl (.inr (.inr ⟨k, hc⟩))
    · exact mux_bad c W H h hl (.inr (.inl (by simpa using hn)))
  · exact mux_bad c W H h hl (.inl (by simpa using hm))
#print axioms mux_any
end Go.Proofs.YtmbjehnddgcboaaGreatDoor
/- first(): what the chapter's examples fix holds. Conditions: the variable errors.errorType is laid. -/
namespace Go.Proofs.YtmbjehnddgcboaaGreatDoor
open Go.RowKit
set_option linter.unusedVariables false
set_option linter.unusedSimpArgs false

theorem muxf_any {lo hi : Nat} {v : Value} {w : World} {b : List Int} (hb : muxR cfgF 8 8 chunksF = .ok b) (h : ChunksAt lo hi w v chunksF) (hhi : hi ≤ w.heap.size) :
    Calls Tryz.prog 14 #[.agg #[.int .i64 0, .int .i64 3, .int .i64 0, .int .i64 0, .int .i64 4, .int .i64 8, .int .i64 64, .int .i64 64], .int .i64 8, .int .i64 8, v] w fun e w' => Only [] w w' ∧ ∃ bv, e = .returned (.tuple #[bv, .nilIface]) ∧ Own .u8 5 w.heap.size w' bv b := by
  have := mux_any cfgF 8 8 h hhi (by decide)
  rw [hb] at this
  exact this

set_option maxRecDepth 100000 in
set_option maxHeartbeats 16000000 in
theorem first_any {w : World} (hE : ErrT w) : Calls Tryz.prog 4 #[] w fun e w' => e = .returned (.bool true) ∧ Only [] w w' := by
  obtain ⟨b, x, hm, hbl, ho, hxW, hxp, hxt⟩ := first_mux
  obtain ⟨⟨W, H, F, ⟨c0, c1, c2, c3, c4, c5, c6, c7⟩, np⟩, es, cs, fs⟩ := x
  simp only at hxW hxp hxt
  subst hxW; subst hxp
  have hsz : sizesR b = .ok [8] := by unfold sizesR; rw [ho]; simp only; rw [hxt]
  have Hm := Lib.hid hm
  have Ho := Lib.hid ho
  have Hs := Lib.hid hsz
  have Hbl := Lib.hid hbl
  have HE := Lib.hid hE
  have HO := Lib.hid (Only.new w (.cells #[.int .i64 0, .int .i64 3, .int .i64 0, .int .i64 0, .int .i64 4, .int .i64 8, .int .i64 64, .int .i64 64] 26))
  have rC := heap_alloc_new w (.cells #[.int .i64 0, .int .i64 3, .int .i64 0, .int .i64 0, .int .i64 4, .int .i64 8, .int .i64 64, .int .i64 64] 26)
  have HC := Lib.hid rC
  have N1 := Lib.hid (isErr_eq first_nil)
  have N2 := Lib.hid (isErr_eq first_zero)
  clear hm ho hxt hsz hbl rC hE
  go_enter Tryz.func4, Tryz.ntmps4
  go_wp2_with fail
  generalize hW1 : World.alloc w _ = W1
  rw [hW1] at HO HC
  have m := cells8 HC.out
  obtain ⟨⟨m0, m1, m2, m3⟩, m4, m5, m6, m7⟩ := m
  have hs1 : W1.heap.size = w.heap.size + 1 := by rw [← hW1]; simp
  have hOD : Only [] w W1.drew := HO.out.drew
  have HD := Lib.hid hOD
  clear hW1 hOD
  go_region_held3 (fun w' => w'.cell? ⟨w.heap.size, 0, none⟩ = some (.int .i64 0) ∧ w'.cell? ⟨w.heap.size, 1, none⟩ = some (.int .i64 3) ∧ w'.cell? ⟨w.heap.size, 2, none⟩ = some (.int .i64 0) ∧ w'.cell? ⟨w.heap.size, 3, none⟩ = some (.int .i64 0) ∧ w'.cell? ⟨w.heap.size, 4, none⟩ = some (.int .i64 4) ∧ w'.cell? ⟨w.heap.size, 5, none⟩ = some (.int .i64 8) ∧ w'.cell? ⟨w.heap.size, 6, none⟩ = some (.int .i64 64) ∧ w'.cell? ⟨w.heap.size, 7, none⟩ = some (.int .i64 64))
    (first
      | (go_split_ands; refine ⟨hq2.cell (by assumption) (by simp), hq2.cell (by assumption) (by simp), hq2.cell (by assumption) (by simp), hq2.cell (by assumption) (by simp), hq2.cell (by assumption) (by simp), hq2.cell (by assumption) (by simp), hq2.cell (by assumption) (by simp), hq2.cell (by assumption) (by simp)⟩)
      | (go_split_ands; refine ⟨hq3.cell (by assumption) (by simp), hq3.cell (by assumption) (by simp), hq3.cell (by assumption) (by simp), hq3.cell (by assumption) (by simp), hq3.cell (by assumption) (by simp), hq3.cell (by assumption) (by simp), hq3.cell (by assumption) (by simp), hq3.cell (by assumption) (by simp)⟩)
      | (simp [*, World.cell?_alloc_some, World.cell?_setCell_far, frozen?_alloc_cells, frozen_drew, World.frozen?_setCell])
      | fail)
    (first
      | (go_at_call 15; refine (flat_any _).mono ?_; rintro e w2 ⟨v2, rfl, hq2, hch⟩; have HM := Lib.hid (muxf_any Hm.out hch (Nat.le_refl _)); have hz2 := hq2.size)
      | (go_at_call 14; refine HM.out.mono ?_; rintro e w3 ⟨hq3, bv, rfl, hown⟩; obtain ⟨ba, bcap, hbv, _⟩ := hown.ints.open; rw [Hbl.out] at hbv; subst hbv; have HOP := Lib.hid (fun w' (o : Only [] w3 w') => Open_any (hown.ints.quiet o) o.size (by rw [Hbl.out]; omega)); have HSZ := Lib.hid (fun w' (o : Only [] w3 w') => Sizes_any (hown.ints.quiet o) o.size (by rw [Hbl.out]; omega)))
      | fail)
  have HQ3 := Lib.hid hq3
  have HQ2 := Lib.hid hq2
  have hbv := hown.ints
  have hz3 := hq3.size
  clear hq2 hq3 hch hown
  have hss : sBox = ⟨#[98, 111, 120]⟩ := rfl
  have HSS := Lib.hid hss
  clear hss
  go_wp2_with (first
    | (have t := HA8; go_at_call 12; refine (intsEq_any (l := [8]) (m := [8]) (HA4.out.quiet (((((HC8.out).q HC9.out).q HC10.out).q HC11.out).q (Only.new _ _))).ints (ints_newG (l := [8]) rfl (by simp [maxLen]) (by simp [InK]) 1 rfl (by simp))).mono ?_; rintro e w12 ⟨rfl, hq12⟩; rw [show eqB ([8] : List Int) [8] = true from by decide])
    | (have t := HA7; go_at_call 11; refine (same_any (o := some ⟨[(sBox, 0)], 2⟩) (p := [(sBox, 0)]) ((HA3.out.quiet (((HC7.out).q HC8.out).q (HC9.out.q HC10.out)))) (by have := (((HC7.out).q HC8.out).q (HC9.out.q HC10.out)).size; omega) (HE.out.quiet (HCW.out.q ((HC7.out.q HC8.out).q (HC9.out.q HC10.out)))) (by simp) HA7.out rfl rfl rfl).mono ?_; rintro e w11 ⟨rfl, hq11⟩; have HA8 := Lib.hid (True.intro); have HC11 := Lib.hid hq11; clear hq11)
    | (have t := HA6; go_at_call 16; refine (wrap_any sBox 0 2 _ (by omega)).mono ?_; rintro e w10 ⟨kv, rfl, hk, hq10⟩; obtain ⟨sv2, rfl, hcs⟩ := hk; have HA7 := Lib.hid hcs; have HC10 := Lib.hid hq10; clear hcs hq10)
    | (have t := HA5; go_at_call 11; refine (same_any (o := some ⟨[(sBox, 0)], 1⟩) (p := [(sBox, 0)]) (HA2.out.quiet (HC6.out.q ((HC7.out).q HC8.out))) (by have := (HC6.out.q ((HC7.out).q HC8.out)).size; omega) (HE.out.quiet (HCW.out.q (HC7.out.q HC8.out))) (by simp) HA5.out rfl rfl rfl).mono ?_; rintro e w9 ⟨rfl, hq9⟩; have HA6 := Lib.hid (True.intro); have HC9 := Lib.hid hq9; clear hq9)
    | (have t := HA4; go_at_call 16; refine (wrap_any sBox 0 1 _ (by omega)).mono ?_; rintro e w8 ⟨kv, rfl, hk, hq8⟩; obtain ⟨sv1, rfl, hcs⟩ := hk; have HA5 := Lib.hid hcs; have HC8 := Lib.hid hq8; clear hcs hq8)
    | (have t := HA3; go_at_call 8; refine (HSZ.out _ (HC3.out.q (Only.new _ _))).mono ?_; rintro e w7 hP; unfold ListOr at hP; rw [Hs.out] at hP; obtain ⟨hq7, sv, rfl, hso⟩ := hP; have HA4 := Lib.hid hso; have hc7 := ((Only.new _ _).q hq7); have HC7 := Lib.hid hc7; have HCW := Lib.hid (HD.out.q (HQ2.out.q (HQ3.out.q HC3.out)));
        have rI := hc7.rowAt (HC6.out.rowAt HR5.out (by simp)) (by simp); have i0 : w7.cell? ⟨w4.heap.size, 0, none⟩ = some (.int .i64 8) := (by rw [cell_of_row _ _ _ _ _ _ rI]; rfl); have i11 : w7.cell? ⟨w4.heap.size, 11, none⟩ = some (.slice (some ⟨pb, poff, none⟩) 1 pcap) := (by rw [cell_of_row _ _ _ _ _ _ rI]; rfl);
        have e2 := hc7.cell (HC6.out.cell (HQ45.out.cell HE2.out (by simp)) (by simp)) (by simp); have e3 := hc7.cell (HC6.out.cell (HQ45.out.cell HE3.out (by simp)) (by simp)) (by simp); clear rI hc7 hso hq7)
    | (have t := HA2; go_at_call 6; refine (Open_any (ints_newG (l := [0]) rfl (by simp [maxLen]) (by simp [InK]) 1 rfl (by simp)) (by simp) (by simp)).mono ?_; rintro e w6 hP; unfold OpensP at hP; rw [N2.out] at hP; obtain ⟨hq6, ev2, rfl, hev⟩ := hP; obtain ⟨et2, eu2, rfl⟩ := id hev.held; unfold infoV cfg0; simp only; have HA3 := Lib.hid hev; have HC6 := Lib.hid (((Only.new _ _).q (Only.new _ _)).q hq6); have HC3 := Lib.hid (HC5.out.q HC6.out); clear hev hq6)
    | (have t := HA1; go_at_call 6; refine (Open_any (l := []) (Ints.nil .u8 0 0 _) (Nat.zero_le _) (by simp)).mono ?_; rintro e w5 hP; unfold OpensP at hP; rw [N1.out] at hP; obtain ⟨hq5, ev1, rfl, hev⟩ := hP; obtain ⟨et1, eu1, rfl⟩ := id hev.held; unfold infoV cfg0; simp only; have HA2 := Lib.hid hev; have HC5 := Lib.hid ((HC4.out.q (Only.new _ _)).q hq5); have HQ45 := Lib.hid ((Only.new _ _).q hq5); have HR5 := Lib.hid (hq5.rowAt (heap_alloc_new w4 _) (by simp)); clear hev hq5)
    | (go_at_call 6; refine (HOP.out _ (Only.refl _ _)).mono ?_; rintro e w4 hP; unfold OpensP at hP; rw [Ho.out] at hP; obtain ⟨hq4, pv, rfl, hoe⟩ := hP; obtain ⟨pa, pcap, hpv, _, _, hel⟩ := id hoe.open; subst hpv; obtain ⟨pb, poff, rfl, _, _, hc0, hc1, hc2, hc3⟩ := hel 0 (by simp); have HE2 : Hid (w4.cell? ⟨pb, poff + 2, none⟩ = some (.int .i64 30)) := Lib.hid (by simpa using hc2); have HE3 : Hid (w4.cell? ⟨pb, poff + 3, none⟩ = some (.int .i64 19)) := Lib.hid (by simpa using hc3); clear hc0 hc1 hc2 hc3 hel; unfold infoV; simp only; have HA1 := Lib.hid hoe; have HC4 := Lib.hid hq4; clear hoe hq4)
    | fail)
  go_ret
  exact ⟨rfl, HCW.out.q (HC7.out.q (HC8.out.q (HC9.out.q (HC10.out.q (HC11.out.q ((Only.new _ _).q hq12))))))⟩
end Go.Proofs.YtmbjehnddgcboaaGreatDoor
