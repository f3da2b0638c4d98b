/- Joined texts: Total. Conditions: each part names its own. -/
import Derived.Test.YtjpbnboaonnfgaaDoorC13
import Derived.Test.YtjpbnboaonnfgaaDoorC11
import Derived.Test.YtjpbnboaonnfgaaDoorC5
/- BoxTotal answers true. Conditions: the bytes read; the variable errors.errorType is laid. -/
namespace Go.Proofs.YtjpbnboaonnfgaaDoor
open Go.RowKit
set_option linter.unusedVariables false
set_option linter.unusedSimpArgs false

theorem part_ok {l : List Int} {e : Entry} {x : List Coded × List Int} (h : Part_R l e = .ok x) : partOk l e := by
  unfold Part_R at h
  split at h
  · assumption
  · cases h
theorem part_pos {l : List Int} {e : Entry} {x : List Coded × List Int} (h : Part_R l e = .ok x) : 1 ≤ e.length := by
  have hok := part_ok h
  obtain ⟨_, _, _, _, h5, h6, _⟩ := hok
  by_cases h0 : e.length = 0
  · unfold Part_R at h
    rw [if_pos (part_ok ‹_›)] at h
    rw [h0] at h
    simp only [Int.toNat_zero, List.take_zero] at h
    have : aloneR [] 0 0 e.first e.count = (.error ⟨[], 1⟩, 0, 0) := by
      unfold aloneR nextR peekR
      simp
    rw [this] at h
    cases h
  · omega
theorem takenR_getD {cs : List Coded} {fs : List Int} (h : fs.length = cs.length) {i : Nat} (hi : i < cs.length) : (takenR cs fs).getD i 0 = ((cs.getD i default).data.length : Int) + 8 + fs.getD i 0 := by
  have h2 : i < fs.length := by omega
  simp [takenR, costOf, List.getD_eq_getElem?_getD, List.getElem?_zipWith, hi, h2]
theorem takenR_length {cs : List Coded} {fs : List Int} (h : fs.length = cs.length) : (takenR cs fs).length = cs.length := by simp [takenR, h]
theorem getD_of_drop {α : Type} {l a b : List α} {d : α} {n j : Nat} (h : l.drop n = a ++ b) (hj : j < a.length) : l.getD (n + j) d = a.getD j d := by
  have e : (l.drop n).getD j d = (a ++ b).getD j d := by rw [h]
  rw [List.getD_eq_getElem?_getD, List.getElem?_drop] at e
  rw [List.getD_eq_getElem?_getD, e, List.getD_eq_getElem?_getD, List.getElem?_append_left hj, List.getD_eq_getElem?_getD]
theorem drop_of_drop {α : Type} {l a b : List α} {n : Nat} (h : l.drop n = a ++ b) : l.drop (n + a.length) = b := by
  rw [← List.drop_drop, h, List.drop_left]
theorem Segs.nil_cs {l : List Int} {cs : List Coded} {fs : List Int} (h : Segs l [] cs fs) : cs = [] := by cases h; rfl
theorem ent_drop {l : List Entry} {k : Nat} (h : k < l.length) : l.drop k = l.getD k default :: l.drop (k + 1) := by
  rw [List.drop_eq_getElem_cons h]; simp [h]

set_option maxRecDepth 100000 in
set_option maxHeartbeats 16000000 in
theorem total_any {lo hi : Nat} {bv : Value} {l : List Int} {w : World} (h : Ints .u8 lo hi w bv l) (hhi : hi ≤ w.heap.size) (hE : ErrT w) :
    Calls Tryd.prog 5 #[bv] w fun e w' => e = .returned (.bool true) ∧ Only [] w w' := by
  have hr8 := h.2
  obtain ⟨ba, bcap, rfl, hbc1, hbc2, hbat, _⟩ := h.open
  have Hh := Lib.hid h
  have HE := Lib.hid hE
  have HF0 := Lib.hid (Only.refl [] w)
  have hlm : (l.length : Int) ≤ 9223372036854775807 := by unfold maxLen at hbc2; omega
  clear hE
  by_cases hbig : 40000 < l.length
  · have hb1 : (40000 : Int) < (l.length : Int) := by omega
    clear h hbat
    go_enter Tryd.func5, Tryd.ntmps5
    go_wp2_with (first
      | (have t := HF1; go_at_call 7; refine (first_any (HE.out.quiet HF1.out)).mono ?_; rintro e w2 ⟨rfl, hq2⟩; have HF2 := Lib.hid hq2; clear t hq2)
      | (go_at_call 7; refine (first_any HE.out).mono ?_; rintro e w1 ⟨rfl, hq1⟩; have HF1 := Lib.hid hq1; clear hq1)
      | fail)
    go_ret
    exact ⟨rfl, HF1.out.q HF2.out⟩
  · have hb1 : ¬ (40000 : Int) < (l.length : Int) := by omega
    cases hop : openR l with
    | error er =>
      obtain ⟨n, er0, rfl, hn, hpl, hc1, hc2⟩ := openR_err hr8 hop
      have Hop := Lib.hid hop
      have hni : (n : Int) ≤ (l.length : Int) := by omega
      have hn0 : (0 : Int) ≤ (n : Int) := by omega
      have hc0 : (0 : Int) < er0.code := by omega
      have hc3 : er0.code < 15 := by omega
      have hp1 : (1 : Int) ≤ (er0.path.length : Int) + 1 := by omega
      clear h hbat hop
      go_enter Tryd.func5, Tryd.ntmps5
      go_wp2_with (first
        | (have t := HF4; go_at_call 7; refine (first_any (HE.out.quiet (HF1.out.q (HF2.out.q (HF3.out.q HF4.out))))).mono ?_; rintro e w5 ⟨rfl, hq5⟩; have HF5 := Lib.hid hq5;
            have s0 := hq5.cell (HF4.out.cell HS0.out (by simp)) (by simp); have s1 := hq5.cell (HF4.out.cell HS1.out (by simp)) (by simp); clear t hq5)
        | (have t := HF3; go_at_call 14; refine (of_any (HEV.out.quiet HF3b.out) (HE.out.quiet (HF1.out.q (HF2.out.q HF3.out)))).mono ?_; rintro e w4 ⟨rfl, hq4⟩; rw [show codeOf (some (inE sBox n er0)) = er0.code from rfl]; have HF4 := Lib.hid hq4; clear t hq4)
        | (have t := HF2; go_at_call 13; refine (path_any (o := some (inE sBox n er0)) (HEV.out.quiet (Only.new _ _)) (by simp) (HE.out.quiet (HF1.out.q (HF2.out.q (Only.new _ _)))) (by simp [pathOf, inE]; omega)).mono ?_; rintro e w3 ⟨pv, rfl, hown, hq3⟩; obtain ⟨pa, pcap, hpv, hst⟩ := (Cells.of_own hown).steps; rw [show (pathOf (some (inE sBox n er0))).length = er0.path.length + 1 from rfl] at hpv; subst hpv; obtain ⟨sb, so, rfl, hs0, hs1⟩ := hst 0 (by simp [pathOf, inE]);
            have HS0 : Hid (w3.cell? ⟨sb, so, none⟩ = some (.string ⟨#[98, 111, 120]⟩)) := Lib.hid (by simpa [pathOf, inE, sBox] using hs0); have HS1 : Hid (w3.cell? ⟨sb, so + 1, none⟩ = some (.int .i64 n)) := Lib.hid (by simpa [pathOf, inE, sBox] using hs1); have HF3 := Lib.hid ((Only.new _ _).q hq3); have HF3b := Lib.hid ((Only.new _ _).q hq3); clear t hown hq3 hst hs0 hs1)
        | (have t := HF1; go_at_call 10; refine (Open_any (Hh.out.quiet HF1.out) (by have := HF1.out.size; omega) (by omega)).mono ?_; rintro e w2 hP; unfold OpensP at hP; rw [Hop.out] at hP; obtain ⟨hq2, ev, rfl, hev⟩ := hP; have HEV : Hid (OErrV w1.heap.size w2.heap.size w2 ev (some (inE sBox n er0))) := Lib.hid hev; obtain ⟨et, eu, rfl⟩ := id hev.held; unfold infoV cfg0; simp only; have HF2 := Lib.hid hq2; clear t hev hq2)
        | (go_at_call 7; refine (first_any HE.out).mono ?_; rintro e w1 ⟨rfl, hq1⟩; have HF1 := Lib.hid hq1; clear hq1)
        | fail)
      go_ret
      exact ⟨rfl, HF1.out.q (HF2.out.q (HF3.out.q (HF4.out.q HF5.out)))⟩
    | ok x =>
      obtain ⟨hok, ⟨hf1, hf2, hf3⟩, hpl, hcl⟩ := openR_ok hr8 hop
      have hseg := openR_segs hr8 hop
      have hszr : sizesR l = .ok (takenR x.coded x.fills) := by unfold sizesR; rw [hop]
      have Hop := Lib.hid hop
      have Hs := Lib.hid hszr
      obtain ⟨⟨W, H, F, ⟨c0, c1, c2, c3, c4, c5, c6, c7⟩, np⟩, es, cs, fs⟩ := x
      obtain ⟨_, hF1, hF2, hp1, hp2, hmay⟩ := hok
      simp only at hf1 hf2 hf3 hpl hcl hseg hF1 hF2 hp1 hp2 hmay
      have hl0 : 0 < l.length := by
        rcases Nat.eq_zero_or_pos l.length with h0 | h0
        · have : l = [] := List.eq_nil_of_length_eq_zero h0
          subst this
          rw [isErr_eq first_nil] at hop
          cases hop
        · exact h0
      obtain ⟨bb, boff, rfl, _, _⟩ := hbat 0 hl0
      have hF1' : ¬ F < 1 := by omega
      have hF2' : ¬ (16 : Int) < F := by omega
      have hp1' : ¬ (es.length : Int) < 1 := by omega
      have hp2' : ¬ F < (es.length : Int) := by omega
      have hMAY := fun w' => may_any ⟨c0, c1, c2, c3, c4, c5, c6, c7⟩ w'
      rw [hmay] at hMAY
      unfold Cfg.v at hMAY
      have HMAY := Lib.hid hMAY
      have Hf1 := Lib.hid hf1
      have Hf2 := Lib.hid hf2
      have Hf3 := Lib.hid hf3
      have Hpl := Lib.hid hpl
      have Hcl := Lib.hid hcl
      have Hseg := Lib.hid hseg
      have htl : ((takenR cs fs).length : Int) = F := by rw [takenR_length hf1]; exact hcl
      have Htl := Lib.hid htl
      have Hbc1 := Lib.hid hbc1
      have Hbc2 := Lib.hid hbc2
      have Hr8 := Lib.hid hr8
      clear h hbat hop hszr hMAY hf1 hf2 hf3 hpl hcl hseg htl hF1 hF2 hp1 hp2 hmay hr8 hbc1 hbc2
      go_enter Tryd.func5, Tryd.ntmps5
      go_wp2_with (first
        | (have t := HF3; go_at_call 12; refine (Sizes_any (Hh.out.quiet (HF1.out.q (HF2.out.q HF3.out))) (by have := (HF1.out.q (HF2.out.q HF3.out)).size; omega) (by omega)).mono ?_; rintro e w4 hP; unfold ListOr at hP; rw [Hs.out] at hP; obtain ⟨hq4, sv, rfl, hso⟩ := hP; obtain ⟨sa, scap, hsv, _⟩ := hso.ints.open; subst hsv;
            have rI4 := hq4.rowAt HR3.out (by simp); have j2 : w4.cell? ⟨w2.heap.size, 2, none⟩ = some (.int .i64 F) := (by rw [cell_of_row _ _ _ _ _ _ rI4]; rfl); have HR4 := Lib.hid rI4; have HF4 := Lib.hid hq4; have HSO := Lib.hid hso; have htl := Htl.out; clear t hq4 hso rI4)
        | (have t := HF2; go_at_call 15; refine (HMAY.out _).mono ?_; rintro e w3 ⟨rfl, hq3⟩; have rI := hq3.rowAt (heap_alloc_new w2 _) (by simp); have i2 : w3.cell? ⟨w2.heap.size, 2, none⟩ = some (.int .i64 F) := (by rw [cell_of_row _ _ _ _ _ _ rI]; rfl); have i11 : w3.cell? ⟨w2.heap.size, 11, none⟩ = some (.slice pa es.length pcap) := (by rw [cell_of_row _ _ _ _ _ _ rI]; rfl); have HR3 := Lib.hid rI; have HF3 := Lib.hid ((Only.new _ _).q hq3); clear t rI hq3)
        | (have t := HF1; go_at_call 10; refine (Open_any (Hh.out.quiet HF1.out) (by have := HF1.out.size; omega) (by omega)).mono ?_; rintro e w2 hP; unfold OpensP at hP; rw [Hop.out] at hP; obtain ⟨hq2, pv, rfl, hoe⟩ := hP; obtain ⟨pa, pcap, hpv, _⟩ := id hoe.open; subst hpv; unfold infoV; simp only; have HOE := Lib.hid hoe; have HF2 := Lib.hid hq2; clear t hoe hq2)
        | (go_at_call 7; refine (first_any HE.out).mono ?_; rintro e w1 ⟨rfl, hq1⟩; have HF1 := Lib.hid hq1; clear hq1)
        | fail)
      obtain ⟨pa2, pcap2, hpae, _, _, hel⟩ := HOE.out.open
      cases hpae
      obtain ⟨sa2, scap2, hsae, _, _, hsat, hscell⟩ := HSO.out.ints.open
      cases hsae
      have HEL := Lib.hid hel
      have HSat := Lib.hid hsat
      have HScell := Lib.hid hscell
      clear hel hsat hscell i2 i11 j2 htl
      go_loopw [10, 9] (fun i y wt => ∃ (p n : Nat), p ≤ es.length ∧ i = .int .i64 p ∧ y = .int .i64 n ∧ n ≤ cs.length ∧ Hid (Segs l (es.drop p) (cs.drop n) (fs.drop n)) ∧ Only [] w4 wt) (fun i _ _ => es.length - (intOf i).toNat)
      case atStart => exact ⟨0, 0, by omega, rfl, rfl, by omega, Hseg, Only.refl _ _⟩
      case round =>
        obtain ⟨p, n, hp, rfl, rfl, hn, HSEG, hO⟩ := hrel
        have rIr := hO.rowAt HR4.out (by simp)
        have i11 : wr.cell? ⟨w2.heap.size, 11, none⟩ = some (.slice pa es.length pcap) := by rw [cell_of_row _ _ _ _ _ _ rIr]; rfl
        by_cases hlt : p < es.length
        · have hx : (0 : Int) ≤ (p : Int) := by omega
          have hx1 : (p : Int) < (es.length : Int) := by omega
          obtain ⟨eb, eoff, rfl, _, _, hc0, hc1, hc2, hc3⟩ := HEL.out p hlt
          have c0 := hO.cell (HF4.out.cell (HF3.out.cell hc0 (by simp)) (by simp)) (by simp)
          have c1 := hO.cell (HF4.out.cell (HF3.out.cell hc1 (by simp)) (by simp)) (by simp)
          have c2 := hO.cell (HF4.out.cell (HF3.out.cell hc2 (by simp)) (by simp)) (by simp)
          have c3 := hO.cell (HF4.out.cell (HF3.out.cell hc3 (by simp)) (by simp)) (by simp)
          have hs := HSEG.out
          rw [ent_drop hlt] at hs
          generalize hcd : cs.drop n = CD at hs
          generalize hfd : fs.drop n = FD at hs
          generalize es.getD p default = e at *
          cases hs with
          | @cons _ _ cs1 cs2 fs1 fs2 hpart hcnt hfl1 hrest =>
          obtain ⟨ef, ec, eo, el⟩ := e
          have hpok := part_ok hpart
          have hppos := part_pos hpart
          obtain ⟨q1, q2, q3, q4, q5, q6, q7, q8⟩ := id hpok
          simp only at q1 q2 q3 q4 q5 q6 q7 q8 hcnt c0 c1 c2 c3 hppos
          subst hcnt
          obtain ⟨O, rfl⟩ := Int.eq_ofNat_of_zero_le q5
          obtain ⟨N, rfl⟩ := Int.eq_ofNat_of_zero_le q6
          have hbc1 := Hbc1.out
          have hbc2 := Hbc2.out
          have hcsl := congrArg List.length hcd
          rw [List.length_drop, List.length_append] at hcsl
          have hqW : Only [] w wr := HF1.out.q (HF2.out.q (HF3.out.q (HF4.out.q hO)))
          have HP := Lib.hid (Part_ok ef cs1.length O N (Hh.out.quiet hqW) (by have := hqW.size; omega) hpok (by omega) (by omega) (by omega) (by unfold maxLen at hbc2; omega))
          have Hpart := Lib.hid hpart
          have Hcd := Lib.hid hcd
          have Hfd := Lib.hid hfd
          have Hrest := Lib.hid hrest
          have Hfl1 := Lib.hid hfl1
          have HOr := Lib.hid hO
          have HIr := Lib.hid rIr
          clear hc0 hc1 hc2 hc3 hpok hpart hcd hfd hrest hfl1 hbc1 hbc2 hqW hO rIr
          go_wp2_with (first
            | (go_at_call 16; refine HP.out.mono ?_; rintro e w5 hPP; unfold PartP2 at hPP; rw [Hpart.out] at hPP; obtain ⟨hq5, cv, fv, rfl, hcv, hfv⟩ := hPP; simp only at hcv hfv; obtain ⟨ca, ccap, hcve, _, hcm, hcel⟩ := hcv.open; subst hcve; obtain ⟨fa, fcap, hfve, _, _, hfat, hfcell⟩ := hfv.open; subst hfve;
                have d1 := hq5.cell c1 (by simp); have i11' := hq5.cell i11 (by simp); have HQ5 := Lib.hid hq5; have HCel := Lib.hid hcel; have HFat := Lib.hid hfat; have HFcell := Lib.hid hfcell; have hcll : (cs1.length : Int) ≤ 9223372036854775807 := (by omega); have hcll2 : cs1.length ≤ 9223372036854775807 := (by omega); clear hq5 hcv hfv hcel hfat hfcell)
            | fail)
          clear c0 c1 c2 c3 i11 d1 i11'
          go_loopw [14, 9] (fun i y wt => ∃ (j : Nat), j ≤ cs1.length ∧ i = .int .i64 j ∧ y = .int .i64 ((n : Int) + j) ∧ Only [] w5 wt) (fun i _ _ => cs1.length - (intOf i).toNat)
          case atStart => exact ⟨0, by omega, rfl, by simp, Only.refl _ _⟩
          case round =>
            obtain ⟨j, hj, rfl, rfl, hOi⟩ := hrel
            by_cases hltj : j < cs1.length
            · have hy : (0 : Int) ≤ (j : Int) := by omega
              have hy1 : (j : Int) < (cs1.length : Int) := by omega
              have hfj : j < fs1.length := by rw [Hfl1.out]; exact hltj
              have hy2 : (j : Int) < (fs1.length : Int) := by omega
              have hnj : n + j < (takenR cs fs).length := by rw [takenR_length Hf1.out]; omega
              obtain ⟨cb, coff, dv, rfl, _, _, hk1, hk2, hkk, hdd⟩ := HCel.out j hltj
              obtain ⟨fb, foff, rfl, _, _⟩ := HFat.out j hfj
              obtain ⟨sb, soff, rfl, _, _⟩ := HSat.out (n + j) hnj
              have k1 := hOi.cell hk1 (by simp)
              have k2 := hOi.cell hk2 (by simp)
              have k3 := hOi.cell (HFcell.out fb foff rfl j hfj) (by simp)
              have k4 := hOi.cell (HQ5.out.cell (HOr.out.cell (HScell.out sb soff rfl (n + j) hnj) (by simp)) (by simp)) (by simp)
              have hdi := hdd.quiet hOi
              have e1 := getD_of_drop (d := default) Hcd.out hltj
              have e2 := getD_of_drop (d := 0) Hfd.out hfj
              rw [takenR_getD Hf1.out (by omega), e1, e2] at k4
              have hdl : (cs1.getD j default).data.length ≤ l.length := by
                rw [← e1]; exact (Hf2.out _ (by simp [show n + j < cs.length by omega])).1
              have hzz : 0 ≤ fs1.getD j 0 ∧ fs1.getD j 0 ≤ l.length := by
                rw [← e2]; exact Hf3.out _ (by simp [show n + j < fs.length by have := Hf1.out; omega])
              obtain ⟨da, dcap, rfl, _⟩ := hdi.open
              clear hk1 hk2 hdd hkk e1 e2
              generalize cs1.getD j default = q at *
              generalize fs1.getD j 0 = z at *
              obtain ⟨qk, qd⟩ := q
              simp only at k1 k2 k4 hdl hdi
              have hwa : IntKind.i64.wrap ((qd.length : Int) + 8 + z) = (qd.length : Int) + 8 + z := by rw [IntKind.wrap_i64]; omega
              have hnj3 : (n : Int) + (j : Int) ≤ 16 := by have := Hcl.out; omega
              have hnj0 : (0 : Int) ≤ (n : Int) + (j : Int) := by omega
              have hnj1 : (n : Int) + (j : Int) < ((takenR cs fs).length : Int) := by omega
              have hnj2 : ((n : Int) + (j : Int)).toNat = n + j := by omega
              have HC := Lib.hid (cost_any (k := qk) (hdi.quiet (Only.refl [] wr).drew) (by omega))
              have HOi := Lib.hid hOi
              clear hdi hOi
              go_wp2_with fail
              go_region_held3 (fun w' => w'.cell? ⟨cb, coff + j * 2, none⟩ = some (.int .i64 qk) ∧ w'.cell? ⟨cb, coff + j * 2 + 1, none⟩ = some (.slice da qd.length dcap) ∧ w'.cell? ⟨fb, foff + j, none⟩ = some (.int .i64 z) ∧ w'.cell? ⟨sb, soff + (n + j), none⟩ = some (.int .i64 ((qd.length : Int) + 8 + z)))
                (first
                  | (go_split_ands; refine ⟨hq6.cell (by assumption) (by simp), hq6.cell (by assumption) (by simp), hq6.cell (by assumption) (by simp), hq6.cell (by assumption) (by simp)⟩)
                  | (simp [*, World.cell?_alloc_some, World.cell?_setCell_far, frozen?_alloc_cells, frozen_drew, World.frozen?_setCell])
                  | fail)
                (first
                  | (go_at_call 17; refine HC.out.mono ?_; rintro e w6 ⟨rfl, hq6⟩)
                  | fail)
              go_wp2_with fail
              have hOn := HOi.out.q ((Only.refl [] wr).drew.q hq6)
              go_roundw
              case rel => exact ⟨j + 1, by omega, by go_num, congrArg (Value.int .i64) (by push_cast; omega), hOn⟩
              case measure => simp [intOf]; omega
            · obtain rfl : j = cs1.length := by omega
              have hy : ¬ (cs1.length : Int) < (cs1.length : Int) := by omega
              have hOe := (HOr.out.q HQ5.out).q hOi
              go_wp2_with fail
              go_roundw
              case rel => exact ⟨p + 1, n + cs1.length, by omega, by go_num, congrArg (Value.int .i64) (by push_cast; omega), by omega, Lib.hid (by rw [drop_of_drop Hcd.out, show n + cs1.length = n + fs1.length by rw [Hfl1.out], drop_of_drop Hfd.out]; exact Hrest.out), hOe⟩
              case measure => simp [intOf]; omega
        · obtain rfl : p = es.length := by omega
          have hx : ¬ (es.length : Int) < (es.length : Int) := by omega
          have hs := HSEG.out
          rw [List.drop_length] at hs
          have hnil := congrArg List.length (Segs.nil_cs hs)
          rw [List.length_drop, List.length_nil] at hnil
          obtain rfl : n = cs.length := by omega
          have hbe : ((cs.length : Int) == F) = true := by simpa using Hcl.out
          have hqW : Only [] w wr := HF1.out.q (HF2.out.q (HF3.out.q (HF4.out.q hO)))
          have HQW := Lib.hid hqW
          have HIr := Lib.hid rIr
          clear hqW rIr hs hO
          go_wp2_with (first
            | (go_at_call 7; refine (first_any (HE.out.quiet HQW.out)).mono ?_; rintro e w9 ⟨rfl, hq9⟩; have rI9 := hq9.rowAt HIr.out (by simp); have y2 : w9.cell? ⟨w2.heap.size, 2, none⟩ = some (.int .i64 F) := (by rw [cell_of_row _ _ _ _ _ _ rI9]; rfl))
            | fail)
          go_ret
          exact ⟨rfl, HQW.out.q hq9⟩
end Go.Proofs.YtjpbnboaonnfgaaDoor
