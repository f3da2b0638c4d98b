/- Joined texts: BackW, BackC. Conditions: each part names its own. -/
import Derived.Test.YtjpbnboaonnfgaaDoorLawF
import Derived.Test.YtjpbnboaonnfgaaDoorSumsF
import Derived.Test.YtjpbnboaonnfgaaDoorTie
import Derived.Test.YtjpbnboaonnfgaaDoorCards
import Derived.SevenTiedAt
/- BoxBack answers true. Conditions: the chunks read; the variable errors.errorType is laid. -/
namespace Go.Proofs.YtjpbnboaonnfgaaDoor
open Go.RowKit
set_option linter.unusedVariables false
set_option linter.unusedSimpArgs false

theorem withinB_of {q : List Int} {r : Int} (h : ∀ x ∈ q, 0 ≤ x ∧ x ≤ r) : withinB q 0 r = true := by
  unfold withinB
  rw [List.all_eq_true]
  intro x hx
  simpa using h x hx

set_option maxRecDepth 100000 in
set_option maxHeartbeats 16000000 in
theorem backl_any {lo hi : Nat} (c : Cfg) (W H : Int) {v : Value} {l : List Chunk} {w : World} (h : ChunksAt lo hi w v l) (hhi : hi ≤ w.heap.size) (hE : ErrT w) :
    Calls Tryd.prog 6 #[c.v, .int .i64 W, .int .i64 H, v] w fun e w' => e = .returned (.bool true) ∧ Only [] w w' := by
  have hbyt := h.bytes
  obtain ⟨va, vcap, rfl, hvc, hvm, _⟩ := h.open
  have Hh := Lib.hid h
  have HE := Lib.hid hE
  have HFEW := Lib.hid (fun w' (o : Only [] w w') => few_any c (h.quiet o))
  have HMUX := Lib.hid (fun w' (o : Only [] w w') (hl : l.length ≤ 1000000) => mux_any c W H (h.quiet o) (Nat.le_trans hhi o.size) hl)
  have hnl : (l.length : Int) ≤ 9223372036854775807 := by unfold maxLen at hvm; omega
  have hM := fun b (hm : muxR c W H l = .ok b) (hb : ∀ x ∈ b, InK .u8 x) => made_of hbyt hm hb
  have HMade := Lib.hid hM
  obtain ⟨a0, a1, a2, a3, a4, a5, a6, a7⟩ := c
  simp only at HFEW
  have HO := Lib.hid (Only.new w (.cells #[.int .i64 a0, .int .i64 a1, .int .i64 a2, .int .i64 a3, .int .i64 a4, .int .i64 a5, .int .i64 a6, .int .i64 a7] 23))
  clear h hE hM hbyt hvm hvc
  unfold Cfg.v at HFEW HMUX ⊢
  cases hfew : fewsB a5 l with
  | false =>
    rw [hfew] at HFEW
    clear hfew
    go_enter Tryd.func6, Tryd.ntmps6
    go_wp2_with (first
      | (have t := HF2; go_at_call 7; refine (first_any (HE.out.quiet HF2.out)).mono ?_; rintro e w3 ⟨rfl, hq3⟩; have HF3 := Lib.hid hq3; clear t hq3)
      | (have t := HF1; go_at_call 8; refine (HFEW.out _ HF1.out).mono ?_; rintro e w2 ⟨rfl, hq2⟩; have HF2 := Lib.hid (HF1.out.q hq2); clear t hq2)
      | (go_at_call 7; refine (first_any (HE.out.quiet HO.out)).mono ?_; rintro e w1 ⟨rfl, hq1⟩; have HF1 := Lib.hid (HO.out.q hq1); have rC := hq1.rowAt (heap_alloc_new w _) (by simp); obtain ⟨⟨m0, m1, m2, m3⟩, m4, m5, m6, m7⟩ := cells8 rC; clear hq1 rC)
      | fail)
    go_ret
    exact ⟨rfl, HF2.out.q HF3.out⟩
  | true =>
    rw [hfew] at HFEW
    have h20 := few_20 hfew
    clear hfew
    cases hmx : muxR ⟨a0, a1, a2, a3, a4, a5, a6, a7⟩ W H l with
    | error er =>
      have Hmx := Lib.hid hmx
      clear hmx HMade
      go_enter Tryd.func6, Tryd.ntmps6
      go_wp2_with (first
        | (have t := HF3; go_at_call 7; refine (first_any (HE.out.quiet HF3.out)).mono ?_; rintro e w4 ⟨rfl, hq4⟩; have HF4 := Lib.hid (HF3.out.q hq4); clear t hq4)
        | (have t := HF2; go_at_call 9; refine (HMUX.out _ HF2.out (by omega)).mono ?_; rintro e w3 hP; unfold MuxP at hP; rw [Hmx.out] at hP; obtain ⟨hq3, ev, rfl, hev⟩ := hP; obtain ⟨et, eu, rfl⟩ := id hev.held; have HF3 := Lib.hid (HF2.out.q hq3); clear t hq3 hev)
        | (have t := HF1; go_at_call 8; refine (HFEW.out _ HF1.out).mono ?_; rintro e w2 ⟨rfl, hq2⟩; have HF2 := Lib.hid (HF1.out.q hq2); have rC := hq2.rowAt HC1.out (by simp); obtain ⟨⟨m0', m1', m2', m3'⟩, m4', m5', m6', m7'⟩ := cells8 rC; clear t hq2 rC)
        | (go_at_call 7; refine (first_any (HE.out.quiet HO.out)).mono ?_; rintro e w1 ⟨rfl, hq1⟩; have HF1 := Lib.hid (HO.out.q hq1); have rC := hq1.rowAt (heap_alloc_new w _) (by simp); obtain ⟨⟨m0, m1, m2, m3⟩, m4, m5, m6, m7⟩ := cells8 rC; have HC1 := Lib.hid rC; clear hq1 rC)
        | fail)
      go_ret
      exact ⟨rfl, HF4.out⟩
    | ok b =>
      have Hmx := Lib.hid hmx
      clear hmx
      go_enter Tryd.func6, Tryd.ntmps6
      go_wp2_with (first
        | (have t := HF3; go_at_call 10; refine (Open_any HBV.out (Nat.le_refl _) (by have := HMd.out.bmax; omega)).mono ?_; rintro e w4 hP; unfold OpensP at hP; rw [HMd.out.opens] at hP; obtain ⟨hq4, pv, rfl, hoe⟩ := hP; simp only at hoe; obtain ⟨pa, pcap, hpv, _⟩ := id hoe.open; rw [muxP_length] at hpv; subst hpv; unfold infoV; simp only; have HOE := Lib.hid hoe; have hn4 := Only.new w4 (.cells #[.int .i64 W, .int .i64 H, .int .i64 (allSizes l).length, .int .i64 a0, .int .i64 a1, .int .i64 a2, .int .i64 a3, .int .i64 a4, .int .i64 a5, .int .i64 a6, .int .i64 a7, .slice pa l.length pcap] 34); have HF4 := Lib.hid (hq4.q hn4); have rC4 := hn4.rowAt (hq4.rowAt HC3.out (by simp)) (by simp); obtain ⟨⟨p0, p1, p2, p3⟩, p4, p5, p6, p7⟩ := cells8 rC4; have HC4 := Lib.hid rC4; clear t hoe hq4 hn4 rC4)
        | (have t := HF2; go_at_call 9; refine (HMUX.out _ HF2.out (by omega)).mono ?_; rintro e w3 hP; unfold MuxP at hP; rw [Hmx.out] at hP; obtain ⟨hq3, bv, rfl, hown⟩ := hP; obtain ⟨fl, hmd⟩ := HMade.out b Hmx.out hown.2; have HMd := Lib.hid hmd; obtain ⟨ba, bcap, hbv, _⟩ := hown.ints.open; subst hbv; have HBV := Lib.hid hown.ints; have HF3 := Lib.hid (HF2.out.q hq3); have HC3 := Lib.hid (hq3.rowAt HC2.out (by simp)); clear t hq3 hown hmd)
        | (have t := HF1; go_at_call 8; refine (HFEW.out _ HF1.out).mono ?_; rintro e w2 ⟨rfl, hq2⟩; have HF2 := Lib.hid (HF1.out.q hq2); have rC := hq2.rowAt HC1.out (by simp); obtain ⟨⟨m0', m1', m2', m3'⟩, m4', m5', m6', m7'⟩ := cells8 rC; have HC2 := Lib.hid rC; clear t hq2 rC)
        | (go_at_call 7; refine (first_any (HE.out.quiet HO.out)).mono ?_; rintro e w1 ⟨rfl, hq1⟩; have HF1 := Lib.hid (HO.out.q hq1); have rC := hq1.rowAt (heap_alloc_new w _) (by simp); obtain ⟨⟨m0, m1, m2, m3⟩, m4, m5, m6, m7⟩ := cells8 rC; have HC1 := Lib.hid rC; clear hq1 rC)
        | fail)
      have hmd := HMd.out
      have hEl : (muxP fl 0 30 l).2.length = l.length := muxP_length _ _ _
      have hseg := openR_segs hmd.byt hmd.opens
      simp only at hseg
      have hck := (checkB_none hmd.chk).2.1
      have hsm := hmd.small
      have hbm := hmd.bmax
      have hents := fun i hi => muxP_ents (fl := fl) l 0 30 i hi
      obtain ⟨pa2, pcap2, hpae, _, _, hel⟩ := HOE.out.open
      rw [hEl] at hpae
      cases hpae
      obtain ⟨ba2, bcap2, hbae, hbc1, hbc2, hbat, _⟩ := HBV.out.open
      cases hbae
      obtain ⟨bb, boff, rfl, _, _⟩ := hbat 0 (by have := hmd.blen; omega)
      obtain ⟨va2, vcap2, hvae, _, _, hvel⟩ := Hh.out.open
      cases hvae
      have HEL := Lib.hid hel
      have HVEL := Lib.hid hvel
      have HEl := Lib.hid hEl
      have HCK := Lib.hid hck
      have HENTS := Lib.hid hents
      have Hbc1 := Lib.hid hbc1
      have Hbc2 := Lib.hid hbc2
      generalize hW5 : World.alloc w4 _ = W5
      rw [hW5] at HF4 HC4
      have rG : W5.heap[w4.heap.size]? = some (.cells #[.int .i64 W, .int .i64 H, .int .i64 (allSizes l).length, .int .i64 a0, .int .i64 a1, .int .i64 a2, .int .i64 a3, .int .i64 a4, .int .i64 a5, .int .i64 a6, .int .i64 a7, .slice pa l.length pcap] 34 (0, 0)) := by rw [← hW5]; exact heap_alloc_new _ _
      have hA5 : Only [] w4 W5 := by rw [← hW5]; exact Only.new _ _
      have HG := Lib.hid rG
      have HA5 := Lib.hid hA5
      have HSEG0 : Hid (Segs b ((muxP fl 0 30 l).2.drop 0) ((l.flatMap Chunk.coded).drop 0) (fl.drop 0)) := Lib.hid (by simpa using hseg)
      have HAL0 : Hid ((l.flatMap Chunk.coded).drop 0 = (l.drop 0).flatMap Chunk.coded) := Lib.hid (by simp)
      clear hW5 rG hA5 hel hvel hmd hEl hck hents hbat hbc1 hbc2 hseg m0 m1 m2 m3 m4 m5 m6 m7 m0' m1' m2' m3' m4' m5' m6' m7' p0 p1 p2 p3 p4 p5 p6 p7
      go_loopw [14, 13] (fun i y wt => ∃ (p n : Nat), p ≤ l.length ∧ i = .int .i64 p ∧ y = .int .i64 n ∧ n ≤ (l.flatMap Chunk.coded).length ∧ Hid (Segs b ((muxP fl 0 30 l).2.drop p) ((l.flatMap Chunk.coded).drop n) (fl.drop n)) ∧ Hid ((l.flatMap Chunk.coded).drop n = (l.drop p).flatMap Chunk.coded) ∧ Only [] W5 wt) (fun i _ _ => l.length - (intOf i).toNat)
      case atStart => exact ⟨0, 0, by omega, rfl, rfl, by omega, HSEG0, HAL0, Only.refl _ _⟩
      case round =>
        obtain ⟨p, n, hp, rfl, rfl, hn, HSEG, HAL, hO⟩ := hrel
        have rGr := hO.rowAt HG.out (by simp)
        have i11 : wr.cell? ⟨w4.heap.size, 11, none⟩ = some (.slice pa l.length pcap) := by rw [cell_of_row _ _ _ _ _ _ rGr]; rfl
        by_cases hlt : p < l.length
        · have hx : (0 : Int) ≤ (p : Int) := by omega
          have hx1 : (p : Int) < (l.length : Int) := by omega
          have hpE : p < (muxP fl 0 30 l).2.length := by rw [HEl.out]; exact hlt
          obtain ⟨eb, eoff, rfl, _, _, hc0, hc1, hc2, hc3⟩ := HEL.out p hpE
          obtain ⟨vb, voff, cv, rfl, _, _, hv0, hv1, hv2, hv3, hvok, hvcd⟩ := HVEL.out p hlt
          have q4 : Only [] w4 wr := HA5.out.q hO
          have qW : Only [] w wr := HF3.out.q (HF4.out.q hO)
          have c0 := q4.cell hc0 (by simp)
          have c1 := q4.cell hc1 (by simp)
          have c2 := q4.cell hc2 (by simp)
          have c3 := q4.cell hc3 (by simp)
          have v1 := qW.cell hv1 (by simp)
          have v2 := qW.cell hv2 (by simp)
          have v3 := qW.cell hv3 (by simp)
          have hvcd' := hvcd.quiet qW
          have hs := HSEG.out
          have hal := HAL.out
          have hent := HENTS.out p hlt
          have hcp := chunkB_parts (HCK.out (l.getD p default) (by simp [hlt]))
          rw [flat_drop hlt] at hal
          rw [ent_drop hpE] at hs
          generalize hcd : (l.flatMap Chunk.coded).drop n = CD at *
          generalize hfd : fl.drop n = FD at hs
          generalize (muxP fl 0 30 l).2.getD p default = e at *
          generalize l.getD p default = x at *
          cases hs with
          | @cons _ _ cs1 cs2 fs1 fs2 hpart hcnt hfl1 hrest =>
          obtain ⟨ef, ec, eo, el⟩ := e
          obtain ⟨xn, xf, xc, xl⟩ := x
          simp only at hent hcnt hcp hal c0 c1 c2 c3 v1 v2 v3 hvcd'
          obtain ⟨hent1, hent2⟩ := hent
          subst hent1; subst hent2
          obtain ⟨⟨y0, y1, y2, y3, y4⟩, _, _⟩ := hcp
          obtain ⟨hcs1, hcs2⟩ := List.append_inj hal (by omega)
          subst hcs1
          have hpok := part_ok hpart
          have hppos := part_pos hpart
          obtain ⟨q1, q2, q3, q4', q5, q6, q7, q8⟩ := id hpok
          simp only at q1 q2 q3 q4' q5 q6 q7 q8 hppos
          subst hcnt
          obtain ⟨O, rfl⟩ := Int.eq_ofNat_of_zero_le q5
          obtain ⟨N, rfl⟩ := Int.eq_ofNat_of_zero_le q6
          have hbc1 := Hbc1.out
          have hbc2 := Hbc2.out
          have hcsl := congrArg List.length hcd
          rw [List.length_drop, List.length_append] at hcsl
          have HP := Lib.hid (Part_ok ef cs1.length O N (HBV.out.quiet (HF4.out.q hO)) (by have := (HF4.out.q hO).size; omega) hpok (by omega) (by omega) (by omega) (by unfold maxLen at hbc2; omega))
          obtain ⟨ca0, ccap0, rfl, _⟩ := hvcd'.open
          have Hpart := Lib.hid hpart
          have Hcd := Lib.hid hcd
          have Hfd := Lib.hid hfd
          have Hrest := Lib.hid hrest
          have Hfl1 := Lib.hid hfl1
          have Hcs2 := Lib.hid hcs2
          have HVCD := Lib.hid hvcd'
          have HOr := Lib.hid hO
          have hfeq : (fs1.length : Int) = (cs1.length : Int) := by omega
          have hfeqb : ((fs1.length : Int) == (cs1.length : Int)) = true := by simp [hfl1]
          clear hc0 hc1 hc2 hc3 hv0 hv1 hv2 hv3 hvok hvcd hvcd' hpok hpart hcd hfd hrest hfl1 hbc1 hbc2 qW hO rGr hal hcs2 q4 hfeq
          go_wp2_with (first
            | (go_at_call 16; refine HP.out.mono ?_; rintro e w6 hPP; unfold PartP2 at hPP; rw [Hpart.out] at hPP; obtain ⟨hq6, cv6, fv6, rfl, hcv6, hfv6⟩ := hPP; simp only at hcv6 hfv6; obtain ⟨ca, ccap, hcve, _⟩ := hcv6.open; subst hcve; obtain ⟨fa, fcap, hfve, _⟩ := hfv6.open; rw [Hfl1.out] at hfve; subst hfve;
                have d0 := hq6.cell c0 (by simp); have d1 := hq6.cell c1 (by simp); have u1 := hq6.cell v1 (by simp); have u2 := hq6.cell v2 (by simp); have u3 := hq6.cell v3 (by simp); have i11' := hq6.cell i11 (by simp); have HQ6 := Lib.hid hq6; have HCV := Lib.hid hcv6; clear hq6 hcv6 hfv6)
            | fail)
          have hcode := Lib.hid (codeds_any (HCV.out.quiet (Only.refl [] w6).drew) (HVCD.out.quiet (HQ6.out.q (Only.refl [] w6).drew)))
          have heqb : eqB cs1 cs1 = true := by simp [eqB]
          have hcc1 : ((cs1.length : Int) == (cs1.length : Int)) = true := by simp
          clear c0 c1 c2 c3 v1 v2 v3 i11
          go_region_held3 (fun w' => w'.cell? ⟨w4.heap.size, 11, none⟩ = some (.slice (some ⟨eb, eoff, none⟩) l.length pcap) ∧ w'.cell? ⟨eb, eoff + p * 4, none⟩ = some (.int .i64 ef) ∧ w'.cell? ⟨eb, eoff + p * 4 + 1, none⟩ = some (.int .i64 cs1.length) ∧ w'.cell? ⟨vb, voff + p * 4 + 1, none⟩ = some (.int .i64 ef) ∧ w'.cell? ⟨vb, voff + p * 4 + 2, none⟩ = some (.int .i64 cs1.length) ∧ w'.cell? ⟨vb, voff + p * 4 + 3, none⟩ = some (.slice ca0 cs1.length ccap0))
            (first
              | (go_split_ands; refine ⟨hq7.cell (by assumption) (by simp), hq7.cell (by assumption) (by simp), hq7.cell (by assumption) (by simp), hq7.cell (by assumption) (by simp), hq7.cell (by assumption) (by simp), hq7.cell (by assumption) (by simp)⟩)
              | (simp [*, World.cell?_alloc_some, World.cell?_setCell_far, frozen?_alloc_cells, frozen_drew, World.frozen?_setCell])
              | fail)
            (first
              | (go_at_call 18; refine hcode.out.mono ?_; rintro e w7 ⟨rfl, hq7⟩; rw [heqb])
              | fail)
          have hwn : (n : Int) + (cs1.length : Int) ≤ 32 := by omega
          go_wp2_with fail
          have hOn := (HOr.out.q HQ6.out).q ((Only.refl [] w6).drew.q hq7)
          go_roundw
          case rel => exact ⟨p + 1, n + cs1.length, by omega, by go_num, congrArg (Value.int .i64) (by push_cast; omega), by omega, Lib.hid (by rw [drop_of_drop Hcd.out, show n + cs1.length = n + fs1.length by rw [Hfl1.out], drop_of_drop Hfd.out]; exact Hrest.out), Lib.hid (by rw [drop_of_drop Hcd.out]; exact Hcs2.out), hOn⟩
          case measure => simp [intOf]; omega
        · obtain rfl : p = l.length := by omega
          have hx : ¬ (l.length : Int) < (l.length : Int) := by omega
          have hs := HSEG.out
          rw [show (muxP fl 0 30 l).2.drop l.length = [] by rw [← HEl.out, List.drop_length]] at hs
          have hnil := congrArg List.length (Segs.nil_cs hs)
          rw [List.length_drop, List.length_nil] at hnil
          obtain rfl : n = (l.flatMap Chunk.coded).length := by omega
          have hqW : Only [] w wr := HF3.out.q (HF4.out.q hO)
          have HQW := Lib.hid hqW
          have HGr := Lib.hid rGr
          have HCr := Lib.hid (hO.rowAt HC4.out (by simp))
          have hsl : (takenR (l.flatMap Chunk.coded) fl).length = (l.flatMap Chunk.coded).length := by simp only [takenR, List.length_zipWith]; have := HMd.out.len; omega
          have HSl := Lib.hid hsl
          have hasl := allSizes_length l
          have HASL := Lib.hid hasl
          obtain ⟨q, hpl, hq⟩ := HMd.out.play_
          have HPL := Lib.hid hpl
          have hwb := withinB_of hq
          simp only at hwb
          have HWB := Lib.hid hwb
          have HPLAY := Lib.hid (fun (w' : World) (lo hi : Nat) (v : Value) (h : Ints .i64 lo hi w' v (takenR (l.flatMap Chunk.coded) fl)) => play_any ⟨a0, a1, a2, a3, a4, a5, a6, a7⟩ h)
          unfold Cfg.v at HPLAY
          have HBr := Lib.hid (HF4.out.q hO)
          have HOPN := Lib.hid HMd.out.opens
          clear hqW hO rGr hs hnil hsl hasl hpl hq hwb i11
          generalize l.flatMap Chunk.coded = FLT at *
          go_wp2_with (first
            | (have t := HF8; go_at_call 20; refine (within_any 0 a6 (HQ_.out.ints.quiet HF8.out)).mono ?_; rintro e w9 ⟨rfl, rfl⟩; rw [HWB.out])
            | (have t := HF7; go_at_call 7; refine (first_any (HE.out.quiet HF7w.out)).mono ?_; rintro e w8 ⟨rfl, hq8⟩; have HF8 := Lib.hid hq8; have rG8 := hq8.rowAt HG7.out (by simp); have g2 : w8.cell? ⟨w4.heap.size, 2, none⟩ = some (.int .i64 FLT.length) := (by rw [cell_of_row _ _ _ _ _ _ rG8, ← HASL.out]; rfl); have rC8 := hq8.rowAt HC7.out (by simp); have c6 : w8.cell? ⟨w.heap.size, 6, none⟩ = some (.int .i64 a6) := (by rw [cell_of_row _ _ _ _ _ _ rC8]; rfl); clear t rG8 rC8 hq8)
            | (have t := HF6; go_at_call 19; refine (HPLAY.out _ _ _ _ HS_.out.ints).mono ?_; rintro e w7 hP; unfold ListOr at hP; rw [HPL.out] at hP; obtain ⟨hq7, qv, rfl, hqo⟩ := hP; have HQ_ := Lib.hid hqo; have HF7 := Lib.hid hq7; have HF7w := Lib.hid ((HQW.out.q HF6.out).q hq7); have HG7 := Lib.hid (hq7.rowAt (HF6.out.rowAt HGr.out (by simp)) (by simp)); have HC7 := Lib.hid (hq7.rowAt (HF6.out.rowAt HCr.out (by simp)) (by simp)); clear t hq7 hqo)
            | (go_at_call 12; refine (Sizes_any (HBV.out.quiet HBr.out) (by have := HBr.out.size; omega) (by have := HMd.out.bmax; omega)).mono ?_; rintro e w6 hP; unfold ListOr sizesR at hP; rw [HOPN.out] at hP; obtain ⟨hq6, sv, rfl, hso⟩ := hP; simp only at hso; obtain ⟨sa, scap, hsv, _⟩ := hso.ints.open; rw [HSl.out] at hsv; subst hsv; have HS_ := Lib.hid hso; have HF6 := Lib.hid hq6; have rC6 := hq6.rowAt HCr.out (by simp); obtain ⟨⟨z0, z1, z2, z3⟩, z4, z5, z6, z7⟩ := cells8 rC6; clear hq6 hso rC6)
            | fail)
          go_ret
          exact ⟨rfl, (HQW.out.q HF6.out).q (HF7.out.q HF8.out)⟩
#print axioms backl_any
end Go.Proofs.YtjpbnboaonnfgaaDoor
/- BoxBack of the box: for any configuration, sides and chunks, the law kinlaw24.BoxBack answers true and leaves its arguments as they were (a container tells what it was made of; the bucket goes over it). Conditions: errors.errorType is laid as the program's text lays it (the card ties it). -/
namespace Go.Proofs.YtjpbnboaonnfgaaDoor
open Go.ChangeShapes Go.WideShapes Go.ChangeAt Go.RowKit
set_option linter.unusedVariables false
set_option linter.unusedSimpArgs false

set_option maxRecDepth 100000 in
theorem boxBack_lifted (os : Os) (started : os.Started) (H : Type) (enc : TypeId × Value → H) :
    ReturnsInHanded {} Tryd.checked os 6 .any (fun w args => (Rows.boxBackSpec.pre enc Tryd.prog Tryd.f6 [] false w args ∧ laidMetH Tryd.prog laid1 w) ∧ sizedMet enc Tryd.prog Tryd.f6 (OpenSpec.ofChange Rows.boxBackSpec) false w args)
      (Rows.boxBackSpec.post enc Tryd.prog Tryd.f6 false true false false) := by
  refine returnsInHanded_of_change_and (C := Tryd.checked) (X := fun w _ => laidMetH Tryd.prog laid1 w) (fun _ _ _ hh h => h.of_heap hh) own_ started (by kernel_rfl) Tryd.func6
    (ChangeSpec.witness_at (enc := enc) (C := Tryd.checked) (os := os) (X := fun w _ => laidMetH Tryd.prog laid1 w) false (laidWorld os) #[.agg #[.int .i64 0, .int .i64 0, .int .i64 0, .int .i64 0, .int .i64 0, .int .i64 0, .int .i64 0, .int .i64 0], .int .i64 0, .int .i64 0, .slice none 0 0] 8 rfl (by kernel_rfl) (by kernel_rfl) (by kernel_rfl) (by kernel_rfl) (by kernel_rfl) (laidWorld_met os _)) ?_
  intro W base args ds gs before hval0 hW _ _ hL _
  have hval : ∀ (j : Nat) t v, Tryd.f6.params[j]? = some t → args[j]? = some v → Value.okWide Tryd.prog W .any base t v := hval0
  have hW' := hW
  obtain ⟨p, q, hA0, hV, rfl, hfz, hnd⟩ := hW
  have hA : DataW.TrodAll enc Tryd.prog W 0 (fun _ => true) true Tryd.f6.params.toList args.toList ds p := hA0
  rw [Tryd.params6] at hA hval
  obtain ⟨v0, vs0, d0, ds0, p0, q0, hargs, rfl, rfl, h0, r0⟩ := trodAll_cons hA
  obtain ⟨v1, vs1, d1, ds1, p1, q1, rfl, rfl, rfl, h1, r1⟩ := trodAll_cons r0
  obtain ⟨v2, vs2, d2, ds2, p2, q2, rfl, rfl, rfl, h2, r2⟩ := trodAll_cons r1
  obtain ⟨v3, vs3, d3, ds3, p3, q3, rfl, rfl, rfl, h3, r3⟩ := trodAll_cons r2
  obtain ⟨rfl, rfl, rfl⟩ := trodAll_nil r3
  obtain rfl : args = #[v0, v1, v2, v3] := by cases args; simp_all
  obtain ⟨rfl, rfl⟩ := trodVars_none hV
  obtain ⟨c, rfl⟩ := config_in (hval 0 23 v0 rfl rfl) h0
  obtain ⟨n1, rfl, rfl, rfl, w1⟩ := open_int Tryd.underlying3 (hval 1 3 v1 rfl rfl) h1
  obtain ⟨n2, rfl, rfl, rfl, w2⟩ := open_int Tryd.underlying3 (hval 2 3 v2 rfl rfl) h2
  obtain ⟨a3, len3, cap3, rfl⟩ := okWide_slice Tryd.underlying24 (hval 3 24 v3 rfl rfl)
  have k0 := h0
  have k3 := h3
  have lt0 : ∀ x ∈ p0, x.block < W.heap.size := by obtain ⟨m, hm⟩ := k0; exact DataW.trod_lt m _ _ _ hm
  have lt3 : ∀ x ∈ p3, x.block < W.heap.size := by obtain ⟨m, hm⟩ := k3; exact DataW.trod_lt m _ _ _ hm
  obtain ⟨l, hl⟩ : ∃ l, ChunksAt 0 W.heap.size W (.slice a3 len3 cap3) l := by
    obtain ⟨fuel, hf⟩ := h3
    obtain ⟨v, l, hv, hl⟩ := chunks_in hf
    have hcs : (Value.slice a3 len3 cap3).cells.toList = [.slice a3 len3 cap3] := rfl
    rw [hcs] at hv
    obtain rfl := (List.cons.inj hv).1
    exact ⟨l, hl⟩
  clear hA0 hval0
  simp only [List.append_nil] at hW'
  refine (backl_any c n1 n2 hl (Nat.le_refl _) (errT_of_laid hL)).mono fun e W' ⟨he, hq⟩ => ?_
  subst he
  have bel := hq.quiet
  exact ⟨_, rfl, _, _, _, [], _, [], hW', trodAll_mk1 (shut_bool Tryd.underlying4 _), (trodAll_cons_mk (Below.trod laidOut_ (by kernel_rfl) (of_decide_eq_true (by kernel_rfl)) k0 bel lt0) (trodAll_cons_mk (shut_int Tryd.underlying3 w1) (trodAll_cons_mk (shut_int Tryd.underlying3 w2) (trodAll_cons_mk (Below.trod laidOut_ (by kernel_rfl) (of_decide_eq_true (by kernel_rfl)) k3 bel lt3) trodAll_mk0)))), rfl, bel.frame _, fun h => by cases h⟩
theorem boxBack_row : Rows.BoxBackSaid :=
  OpenClaim.holds_of_wide 6 Tryd.f6 rfl rfl rfl rfl rfl rfl rfl ⟨rfl, rfl, rfl, rfl, rfl⟩ rfl rfl rfl rfl rfl (by kernel_rfl) Tryd.func6 (by kernel_rfl)
    (of_decide_eq_true (by kernel_rfl)) (by unfold Func.isWrapper; first | (rw [if_pos (by decide +kernel)]; kernel_rfl) | (rw [if_neg (by decide +kernel)]; exact ⟨rfl, rfl⟩))
    (fun os started H enc _ => boxBack_lifted os started H enc)
theorem boxBack_holds : Rows.BoxBackCardSaid :=
  Claim7.holds_tied_plain_at .later [] [.handle] true _ true
    boxBack_row (fun _ h => by cases h) (by kernel_rfl) (fun _ h => by cases h) boxBack_row_tie rfl ⟨rfl, rfl⟩ (by kernel_rfl) rfl
    (fun f fn hf hfn => by
      obtain rfl : f = 6 := Option.some.inj ((show Tryd.prog.funcNamed "kinescope/kinlaw24.BoxBack" = some 6 by kernel_rfl).symm.trans hf) |>.symm
      obtain rfl : fn = Tryd.f6 := (Option.some.inj (Tryd.func6.symm.trans hfn)).symm
      exact ⟨by kernel_rfl, fun j t ht => by
        rw [Tryd.params6] at ht
        have hm : t ∈ [23, 3, 3, 24] := by simpa using Array.mem_of_getElem? ht
        have hall : ([23, 3, 3, 24].all fun u => !Tryd.prog.wantsStandIn u) = true := by kernel_rfl
        exact (show Tryd.prog.wantsStandIn t = false by simpa using List.all_eq_true.1 hall t hm)⟩)
    (by kernel_rfl)
#print axioms boxBack_holds
end Go.Proofs.YtjpbnboaonnfgaaDoor
