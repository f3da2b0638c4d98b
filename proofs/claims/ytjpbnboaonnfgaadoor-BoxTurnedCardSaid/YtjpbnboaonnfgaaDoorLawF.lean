/- Joined texts: Law, SumsW. Conditions: each part names its own. -/
import Derived.Test.YtjpbnboaonnfgaaDoorC13
import Derived.Test.YtjpbnboaonnfgaaDoorC11
import Derived.Test.YtjpbnboaonnfgaaDoorC4
import Derived.Test.YtjpbnboaonnfgaaDoorTotalF
/- Plain laws of a made container: its lengths, sums and parts. Conditions: none. -/
namespace Go.Proofs.YtjpbnboaonnfgaaDoor
open Go.RowKit
set_option linter.unusedVariables false
set_option linter.unusedSimpArgs false

theorem ChunksAt.bytes {lo hi : Nat} {w : World} {v : Value} {l : List Chunk} (h : ChunksAt lo hi w v l) : ∀ k ∈ l, ∀ x ∈ k.coded, ∀ y ∈ x.data, InK .u8 y := by
  obtain ⟨f, _, h2⟩ := h
  intro k hk x hx y hy
  obtain ⟨i, hi, rfl⟩ := List.getElem_of_mem hk
  obtain ⟨_, _, _, _, g, _, h3⟩ := h2 i hi
  have e : l.getD i default = l[i] := by simp [hi]
  rw [e] at h3
  obtain ⟨j, hj, rfl⟩ := List.getElem_of_mem hx
  have e2 : l[i].coded.getD j default = l[i].coded[j] := by simp [hj]
  have := (h3 j hj).2.2.2
  rw [e2] at this
  exact this y hy
def sumI : List Int → Int
  | [] => 0
  | x :: l => x + sumI l
theorem sumI_append : ∀ (l m : List Int), sumI (l ++ m) = sumI l + sumI m
  | [], m => by simp [sumI]
  | x :: l, m => by simp only [List.cons_append, sumI, sumI_append l m]; omega
theorem sumI_take {l : List Int} {k : Nat} (h : k < l.length) : sumI (l.take (k + 1)) = sumI (l.take k) + l.getD k 0 := by
  rw [take_snoc h, sumI_append]; simp [sumI]
theorem takenR_cons (c : Coded) (cs : List Coded) (z : Int) (fs : List Int) : takenR (c :: cs) (z :: fs) = (costOf c + z) :: takenR cs fs := rfl
theorem takenR_append {cs cs' : List Coded} {fs fs' : List Int} (h : cs.length = fs.length) : takenR (cs ++ cs') (fs ++ fs') = takenR cs fs ++ takenR cs' fs' := by
  unfold takenR; exact List.zipWith_append h
theorem muxF_sum {fl : List Int} (hf : ∀ z ∈ fl, 0 ≤ z) {first : Nat} : ∀ (cs : List Coded) (f : Nat), first + f + cs.length ≤ fl.length → ((muxF fl first f cs).length : Int) = sumI (takenR cs ((fl.drop (first + f)).take cs.length))
  | [], f, _ => by simp [muxF, takenR, sumI]
  | c :: cs, f, h => by
    rw [List.length_cons] at h
    have ih := muxF_sum hf (first := first) cs (f + 1) (by omega)
    have hg : 0 ≤ fl.getD (first + f) 0 := hf _ (by simp [show first + f < fl.length by omega])
    have hd : (fl.drop (first + f)).take (cs.length + 1) = fl.getD (first + f) 0 :: (fl.drop (first + (f + 1))).take cs.length := by
      rw [drop_cons (show first + f < fl.length by omega)]; rfl
    rw [List.length_cons, hd, takenR_cons, sumI, muxF, List.length_append, List.length_append, List.length_replicate, unitB_length]
    push_cast
    rw [ih, Int.toNat_of_nonneg hg]
    unfold costOf
    omega
theorem chunkBytes_sum {fl : List Int} (hf : ∀ z ∈ fl, 0 ≤ z) {k : Chunk} (n : Nat) (h : k.first.toNat + k.coded.length ≤ fl.length) : ((chunkBytes fl n k).length : Int) = 11 + sumI (takenR k.coded ((fl.drop k.first.toNat).take k.coded.length)) := by
  rw [chunkBytes, List.length_append, unitB_length]
  push_cast
  rw [muxF_sum hf k.coded 0 (by omega)]
  simp only [List.length_cons, List.length_nil, Nat.add_zero]
  omega
/-- each entry begins where the part ahead ends -/
def SumsL (tot : Int) : Int → List Entry → List Int → Prop
  | at_, [], s => s = [] ∧ at_ = tot
  | at_, e :: es, s => e.offset = at_ ∧ 0 ≤ e.count ∧ e.count.toNat ≤ s.length ∧ e.length = 11 + sumI (s.take e.count.toNat) ∧ SumsL tot (at_ + e.length) es (s.drop e.count.toNat)
theorem sums_mux {fl : List Int} (hf : ∀ z ∈ fl, 0 ≤ z) : ∀ (ks : List Chunk) (num off a : Nat), runsOn num a ks = true → (∀ k ∈ ks, chunkB k = true) → a + (ks.flatMap Chunk.coded).length ≤ fl.length →
    SumsL (off + (muxP fl num off ks).1.length) off (muxP fl num off ks).2 (takenR (ks.flatMap Chunk.coded) ((fl.drop a).take (ks.flatMap Chunk.coded).length))
  | [], num, off, a, _, _, _ => by simp [muxP, SumsL, takenR]
  | k :: ks, num, off, a, hr, hc, hl => by
    have hk := (chunkB_parts (hc k (by simp))).1
    rw [runsOn] at hr
    split at hr
    · cases hr
    rename_i hb
    have hfirst : k.first.toNat = a := by omega
    simp only [List.flatMap_cons, List.length_append] at hl
    have hcl : k.count = (k.coded.length : Int) := by omega
    have e0 : k.first = (a : Int) := by omega
    have ih := sums_mux hf ks (num + 1) (off + (chunkBytes fl num k).length) (a + k.coded.length) (by rw [hcl] at hr; push_cast; exact hr) (fun k' hk' => hc k' (by simp [hk'])) (by omega)
    have hsum := chunkBytes_sum hf (k := k) num (by omega)
    rw [hfirst] at hsum
    have htk : takenR ((k :: ks).flatMap Chunk.coded) ((fl.drop a).take ((k :: ks).flatMap Chunk.coded).length) = takenR k.coded ((fl.drop a).take k.coded.length) ++ takenR (ks.flatMap Chunk.coded) ((fl.drop (a + k.coded.length)).take (ks.flatMap Chunk.coded).length) := by
      simp only [List.flatMap_cons, List.length_append]
      rw [List.take_add, takenR_append (by rw [List.length_take, List.length_drop]; omega), List.drop_drop]
    have htl : (takenR k.coded ((fl.drop a).take k.coded.length)).length = k.coded.length := by
      simp only [takenR, List.length_zipWith, List.length_take, List.length_drop]; omega
    rw [htk, muxP, SumsL]
    refine ⟨rfl, by simp only; omega, ?_, ?_, ?_⟩
    · simp only [hcl, Int.toNat_natCast, List.length_append, htl]; omega
    · simp only [hcl, Int.toNat_natCast]
      rw [List.take_left' htl, hsum]
    · simp only [hcl, Int.toNat_natCast]
      rw [List.drop_left' htl]
      have e : ((off : Int) + ((chunkBytes fl num k ++ (muxP fl (num + 1) (off + (chunkBytes fl num k).length) ks).1).length : Nat)) = ((off + (chunkBytes fl num k).length : Nat) : Int) + ((muxP fl (num + 1) (off + (chunkBytes fl num k).length) ks).1.length : Nat) := by
        rw [List.length_append]; push_cast; omega
      rw [e]
      have e3 : (off : Int) + ((chunkBytes fl num k).length : Nat) = ((off + (chunkBytes fl num k).length : Nat) : Int) := by push_cast; rfl
      rw [e3]
      exact ih
theorem muxBytes_length {c : Cfg} {W H : Int} {l : List Chunk} {fl : List Int} : (muxBytes c W H l fl).length = 30 + (muxP fl 0 30 l).1.length + (8 + 10 * l.length) + 16 := by
  have hhl : (unitB 16 (headerB W H (allSizes l).length l.length c)).length = 30 := by rw [unitB_length, headerB_length]
  unfold muxBytes
  simp only [hhl]
  simp only [List.length_append, unitB_length, indexB_length, muxP_length, tailB_length, hhl, headerB_length]
  omega
theorem muxP_ents : ∀ {fl : List Int} (l : List Chunk) (n off i : Nat), i < l.length → ((muxP fl n off l).2.getD i default).first = (l.getD i default).first ∧ ((muxP fl n off l).2.getD i default).count = (l.getD i default).count
  | fl, [], n, off, i, h => absurd h (by simp)
  | fl, k :: l, n, off, 0, h => by rw [muxP]; simp
  | fl, k :: l, n, off, i + 1, h => by
    have := muxP_ents (fl := fl) l (n + 1) (off + (chunkBytes fl n k).length) i (by simpa using h)
    rw [muxP]
    simpa using this
theorem muxP_ent_le {fl : List Int} (hf : FlOk fl) : ∀ (l : List Chunk) (n off : Nat), (∀ k ∈ l, chunkB k = true) → ∀ e ∈ (muxP fl n off l).2, 0 ≤ e.length ∧ e.length ≤ 1450000
  | [], n, off, _, e, he => by simp [muxP] at he
  | k :: l, n, off, hc, e, he => by
    rw [muxP] at he
    have h1 := chunkBytes_le hf n (hc k (by simp))
    rcases List.mem_cons.1 he with rfl | he
    · simp only; omega
    · exact muxP_ent_le hf l _ _ (fun k' hk' => hc k' (by simp [hk'])) e he
/-- the frames of the chunks, as the parts have them -/
theorem flat_drop {l : List Chunk} {k : Nat} (h : k < l.length) : (l.drop k).flatMap Chunk.coded = (l.getD k default).coded ++ (l.drop (k + 1)).flatMap Chunk.coded := by
  rw [chunk_drop h, List.flatMap_cons]
/-- all that a made container gives -/
structure Made (c : Cfg) (W H : Int) (l : List Chunk) (b : List Int) (fl : List Int) : Prop where
  may : mayB c = true
  chk : checkB l = none
  len : fl.length = (l.flatMap Chunk.coded).length
  flok : FlOk fl
  opens : openR b = .ok ⟨⟨W, H, (allSizes l).length, c, l.length⟩, (muxP fl 0 30 l).2, l.flatMap Chunk.coded, fl⟩
  blen : b.length = 30 + (muxP fl 0 30 l).1.length + (8 + 10 * l.length) + 16
  sums : SumsL (30 + (muxP fl 0 30 l).1.length) 30 (muxP fl 0 30 l).2 (takenR (l.flatMap Chunk.coded) fl)
  small : l.length ≤ 16 ∧ (l.flatMap Chunk.coded).length ≤ 16
  bmax : b.length ≤ 24000000
  byt : ∀ x ∈ b, InK .u8 x
  play_ : ∃ q, play c (takenR (l.flatMap Chunk.coded) fl) = .ok q ∧ ∀ x ∈ q, 0 ≤ x ∧ x ≤ c.room
theorem unitB_in {k : Int} {data : List Int} (hk : 1 ≤ k ∧ k ≤ 255) (hl : data.length ≤ 65536) (hin : ∀ x ∈ data, InK .u8 x) : ∀ x ∈ unitB k data, InK .u8 x := by
  intro x hx
  rcases List.mem_append.1 hx with hx | hx
  · exact unitHead_in hk hl hin x hx
  · exact be_range _ _ x hx
theorem made_of {c : Cfg} {W H : Int} {l : List Chunk} {b : List Int} (hin : ∀ k ∈ l, ∀ x ∈ k.coded, ∀ y ∈ x.data, InK .u8 y) (h : muxR c W H l = .ok b) (hb : ∀ x ∈ b, InK .u8 x) : ∃ fl, Made c W H l b fl := by
  obtain ⟨fl, rfl, hm, hc, hf, hlen, hop⟩ := openR_mux hin h
  obtain ⟨hne, hck, hro⟩ := checkB_none hc
  have h16 := runsOn_le hck hro (by omega)
  have hle := flat_le hck
  have hfo := fills_flok hm (fun n hn => by rw [allSizes_eq, List.mem_map] at hn; obtain ⟨x, _, rfl⟩ := hn; unfold costOf; omega) hf
  have hP := muxP_le hfo.2 l 0 30 hck
  have hbl : (muxBytes c W H l fl).length = _ := muxBytes_length
  have hs := sums_mux (fun z hz => (hfo.2 z hz).1) l 0 30 0 hro hck (by omega)
  rw [List.drop_zero, List.take_of_length_le (by omega)] at hs
  refine ⟨fl, hm, hc, hlen, hfo.2, hop, hbl, by simpa using hs, by omega, by rw [hbl]; omega, hb, play_made hm hf⟩
end Go.Proofs.YtjpbnboaonnfgaaDoor
/- BoxSums answers true. Conditions: the chunks read; the variable errors.errorType is laid. -/
namespace Go.Proofs.YtjpbnboaonnfgaaDoor
open Go.RowKit
set_option linter.unusedVariables false
set_option linter.unusedSimpArgs false

theorem few_20 {r : Int} {l : List Chunk} (h : fewsB r l = true) : l.length ≤ 20 := by
  simp only [fewsB, Bool.and_eq_true, decide_eq_true_eq] at h
  omega
theorem sumI_le {B : Int} : ∀ (l : List Int), (∀ x ∈ l, 0 ≤ x ∧ x ≤ B) → 0 ≤ sumI l ∧ sumI l ≤ l.length * B
  | [], _ => by simp [sumI]
  | x :: l, h => by
    have h1 := sumI_le l (fun y hy => h y (by simp [hy]))
    have h2 := h x (by simp)
    simp only [sumI, List.length_cons]
    push_cast
    rw [Int.add_mul]
    omega
theorem taken_le {cs : List Coded} {fs : List Int} (hc : ∀ c ∈ cs, c.data.length ≤ 65536) (hf : FlOk fs) : ∀ x ∈ takenR cs fs, 0 ≤ x ∧ x ≤ 82000 := by
  intro x hx
  obtain ⟨i, hi, rfl⟩ := List.getElem_of_mem hx
  simp only [takenR, List.getElem_zipWith]
  simp only [takenR, List.length_zipWith] at hi
  have h1 := hc cs[i] (List.getElem_mem _)
  have h2 := hf fs[i] (List.getElem_mem _)
  unfold costOf
  omega

set_option maxRecDepth 100000 in
set_option maxHeartbeats 16000000 in
theorem sumsl_any {lo hi : Nat} (c : Cfg) (W H : Int) {v : Value} {l : List Chunk} {w : World} (h : ChunksAt lo hi w v l) (hhi : hi ≤ w.heap.size) (hE : ErrT w) :
    Calls Tryd.prog 4 #[c.v, .int .i64 W, .int .i64 H, v] w fun e w' => e = .returned (.bool true) ∧ Only [] w w' := by
  have hbyt := h.bytes
  obtain ⟨va, vcap, rfl, hvc, hvm, _⟩ := h.open
  have Hh := Lib.hid h
  have HE := Lib.hid hE
  have HFEW := Lib.hid (fun w' (o : Only [] w w') => few_any c (h.quiet o))
  have HMUX := Lib.hid (fun w' (o : Only [] w w') (hl : l.length ≤ 1000000) => mux_any c W H (h.quiet o) (Nat.le_trans hhi o.size) hl)
  have hnl : (l.length : Int) ≤ 9223372036854775807 := by unfold maxLen at hvm; omega
  have hM := fun b (hm : muxR c W H l = .ok b) (hb : ∀ x ∈ b, InK .u8 x) => made_of hbyt hm hb
  have HMade := Lib.hid hM
  obtain ⟨a0, a1, a2, a3, a4, a5, a6, a7⟩ := c
  simp only at HFEW
  have HO := Lib.hid (Only.new w (.cells #[.int .i64 a0, .int .i64 a1, .int .i64 a2, .int .i64 a3, .int .i64 a4, .int .i64 a5, .int .i64 a6, .int .i64 a7] 23))
  clear h hE hM hbyt hvm hvc
  unfold Cfg.v at HFEW HMUX ⊢
  cases hfew : fewsB a5 l with
  | false =>
    rw [hfew] at HFEW
    clear hfew
    go_enter Tryd.func4, Tryd.ntmps4
    go_wp2_with (first
      | (have t := HF2; go_at_call 7; refine (first_any (HE.out.quiet HF2.out)).mono ?_; rintro e w3 ⟨rfl, hq3⟩; have HF3 := Lib.hid hq3; clear t hq3)
      | (have t := HF1; go_at_call 8; refine (HFEW.out _ HF1.out).mono ?_; rintro e w2 ⟨rfl, hq2⟩; have HF2 := Lib.hid (HF1.out.q hq2); clear t hq2)
      | (go_at_call 7; refine (first_any (HE.out.quiet HO.out)).mono ?_; rintro e w1 ⟨rfl, hq1⟩; have HF1 := Lib.hid (HO.out.q hq1); have rC := hq1.rowAt (heap_alloc_new w _) (by simp); obtain ⟨⟨m0, m1, m2, m3⟩, m4, m5, m6, m7⟩ := cells8 rC; clear hq1 rC)
      | fail)
    go_ret
    exact ⟨rfl, HF2.out.q HF3.out⟩
  | true =>
    rw [hfew] at HFEW
    have h20 := few_20 hfew
    clear hfew
    cases hmx : muxR ⟨a0, a1, a2, a3, a4, a5, a6, a7⟩ W H l with
    | error er =>
      have Hmx := Lib.hid hmx
      clear hmx HMade
      go_enter Tryd.func4, Tryd.ntmps4
      go_wp2_with (first
        | (have t := HF3; go_at_call 7; refine (first_any (HE.out.quiet HF3.out)).mono ?_; rintro e w4 ⟨rfl, hq4⟩; have HF4 := Lib.hid (HF3.out.q hq4); clear t hq4)
        | (have t := HF2; go_at_call 9; refine (HMUX.out _ HF2.out (by omega)).mono ?_; rintro e w3 hP; unfold MuxP at hP; rw [Hmx.out] at hP; obtain ⟨hq3, ev, rfl, hev⟩ := hP; obtain ⟨et, eu, rfl⟩ := id hev.held; have HF3 := Lib.hid (HF2.out.q hq3); clear t hq3 hev)
        | (have t := HF1; go_at_call 8; refine (HFEW.out _ HF1.out).mono ?_; rintro e w2 ⟨rfl, hq2⟩; have HF2 := Lib.hid (HF1.out.q hq2); have rC := hq2.rowAt HC1.out (by simp); obtain ⟨⟨m0', m1', m2', m3'⟩, m4', m5', m6', m7'⟩ := cells8 rC; clear t hq2 rC)
        | (go_at_call 7; refine (first_any (HE.out.quiet HO.out)).mono ?_; rintro e w1 ⟨rfl, hq1⟩; have HF1 := Lib.hid (HO.out.q hq1); have rC := hq1.rowAt (heap_alloc_new w _) (by simp); obtain ⟨⟨m0, m1, m2, m3⟩, m4, m5, m6, m7⟩ := cells8 rC; have HC1 := Lib.hid rC; clear hq1 rC)
        | fail)
      go_ret
      exact ⟨rfl, HF4.out⟩
    | ok b =>
      have Hmx := Lib.hid hmx
      clear hmx
      go_enter Tryd.func4, Tryd.ntmps4
      go_wp2_with (first
        | (have t := HF4; go_at_call 12; refine (Sizes_any (HBV.out.quiet HF4.out) (by have := HF4.out.size; omega) (by have := HMd.out.bmax; omega)).mono ?_; rintro e w5 hP; unfold ListOr sizesR at hP; rw [HMd.out.opens] at hP; obtain ⟨hq5, sv, rfl, hso⟩ := hP; simp only at hso; obtain ⟨sa, scap, hsv, _⟩ := hso.ints.open; subst hsv; have HSO := Lib.hid hso; have HF5 := Lib.hid hq5; have HR5 := Lib.hid (hq5.rowAt (heap_alloc_new w4 _) (by simp)); clear t hq5 hso)
        | (have t := HF3; go_at_call 10; refine (Open_any HBV.out (Nat.le_refl _) (by have := HMd.out.bmax; omega)).mono ?_; rintro e w4 hP; unfold OpensP at hP; rw [HMd.out.opens] at hP; obtain ⟨hq4, pv, rfl, hoe⟩ := hP; simp only at hoe; obtain ⟨pa, pcap, hpv, _⟩ := id hoe.open; rw [muxP_length] at hpv; subst hpv; unfold infoV; simp only; have HOE := Lib.hid hoe; have HF4 := Lib.hid (hq4.q (Only.new _ (.cells #[.int .i64 W, .int .i64 H, .int .i64 (allSizes l).length, .int .i64 a0, .int .i64 a1, .int .i64 a2, .int .i64 a3, .int .i64 a4, .int .i64 a5, .int .i64 a6, .int .i64 a7, .slice pa l.length pcap] 34))); clear t hoe hq4)
        | (have t := HF2; go_at_call 9; refine (HMUX.out _ HF2.out (by omega)).mono ?_; rintro e w3 hP; unfold MuxP at hP; rw [Hmx.out] at hP; obtain ⟨hq3, bv, rfl, hown⟩ := hP; obtain ⟨fl, hmd⟩ := HMade.out b Hmx.out hown.2; have HMd := Lib.hid hmd; obtain ⟨ba, bcap, hbv, _⟩ := hown.ints.open; subst hbv; have HBV := Lib.hid hown.ints; have HF3 := Lib.hid (HF2.out.q hq3); clear t hq3 hown hmd)
        | (have t := HF1; go_at_call 8; refine (HFEW.out _ HF1.out).mono ?_; rintro e w2 ⟨rfl, hq2⟩; have HF2 := Lib.hid (HF1.out.q hq2); have rC := hq2.rowAt HC1.out (by simp); obtain ⟨⟨m0', m1', m2', m3'⟩, m4', m5', m6', m7'⟩ := cells8 rC; clear t hq2 rC)
        | (go_at_call 7; refine (first_any (HE.out.quiet HO.out)).mono ?_; rintro e w1 ⟨rfl, hq1⟩; have HF1 := Lib.hid (HO.out.q hq1); have rC := hq1.rowAt (heap_alloc_new w _) (by simp); obtain ⟨⟨m0, m1, m2, m3⟩, m4, m5, m6, m7⟩ := cells8 rC; have HC1 := Lib.hid rC; clear hq1 rC)
        | fail)
      have hmd := HMd.out
      have hEl : (muxP fl 0 30 l).2.length = l.length := muxP_length _ _ _
      have hEle := muxP_ent_le hmd.flok l 0 30 (checkB_none hmd.chk).2.1
      have hSl : (takenR (l.flatMap Chunk.coded) fl).length = (l.flatMap Chunk.coded).length := by simp only [takenR, List.length_zipWith]; have := hmd.len; omega
      have hSle := taken_le (cs := l.flatMap Chunk.coded) (fun c hc => by
        obtain ⟨k, hk, hck⟩ := List.mem_flatMap.1 hc
        exact (readB_none ((chunkB_parts ((checkB_none hmd.chk).2.1 k hk)).2.2 c hck)).2.2) hmd.flok
      have hsm := hmd.small
      have hsums := hmd.sums
      have hblen := hmd.blen
      have hPl := hmd.bmax
      obtain ⟨pa2, pcap2, hpae, _, _, hel⟩ := HOE.out.open
      rw [hEl] at hpae
      cases hpae
      obtain ⟨sa2, scap2, hsae, _, _, hsat, hscell⟩ := HSO.out.ints.open
      cases hsae
      have HEL := Lib.hid hel
      have HSat := Lib.hid hsat
      have HScell := Lib.hid hscell
      have HBL := Lib.hid hblen
      have HEl := Lib.hid hEl
      have HEle := Lib.hid hEle
      have HSle := Lib.hid hSle
      have hSl16 : (takenR (l.flatMap Chunk.coded) fl).length ≤ 16 := by omega
      have hS63 : ((takenR (l.flatMap Chunk.coded) fl).length : Int) ≤ 9223372036854775807 := by omega
      have htot : (30 : Int) + ((muxP fl 0 30 l).1.length : Nat) ≤ 24000000 := by omega
      have HSUM : Hid (SumsL (30 + (muxP fl 0 30 l).1.length) 30 ((muxP fl 0 30 l).2.drop 0) ((takenR (l.flatMap Chunk.coded) fl).drop 0)) := Lib.hid (by simpa using hsums)
      clear hel hsat hscell m0 m1 m2 m3 m4 m5 m6 m7 m0' m1' m2' m3' m4' m5' m6' m7' hmd hEl hEle hSl hSle hsums hblen
      generalize hS : takenR (l.flatMap Chunk.coded) fl = S at *
      generalize hT : (muxP fl 0 30 l).1.length = T at *
      clear hS hT
      go_loopw [17, 15, 16] (fun i y z wt => ∃ (p n : Nat) (at_ : Int), p ≤ l.length ∧ i = .int .i64 p ∧ y = .int .i64 at_ ∧ z = .int .i64 n ∧ 0 ≤ at_ ∧ at_ ≤ 30 + p * 1450000 ∧ n ≤ S.length ∧ Hid (SumsL (30 + T) at_ ((muxP fl 0 30 l).2.drop p) (S.drop n)) ∧ Only [] w5 wt) (fun i _ _ _ => l.length - (intOf i).toNat)
      case atStart => exact ⟨0, 0, 30, by omega, rfl, rfl, rfl, by omega, by omega, by omega, HSUM, Only.refl _ _⟩
      case round =>
        obtain ⟨p, n, at_, hp, rfl, rfl, rfl, hat0, hat1, hn, HSM, hO⟩ := hrel
        have rIr := hO.rowAt HR5.out (by simp)
        have i11 : wr.cell? ⟨w4.heap.size, 11, none⟩ = some (.slice pa l.length pcap) := by rw [cell_of_row _ _ _ _ _ _ rIr]; rfl
        by_cases hlt : p < l.length
        · have hx : (0 : Int) ≤ (p : Int) := by omega
          have hx1 : (p : Int) < (l.length : Int) := by omega
          have hpE : p < (muxP fl 0 30 l).2.length := by rw [HEl.out]; exact hlt
          obtain ⟨eb, eoff, rfl, _, _, hc0, hc1, hc2, hc3⟩ := HEL.out p hpE
          have q45 : Only [] w4 wr := ((Only.new _ _).q HF5.out).q hO
          have c0 := q45.cell hc0 (by simp)
          have c1 := q45.cell hc1 (by simp)
          have c2 := q45.cell hc2 (by simp)
          have c3 := q45.cell hc3 (by simp)
          have hs := HSM.out
          have hel2 := HEle.out ((muxP fl 0 30 l).2.getD p default) (by simp [hpE])
          rw [ent_drop hpE] at hs
          generalize (muxP fl 0 30 l).2.getD p default = e at *
          obtain ⟨ef, ec, eo, el⟩ := e
          simp only [SumsL] at hs
          obtain ⟨s1, s2, s3, s4, s5⟩ := hs
          simp only at c0 c1 c2 c3 hel2
          subst s1
          obtain ⟨C, rfl⟩ := Int.eq_ofNat_of_zero_le s2
          simp only [Int.toNat_natCast] at s3 s4 s5
          rw [List.length_drop] at s3
          have S4 := Lib.hid s4
          have S5 := Lib.hid s5
          have HOr := Lib.hid hO
          clear hc0 hc1 hc2 hc3 s4 s5 hO q45 rIr
          go_wp2_with fail
          generalize hW6 : World.alloc wr _ = W6
          have rX : W6.heap[wr.heap.size]? = some (.cells #[.int .i64 ef, .int .i64 C, .int .i64 eo, .int .i64 el] 43 (0, 0)) := by rw [← hW6]; exact heap_alloc_new _ _
          have hA6 : Only [] wr W6 := by rw [← hW6]; exact Only.new _ _
          have HX := Lib.hid rX
          have HA6 := Lib.hid hA6
          clear hW6 rX hA6 c0 c1 c2 c3 i11
          generalize hN : wr.heap.size = X at *
          clear hN
          go_loopw [20, 16, 19] (fun i y z wt => ∃ (j : Nat), j ≤ C ∧ i = .int .i64 j ∧ y = .int .i64 ((n : Int) + j) ∧ z = .int .i64 (11 + sumI ((S.drop n).take j)) ∧ Only [] W6 wt) (fun i _ _ _ => C - (intOf i).toNat)
          case atStart => exact ⟨0, by omega, rfl, by simp, by simp [sumI], Only.refl _ _⟩
          case round =>
            obtain ⟨j, hj, rfl, rfl, rfl, hOi⟩ := hrel
            have rXi := hOi.rowAt HX.out (by simp)
            have x1 : wr.cell? ⟨X, 1, none⟩ = some (.int .i64 C) := by rw [cell_of_row _ _ _ _ _ _ rXi]; rfl
            have hsb := sumI_le ((S.drop n).take j) (fun x hx => HSle.out x (List.mem_of_mem_drop (List.mem_of_mem_take hx)))
            have hsl : (((S.drop n).take j).length : Int) ≤ 16 := by rw [List.length_take, List.length_drop]; omega
            have hsb2 : sumI ((S.drop n).take j) ≤ 1312000 := by
              have h1 := hsb.2
              have h2 : (((S.drop n).take j).length : Int) * 82000 ≤ 16 * 82000 := Int.mul_le_mul_of_nonneg_right hsl (by omega)
              omega
            by_cases hltj : j < C
            · have hjj : (j : Int) < (C : Int) := by omega
              have hnj : n + j < S.length := by omega
              have hni : (n : Int) + (j : Int) < (S.length : Int) := by omega
              have hn0 : (0 : Int) ≤ (n : Int) + (j : Int) := by omega
              have hn1 : ((n : Int) + (j : Int)).toNat = n + j := by omega
              have hn2 : (n : Int) + (j : Int) ≤ 16 := by omega
              obtain ⟨sb, soff, rfl, _, _⟩ := HSat.out (n + j) hnj
              have k1 := hOi.cell (HA6.out.cell (HOr.out.cell (HScell.out sb soff rfl (n + j) hnj) (by simp)) (by simp)) (by simp)
              have hst : sumI ((S.drop n).take (j + 1)) = sumI ((S.drop n).take j) + S.getD (n + j) 0 := by
                rw [sumI_take (by rw [List.length_drop]; omega), getD_drop]
              have hsv := HSle.out (S.getD (n + j) 0) (by simp [hnj])
              have HST := Lib.hid hst
              have hsb0 := hsb.1
              have HOi := Lib.hid hOi
              clear hst hOi rXi hsb hsl
              generalize sumI ((S.drop n).take j) = Z at *
              generalize S.getD (n + j) 0 = z at *
              go_wp2_with fail
              go_roundw
              case rel => exact ⟨j + 1, by omega, by go_num, congrArg (Value.int .i64) (by push_cast; omega), congrArg (Value.int .i64) (by rw [HST.out]; omega), HOi.out⟩
              case measure => simp [intOf]; omega
            · obtain rfl : j = C := by omega
              have hjj : ¬ (j : Int) < (j : Int) := by omega
              have x2 : wr.cell? ⟨X, 2, none⟩ = some (.int .i64 eo) := by rw [cell_of_row _ _ _ _ _ _ rXi]; rfl
              have x3 : wr.cell? ⟨X, 3, none⟩ = some (.int .i64 el) := by rw [cell_of_row _ _ _ _ _ _ rXi]; rfl
              have hOe := (HOr.out.q HA6.out).q hOi
              have hs4 := S4.out
              have HSS := Lib.hid S5.out
              rw [← hs4]
              clear hOi rXi hs4 S4 hsb hsl hsb2
              go_wp2_with fail
              go_roundw
              case rel => exact ⟨p + 1, n + j, eo + el, by omega, by go_num, rfl, congrArg (Value.int .i64) (by push_cast; omega), by omega, by push_cast; omega, by omega, Lib.hid (by have := HSS.out; rwa [List.drop_drop] at this), hOe⟩
              case measure => simp [intOf]; omega
        · obtain rfl : p = l.length := by omega
          have hx : ¬ (l.length : Int) < (l.length : Int) := by omega
          have hs := HSM.out
          rw [show (muxP fl 0 30 l).2.drop l.length = [] by rw [← HEl.out, List.drop_length]] at hs
          obtain ⟨hs1, hs2⟩ := hs
          have hnil := congrArg List.length hs1
          rw [List.length_drop, List.length_nil] at hnil
          obtain rfl : n = S.length := by omega
          have hbe : ((S.length : Int) == (S.length : Int)) = true := by simp
          subst hs2
          have hbl := HBL.out
          have hb2 : (b.length : Int) = 30 + (T : Int) + 8 + 10 * (l.length : Int) + 16 := by omega
          have hbeq : ((b.length : Int) == 30 + (T : Int) + 8 + 10 * (l.length : Int) + 16) = true := by simp [hb2]
          have hl16 : (l.length : Int) ≤ 16 := by omega
          have HQW : Hid (Only [] w wr) := Lib.hid ((HF3.out.q HF4.out).q (HF5.out.q hO))
          clear hs1 hbl hb2 rIr hO hnil
          go_wp2_with (first
            | (go_at_call 7; refine (first_any (HE.out.quiet HQW.out)).mono ?_; rintro e w9 ⟨rfl, hq9⟩)
            | fail)
          go_ret
          exact ⟨rfl, HQW.out.q hq9⟩
end Go.Proofs.YtjpbnboaonnfgaaDoor
