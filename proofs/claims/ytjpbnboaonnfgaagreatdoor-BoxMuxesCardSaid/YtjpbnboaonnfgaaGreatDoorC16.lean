/- Joined texts: MuxK, MuxKG. Conditions: each part names its own. -/
import Derived.Test.YtjpbnboaonnfgaaGreatDoorC13
import Derived.Test.YtjpbnboaonnfgaaGreatDoorC15
import Derived.StillTailTactics
/- kinref23.Mux makes the container that box.Mux makes, or tells the same error. Conditions: the chunks read, at most 20, their data not too long. -/
namespace Go.Proofs.YtjpbnboaonnfgaaGreatDoor
open Go.RowKit
set_option linter.unusedVariables false
set_option linter.unusedSimpArgs false

def KMuxP (w : World) (r : Except Err (List Int)) (e : Ending) (w' : World) : Prop :=
  Only [] w w' ∧ match r with
    | .ok b => ∃ v, e = .returned (.tuple #[v, .agg #[.int .i64 0, .slice none 0 0]]) ∧ Own .u8 5 w.heap.size w' v b
    | .error er => ∃ ev, e = .returned (.tuple #[.slice none 0 0, ev]) ∧ KErrAt w.heap.size w'.heap.size w' ev er.code er.path
theorem KMuxP.fail {w w' : World} {r : Except Err (List Int)} {k : Int} (hr : r = .error ⟨[], k⟩) (ho : Only [] w w') : KMuxP w r (.returned (.tuple #[.slice none 0 0, .agg #[.int .i64 k, .slice none 0 0]])) w' := by
  unfold KMuxP; rw [hr]; exact ⟨ho, _, rfl, _, rfl, Cells.nil _ _ _ _⟩
theorem badB_take {l : List Chunk} {k : Nat} (hk : k < l.length) (h : chunkB (l.getD k default) = false) : badB l = true := by
  unfold badB
  rw [List.any_eq_true]
  exact ⟨l.getD k default, by simp [hk], by show (!chunkB (l.getD k default)) = true; rw [h]; rfl⟩
theorem badB_none {l : List Chunk} (h : ∀ k, k < l.length → chunkB (l.getD k default) = true) : badB l = false := by
  unfold badB
  rw [← Bool.not_eq_true, List.any_eq_true]
  rintro ⟨x, hx, hb⟩
  obtain ⟨i, hi, rfl⟩ := List.getElem_of_mem hx
  have := h i hi
  simp [hi] at this
  simp [this] at hb

set_option maxRecDepth 100000 in
set_option maxHeartbeats 16000000 in
theorem kmux_bad {lo hi : Nat} (c : Cfg) (W H : Int) {v : Value} {l : List Chunk} {w : World} (h : ChunksAt lo hi w v l) (hbad : mayB c = false ∨ newB W H 0 = false) :
    Calls Tryz.prog 8 #[c.v, .int .i64 W, .int .i64 H, v] w (KMuxP w (muxR c W H l)) := by
  obtain ⟨a, cap, rfl, _⟩ := h.open
  have hmay := fun W' => kmay_any c W'
  have hr1 : mayB c = false → muxR c W H l = .error ⟨[], 11⟩ := fun hm => by unfold muxR; rw [if_pos hm]
  have hr2 : mayB c = true → newB W H 0 = false → muxR c W H l = .error ⟨[], 3⟩ := fun hm hn => by unfold muxR; rw [if_neg (by simp [hm]), if_pos hn]
  generalize hR : muxR c W H l = R at *
  clear hR h
  obtain ⟨a0, a1, a2, a3, a4, a5, a6, a7⟩ := c
  unfold Cfg.v at hmay ⊢
  simp only at hmay ⊢
  have HM := Lib.hid hmay
  cases hm : mayB ⟨a0, a1, a2, a3, a4, a5, a6, a7⟩ with
  | false =>
    have Hr := Lib.hid (hr1 hm)
    have Hm := Lib.hid hm
    clear hr1 hr2 hbad hmay hm
    go_enter Tryz.func8, Tryz.ntmps8
    go_wp2_with fail
    generalize hW : (w.alloc _).alloc _ = W2
    have hO2 : Only [] w W2 := by rw [← hW]; exact (Only.new _ _).q (Only.new _ _)
    have rE : W2.heap[w.heap.size + 1]? = some (.cells #[.int .i64 0, .slice none 0 0] 35 (0, 0)) := by rw [← hW]; exact heap_alloc_new' (by simp)
    clear hW
    go_at_call 31
    refine (HM.out _).mono ?_
    rintro e w1 ⟨rfl, hq1⟩
    rw [Hm.out]
    obtain ⟨m0, m1, f0, f1, _⟩ := row2 ((Only.new w1 (.cells #[.int .i64 11, .slice none 0 0] 35)).row (hq1.row rE))
    go_wp2_with fail
    go_at_call 32
    refine (fail_eq _ _).mono ?_
    rintro e w2 ⟨rfl, rfl⟩
    go_wp2_with fail
    refine bodyPost_ret (v := .tuple #[.slice none 0 0, .agg #[.int .i64 11, .slice none 0 0]]) (by simp [results, Tryz.results8, go_sem, m0, m1, World.cell?_setCell_other]) rfl (KMuxP.fail Hr.out (((hO2.q hq1).alloc _).set2 (by omega) _ _))
  | true =>
    have hn : newB W H 0 = false := hbad.elim (fun h => by rw [hm] at h; cases h) id
    have Hr := Lib.hid (hr2 hm hn)
    have Hm := Lib.hid hm
    have hs : sideB W = false ∨ (sideB W = true ∧ sideB H = false) := by
      cases hW : sideB W with
      | false => exact .inl rfl
      | true =>
        cases hH : sideB H with
        | false => exact .inr ⟨rfl, rfl⟩
        | true => simp [newB, hW, hH, sampleB] at hn
    clear hr1 hr2 hbad hmay hm hn
    rcases hs with hs | ⟨hs, hs2⟩
    · have Hs := Lib.hid hs
      clear hs
      go_enter Tryz.func8, Tryz.ntmps8
      go_wp2_with fail
      generalize hW : (w.alloc _).alloc _ = W2
      have hO2 : Only [] w W2 := by rw [← hW]; exact (Only.new _ _).q (Only.new _ _)
      have rE : W2.heap[w.heap.size + 1]? = some (.cells #[.int .i64 0, .slice none 0 0] 35 (0, 0)) := by rw [← hW]; exact heap_alloc_new' (by simp)
      clear hW
      go_at_call 31
      refine (HM.out _).mono ?_
      rintro e w1 ⟨rfl, hq1⟩
      rw [Hm.out]
      obtain ⟨m0, m1, f0, f1, _⟩ := row2 ((Only.new w1 (.cells #[.int .i64 3, .slice none 0 0] 35)).row (hq1.row rE))
      go_wp2_with fail
      go_at_call 33
      refine (kside_any _ _).mono ?_
      rintro e w' ⟨rfl, rfl⟩
      rw [Hs.out]
      go_wp2_with fail
      go_at_call 32
      refine (fail_eq _ _).mono ?_
      rintro e w2 ⟨rfl, rfl⟩
      go_wp2_with fail
      refine bodyPost_ret (v := .tuple #[.slice none 0 0, .agg #[.int .i64 3, .slice none 0 0]]) (by simp [results, Tryz.results8, go_sem, m0, m1, World.cell?_setCell_other]) rfl (KMuxP.fail Hr.out (((hO2.q hq1).alloc _).set2 (by omega) _ _))
    · have Hs := Lib.hid hs
      have Hs2 := Lib.hid hs2
      clear hs hs2
      go_enter Tryz.func8, Tryz.ntmps8
      go_wp2_with fail
      generalize hW : (w.alloc _).alloc _ = W2
      have hO2 : Only [] w W2 := by rw [← hW]; exact (Only.new _ _).q (Only.new _ _)
      have rE : W2.heap[w.heap.size + 1]? = some (.cells #[.int .i64 0, .slice none 0 0] 35 (0, 0)) := by rw [← hW]; exact heap_alloc_new' (by simp)
      clear hW
      go_at_call 31
      refine (HM.out _).mono ?_
      rintro e w1 ⟨rfl, hq1⟩
      rw [Hm.out]
      obtain ⟨m0, m1, f0, f1, _⟩ := row2 ((Only.new w1 (.cells #[.int .i64 3, .slice none 0 0] 35)).row (hq1.row rE))
      go_wp2_with fail
      go_at_call 33
      refine (kside_any _ _).mono ?_
      rintro e w' ⟨rfl, rfl⟩
      rw [Hs.out]
      go_wp2_with fail
      go_at_call 33
      refine (kside_any _ _).mono ?_
      rintro e w' ⟨rfl, rfl⟩
      rw [Hs2.out]
      go_wp2_with fail
      go_at_call 32
      refine (fail_eq _ _).mono ?_
      rintro e w2 ⟨rfl, rfl⟩
      go_wp2_with fail
      refine bodyPost_ret (v := .tuple #[.slice none 0 0, .agg #[.int .i64 3, .slice none 0 0]]) (by simp [results, Tryz.results8, go_sem, m0, m1, World.cell?_setCell_other]) rfl (KMuxP.fail Hr.out (((hO2.q hq1).alloc _).set2 (by omega) _ _))
end Go.Proofs.YtjpbnboaonnfgaaGreatDoor
/- kinref23.Mux where configuration and sides are valid. Conditions: the chunks read, at most 20, their data not too long. -/
namespace Go.Proofs.YtjpbnboaonnfgaaGreatDoor
open Go.RowKit
set_option linter.unusedVariables false
set_option linter.unusedSimpArgs false

theorem ents_succ {fl : List Int} {off : Nat} {l : List Chunk} {k : Nat} (h : k < l.length) : (muxP fl 0 off (l.take (k + 1))).2 = (muxP fl 0 off (l.take k)).2 ++ [⟨(l.getD k default).first, (l.getD k default).count, ((off + (muxP fl 0 off (l.take k)).1.length : Nat) : Int), (chunkBytes fl k (l.getD k default)).length⟩] := by
  have hk : (l.take k).length = k := by rw [List.length_take]; omega
  rw [chunk_take h, muxP_snoc, hk, Nat.zero_add]
theorem flat_len_take {l : List Chunk} {k : Nat} (h : k < l.length) : ((l.take (k + 1)).flatMap Chunk.coded).length = ((l.take k).flatMap Chunk.coded).length + (l.getD k default).coded.length := by
  rw [chunk_take h, List.flatMap_append, List.length_append]
  simp

/-- how many frames the first chunks have -/
def cntAt (l : List Chunk) (k : Nat) : Nat := ((l.take k).flatMap Chunk.coded).length
theorem cntAt_zero (l : List Chunk) : cntAt l 0 = 0 := by simp [cntAt]
theorem cntAt_succ {l : List Chunk} {k : Nat} (h : k < l.length) : cntAt l (k + 1) = cntAt l k + (l.getD k default).coded.length := flat_len_take h
theorem cntAt_first {l : List Chunk} (hc : ∀ k ∈ l, chunkB k = true) (h : runsOn 0 0 l = true) {k : Nat} (hk : k < l.length) : (l.getD k default).first = (cntAt l k : Nat) ∧ cntAt l k + (l.getD k default).coded.length ≤ (allSizes l).length := by
  have := runsOn_first hc h k hk
  unfold cntAt
  rw [allSizes_length]
  omega
theorem header_cfg (W H F np : Int) (c : Cfg) : [W / 8, H / 8, F, np] ++ cfgB c = headerB W H F np c := by simp [headerB, cfgB]

theorem fillsGo_err {rate room : Int} : ∀ (l : List Int) (i : Nat) (has : Int) {e : Err}, fillsGo rate room i has l = .error e → e.code = 14 ∧ e.path.length = 1
  | [], i, has, e, h => by simp [fillsGo] at h
  | n :: l, i, has, e, h => by
    rw [fillsGo] at h
    split at h
    · cases h; exact ⟨rfl, rfl⟩
    · split at h
      · cases h
      · rename_i e' he
        cases h
        exact fillsGo_err l _ _ he
theorem fills_err {c : Cfg} {l : List Int} {e : Err} (h1 : mayB c = true) (h2 : l.length ≤ 4096) (h3 : sizesB l = true) (h : fills c l = .error e) : e.code = 14 ∧ e.path.length = 1 := by
  have hv : vcheck c l = none := by unfold vcheck; rw [if_neg (by simp [h1]), if_neg (by omega), if_neg (by simp [h3])]
  simp only [fills, hv] at h
  exact fillsGo_err _ _ _ h

set_option maxRecDepth 100000 in
set_option maxHeartbeats 16000000 in
theorem kmux_good {lo hi : Nat} (c : Cfg) (W H : Int) {v : Value} {l : List Chunk} {w : World} (h : ChunksAt lo hi w v l) (hhi : hi ≤ w.heap.size) (hm : mayB c = true) (hn : newB W H 0 = true) (hl : l.length ≤ 20)
    (hd : ∀ k, k < l.length → ∀ i, i < (l.getD k default).coded.length → ((l.getD k default).coded.getD i default).data.length ≤ 1000000) :
    Calls Tryz.prog 8 #[c.v, .int .i64 W, .int .i64 H, v] w (KMuxP w (muxR c W H l)) := by
  suffices key : ∀ Q : Ending → World → Prop, Hid (∀ e w', KMuxP w (muxR c W H l) e w' → Q e w') → Calls Tryz.prog 8 #[c.v, .int .i64 W, .int .i64 H, v] w Q from key _ (Lib.hid fun _ _ h => h)
  intro Q HPost
  have HM2 := Lib.hid (show ∀ k, checkB l = some k → muxR c W H l = .error ⟨[], k⟩ from fun k hc => by unfold muxR; rw [if_neg (by simp [hm]), if_neg (by simp [hn]), hc])
  have HM3 := Lib.hid (show ∀ e, checkB l = none → fills c (allSizes l) = .error e → muxR c W H l = .error e from fun e hc hf => by unfold muxR; rw [if_neg (by simp [hm]), if_neg (by simp [hn]), hc]; simp only [hf])
  have HM4 := Lib.hid (show ∀ fl, checkB l = none → fills c (allSizes l) = .ok fl → muxR c W H l = .ok (muxBytes c W H l fl) from fun fl hc hf => by unfold muxR; rw [if_neg (by simp [hm]), if_neg (by simp [hn]), hc]; simp only [hf])
  have Hh := Lib.hid h
  obtain ⟨a, cap, rfl, _, _, hel⟩ := h.open
  have Hel := Lib.hid hel
  have Hd := Lib.hid hd
  have hlI : (l.length : Int) ≤ 20 := by omega
  have hs : sideB W = true ∧ sideB H = true := by
    simp only [newB, Bool.and_eq_true] at hn
    exact ⟨hn.1.1, hn.1.2⟩
  have HS1 := Lib.hid hs.1
  have HS2 := Lib.hid hs.2
  have hWH : (8 ≤ W ∧ W ≤ 32) ∧ (8 ≤ H ∧ H ≤ 32) := by
    have h1 := hs.1
    have h2 := hs.2
    simp only [sideB, decide_eq_true_eq] at h1 h2
    omega
  obtain ⟨⟨hW0, hW1⟩, hH0, hH1⟩ := hWH
  have hmay := fun W' => kmay_any c W'
  have hcfg := fun W' => kcfg_any c (w := W') hm
  have HFILL := Lib.hid (fun (w' : World) (lo hi : Nat) (v : Value) (h : Ints .i64 lo hi w' v (allSizes l)) (h1 : (allSizes l).length ≤ 4096) (h2 : sizesB (allSizes l) = true) => kfills_any c h hm h1 h2)
  have Hm := Lib.hid hm
  obtain ⟨a0, a1, a2, a3, a4, a5, a6, a7⟩ := c
  rw [hm] at hmay
  unfold Cfg.v at hmay hcfg HFILL ⊢
  simp only at hmay hcfg HFILL ⊢
  have HMAY := Lib.hid hmay
  have HCFG := Lib.hid hcfg
  clear h hel hd hs hmay hcfg hm hn
  go_enter Tryz.func8, Tryz.ntmps8
  go_wp2_with fail
  generalize hW : (w.alloc _).alloc _ = W2
  have hO2 : Only [] w W2 := by rw [← hW]; exact (Only.new _ _).q (Only.new _ _)
  have hz2 : w.heap.size + 2 ≤ W2.heap.size := by rw [← hW]; simp
  have rA : W2.heap[w.heap.size]? = some (.cells #[.int .i64 a0, .int .i64 a1, .int .i64 a2, .int .i64 a3, .int .i64 a4, .int .i64 a5, .int .i64 a6, .int .i64 a7] 23 (0, 0)) := by
    rw [← hW, Below.heap_alloc _ _ _ (by simp)]; exact heap_alloc_new _ _
  have rE : W2.heap[w.heap.size + 1]? = some (.cells #[.int .i64 0, .slice none 0 0] 35 (0, 0)) := by rw [← hW]; exact heap_alloc_new' (by simp)
  clear hW
  go_at_call 31
  refine (HMAY.out _).mono ?_
  rintro e w1 ⟨rfl, hq1⟩
  have HA1 := Lib.hid (hq1.row rA)
  have HE1 := Lib.hid (hq1.row rE)
  have HO1 := Lib.hid (hO2.q hq1)
  have hz1 : w.heap.size + 2 ≤ w1.heap.size := Nat.le_trans hz2 hq1.size
  clear rA rE hO2 hq1 hz2
  go_wp2_with fail
  go_at_call 33
  refine (kside_any _ _).mono ?_
  rintro e w' ⟨rfl, rfl⟩
  rw [HS1.out]
  go_wp2_with fail
  go_at_call 33
  refine (kside_any _ _).mono ?_
  rintro e w' ⟨rfl, rfl⟩
  rw [HS2.out]
  go_wp2_with fail
  go_loopw [11, 10] (fun i y wr => ∃ k : Nat, k ≤ l.length ∧ i = .int .i64 k ∧ Own .i64 3 w1.heap.size wr y (allSizes (l.take k)) ∧ Hid (∀ j, j < k → chunkB (l.getD j default) = true) ∧ From w1.heap.size y ∧ Only [] w1 wr) (fun i _ _ => l.length - (intOf i).toNat)
  case atStart => exact ⟨0, by omega, rfl, Own.nil _ _ _ _, Lib.hid (fun j hj => absurd hj (by omega)), From.nil _, Only.refl _ _⟩
  case round =>
    obtain ⟨k, hk, rfl, hown, HCK, hfrom, hq⟩ := hrel
    have hzr := hq.size
    by_cases hlt : k < l.length
    · obtain ⟨b, off, cv, rfl, hb1, hb2, hc0, hc1, hc2, hc3, hok, hcd⟩ := Hel.out k hlt
      have c0 := (HO1.out.q hq).cell hc0 (by simp)
      have c1 := (HO1.out.q hq).cell hc1 (by simp)
      have c2 := (HO1.out.q hq).cell hc2 (by simp)
      have c3 := (HO1.out.q hq).cell hc3 (by simp)
      obtain ⟨ca, ccap, rfl, _⟩ := hcd.open
      have hx : (0 : Int) ≤ (k : Int) := by omega
      have hx1 : (k : Int) < (l.length : Int) := by omega
      have HMy := Lib.hid (kchunk_any (hcd.quiet (HO1.out.q hq)) (Hd.out k hlt))
      cases hcb : chunkB (l.getD k default) with
      | false =>
        have Hr : Hid (muxR ⟨a0, a1, a2, a3, a4, a5, a6, a7⟩ W H l = .error ⟨[], 2⟩) := Lib.hid (HM2.out 2 (by unfold checkB; rw [if_pos (.inr (badB_take hlt hcb))]))
        have Hcb := Lib.hid hcb
        have HEr := Lib.hid (hq.row HE1.out)
        have HOr := Lib.hid (HO1.out.q hq)
        clear hcb hc0 hc1 hc2 hc3 hok hcd hown hq
        generalize l.getD k default = x at *
        obtain ⟨xn, xf, xc, xl⟩ := x
        simp only at c0 c1 c2 c3 HMy
        go_wp2_with fail
        go_at_call 34
        refine HMy.out.mono ?_
        rintro e w2 ⟨rfl, hq2⟩
        rw [Hcb.out]
        obtain ⟨m0, m1, f0, f1, _⟩ := row2 ((Only.new w2 (.cells #[.int .i64 2, .slice none 0 0] 35)).row (hq2.row HEr.out))
        go_wp2_with fail
        go_at_call 32
        refine (fail_eq _ _).mono ?_
        rintro e w3 ⟨rfl, rfl⟩
        go_wp2_with fail
        refine bodyPost_ret (v := .tuple #[.slice none 0 0, .agg #[.int .i64 2, .slice none 0 0]]) (by simp [results, Tryz.results8, go_sem, m0, m1, World.cell?_setCell_other]) rfl (HPost.out _ _ (KMuxP.fail Hr.out (((HOr.out.q hq2).alloc _).set2 (by omega) _ _)))
      | true =>
        have hgood := chunkB_parts hcb
        have hcl16 : (l.getD k default).coded.length ≤ 16 := by have := hgood.1; omega
        have HCK2 : Hid (∀ j, j < k + 1 → chunkB (l.getD j default) = true) := Lib.hid (fun j hj => by
          by_cases h : j < k
          · exact HCK.out j h
          · obtain rfl : j = k := by omega
            exact hcb)
        have HDk := Lib.hid (fun i (hi : i < (l.getD k default).coded.length) => (show ((l.getD k default).coded.getD i default).data.length ≤ 1000000000000000 by have := Hd.out k hlt i hi; omega))
        have Hs := Lib.hid (allSizes_take hlt)
        have hsl : (allSizes (l.take k)).length ≤ 16 * k := by
          clear c0 c1 c2 c3 hgood Hs HDk HMy hcl16
          have : ∀ j, j ≤ k → (allSizes (l.take j)).length ≤ 16 * j := by
            intro j
            induction j with
            | zero => intro _; simp [allSizes]
            | succ j ih =>
              intro hj
              have h1 := ih (by omega)
              have h2 := (chunkB_parts (HCK2.out j (by omega))).1
              rw [allSizes_take (by omega : j < l.length), List.length_append]
              have : (sizesOf (l.getD j default).coded).length = (l.getD j default).coded.length := by simp [sizesOf]
              omega
          exact this k (Nat.le_refl _)
        have Hcb := Lib.hid hcb
        have hcd' := hcd.quiet (HO1.out.q hq)
        clear hcb hc0 hc1 hc2 hc3 hok hcd hgood HCK
        have Hcl : Hid ((sizesOf (l.getD k default).coded).length ≤ 16) := Lib.hid (by simpa [sizesOf] using hcl16)
        generalize allSizes (l.take k) = S0 at *
        generalize l.getD k default = x at *
        obtain ⟨xn, xf, xc, xl⟩ := x
        simp only at c0 c1 c2 c3 HMy Hs hcd' hcl16 HDk Hcl
        have HSz := Lib.hid (fun (w2 : World) (hq2 : Only [] wr w2) => ksizes_any (hcd'.quiet hq2) (by omega) HDk.out)
        clear hcd'
        go_wp2_with fail
        go_at_call 34
        refine HMy.out.mono ?_
        rintro e w2 ⟨rfl, hq2⟩
        rw [Hcb.out]
        have c3 := hq2.cell c3 (by simp)
        go_wp2_with fail
        go_at_call 35
        refine (HSz.out w2 hq2).mono ?_
        rintro e w3 ⟨sv, rfl, hsv, hq3⟩
        have hq13 := hq.q (hq2.q hq3)
        have HBy : Hid ((S0.length + (sizesOf xl).length) * 8 ≤ 140737488355328) := Lib.hid (by have := Hcl.out; omega)
        have hbz := hq13.size
        go_wp2_with (first
          | (at_builtin; refine wpList_append_ints rfl (.tmp 47) (.tmp 53) 51 rfl EI (hown.quiet (hq2.q hq3)) rfl hsv.ints rfl HBy.out hbz (fun v4 w4 hown4 hacc4 => ?_); have H4 := Lib.hid hown4; have HA4 := Lib.hid hacc4; clear hown4 hacc4)
          | fail)
        go_roundw
        case rel => exact ⟨k + 1, by omega, by go_num, by rw [Hs.out]; exact H4.out, HCK2, HA4.out.from_ hfrom hbz, hq13.acc HA4.out hfrom⟩
        case measure => simp [intOf]; omega
    · obtain rfl : k = l.length := by omega
      have hx : ¬ (l.length : Int) < (l.length : Int) := by omega
      rw [List.take_length] at hown
      have hbad := badB_none HCK.out
      have HOr := Lib.hid (HO1.out.q hq)
      have HEr := Lib.hid (hq.row HE1.out)
      have HAr := Lib.hid (hq.row HA1.out)
      by_cases hz : l.length = 0
      · have hz' : l = [] := List.eq_nil_of_length_eq_zero hz
        have h0 : ((l.length : Nat) : Int) = 0 := by omega
        have Hr : Hid (muxR ⟨a0, a1, a2, a3, a4, a5, a6, a7⟩ W H l = .error ⟨[], 2⟩) := Lib.hid (HM2.out 2 (by simp [checkB, hz']))
        obtain ⟨m0, m1, f0, f1, _⟩ := row2 ((Only.new wr (.cells #[.int .i64 2, .slice none 0 0] 35)).row HEr.out)
        clear hz hz' hown hq hbad
        go_wp2_with fail
        go_at_call 32
        refine (fail_eq _ _).mono ?_
        rintro e w3 ⟨rfl, rfl⟩
        go_wp2_with fail
        refine bodyPost_ret (v := .tuple #[.slice none 0 0, .agg #[.int .i64 2, .slice none 0 0]]) (by simp [results, Tryz.results8, go_sem, m0, m1, World.cell?_setCell_other]) rfl (HPost.out _ _ (KMuxP.fail Hr.out ((HOr.out.alloc _).set2 (by omega) _ _)))
      · have hz0 : ((l.length : Int) == 0) = false := by rw [beq_eq_false_iff_ne]; omega
        have hne : l ≠ [] := by rintro rfl; exact hz rfl
        have hck : ∀ k ∈ l, chunkB k = true := fun k hk => by
          obtain ⟨i, hi, rfl⟩ := List.getElem_of_mem hk
          have := HCK.out i hi
          simpa [hi] using this
        have hcnt : ∀ i, i < l.length → 1 ≤ (l.getD i default).count ∧ (l.getD i default).count ≤ 16 := fun i hi => by have := (chunkB_parts (HCK.out i hi)).1; omega
        have hfr := fitGo_runs l 0 0 (by omega) (fun c hc => by have := (chunkB_parts (hck c hc)).1; omega)
        have HFit := Lib.hid (fit_any (Hh.out.quiet HOr.out) (by omega) hcnt)
        rw [hfr] at HFit
        have Hck := Lib.hid hck
        have Hown := Lib.hid hown
        clear hz hne hck hcnt hfr hown
        cases hro : runsOn 0 0 l with
        | false =>
          have Hr : Hid (muxR ⟨a0, a1, a2, a3, a4, a5, a6, a7⟩ W H l = .error ⟨[], 14⟩) := Lib.hid (HM2.out 14 (by
            unfold checkB
            rw [if_neg (by rintro (h | h); subst h; simp at hz0; rw [hbad] at h; cases h), hro]; rfl))
          obtain ⟨m0, m1, f0, f1, _⟩ := row2 ((Only.new wr (.cells #[.int .i64 14, .slice none 0 0] 35)).row HEr.out)
          have Hro := Lib.hid hro
          clear hro hq hbad
          go_wp2_with fail
          go_at_call 36
          refine HFit.out.mono ?_
          rintro e w' ⟨rfl, rfl⟩
          rw [Hro.out]
          go_wp2_with fail
          go_at_call 32
          refine (fail_eq _ _).mono ?_
          rintro e w3 ⟨rfl, rfl⟩
          go_wp2_with fail
          refine bodyPost_ret (v := .tuple #[.slice none 0 0, .agg #[.int .i64 14, .slice none 0 0]]) (by simp [results, Tryz.results8, go_sem, m0, m1, World.cell?_setCell_other]) rfl (HPost.out _ _ (KMuxP.fail Hr.out ((HOr.out.alloc _).set2 (by omega) _ _)))
        | true =>
          have hcn : checkB l = none := by
            unfold checkB
            rw [if_neg (by rintro (h | h); subst h; simp at hz0; rw [hbad] at h; cases h), hro]; rfl
          have h16 := runsOn_le Hck.out hro (by omega)
          have hsl : (allSizes l).length ≤ 4096 := by rw [allSizes_length]; omega
          have hsB : sizesB (allSizes l) = true := by
            rw [sizesB, List.all_eq_true]
            intro n hn
            rw [allSizes_eq, List.mem_map] at hn
            obtain ⟨x, hx', rfl⟩ := hn
            obtain ⟨q, hq', hxq⟩ := List.mem_flatMap.1 hx'
            have := (readB_none ((chunkB_parts (Hck.out q hq')).2.2 x hxq)).2.2
            show fromB (costOf x) 0 1073741824 = true
            unfold fromB costOf
            rw [Bool.and_eq_true, decide_eq_true_eq, decide_eq_true_eq]
            omega
          obtain ⟨⟨n0, n1, n2, n3⟩, n4, n5, n6, n7⟩ := cells8 (hq.row HA1.out)
          have HF := Lib.hid (HFILL.out wr _ _ _ Hown.out.ints hsl hsB)
          have Hcn := Lib.hid hcn
          have Hro := Lib.hid hro
          have H16 := Lib.hid h16
          have Hsl := Lib.hid hsl
          obtain ⟨ya, ycap, hyv, _⟩ := Hown.out.ints.open
          subst hyv
          clear hro hcn hbad h16 hq
          cases hfl : fills ⟨a0, a1, a2, a3, a4, a5, a6, a7⟩ (allSizes l) with
          | error er =>
            obtain ⟨her1, her2⟩ := fills_err Hm.out hsl hsB hfl
            have Hr : Hid (muxR ⟨a0, a1, a2, a3, a4, a5, a6, a7⟩ W H l = .error er) := Lib.hid (HM3.out er Hcn.out hfl)
            have Hfl := Lib.hid hfl
            obtain ⟨ep, ec⟩ := er
            simp only at her1 her2
            subst her1
            have Her2 := Lib.hid her2
            clear hfl hsl hsB her2
            go_wp2_with fail
            go_at_call 36
            refine HFit.out.mono ?_
            rintro e w' ⟨rfl, rfl⟩
            rw [Hro.out]
            go_wp2_with fail
            go_at_call 37
            refine HF.out.mono ?_
            rintro e w3 hP
            unfold KListOr at hP
            rw [Hfl.out] at hP
            obtain ⟨hq3, ev, rfl, sv, rfl, hsv⟩ := hP
            simp only at hsv ⊢
            obtain ⟨sa, scap, hsve⟩ : ∃ sa scap, sv = .slice sa ep.length scap := by obtain ⟨_, sa, scap, h, _⟩ := hsv; exact ⟨sa, scap, h⟩
            subst hsve
            rw [Her2.out] at hsv ⊢
            go_wp2_with fail
            go_at_call 38
            refine (ok_eq _ _ _).mono ?_
            rintro e w4 ⟨rfl, rfl⟩
            obtain ⟨m0, m1, f0, f1, _⟩ := row2 (((Only.new w3 (.cells #[.int .i64 14, .slice sa 1 scap] 35)).q (Only.new _ (.cells #[.int .i64 14, .slice sa 1 scap] 35))).row (hq3.row HEr.out))
            go_wp2_with fail
            go_region
            go_wp2_with fail
            refine bodyPost_ret (v := .tuple #[.slice none 0 0, .agg #[.int .i64 14, .slice sa 1 scap]]) (by simp [results, Tryz.results8, go_sem, m0, m1, World.cell?_setCell_other]) rfl (HPost.out _ _ ?_)
            have hO4 : Only [] w ((w3.alloc (.cells #[.int .i64 14, .slice sa 1 scap] 35)).alloc (.cells #[.int .i64 14, .slice sa 1 scap] 35)) := ((HOr.out.q hq3).alloc _).alloc _
            have hset : Only [w.heap.size + 1] ((w3.alloc (.cells #[.int .i64 14, .slice sa 1 scap] 35)).alloc (.cells #[.int .i64 14, .slice sa 1 scap] 35)) ((((w3.alloc (.cells #[.int .i64 14, .slice sa 1 scap] 35)).alloc (.cells #[.int .i64 14, .slice sa 1 scap] 35)).setCell ⟨w.heap.size + 1, 0, none⟩ (.int .i64 14)).setCell ⟨w.heap.size + 1, 1, none⟩ (.slice sa 1 scap)).drew := (((Only.refl _ _).setCell (by simp) _).setCell (by simp) _).drew
            have hzw := HOr.out.size
            unfold KMuxP
            rw [Hr.out]
            refine ⟨hO4.trans hset (by simp) (fun g hg hlt => by rw [List.mem_singleton] at hg; omega), _, rfl, _, rfl, ?_⟩
            have h4 := (hsv.only ((((Only.refl [] w3).alloc (.cells #[.int .i64 14, .slice sa 1 scap] 35)).alloc (.cells #[.int .i64 14, .slice sa 1 scap] 35))) (by simp)).only hset (fun g hg => by rw [List.mem_singleton] at hg; left; omega)
            rw [Her2.out]
            exact h4.mono (by omega) (by have := hset.size; simp at this ⊢; try omega)
          | ok fl =>
            obtain ⟨hfll, hflok⟩ := fills_flok Hm.out (fun n hn => by rw [allSizes_eq, List.mem_map] at hn; obtain ⟨x, _, rfl⟩ := hn; unfold costOf; omega) hfl
            have Hr : Hid (muxR ⟨a0, a1, a2, a3, a4, a5, a6, a7⟩ W H l = .ok (muxBytes ⟨a0, a1, a2, a3, a4, a5, a6, a7⟩ W H l fl)) := Lib.hid (HM4.out fl Hcn.out hfl)
            have Hfl := Lib.hid hfl
            have hlpos : 0 < l.length := by
              rcases Nat.eq_zero_or_pos l.length with h | h
              · rw [h] at hz0; simp at hz0
              · exact h
            have hflpos : 0 < fl.length := by rw [hfll, allSizes_length]; have := flat_le Hck.out; omega
            have hsl16 : (allSizes l).length ≤ 16 := by rw [allSizes_length]; have := H16.out; omega
            have hsl16I : ((allSizes l).length : Int) ≤ 16 := by omega
            have Hfll := Lib.hid hfll
            have Hflok := Lib.hid hflok
            have Hcnt := Lib.hid (fun (k : Nat) (hk : k < l.length) => cntAt_first Hck.out Hro.out hk)
            clear hfl hsl hsB hfll hflok
            go_wp2_with fail
            go_at_call 36
            refine HFit.out.mono ?_
            rintro e w' ⟨rfl, rfl⟩
            rw [Hro.out]
            go_wp2_with fail
            go_at_call 37
            refine HF.out.mono ?_
            rintro e w3 hP
            unfold KListOr at hP
            rw [Hfl.out] at hP
            obtain ⟨hq3, fv, rfl, hfv⟩ := hP
            obtain ⟨fb, fcap, hfve, hfb1, hfb2⟩ := hfv.form hflpos
            subst hfve
            simp only
            go_wp2_with fail
            go_at_call 38
            refine (ok_eq _ _ _).mono ?_
            rintro e w4 ⟨rfl, rfl⟩
            generalize hW5 : (w3.alloc _).alloc _ = W5
            have hO35 : Only [] w3 W5 := by rw [← hW5]; exact (Only.new _ _).q (Only.new _ _)
            have hzw5 : w3.heap.size ≤ W5.heap.size := hO35.size
            have HO5 := Lib.hid (HOr.out.q (hq3.q hO35))
            have HE5 := Lib.hid (hO35.row (hq3.row HEr.out))
            have rA5 := hO35.row (hq3.row HAr.out)
            have HF5 := Lib.hid (hfv.quiet hO35)
            have hfbl : fb < W5.heap.size := by omega
            have n0 := fun o => (cells8 ((Only.new W5 o).row rA5)).1.1
            have n1 := fun o => (cells8 ((Only.new W5 o).row rA5)).1.2.1
            have n2 := fun o => (cells8 ((Only.new W5 o).row rA5)).1.2.2.1
            have n3 := fun o => (cells8 ((Only.new W5 o).row rA5)).1.2.2.2
            have n4 := fun o => (cells8 ((Only.new W5 o).row rA5)).2.1
            have n5 := fun o => (cells8 ((Only.new W5 o).row rA5)).2.2.1
            have n6 := fun o => (cells8 ((Only.new W5 o).row rA5)).2.2.2.1
            have n7 := fun o => (cells8 ((Only.new W5 o).row rA5)).2.2.2.2
            have hown4 : Own .u8 5 W5.heap.size (W5.alloc (.cells #[.int .u8 (W / 8), .int .u8 (H / 8), .int .u8 (allSizes l).length, .int .u8 l.length] 5)) (.slice (some ⟨W5.heap.size, 0, none⟩) 4 4) [W / 8, H / 8, ((allSizes l).length : Int), (l.length : Int)] :=
              own_newG rfl (by simp [maxLen]) (by simp only [List.mem_cons, List.not_mem_nil, or_false, forall_eq_or_imp, forall_eq, InK]; omega) 4 rfl rfl
            have HOwn4 := Lib.hid hown4
            clear hW5 rA5 hfv hq3 hO35 hown4
            go_wp2_with fail
            clear n0 n1 n2 n3 n4 n5 n6 n7
            go_at_call 40
            refine (HCFG.out _).mono ?_
            rintro e w7 ⟨cv, rfl, hcv, hq7⟩
            have hz7 := hq7.size
            have hz7b : W5.heap.size ≤ w7.heap.size := by simp at hz7; omega
            have hcl : (cfgB ⟨a0, a1, a2, a3, a4, a5, a6, a7⟩).length = 18 := by simp [cfgB, be_length]
            have HBy : Hid (([W / 8, H / 8, ((allSizes l).length : Int), (l.length : Int)].length + (cfgB ⟨a0, a1, a2, a3, a4, a5, a6, a7⟩).length) * 1 ≤ 140737488355328) := Lib.hid (by rw [hcl]; simp)
            have hF4 : From W5.heap.size (.slice (some ⟨W5.heap.size, 0, none⟩) 4 4) := From.lit (Nat.le_refl _)
            have Hcl := Lib.hid hcl
            have Hhd := Lib.hid (header_cfg W H ((allSizes l).length : Int) (l.length : Int) ⟨a0, a1, a2, a3, a4, a5, a6, a7⟩)
            clear hcl hz7
            go_wp2_with (first
              | (at_builtin; refine wpList_append_ints rfl (.tmp 85) (.tmp 87) 27 rfl E8 (HOwn4.out.quiet hq7) rfl hcv.ints rfl HBy.out hz7b (fun v8 w8 hown8 hacc8 => ?_); have H8 := Lib.hid hown8; have HA8 := Lib.hid hacc8; clear hown8 hacc8)
              | fail)
            have hq58 : Only [] W5 w8 := ((Only.new _ _).q hq7).acc HA8.out hF4
            rw [Hhd.out] at H8
            obtain ⟨va8, vcap8, hv8, _⟩ := H8.out.ints.open
            subst hv8
            have hz8 := hq58.size
            go_at_call 39
            refine (kunit_any (base := W5.heap.size) 16 (Own.nil _ _ _ _) hz8 H8.out.ints (by omega) (by rw [headerB_length]; omega) (by simp)).mono ?_
            rintro e w9 ⟨hv, rfl, hown9, hacc9⟩
            rw [List.nil_append] at hown9
            have hq59 : Only [] W5 w9 := hq58.q (hacc9.from_nil rfl)
            have hF9 : From W5.heap.size hv := hacc9.from_ (From.nil _) hz8
            have hhl : (unitB 16 (headerB W H (allSizes l).length l.length ⟨a0, a1, a2, a3, a4, a5, a6, a7⟩)).length = 30 := by rw [unitB_length, headerB_length]
            have Hmb : Hid (muxBytes ⟨a0, a1, a2, a3, a4, a5, a6, a7⟩ W H l fl = (unitB 16 (headerB W H (allSizes l).length l.length ⟨a0, a1, a2, a3, a4, a5, a6, a7⟩) ++ (muxP fl 0 30 l).1 ++ unitB 18 (indexB (muxP fl 0 30 l).2)) ++ unitB 19 (tailB (unitB 16 (headerB W H (allSizes l).length l.length ⟨a0, a1, a2, a3, a4, a5, a6, a7⟩) ++ (muxP fl 0 30 l).1 ++ unitB 18 (indexB (muxP fl 0 30 l).2)) (unitB 16 (headerB W H (allSizes l).length l.length ⟨a0, a1, a2, a3, a4, a5, a6, a7⟩) ++ (muxP fl 0 30 l).1).length)) := Lib.hid (by
              unfold muxBytes; simp only [hhl])
            generalize unitB 16 (headerB W H (allSizes l).length l.length ⟨a0, a1, a2, a3, a4, a5, a6, a7⟩) = HD at *
            have Hhl := Lib.hid hhl
            have HPle := Lib.hid (fun k => muxP_le Hflok.out (l.take k) 0 30 (fun x hx => Hck.out x (List.mem_of_mem_take hx)))
            have H9 := Lib.hid hown9
            clear hhl HF HFILL HCFG HMAY HFit HOwn4 H8 HA8 Hhd Hcl hown9 hacc9 hq58 hq7 hcv hF4 HBy hz8
            go_wp2_with fail
            go_loopw [17, 14, 15, 16] (fun i y z kk wt => ∃ k : Nat, k ≤ l.length ∧ i = .int .i64 k ∧ kk = .int .i64 (cntAt l k : Nat) ∧ Own .u8 5 W5.heap.size wt y (HD ++ (muxP fl 0 30 (l.take k)).1) ∧ Own .u8 5 W5.heap.size wt z (indexB (muxP fl 0 30 (l.take k)).2) ∧
                Sep y z ∧ From W5.heap.size y ∧ From W5.heap.size z ∧ Only [] W5 wt) (fun i _ _ _ _ => l.length - (intOf i).toNat)
            case atStart => exact ⟨0, by omega, rfl, by rw [cntAt_zero]; rfl, by simpa [muxP] using H9.out, by simpa [muxP, indexB] using Own.nil _ _ _ _, (Sep.nil _).symm, hF9, From.nil _, hq59⟩
            case round =>
              clear hF9 hq59 H9
              obtain ⟨k, hk, rfl, rfl, hown, hidx, hsep, hfy, hfz, hqr⟩ := hrel
              have hzr := hqr.size
              by_cases hlt : k < l.length
              · obtain ⟨b, off, cv, rfl, hb1, hb2, hc0, hc1, hc2, hc3, hok, hcd⟩ := Hel.out k hlt
                have c1 := (HO5.out.q hqr).cell hc1 (by simp)
                have c2 := (HO5.out.q hqr).cell hc2 (by simp)
                have c2' : wr.cell? ⟨b, off + k * 4 + 1 + 1, none⟩ = some (.int .i64 (l.getD k default).count) := c2
                obtain ⟨ca, ccap, rfl, _, _, hcel⟩ := hcd.open
                have hgood := chunkB_parts (HCK.out k hlt)
                obtain ⟨hF1, hF2⟩ := Hcnt.out k hlt
                have hcs := cntAt_succ hlt
                have HBs := Lib.hid (bytes_succ (fl := fl) (off := 30) hlt)
                have HEs := Lib.hid (ents_succ (fl := fl) (off := 30) hlt)
                have hPl : (muxP fl 0 30 (l.take k)).1.length ≤ 30000000 := by have := HPle.out k; rw [List.length_take] at this; omega
                have hIl : (indexB (muxP fl 0 30 (l.take k)).2).length ≤ 200 := by rw [indexB_length, muxP_length, List.length_take]; omega
                have hIn : indexB ((muxP fl 0 30 (l.take k)).2 ++ [⟨(l.getD k default).first, (l.getD k default).count, ((30 + (muxP fl 0 30 (l.take k)).1.length : Nat) : Int), (chunkBytes fl k (l.getD k default)).length⟩]) = indexB (muxP fl 0 30 (l.take k)).2 ++ entryB ⟨(l.getD k default).first, (l.getD k default).count, ((30 + (muxP fl 0 30 (l.take k)).1.length : Nat) : Int), (chunkBytes fl k (l.getD k default)).length⟩ := by simp [indexB]
                have HIn := Lib.hid hIn
                have hrd := hgood.2.2
                have hx : (0 : Int) ≤ (k : Int) := by omega
                have hx1 : (k : Int) < (l.length : Int) := by omega
                have HC3 := Lib.hid hc3
                have c3 := (HO5.out.q hqr).cell hc3 (by simp)
                clear hc0 hc1 hc2 hc3 hok hIn
                generalize hcnq : cntAt l k = cn at *
                have Hcnq := Lib.hid hcnq
                generalize (muxP fl 0 30 (l.take k)).1 = P at *
                generalize (muxP fl 0 30 (l.take k)).2 = E at *
                generalize l.getD k default = x at *
                obtain ⟨xn, xf, xc, xl⟩ := x
                simp only at c1 c2 c2' c3 hcd hcel hgood hF1 hF2 hcs HBs HEs HIn hrd HC3
                subst hF1
                obtain ⟨⟨_, _, hxc1, hxc2, hxlc⟩, _, _⟩ := hgood
                subst hxlc
                have Hcs := Lib.hid hcs
                clear hcnq hcs
                generalize hidxq : indexB E = idx at *
                have Hidxq := Lib.hid hidxq
                clear hidxq
                obtain ⟨ya, ycap, hyv, _⟩ := hown.ints.open
                rw [List.length_append, Hhl.out] at hyv
                subst hyv
                have HYL := Lib.hid (show ∀ g, (Value.slice ya (30 + P.length) ycap).ownBlock = some g → g < wr.heap.size from fun g e => (hown.at g e).2)
                have HZL := Lib.hid (show ∀ g, u15.ownBlock = some g → g < wr.heap.size from fun g e => (hidx.at g e).2)
                have HOWN := Lib.hid hown
                have HIDX := Lib.hid hidx
                have HSEP := Lib.hid hsep
                have HFY := Lib.hid hfy
                have HFZ := Lib.hid hfz
                have HQR := Lib.hid hqr
                have HCel := Lib.hid hcel
                have Hrd := Lib.hid hrd
                have hcnI : (cn : Int) ≤ 16 := by omega
                have hxlI : (xl.length : Int) ≤ 16 := by omega
                have hkI : (k : Int) ≤ 20 := by omega
                clear hown hidx hsep hfy hfz hqr hcel hrd hcd
                go_wp2_with fail
                generalize hW6 : (wr.alloc _).alloc _ = W6
                have hq6 : Only [] wr W6 := by rw [← hW6]; exact (Only.new _ _).q (Only.new _ _)
                have rX6 : W6.heap[wr.heap.size]? = some (.cells #[.int .i64 cn, .int .i64 xl.length] 69 (0, 0)) := by
                  rw [← hW6, Below.heap_alloc _ _ _ (by simp)]; exact heap_alloc_new _ _
                have hsrc : Ints .u8 (wr.heap.size + 1) (wr.heap.size + 1 + 1) W6 (.slice (some ⟨wr.heap.size + 1, 0, none⟩) 3 3) [(k : Int), (cn : Int), (xl.length : Int)] := by
                  rw [← hW6]; exact ints_newG rfl (by simp [maxLen]) (by simp only [List.mem_cons, List.not_mem_nil, or_false, forall_eq_or_imp, forall_eq, InK]; omega) 3 rfl (by simp)
                clear hW6 c1 c2 c2' c3
                have hz6 := hq6.size
                have hX6 : wr.heap.size < W6.heap.size := (Array.getElem?_eq_some_iff.1 rX6).1
                go_at_call 39
                refine (kunit_any (base := W5.heap.size) 17 (HOWN.out.quiet hq6) (by omega) hsrc (by omega) (by simp) (by rw [List.length_append, Hhl.out]; omega)).mono ?_
                rintro e w7 ⟨v7, rfl, hown7, hacc7⟩
                have hyX : (Value.slice ya (30 + P.length) ycap).ownBlock ≠ some wr.heap.size := fun e => by have := HYL.out _ e; omega
                have hX7 : v7.ownBlock ≠ some wr.heap.size := hacc7.apart hyX hX6
                have rX7 := hacc7.only.rowAt rX6 (fun hm => hyX (by simpa using hm))
                have hidx7 := (HIDX.out.quiet hq6).acc hacc7 HSEP.out
                have hsep7 : Sep v7 u15 := hacc7.sep HSEP.out (fun g e => Nat.lt_of_lt_of_le (HZL.out g e) hz6)
                have hF7 : From W5.heap.size v7 := hacc7.from_ HFY.out (by omega)
                have hq57 : Only [] W5 w7 := (HQR.out.q hq6).acc hacc7 HFY.out
                have hU17 : (unitB 17 [(k : Int), (cn : Int), (xl.length : Int)]).length = 11 := by rw [unitB_length]; rfl
                have HU17 := Lib.hid hU17
                have HCB : Hid (chunkBytes fl k ⟨xn, cn, xl.length, xl⟩ = unitB 17 [(k : Int), (cn : Int), (xl.length : Int)] ++ muxF fl cn 0 xl) := Lib.hid (by
                  unfold chunkBytes
                  simp only [Int.toNat_natCast]
                  rw [show (k : Int) % 256 = k by omega, show (cn : Int) % 256 = cn by omega, show (xl.length : Int) % 256 = xl.length by omega])
                generalize unitB 17 [(k : Int), (cn : Int), (xl.length : Int)] = U17 at *
                generalize wr.heap.size = X at *
                have HF5c := Lib.hid (fun i (hi : i < fl.length) => HF5.out.cellS rfl hi)
                have HFZ0 := Lib.hid HFZ.out
                clear hU17 hyX rX6 hsrc hX6 hacc7 hq6 hz6 HOWN HIDX HSEP HFY HFZ HQR HYL HZL
                go_wp2_with fail
                go_loopw [20, 14, 16] (fun j y2 kk wi => ∃ f : Nat, f ≤ xl.length ∧ j = .int .i64 f ∧ kk = .int .i64 ((cn + f : Nat) : Int) ∧ Own .u8 5 W5.heap.size wi y2 (HD ++ P ++ U17 ++ muxF fl cn 0 (xl.take f)) ∧
                    wi.heap[X]? = some (.cells #[.int .i64 cn, .int .i64 xl.length] 69 (0, 0)) ∧ y2.ownBlock ≠ some X ∧ Own .u8 5 W5.heap.size wi u15 idx ∧ Sep y2 u15 ∧ From W5.heap.size y2 ∧ Only [] W5 wi) (fun j _ _ _ => xl.length - (intOf j).toNat)
                case atStart => exact ⟨0, by omega, rfl, rfl, by simpa [muxF] using hown7, rX7, hX7, hidx7, hsep7, hF7, hq57⟩
                case round =>
                  clear hown7 rX7 hX7 hidx7 hsep7 hF7 hq57
                  obtain ⟨f, hf, rfl, rfl, hownI, rXi, hXi, hidxI, hsepI, hFI, hqI⟩ := hrel
                  obtain ⟨x0, x1, _, _, hXl⟩ := row2 rXi
                  by_cases hff : f < xl.length
                  · obtain ⟨b', off', dv, rfl, _, _, hk1, hk2, hkk, hdd⟩ := HCel.out f hff
                    have c3 := (HO5.out.q hqI).cell HC3.out (by simp)
                    have k1 := (HO5.out.q hqI).cell hk1 (by simp)
                    have k2 := (HO5.out.q hqI).cell hk2 (by simp)
                    obtain ⟨da, dcap, rfl, _⟩ := hdd.open
                    have hdI := hdd.quiet (HO5.out.q hqI)
                    have hqr := readB_none (Hrd.out (xl.getD f default) (by simp [hff]))
                    have HFs := Lib.hid (coded_take hff)
                    have hcf : cn + f < fl.length := by rw [Hfll.out]; omega
                    have t0 := hqI.cell (HF5c.out (cn + f) hcf) (by simp)
                    have hzz := Hflok.out.at (cn + f)
                    have hwa0 : (0 : Int) ≤ (cn : Int) + (f : Int) := by omega
                    have hwa1 : (cn : Int) + (f : Int) < (fl.length : Int) := by omega
                    have hwa2 : ((cn : Int) + (f : Int)).toNat = cn + f := by omega
                    have hff0 : (0 : Int) ≤ (f : Int) := by omega
                    have hff1 : (f : Int) < (xl.length : Int) := by omega
                    have hx : (0 : Int) ≤ (k : Int) := by omega
                    have hx1 : (k : Int) < (l.length : Int) := by omega
                    have hcnt := muxF_le Hflok.out (first := cn) (xl.take f) 0 (fun c hc => (readB_none (Hrd.out c (List.mem_of_mem_take hc))).2.2)
                    have hlt2 : (xl.take f).length = f := by rw [List.length_take]; omega
                    rw [hlt2] at hcnt
                    have HLen : Hid ((HD ++ P ++ U17 ++ muxF fl cn 0 (xl.take f)).length ≤ 40000000) := Lib.hid (by simp only [List.length_append, Hhl.out, HU17.out]; omega)
                    have HMs : Hid (muxF fl cn 0 (xl.take (f + 1)) = muxF fl cn 0 (xl.take f) ++ (unitB (xl.getD f default).kind (xl.getD f default).data ++ List.replicate (fl.getD (cn + f) 0).toNat 0)) := Lib.hid (by
                      rw [HFs.out, muxF_snoc, hlt2, Nat.zero_add])
                    clear hk1 hk2 hkk hdd hlt2 hcnt HFs
                    generalize hzq : fl.getD (cn + f) 0 = zf at *
                    have Hzq := Lib.hid hzq
                    clear hzq
                    generalize xl.getD f default = q at *
                    obtain ⟨qk, qd⟩ := q
                    simp only at c3 k1 k2 hdI hqr HMs
                    obtain ⟨hqk1, hqk2, hqd⟩ := hqr
                    generalize hQLq : HD ++ P ++ U17 ++ muxF fl cn 0 (xl.take f) = QL at *
                    have HQLq := Lib.hid hQLq
                    clear hQLq
                    obtain ⟨y2a, y2cap, hy2v, _⟩ := hownI.ints.open
                    subst hy2v
                    have HOI := Lib.hid hownI
                    have HDI := Lib.hid hdI
                    have HQI := Lib.hid hqI
                    have HIDXI := Lib.hid hidxI
                    have HSEPI := Lib.hid hsepI
                    have HFI := Lib.hid hFI
                    have HRX := Lib.hid rXi
                    have HXI := Lib.hid hXi
                    have hzI := hqI.size
                    clear hownI hdI hqI hidxI hsepI hFI rXi hXi
                    go_wp2_with fail
                    go_still_tail 19, (by kernel_rfl)
                    go_wp2_with fail
                    go_at_call 39
                    refine (kunit_any (base := W5.heap.size) qk (HOI.out.quiet (Only.refl [] wr).drew) (by simp; omega) (HDI.out.quiet (Only.refl [] wr).drew) ⟨by omega, by omega⟩ (by omega) (by have := HLen.out; omega)).mono ?_
                    rintro e w8 ⟨v8, rfl, hown8, hacc8⟩
                    have t1 := hacc8.cell HFI.out t0 hfbl
                    have hz8 := hacc8.only.size
                    have hz8b : W5.heap.size ≤ w8.heap.size := by simp at hz8; omega
                    have HBy8 : Hid (((QL ++ unitB qk qd).length + zf.toNat) * 1 ≤ 140737488355328) := Lib.hid (by rw [List.length_append, unitB_length]; have := HLen.out; omega)
                    have hzf := hzz.1
                    have HO8 := Lib.hid hown8
                    have HA8 := Lib.hid hacc8
                    clear hown8 hacc8 t0 hz8
                    go_wp2_with (first
                      | (at_builtin; refine wpList_append_zeros rfl (.tmp 140) (.tmp 144) 27 3 rfl E8 Tryz.underlying3 HO8.out rfl rfl hzf HBy8.out hz8b ⟨by omega, by omega⟩ (fun v9 w9 hown9 hacc9 => ?_); have HO9 := Lib.hid hown9; have HA9 := Lib.hid hacc9; clear hown9 hacc9)
                      | fail)
                    go_roundw
                    case rel =>
                      have haccD : Acc (.slice y2a QL.length y2cap) wr v9 w9 := (Acc.quiet (Only.refl [] wr).drew).trans (HA8.out.trans HA9.out)
                      have hXlt : X < wr.heap.size := hXl
                      refine ⟨f + 1, by omega, by go_num, by push_cast; first | rfl | (congr 1; omega), ?_, haccD.only.rowAt HRX.out (fun hm => HXI.out (by simpa using hm)), haccD.apart HXI.out hXlt, HIDXI.out.acc haccD HSEPI.out, haccD.sep HSEPI.out (fun g e => (HIDXI.out.at g e).2), haccD.from_ HFI.out hzI, HQI.out.acc haccD HFI.out⟩
                      rw [HMs.out, ← List.append_assoc, ← List.append_assoc, HQLq.out]
                      exact HO9.out
                    case measure => simp [intOf]; omega
                  · obtain rfl : f = xl.length := by omega
                    have hxx : ¬ (xl.length : Int) < (xl.length : Int) := by omega
                    rw [List.take_length] at hownI
                    have hMl := muxF_le Hflok.out (first := cn) xl 0 (fun c hc => (readB_none (Hrd.out c hc)).2.2)
                    have hx : (0 : Int) ≤ (k : Int) := by omega
                    have hx1 : (k : Int) < (l.length : Int) := by omega
                    generalize muxF fl cn 0 xl = M at *
                    have hNl : (HD ++ P ++ U17 ++ M).length = 30 + P.length + 11 + M.length := by simp only [List.length_append, Hhl.out, HU17.out]
                    obtain ⟨N, hN⟩ : ∃ N : Nat, N = 30 + P.length + 11 + M.length := ⟨_, rfl⟩
                    have HN := Lib.hid hN
                    obtain ⟨y2a, y2cap, hy2v, _⟩ := hownI.ints.open
                    rw [hNl, ← hN] at hy2v
                    subst hy2v
                    have hNb : (N : Int) ≤ 40000000 := by omega
                    have hPb : (P.length : Int) ≤ 30000000 := by omega
                    have hzI := hqI.size
                    have HB1 : Hid ((idx.length + [(cn : Int), (xl.length : Int)].length) * 1 ≤ 140737488355328) := Lib.hid (by simp; omega)
                    have HB2 : Hid (((idx ++ [(cn : Int), (xl.length : Int)]).length + (be (30 + (P.length : Int)) 4).length) * 1 ≤ 140737488355328) := Lib.hid (by simp [be_length]; omega)
                    have HB3 : Hid (((idx ++ [(cn : Int), (xl.length : Int)] ++ be (30 + (P.length : Int)) 4).length + (be ((N : Int) - (30 + (P.length : Int))) 4).length) * 1 ≤ 140737488355328) := Lib.hid (by simp [be_length]; omega)
                    have HSrc := Lib.hid (ints_newG (k := .u8) (w := wr) (t := 5) (l := [(cn : Int), (xl.length : Int)]) (g := wr.heap.size) rfl (by simp [maxLen]) (by simp only [List.mem_cons, List.not_mem_nil, or_false, forall_eq_or_imp, forall_eq, InK]; omega) 2 rfl rfl)
                    have hzA : W5.heap.size ≤ (wr.alloc (.cells #[.int .u8 cn, .int .u8 xl.length] 5)).heap.size := by simp; omega
                    have HOI := Lib.hid hownI
                    have HQI := Lib.hid hqI
                    have HIDXI := Lib.hid hidxI
                    have HSEPI := Lib.hid hsepI
                    have HFI := Lib.hid hFI
                    clear hownI hqI hidxI hsepI hFI rXi hXi hMl hNl hN
                    go_wp2_with (first
                      | (at_builtin; refine wpList_append_ints rfl (.tmp 148) (.tmp 155) 27 rfl E8 (HIDXI.out.quiet (Only.new _ _)) rfl HSrc.out rfl HB1.out hzA (fun v9 w9 hown9 hacc9 => ?_); have HO9 := Lib.hid hown9; have HA9 := Lib.hid hacc9; clear hown9 hacc9)
                      | fail)
                    have hz9 := HA9.out.only.size
                    go_at_call 41
                    refine (number4_any _ _).mono ?_
                    rintro e w10 ⟨rfl, hn10, hq10⟩
                    have hz10 := hq10.size
                    have hz10b : W5.heap.size ≤ w10.heap.size := by omega
                    go_wp2_with (first
                      | (at_builtin; refine wpList_append_ints rfl (.tmp 157) (.tmp 159) 27 rfl E8 (HO9.out.quiet hq10) rfl hn10.ints rfl HB2.out hz10b (fun v11 w11 hown11 hacc11 => ?_); have HO11 := Lib.hid hown11; have HA11 := Lib.hid hacc11; clear hown11 hacc11)
                      | fail)
                    have hz11 := HA11.out.only.size
                    go_at_call 41
                    refine (number4_any _ _).mono ?_
                    rintro e w12 ⟨rfl, hn12, hq12⟩
                    have hz12 := hq12.size
                    have hz12b : W5.heap.size ≤ w12.heap.size := by omega
                    go_wp2_with (first
                      | (at_builtin; refine wpList_append_ints rfl (.tmp 161) (.tmp 166) 27 rfl E8 (HO11.out.quiet hq12) rfl hn12.ints rfl HB3.out hz12b (fun v13 w13 hown13 hacc13 => ?_); have HO13 := Lib.hid hown13; have HA13 := Lib.hid hacc13; clear hown13 hacc13)
                      | fail)
                    go_roundw
                    case rel =>
                      have hA : Acc u15 wr v13 w13 := (((((Acc.quiet (Only.new wr _)).trans HA9.out).then hq10).trans HA11.out).then hq12).trans HA13.out
                      refine ⟨k + 1, by omega, by go_num, by rw [Hcs.out]; push_cast; rfl, ?_, ?_, (hA.sep HSEPI.out.symm (fun g e => (HOI.out.at g e).2)).symm, HFI.out, hA.from_ HFZ0.out hzI, HQI.out.acc hA HFZ0.out⟩
                      · rw [HBs.out, HCB.out]
                        have := HOI.out.acc hA HSEPI.out.symm
                        simpa only [List.append_assoc] using this
                      · rw [HEs.out, HIn.out]
                        have hl2 : idx ++ entryB ⟨(cn : Int), (xl.length : Int), ((30 + P.length : Nat) : Int), (chunkBytes fl k ⟨xn, cn, xl.length, xl⟩).length⟩ = idx ++ [(cn : Int), (xl.length : Int)] ++ be (30 + (P.length : Int)) 4 ++ be ((N : Int) - (30 + (P.length : Int))) 4 := by
                          rw [HCB.out]
                          have e1 : (((U17 ++ M).length : Nat) : Int) = (N : Int) - (30 + (P.length : Int)) := by rw [List.length_append, HU17.out, HN.out]; omega
                          unfold entryB
                          simp only
                          rw [e1, show (cn : Int) % 256 = cn by omega, show (xl.length : Int) % 256 = xl.length by omega]
                          push_cast
                          simp only [List.append_assoc, List.cons_append, List.nil_append]
                        rw [hl2]
                        exact HO13.out
                    case measure => simp [intOf]; omega
              · obtain rfl : k = l.length := by omega
                have hx : ¬ (l.length : Int) < (l.length : Int) := by omega
                rw [List.take_length] at hown hidx
                have hPl := HPle.out l.length
                rw [List.take_length] at hPl
                have hEl : (muxP fl 0 30 l).2.length = l.length := muxP_length _ _ _
                have hix : (indexB (muxP fl 0 30 l).2).length ≤ 65536 := by rw [indexB_length, hEl]; omega
                have hpl : (HD ++ (muxP fl 0 30 l).1).length ≤ 90000000 := by rw [List.length_append, Hhl.out]; omega
                have HT := Lib.hid (ktail_any hown hzr hidx.ints hix hpl)
                obtain ⟨ya2, ycap2, hy2, _⟩ := hown.ints.open
                rw [List.length_append, Hhl.out] at hy2
                obtain ⟨za2, zcap2, hz2, _⟩ := hidx.ints.open
                subst hy2; subst hz2
                have HFY := Lib.hid hfy
                have HQR := Lib.hid hqr
                have HERr := Lib.hid (hqr.row HE5.out)
                clear hown hidx hsep hfy hfz hqr hPl hEl hix hpl
                go_wp2_with fail
                go_at_call 42
                refine HT.out.mono ?_
                rintro e w12 ⟨tv, rfl, ht, hta⟩
                have hq12 : Only [] W5 w12 := HQR.out.acc hta HFY.out
                have rE12 := hta.row HFY.out HERr.out (by have := (Array.getElem?_eq_some_iff.1 HE5.out).1; omega)
                obtain ⟨m0, m1, f0, f1, _⟩ := row2 rE12
                have hF12 := hta.from_ HFY.out hzr
                have hzw := HO5.out.size
                have hzE := (Array.getElem?_eq_some_iff.1 HE5.out).1
                have HT12 := Lib.hid ht
                have HQ12 := Lib.hid hq12
                have HF12 := Lib.hid hF12
                clear ht hta hq12 rE12 hF12
                go_wp2_with fail
                refine bodyPost_ret (v := .tuple #[tv, .agg #[.int .i64 0, .slice none 0 0]]) (by simp [results, Tryz.results8, go_sem, m0, m1, World.cell?_setCell_other]) rfl (HPost.out _ _ ?_)
                unfold KMuxP
                rw [Hr.out]
                have hset : Only [w.heap.size + 1] w12 ((w12.setCell ⟨w.heap.size + 1, 0, none⟩ (.int .i64 0)).setCell ⟨w.heap.size + 1, 1, none⟩ (.slice none 0 0)) := ((Only.refl _ _).setCell (by simp) _).setCell (by simp) _
                refine ⟨(HO5.out.q HQ12.out).set2 (by omega) _ _, _, rfl, ?_⟩
                rw [Hmb.out]
                refine (HT12.out.only hset (fun g hg e => ?_)).lower (by omega)
                rw [List.mem_singleton] at hg
                subst hg
                have := HF12.out _ e
                omega
end Go.Proofs.YtjpbnboaonnfgaaGreatDoor
