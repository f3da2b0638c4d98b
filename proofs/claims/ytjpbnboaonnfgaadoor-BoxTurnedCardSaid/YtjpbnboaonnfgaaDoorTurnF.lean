/- Joined texts: FrameC, TurnedW, TurnedC. Conditions: each part names its own. -/
import Derived.Test.YtjpbnboaonnfgaaDoorC14
import Derived.Test.YtjpbnboaonnfgaaDoorC1
import Derived.Deep.Slices
import Derived.Test.YtjpbnboaonnfgaaDoorLawF
import Derived.Laws.BitsAllLaws
import Derived.Test.YtjpbnboaonnfgaaDoorTie
import Derived.Test.YtjpbnboaonnfgaaDoorCards
import Derived.SevenTiedAt
/- How a configuration and chunks that came in open. Conditions: none. -/
namespace Go.Proofs.YtjpbnboaonnfgaaDoor
open Go.ChangeShapes Go.WideShapes Go.ChangeAt Go.RowKit Go.Deep
set_option linter.unusedVariables false
set_option linter.unusedSimpArgs false

theorem cells_int : Tryd.prog.cellsOf 3 = 1 := by kernel_rfl
theorem cells_bytes : Tryd.prog.cellsOf 27 = 1 := by kernel_rfl
theorem cells_codeds : Tryd.prog.cellsOf 52 = 1 := by kernel_rfl
theorem cells_coded : Tryd.prog.cellsOf 57 = 2 := by kernel_rfl
theorem cells_group : Tryd.prog.cellsOf 61 = 2 := by kernel_rfl
theorem cells_chunk : Tryd.prog.cellsOf 63 = 4 := by kernel_rfl
theorem cells_config : Tryd.prog.cellsOf 23 = 8 := by kernel_rfl
theorem i64_in {n : Int} (h : (Lit.int .i64 n).wf = true) : InK .i64 n := by
  have := bounds_i64 h
  exact ⟨by omega, by omega⟩

section
variable {H : Type} {enc : TypeId × Value → H}
theorem field_int {W : World} {spare : Nat → Bool} {held : Bool} {fuel : Nat} {cs : List Value} {y : Option (DataW H × List MemPlace)} (h : DataW.trod enc Tryd.prog W 0 spare held fuel 3 cs = y) (hy : y.isSome = true) : ∃ n, cs = [.int .i64 n] ∧ (Lit.int .i64 n).wf = true := by
  cases y with
  | none => cases hy
  | some x =>
    obtain ⟨n, h1, _, h3⟩ := DataW.trod_int Tryd.underlying3 h
    exact ⟨n, h1, h3⟩
theorem some_at {α : Type} {l : List α} {i n : Nat} (h : l.length = n) (hi : i < n) : l[i]?.isSome = true := by simp [h, hi]
/-- a slice of structs, row by row -/
theorem rows_in {W : World} {spare : Nat → Bool} {held : Bool} {fuel size : Nat} {t e : TypeId} {cs : List Value} {x : DataW H × List MemPlace} (ht : Tryd.prog.underlying t = some (.slice e)) (hc : Tryd.prog.cellsOf e = size) (hpos : 0 < size)
    (h : DataW.trod enc Tryd.prog W 0 spare held fuel t cs = some x) :
    ∃ (v : Value) (len n : Nat) (C : Nat → List Value), cs = [v] ∧ Rows size 0 W.heap.size W v len (fun i j => (C i).getD j undef) ∧ ∀ i, i < len → (C i).length = size ∧ ∃ y, DataW.trod enc Tryd.prog W 0 spare held n e (C i) = some y := by
  rcases open_slice ht h with ⟨rfl, _⟩ | ⟨a, len, cap, m, n, D, Pl, rfl, _, hl, hm, hmm, _, hi⟩
  · exact ⟨_, 0, 0, fun _ => [], rfl, Rows.nil _ _ _ _ _, fun i hi => absurd hi (by omega)⟩
  · have hlm : len ≤ m := by rw [hmm]; split <;> omega
    rw [hc] at hi
    have hch : ∀ i, ∃ c : List Value, i < len → W.cells? 0 (a.add (i * size)) size = some c ∧ ∃ y, DataW.trod enc Tryd.prog W 0 spare held n e c = some y := by
      intro i
      by_cases hlt : i < len
      · obtain ⟨c, h1, h2⟩ := hi i (by omega)
        exact ⟨c, fun _ => ⟨h1, _, h2⟩⟩
      · exact ⟨[], fun h => absurd h hlt⟩
    obtain ⟨C, hC⟩ := Classical.axiomOfChoice hch
    refine ⟨_, len, n, C, rfl, ⟨some a, cap, rfl, hl, hm, fun hp => ?_⟩, fun i hi => ?_⟩
    · obtain ⟨_, hl0, hat0⟩ := World.cells?_some (hC 0 hp).1
      have hcell0 := hat0 0 hpos
      have hv : (C 0)[0]? = some ((C 0)[0]'(by omega)) := List.getElem?_eq_getElem (by omega)
      rw [hv] at hcell0
      obtain ⟨b, off, spot⟩ := a
      have hspot : spot = none := by simpa [Addr.add] using World.cell?_spot hcell0
      subst hspot
      refine ⟨b, off, rfl, Nat.zero_le _, block_lt_of_cell (by simpa [Addr.add] using hcell0), fun i j hi hj => ?_⟩
      obtain ⟨_, hli, hati⟩ := World.cells?_some (hC i hi).1
      have := hati j hj
      have hv2 : (C i)[j]? = some ((C i).getD j undef) := by simp [show j < (C i).length by omega]
      rw [hv2] at this
      simpa [Addr.add_lit, Nat.add_assoc] using this
    · exact ⟨(World.cells?_some (hC i hi).1).2.1, (hC i hi).2⟩
theorem list_of {α : Type} [Inhabited α] {P : Nat → α → Prop} (n : Nat) (h : ∀ i, i < n → ∃ c, P i c) : ∃ l : List α, l.length = n ∧ ∀ i, i < n → P i (l.getD i default) := by
  have hch : ∀ i, ∃ c : α, i < n → P i c := by
    intro i
    by_cases hlt : i < n
    · obtain ⟨c, hc⟩ := h i hlt
      exact ⟨c, fun _ => hc⟩
    · exact ⟨default, fun h => absurd h hlt⟩
  obtain ⟨f, hf⟩ := Classical.axiomOfChoice hch
  refine ⟨(List.range n).map f, by simp, fun i hi => ?_⟩
  have : ((List.range n).map f).getD i default = f i := by simp [hi]
  rw [this]
  exact hf i hi
theorem codeds_in {W : World} {spare : Nat → Bool} {held : Bool} {fuel : Nat} {cs : List Value} {x : DataW H × List MemPlace} (h : DataW.trod enc Tryd.prog W 0 spare held fuel 52 cs = some x) : ∃ v l, cs = [v] ∧ CodedsAt 0 W.heap.size W v l := by
  obtain ⟨v, len, n, C, rfl, hR, hel⟩ := rows_in Tryd.underlying52 cells_coded (by omega) h
  obtain ⟨l, hl, hP⟩ := list_of (α := Coded) (P := fun i c => (C i).getD 0 undef = .int .i64 c.kind ∧ InK .i64 c.kind ∧ Ints .u8 0 W.heap.size W ((C i).getD 1 undef) c.data) len (fun i hi => by
    obtain ⟨hlen, y, hy⟩ := hel i hi
    obtain ⟨xs, m, _, _, _, hxl, hf⟩ := DataW.trod_struct Tryd.underlying57 hy
    have h0 : DataW.trod enc Tryd.prog W 0 spare held m 3 (((C i).drop 0).take (Tryd.prog.cellsOf 3)) = xs[0]? := hf 0 _ rfl
    have h1 : DataW.trod enc Tryd.prog W 0 spare held m 27 (((C i).drop 1).take (Tryd.prog.cellsOf 27)) = xs[1]? := hf 1 _ rfl
    rw [cells_int] at h0
    rw [cells_bytes] at h1
    obtain ⟨k, hk, hkw⟩ := field_int h0 (some_at hxl (by decide))
    match hC : C i, hlen with
    | [c0, c1], _ =>
      rw [hC] at hk h1
      simp at hk h1
      subst hk
      have h2 : xs[1]? = some (xs[1]'(by rw [hxl]; decide)) := List.getElem?_eq_getElem _
      rw [h2] at h1
      rcases open_slice Tryd.underlying27 h1 with ⟨hc1, _⟩ | ⟨a, ln, cap, _, _, _, _, hc1, _⟩
      · simp at hc1; subst hc1; exact ⟨⟨k, []⟩, rfl, i64_in hkw, Ints.nil _ _ _ _⟩
      · simp at hc1; subst hc1
        obtain ⟨d, hd⟩ := bytes_in (a := some a) (len := ln) (cap := cap) (by simpa [Value.cells] using h1)
        exact ⟨⟨k, d⟩, rfl, i64_in hkw, hd⟩)
  exact ⟨v, l, rfl, _, by rw [hl]; exact hR, fun i hi => hP i (by omega)⟩
/-- chunks that came in -/
theorem chunks_in {W : World} {spare : Nat → Bool} {held : Bool} {fuel : Nat} {cs : List Value} {x : DataW H × List MemPlace} (h : DataW.trod enc Tryd.prog W 0 spare held fuel 24 cs = some x) : ∃ v l, cs = [v] ∧ ChunksAt 0 W.heap.size W v l := by
  obtain ⟨v, len, n, C, rfl, hR, hel⟩ := rows_in Tryd.underlying24 cells_chunk (by omega) h
  obtain ⟨l, hl, hP⟩ := list_of (α := Chunk) (P := fun i c => (C i).getD 0 undef = .int .i64 c.number ∧ (C i).getD 1 undef = .int .i64 c.first ∧ (C i).getD 2 undef = .int .i64 c.count ∧ ChunkOk c ∧ CodedsAt 0 W.heap.size W ((C i).getD 3 undef) c.coded) len (fun i hi => by
    obtain ⟨hlen, y, hy⟩ := hel i hi
    obtain ⟨xs, m, _, _, _, hxl, hf⟩ := DataW.trod_struct Tryd.underlying63 hy
    have h0 : DataW.trod enc Tryd.prog W 0 spare held m 3 (((C i).drop 0).take (Tryd.prog.cellsOf 3)) = xs[0]? := hf 0 _ rfl
    have h1 : DataW.trod enc Tryd.prog W 0 spare held m 61 (((C i).drop 1).take (Tryd.prog.cellsOf 61)) = xs[1]? := hf 1 _ rfl
    have h2 : DataW.trod enc Tryd.prog W 0 spare held m 52 (((C i).drop 3).take (Tryd.prog.cellsOf 52)) = xs[2]? := hf 2 _ rfl
    rw [cells_int] at h0
    rw [cells_group] at h1
    rw [cells_codeds] at h2
    obtain ⟨k, hk, hkw⟩ := field_int h0 (some_at hxl (by decide))
    match hC : C i, hlen with
    | [c0, c1, c2, c3], _ =>
      rw [hC] at hk h1 h2
      simp at hk h1 h2
      subst hk
      have e1 : xs[1]? = some (xs[1]'(by rw [hxl]; decide)) := List.getElem?_eq_getElem _
      have e2 : xs[2]? = some (xs[2]'(by rw [hxl]; decide)) := List.getElem?_eq_getElem _
      rw [e1] at h1
      rw [e2] at h2
      obtain ⟨ys, m2, _, _, _, hyl, hg⟩ := DataW.trod_struct Tryd.underlying61 h1
      have g0 : DataW.trod enc Tryd.prog W 0 spare held m2 3 (([c1, c2].drop 0).take (Tryd.prog.cellsOf 3)) = ys[0]? := hg 0 _ rfl
      have g1 : DataW.trod enc Tryd.prog W 0 spare held m2 3 (([c1, c2].drop 1).take (Tryd.prog.cellsOf 3)) = ys[1]? := hg 1 _ rfl
      rw [cells_int] at g0 g1
      obtain ⟨f, hfe, hfw⟩ := field_int g0 (some_at hyl (by decide))
      obtain ⟨c, hce, hcw⟩ := field_int g1 (some_at hyl (by decide))
      simp at hfe hce
      subst hfe; subst hce
      obtain ⟨v3, l3, hv3, hl3⟩ := codeds_in h2
      simp at hv3
      subst hv3
      exact ⟨⟨k, f, c, l3⟩, rfl, rfl, rfl, ⟨i64_in hkw, i64_in hfw, i64_in hcw⟩, hl3⟩)
  exact ⟨v, l, rfl, _, by rw [hl]; exact hR, fun i hi => hP i (by omega)⟩
set_option maxRecDepth 100000 in
/-- a configuration that came in -/
theorem config_in {W : World} {base : Nat} {r : Reach} {spare : Nat → Bool} {held : Bool} {v : Value} {d : DataW H} {p : List MemPlace} (hv : Value.okWide Tryd.prog W r base 23 v) (h : DataW.Trod enc Tryd.prog W 0 spare held 23 v d p) : ∃ c : Cfg, v = c.v := by
  obtain ⟨cs, rfl, hsz⟩ := okWide_struct Tryd.underlying23 hv
  obtain ⟨fuel, hf⟩ := h
  obtain ⟨xs, m, _, _, hlen, hxl, hf⟩ := DataW.trod_struct Tryd.underlying23 hf
  have h0 : DataW.trod enc Tryd.prog W 0 spare held m 3 (((Value.agg cs).cells.toList.drop 0).take (Tryd.prog.cellsOf 3)) = xs[0]? := hf 0 _ rfl
  have h1 : DataW.trod enc Tryd.prog W 0 spare held m 3 (((Value.agg cs).cells.toList.drop 1).take (Tryd.prog.cellsOf 3)) = xs[1]? := hf 1 _ rfl
  have h2 : DataW.trod enc Tryd.prog W 0 spare held m 3 (((Value.agg cs).cells.toList.drop 2).take (Tryd.prog.cellsOf 3)) = xs[2]? := hf 2 _ rfl
  have h3 : DataW.trod enc Tryd.prog W 0 spare held m 3 (((Value.agg cs).cells.toList.drop 3).take (Tryd.prog.cellsOf 3)) = xs[3]? := hf 3 _ rfl
  have h4 : DataW.trod enc Tryd.prog W 0 spare held m 3 (((Value.agg cs).cells.toList.drop 4).take (Tryd.prog.cellsOf 3)) = xs[4]? := hf 4 _ rfl
  have h5 : DataW.trod enc Tryd.prog W 0 spare held m 3 (((Value.agg cs).cells.toList.drop 5).take (Tryd.prog.cellsOf 3)) = xs[5]? := hf 5 _ rfl
  have h6 : DataW.trod enc Tryd.prog W 0 spare held m 3 (((Value.agg cs).cells.toList.drop 6).take (Tryd.prog.cellsOf 3)) = xs[6]? := hf 6 _ rfl
  have h7 : DataW.trod enc Tryd.prog W 0 spare held m 3 (((Value.agg cs).cells.toList.drop 7).take (Tryd.prog.cellsOf 3)) = xs[7]? := hf 7 _ rfl
  rw [cells_int] at h0 h1 h2 h3 h4 h5 h6 h7
  obtain ⟨k0, e0, _⟩ := field_int h0 (some_at hxl (by decide))
  obtain ⟨k1, e1, _⟩ := field_int h1 (some_at hxl (by decide))
  obtain ⟨k2, e2, _⟩ := field_int h2 (some_at hxl (by decide))
  obtain ⟨k3, e3, _⟩ := field_int h3 (some_at hxl (by decide))
  obtain ⟨k4, e4, _⟩ := field_int h4 (some_at hxl (by decide))
  obtain ⟨k5, e5, _⟩ := field_int h5 (some_at hxl (by decide))
  obtain ⟨k6, e6, _⟩ := field_int h6 (some_at hxl (by decide))
  obtain ⟨k7, e7, _⟩ := field_int h7 (some_at hxl (by decide))
  rw [cells_config] at hlen
  obtain ⟨cl⟩ := cs
  have hcells : (Value.agg ⟨cl⟩).cells.toList = cl := rfl
  rw [hcells] at hlen e0 e1 e2 e3 e4 e5 e6 e7
  match cl, hlen with
  | [c0, c1, c2, c3, c4, c5, c6, c7], _ =>
    simp at e0 e1 e2 e3 e4 e5 e6 e7
    subst e0; subst e1; subst e2; subst e3; subst e4; subst e5; subst e6; subst e7
    exact ⟨⟨k0, k1, k2, k3, k4, k5, k6, k7⟩, rfl⟩
end
end Go.Proofs.YtjpbnboaonnfgaaDoor
/- BoxTurned answers true. Conditions: the chunks read; the number and the byte fit; the variable errors.errorType is laid. -/
namespace Go.Proofs.YtjpbnboaonnfgaaDoor
open Go.RowKit
set_option linter.unusedVariables false
set_option linter.unusedSimpArgs false

theorem Own.cap {k : IntKind} {e : TypeId} {base : Nat} {w : World} {g n cap : Nat} {l : List Int} (h : Own k e base w (.slice (some ⟨g, 0, none⟩) n cap) l) : l.length ≤ cap ∧ cap ≤ maxLen := by
  rcases h.1.2 with ⟨h0, _⟩ | ⟨g', cap', cur, he, _, _, hn, hm, _⟩
  · cases h0
  · cases he; exact ⟨hn, hm⟩
theorem Own.frozen {k : IntKind} {e : TypeId} {base : Nat} {w : World} {g n cap : Nat} {l : List Int} (h : Own k e base w (.slice (some ⟨g, 0, none⟩) n cap) l) (j : Nat) : w.frozen? ⟨g, j, none⟩ = false := by
  rcases h.1.2 with ⟨h0, _⟩ | ⟨g', cap', cur, he, hb, hg, _⟩
  · cases h0
  · cases he
    exact frozen_of_row w g j _ _ hg
theorem Own.setAt {k : IntKind} {e : TypeId} {base : Nat} {w : World} {g n cap : Nat} {l : List Int} {i : Nat} {x : Int} (h : Own k e base w (.slice (some ⟨g, 0, none⟩) n cap) l) (hx : InK k x) :
    Own k e base (w.setCell ⟨g, i, none⟩ (.int k x)) (.slice (some ⟨g, 0, none⟩) n cap) (l.set i x) := by
  have hr := h.2
  rcases h.1.2 with ⟨h0, _⟩ | ⟨g', cap', cur, he, hb, hg, hn, hm, hcs, ht⟩
  · cases h0
  · cases he
    refine ⟨⟨by simp, .inr ⟨g, cap, _, by rw [List.length_set], hb, heap_setCell_same w g i _ _ (.int k x) hg, by rw [List.length_set]; exact hn, hm, by simpa using hcs, ?_⟩⟩, fun y hy => ?_⟩
    · rw [List.length_set, List.map_set, ← ht, Array.toList_setIfInBounds, List.take_set]
    · rcases List.mem_or_eq_of_mem_set hy with hy | rfl
      · exact hr y hy
      · exact hx
theorem own_take {e : TypeId} {base g cap : Nat} {w : World} {l : List Int} (h : Own .u8 e base w (.slice (some ⟨g, 0, none⟩) l.length cap) l) {i : Nat} (hi : i ≤ l.length) : Ints .u8 base w.heap.size w (.slice (some ⟨g, 0, none⟩) i cap) (l.take i) := by
  have := h.ints.sub (Nat.zero_le i) hi cap (Nat.le_refl _) (by have := h.cap.1; omega)
  simpa using this
theorem xor_turn {b x : Int} (hb : InK .u8 b) (hx : InK .u8 x) : ∃ y, bits .xor .u8 b x = y ∧ InK .u8 y ∧ (x = 0 → y = b) ∧ (x ≠ 0 → b ≠ y) := by
  unfold InK at hb hx
  refine ⟨_, u8_xor b x hb.1 (by omega) hx.1 (by omega), ?_, ?_, ?_⟩
  · have := Nat.xor_lt_two_pow (x := b.toNat) (y := x.toNat) (n := 8) (by omega) (by omega)
    exact ⟨by omega, by omega⟩
  · rintro rfl
    simp; omega
  · intro h0 h
    have h1 : b.toNat ^^^ 0 = b.toNat ^^^ x.toNat := by rw [Nat.xor_zero]; omega
    have := xor_cancel_left h1
    omega
theorem set_same {l : List Int} {i : Nat} {b : Int} (h : l.getD i 0 = b) (hi : i < l.length) : l.set i b = l := by
  subst h
  have : l.getD i 0 = l[i] := by simp [hi]
  rw [this, List.set_getElem_self]

set_option maxRecDepth 100000 in
set_option maxHeartbeats 16000000 in
theorem turnedl_any {lo hi : Nat} (c : Cfg) (W H at_ x : Int) (hat : InK .i64 at_) (hxb : InK .u8 x) {v : Value} {l : List Chunk} {w : World} (h : ChunksAt lo hi w v l) (hhi : hi ≤ w.heap.size) (hE : ErrT w) :
    Calls Tryd.prog 3 #[c.v, .int .i64 W, .int .i64 H, v, .int .i64 at_, .int .u8 x] w fun e w' => e = .returned (.bool true) ∧ Only [] w w' := by
  have hbyt := h.bytes
  obtain ⟨va, vcap, rfl, hvc, hvm, _⟩ := h.open
  have Hh := Lib.hid h
  have HE := Lib.hid hE
  have HFEW := Lib.hid (fun w' (o : Only [] w w') => few_any c (h.quiet o))
  have HMUX := Lib.hid (fun w' (o : Only [] w w') (hl : l.length ≤ 1000000) => mux_any c W H (h.quiet o) (Nat.le_trans hhi o.size) hl)
  have hnl : (l.length : Int) ≤ 9223372036854775807 := by unfold maxLen at hvm; omega
  have HBYT := Lib.hid hbyt
  have hM := fun b (hm : muxR c W H l = .ok b) (hb : ∀ x ∈ b, InK .u8 x) => made_of hbyt hm hb
  have HMade := Lib.hid hM
  obtain ⟨a0, a1, a2, a3, a4, a5, a6, a7⟩ := c
  simp only at HFEW
  have HO := Lib.hid (Only.new w (.cells #[.int .i64 a0, .int .i64 a1, .int .i64 a2, .int .i64 a3, .int .i64 a4, .int .i64 a5, .int .i64 a6, .int .i64 a7] 23))
  clear h hE hM hbyt hvm hvc
  unfold Cfg.v at HFEW HMUX ⊢
  cases hfew : fewsB a5 l with
  | false =>
    rw [hfew] at HFEW
    clear hfew
    go_enter Tryd.func3, Tryd.ntmps3
    go_wp2_with (first
      | (have t := HF2; go_at_call 7; refine (first_any (HE.out.quiet HF2.out)).mono ?_; rintro e w3 ⟨rfl, hq3⟩; have HF3 := Lib.hid hq3; clear t hq3)
      | (have t := HF1; go_at_call 8; refine (HFEW.out _ HF1.out).mono ?_; rintro e w2 ⟨rfl, hq2⟩; have HF2 := Lib.hid (HF1.out.q hq2); clear t hq2)
      | (go_at_call 7; refine (first_any (HE.out.quiet HO.out)).mono ?_; rintro e w1 ⟨rfl, hq1⟩; have HF1 := Lib.hid (HO.out.q hq1); have rC := hq1.rowAt (heap_alloc_new w _) (by simp); obtain ⟨⟨m0, m1, m2, m3⟩, m4, m5, m6, m7⟩ := cells8 rC; clear hq1 rC)
      | fail)
    go_ret
    exact ⟨rfl, HF2.out.q HF3.out⟩
  | true =>
    rw [hfew] at HFEW
    have h20 := few_20 hfew
    clear hfew
    cases hmx : muxR ⟨a0, a1, a2, a3, a4, a5, a6, a7⟩ W H l with
    | error er =>
      have Hmx := Lib.hid hmx
      clear hmx HMade
      go_enter Tryd.func3, Tryd.ntmps3
      go_wp2_with (first
        | (have t := HF3; go_at_call 7; refine (first_any (HE.out.quiet HF3.out)).mono ?_; rintro e w4 ⟨rfl, hq4⟩; have HF4 := Lib.hid (HF3.out.q hq4); clear t hq4)
        | (have t := HF2; go_at_call 9; refine (HMUX.out _ HF2.out (by omega)).mono ?_; rintro e w3 hP; unfold MuxP at hP; rw [Hmx.out] at hP; obtain ⟨hq3, ev, rfl, hev⟩ := hP; obtain ⟨et, eu, rfl⟩ := id hev.held; have HF3 := Lib.hid (HF2.out.q hq3); clear t hq3 hev)
        | (have t := HF1; go_at_call 8; refine (HFEW.out _ HF1.out).mono ?_; rintro e w2 ⟨rfl, hq2⟩; have HF2 := Lib.hid (HF1.out.q hq2); have rC := hq2.rowAt HC1.out (by simp); obtain ⟨⟨m0', m1', m2', m3'⟩, m4', m5', m6', m7'⟩ := cells8 rC; clear t hq2 rC)
        | (go_at_call 7; refine (first_any (HE.out.quiet HO.out)).mono ?_; rintro e w1 ⟨rfl, hq1⟩; have HF1 := Lib.hid (HO.out.q hq1); have rC := hq1.rowAt (heap_alloc_new w _) (by simp); obtain ⟨⟨m0, m1, m2, m3⟩, m4, m5, m6, m7⟩ := cells8 rC; have HC1 := Lib.hid rC; clear hq1 rC)
        | fail)
      go_ret
      exact ⟨rfl, HF4.out⟩
    | ok b =>
      have Hmx := Lib.hid hmx
      have hbl : 54 ≤ b.length := by
        obtain ⟨fl0, hb0, _⟩ := openR_mux HBYT.out hmx
        rw [hb0, muxBytes_length]; omega
      have hbz : ((b.length : Int) == 0) = false := by rw [beq_eq_false_iff_ne]; omega
      have hbz2 : ¬ (b.length : Int) = 0 := by omega
      have hbz3 : ¬ b.length = 0 := by omega
      clear hmx
      by_cases hneg : at_ < 0
      · have hwA : IntKind.i64.wrap (at_ + 1) = at_ + 1 := by rw [IntKind.wrap_i64]; have := hat; unfold InK at this; omega
        have hwB : IntKind.i64.wrap (-(at_ + 1)) = -(at_ + 1) := by rw [IntKind.wrap_i64]; have := hat; unfold InK at this; omega
        obtain ⟨i, hi1, hi2, hi3⟩ : ∃ i : Nat, (-(at_ + 1)).tmod (b.length : Int) = i ∧ (-(at_ + 1)) % (b.length : Int) = i ∧ i < b.length := by
          have h0 : 0 ≤ (-(at_ + 1)) := by have := hat; unfold InK at this; omega
          have h1 := Int.emod_nonneg (-(at_ + 1)) hbz2
          have h2 := Int.emod_lt_of_pos (-(at_ + 1)) (show (0 : Int) < b.length by omega)
          exact ⟨((-(at_ + 1)) % (b.length : Int)).toNat, by rw [Int.tmod_eq_emod_of_nonneg h0]; omega, by omega, by omega⟩
        by_cases hx0 : x = 0
        · have hx0b : (x == 0) = true := by simp [hx0]
          have Hx0 := Lib.hid hx0
          clear hx0
          go_enter Tryd.func3, Tryd.ntmps3
          go_wp2_with fail
          go_at_call 7
          refine (first_any (HE.out.quiet HO.out)).mono ?_
          rintro e w1 ⟨rfl, hq1⟩
          have HF1 := Lib.hid (HO.out.q hq1)
          have rC := hq1.rowAt (heap_alloc_new w _) (by simp)
          obtain ⟨⟨m0, m1, m2, m3⟩, m4, m5, m6, m7⟩ := cells8 rC
          have HC1 := Lib.hid rC
          clear hq1 rC
          go_wp2_with fail
          go_at_call 8
          refine (HFEW.out _ HF1.out).mono ?_
          rintro e w2 ⟨rfl, hq2⟩
          have HF2 := Lib.hid (HF1.out.q hq2)
          have rC := hq2.rowAt HC1.out (by simp)
          obtain ⟨⟨m0', m1', m2', m3'⟩, m4', m5', m6', m7'⟩ := cells8 rC
          have HC2 := Lib.hid rC
          clear hq2 rC
          go_wp2_with fail
          go_at_call 9
          refine (HMUX.out _ HF2.out (by omega)).mono ?_
          rintro e w3 hP
          unfold MuxP at hP
          rw [Hmx.out] at hP
          obtain ⟨hq3, bv, rfl, hown⟩ := hP
          obtain ⟨fl, hmd⟩ := HMade.out b Hmx.out hown.2
          have HMd := Lib.hid hmd
          obtain ⟨bb, bcap, hbv, hb1, hb2⟩ := hown.form (by rw [hmd.blen]; omega)
          subst hbv
          have HOB := Lib.hid hown
          have hbcap : b.length ≤ bcap := hown.cap.1
          obtain ⟨er1, hcut⟩ := openR_cutoff hmd.byt hmd.opens hi3
          obtain ⟨er2, hmore⟩ := (openR_shape hmd.byt hmd.opens).2 [x] (by simp)
          have HCUT := Lib.hid hcut
          have HMORE := Lib.hid hmore
          have HBV := Lib.hid hown.ints
          have HF3 := Lib.hid (HF2.out.q hq3)
          have hbm : b.length ≤ 24000000 := hmd.bmax
          clear hq3 hown hmd hcut hmore m0 m1 m2 m3 m4 m5 m6 m7 m0' m1' m2' m3' m4' m5' m6' m7'
          go_wp2_with fail
          go_at_call 10
          refine (Open_any (own_take HOB.out (Nat.le_of_lt hi3)) (Nat.le_refl _) (by rw [List.length_take]; omega)).mono ?_
          rintro e w4 hP
          unfold OpensP at hP
          rw [HCUT.out] at hP
          obtain ⟨hq4, ev, rfl, hev⟩ := hP
          obtain ⟨et4, eu4, rfl⟩ := id hev.held
          unfold infoV cfg0
          simp only
          have HF4 := Lib.hid (hq4.q (Only.new _ (.cells #[.int .i64 0, .int .i64 0, .int .i64 0, .int .i64 0, .int .i64 0, .int .i64 0, .int .i64 0, .int .i64 0, .int .i64 0, .int .i64 0, .int .i64 0, .slice none 0 0] 34)))
          clear hq4 hev
          go_wp2_with fail
          go_at_call 11
          refine (copyb_any (HBV.out.quiet HF4.out) (by omega)).mono ?_
          rintro e w5 ⟨v5, rfl, hown5, hq5⟩
          have HO5 := Lib.hid hown5
          have HF5 := Lib.hid hq5
          have HFR5 : Hid (From (w4.alloc (.cells #[.int .i64 0, .int .i64 0, .int .i64 0, .int .i64 0, .int .i64 0, .int .i64 0, .int .i64 0, .int .i64 0, .int .i64 0, .int .i64 0, .int .i64 0, .slice none 0 0] 34)).heap.size v5) := Lib.hid (fun g hg => (hown5.at g hg).1)
          clear hown5 hq5
          go_wp2_with (first | (at_builtin; refine wpList_append_ints rfl (.tmp 67) (.tmp 69) _ rfl E8 (HO5.out.quiet (Only.new _ _)) rfl (ints_newG (l := [x]) rfl (by simp [maxLen]) (by simpa using hxb) 1 rfl (by simp)) rfl (by simp only [List.length_cons, List.length_nil]; omega) (by have := HF5.out.size; simp at this ⊢; omega) (fun v6 w6 hown6 acc6 => ?_)) | fail)
          have HF6 := Lib.hid (Only.acc (HF5.out.q (Only.new _ _)) acc6 HFR5.out)
          obtain ⟨ga, gcap, hgv, _⟩ := hown6.ints.open
          have HO6 := Lib.hid hown6
          clear hown6 acc6
          go_wp2_with fail
          go_at_call 10
          refine (Open_any HO6.out.ints (Nat.le_refl _) (by simp only [List.length_append, List.length_cons, List.length_nil]; omega)).mono ?_
          rintro e w7 hP
          unfold OpensP at hP
          rw [HMORE.out] at hP
          obtain ⟨hq7, ev7, rfl, hev7⟩ := hP
          obtain ⟨et7, eu7, rfl⟩ := id hev7.held
          unfold infoV cfg0
          simp only
          have HF7 := Lib.hid (HF6.out.q hq7)
          clear hq7 hev7
          go_wp2_with fail
          go_at_call 11
          refine (copyb_any (HBV.out.quiet (HF4.out.q (HF7.out.q (Only.new _ _)))) (by omega)).mono ?_
          rintro e w8 ⟨dv, rfl, hown8, hq8⟩
          have hq78 := Only.new w7 (.cells #[.int .i64 0, .int .i64 0, .int .i64 0, .int .i64 0, .int .i64 0, .int .i64 0, .int .i64 0, .int .i64 0, .int .i64 0, .int .i64 0, .int .i64 0, .slice none 0 0] 34)
          obtain ⟨db, dcap, hdv, hdb1, hdb2⟩ := hown8.form (by omega)
          subst hdv
          obtain ⟨bi, hbi⟩ : ∃ bi, b.getD i 0 = bi := ⟨_, rfl⟩
          have hcell := hown8.cell hi3
          rw [hbi] at hcell
          have hfr := hown8.frozen i
          have hbr : InK .u8 bi := (by rw [← hbi]; exact HMd.out.byt _ (by simp [hi3]))
          obtain ⟨y, hxor, hyk, hy0, hy1⟩ := xor_turn hbr hxb
          have hset := hown8.setAt (i := i) hyk
          have HSET := Lib.hid hset
          have hs8 : Only [db] w8 (w8.setCell ⟨db, i, none⟩ (.int .u8 y)) := (Only.refl _ _).setCell (by simp) _
          have HT3 : Hid (openR (b.set i y) = .ok ⟨⟨W, H, (allSizes l).length, ⟨a0, a1, a2, a3, a4, a5, a6, a7⟩, l.length⟩, (muxP fl 0 30 l).2, l.flatMap Chunk.coded, fl⟩) := Lib.hid (by rw [hy0 Hx0.out, set_same hbi hi3]; exact HMd.out.opens)
          have hq38 := HF3.out.q (HF4.out.q (HF7.out.q hq78))
          have hHF8 : Only [] w (w8.setCell ⟨db, i, none⟩ (.int .u8 y)) := (hq38.q hq8).trans hs8 (by simp) (fun g hg hlt => by rw [List.mem_singleton] at hg; subst hg; have := hq38.size; omega)
          have HF8 := Lib.hid hHF8
          clear hown8 hq8 hset hs8 hHF8 hbi hyk hy0 hy1
          go_wp2_with fail
          go_at_call 10
          refine (Open_any (HSET.out.ints) (Nat.le_refl _) (by rw [List.length_set]; omega)).mono ?_
          rintro e w9 hP
          unfold OpensP at hP
          rw [HT3.out] at hP
          obtain ⟨hq9, pv9, rfl, hoe9⟩ := hP
          obtain ⟨pa9, pcap9, hpv9, _⟩ := hoe9.open
          subst hpv9
          unfold infoV
          simp only
          clear hoe9
          have HF9 := Lib.hid hq9
          clear hq9
          go_wp2_with fail
          go_at_call 7
          refine (first_any (HE.out.quiet (HF8.out.q (HF9.out.q (Only.new _ _))))).mono ?_
          rintro e w10 ⟨rfl, hq10⟩
          have HF10 := Lib.hid ((HF8.out.q (HF9.out.q (Only.new _ _))).q hq10)
          clear hq10
          go_wp2_with fail
          go_ret
          exact ⟨rfl, HF10.out⟩
        · have hx0b : (x == 0) = false := by simp [hx0]
          have Hx0 := Lib.hid hx0
          clear hx0
          go_enter Tryd.func3, Tryd.ntmps3
          go_wp2_with fail
          go_at_call 7
          refine (first_any (HE.out.quiet HO.out)).mono ?_
          rintro e w1 ⟨rfl, hq1⟩
          have HF1 := Lib.hid (HO.out.q hq1)
          have rC := hq1.rowAt (heap_alloc_new w _) (by simp)
          obtain ⟨⟨m0, m1, m2, m3⟩, m4, m5, m6, m7⟩ := cells8 rC
          have HC1 := Lib.hid rC
          clear hq1 rC
          go_wp2_with fail
          go_at_call 8
          refine (HFEW.out _ HF1.out).mono ?_
          rintro e w2 ⟨rfl, hq2⟩
          have HF2 := Lib.hid (HF1.out.q hq2)
          have rC := hq2.rowAt HC1.out (by simp)
          obtain ⟨⟨m0', m1', m2', m3'⟩, m4', m5', m6', m7'⟩ := cells8 rC
          have HC2 := Lib.hid rC
          clear hq2 rC
          go_wp2_with fail
          go_at_call 9
          refine (HMUX.out _ HF2.out (by omega)).mono ?_
          rintro e w3 hP
          unfold MuxP at hP
          rw [Hmx.out] at hP
          obtain ⟨hq3, bv, rfl, hown⟩ := hP
          obtain ⟨fl, hmd⟩ := HMade.out b Hmx.out hown.2
          have HMd := Lib.hid hmd
          obtain ⟨bb, bcap, hbv, hb1, hb2⟩ := hown.form (by rw [hmd.blen]; omega)
          subst hbv
          have HOB := Lib.hid hown
          have hbcap : b.length ≤ bcap := hown.cap.1
          obtain ⟨er1, hcut⟩ := openR_cutoff hmd.byt hmd.opens hi3
          obtain ⟨er2, hmore⟩ := (openR_shape hmd.byt hmd.opens).2 [x] (by simp)
          have HCUT := Lib.hid hcut
          have HMORE := Lib.hid hmore
          have HBV := Lib.hid hown.ints
          have HF3 := Lib.hid (HF2.out.q hq3)
          have hbm : b.length ≤ 24000000 := hmd.bmax
          clear hq3 hown hmd hcut hmore m0 m1 m2 m3 m4 m5 m6 m7 m0' m1' m2' m3' m4' m5' m6' m7'
          go_wp2_with fail
          go_at_call 10
          refine (Open_any (own_take HOB.out (Nat.le_of_lt hi3)) (Nat.le_refl _) (by rw [List.length_take]; omega)).mono ?_
          rintro e w4 hP
          unfold OpensP at hP
          rw [HCUT.out] at hP
          obtain ⟨hq4, ev, rfl, hev⟩ := hP
          obtain ⟨et4, eu4, rfl⟩ := id hev.held
          unfold infoV cfg0
          simp only
          have HF4 := Lib.hid (hq4.q (Only.new _ (.cells #[.int .i64 0, .int .i64 0, .int .i64 0, .int .i64 0, .int .i64 0, .int .i64 0, .int .i64 0, .int .i64 0, .int .i64 0, .int .i64 0, .int .i64 0, .slice none 0 0] 34)))
          clear hq4 hev
          go_wp2_with fail
          go_at_call 11
          refine (copyb_any (HBV.out.quiet HF4.out) (by omega)).mono ?_
          rintro e w5 ⟨v5, rfl, hown5, hq5⟩
          have HO5 := Lib.hid hown5
          have HF5 := Lib.hid hq5
          have HFR5 : Hid (From (w4.alloc (.cells #[.int .i64 0, .int .i64 0, .int .i64 0, .int .i64 0, .int .i64 0, .int .i64 0, .int .i64 0, .int .i64 0, .int .i64 0, .int .i64 0, .int .i64 0, .slice none 0 0] 34)).heap.size v5) := Lib.hid (fun g hg => (hown5.at g hg).1)
          clear hown5 hq5
          go_wp2_with (first | (at_builtin; refine wpList_append_ints rfl (.tmp 67) (.tmp 69) _ rfl E8 (HO5.out.quiet (Only.new _ _)) rfl (ints_newG (l := [x]) rfl (by simp [maxLen]) (by simpa using hxb) 1 rfl (by simp)) rfl (by simp only [List.length_cons, List.length_nil]; omega) (by have := HF5.out.size; simp at this ⊢; omega) (fun v6 w6 hown6 acc6 => ?_)) | fail)
          have HF6 := Lib.hid (Only.acc (HF5.out.q (Only.new _ _)) acc6 HFR5.out)
          obtain ⟨ga, gcap, hgv, _⟩ := hown6.ints.open
          have HO6 := Lib.hid hown6
          clear hown6 acc6
          go_wp2_with fail
          go_at_call 10
          refine (Open_any HO6.out.ints (Nat.le_refl _) (by simp only [List.length_append, List.length_cons, List.length_nil]; omega)).mono ?_
          rintro e w7 hP
          unfold OpensP at hP
          rw [HMORE.out] at hP
          obtain ⟨hq7, ev7, rfl, hev7⟩ := hP
          obtain ⟨et7, eu7, rfl⟩ := id hev7.held
          unfold infoV cfg0
          simp only
          have HF7 := Lib.hid (HF6.out.q hq7)
          clear hq7 hev7
          go_wp2_with fail
          go_at_call 11
          refine (copyb_any (HBV.out.quiet (HF4.out.q (HF7.out.q (Only.new _ _)))) (by omega)).mono ?_
          rintro e w8 ⟨dv, rfl, hown8, hq8⟩
          have hq78 := Only.new w7 (.cells #[.int .i64 0, .int .i64 0, .int .i64 0, .int .i64 0, .int .i64 0, .int .i64 0, .int .i64 0, .int .i64 0, .int .i64 0, .int .i64 0, .int .i64 0, .slice none 0 0] 34)
          obtain ⟨db, dcap, hdv, hdb1, hdb2⟩ := hown8.form (by omega)
          subst hdv
          obtain ⟨bi, hbi⟩ : ∃ bi, b.getD i 0 = bi := ⟨_, rfl⟩
          have hcell := hown8.cell hi3
          rw [hbi] at hcell
          have hfr := hown8.frozen i
          have hbr : InK .u8 bi := (by rw [← hbi]; exact HMd.out.byt _ (by simp [hi3]))
          obtain ⟨y, hxor, hyk, hy0, hy1⟩ := xor_turn hbr hxb
          have hset := hown8.setAt (i := i) hyk
          have HSET := Lib.hid hset
          have hs8 : Only [db] w8 (w8.setCell ⟨db, i, none⟩ (.int .u8 y)) := (Only.refl _ _).setCell (by simp) _
          have HT3 : Hid (∃ er3, openR (b.set i y) = .error er3) := Lib.hid (openR_turned HMd.out.byt HMd.out.opens hi3 hyk (by rw [hbi]; exact hy1 Hx0.out))
          have hq38 := HF3.out.q (HF4.out.q (HF7.out.q hq78))
          have hHF8 : Only [] w (w8.setCell ⟨db, i, none⟩ (.int .u8 y)) := (hq38.q hq8).trans hs8 (by simp) (fun g hg hlt => by rw [List.mem_singleton] at hg; subst hg; have := hq38.size; omega)
          have HF8 := Lib.hid hHF8
          obtain ⟨er3, ht3⟩ := HT3.out
          have HT4 := Lib.hid ht3
          clear ht3
          clear hown8 hq8 hset hs8 hHF8 hbi hyk hy0 hy1
          go_wp2_with fail
          go_at_call 10
          refine (Open_any (HSET.out.ints) (Nat.le_refl _) (by rw [List.length_set]; omega)).mono ?_
          rintro e w9 hP
          unfold OpensP at hP
          rw [HT4.out] at hP
          obtain ⟨hq9, ev9, rfl, hev9⟩ := hP
          obtain ⟨et9, eu9, rfl⟩ := id hev9.held
          unfold infoV cfg0
          simp only
          clear hev9
          have HF9 := Lib.hid hq9
          clear hq9
          go_wp2_with fail
          go_at_call 7
          refine (first_any (HE.out.quiet (HF8.out.q (HF9.out.q (Only.new _ _))))).mono ?_
          rintro e w10 ⟨rfl, hq10⟩
          have HF10 := Lib.hid ((HF8.out.q (HF9.out.q (Only.new _ _))).q hq10)
          have rI10 := hq10.rowAt (heap_alloc_new w9 _) (by simp)
          have i11 : w10.cell? ⟨w9.heap.size, 11, none⟩ = some (.slice none 0 0) := (by rw [cell_of_row _ _ _ _ _ _ rI10]; rfl)
          clear rI10
          clear hq10
          go_wp2_with fail
          go_ret
          exact ⟨rfl, HF10.out⟩
      · have hneg2 : 0 ≤ at_ := by omega
        obtain ⟨i, hi1, hi2, hi3⟩ : ∃ i : Nat, (at_).tmod (b.length : Int) = i ∧ (at_) % (b.length : Int) = i ∧ i < b.length := by
          have h0 : 0 ≤ (at_) := by have := hat; unfold InK at this; omega
          have h1 := Int.emod_nonneg (at_) hbz2
          have h2 := Int.emod_lt_of_pos (at_) (show (0 : Int) < b.length by omega)
          exact ⟨((at_) % (b.length : Int)).toNat, by rw [Int.tmod_eq_emod_of_nonneg h0]; omega, by omega, by omega⟩
        by_cases hx0 : x = 0
        · have hx0b : (x == 0) = true := by simp [hx0]
          have Hx0 := Lib.hid hx0
          clear hx0
          go_enter Tryd.func3, Tryd.ntmps3
          go_wp2_with fail
          go_at_call 7
          refine (first_any (HE.out.quiet HO.out)).mono ?_
          rintro e w1 ⟨rfl, hq1⟩
          have HF1 := Lib.hid (HO.out.q hq1)
          have rC := hq1.rowAt (heap_alloc_new w _) (by simp)
          obtain ⟨⟨m0, m1, m2, m3⟩, m4, m5, m6, m7⟩ := cells8 rC
          have HC1 := Lib.hid rC
          clear hq1 rC
          go_wp2_with fail
          go_at_call 8
          refine (HFEW.out _ HF1.out).mono ?_
          rintro e w2 ⟨rfl, hq2⟩
          have HF2 := Lib.hid (HF1.out.q hq2)
          have rC := hq2.rowAt HC1.out (by simp)
          obtain ⟨⟨m0', m1', m2', m3'⟩, m4', m5', m6', m7'⟩ := cells8 rC
          have HC2 := Lib.hid rC
          clear hq2 rC
          go_wp2_with fail
          go_at_call 9
          refine (HMUX.out _ HF2.out (by omega)).mono ?_
          rintro e w3 hP
          unfold MuxP at hP
          rw [Hmx.out] at hP
          obtain ⟨hq3, bv, rfl, hown⟩ := hP
          obtain ⟨fl, hmd⟩ := HMade.out b Hmx.out hown.2
          have HMd := Lib.hid hmd
          obtain ⟨bb, bcap, hbv, hb1, hb2⟩ := hown.form (by rw [hmd.blen]; omega)
          subst hbv
          have HOB := Lib.hid hown
          have hbcap : b.length ≤ bcap := hown.cap.1
          obtain ⟨er1, hcut⟩ := openR_cutoff hmd.byt hmd.opens hi3
          obtain ⟨er2, hmore⟩ := (openR_shape hmd.byt hmd.opens).2 [x] (by simp)
          have HCUT := Lib.hid hcut
          have HMORE := Lib.hid hmore
          have HBV := Lib.hid hown.ints
          have HF3 := Lib.hid (HF2.out.q hq3)
          have hbm : b.length ≤ 24000000 := hmd.bmax
          clear hq3 hown hmd hcut hmore m0 m1 m2 m3 m4 m5 m6 m7 m0' m1' m2' m3' m4' m5' m6' m7'
          go_wp2_with fail
          go_at_call 10
          refine (Open_any (own_take HOB.out (Nat.le_of_lt hi3)) (Nat.le_refl _) (by rw [List.length_take]; omega)).mono ?_
          rintro e w4 hP
          unfold OpensP at hP
          rw [HCUT.out] at hP
          obtain ⟨hq4, ev, rfl, hev⟩ := hP
          obtain ⟨et4, eu4, rfl⟩ := id hev.held
          unfold infoV cfg0
          simp only
          have HF4 := Lib.hid (hq4.q (Only.new _ (.cells #[.int .i64 0, .int .i64 0, .int .i64 0, .int .i64 0, .int .i64 0, .int .i64 0, .int .i64 0, .int .i64 0, .int .i64 0, .int .i64 0, .int .i64 0, .slice none 0 0] 34)))
          clear hq4 hev
          go_wp2_with fail
          go_at_call 11
          refine (copyb_any (HBV.out.quiet HF4.out) (by omega)).mono ?_
          rintro e w5 ⟨v5, rfl, hown5, hq5⟩
          have HO5 := Lib.hid hown5
          have HF5 := Lib.hid hq5
          have HFR5 : Hid (From (w4.alloc (.cells #[.int .i64 0, .int .i64 0, .int .i64 0, .int .i64 0, .int .i64 0, .int .i64 0, .int .i64 0, .int .i64 0, .int .i64 0, .int .i64 0, .int .i64 0, .slice none 0 0] 34)).heap.size v5) := Lib.hid (fun g hg => (hown5.at g hg).1)
          clear hown5 hq5
          go_wp2_with (first | (at_builtin; refine wpList_append_ints rfl (.tmp 67) (.tmp 69) _ rfl E8 (HO5.out.quiet (Only.new _ _)) rfl (ints_newG (l := [x]) rfl (by simp [maxLen]) (by simpa using hxb) 1 rfl (by simp)) rfl (by simp only [List.length_cons, List.length_nil]; omega) (by have := HF5.out.size; simp at this ⊢; omega) (fun v6 w6 hown6 acc6 => ?_)) | fail)
          have HF6 := Lib.hid (Only.acc (HF5.out.q (Only.new _ _)) acc6 HFR5.out)
          obtain ⟨ga, gcap, hgv, _⟩ := hown6.ints.open
          have HO6 := Lib.hid hown6
          clear hown6 acc6
          go_wp2_with fail
          go_at_call 10
          refine (Open_any HO6.out.ints (Nat.le_refl _) (by simp only [List.length_append, List.length_cons, List.length_nil]; omega)).mono ?_
          rintro e w7 hP
          unfold OpensP at hP
          rw [HMORE.out] at hP
          obtain ⟨hq7, ev7, rfl, hev7⟩ := hP
          obtain ⟨et7, eu7, rfl⟩ := id hev7.held
          unfold infoV cfg0
          simp only
          have HF7 := Lib.hid (HF6.out.q hq7)
          clear hq7 hev7
          go_wp2_with fail
          go_at_call 11
          refine (copyb_any (HBV.out.quiet (HF4.out.q (HF7.out.q (Only.new _ _)))) (by omega)).mono ?_
          rintro e w8 ⟨dv, rfl, hown8, hq8⟩
          have hq78 := Only.new w7 (.cells #[.int .i64 0, .int .i64 0, .int .i64 0, .int .i64 0, .int .i64 0, .int .i64 0, .int .i64 0, .int .i64 0, .int .i64 0, .int .i64 0, .int .i64 0, .slice none 0 0] 34)
          obtain ⟨db, dcap, hdv, hdb1, hdb2⟩ := hown8.form (by omega)
          subst hdv
          obtain ⟨bi, hbi⟩ : ∃ bi, b.getD i 0 = bi := ⟨_, rfl⟩
          have hcell := hown8.cell hi3
          rw [hbi] at hcell
          have hfr := hown8.frozen i
          have hbr : InK .u8 bi := (by rw [← hbi]; exact HMd.out.byt _ (by simp [hi3]))
          obtain ⟨y, hxor, hyk, hy0, hy1⟩ := xor_turn hbr hxb
          have hset := hown8.setAt (i := i) hyk
          have HSET := Lib.hid hset
          have hs8 : Only [db] w8 (w8.setCell ⟨db, i, none⟩ (.int .u8 y)) := (Only.refl _ _).setCell (by simp) _
          have HT3 : Hid (openR (b.set i y) = .ok ⟨⟨W, H, (allSizes l).length, ⟨a0, a1, a2, a3, a4, a5, a6, a7⟩, l.length⟩, (muxP fl 0 30 l).2, l.flatMap Chunk.coded, fl⟩) := Lib.hid (by rw [hy0 Hx0.out, set_same hbi hi3]; exact HMd.out.opens)
          have hq38 := HF3.out.q (HF4.out.q (HF7.out.q hq78))
          have hHF8 : Only [] w (w8.setCell ⟨db, i, none⟩ (.int .u8 y)) := (hq38.q hq8).trans hs8 (by simp) (fun g hg hlt => by rw [List.mem_singleton] at hg; subst hg; have := hq38.size; omega)
          have HF8 := Lib.hid hHF8
          clear hown8 hq8 hset hs8 hHF8 hbi hyk hy0 hy1
          go_wp2_with fail
          go_at_call 10
          refine (Open_any (HSET.out.ints) (Nat.le_refl _) (by rw [List.length_set]; omega)).mono ?_
          rintro e w9 hP
          unfold OpensP at hP
          rw [HT3.out] at hP
          obtain ⟨hq9, pv9, rfl, hoe9⟩ := hP
          obtain ⟨pa9, pcap9, hpv9, _⟩ := hoe9.open
          subst hpv9
          unfold infoV
          simp only
          clear hoe9
          have HF9 := Lib.hid hq9
          clear hq9
          go_wp2_with fail
          go_at_call 7
          refine (first_any (HE.out.quiet (HF8.out.q (HF9.out.q (Only.new _ _))))).mono ?_
          rintro e w10 ⟨rfl, hq10⟩
          have HF10 := Lib.hid ((HF8.out.q (HF9.out.q (Only.new _ _))).q hq10)
          clear hq10
          go_wp2_with fail
          go_ret
          exact ⟨rfl, HF10.out⟩
        · have hx0b : (x == 0) = false := by simp [hx0]
          have Hx0 := Lib.hid hx0
          clear hx0
          go_enter Tryd.func3, Tryd.ntmps3
          go_wp2_with fail
          go_at_call 7
          refine (first_any (HE.out.quiet HO.out)).mono ?_
          rintro e w1 ⟨rfl, hq1⟩
          have HF1 := Lib.hid (HO.out.q hq1)
          have rC := hq1.rowAt (heap_alloc_new w _) (by simp)
          obtain ⟨⟨m0, m1, m2, m3⟩, m4, m5, m6, m7⟩ := cells8 rC
          have HC1 := Lib.hid rC
          clear hq1 rC
          go_wp2_with fail
          go_at_call 8
          refine (HFEW.out _ HF1.out).mono ?_
          rintro e w2 ⟨rfl, hq2⟩
          have HF2 := Lib.hid (HF1.out.q hq2)
          have rC := hq2.rowAt HC1.out (by simp)
          obtain ⟨⟨m0', m1', m2', m3'⟩, m4', m5', m6', m7'⟩ := cells8 rC
          have HC2 := Lib.hid rC
          clear hq2 rC
          go_wp2_with fail
          go_at_call 9
          refine (HMUX.out _ HF2.out (by omega)).mono ?_
          rintro e w3 hP
          unfold MuxP at hP
          rw [Hmx.out] at hP
          obtain ⟨hq3, bv, rfl, hown⟩ := hP
          obtain ⟨fl, hmd⟩ := HMade.out b Hmx.out hown.2
          have HMd := Lib.hid hmd
          obtain ⟨bb, bcap, hbv, hb1, hb2⟩ := hown.form (by rw [hmd.blen]; omega)
          subst hbv
          have HOB := Lib.hid hown
          have hbcap : b.length ≤ bcap := hown.cap.1
          obtain ⟨er1, hcut⟩ := openR_cutoff hmd.byt hmd.opens hi3
          obtain ⟨er2, hmore⟩ := (openR_shape hmd.byt hmd.opens).2 [x] (by simp)
          have HCUT := Lib.hid hcut
          have HMORE := Lib.hid hmore
          have HBV := Lib.hid hown.ints
          have HF3 := Lib.hid (HF2.out.q hq3)
          have hbm : b.length ≤ 24000000 := hmd.bmax
          clear hq3 hown hmd hcut hmore m0 m1 m2 m3 m4 m5 m6 m7 m0' m1' m2' m3' m4' m5' m6' m7'
          go_wp2_with fail
          go_at_call 10
          refine (Open_any (own_take HOB.out (Nat.le_of_lt hi3)) (Nat.le_refl _) (by rw [List.length_take]; omega)).mono ?_
          rintro e w4 hP
          unfold OpensP at hP
          rw [HCUT.out] at hP
          obtain ⟨hq4, ev, rfl, hev⟩ := hP
          obtain ⟨et4, eu4, rfl⟩ := id hev.held
          unfold infoV cfg0
          simp only
          have HF4 := Lib.hid (hq4.q (Only.new _ (.cells #[.int .i64 0, .int .i64 0, .int .i64 0, .int .i64 0, .int .i64 0, .int .i64 0, .int .i64 0, .int .i64 0, .int .i64 0, .int .i64 0, .int .i64 0, .slice none 0 0] 34)))
          clear hq4 hev
          go_wp2_with fail
          go_at_call 11
          refine (copyb_any (HBV.out.quiet HF4.out) (by omega)).mono ?_
          rintro e w5 ⟨v5, rfl, hown5, hq5⟩
          have HO5 := Lib.hid hown5
          have HF5 := Lib.hid hq5
          have HFR5 : Hid (From (w4.alloc (.cells #[.int .i64 0, .int .i64 0, .int .i64 0, .int .i64 0, .int .i64 0, .int .i64 0, .int .i64 0, .int .i64 0, .int .i64 0, .int .i64 0, .int .i64 0, .slice none 0 0] 34)).heap.size v5) := Lib.hid (fun g hg => (hown5.at g hg).1)
          clear hown5 hq5
          go_wp2_with (first | (at_builtin; refine wpList_append_ints rfl (.tmp 67) (.tmp 69) _ rfl E8 (HO5.out.quiet (Only.new _ _)) rfl (ints_newG (l := [x]) rfl (by simp [maxLen]) (by simpa using hxb) 1 rfl (by simp)) rfl (by simp only [List.length_cons, List.length_nil]; omega) (by have := HF5.out.size; simp at this ⊢; omega) (fun v6 w6 hown6 acc6 => ?_)) | fail)
          have HF6 := Lib.hid (Only.acc (HF5.out.q (Only.new _ _)) acc6 HFR5.out)
          obtain ⟨ga, gcap, hgv, _⟩ := hown6.ints.open
          have HO6 := Lib.hid hown6
          clear hown6 acc6
          go_wp2_with fail
          go_at_call 10
          refine (Open_any HO6.out.ints (Nat.le_refl _) (by simp only [List.length_append, List.length_cons, List.length_nil]; omega)).mono ?_
          rintro e w7 hP
          unfold OpensP at hP
          rw [HMORE.out] at hP
          obtain ⟨hq7, ev7, rfl, hev7⟩ := hP
          obtain ⟨et7, eu7, rfl⟩ := id hev7.held
          unfold infoV cfg0
          simp only
          have HF7 := Lib.hid (HF6.out.q hq7)
          clear hq7 hev7
          go_wp2_with fail
          go_at_call 11
          refine (copyb_any (HBV.out.quiet (HF4.out.q (HF7.out.q (Only.new _ _)))) (by omega)).mono ?_
          rintro e w8 ⟨dv, rfl, hown8, hq8⟩
          have hq78 := Only.new w7 (.cells #[.int .i64 0, .int .i64 0, .int .i64 0, .int .i64 0, .int .i64 0, .int .i64 0, .int .i64 0, .int .i64 0, .int .i64 0, .int .i64 0, .int .i64 0, .slice none 0 0] 34)
          obtain ⟨db, dcap, hdv, hdb1, hdb2⟩ := hown8.form (by omega)
          subst hdv
          obtain ⟨bi, hbi⟩ : ∃ bi, b.getD i 0 = bi := ⟨_, rfl⟩
          have hcell := hown8.cell hi3
          rw [hbi] at hcell
          have hfr := hown8.frozen i
          have hbr : InK .u8 bi := (by rw [← hbi]; exact HMd.out.byt _ (by simp [hi3]))
          obtain ⟨y, hxor, hyk, hy0, hy1⟩ := xor_turn hbr hxb
          have hset := hown8.setAt (i := i) hyk
          have HSET := Lib.hid hset
          have hs8 : Only [db] w8 (w8.setCell ⟨db, i, none⟩ (.int .u8 y)) := (Only.refl _ _).setCell (by simp) _
          have HT3 : Hid (∃ er3, openR (b.set i y) = .error er3) := Lib.hid (openR_turned HMd.out.byt HMd.out.opens hi3 hyk (by rw [hbi]; exact hy1 Hx0.out))
          have hq38 := HF3.out.q (HF4.out.q (HF7.out.q hq78))
          have hHF8 : Only [] w (w8.setCell ⟨db, i, none⟩ (.int .u8 y)) := (hq38.q hq8).trans hs8 (by simp) (fun g hg hlt => by rw [List.mem_singleton] at hg; subst hg; have := hq38.size; omega)
          have HF8 := Lib.hid hHF8
          obtain ⟨er3, ht3⟩ := HT3.out
          have HT4 := Lib.hid ht3
          clear ht3
          clear hown8 hq8 hset hs8 hHF8 hbi hyk hy0 hy1
          go_wp2_with fail
          go_at_call 10
          refine (Open_any (HSET.out.ints) (Nat.le_refl _) (by rw [List.length_set]; omega)).mono ?_
          rintro e w9 hP
          unfold OpensP at hP
          rw [HT4.out] at hP
          obtain ⟨hq9, ev9, rfl, hev9⟩ := hP
          obtain ⟨et9, eu9, rfl⟩ := id hev9.held
          unfold infoV cfg0
          simp only
          clear hev9
          have HF9 := Lib.hid hq9
          clear hq9
          go_wp2_with fail
          go_at_call 7
          refine (first_any (HE.out.quiet (HF8.out.q (HF9.out.q (Only.new _ _))))).mono ?_
          rintro e w10 ⟨rfl, hq10⟩
          have HF10 := Lib.hid ((HF8.out.q (HF9.out.q (Only.new _ _))).q hq10)
          have rI10 := hq10.rowAt (heap_alloc_new w9 _) (by simp)
          have i11 : w10.cell? ⟨w9.heap.size, 11, none⟩ = some (.slice none 0 0) := (by rw [cell_of_row _ _ _ _ _ _ rI10]; rfl)
          clear rI10
          clear hq10
          go_wp2_with fail
          go_ret
          exact ⟨rfl, HF10.out⟩
end Go.Proofs.YtjpbnboaonnfgaaDoor
/- BoxTurned of the box: for any configuration, sides and chunks, the law kinlaw24.BoxTurned answers true and leaves its arguments as they were (a container with one byte turned, cut off, or with one more is refused). Conditions: errors.errorType is laid as the program's text lays it (the card ties it). -/
namespace Go.Proofs.YtjpbnboaonnfgaaDoor
open Go.ChangeShapes Go.WideShapes Go.ChangeAt Go.RowKit
set_option linter.unusedVariables false
set_option linter.unusedSimpArgs false

theorem u8_in {n : Int} (h : (Lit.int .u8 n).wf = true) : InK .u8 n := by
  have := bounds_u8 h
  unfold InK
  omega
set_option maxRecDepth 100000 in
theorem boxTurned_lifted (os : Os) (started : os.Started) (H : Type) (enc : TypeId × Value → H) :
    ReturnsInHanded {} Tryd.checked os 3 .any (fun w args => (Rows.boxTurnedSpec.pre enc Tryd.prog Tryd.f3 [] false w args ∧ laidMetH Tryd.prog laid1 w) ∧ sizedMet enc Tryd.prog Tryd.f3 (OpenSpec.ofChange Rows.boxTurnedSpec) false w args)
      (Rows.boxTurnedSpec.post enc Tryd.prog Tryd.f3 false true false false) := by
  refine returnsInHanded_of_change_and (C := Tryd.checked) (X := fun w _ => laidMetH Tryd.prog laid1 w) (fun _ _ _ hh h => h.of_heap hh) own_ started (by kernel_rfl) Tryd.func3
    (ChangeSpec.witness_at (enc := enc) (C := Tryd.checked) (os := os) (X := fun w _ => laidMetH Tryd.prog laid1 w) false (laidWorld os) #[.agg #[.int .i64 0, .int .i64 0, .int .i64 0, .int .i64 0, .int .i64 0, .int .i64 0, .int .i64 0, .int .i64 0], .int .i64 0, .int .i64 0, .slice none 0 0, .int .i64 0, .int .u8 0] 8 rfl (by kernel_rfl) (by kernel_rfl) (by kernel_rfl) (by kernel_rfl) (by kernel_rfl) (laidWorld_met os _)) ?_
  intro W base args ds gs before hval0 hW _ _ hL _
  have hval : ∀ (j : Nat) t v, Tryd.f3.params[j]? = some t → args[j]? = some v → Value.okWide Tryd.prog W .any base t v := hval0
  have hW' := hW
  obtain ⟨p, q, hA0, hV, rfl, hfz, hnd⟩ := hW
  have hA : DataW.TrodAll enc Tryd.prog W 0 (fun _ => true) true Tryd.f3.params.toList args.toList ds p := hA0
  rw [Tryd.params3] at hA hval
  obtain ⟨v0, vs0, d0, ds0, p0, q0, hargs, rfl, rfl, h0, r0⟩ := trodAll_cons hA
  obtain ⟨v1, vs1, d1, ds1, p1, q1, rfl, rfl, rfl, h1, r1⟩ := trodAll_cons r0
  obtain ⟨v2, vs2, d2, ds2, p2, q2, rfl, rfl, rfl, h2, r2⟩ := trodAll_cons r1
  obtain ⟨v3, vs3, d3, ds3, p3, q3, rfl, rfl, rfl, h3, r3⟩ := trodAll_cons r2
  obtain ⟨v4, vs4, d4, ds4, p4, q4, rfl, rfl, rfl, h4, r4⟩ := trodAll_cons r3
  obtain ⟨v5, vs5, d5, ds5, p5, q5, rfl, rfl, rfl, h5, r5⟩ := trodAll_cons r4
  obtain ⟨rfl, rfl, rfl⟩ := trodAll_nil r5
  obtain rfl : args = #[v0, v1, v2, v3, v4, v5] := by cases args; simp_all
  obtain ⟨rfl, rfl⟩ := trodVars_none hV
  obtain ⟨c, rfl⟩ := config_in (hval 0 23 v0 rfl rfl) h0
  obtain ⟨n1, rfl, rfl, rfl, w1⟩ := open_int Tryd.underlying3 (hval 1 3 v1 rfl rfl) h1
  obtain ⟨n2, rfl, rfl, rfl, w2⟩ := open_int Tryd.underlying3 (hval 2 3 v2 rfl rfl) h2
  obtain ⟨a3, len3, cap3, rfl⟩ := okWide_slice Tryd.underlying24 (hval 3 24 v3 rfl rfl)
  obtain ⟨n4, rfl, rfl, rfl, w4⟩ := open_int Tryd.underlying3 (hval 4 3 v4 rfl rfl) h4
  obtain ⟨n5, rfl, rfl, rfl, w5⟩ := open_int Tryd.underlying5 (hval 5 5 v5 rfl rfl) h5
  have k0 := h0
  have k3 := h3
  have lt0 : ∀ x ∈ p0, x.block < W.heap.size := by obtain ⟨m, hm⟩ := k0; exact DataW.trod_lt m _ _ _ hm
  have lt3 : ∀ x ∈ p3, x.block < W.heap.size := by obtain ⟨m, hm⟩ := k3; exact DataW.trod_lt m _ _ _ hm
  obtain ⟨l, hl⟩ : ∃ l, ChunksAt 0 W.heap.size W (.slice a3 len3 cap3) l := by
    obtain ⟨fuel, hf⟩ := h3
    obtain ⟨v, l, hv, hl⟩ := chunks_in hf
    have hcs : (Value.slice a3 len3 cap3).cells.toList = [.slice a3 len3 cap3] := rfl
    rw [hcs] at hv
    obtain rfl := (List.cons.inj hv).1
    exact ⟨l, hl⟩
  clear hA0 hval0
  simp only [List.append_nil] at hW'
  refine (turnedl_any c n1 n2 n4 n5 (i64_in w4) (u8_in w5) hl (Nat.le_refl _) (errT_of_laid hL)).mono fun e W' ⟨he, hq⟩ => ?_
  subst he
  have bel := hq.quiet
  exact ⟨_, rfl, _, _, _, [], _, [], hW', trodAll_mk1 (shut_bool Tryd.underlying4 _), (trodAll_cons_mk (Below.trod laidOut_ (by kernel_rfl) (of_decide_eq_true (by kernel_rfl)) k0 bel lt0) (trodAll_cons_mk (shut_int Tryd.underlying3 w1) (trodAll_cons_mk (shut_int Tryd.underlying3 w2) (trodAll_cons_mk (Below.trod laidOut_ (by kernel_rfl) (of_decide_eq_true (by kernel_rfl)) k3 bel lt3) (trodAll_cons_mk (shut_int Tryd.underlying3 w4) (trodAll_cons_mk (shut_int Tryd.underlying5 w5) trodAll_mk0)))))), rfl, bel.frame _, fun h => by cases h⟩
theorem boxTurned_row : Rows.BoxTurnedSaid :=
  OpenClaim.holds_of_wide 3 Tryd.f3 rfl rfl rfl rfl rfl rfl rfl ⟨rfl, rfl, rfl, rfl, rfl⟩ rfl rfl rfl rfl rfl (by kernel_rfl) Tryd.func3 (by kernel_rfl)
    (of_decide_eq_true (by kernel_rfl)) (by unfold Func.isWrapper; first | (rw [if_pos (by decide +kernel)]; kernel_rfl) | (rw [if_neg (by decide +kernel)]; exact ⟨rfl, rfl⟩))
    (fun os started H enc _ => boxTurned_lifted os started H enc)
theorem boxTurned_holds : Rows.BoxTurnedCardSaid :=
  Claim7.holds_tied_plain_at .later [] [.handle] true _ true
    boxTurned_row (fun _ h => by cases h) (by kernel_rfl) (fun _ h => by cases h) boxTurned_row_tie rfl ⟨rfl, rfl⟩ (by kernel_rfl) rfl
    (fun f fn hf hfn => by
      obtain rfl : f = 3 := Option.some.inj ((show Tryd.prog.funcNamed "kinescope/kinlaw24.BoxTurned" = some 3 by kernel_rfl).symm.trans hf) |>.symm
      obtain rfl : fn = Tryd.f3 := (Option.some.inj (Tryd.func3.symm.trans hfn)).symm
      exact ⟨by kernel_rfl, fun j t ht => by
        rw [Tryd.params3] at ht
        have hm : t ∈ [23, 3, 3, 24, 3, 5] := by simpa using Array.mem_of_getElem? ht
        have hall : ([23, 3, 3, 24, 3, 5].all fun u => !Tryd.prog.wantsStandIn u) = true := by kernel_rfl
        exact (show Tryd.prog.wantsStandIn t = false by simpa using List.all_eq_true.1 hall t hm)⟩)
    (by kernel_rfl)
#print axioms boxTurned_holds
end Go.Proofs.YtjpbnboaonnfgaaDoor
