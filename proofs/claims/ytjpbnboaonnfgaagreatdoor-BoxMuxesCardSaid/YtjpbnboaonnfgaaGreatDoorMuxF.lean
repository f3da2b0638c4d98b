/- Joined texts: FrameC, MuxesC. Conditions: each part names its own. -/
import Derived.Test.YtjpbnboaonnfgaaGreatDoorC14
import Derived.Test.YtjpbnboaonnfgaaGreatDoorC1
import Derived.Deep.Slices
import Derived.Test.YtjpbnboaonnfgaaGreatDoorLawF
import Derived.Test.YtjpbnboaonnfgaaGreatDoorTie
import Derived.Test.YtjpbnboaonnfgaaGreatDoorCards
import Derived.SevenTiedAt
/- How a configuration and chunks that came in open. Conditions: none. -/
namespace Go.Proofs.YtjpbnboaonnfgaaGreatDoor
open Go.ChangeShapes Go.WideShapes Go.ChangeAt Go.RowKit Go.Deep
set_option linter.unusedVariables false
set_option linter.unusedSimpArgs false

theorem cells_int : Tryz.prog.cellsOf 3 = 1 := by kernel_rfl
theorem cells_bytes : Tryz.prog.cellsOf 27 = 1 := by kernel_rfl
theorem cells_codeds : Tryz.prog.cellsOf 50 = 1 := by kernel_rfl
theorem cells_coded : Tryz.prog.cellsOf 84 = 2 := by kernel_rfl
theorem cells_group : Tryz.prog.cellsOf 69 = 2 := by kernel_rfl
theorem cells_chunk : Tryz.prog.cellsOf 71 = 4 := by kernel_rfl
theorem cells_config : Tryz.prog.cellsOf 23 = 8 := by kernel_rfl
theorem i64_in {n : Int} (h : (Lit.int .i64 n).wf = true) : InK .i64 n := by
  have := bounds_i64 h
  exact ⟨by omega, by omega⟩

section
variable {H : Type} {enc : TypeId × Value → H}
theorem field_int {W : World} {spare : Nat → Bool} {held : Bool} {fuel : Nat} {cs : List Value} {y : Option (DataW H × List MemPlace)} (h : DataW.trod enc Tryz.prog W 0 spare held fuel 3 cs = y) (hy : y.isSome = true) : ∃ n, cs = [.int .i64 n] ∧ (Lit.int .i64 n).wf = true := by
  cases y with
  | none => cases hy
  | some x =>
    obtain ⟨n, h1, _, h3⟩ := DataW.trod_int Tryz.underlying3 h
    exact ⟨n, h1, h3⟩
theorem some_at {α : Type} {l : List α} {i n : Nat} (h : l.length = n) (hi : i < n) : l[i]?.isSome = true := by simp [h, hi]
/-- a slice of structs, row by row -/
theorem rows_in {W : World} {spare : Nat → Bool} {held : Bool} {fuel size : Nat} {t e : TypeId} {cs : List Value} {x : DataW H × List MemPlace} (ht : Tryz.prog.underlying t = some (.slice e)) (hc : Tryz.prog.cellsOf e = size) (hpos : 0 < size)
    (h : DataW.trod enc Tryz.prog W 0 spare held fuel t cs = some x) :
    ∃ (v : Value) (len n : Nat) (C : Nat → List Value), cs = [v] ∧ Rows size 0 W.heap.size W v len (fun i j => (C i).getD j undef) ∧ ∀ i, i < len → (C i).length = size ∧ ∃ y, DataW.trod enc Tryz.prog W 0 spare held n e (C i) = some y := by
  rcases open_slice ht h with ⟨rfl, _⟩ | ⟨a, len, cap, m, n, D, Pl, rfl, _, hl, hm, hmm, _, hi⟩
  · exact ⟨_, 0, 0, fun _ => [], rfl, Rows.nil _ _ _ _ _, fun i hi => absurd hi (by omega)⟩
  · have hlm : len ≤ m := by rw [hmm]; split <;> omega
    rw [hc] at hi
    have hch : ∀ i, ∃ c : List Value, i < len → W.cells? 0 (a.add (i * size)) size = some c ∧ ∃ y, DataW.trod enc Tryz.prog W 0 spare held n e c = some y := by
      intro i
      by_cases hlt : i < len
      · obtain ⟨c, h1, h2⟩ := hi i (by omega)
        exact ⟨c, fun _ => ⟨h1, _, h2⟩⟩
      · exact ⟨[], fun h => absurd h hlt⟩
    obtain ⟨C, hC⟩ := Classical.axiomOfChoice hch
    refine ⟨_, len, n, C, rfl, ⟨some a, cap, rfl, hl, hm, fun hp => ?_⟩, fun i hi => ?_⟩
    · obtain ⟨_, hl0, hat0⟩ := World.cells?_some (hC 0 hp).1
      have hcell0 := hat0 0 hpos
      have hv : (C 0)[0]? = some ((C 0)[0]'(by omega)) := List.getElem?_eq_getElem (by omega)
      rw [hv] at hcell0
      obtain ⟨b, off, spot⟩ := a
      have hspot : spot = none := by simpa [Addr.add] using World.cell?_spot hcell0
      subst hspot
      refine ⟨b, off, rfl, Nat.zero_le _, block_lt_of_cell (by simpa [Addr.add] using hcell0), fun i j hi hj => ?_⟩
      obtain ⟨_, hli, hati⟩ := World.cells?_some (hC i hi).1
      have := hati j hj
      have hv2 : (C i)[j]? = some ((C i).getD j undef) := by simp [show j < (C i).length by omega]
      rw [hv2] at this
      simpa [Addr.add_lit, Nat.add_assoc] using this
    · exact ⟨(World.cells?_some (hC i hi).1).2.1, (hC i hi).2⟩
theorem list_of {α : Type} [Inhabited α] {P : Nat → α → Prop} (n : Nat) (h : ∀ i, i < n → ∃ c, P i c) : ∃ l : List α, l.length = n ∧ ∀ i, i < n → P i (l.getD i default) := by
  have hch : ∀ i, ∃ c : α, i < n → P i c := by
    intro i
    by_cases hlt : i < n
    · obtain ⟨c, hc⟩ := h i hlt
      exact ⟨c, fun _ => hc⟩
    · exact ⟨default, fun h => absurd h hlt⟩
  obtain ⟨f, hf⟩ := Classical.axiomOfChoice hch
  refine ⟨(List.range n).map f, by simp, fun i hi => ?_⟩
  have : ((List.range n).map f).getD i default = f i := by simp [hi]
  rw [this]
  exact hf i hi
theorem codeds_in {W : World} {spare : Nat → Bool} {held : Bool} {fuel : Nat} {cs : List Value} {x : DataW H × List MemPlace} (h : DataW.trod enc Tryz.prog W 0 spare held fuel 50 cs = some x) : ∃ v l, cs = [v] ∧ CodedsAt 0 W.heap.size W v l := by
  obtain ⟨v, len, n, C, rfl, hR, hel⟩ := rows_in Tryz.underlying50 cells_coded (by omega) h
  obtain ⟨l, hl, hP⟩ := list_of (α := Coded) (P := fun i c => (C i).getD 0 undef = .int .i64 c.kind ∧ InK .i64 c.kind ∧ Ints .u8 0 W.heap.size W ((C i).getD 1 undef) c.data) len (fun i hi => by
    obtain ⟨hlen, y, hy⟩ := hel i hi
    obtain ⟨xs, m, _, _, _, hxl, hf⟩ := DataW.trod_struct Tryz.underlying84 hy
    have h0 : DataW.trod enc Tryz.prog W 0 spare held m 3 (((C i).drop 0).take (Tryz.prog.cellsOf 3)) = xs[0]? := hf 0 _ rfl
    have h1 : DataW.trod enc Tryz.prog W 0 spare held m 27 (((C i).drop 1).take (Tryz.prog.cellsOf 27)) = xs[1]? := hf 1 _ rfl
    rw [cells_int] at h0
    rw [cells_bytes] at h1
    obtain ⟨k, hk, hkw⟩ := field_int h0 (some_at hxl (by decide))
    match hC : C i, hlen with
    | [c0, c1], _ =>
      rw [hC] at hk h1
      simp at hk h1
      subst hk
      have h2 : xs[1]? = some (xs[1]'(by rw [hxl]; decide)) := List.getElem?_eq_getElem _
      rw [h2] at h1
      rcases open_slice Tryz.underlying27 h1 with ⟨hc1, _⟩ | ⟨a, ln, cap, _, _, _, _, hc1, _⟩
      · simp at hc1; subst hc1; exact ⟨⟨k, []⟩, rfl, i64_in hkw, Ints.nil _ _ _ _⟩
      · simp at hc1; subst hc1
        obtain ⟨d, hd⟩ := bytes_in (a := some a) (len := ln) (cap := cap) (by simpa [Value.cells] using h1)
        exact ⟨⟨k, d⟩, rfl, i64_in hkw, hd⟩)
  exact ⟨v, l, rfl, _, by rw [hl]; exact hR, fun i hi => hP i (by omega)⟩
/-- chunks that came in -/
theorem chunks_in {W : World} {spare : Nat → Bool} {held : Bool} {fuel : Nat} {cs : List Value} {x : DataW H × List MemPlace} (h : DataW.trod enc Tryz.prog W 0 spare held fuel 24 cs = some x) : ∃ v l, cs = [v] ∧ ChunksAt 0 W.heap.size W v l := by
  obtain ⟨v, len, n, C, rfl, hR, hel⟩ := rows_in Tryz.underlying24 cells_chunk (by omega) h
  obtain ⟨l, hl, hP⟩ := list_of (α := Chunk) (P := fun i c => (C i).getD 0 undef = .int .i64 c.number ∧ (C i).getD 1 undef = .int .i64 c.first ∧ (C i).getD 2 undef = .int .i64 c.count ∧ ChunkOk c ∧ CodedsAt 0 W.heap.size W ((C i).getD 3 undef) c.coded) len (fun i hi => by
    obtain ⟨hlen, y, hy⟩ := hel i hi
    obtain ⟨xs, m, _, _, _, hxl, hf⟩ := DataW.trod_struct Tryz.underlying71 hy
    have h0 : DataW.trod enc Tryz.prog W 0 spare held m 3 (((C i).drop 0).take (Tryz.prog.cellsOf 3)) = xs[0]? := hf 0 _ rfl
    have h1 : DataW.trod enc Tryz.prog W 0 spare held m 69 (((C i).drop 1).take (Tryz.prog.cellsOf 69)) = xs[1]? := hf 1 _ rfl
    have h2 : DataW.trod enc Tryz.prog W 0 spare held m 50 (((C i).drop 3).take (Tryz.prog.cellsOf 50)) = xs[2]? := hf 2 _ rfl
    rw [cells_int] at h0
    rw [cells_group] at h1
    rw [cells_codeds] at h2
    obtain ⟨k, hk, hkw⟩ := field_int h0 (some_at hxl (by decide))
    match hC : C i, hlen with
    | [c0, c1, c2, c3], _ =>
      rw [hC] at hk h1 h2
      simp at hk h1 h2
      subst hk
      have e1 : xs[1]? = some (xs[1]'(by rw [hxl]; decide)) := List.getElem?_eq_getElem _
      have e2 : xs[2]? = some (xs[2]'(by rw [hxl]; decide)) := List.getElem?_eq_getElem _
      rw [e1] at h1
      rw [e2] at h2
      obtain ⟨ys, m2, _, _, _, hyl, hg⟩ := DataW.trod_struct Tryz.underlying69 h1
      have g0 : DataW.trod enc Tryz.prog W 0 spare held m2 3 (([c1, c2].drop 0).take (Tryz.prog.cellsOf 3)) = ys[0]? := hg 0 _ rfl
      have g1 : DataW.trod enc Tryz.prog W 0 spare held m2 3 (([c1, c2].drop 1).take (Tryz.prog.cellsOf 3)) = ys[1]? := hg 1 _ rfl
      rw [cells_int] at g0 g1
      obtain ⟨f, hfe, hfw⟩ := field_int g0 (some_at hyl (by decide))
      obtain ⟨c, hce, hcw⟩ := field_int g1 (some_at hyl (by decide))
      simp at hfe hce
      subst hfe; subst hce
      obtain ⟨v3, l3, hv3, hl3⟩ := codeds_in h2
      simp at hv3
      subst hv3
      exact ⟨⟨k, f, c, l3⟩, rfl, rfl, rfl, ⟨i64_in hkw, i64_in hfw, i64_in hcw⟩, hl3⟩)
  exact ⟨v, l, rfl, _, by rw [hl]; exact hR, fun i hi => hP i (by omega)⟩
set_option maxRecDepth 100000 in
/-- a configuration that came in -/
theorem config_in {W : World} {base : Nat} {r : Reach} {spare : Nat → Bool} {held : Bool} {v : Value} {d : DataW H} {p : List MemPlace} (hv : Value.okWide Tryz.prog W r base 23 v) (h : DataW.Trod enc Tryz.prog W 0 spare held 23 v d p) : ∃ c : Cfg, v = c.v := by
  obtain ⟨cs, rfl, hsz⟩ := okWide_struct Tryz.underlying23 hv
  obtain ⟨fuel, hf⟩ := h
  obtain ⟨xs, m, _, _, hlen, hxl, hf⟩ := DataW.trod_struct Tryz.underlying23 hf
  have h0 : DataW.trod enc Tryz.prog W 0 spare held m 3 (((Value.agg cs).cells.toList.drop 0).take (Tryz.prog.cellsOf 3)) = xs[0]? := hf 0 _ rfl
  have h1 : DataW.trod enc Tryz.prog W 0 spare held m 3 (((Value.agg cs).cells.toList.drop 1).take (Tryz.prog.cellsOf 3)) = xs[1]? := hf 1 _ rfl
  have h2 : DataW.trod enc Tryz.prog W 0 spare held m 3 (((Value.agg cs).cells.toList.drop 2).take (Tryz.prog.cellsOf 3)) = xs[2]? := hf 2 _ rfl
  have h3 : DataW.trod enc Tryz.prog W 0 spare held m 3 (((Value.agg cs).cells.toList.drop 3).take (Tryz.prog.cellsOf 3)) = xs[3]? := hf 3 _ rfl
  have h4 : DataW.trod enc Tryz.prog W 0 spare held m 3 (((Value.agg cs).cells.toList.drop 4).take (Tryz.prog.cellsOf 3)) = xs[4]? := hf 4 _ rfl
  have h5 : DataW.trod enc Tryz.prog W 0 spare held m 3 (((Value.agg cs).cells.toList.drop 5).take (Tryz.prog.cellsOf 3)) = xs[5]? := hf 5 _ rfl
  have h6 : DataW.trod enc Tryz.prog W 0 spare held m 3 (((Value.agg cs).cells.toList.drop 6).take (Tryz.prog.cellsOf 3)) = xs[6]? := hf 6 _ rfl
  have h7 : DataW.trod enc Tryz.prog W 0 spare held m 3 (((Value.agg cs).cells.toList.drop 7).take (Tryz.prog.cellsOf 3)) = xs[7]? := hf 7 _ rfl
  rw [cells_int] at h0 h1 h2 h3 h4 h5 h6 h7
  obtain ⟨k0, e0, _⟩ := field_int h0 (some_at hxl (by decide))
  obtain ⟨k1, e1, _⟩ := field_int h1 (some_at hxl (by decide))
  obtain ⟨k2, e2, _⟩ := field_int h2 (some_at hxl (by decide))
  obtain ⟨k3, e3, _⟩ := field_int h3 (some_at hxl (by decide))
  obtain ⟨k4, e4, _⟩ := field_int h4 (some_at hxl (by decide))
  obtain ⟨k5, e5, _⟩ := field_int h5 (some_at hxl (by decide))
  obtain ⟨k6, e6, _⟩ := field_int h6 (some_at hxl (by decide))
  obtain ⟨k7, e7, _⟩ := field_int h7 (some_at hxl (by decide))
  rw [cells_config] at hlen
  obtain ⟨cl⟩ := cs
  have hcells : (Value.agg ⟨cl⟩).cells.toList = cl := rfl
  rw [hcells] at hlen e0 e1 e2 e3 e4 e5 e6 e7
  match cl, hlen with
  | [c0, c1, c2, c3, c4, c5, c6, c7], _ =>
    simp at e0 e1 e2 e3 e4 e5 e6 e7
    subst e0; subst e1; subst e2; subst e3; subst e4; subst e5; subst e6; subst e7
    exact ⟨⟨k0, k1, k2, k3, k4, k5, k6, k7⟩, rfl⟩
end
end Go.Proofs.YtjpbnboaonnfgaaGreatDoor
/- BoxMuxes of the box: for any configuration, sides and chunks, the law kinlaw24.BoxMuxes answers true and leaves its arguments as they were (a container made, or the error told, as the document says). Conditions: errors.errorType is laid as the program's text lays it (the card ties it). -/
namespace Go.Proofs.YtjpbnboaonnfgaaGreatDoor
open Go.ChangeShapes Go.WideShapes Go.ChangeAt Go.RowKit
set_option linter.unusedVariables false
set_option linter.unusedSimpArgs false

set_option maxRecDepth 100000 in
theorem boxMuxes_lifted (os : Os) (started : os.Started) (H : Type) (enc : TypeId × Value → H) :
    ReturnsInHanded {} Tryz.checked os 3 .any (fun w args => (Rows.boxMuxesSpec.pre enc Tryz.prog Tryz.f3 [] false w args ∧ laidMetH Tryz.prog laid1 w) ∧ sizedMet enc Tryz.prog Tryz.f3 (OpenSpec.ofChange Rows.boxMuxesSpec) false w args)
      (Rows.boxMuxesSpec.post enc Tryz.prog Tryz.f3 false true false false) := by
  refine returnsInHanded_of_change_and (C := Tryz.checked) (X := fun w _ => laidMetH Tryz.prog laid1 w) (fun _ _ _ hh h => h.of_heap hh) own_ started (by kernel_rfl) Tryz.func3
    (ChangeSpec.witness_at (enc := enc) (C := Tryz.checked) (os := os) (X := fun w _ => laidMetH Tryz.prog laid1 w) false (laidWorld os) #[.agg #[.int .i64 0, .int .i64 0, .int .i64 0, .int .i64 0, .int .i64 0, .int .i64 0, .int .i64 0, .int .i64 0], .int .i64 0, .int .i64 0, .slice none 0 0] 8 rfl (by kernel_rfl) (by kernel_rfl) (by kernel_rfl) (by kernel_rfl) (by kernel_rfl) (laidWorld_met os _)) ?_
  intro W base args ds gs before hval0 hW _ _ hL _
  have hval : ∀ (j : Nat) t v, Tryz.f3.params[j]? = some t → args[j]? = some v → Value.okWide Tryz.prog W .any base t v := hval0
  have hW' := hW
  obtain ⟨p, q, hA0, hV, rfl, hfz, hnd⟩ := hW
  have hA : DataW.TrodAll enc Tryz.prog W 0 (fun _ => true) true Tryz.f3.params.toList args.toList ds p := hA0
  rw [Tryz.params3] at hA hval
  obtain ⟨v0, vs0, d0, ds0, p0, q0, hargs, rfl, rfl, h0, r0⟩ := trodAll_cons hA
  obtain ⟨v1, vs1, d1, ds1, p1, q1, rfl, rfl, rfl, h1, r1⟩ := trodAll_cons r0
  obtain ⟨v2, vs2, d2, ds2, p2, q2, rfl, rfl, rfl, h2, r2⟩ := trodAll_cons r1
  obtain ⟨v3, vs3, d3, ds3, p3, q3, rfl, rfl, rfl, h3, r3⟩ := trodAll_cons r2
  obtain ⟨rfl, rfl, rfl⟩ := trodAll_nil r3
  obtain rfl : args = #[v0, v1, v2, v3] := by cases args; simp_all
  obtain ⟨rfl, rfl⟩ := trodVars_none hV
  obtain ⟨c, rfl⟩ := config_in (hval 0 23 v0 rfl rfl) h0
  obtain ⟨n1, rfl, rfl, rfl, w1⟩ := open_int Tryz.underlying3 (hval 1 3 v1 rfl rfl) h1
  obtain ⟨n2, rfl, rfl, rfl, w2⟩ := open_int Tryz.underlying3 (hval 2 3 v2 rfl rfl) h2
  obtain ⟨a3, len3, cap3, rfl⟩ := okWide_slice Tryz.underlying24 (hval 3 24 v3 rfl rfl)
  have k0 := h0
  have k3 := h3
  have lt0 : ∀ x ∈ p0, x.block < W.heap.size := by obtain ⟨m, hm⟩ := k0; exact DataW.trod_lt m _ _ _ hm
  have lt3 : ∀ x ∈ p3, x.block < W.heap.size := by obtain ⟨m, hm⟩ := k3; exact DataW.trod_lt m _ _ _ hm
  obtain ⟨l, hl⟩ : ∃ l, ChunksAt 0 W.heap.size W (.slice a3 len3 cap3) l := by
    obtain ⟨fuel, hf⟩ := h3
    obtain ⟨v, l, hv, hl⟩ := chunks_in hf
    have hcs : (Value.slice a3 len3 cap3).cells.toList = [.slice a3 len3 cap3] := rfl
    rw [hcs] at hv
    obtain rfl := (List.cons.inj hv).1
    exact ⟨l, hl⟩
  clear hA0 hval0
  simp only [List.append_nil] at hW'
  refine (muxes_any c n1 n2 hl (Nat.le_refl _) (errT_of_laid hL)).mono fun e W' ⟨he, hq⟩ => ?_
  subst he
  have bel := hq.quiet
  exact ⟨_, rfl, _, _, _, [], _, [], hW', trodAll_mk1 (shut_bool Tryz.underlying4 _), (trodAll_cons_mk (Below.trod laidOut_ (by kernel_rfl) (of_decide_eq_true (by kernel_rfl)) k0 bel lt0) (trodAll_cons_mk (shut_int Tryz.underlying3 w1) (trodAll_cons_mk (shut_int Tryz.underlying3 w2) (trodAll_cons_mk (Below.trod laidOut_ (by kernel_rfl) (of_decide_eq_true (by kernel_rfl)) k3 bel lt3) trodAll_mk0)))), rfl, bel.frame _, fun h => by cases h⟩
theorem boxMuxes_row : Rows.BoxMuxesSaid :=
  OpenClaim.holds_of_wide 3 Tryz.f3 rfl rfl rfl rfl rfl rfl rfl ⟨rfl, rfl, rfl, rfl, rfl⟩ rfl rfl rfl rfl rfl (by kernel_rfl) Tryz.func3 (by kernel_rfl)
    (of_decide_eq_true (by kernel_rfl)) (by unfold Func.isWrapper; first | (rw [if_pos (by decide +kernel)]; kernel_rfl) | (rw [if_neg (by decide +kernel)]; exact ⟨rfl, rfl⟩))
    (fun os started H enc _ => boxMuxes_lifted os started H enc)
theorem boxMuxes_holds : Rows.BoxMuxesCardSaid :=
  Claim7.holds_tied_plain_at .later [] [.handle] true _ true
    boxMuxes_row (fun _ h => by cases h) (by kernel_rfl) (fun _ h => by cases h) boxMuxes_row_tie rfl ⟨rfl, rfl⟩ (by kernel_rfl) rfl
    (fun f fn hf hfn => by
      obtain rfl : f = 3 := Option.some.inj ((show Tryz.prog.funcNamed "kinescope/kinlaw24.BoxMuxes" = some 3 by kernel_rfl).symm.trans hf) |>.symm
      obtain rfl : fn = Tryz.f3 := (Option.some.inj (Tryz.func3.symm.trans hfn)).symm
      exact ⟨by kernel_rfl, fun j t ht => by
        rw [Tryz.params3] at ht
        have hm : t ∈ [23, 3, 3, 24] := by simpa using Array.mem_of_getElem? ht
        have hall : ([23, 3, 3, 24].all fun u => !Tryz.prog.wantsStandIn u) = true := by kernel_rfl
        exact (show Tryz.prog.wantsStandIn t = false by simpa using List.all_eq_true.1 hall t hm)⟩)
    (by kernel_rfl)
#print axioms boxMuxes_holds
end Go.Proofs.YtjpbnboaonnfgaaGreatDoor
