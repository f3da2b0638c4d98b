/- Joined texts: MuxesW. Conditions: each part names its own. -/
import Derived.Test.YtjpbnboaonnfgaaGreatDoorC16
import Derived.Test.YtjpbnboaonnfgaaGreatDoorC13
import Derived.Test.YtjpbnboaonnfgaaGreatDoorC4
import Derived.Test.YtjpbnboaonnfgaaGreatDoorC15
import Derived.Deep.RegionHeld3
/- BoxMuxes answers true. Conditions: the chunks read; the variable errors.errorType is laid. -/
namespace Go.Proofs.YtjpbnboaonnfgaaGreatDoor
open Go.RowKit
set_option linter.unusedVariables false
set_option linter.unusedSimpArgs false

theorem kmux_any {lo hi : Nat} (c : Cfg) (W H : Int) {v : Value} {l : List Chunk} {w : World} (h : ChunksAt lo hi w v l) (hhi : hi ≤ w.heap.size) (hl : l.length ≤ 20)
    (hd : ∀ k, k < l.length → ∀ i, i < (l.getD k default).coded.length → ((l.getD k default).coded.getD i default).data.length ≤ 1000000) :
    Calls Tryz.prog 8 #[c.v, .int .i64 W, .int .i64 H, v] w (KMuxP w (muxR c W H l)) := by
  cases hm : mayB c with
  | false => exact kmux_bad c W H h (.inl hm)
  | true =>
    cases hn : newB W H 0 with
    | false => exact kmux_bad c W H h (.inr hn)
    | true => exact kmux_good c W H h hhi hm hn hl hd

def errO {α : Type} : Except Err α → Option Err
  | .ok _ => none
  | .error e => some e
def listO : Except Err (List Int) → List Int
  | .ok b => b
  | .error _ => []
theorem vcheck_code {c : Cfg} {l : List Int} {k : Int} (h : vcheck c l = some k) : k = 11 ∨ k = 3 := by
  unfold vcheck at h
  split at h
  · cases h; exact .inl rfl
  split at h
  · cases h; exact .inr rfl
  split at h
  · cases h; exact .inr rfl
  cases h
theorem muxR_err {c : Cfg} {W H : Int} {l : List Chunk} {e : Err} (h : muxR c W H l = .error e) : (e.code == 0) = false ∧ e.path.length ≤ 1 := by
  unfold muxR at h
  split at h
  · cases h; exact ⟨rfl, by simp⟩
  split at h
  · cases h; exact ⟨rfl, by simp⟩
  split at h
  · rename_i k hk
    cases h
    unfold checkB at hk
    split at hk
    · cases hk; exact ⟨rfl, by simp⟩
    · split at hk
      · cases hk
      · cases hk; exact ⟨rfl, by simp⟩
  · split at h
    · rename_i e' he
      cases h
      unfold fills at he
      split at he
      · rename_i k hk
        cases he
        rcases vcheck_code hk with rfl | rfl <;> exact ⟨rfl, by simp⟩
      · obtain ⟨h1, h2⟩ := fillsGo_err _ _ _ he
        exact ⟨by rw [h1]; rfl, by omega⟩
    · cases h
theorem few_data {r : Int} {l : List Chunk} (h : fewsB r l = true) : l.length ≤ 20 ∧ ∀ k, k < l.length → ∀ i, i < (l.getD k default).coded.length → ((l.getD k default).coded.getD i default).data.length ≤ 1000000 := by
  simp only [fewsB, Bool.and_eq_true, decide_eq_true_eq] at h
  refine ⟨by omega, fun k hk i hi => ?_⟩
  have h20 : l.take 20 = l := List.take_of_length_le (by omega)
  rw [h20] at h
  have hf := h.1.1.1
  unfold chunksFew at hf
  rw [List.all_eq_true] at hf
  have h1 := hf (l.getD k default) (by simp [hk])
  generalize l.getD k default = x at *
  simp only [fewB, Bool.and_eq_true, decide_eq_true_eq] at h1
  have h40 : x.coded.take 40 = x.coded := List.take_of_length_le h1.1
  rw [h40] at h1
  have h2 := fewSum_take hi
  have h3 := (fewSum_range (x.coded.take i)).1
  have h4 : fewSum (x.coded.take (i + 1)) ≤ fewSum x.coded := by
    have : ∀ (m l : List Coded), fewSum l ≤ fewSum (l ++ m) := by
      intro m
      induction m with
      | nil => intro l; simp
      | cons c m ih =>
        intro l
        have h5 := ih (l ++ [c])
        have h6 : fewSum (l ++ [c]) = fewSum l + min (c.data.length : Int) 20001 := by simp [fewSum, List.foldl_append]
        rw [List.append_assoc] at h5
        have h7 : l ++ ([c] ++ m) = l ++ c :: m := rfl
        rw [h7] at h5
        omega
    have := this (x.coded.drop (i + 1)) (x.coded.take (i + 1))
    rwa [List.take_append_drop] at this
  omega

theorem mux_both {lo hi : Nat} (c : Cfg) (W H : Int) {v : Value} {l : List Chunk} {w : World} (h : ChunksAt lo hi w v l) (hhi : hi ≤ w.heap.size) (hl : l.length ≤ 1000000) :
    Calls Tryz.prog 7 #[c.v, .int .i64 W, .int .i64 H, v] w fun e w' => ∃ u ev, e = .returned (.tuple #[u, ev]) ∧ Ints .u8 w.heap.size w'.heap.size w' u (listO (muxR c W H l)) ∧ OErrV w.heap.size w'.heap.size w' ev (errO (muxR c W H l)) ∧ Only [] w w' := by
  refine (mux_any c W H h hhi hl).mono ?_
  intro e w' hP
  unfold MuxP at hP
  cases hr : muxR c W H l with
  | ok b =>
    rw [hr] at hP
    obtain ⟨hq, u, rfl, hu⟩ := hP
    exact ⟨u, .nilIface, rfl, hu.ints, rfl, hq⟩
  | error er =>
    rw [hr] at hP
    obtain ⟨hq, ev, rfl, hev⟩ := hP
    exact ⟨_, ev, rfl, Ints.nil _ _ _ _, hev, hq⟩
theorem kmux_both {lo hi : Nat} (c : Cfg) (W H : Int) {v : Value} {l : List Chunk} {w : World} (h : ChunksAt lo hi w v l) (hhi : hi ≤ w.heap.size) (hl : l.length ≤ 20)
    (hd : ∀ k, k < l.length → ∀ i, i < (l.getD k default).coded.length → ((l.getD k default).coded.getD i default).data.length ≤ 1000000) :
    Calls Tryz.prog 8 #[c.v, .int .i64 W, .int .i64 H, v] w fun e w' => ∃ u sa scap, e = .returned (.tuple #[u, .agg #[.int .i64 (codeOf (errO (muxR c W H l))), .slice sa (pathOf (errO (muxR c W H l))).length scap]]) ∧ Ints .u8 w.heap.size w'.heap.size w' u (listO (muxR c W H l)) ∧
      Cells 2 w.heap.size w'.heap.size w' (.slice sa (pathOf (errO (muxR c W H l))).length scap) (pathOf (errO (muxR c W H l))).length (flat (pathOf (errO (muxR c W H l)))) ∧ Only [] w w' := by
  refine (kmux_any c W H h hhi hl hd).mono ?_
  intro e w' hP
  unfold KMuxP at hP
  cases hr : muxR c W H l with
  | ok b =>
    rw [hr] at hP
    obtain ⟨hq, u, rfl, hu⟩ := hP
    exact ⟨u, none, 0, rfl, hu.ints, Cells.nil _ _ _ _, hq⟩
  | error er =>
    rw [hr] at hP
    obtain ⟨hq, ev, rfl, sv, rfl, hsv⟩ := hP
    obtain ⟨sa, scap, hsve⟩ : ∃ sa scap, sv = .slice sa er.path.length scap := by obtain ⟨_, sa, scap, h, _⟩ := hsv; exact ⟨sa, scap, h⟩
    subst hsve
    exact ⟨_, sa, scap, rfl, Ints.nil _ _ _ _, hsv, hq⟩

theorem cells8f {Wf : World} {g : Nat} {v0 v1 v2 v3 v4 v5 v6 v7 : Value} {t : TypeId} (h : Wf.heap[g]? = some (.cells #[v0, v1, v2, v3, v4, v5, v6, v7] t (0, 0))) :
    Wf.cell? ⟨g, 0, none⟩ = some v0 ∧ Wf.cell? ⟨g, 1, none⟩ = some v1 ∧ Wf.cell? ⟨g, 2, none⟩ = some v2 ∧ Wf.cell? ⟨g, 3, none⟩ = some v3 ∧ Wf.cell? ⟨g, 4, none⟩ = some v4 ∧ Wf.cell? ⟨g, 5, none⟩ = some v5 ∧ Wf.cell? ⟨g, 6, none⟩ = some v6 ∧ Wf.cell? ⟨g, 7, none⟩ = some v7 := by
  refine ⟨?_, ?_, ?_, ?_, ?_, ?_, ?_, ?_⟩ <;> (rw [cell_of_row _ _ _ _ _ _ h]; rfl)
/-- what the law holds behind both calls: the document's bytes, its error in a variable -/
def MuxMid (w : World) (R : Except Err (List Int)) (s11 s12 : Value) (wx : World) : Prop :=
  ∃ (g : Nat) (sa : Option Addr) (scap : Nat), s12 = .pointer (some ⟨g, 0, none⟩) ∧ wx.heap[g]? = some (.cells #[.int .i64 (codeOf (errO R)), .slice sa (pathOf (errO R)).length scap] 35 (0, 0)) ∧
    Ints .u8 0 wx.heap.size wx s11 (listO R) ∧ Cells 2 0 wx.heap.size wx (.slice sa (pathOf (errO R)).length scap) (pathOf (errO R)).length (flat (pathOf (errO R))) ∧ Only [] w wx
theorem MuxMid.mk1 {w w5 : World} {R : Except Err (List Int)} {dv : Value} {g lo hi : Nat} {sa : Option Addr} {scap : Nat} (h : Only [] w w5) (rE : w5.heap[g]? = some (.cells #[.int .i64 0, .slice none 0 0] 35 (0, 0))) (hg : w.heap.size ≤ g)
    (hdv : Ints .u8 lo hi w5 dv (listO R)) (hsv : Cells 2 lo hi w5 (.slice sa (pathOf (errO R)).length scap) (pathOf (errO R)).length (flat (pathOf (errO R)))) (hlo : g < lo) (hhi : hi ≤ w5.heap.size) :
    MuxMid w R dv (.pointer (some ⟨g, 0, none⟩)) ((w5.setCell ⟨g, 0, none⟩ (.int .i64 (codeOf (errO R)))).setCell ⟨g, 1, none⟩ (.slice sa (pathOf (errO R)).length scap)) := by
  have hs : Only [g] w5 ((w5.setCell ⟨g, 0, none⟩ (.int .i64 (codeOf (errO R)))).setCell ⟨g, 1, none⟩ (.slice sa (pathOf (errO R)).length scap)) := ((Only.refl _ _).setCell (by simp) _).setCell (by simp) _
  have hz := hs.size
  refine ⟨g, sa, scap, rfl, heap_setCell_same _ g 1 _ _ _ (heap_setCell_same w5 g 0 _ _ _ rE), (hdv.only hs (fun x hx => ?_)).mono (Nat.zero_le _) (Nat.le_trans hhi hz), (hsv.only hs (fun x hx => ?_)).mono (Nat.zero_le _) (Nat.le_trans hhi hz), h.set2 hg _ _⟩
  · rw [List.mem_singleton] at hx; omega
  · rw [List.mem_singleton] at hx; omega
theorem MuxMid.mk2 {w w5 : World} {R : Except Err (List Int)} {dv : Value} {lo : Nat} {sa : Option Addr} {scap : Nat} (h : Only [] w w5)
    (hdv : Ints .u8 lo w5.heap.size w5 dv (listO R)) (hsv : Cells 2 lo w5.heap.size w5 (.slice sa (pathOf (errO R)).length scap) (pathOf (errO R)).length (flat (pathOf (errO R)))) :
    MuxMid w R dv (.pointer (some ⟨w5.heap.size, 0, none⟩)) (w5.alloc (.cells #[.int .i64 (codeOf (errO R)), .slice sa (pathOf (errO R)).length scap] 35)) := by
  have hs := Only.new w5 (.cells #[.int .i64 (codeOf (errO R)), .slice sa (pathOf (errO R)).length scap] 35)
  exact ⟨_, sa, scap, rfl, heap_alloc_new _ _, (hdv.quiet hs).mono (Nat.zero_le _) hs.size, (hsv.only hs (by simp)).mono (Nat.zero_le _) hs.size, h.q hs⟩

set_option maxRecDepth 100000 in
set_option maxHeartbeats 16000000 in
theorem muxes_any {lo hi : Nat} (c : Cfg) (W H : Int) {v : Value} {l : List Chunk} {w : World} (h : ChunksAt lo hi w v l) (hhi : hi ≤ w.heap.size) (hE : ErrT w) :
    Calls Tryz.prog 3 #[c.v, .int .i64 W, .int .i64 H, v] w fun e w' => e = .returned (.bool true) ∧ Only [] w w' := by
  obtain ⟨va, vcap, rfl, hvc, hvm, _⟩ := h.open
  have Hh := Lib.hid h
  have HE := Lib.hid hE
  have HFEW := Lib.hid (fun w' (o : Only [] w w') => few_any c (h.quiet o))
  have HD := Lib.hid (fun (hf : fewsB c.rate l = true) => few_data hf)
  have HMUX := Lib.hid (fun w' (o : Only [] w w') (hl : l.length ≤ 1000000) => mux_both c W H (h.quiet o) (Nat.le_trans hhi o.size) hl)
  have HPL := Lib.hid (fun w' (o : Only [] w w') (hl : l.length ≤ 1000) => plain_any (h.quiet o) (Nat.le_trans hhi o.size) hl)
  have HKM := Lib.hid (fun (w' : World) (lo hi : Nat) (u : Value) (hu : ChunksAt lo hi w' u l) (hh : hi ≤ w'.heap.size) (hf : fewsB c.rate l = true) => kmux_both c W H hu hh (few_data hf).1 (few_data hf).2)
  have HCode := Lib.hid (show (errO (muxR c W H l)).isNone = (codeOf (errO (muxR c W H l)) == 0) ∧ (pathOf (errO (muxR c W H l))).length ≤ 1 from by
    cases hr : muxR c W H l with
    | ok b => exact ⟨rfl, by simp [errO, pathOf]⟩
    | error er => obtain ⟨h1, h2⟩ := muxR_err hr; exact ⟨h1.symm, h2⟩)
  generalize muxR c W H l = R at *
  obtain ⟨a0, a1, a2, a3, a4, a5, a6, a7⟩ := c
  simp only at HFEW HD HKM
  have HO := Lib.hid (Only.new w (.cells #[.int .i64 a0, .int .i64 a1, .int .i64 a2, .int .i64 a3, .int .i64 a4, .int .i64 a5, .int .i64 a6, .int .i64 a7] 23))
  clear h hE hvm hvc
  unfold Cfg.v at HFEW HMUX HKM ⊢
  simp only at HFEW HMUX HKM ⊢
  cases hfew : fewsB a5 l with
  | false =>
    rw [hfew] at HFEW
    clear hfew
    go_enter Tryz.func3, Tryz.ntmps3
    go_wp2_with fail
    go_at_call 5
    refine (first_any (HE.out.quiet HO.out)).mono ?_
    rintro e w1 ⟨rfl, hq1⟩
    have HF1 := Lib.hid (HO.out.q hq1)
    have rC := hq1.row (heap_alloc_new w _)
    obtain ⟨⟨m0, m1, m2, m3⟩, m4, m5, m6, m7⟩ := cells8 rC
    clear hq1 rC
    go_wp2_with fail
    go_at_call 6
    refine (HFEW.out _ HF1.out).mono ?_
    rintro e w2 ⟨rfl, hq2⟩
    have HF2 := Lib.hid (HF1.out.q hq2)
    clear hq2
    go_wp2_with fail
    go_at_call 5
    refine (first_any (HE.out.quiet HF2.out)).mono ?_
    rintro e w3 ⟨rfl, hq3⟩
    go_wp2_with fail
    go_ret
    exact ⟨rfl, HF2.out.q hq3⟩
  | true =>
    rw [hfew] at HFEW
    have Hfew := Lib.hid hfew
    have hl20 := (HD.out hfew).1
    clear hfew
    go_enter Tryz.func3, Tryz.ntmps3
    go_wp2_with fail
    go_at_call 5
    refine (first_any (HE.out.quiet HO.out)).mono ?_
    rintro e w1 ⟨rfl, hq1⟩
    have HF1 := Lib.hid (HO.out.q hq1)
    have rC := hq1.row (heap_alloc_new w _)
    obtain ⟨⟨m0, m1, m2, m3⟩, m4, m5, m6, m7⟩ := cells8 rC
    have HC1 := Lib.hid rC
    clear hq1 rC
    go_wp2_with fail
    go_at_call 6
    refine (HFEW.out _ HF1.out).mono ?_
    rintro e w2 ⟨rfl, hq2⟩
    have HF2 := Lib.hid (HF1.out.q hq2)
    have rC := hq2.row HC1.out
    have HC2 := Lib.hid rC
    clear m0 m1 m2 m3 m4 m5 m6 m7
    obtain ⟨⟨m0, m1, m2, m3⟩, m4, m5, m6, m7⟩ := cells8 rC
    clear hq2 rC HC1
    go_wp2_with fail
    go_at_call 7
    refine (HMUX.out _ HF2.out (by omega)).mono ?_
    rintro e w3 ⟨bv, ev, rfl, hbv, hev, hq3⟩
    have HF3 := Lib.hid (HF2.out.q hq3)
    have HBV := Lib.hid hbv
    have HEV := Lib.hid hev
    have rC := hq3.row HC2.out
    have HC3 := Lib.hid rC
    clear m0 m1 m2 m3 m4 m5 m6 m7
    obtain ⟨⟨m0, m1, m2, m3⟩, m4, m5, m6, m7⟩ := cells8 rC
    clear hq3 rC HC2 hbv hev
    go_wp2_with fail
    have hne3 : (w3.heap.size = w.heap.size) = False := eq_false (by have := (Array.getElem?_eq_some_iff.1 HC3.out).1; omega)
    go_cut [11, 12] from 28 to 36 (fun s11 s12 wx => MuxMid w3 R s11 s12 wx)
    case first =>
      go_region_held3 (fun w' => w'.cell? ⟨w.heap.size, 0, none⟩ = some (.int .i64 a0) ∧ w'.cell? ⟨w.heap.size, 1, none⟩ = some (.int .i64 a1) ∧ w'.cell? ⟨w.heap.size, 2, none⟩ = some (.int .i64 a2) ∧ w'.cell? ⟨w.heap.size, 3, none⟩ = some (.int .i64 a3) ∧ w'.cell? ⟨w.heap.size, 4, none⟩ = some (.int .i64 a4) ∧ w'.cell? ⟨w.heap.size, 5, none⟩ = some (.int .i64 a5) ∧ w'.cell? ⟨w.heap.size, 6, none⟩ = some (.int .i64 a6) ∧ w'.cell? ⟨w.heap.size, 7, none⟩ = some (.int .i64 a7))
        (first
          | (simp only [World.cell?_setCell_far, ne_eq, hne3, not_false_eq_true]; exact cells8f HC5.out)
          | (simp only [World.cell?_setCell_far, ne_eq, hne4, not_false_eq_true]; exact cells8f HC5.out)
          | (exact cells8f HC5.out)
          | (exact cells8f ((Only.new w5 _).row HC5.out))
          | (exact cells8f HC4.out)
          | (exact cells8f ((Only.new w4 _).row HC4.out))
          | (simp [*, World.cell?_alloc_some, World.cell?_setCell_far, frozen?_alloc_cells, frozen_drew, World.frozen?_setCell])
          | fail)
        (first
          | (go_at_call 8; refine (HKM.out _ _ _ _ (by first | exact hpl | exact hpl.quiet (Only.new _ _)) (by simp) Hfew.out).mono ?_; rintro e w5 ⟨dv, sa, scap, rfl, hdv, hsv, hq5⟩;
              (first | (have HC5 := Lib.hid (hq5.row HC4.out)) | (have HC5 := Lib.hid (hq5.row ((Only.new w4 _).row HC4.out)))); (first | (have hEE := hq5.row HEa.out; obtain ⟨e0, e1, e2, e3, _⟩ := row2 hEE) | (have hEE := hq5.row (heap_alloc_new w4 _); obtain ⟨e0, e1, e2, e3, _⟩ := row2 hEE) | skip))
          | (go_at_call 9; refine (HPL.out _ (by first | exact HF3.out.drew | exact HF3.out.drew.alloc _ | exact (HF3.out.alloc _).drew) (by omega)).mono ?_; rintro e w4 ⟨pv, rfl, hpl, hq4⟩;
              (first | (have HC4 := Lib.hid (((Only.refl [] w3).drew.q hq4).row HC3.out)) | (have HC4 := Lib.hid ((((Only.refl [] w3).drew.q (Only.new _ _)).q hq4).row HC3.out))); (first | (have HEa := Lib.hid (hq4.row (heap_alloc_new' (w := w3.drew) (g := w3.heap.size) rfl))) | (have HEa := Lib.hid (hq4.row (show ((w3.alloc (.cells #[.int .i64 0, .slice none 0 0] 35)).drew).heap[w3.heap.size]? = some (.cells #[.int .i64 0, .slice none 0 0] 35 (0, 0)) from heap_alloc_new w3 _))) | skip); have hne4 : (w4.heap.size = w.heap.size) = False := eq_false (by have := (Array.getElem?_eq_some_iff.1 HC4.out).1; omega))
          | fail)
      all_goals
        go_wp2_with fail
        go_meet
        first
          | (have rr := hq5.row HEa.out; first | exact MuxMid.mk1 ((((Only.refl [] w3).drew.alloc _).q hq4).q hq5) rr (Nat.le_refl _) hdv hsv (Array.getElem?_eq_some_iff.1 HEa.out).1 (Nat.le_refl _) | exact MuxMid.mk1 ((((Only.new w3 _).drew).q hq4).q hq5) rr (Nat.le_refl _) hdv hsv (Array.getElem?_eq_some_iff.1 HEa.out).1 (Nat.le_refl _))
          | (have rr := hq5.row (heap_alloc_new w4 _); exact MuxMid.mk1 ((((Only.refl [] w3).drew.q hq4).q (Only.new _ _)).q hq5) rr ((Only.refl [] w3).drew.q hq4).size hdv hsv (by simp) (Nat.le_refl _))
          | (exact MuxMid.mk2 (((Only.refl [] w3).drew.q hq4).q hq5) hdv hsv)
          | fail
    case rest =>
      obtain ⟨g, sa, scap, rfl, rg, hdv, hsv, hq⟩ := hcut
      have HQ := Lib.hid (HF3.out.q hq)
      have HQ3 := Lib.hid hq
      have HDV := Lib.hid hdv
      have HSV := Lib.hid hsv
      have HRG := Lib.hid rg
      have hee : eqB (listO R) (listO R) = true := by simp [eqB]
      have HEe := Lib.hid hee
      clear hq hdv hsv rg hee m0 m1 m2 m3 m4 m5 m6 m7
      go_wp2_with fail
      go_at_call 5
      refine (first_any (HE.out.quiet HQ.out)).mono ?_
      rintro e w6 ⟨rfl, hq6⟩
      have HQ6 := Lib.hid hq6
      obtain ⟨x0, x1, _, _, _⟩ := row2 (hq6.row HRG.out)
      clear hq6
      go_wp2_with fail
      go_at_call 10
      refine (bytes_any (HBV.out.quiet (HQ3.out.q HQ6.out)) (HDV.out.quiet HQ6.out)).mono ?_
      rintro e w' ⟨rfl, rfl⟩
      rw [HEe.out]
      go_wp2_with fail
      go_at_call 11
      refine (same_any (HEV.out.only (HQ3.out.q HQ6.out) (by simp)) (by have := (HQ3.out.q HQ6.out).size; omega) (HE.out.quiet (HQ.out.q HQ6.out)) (by have := HCode.out.2; omega) (HSV.out.only HQ6.out (by simp)) HCode.out.1 rfl rfl).mono ?_
      rintro e w7 ⟨rfl, hq7⟩
      go_wp2_with fail
      go_ret
      exact ⟨rfl, (HQ.out.q HQ6.out).q hq7⟩
end Go.Proofs.YtjpbnboaonnfgaaGreatDoor
