/- Joined texts: KParts. Conditions: each part names its own. -/
import Derived.Test.YtmbjehnddgcboaaGreatDoorZKPart
import Derived.Test.YtmbjehnddgcboaaGreatDoorZRdL
import Derived.Deep.RegionLaw
/- The document's container: parts. Conditions: the reader and what is read lie in blocks behind the units. -/
namespace Go.Proofs.YtmbjehnddgcboaaGreatDoor
open Go.RowKit
set_option linter.unusedVariables false
set_option linter.unusedSimpArgs false

/-- what is read of a container, in block A -/
def AllAt (A : Nat) (w : World) (W H F c0 c1 c2 c3 c4 c5 c6 c7 : Int) (pv cv fv : Value) : Prop :=
  w.heap[A]? = some (.cells #[.int .i64 W, .int .i64 H, .int .i64 F, .int .i64 c0, .int .i64 c1, .int .i64 c2, .int .i64 c3, .int .i64 c4, .int .i64 c5, .int .i64 c6, .int .i64 c7, pv, cv, fv] 38 (0, 0))
section
variable {A : Nat} {w w' : World} {W H F c0 c1 c2 c3 c4 c5 c6 c7 : Int} {pv cv fv v : Value} {S : List Nat}
theorem AllAt.only (h : AllAt A w W H F c0 c1 c2 c3 c4 c5 c6 c7 pv cv fv) (o : Only S w w') (hS : A ∉ S) : AllAt A w' W H F c0 c1 c2 c3 c4 c5 c6 c7 pv cv fv := o.rowAt h hS
theorem AllAt.quiet (h : AllAt A w W H F c0 c1 c2 c3 c4 c5 c6 c7 pv cv fv) (o : Only [] w w') : AllAt A w' W H F c0 c1 c2 c3 c4 c5 c6 c7 pv cv fv := o.rowAt h (by simp)
theorem AllAt.cF (h : AllAt A w W H F c0 c1 c2 c3 c4 c5 c6 c7 pv cv fv) : w.cell? ⟨A, 2, none⟩ = some (.int .i64 F) := by rw [cell_of_row _ _ _ _ _ _ h]; rfl
theorem AllAt.cP (h : AllAt A w W H F c0 c1 c2 c3 c4 c5 c6 c7 pv cv fv) : w.cell? ⟨A, 11, none⟩ = some pv := by rw [cell_of_row _ _ _ _ _ _ h]; rfl
theorem AllAt.cC (h : AllAt A w W H F c0 c1 c2 c3 c4 c5 c6 c7 pv cv fv) : w.cell? ⟨A, 12, none⟩ = some cv := by rw [cell_of_row _ _ _ _ _ _ h]; rfl
theorem AllAt.cV (h : AllAt A w W H F c0 c1 c2 c3 c4 c5 c6 c7 pv cv fv) : w.cell? ⟨A, 13, none⟩ = some fv := by rw [cell_of_row _ _ _ _ _ _ h]; rfl
theorem AllAt.f (h : AllAt A w W H F c0 c1 c2 c3 c4 c5 c6 c7 pv cv fv) (j : Nat) : w.frozen? ⟨A, j, none⟩ = false := frozen_of_row w A j _ _ h
theorem AllAt.lt (h : AllAt A w W H F c0 c1 c2 c3 c4 c5 c6 c7 pv cv fv) : A < w.heap.size := (Array.getElem?_eq_some_iff.1 h).1
theorem AllAt.setP (h : AllAt A w W H F c0 c1 c2 c3 c4 c5 c6 c7 pv cv fv) : AllAt A (w.setCell ⟨A, 11, none⟩ v) W H F c0 c1 c2 c3 c4 c5 c6 c7 v cv fv := heap_setCell_same w A 11 _ _ v h
theorem AllAt.setC (h : AllAt A w W H F c0 c1 c2 c3 c4 c5 c6 c7 pv cv fv) : AllAt A (w.setCell ⟨A, 12, none⟩ v) W H F c0 c1 c2 c3 c4 c5 c6 c7 pv v fv := heap_setCell_same w A 12 _ _ v h
theorem AllAt.setV (h : AllAt A w W H F c0 c1 c2 c3 c4 c5 c6 c7 pv cv fv) : AllAt A (w.setCell ⟨A, 13, none⟩ v) W H F c0 c1 c2 c3 c4 c5 c6 c7 pv cv v := heap_setCell_same w A 13 _ _ v h
end

/-- what parts hands back -/
def KPartsP (K : KS) (R A : Nat) (w : World) (W H F c0 c1 c2 c3 c4 c5 c6 c7 : Int) (r : PartsRes × Nat × Nat) (e : Ending) (w' : World) : Prop :=
  Only [R, A] w w' ∧ KRd K R w' r.2.1 r.2.2 ∧ ∃ pv cv fv, AllAt A w' W H F c0 c1 c2 c3 c4 c5 c6 c7 pv cv fv ∧ (∃ a n c, pv = .slice a n c) ∧ (∃ a n c, cv = .slice a n c) ∧ (∃ a n c, fv = .slice a n c) ∧ match r.1 with
    | .ok x => e = .returned (.agg #[.int .i64 0, .slice none 0 0]) ∧ OwnE w.heap.size w' pv x.1 ∧ OwnK K.lo K.hi w.heap.size w' cv x.2.1 ∧ Own .i64 3 w.heap.size w' fv x.2.2 ∧ Sep cv fv ∧ Sep cv pv ∧ Sep fv pv
    | .error er => ∃ sa scap, e = .returned (.agg #[.int .i64 er.code, .slice sa er.path.length scap]) ∧ Cells 2 K.lo K.hi w' (.slice sa er.path.length scap) er.path.length (flat er.path)

theorem partR_peek {l : List Int} {p n : Nat} {num first left behind : Int} : partR l p n num first left behind = match peekR l p with
    | .error e => (.error e, p, n)
    | .ok u => if u.kind ≠ 17 ∨ u.data.length ≠ 3 ∨ u.data.getD 0 0 ≠ num ∨ u.data.getD 1 0 ≠ first ∨ u.data.getD 2 0 < 1 ∨ left - behind < u.data.getD 2 0 ∨ (behind = 0 ∧ u.data.getD 2 0 ≠ left) then (.error ⟨[], 2⟩, p, n)
      else (match (framesR l (u.data.getD 2 0).toNat 0 u.end_ (n + 1)).1 with
        | .error e => .error e
        | .ok x => .ok (⟨first, u.data.getD 2 0, p, ((framesR l (u.data.getD 2 0).toNat 0 u.end_ (n + 1)).2.1 : Int) - p⟩, x.1, x.2), (framesR l (u.data.getD 2 0).toNat 0 u.end_ (n + 1)).2) := by
  unfold partR nextR
  cases h : peekR l p with
  | error e => rfl
  | ok u =>
    simp only
    by_cases h1 : u.kind = 17
    · by_cases h2 : u.data.length = 3
      · rw [if_neg (c := u.kind ≠ 17 ∨ (u.data.length : Int) ≠ 3) (by rw [h1, h2]; simp)]
        simp only
        by_cases hc : u.data.getD 0 0 ≠ num ∨ u.data.getD 1 0 ≠ first ∨ u.data.getD 2 0 < 1 ∨ left - behind < u.data.getD 2 0 ∨ (behind = 0 ∧ u.data.getD 2 0 ≠ left)
        · rw [if_pos hc, if_pos (.inr (.inr hc))]
        · rw [if_neg hc, if_neg (fun h => by rcases h with h | h | h; exact h h1; exact h h2; exact hc h)]
          cases (framesR l (u.data.getD 2 0).toNat 0 u.end_ (n + 1)).1 <;> rfl
      · rw [if_pos (c := u.kind ≠ 17 ∨ (u.data.length : Int) ≠ 3) (.inr (by omega)), if_pos (.inr (.inl h2))]
    · rw [if_pos (c := u.kind ≠ 17 ∨ (u.data.length : Int) ≠ 3) (.inl h1), if_pos (.inl h1)]
theorem kframesR_err {l : List Int} : ∀ (c i p n : Nat) {er : Err}, (framesR l c i p n).1 = .error er → er.code ≠ 0 ∧ er.path.length ≤ 1
  | 0, i, p, n, er, h => by simp only [framesR] at h; cases h
  | c + 1, i, p, n, er, h => by
    rw [framesR_frame] at h
    cases hf : frameR l p (i == 0) true with
    | error e => rw [hf] at h; simp only at h; cases h; exact frameR_err hf
    | ok u =>
      rw [hf] at h
      simp only [consF] at h
      split at h
      · cases h
      · rename_i e he; cases h; exact kframesR_err c _ _ _ he
theorem partsR_step {l : List Int} {F parts : Int} {c k a p n : Nat} : partsR l F parts (c + 1) k a p n = match (partR l p n k a (F - a) (parts - 1 - k)).1 with
    | .error e => (.error e, (partR l p n k a (F - a) (parts - 1 - k)).2)
    | .ok x => consP x.1 x.2.1 x.2.2 (partsR l F parts c (k + 1) (a + x.2.1.length) (partR l p n k a (F - a) (parts - 1 - k)).2.1 (partR l p n k a (F - a) (parts - 1 - k)).2.2) := by
  rw [partsR]
  cases (partR l p n k a (F - a) (parts - 1 - k)).1 <;> rfl

/-- behind a part: what is read so far -/
def PartsMid (K : KS) (R A q m B : Nat) (w : World) (W H F c0 c1 c2 c3 c4 c5 c6 c7 : Int) (es : List Entry) (cs : List Coded) (fs : List Int) (cv fv : Value) (db dj : Nat) (d : Value) (wx : World) : Prop :=
  ∃ pa pcap, AllAt A wx W H F c0 c1 c2 c3 c4 c5 c6 c7 (.slice pa es.length pcap) cv fv ∧ OwnE B wx (.slice pa es.length pcap) es ∧ OwnK K.lo K.hi B wx cv cs ∧ Own .i64 3 B wx fv fs ∧ Sep cv fv ∧ Sep cv (.slice pa es.length pcap) ∧ Sep fv (.slice pa es.length pcap) ∧ KRd K R wx q m ∧
    wx.heap[w.heap.size]? = some zErr ∧ Only [R, A] w wx ∧ wx.cell? ⟨db, dj, none⟩ = some d
theorem PartsMid.of {K : KS} {R A q m B db dj : Nat} {w W8 wy w9 : World} {W H F c0 c1 c2 c3 c4 c5 c6 c7 : Int} {es : List Entry} {cs : List Coded} {fs : List Int} {pv cv fv d : Value} {p9 : Option Addr} {p9cap : Nat} {e : Entry}
    (hk8 : KRd K R W8 q m) (rE8 : W8.heap[w.heap.size]? = some zErr) (hO8 : Only [R, A] w W8) (hoc8 : OwnK K.lo K.hi B W8 cv cs) (hof8 : Own .i64 3 B W8 fv fs) (s1 : Sep cv pv) (s2 : Sep cv fv) (s3 : Sep fv pv) (y8 : W8.cell? ⟨db, dj, none⟩ = some d)
    (hq : Only [] W8 wy) (hpv : ∀ g, pv.ownBlock = some g → B ≤ g ∧ g < W8.heap.size) (hown9 : w9.ownsRow B 59 4 (.slice p9 (es.length + 1) p9cap) (es.length + 1) (flatE es ++ flatE [e])) (hacc9 : Acc pv wy (.slice p9 (es.length + 1) p9cap) w9)
    (hA9 : AllAt A w9 W H F c0 c1 c2 c3 c4 c5 c6 c7 pv cv fv) (hB : B = w.heap.size + 1) (hA : A < w.heap.size) (hhA : K.hi ≤ A) (hAR : A ≠ R) (hR : R < w.heap.size) (hdb : db < K.hi) (hhR : K.hi ≤ R) :
    PartsMid K R A q m B w W H F c0 c1 c2 c3 c4 c5 c6 c7 (es ++ [e]) cs fs cv fv db dj d (w9.setCell ⟨A, 11, none⟩ (.slice p9 (es.length + 1) p9cap)) := by
  have hl : (es ++ [e]).length = es.length + 1 := by simp
  have hat9 := hown9.lt
  have o9 : Only [A] w9 (w9.setCell ⟨A, 11, none⟩ (.slice p9 (es.length + 1) p9cap)) := (Only.refl _ _).setCell (by simp) _
  have hA1 : ∀ g ∈ [A], g = A := fun g hg => List.mem_singleton.1 hg
  have hp : ∀ g ∈ pv.ownBlock.toList, pv.ownBlock = some g := fun g hg => by simpa using hg
  have hzq := hq.size
  refine ⟨p9, p9cap, ?_, ?_, ?_, ?_, s2, ?_, ?_, ?_, ?_, ?_, ?_⟩
  · rw [hl]; exact hA9.setP
  · show World.ownsRow _ _ _ _ (.slice p9 (es ++ [e]).length p9cap) (es ++ [e]).length (flatE (es ++ [e]))
    rw [hl, flatE_append]
    exact owns_only hown9 o9 (fun g hg e => by rw [hA1 g hg] at e; have := (hat9 A e).1; omega)
  · refine ((hoc8.quiet hq).only hacc9.only (fun g hg => ⟨?_, fun e => s1 g e (hp g hg)⟩)).only o9 (fun g hg => ?_)
    · have := (hpv g (hp g hg)).1; omega
    · rw [hA1 g hg]; exact ⟨hhA, fun e => by have := (hoc8.at A e).1; omega⟩
  · refine ((hof8.quiet hq).only hacc9.only (fun g hg e => s3 g e (hp g hg))).only o9 (fun g hg => ?_)
    rw [hA1 g hg]; exact fun e => by have := (hof8.at A e).1; omega
  · rw [hl]; exact (hacc9.sep s1.symm (fun g hg => by have := (hoc8.at g hg).2; omega)).symm
  · rw [hl]; exact (hacc9.sep s3.symm (fun g hg => by have := (hof8.at g hg).2; omega)).symm
  · refine ((hk8.quiet hq).only hacc9.only (fun g hg => ?_)).only o9 (fun g hg => ?_)
    · have := (hpv g (hp g hg)).1; exact ⟨by omega, by omega⟩
    · rw [hA1 g hg]; exact ⟨hhA, hAR⟩
  · exact o9.rowAt (hacc9.only.rowAt (hq.row rE8) (fun hm => by have := (hpv _ (hp _ hm)).1; omega)) (by simp; omega)
  · exact ((hO8.trans hq (fun g h _ => h) (by simp)).trans hacc9.only (fun g h _ => h) (fun g hg hlt => by have := (hpv g (hp g hg)).1; omega)).trans o9 (fun g h _ => h) (fun g hg _ => by rw [hA1 g hg]; simp)
  · exact o9.cell (hacc9.only.cell (hq.cell y8 (by simp)) (fun hm => by have := (hpv _ (hp _ hm)).1; simp only at this; omega)) (by simp; omega)

set_option maxRecDepth 100000 in
set_option maxHeartbeats 16000000 in
theorem kparts_any {K : KS} {R A p n : Nat} {bv : Value} {w : World} {W H F c0 c1 c2 c3 c4 c5 c6 c7 : Int} (NP : Nat) (h : KRd K R w p n) (hA : AllAt A w W H F c0 c1 c2 c3 c4 c5 c6 c7 (.slice none 0 0) (.slice none 0 0) (.slice none 0 0)) (hhA : K.hi ≤ A) (hAR : A ≠ R) (hNP : (NP : Int) ≤ F) (hF : F ≤ 16) :
    Calls Tryz.prog 42 #[.pointer (some ⟨A, 0, none⟩), .pointer (some ⟨R, 0, none⟩), bv, .int .i64 NP] w (KPartsP K R A w W H F c0 c1 c2 c3 c4 c5 c6 c7 (partsR K.l F NP NP 0 0 p n)) := by
  suffices key : ∀ Q : Ending → World → Prop, Hid (∀ e w', KPartsP K R A w W H F c0 c1 c2 c3 c4 c5 c6 c7 (partsR K.l F NP NP 0 0 p n) e w' → Q e w') → Calls Tryz.prog 42 #[.pointer (some ⟨A, 0, none⟩), .pointer (some ⟨R, 0, none⟩), bv, .int .i64 NP] w Q from key _ (Lib.hid fun _ _ h => h)
  intro Q HPost
  have hRl := h.lt
  have hAl := hA.lt
  have hhi := h.hiR
  have hlhi : K.hi ≤ w.heap.size := by omega
  have hsmall := Lib.hid h.small
  have hnpi : (NP : Int) ≤ 16 := by omega
  go_enter Tryz.func42, Tryz.ntmps42
  go_wp2
  go_loopw [10, 9] (fun i x wr => ∃ (k q m : Nat) (es : List Entry) (cs : List Coded) (fs : List Int) (pv cv fv : Value), k ≤ NP ∧ i = .int .i64 k ∧ x = .int .i64 (cs.length : Nat) ∧ es.length = k ∧ fs.length = cs.length ∧ (cs.length : Int) ≤ F ∧
    Hid (preP es cs fs (partsR K.l F NP (NP - k) k cs.length q m) = partsR K.l F NP NP 0 0 p n) ∧ KRd K R wr q m ∧ AllAt A wr W H F c0 c1 c2 c3 c4 c5 c6 c7 pv cv fv ∧
    OwnE (w.heap.size + 1) wr pv es ∧ OwnK K.lo K.hi (w.heap.size + 1) wr cv cs ∧ Own .i64 3 (w.heap.size + 1) wr fv fs ∧ Sep cv fv ∧ Sep cv pv ∧ Sep fv pv ∧ wr.heap[w.heap.size]? = some zErr ∧ Only [R, A] w wr) (fun i _ _ => NP - (intOf i).toNat)
  case atStart => exact ⟨0, p, n, [], [], [], .slice none 0 0, .slice none 0 0, .slice none 0 0, by omega, rfl, rfl, rfl, rfl, by simp; omega, Lib.hid (preP_nil _), h.quiet (Only.new _ _), hA.quiet (Only.new _ _), World.ownsRow_nil _ _ _ _, OwnK.nil (by omega) _, Own.nil _ _ _ _, Sep.nil _, Sep.nil _, Sep.nil _, heap_alloc_new _ _, (Only.new w zErr).mono (by simp)⟩
  case round =>
    clear h hA
    obtain ⟨k, q, m, es, cs, fs, pv, cv, fv, hk, rfl, rfl, hel, hfl, hcl, Hk, hrd, hall, hoe, hoc, hof, hs1, hs2, hs3, rE, hO⟩ := hrel
    have hwr : w.heap.size < wr.heap.size := (Array.getElem?_eq_some_iff.1 rE).1
    obtain ⟨pa, pcap, hpv⟩ : ∃ a cap, pv = .slice a es.length cap := by obtain ⟨_, a, cap, h, _⟩ := Cells.of_own hoe; exact ⟨a, cap, h⟩
    subst hpv
    obtain ⟨ca, ccap, rfl⟩ := hoc.isSlice
    obtain ⟨fa, fcap, hfv, _⟩ := hof.ints.open
    subst hfv
    have HOE := Lib.hid hoe
    have HOC := Lib.hid hoc
    have HOF := Lib.hid hof
    have HS1 := Lib.hid hs1
    have HS2 := Lib.hid hs2
    have HS3 := Lib.hid hs3
    have HRE := Lib.hid rE
    have HO := Lib.hid hO
    have HAll := Lib.hid hall
    have Hel := Lib.hid hel
    have Hfl := Lib.hid hfl
    have HRd := Lib.hid hrd
    by_cases hlt : k < NP
    · obtain ⟨g, hg⟩ : ∃ g, NP - k = g + 1 := ⟨NP - k - 1, by omega⟩
      have hlti : (k : Int) < (NP : Int) := by omega
      have hk0 : (0 : Int) ≤ (k : Int) := by omega
      have hcl0 : (0 : Int) ≤ (cs.length : Int) := by omega
      have Hg := Lib.hid hg
      have Hlt := Lib.hid hlt
      have hql : (q : Int) ≤ 1000000000000 := by have := hrd.ple; have := hrd.small; omega
      have hq0 : (0 : Int) ≤ (q : Int) := by omega
      have Hat := Lib.hid (kat_any bv hrd)
      have HT := Lib.hid (fun nq => ktake_any (hrd.quiet ((Only.refl [] wr).drewN nq)))
      have hstep := Hk.out
      rw [hg, partsR_step, partR_peek] at hstep
      have cF := hall.cF
      clear hoe hoc hof hs1 hs2 hs3 rE hO hall hel hfl hrd hg Hk
      cases hpk : peekR K.l q with
      | error er =>
        rw [hpk] at hstep
        have Hfin : Hid (partsR K.l F NP NP 0 0 p n = (.error er, q, m)) := Lib.hid (by rw [← hstep]; rfl)
        have hne := kpeekR_err hpk
        have hcb : (er.code == 0) = false := by rw [beq_eq_false_iff_ne]; exact hne.1
        have Hpk := Lib.hid hpk
        clear hpk hne hstep cF
        -- <S
        go_wp2_with fail
        go_at_call 44
        refine Hat.out.mono ?_
        rintro e w' ⟨rfl, nq, rfl⟩
        go_wp2_with fail
        go_at_call 40
        refine (HT.out _).mono ?_
        rintro e w1 hP
        unfold KTakeP at hP
        rw [Hpk.out] at hP
        obtain ⟨hq1', sa, scap, rfl, hsv, hk1⟩ := hP
        have hq1 : Only [R] wr w1 := (((Only.refl [] wr).drewN nq).mono (U := [R]) (by simp)).trans hq1' (fun g h _ => h) (fun g h _ => h)
        have rE1 := hq1.rowAt HRE.out (by simp; omega)
        have HSv := Lib.hid hsv
        have HK1 := Lib.hid hk1
        have hz1 := hq1.size
        have HQ1 := Lib.hid hq1
        clear hsv hk1 hq1 hq1'
        simp only
        go_wp2_with fail
        go_at_call 20
        refine (ok_any _ _ _).mono ?_
        rintro e w2 ⟨rfl, hq2⟩
        rw [hcb]
        have hqA := ((Only.new w1 zUnit).q (Only.new _ (.cells #[.int .i64 er.code, .slice sa er.path.length scap] 42))).q hq2
        have rX := hq2.row (heap_alloc_new' (w := w1.alloc zUnit) (o := .cells #[.int .i64 er.code, .slice sa er.path.length scap] 42) (g := w1.heap.size + 1) (by simp))
        have rE2 := hqA.row rE1
        obtain ⟨x0, x1, _, _, _⟩ := row2 rX
        obtain ⟨b0, b1, bf0, bf1, _⟩ := row2 rE2
        have HE2 := Lib.hid (And.intro rE2 hqA)
        clear rE1 rX rE2 hq2 hqA
        go_wp2_with fail
        generalize hWf : World.setCell _ _ _ = Wf
        obtain ⟨rE2, hqA⟩ := HE2.out
        obtain ⟨t0, t1, oF, _⟩ := set2r rE2 hWf
        refine bodyPost_ret (v := .agg #[.int .i64 er.code, .slice sa er.path.length scap]) (by simp [results, Tryz.results42, go_sem, t0, t1]) rfl (HPost.out _ _ ?_)
        unfold KPartsP
        rw [Hfin.out]
        have hA2 : Only [R, A] w w2 := (HO.out.trans HQ1.out (fun g h _ => h) (fun g h _ => by simp at h ⊢; exact .inl h)).trans hqA (fun g h _ => h) (by simp)
        have hk2 := HK1.out.quiet hqA
        refine ⟨hA2.tail1 oF (Nat.le_refl _), hk2.only oF (by intro g hg; rw [List.mem_singleton] at hg; subst hg; omega), _, _, _, ((HAll.out.only HQ1.out (by simpa using hAR)).quiet hqA).only oF (by simp; omega), ⟨_, _, _, rfl⟩, ⟨_, _, _, rfl⟩, ⟨_, _, _, rfl⟩, sa, scap, rfl, (HSv.out.only hqA (by simp)).tail1 oF (.inr (by omega))⟩
        -- S>
      | ok u =>
        obtain ⟨uk, ud, uat, uend⟩ := u
        rw [hpk] at hstep
        simp only at hstep
        have hpo := peekR_ok hpk HRd.out.ple HRd.out.r8
        simp only at hpo
        obtain ⟨-, -, -, huk0, huk1, hud⟩ := hpo
        have Hpk := Lib.hid hpk
        have Hstep := Lib.hid hstep
        have hudl : (ud.length : Int) ≤ 1000000000000 := by have := HRd.out.small; have := peekR_ok hpk HRd.out.ple HRd.out.r8; simp only at this; omega
        clear hpk hstep hud
        go_wp2_with fail
        go_at_call 44
        refine Hat.out.mono ?_
        rintro e w' ⟨rfl, nq, rfl⟩
        go_wp2_with fail
        go_at_call 40
        refine (HT.out _).mono ?_
        rintro e w1 hP
        unfold KTakeP at hP
        rw [Hpk.out] at hP
        obtain ⟨hq1', dv, rfl, hdv, hk1⟩ := hP
        have hq1 : Only [R] wr w1 := (((Only.refl [] wr).drewN nq).mono (U := [R]) (by simp)).trans hq1' (fun g h _ => h) (fun g h _ => h)
        obtain ⟨da, dcap, rfl, hdc, hdm, hdat, hdcl⟩ := hdv.open
        have Hdat := Lib.hid hdat
        have Hdcl := Lib.hid hdcl
        have hdr := hdv.2
        have Hdr := Lib.hid hdr
        clear hdat hdcl hdr hdm
        have rE1 := hq1.rowAt HRE.out (by simp; omega)
        have hall1 := HAll.out.only hq1 (by simpa using hAR)
        have HDv := Lib.hid hdv
        have HK1 := Lib.hid hk1
        have hz1 := hq1.size
        have HQ1 := Lib.hid hq1
        clear hdv hk1 hq1 hq1' cF
        simp only
        go_wp2_with fail
        go_at_call 20
        refine (ok_any _ _ _).mono ?_
        rintro e w2 ⟨rfl, hq2⟩
        simp only [BEq.rfl]
        have hqA := ((Only.new w1 (.cells #[.int .i64 uk, .slice da ud.length dcap, .int .i64 uat, .int .i64 uend] 106)).q (Only.new _ zErr)).q hq2
        have rX := hq2.row ((Only.new _ zErr).row (heap_alloc_new w1 (.cells #[.int .i64 uk, .slice da ud.length dcap, .int .i64 uat, .int .i64 uend] 106)))
        obtain ⟨x0, x1, x2, x3⟩ := row4_cells rX
        have rE2 := hqA.row rE1
        have hall2 := hall1.quiet hqA
        have hdv2 := HDv.out.quiet hqA
        have hk2 := HK1.out.quiet hqA
        have cF := hall2.cF
        have kf := frozen_of_row w2 R 1 _ _ hk2.row
        have hO2 : Only [R, A] w w2 := (HO.out.trans HQ1.out (fun g h _ => h) (fun g h _ => by simp at h ⊢; exact .inl h)).trans hqA (fun g h _ => h) (by simp)
        have hset : KRd K R (w2.setCell ⟨R, 1, none⟩ (.int .i64 m)) q m := hk2.set HRd.out.spl HRd.out.le HRd.out.zero HRd.out.last HRd.out.ple
        have o3 : Only [R] w2 (w2.setCell ⟨R, 1, none⟩ (.int .i64 m)) := (Only.refl _ _).setCell (by simp) _
        have rE3 := o3.rowAt rE2 (by simp; omega)
        have hall3 := hall2.only o3 (by simpa using hAR)
        have hO3 : Only [R, A] w (w2.setCell ⟨R, 1, none⟩ (.int .i64 m)) := hO2.trans o3 (fun g h _ => h) (fun g h _ => by simp at h ⊢; exact .inl h)
        have H3 := Lib.hid (And.intro rE3 (And.intro hset (And.intro hall3 hO3)))
        have H2 := Lib.hid (And.intro rE2 (And.intro hk2 (And.intro hall2 (And.intro hO2 hdv2))))
        have HqA := Lib.hid hqA
        have hmle : (m : Int) ≤ 1000000000000 := by have := HRd.out.le; have := HRd.out.nle; have := hsmall.out; omega
        obtain ⟨N1, hN1⟩ : ∃ N1 : Int, ((m + 1 : Nat) : Int) = N1 := ⟨_, rfl⟩
        have cN := hk2.c1
        rw [hN1] at cN
        have hN2 : N1 ≤ 1000000000001 := by omega
        have hN3 : 1 ≤ N1 := by omega
        have hNm : N1 - 1 = m := by omega
        have HNm := Lib.hid hNm
        have hwN : IntKind.i64.wrap (N1 - 1) = m := by rw [IntKind.wrap_i64]; omega
        clear rE1 hall1 rX rE2 hall2 hk2 hO2 hset o3 rE3 hall3 hO3 hq2 hqA hdv2 hN1 hNm
        have Hbad0 : Hid (uk ≠ 17 ∨ ud.length ≠ 3 ∨ ud.getD 0 0 ≠ k ∨ ud.getD 1 0 ≠ cs.length ∨ ud.getD 2 0 < 1 ∨ F - cs.length - ((NP : Int) - 1 - k) < ud.getD 2 0 ∨ ((NP : Int) - 1 - k = 0 ∧ ud.getD 2 0 ≠ F - cs.length) → partsR K.l F NP NP 0 0 p n = (.error ⟨[], 2⟩, q, m)) := Lib.hid (fun hb => by
          rw [← Hstep.out, if_pos hb]; rfl)
        by_cases h17 : uk = 17
        · generalize hL : ud.length = L at *
          have HL := Lib.hid hL
          clear hL
          by_cases h3 : L = 3
          · subst h17
            subst h3
            have hx0 : 0 ≤ ud.getD 0 0 ∧ ud.getD 0 0 ≤ 255 := ints_range Hdr.out (by rw [HL.out]; omega)
            have hx1 : 0 ≤ ud.getD 1 0 ∧ ud.getD 1 0 ≤ 255 := ints_range Hdr.out (by rw [HL.out]; omega)
            have hx2 : 0 ≤ ud.getD 2 0 ∧ ud.getD 2 0 ≤ 255 := ints_range Hdr.out (by rw [HL.out]; omega)
            obtain ⟨db, doff, rfl, hdb1, hdb2⟩ := Hdat.out 0 (by omega)
            have y0 := HqA.out.cell (Hdcl.out db doff rfl 0 (by omega)) (by simp)
            have y1 := HqA.out.cell (Hdcl.out db doff rfl 1 (by omega)) (by simp)
            have y2 := HqA.out.cell (Hdcl.out db doff rfl 2 (by omega)) (by simp)
            rw [Nat.add_zero] at y0
            have hn17 : ((17 : Int) != 17) = false := rfl
            generalize ud.getD 0 0 = d0 at *
            generalize ud.getD 1 0 = d1 at *
            generalize ud.getD 2 0 = d2 at *
            by_cases hcond : d0 ≠ k ∨ d1 ≠ cs.length ∨ d2 < 1 ∨ F - cs.length - ((NP : Int) - 1 - k) < d2 ∨ ((NP : Int) - 1 - k = 0 ∧ d2 ≠ F - cs.length)
            · have Hbad := Lib.hid (Hbad0.out (.inr (.inr hcond)))
              have hways : (d0 != k) = true ∨ ((d0 != k) = false ∧ ((d1 != cs.length) = true ∨ ((d1 != cs.length) = false ∧ (d2 < 1 ∨ (¬ d2 < 1 ∧ (F - cs.length - ((NP : Int) - 1 - k) < d2 ∨ (¬ F - cs.length - ((NP : Int) - 1 - k) < d2 ∧ ((k : Int) == (NP : Int) - 1) = true ∧ (d2 != F - cs.length) = true))))))) := by
                simp only [bne_iff_ne, bne_eq_false_iff_eq, beq_iff_eq]
                omega
              clear hcond Hbad0 Hstep
              -- <S
              rcases hways with h1 | ⟨h1, h2 | ⟨h2, h3 | ⟨h3, h4 | ⟨h4, h5, h6⟩⟩⟩⟩
              all_goals
                go_wp2_with fail
                clear hwN
                generalize hW3 : World.setCell _ _ _ = W3 at *
                go_at_call 36
                refine (fail_any _ _).mono ?_
                rintro e w4 ⟨rfl, hq4⟩
                obtain ⟨rE3, hset, hall3, hO3⟩ := H3.out
                have rE4 := hq4.row rE3
                have hset4 := hset.quiet hq4
                have hall4 := hall3.quiet hq4
                have hO4 : Only [R, A] w w4 := hO3.trans hq4 (fun g h _ => h) (by simp)
                obtain ⟨e0, e1, ef0, ef1, _⟩ := row2 rE4
                clear rE3 hset hall3 hO3 H3 hq4
                go_wp2_with fail
                generalize hWf : World.setCell _ _ _ = Wf
                obtain ⟨t0, t1, oF, _⟩ := set2r rE4 hWf
                refine bodyPost_ret (v := .agg #[.int .i64 2, .slice none 0 0]) (by simp [results, Tryz.results42, go_sem, t0, t1]) rfl (HPost.out _ _ ?_)
                unfold KPartsP
                rw [Hbad.out]
                exact ⟨hO4.tail1 oF (Nat.le_refl _), hset4.only oF (by intro g hg; rw [List.mem_singleton] at hg; subst hg; omega), _, _, _, hall4.only oF (by simp; omega), ⟨_, _, _, rfl⟩, ⟨_, _, _, rfl⟩, ⟨_, _, _, rfl⟩, none, 0, rfl, Cells.nil _ _ _ _⟩
              -- S>
            · have hgood : d0 = k ∧ d1 = cs.length ∧ 1 ≤ d2 ∧ d2 ≤ F - cs.length - ((NP : Int) - 1 - k) ∧ ((NP : Int) - 1 - k = 0 → d2 = F - cs.length) := by omega
              obtain ⟨hg0, hg1, hg2, hg3, hg4⟩ := hgood
              obtain ⟨C, hC⟩ : ∃ C : Nat, d2 = C := ⟨d2.toNat, by omega⟩
              subst hg0
              subst hg1
              subst hC
              have hst2 := Hstep.out
              rw [if_neg (fun h => by rcases h with h | h | h; exact h rfl; exact h rfl; exact hcond h), Int.toNat_natCast] at hst2
              have hways : ((k : Int) == (NP : Int) - 1) = false ∨ (((k : Int) == (NP : Int) - 1) = true ∧ ((C : Int) != F - cs.length) = false) := by
                by_cases hkk : (k : Int) = (NP : Int) - 1
                · right; exact ⟨by simp [hkk], by rw [bne_eq_false_iff_eq]; omega⟩
                · left; rw [beq_eq_false_iff_ne]; exact hkk
              have h1 : ((k : Int) != (k : Int)) = false := by simp
              have h2 : (((cs.length : Nat) : Int) != ((cs.length : Nat) : Int)) = false := by simp
              have h3 : ¬ (C : Int) < 1 := by omega
              have h4 : ¬ F - cs.length - ((NP : Int) - 1 - k) < (C : Int) := by omega
              have hC16 : C ≤ 16 := by omega
              have hCi : (C : Int) ≤ 16 := by omega
              have hC0 : (0 : Int) ≤ (C : Int) := by omega
              have HP := Lib.hid (kpart_any C H2.out.2.1 (by omega))
              have hflen : ∀ x, (framesR K.l C 0 uend (m + 1)).1 = .ok x → x.1.length = C ∧ x.2.length = C := fun x h => framesR_len C 0 uend (m + 1) h
              have hferr : ∀ er, (framesR K.l C 0 uend (m + 1)).1 = .error er → er.code ≠ 0 ∧ er.path.length ≤ 1 := fun er h => kframesR_err C 0 uend (m + 1) h
              generalize hFR : framesR K.l C 0 uend (m + 1) = FR at *
              obtain ⟨fr, q2, m2⟩ := FR
              simp only at hst2 hflen hferr
              have Hst2 := Lib.hid hst2
              have Hflen := Lib.hid hflen
              have Hferr := Lib.hid hferr
              have Hcl := Lib.hid (And.intro hg3 hg4)
              clear hcond Hbad0 Hstep hst2 hflen hferr hFR hg4 hg3 hwN
              cases fr with
              | error er =>
                have Hfin : Hid (partsR K.l F NP NP 0 0 p n = (.error er, q2, m2)) := Lib.hid (by rw [← Hst2.out]; rfl)
                have hec := Hferr.out er rfl
                have hcb : (er.code == 0) = false := by rw [beq_eq_false_iff_ne]; exact hec.1
                clear hec
                -- <S
                rcases hways with h5 | ⟨h5, h6⟩
                all_goals
                  go_wp2_with fail
                  go_at_call 69
                  refine HP.out.mono ?_
                  rintro e w3 hP
                  unfold KPartP at hP
                  simp only at hP
                  obtain ⟨hq3, hk3, sa, scap, rfl, hsv⟩ := hP
                  have HSv := Lib.hid hsv
                  obtain ⟨rE2, hk2, hall2, hO2, hdv2⟩ := H2.out
                  have rE3 := hq3.rowAt rE2 (by simp; omega)
                  have hall3 := hall2.only hq3 (by simpa using hAR)
                  have hO3 : Only [R, A] w w3 := hO2.trans hq3 (fun g h _ => h) (fun g h _ => by simp at h ⊢; exact .inl h)
                  clear hsv rE2 hk2 hall2 hO2 hdv2
                  simp only
                  go_wp2_with fail
                  go_at_call 20
                  refine (ok_any _ _ _).mono ?_
                  rintro e w4 ⟨rfl, hq4⟩
                  rw [hcb]
                  have hqB := (Only.new w3 (.cells #[.int .i64 er.code, .slice sa er.path.length scap] 42)).q hq4
                  have rX := hq4.row (heap_alloc_new w3 (.cells #[.int .i64 er.code, .slice sa er.path.length scap] 42))
                  have rE4 := hqB.row rE3
                  obtain ⟨x0, x1, _, _, _⟩ := row2 rX
                  obtain ⟨b0, b1, bf0, bf1, _⟩ := row2 rE4
                  have hall4 := hall3.quiet hqB
                  have hO4 : Only [R, A] w w4 := hO3.trans hqB (fun g h _ => h) (by simp)
                  have hk4 := hk3.quiet hqB
                  have H4 := Lib.hid (And.intro rE4 (And.intro hall4 (And.intro hO4 (And.intro hk4 (HSv.out.only hqB (by simp))))))
                  clear rE3 hall3 hO3 rX rE4 hall4 hO4 hk4 hk3 hq3 hq4 hqB
                  go_wp2_with fail
                  generalize hWf : World.setCell _ _ _ = Wf
                  obtain ⟨rE4, hall4, hO4, hk4, hsv4⟩ := H4.out
                  obtain ⟨t0, t1, oF, _⟩ := set2r rE4 hWf
                  refine bodyPost_ret (v := .agg #[.int .i64 er.code, .slice sa er.path.length scap]) (by simp [results, Tryz.results42, go_sem, t0, t1]) rfl (HPost.out _ _ ?_)
                  unfold KPartsP
                  rw [Hfin.out]
                  exact ⟨hO4.tail1 oF (Nat.le_refl _), hk4.only oF (by intro g hg; rw [List.mem_singleton] at hg; subst hg; omega), _, _, _, hall4.only oF (by simp; omega), ⟨_, _, _, rfl⟩, ⟨_, _, _, rfl⟩, ⟨_, _, _, rfl⟩, sa, scap, rfl, hsv4.tail1 oF (.inr (by omega))⟩
                -- S>
              | ok x =>
                obtain ⟨xc, xf⟩ := x
                obtain ⟨hxl, hxf⟩ := Hflen.out _ rfl
                simp only at hxl hxf
                have HXl := Lib.hid (And.intro hxl hxf)
                clear hxl hxf
                rcases hways with h5 | ⟨h5, h6⟩
                all_goals
                  go_wp2_with fail
                  go_at_call 69
                  refine HP.out.mono ?_
                  rintro e w3 hP
                  unfold KPartP at hP
                  simp only at hP
                  obtain ⟨hq3, hk3, xa, xcap, ya, ycap, rfl, hxo, hyo, hxy⟩ := hP
                  have HXo := Lib.hid (And.intro hxo (And.intro hyo hxy))
                  obtain ⟨rE2, hk2, hall2, hO2, hdv2⟩ := H2.out
                  have rE3 := hq3.rowAt rE2 (by simp; omega)
                  have hall3 := hall2.only hq3 (by simpa using hAR)
                  have hO3 : Only [R, A] w w3 := hO2.trans hq3 (fun g h _ => h) (fun g h _ => by simp at h ⊢; exact .inl h)
                  have hQ3 : Only [R] wr w3 := (HQ1.out.trans HqA.out (fun g h _ => h) (by simp)).trans hq3 (fun g h _ => h) (fun g h _ => h)
                  have hz3 := hq3.size
                  have hz2 := HqA.out.size
                  have HQ3 := Lib.hid hq3
                  clear hxo hyo hxy rE2 hk2 hall2 hO2 hdv2
                  simp only
                  go_wp2_with fail
                  go_at_call 20
                  refine (ok_any _ _ _).mono ?_
                  rintro e w4 ⟨rfl, hq4⟩
                  simp only [BEq.rfl]
                  have hqB := (Only.new w3 zErr).q hq4
                  have rE4 := hqB.row rE3
                  have hall4 := hall3.quiet hqB
                  have hO4 : Only [R, A] w w4 := hO3.trans hqB (fun g h _ => h) (by simp)
                  have hQ4 : Only [R] wr w4 := hQ3.trans hqB (fun g h _ => h) (by simp)
                  have hk4 := hk3.quiet hqB
                  have hz4 := hqB.size
                  have cC := hall4.cC
                  have fC := hall4.f 12
                  obtain ⟨hxo, hyo, hxy⟩ := HXo.out
                  have hxo4 := hxo.quiet hqB
                  have hyo4 := hyo.quiet hqB
                  have hR : ∀ g ∈ [R], g = R := fun g hg => List.mem_singleton.1 hg
                  have hoc4 := HOC.out.only hQ4 (fun g hg => by rw [hR g hg]; exact ⟨hhi, fun e => by have := HOC.out.at R e; omega⟩)
                  have hof4 := HOF.out.only hQ4 (fun g hg => by rw [hR g hg]; exact fun e => by have := HOF.out.at R e; omega)
                  have hoe4 := HOE.out.only hQ4 (fun g hg => by rw [hR g hg]; exact fun e => by have := HOE.out.lt R e; omega)
                  obtain ⟨_, ys, hys1, hys2⟩ := hxo4
                  have hysC := Cells.of_own hys1
                  have hxl := HXl.out.1
                  have hyl := HXl.out.2
                  have hclc := Hcl.out.1
                  have hcs16 : cs.length ≤ 16 := by omega
                  have hfs16 : fs.length ≤ 16 := by have := Hfl.out; omega
                  have hby : (cs.length + xc.length) * 32 ≤ 140737488355328 := by omega
                  have hby2 : (fs.length + xf.length) * 8 ≤ 140737488355328 := by omega
                  have hba : w.heap.size + 1 ≤ w4.heap.size := by omega
                  have hyo4' := hyo4.ints
                  have hcA : (Value.slice ca cs.length ccap).ownBlock ≠ some A := fun e => by have := HOC.out.at A e; omega
                  have hfA : (Value.slice fa fs.length fcap).ownBlock ≠ some A := fun e => by have := HOF.out.at A e; omega
                  have hpA : (Value.slice pa es.length pcap).ownBlock ≠ some A := fun e => by have := HOE.out.lt A e; omega
                  have hcat := hoc4.at
                  have hfat := hof4.at
                  have HY := Lib.hid (And.intro hoc4 (And.intro hysC hys2))
                  have HF4 := Lib.hid (And.intro hof4 hyo4')
                  have HE4 := Lib.hid (And.intro hoe4 (And.intro rE4 (And.intro hk4 hO4)))
                  have HA4 := Lib.hid hall4
                  have HN := Lib.hid (And.intro hcA (And.intro hfA hpA))
                  have HqB := Lib.hid hqB
                  have HAt := Lib.hid (And.intro hcat hfat)
                  clear hxo hyo hxy hyo4 hR hoc4 hof4 hoe4 hys1 hys2 hysC hxl hyl hclc hyo4' hk4 hO4 hQ4 rE4 hqB hq4 hall4 rE3 hall3 hO3 hQ3 hcA hfA hpA hk3 hq3 hcat hfat
                  go_wp2_with (first
                    | (have HX := HF6; at_builtin; refine wpList_append_ints rfl (.tmp 137) (.tmp 138) 36 rfl EI HX.out.1 rfl HX.out.2 rfl hby2 hba6 (fun v7 w7 hof7 hacc7 => ?_); obtain ⟨f7, f7cap, hv7, _⟩ := hof7.ints.open; rw [List.length_append] at hv7; subst hv7;
                        have hall7 := HA6.out.only hacc7.only (by simpa using HN.out.2.1); have cC7 := hall7.cV; have fC7 := hall7.f 13;
                        have hall8 := hall7.setV (v := .slice f7 (fs.length + xf.length) f7cap); have o8 : Only [A] w7 (w7.setCell ⟨A, 13, none⟩ (.slice f7 (fs.length + xf.length) f7cap)) := ((Only.refl _ _).setCell (by simp) _);
                        have HAcc7 := Lib.hid hacc7; have HF7 := Lib.hid hof7; have HO8 := Lib.hid o8; have HA8 := Lib.hid hall8; have hz7 := hacc7.only.size; have hz8 := o8.size; clear hof7 hacc7 hall7 hall8 o8)
                    | (at_builtin; refine wpList_append_ck rfl (.tmp 128) (.tmp 129) 35 rfl EC HY.out.1 rfl HY.out.2.1 HY.out.2.2 rfl hby hba (fun v5 w5 hoc5 hacc5 => ?_); obtain ⟨c5, c5cap, hv5⟩ := hoc5.isSlice; rw [List.length_append] at hv5; subst hv5;
                        have hall5 := HA4.out.only hacc5.only (by simpa using HN.out.1); have cC5 := hall5.cC; have fC5 := hall5.f 12;
                        have hall6 := hall5.setC (v := .slice c5 (cs.length + xc.length) c5cap); have o6 : Only [A] w5 (w5.setCell ⟨A, 12, none⟩ (.slice c5 (cs.length + xc.length) c5cap)) := ((Only.refl _ _).setCell (by simp) _);
                        have cV6 := hall6.cV; have fV6 := hall6.f 13; have HAcc5 := Lib.hid hacc5; have HC5 := Lib.hid hoc5; have HO6 := Lib.hid o6; have HA6 := Lib.hid hall6; have hz5 := hacc5.only.size; have hz6 := o6.size;
                        have hof6 := (HF4.out.1.only hacc5.only (fun g hg => HS1.out g (by simpa using hg))).only o6 (by intro g hg; rw [List.mem_singleton] at hg; subst hg; exact HN.out.2.1);
                        have hyo6 := (HXo.out.2.1.quiet HqB.out).only hacc5.only (fun g hg e => by have := (HXo.out.2.1.quiet HqB.out).at g e; have := HOC.out.at g (by simpa using hg); omega) |>.only o6 (by intro g hg; rw [List.mem_singleton] at hg; subst hg; exact fun e => by have := (HXo.out.2.1.quiet HqB.out).at _ e; omega);
                        have HF6 := Lib.hid (And.intro hof6 hyo6.ints); have hba6 : w.heap.size + 1 ≤ (w5.setCell ⟨A, 12, none⟩ (.slice c5 (cs.length + xc.length) c5cap)).heap.size := (by omega);
                        clear hoc5 hacc5 hall5 hall6 o6 hof6 hyo6)
                    | fail)
                  generalize hW8 : World.setCell w7 _ _ = W8 at *
                  have hcat := HOC.out.at
                  have hfat := HOF.out.at
                  have hpat : ∀ g, (Value.slice pa es.length pcap).ownBlock = some g → w.heap.size + 1 ≤ g ∧ g < wr.heap.size := fun g hg => HOE.out.lt g hg
                  have o48 : Only (A :: ((Value.slice ca cs.length ccap).ownBlock.toList ++ (Value.slice fa fs.length fcap).ownBlock.toList)) w4 W8 :=
                    ((HAcc5.out.only.trans HO6.out (U := A :: ((Value.slice ca cs.length ccap).ownBlock.toList ++ (Value.slice fa fs.length fcap).ownBlock.toList)) (fun g h _ => List.mem_cons_of_mem _ (List.mem_append_left _ h)) (fun g h _ => by rw [List.mem_singleton] at h; subst h; exact List.mem_cons_self)).trans HAcc7.out.only (fun g h _ => h) (fun g h _ => List.mem_cons_of_mem _ (List.mem_append_right _ h))).trans HO8.out (fun g h _ => h) (fun g h _ => by rw [List.mem_singleton] at h; subst h; exact List.mem_cons_self)
                  have hS : ∀ g ∈ A :: ((Value.slice ca cs.length ccap).ownBlock.toList ++ (Value.slice fa fs.length fcap).ownBlock.toList), g = A ∨ (Value.slice ca cs.length ccap).ownBlock = some g ∨ (Value.slice fa fs.length fcap).ownBlock = some g := by
                    intro g hg
                    rcases List.mem_cons.1 hg with h | h
                    · exact .inl h
                    rcases List.mem_append.1 h with h | h
                    · exact .inr (.inl (by simpa using h))
                    · exact .inr (.inr (by simpa using h))
                  have hSb : ∀ g ∈ A :: ((Value.slice ca cs.length ccap).ownBlock.toList ++ (Value.slice fa fs.length fcap).ownBlock.toList), g = A ∨ w.heap.size + 1 ≤ g := fun g hg => by
                    rcases hS g hg with h | h | h
                    · exact .inl h
                    · exact .inr (hcat g h).1
                    · exact .inr (hfat g h).1
                  obtain ⟨hoe4, rE4, hk4, hO4⟩ := HE4.out
                  have hk8 := hk4.only o48 (fun g hg => by rcases hSb g hg with h | h; exact ⟨by omega, by omega⟩; exact ⟨by omega, by omega⟩)
                  have rE8 := o48.rowAt rE4 (fun hm => by rcases hSb _ hm with h | h; omega; omega)
                  have hoe8 : OwnE (w.heap.size + 1) W8 (.slice pa es.length pcap) es := hoe4.only o48 (fun g hg => by
                    rcases hS g hg with h | h | h
                    · rw [h]; exact HN.out.2.2
                    · exact HS2.out g h
                    · exact HS3.out g h)
                  have hO8 : Only [R, A] w W8 := hO4.trans o48 (fun g h _ => h) (fun g hg hlt => by rcases hSb g hg with h | h; rw [h]; simp; omega)
                  have y8 := o48.cell (HqB.out.cell (HQ3.out.cell y2 (by simp; omega)) (by simp)) (fun hm => by rcases hSb _ hm with h | h; simp at h; omega; simp at h; omega)
                  have hA1 : ∀ g ∈ [A], g = A := fun g hg => List.mem_singleton.1 hg
                  have hsep5 : Sep (.slice c5 (cs.length + xc.length) c5cap) (.slice fa fs.length fcap) := HAcc5.out.sep HS1.out (fun g hg => by have := (hfat g hg).2; omega)
                  have hsep5p : Sep (.slice c5 (cs.length + xc.length) c5cap) (.slice pa es.length pcap) := HAcc5.out.sep HS2.out (fun g hg => by have := (hpat g hg).2; omega)
                  have hoc6 := HC5.out.only HO6.out (fun g hg => by rw [hA1 g hg]; exact ⟨hhA, fun e => by have := HC5.out.at A e; omega⟩)
                  have hoc8 := (hoc6.only HAcc7.out.only (fun g hg => ⟨by have := (hfat g (by simpa using hg)).1; omega, fun e => hsep5 g e (by simpa using hg)⟩)).only HO8.out (fun g hg => by rw [hA1 g hg]; exact ⟨hhA, fun e => by have := HC5.out.at A e; omega⟩)
                  have hof8 := HF7.out.only HO8.out (fun g hg => by rw [hA1 g hg]; exact fun e => by have := HF7.out.at A e; omega)
                  have hsep7 : Sep (.slice c5 (cs.length + xc.length) c5cap) (.slice f7 (fs.length + xf.length) f7cap) := (HAcc7.out.sep hsep5.symm (fun g hg => (hoc6.at g hg).2)).symm
                  have hsep7p : Sep (.slice f7 (fs.length + xf.length) f7cap) (.slice pa es.length pcap) := HAcc7.out.sep HS3.out (fun g hg => by have := (hpat g hg).2; omega)
                  have h8 := HA8.out
                  have cP8 := h8.cP
                  have fP8 := h8.f 11
                  have hz48 := o48.size
                  have H8a := Lib.hid (And.intro hk8 (And.intro rE8 (And.intro hoe8 hO8)))
                  have H8b := Lib.hid (And.intro hoc8 (And.intro hof8 (And.intro hsep5p (And.intro hsep7 hsep7p))))
                  have H8c := Lib.hid h8
                  have HY8 := Lib.hid y8
                  have hq2l : (q2 : Int) ≤ 1000000000000 := by have := hk8.ple; have := hsmall.out; omega
                  have hq20 : (0 : Int) ≤ (q2 : Int) := by omega
                  have hqd1 : -1000000000000 ≤ (q2 : Int) - q := by omega
                  have hqd2 : (q2 : Int) - q ≤ 1000000000000 := by omega
                  have hwq : IntKind.i64.wrap ((q2 : Int) - q) = q2 - q := by rw [IntKind.wrap_i64]; omega
                  have hes16 : es.length ≤ 16 := by have := Hel.out; have := Hlt.out; omega
                  have h63 : es.length + 1 ≤ maxLen := by unfold maxLen; omega
                  have hby3 : (es.length + 1) * 32 ≤ 140737488355328 := by omega
                  have hba8 : w.heap.size + 1 ≤ W8.heap.size := by omega
                  have hKat := Lib.hid (((kat_any bv hk8.drew).mono (fun e w' ⟨a, nq, b⟩ => ⟨a, by rw [b]; exact (Only.refl [] W8.drew).drewN nq⟩) : Calls Tryz.prog 44 #[.pointer (some ⟨R, 0, none⟩), bv] W8.drew (fun e w' => e = .returned (.int .i64 q2) ∧ Only [] W8.drew w')))
                  clear hcat hfat hpat o48 hS hSb hoe4 rE4 hk4 hO4 hk8 rE8 hoe8 hO8 hsep5 hsep5p hoc6 hoc8 hof8 hsep7 hsep7p h8 hW8 hA1 cC fC
                  have hwC : IntKind.i64.wrap (C : Int) = C := by rw [IntKind.wrap_i64]; omega
                  go_cut [142] from 142 to 164 (fun s142 wx => s142 = .pointer (some ⟨A, 0, none⟩) ∧ PartsMid K R A q2 m2 (w.heap.size + 1) w W H F c0 c1 c2 c3 c4 _ c6 c7 (es ++ [⟨(cs.length : Int), (C : Int), (q : Int), (q2 : Int) - q⟩]) (cs ++ xc) (fs ++ xf) (.slice c5 (cs.length + xc.length) c5cap) (.slice f7 (fs.length + xf.length) f7cap) db (doff + 2) (.int .u8 C) wx)
                  case first =>
                    -- <S
                    go_region_law (first
                      | (go_simp; go_at_call 44; refine hKat.out.mono ?_; rintro e wx ⟨rfl, hqx⟩; have yx := hqx.cell (w := W8.drew) y8 (by simp); have cPx := hqx.cell (w := W8.drew) cP8 (by simp); have cPy := (fun o => (Only.new wx o).cell cPx (by simp)))
                      | (refine step_append_cells rfl (.tmp 147) (.tmp 160) 27 rfl EE (news := flatE [⟨(cs.length : Int), (C : Int), (q : Int), (q2 : Int) - q⟩]) (m := 1) (owns_only H8a.out.2.2.1 (((Only.refl [] W8).drew.q hqx).q (Only.new wx _)) (by simp)) rfl (cells_newG rfl rfl (by simp [maxLen]) rfl) rfl (flatE_one _) h63 hby3 (by have := hqx.size; simp at this ⊢; omega) (fun v9 w9 hown9 hacc9 => ?_);
                          obtain ⟨p9, p9cap, hv9⟩ : ∃ a cap, v9 = .slice a (es.length + 1) cap := (by obtain ⟨_, a, cap, h, _⟩ := Cells.of_own hown9; exact ⟨a, cap, h⟩); subst hv9;
                          have hqy : Only [] W8 (wx.alloc (.cells #[.int .i64 (cs.length : Nat), .int .i64 C, .int .i64 q, .int .i64 ((q2 : Int) - q)] 59)) := ((Only.refl [] W8).drew.q hqx).q (Only.new wx _);
                          have hall9 := (H8c.out.quiet hqy).only hacc9.only (by simpa using HN.out.2.2); have cP9 := hall9.cP; have fP9 := hall9.f 11; have HQY := Lib.hid hqy; have HOwn9 := Lib.hid hown9; have HAcc9 := Lib.hid hacc9; have HA9 := Lib.hid hall9; clear hqy hown9 hacc9 hall9)
                      | fail)
                    all_goals
                      go_wp2_with fail
                      go_meet
                      exact ⟨rfl, PartsMid.of H8a.out.1 H8a.out.2.1 H8a.out.2.2.2 H8b.out.1 H8b.out.2.1 H8b.out.2.2.1 H8b.out.2.2.2.1 H8b.out.2.2.2.2 HY8.out HQY.out (fun g hg => H8a.out.2.2.1.lt g hg) HOwn9.out HAcc9.out HA9.out rfl hAl hhA hAR hRl hdb2 hhi⟩
                    -- S>
                  case rest =>
                    obtain ⟨rfl, hmid⟩ := hcut
                    have hmid' := hmid
                    obtain ⟨p9, p9cap, hall9, hoe9, hoc9, hof9, hs91, hs92, hs93, hk9, rE9, hO9, y9⟩ := hmid'
                    have H9 := Lib.hid hmid
                    clear hmid hall9 hoe9 hoc9 hof9 hs91 hs92 hs93 hk9 rE9 hO9
                    go_wp2_with fail
                    go_roundw
                    case rel =>
                      obtain ⟨pa9, pcap9, hall9, hoe9, hoc9, hof9, hs91, hs92, hs93, hk9, rE9, hO9, -⟩ := H9.out
                      have hxl := HXl.out.1
                      have hyl := HXl.out.2
                      have hcc := Hcl.out.1
                      have hfc := Hfl.out
                      have hlk := Hlt.out
                      have hee := Hel.out
                      refine ⟨k + 1, q2, m2, es ++ [⟨(cs.length : Int), (C : Int), (q : Int), (q2 : Int) - q⟩], cs ++ xc, fs ++ xf, _, _, _, by omega, by go_num, ?_, by rw [List.length_append]; simp; omega, by rw [List.length_append, List.length_append]; omega, by rw [List.length_append]; omega, Lib.hid ?_, hk9, hall9, hoe9, hoc9, hof9, hs91, hs92, hs93, rE9, hO9⟩
                      · rw [List.length_append, hxl]; go_num
                      · have h2 := Hst2.out
                        rw [← preP_cons, List.length_append, show NP - (k + 1) = g by have := Hg.out; omega]
                        exact h2
                    case measure => have := Hlt.out; simp [intOf]; omega
          · have Hbad := Lib.hid (Hbad0.out (.inr (.inl h3)))
            -- <S
            have hb1 : (uk != 17) = false := by simp [h17]
            have hb2 : ((L : Int) != 3) = true := by rw [bne_iff_ne]; omega
            clear Hbad0 Hstep
            go_wp2_with fail
            clear hwN
            generalize hW3 : World.setCell _ _ _ = W3 at *
            go_at_call 36
            refine (fail_any _ _).mono ?_
            rintro e w4 ⟨rfl, hq4⟩
            obtain ⟨rE3, hset, hall3, hO3⟩ := H3.out
            have rE4 := hq4.row rE3
            have hset4 := hset.quiet hq4
            have hall4 := hall3.quiet hq4
            have hO4 : Only [R, A] w w4 := hO3.trans hq4 (fun g h _ => h) (by simp)
            obtain ⟨e0, e1, ef0, ef1, _⟩ := row2 rE4
            clear rE3 hset hall3 hO3 H3 hq4
            go_wp2_with fail
            generalize hWf : World.setCell _ _ _ = Wf
            obtain ⟨t0, t1, oF, _⟩ := set2r rE4 hWf
            refine bodyPost_ret (v := .agg #[.int .i64 2, .slice none 0 0]) (by simp [results, Tryz.results42, go_sem, t0, t1]) rfl (HPost.out _ _ ?_)
            unfold KPartsP
            rw [Hbad.out]
            exact ⟨hO4.tail1 oF (Nat.le_refl _), hset4.only oF (by intro g hg; rw [List.mem_singleton] at hg; subst hg; omega), _, _, _, hall4.only oF (by simp; omega), ⟨_, _, _, rfl⟩, ⟨_, _, _, rfl⟩, ⟨_, _, _, rfl⟩, none, 0, rfl, Cells.nil _ _ _ _⟩
            -- S>
        · have Hbad := Lib.hid (Hbad0.out (.inl h17))
          -- <S
          have hb1 : (uk != 17) = true := by rw [bne_iff_ne]; exact h17
          clear Hbad0 Hstep
          go_wp2_with fail
          clear hwN
          generalize hW3 : World.setCell _ _ _ = W3 at *
          go_at_call 36
          refine (fail_any _ _).mono ?_
          rintro e w4 ⟨rfl, hq4⟩
          obtain ⟨rE3, hset, hall3, hO3⟩ := H3.out
          have rE4 := hq4.row rE3
          have hset4 := hset.quiet hq4
          have hall4 := hall3.quiet hq4
          have hO4 : Only [R, A] w w4 := hO3.trans hq4 (fun g h _ => h) (by simp)
          obtain ⟨e0, e1, ef0, ef1, _⟩ := row2 rE4
          clear rE3 hset hall3 hO3 H3 hq4
          go_wp2_with fail
          generalize hWf : World.setCell _ _ _ = Wf
          obtain ⟨t0, t1, oF, _⟩ := set2r rE4 hWf
          refine bodyPost_ret (v := .agg #[.int .i64 2, .slice none 0 0]) (by simp [results, Tryz.results42, go_sem, t0, t1]) rfl (HPost.out _ _ ?_)
          unfold KPartsP
          rw [Hbad.out]
          exact ⟨hO4.tail1 oF (Nat.le_refl _), hset4.only oF (by intro g hg; rw [List.mem_singleton] at hg; subst hg; omega), _, _, _, hall4.only oF (by simp; omega), ⟨_, _, _, rfl⟩, ⟨_, _, _, rfl⟩, ⟨_, _, _, rfl⟩, none, 0, rfl, Cells.nil _ _ _ _⟩
          -- S>
    · obtain rfl : k = NP := by omega
      have hx : ¬ (k : Int) < (k : Int) := by omega
      have Hfin : Hid (partsR K.l F k k 0 0 p n = (.ok (es, cs, fs), q, m)) := Lib.hid (by rw [← Hk.out, Nat.sub_self]; simp [partsR, preP])
      obtain ⟨b0, b1, bf0, bf1, _⟩ := row2 rE
      clear hoe hoc hof hs1 hs2 hs3 rE hO hall hel hfl hrd Hk
      -- <S
      go_wp2_with fail
      generalize hWf : World.setCell _ _ _ = Wf
      obtain ⟨t0, t1, oF, _⟩ := set2r HRE.out hWf
      refine bodyPost_ret (v := .agg #[.int .i64 0, .slice none 0 0]) (by simp [results, Tryz.results42, go_sem, t0, t1]) rfl (HPost.out _ _ ?_)
      unfold KPartsP
      rw [Hfin.out]
      have hat0 : ∀ g, (Value.slice pa es.length pcap).ownBlock = some g → w.heap.size + 1 ≤ g := fun g hg => (HOE.out.lt g hg).1
      have hat1 := HOC.out.at
      have hat2 := HOF.out.at
      have hS : ∀ g ∈ [w.heap.size], g = w.heap.size := fun g hg => List.mem_singleton.1 hg
      refine ⟨HO.out.tail1 oF (Nat.le_refl _), HRd.out.only oF (by intro g hg; rw [hS g hg]; omega), _, _, _, HAll.out.only oF (by simp; omega), ⟨_, _, _, rfl⟩, ⟨_, _, _, rfl⟩, ⟨_, _, _, rfl⟩, rfl, ?_, ?_, ?_, HS1.out, HS2.out, HS3.out⟩
      · exact owns_base (HOE.out.only oF (by intro g hg; rw [hS g hg]; exact fun e => by have := hat0 _ e; omega)) (by omega)
      · exact (HOC.out.only oF (by intro g hg; rw [hS g hg]; exact ⟨by omega, fun e => by have := hat1 _ e; omega⟩)).lower (by omega) (by omega)
      · exact (HOF.out.only oF (by intro g hg; rw [hS g hg]; exact fun e => by have := hat2 _ e; omega)).lower (by omega)
      -- S>
#print axioms kparts_any
end Go.Proofs.YtmbjehnddgcboaaGreatDoor
