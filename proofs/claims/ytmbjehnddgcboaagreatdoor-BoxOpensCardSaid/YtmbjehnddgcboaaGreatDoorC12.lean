/- Joined texts: MuxS, Mux, Ext, Made, MuxL. Conditions: each part names its own. -/
import Derived.Test.YtmbjehnddgcboaaGreatDoorC10
import Derived.Test.YtmbjehnddgcboaaGreatDoorC4
import Derived.Test.YtmbjehnddgcboaaGreatDoorC11
import Derived.Test.YtmbjehnddgcboaaGreatDoorC1
import Derived.Test.YtmbjehnddgcboaaGreatDoorC2
import Derived.Test.YtmbjehnddgcboaaGreatDoorC6
/- What box.Mux makes: the bytes of a container. Conditions: none. -/
namespace Go.Proofs.YtmbjehnddgcboaaGreatDoor
open Go.RowKit
set_option linter.unusedVariables false
set_option linter.unusedSimpArgs false

/-- frames with what is filled behind each -/
def muxF (fl : List Int) (first : Nat) : Nat → List Coded → List Int
  | _, [] => []
  | f, c :: cs => unitB c.kind c.data ++ List.replicate (fl.getD (first + f) 0).toNat 0 ++ muxF fl first (f + 1) cs
def chunkBytes (fl : List Int) (n : Nat) (k : Chunk) : List Int := unitB 17 [(n : Int) % 256, k.first % 256, k.count % 256] ++ muxF fl k.first.toNat 0 k.coded
/-- the parts' bytes and their entries -/
def muxP (fl : List Int) : Nat → Nat → List Chunk → List Int × List Entry
  | _, _, [] => ([], [])
  | n, off, k :: l => (chunkBytes fl n k ++ (muxP fl (n + 1) (off + (chunkBytes fl n k).length) l).1, ⟨k.first, k.count, off, (chunkBytes fl n k).length⟩ :: (muxP fl (n + 1) (off + (chunkBytes fl n k).length) l).2)
def allSizes (l : List Chunk) : List Int := l.flatMap fun k => sizesOf k.coded
def muxBytes (c : Cfg) (W H : Int) (l : List Chunk) (fl : List Int) : List Int :=
  let hd := unitB 16 (headerB W H (allSizes l).length l.length c)
  let r := muxP fl 0 hd.length l
  let b := hd ++ r.1
  let b2 := b ++ unitB 18 (indexB r.2)
  b2 ++ unitB 19 (tailB b2 b.length)
def muxR (c : Cfg) (W H : Int) (l : List Chunk) : Except Err (List Int) :=
  if mayB c = false then .error ⟨[], 11⟩
  else if newB W H 0 = false then .error ⟨[], 3⟩
  else match checkB l with
    | some k => .error ⟨[], k⟩
    | none => match fills c (allSizes l) with
      | .error e => .error e
      | .ok fl => .ok (muxBytes c W H l fl)

/-! ### what the chapter's examples fix -/
def cfgF : Cfg := ⟨0, 3, 0, 0, 4, 8, 64, 64⟩
def chunksF : List Chunk := [⟨0, 0, 1, [⟨4, []⟩]⟩]
def testF : Bool :=
  match muxR cfgF 8 8 chunksF with
  | .ok b => decide (b.length = 83) && (match openR b with
    | .ok x => decide (x.head.W = 8) && decide (x.parts = [⟨0, 1, 30, 19⟩]) && decide (takenR x.coded x.fills = [8])
    | .error _ => false)
  | .error _ => false
theorem testF_true : testF = true := by decide +kernel
theorem first_mux : ∃ b x, muxR cfgF 8 8 chunksF = .ok b ∧ b.length = 83 ∧ openR b = .ok x ∧ x.head.W = 8 ∧ x.parts = [⟨0, 1, 30, 19⟩] ∧ takenR x.coded x.fills = [8] := by
  have h := testF_true
  unfold testF at h
  cases hm : muxR cfgF 8 8 chunksF with
  | error e => rw [hm] at h; cases h
  | ok b =>
    rw [hm] at h
    simp only [Bool.and_eq_true, decide_eq_true_eq] at h
    obtain ⟨h1, h2⟩ := h
    cases ho : openR b with
    | error e => rw [ho] at h2; cases h2
    | ok x =>
      rw [ho] at h2
      simp only [Bool.and_eq_true, decide_eq_true_eq] at h2
      exact ⟨b, x, rfl, h1, ho, h2.1.1, h2.1.2, h2.2⟩
def isErr (r : Except Err WholeD) (c : Int) (p : List (ByteArray × Int)) : Bool :=
  match r with
  | .ok _ => false
  | .error e => decide (e.code = c) && decide (e.path = p)
theorem first_nil : isErr (openR []) 1 [(sBox, 0)] = true := by decide +kernel
theorem first_zero : isErr (openR [0]) 2 [(sBox, 0)] = true := by decide +kernel
theorem isErr_eq {r : Except Err WholeD} {c : Int} {p : List (ByteArray × Int)} (h : isErr r c p = true) : r = .error ⟨p, c⟩ := by
  unfold isErr at h
  cases r with
  | ok x => cases h
  | error e =>
    obtain ⟨ep, ec⟩ := e
    simp only [Bool.and_eq_true, decide_eq_true_eq] at h
    rw [h.1, h.2]
end Go.Proofs.YtmbjehnddgcboaaGreatDoor
/- box.Mux makes a container, or tells why not. Conditions: the chunks read. (draft: the main case is open) -/
namespace Go.Proofs.YtmbjehnddgcboaaGreatDoor
open Go.RowKit
set_option linter.unusedVariables false
set_option linter.unusedSimpArgs false

def MuxP (w : World) (r : Except Err (List Int)) (e : Ending) (w' : World) : Prop :=
  Only [] w w' ∧ match r with
    | .ok b => ∃ v, e = .returned (.tuple #[v, .nilIface]) ∧ Own .u8 5 w.heap.size w' v b
    | .error er => ∃ ev, e = .returned (.tuple #[.slice none 0 0, ev]) ∧ ErrV w.heap.size w'.heap.size w' ev er

set_option maxRecDepth 100000 in
set_option maxHeartbeats 4000000 in
/-- a configuration that may not be, sides that may not be, chunks that none may be -/
theorem mux_bad {lo hi : Nat} (c : Cfg) (W H : Int) {v : Value} {l : List Chunk} {w : World} (h : ChunksAt lo hi w v l) (hl : l.length ≤ 1000000) (hbad : mayB c = false ∨ newB W H 0 = false ∨ ∃ k, checkB l = some k) :
    Calls Tryz.prog 14 #[c.v, .int .i64 W, .int .i64 H, v] w (MuxP w (muxR c W H l)) := by
  have HC := Lib.hid (fun w' (o : Only [] w w') => bcheck_any (h.quiet o) hl)
  obtain ⟨a, cap, rfl, _⟩ := h.open
  obtain ⟨a0, a1, a2, a3, a4, a5, a6, a7⟩ := c
  have HV := Lib.hid (fun w' => check_any ⟨a0, a1, a2, a3, a4, a5, a6, a7⟩ w')
  have hO : Only [] w (w.alloc (.cells #[.int .i64 a0, .int .i64 a1, .int .i64 a2, .int .i64 a3, .int .i64 a4, .int .i64 a5, .int .i64 a6, .int .i64 a7] 26)) := Only.new _ _
  have HO := Lib.hid hO
  clear h hO
  unfold Cfg.v at HV ⊢
  by_cases hm : mayB ⟨a0, a1, a2, a3, a4, a5, a6, a7⟩ = true
  · rw [if_pos hm] at HV
    simp only [codeV] at HV
    by_cases hn : newB W H 0 = true
    · obtain ⟨k, hk⟩ : ∃ k, checkB l = some k := by
        rcases hbad with h | h | h
        · rw [hm] at h; cases h
        · rw [hn] at h; cases h
        · exact h
      have hfin : muxR ⟨a0, a1, a2, a3, a4, a5, a6, a7⟩ W H l = .error ⟨[], k⟩ := by unfold muxR; rw [if_neg (by simp [hm]), if_neg (by simp [hn]), hk]
      have Hfin := Lib.hid hfin
      have Hn := Lib.hid hn
      have Hk := Lib.hid hk
      clear hfin hn hk hm hbad
      go_enter Tryz.func14, Tryz.ntmps14
      go_wp2_with (first
        | (go_at_call 27; refine (HV.out _).mono ?_; rintro e w1 ⟨rfl, hq1⟩; have Hq1 := Lib.hid hq1; clear hq1)
        | (go_at_call 28; refine (pnew_any _ _ _ _).mono ?_; rintro e w2 hP; unfold NewP at hP; rw [Hn.out] at hP; obtain ⟨hq2, fa, fn, fc, rfl⟩ := hP; have Hq2 := Lib.hid hq2; clear hq2)
        | (go_at_call 29; refine (HC.out _ (HO.out.q (Hq1.out.q (Hq2.out.q (Only.new _ _))))).mono ?_; rintro e w3 ⟨⟨u, rfl, hu⟩, hq3⟩; rw [Hk.out] at hu; have hu2 : u = .iface 39 (.int .i64 k) := hu; subst hu2; have Hq3 := Lib.hid hq3; clear hu hq3)
        | fail)
      go_ret2
      rw [Hfin.out]
      exact ⟨HO.out.q (Hq1.out.q (Hq2.out.q ((Only.new _ _).q Hq3.out))), _, rfl, rfl⟩
    · have hn' : newB W H 0 = false := by simpa using hn
      have hfin : muxR ⟨a0, a1, a2, a3, a4, a5, a6, a7⟩ W H l = .error ⟨[], 3⟩ := by unfold muxR; rw [if_neg (by simp [hm]), if_pos hn']
      have Hfin := Lib.hid hfin
      have Hn := Lib.hid hn'
      clear hfin hn hn' hm hbad
      go_enter Tryz.func14, Tryz.ntmps14
      go_wp2_with (first
        | (go_at_call 27; refine (HV.out _).mono ?_; rintro e w1 ⟨rfl, hq1⟩; have Hq1 := Lib.hid hq1; clear hq1)
        | (go_at_call 28; refine (pnew_any _ _ _ _).mono ?_; rintro e w2 hP; unfold NewP at hP; rw [Hn.out] at hP; obtain ⟨hq2, rfl⟩ := hP; have Hq2 := Lib.hid hq2; clear hq2)
        | fail)
      go_ret2
      rw [Hfin.out]
      exact ⟨HO.out.q (Hq1.out.q (Hq2.out.q (Only.new _ _))), _, rfl, rfl⟩
  · have hm' : mayB ⟨a0, a1, a2, a3, a4, a5, a6, a7⟩ = false := by simpa using hm
    rw [if_neg hm] at HV
    simp only [codeV] at HV
    have hfin : muxR ⟨a0, a1, a2, a3, a4, a5, a6, a7⟩ W H l = .error ⟨[], 11⟩ := if_pos hm'
    have Hfin := Lib.hid hfin
    clear hfin hm hm' hbad
    go_enter Tryz.func14, Tryz.ntmps14
    go_wp2_with (first
      | (go_at_call 27; refine (HV.out _).mono ?_; rintro e w1 ⟨rfl, hq1⟩; have Hq1 := Lib.hid hq1; clear hq1)
      | fail)
    go_ret2
    rw [Hfin.out]
    exact ⟨HO.out.q Hq1.out, _, rfl, rfl⟩
end Go.Proofs.YtmbjehnddgcboaaGreatDoor
/- What opens is read the same when more bytes follow, and is then refused; how what opens ends. Conditions: none. -/
namespace Go.Proofs.YtmbjehnddgcboaaGreatDoor
open Go.RowKit
set_option linter.unusedVariables false
set_option linter.unusedSimpArgs false

theorem getD_append {l m : List Int} {i : Nat} (h : i < l.length) : (l ++ m).getD i 0 = l.getD i 0 := by
  simp [List.getD_eq_getElem?_getD, List.getElem?_append_left h]
theorem nextD_ext {d m : List Int} {p : Nat} {u : UnitD} (hr : ∀ x ∈ d, InK .u8 x) (hd : 0 < d.length) (h : nextD d p = .ok u) : nextD (d ++ m) p = .ok u := by
  have hnn := lenU_nn d hr
  unfold nextD at h
  split at h
  · rename_i h0
    cases h
    unfold nextD
    rw [if_pos (by rw [getD_append hd]; exact h0)]
  rename_i h0
  split at h
  · cases h
  rename_i h4
  split at h
  · cases h
  rename_i h5
  split at h
  · cases h
  rename_i h8
  split at h
  · cases h
  rename_i hc
  cases h
  have e : lenU (d ++ m) = lenU d := by simp only [lenU, getD_append (show 1 < d.length by omega), getD_append (show 2 < d.length by omega), getD_append (show 3 < d.length by omega)]
  have es : sumU (d ++ m) (lenU d).toNat = sumU d (lenU d).toNat := by
    simp only [sumU, getD_append (show 4 + (lenU d).toNat < d.length by omega), getD_append (show 5 + (lenU d).toNat < d.length by omega), getD_append (show 6 + (lenU d).toNat < d.length by omega), getD_append (show 7 + (lenU d).toNat < d.length by omega)]
  unfold nextD
  rw [getD_append hd, if_neg h0, if_neg (by rw [List.length_append]; omega), e, if_neg h5, if_neg (by rw [List.length_append]; omega), List.take_append_of_le_length (by omega), es, if_neg hc]
  congr 2
  rw [List.drop_append_of_le_length (by omega), List.take_append_of_le_length (by rw [List.length_drop]; omega)]
theorem peekR_ext {l m : List Int} {p : Nat} {u : UnitD} (hr : ∀ x ∈ l, InK .u8 x) (hp : p ≤ l.length) (h : peekR l p = .ok u) : peekR (l ++ m) p = .ok u := by
  unfold peekR at h
  split at h
  · cases h
  unfold peekR
  rw [if_neg (by rw [List.length_append]; omega), List.drop_append_of_le_length hp]
  exact nextD_ext (fun x hx => hr x (List.mem_of_mem_drop hx)) (by rw [List.length_drop]; omega) h
theorem nextR_ext {l m : List Int} {p : Nat} {k n : Int} {u : UnitD} (hr : ∀ x ∈ l, InK .u8 x) (hp : p ≤ l.length) (h : nextR l p k n = .ok u) : nextR (l ++ m) p k n = .ok u := by
  obtain ⟨h1, h2, h3⟩ := nextR_peek h
  unfold nextR
  rw [peekR_ext hr hp h1]
  simp [h2, h3]
theorem zeros_append : ∀ (l m : List Int), zeros l < l.length → zeros (l ++ m) = zeros l
  | [], m, h => absurd h (by simp)
  | x :: l, m, h => by
    simp only [List.cons_append, zeros, List.length_cons] at h ⊢
    split
    · rename_i hx
      rw [if_pos hx] at h
      rw [zeros_append l m (by omega)]
    · rfl
theorem framesR_ext {l m : List Int} (hr : ∀ x ∈ l, InK .u8 x) : ∀ (c i p n : Nat) {x : List Coded × List Int}, p ≤ l.length → n ≤ p → (framesR l c i p n).1 = .ok x → (framesR l c i p n).2.1 < l.length → framesR (l ++ m) c i p n = framesR l c i p n
  | 0, i, p, n, x, hp, hn, h, hL => rfl
  | c + 1, i, p, n, x, hp, hn, h, hL => by
    unfold framesR at h hL
    cases hpk : peekR l p with
    | error e => rw [hpk] at h; cases h
    | ok u =>
      have h1 := peekR_ok hpk hp hr
      have hz := zeros_le (l.drop u.end_)
      rw [List.length_drop] at hz
      have hpos := framesR_pos hr c (i + 1) (u.end_ + zeros (l.drop u.end_)) (n + 1 + zeros (l.drop u.end_)) (by omega) (by omega)
      rw [hpk] at h hL
      simp only at h hL
      split at h
      · cases h
      · rename_i hb
        rw [if_neg hb] at hL
        cases hrb : readB ⟨u.kind, u.data⟩ with
        | some k => rw [hrb] at h; cases h
        | none =>
          rw [hrb] at h hL
          simp only [consF] at h hL
          cases hf : (framesR l c (i + 1) (u.end_ + zeros (l.drop u.end_)) (n + 1 + zeros (l.drop u.end_))).1 with
          | error e => rw [hf] at h; cases h
          | ok y =>
            have hzc : zeros ((l ++ m).drop u.end_) = zeros (l.drop u.end_) := by
              rw [List.drop_append_of_le_length (by omega), zeros_append _ _ (by rw [List.length_drop]; omega)]
            have ih := framesR_ext (m := m) hr c (i + 1) (u.end_ + zeros (l.drop u.end_)) (n + 1 + zeros (l.drop u.end_)) (by omega) (by omega) hf hL
            unfold framesR
            rw [peekR_ext hr hp hpk, hpk]
            simp only
            rw [if_neg hb, if_neg hb, hrb]
            simp only
            rw [hzc, ih]
theorem partR_ext {l m : List Int} (hr : ∀ x ∈ l, InK .u8 x) {p n : Nat} {num first left behind : Int} {x : Entry × List Coded × List Int} (hp : p ≤ l.length) (hn : n ≤ p)
    (h : (partR l p n num first left behind).1 = .ok x) (hL : (partR l p n num first left behind).2.1 < l.length) : partR (l ++ m) p n num first left behind = partR l p n num first left behind := by
  unfold partR at h hL
  cases hnx : nextR l p 17 3 with
  | error e => rw [hnx] at h; cases h
  | ok u =>
    obtain ⟨hpk, _, _⟩ := nextR_peek hnx
    have h1 := peekR_ok hpk hp hr
    rw [hnx] at h hL
    simp only at h hL
    split at h
    · cases h
    · rename_i hb
      rw [if_neg hb] at hL
      simp only at hL
      cases hf : (framesR l (u.data.getD 2 0).toNat 0 u.end_ (n + 1)).1 with
      | error e => rw [hf] at h; cases h
      | ok y =>
        have ih := framesR_ext (m := m) hr (u.data.getD 2 0).toNat 0 u.end_ (n + 1) (by omega) (by omega) hf hL
        unfold partR
        rw [nextR_ext hr hp hnx, hnx]
        simp only
        rw [if_neg hb, if_neg hb, ih]
theorem partsR_mono {l : List Int} (hl : ∀ x ∈ l, InK .u8 x) {F parts : Int} : ∀ (c k a p n : Nat), p ≤ l.length → n ≤ p → p ≤ (partsR l F parts c k a p n).2.1
  | 0, k, a, p, n, hp, hn => Nat.le_refl _
  | c + 1, k, a, p, n, hp, hn => by
    unfold partsR
    have hpo := partR_ok hl (num := (k : Int)) (first := (a : Int)) (left := F - a) (behind := parts - 1 - k) hp hn
    cases hpr : (partR l p n k a (F - a) (parts - 1 - k)).1 with
    | error e' => exact hpo.1
    | ok y => exact Nat.le_trans hpo.1 (partsR_mono hl c (k + 1) (a + y.2.1.length) _ _ hpo.2.1 hpo.2.2.1)
theorem partsR_ext {l m : List Int} (hl : ∀ x ∈ l, InK .u8 x) {F parts : Int} : ∀ (c k a p n : Nat) {x : List Entry × List Coded × List Int}, p ≤ l.length → n ≤ p → (partsR l F parts c k a p n).1 = .ok x → (partsR l F parts c k a p n).2.1 < l.length → partsR (l ++ m) F parts c k a p n = partsR l F parts c k a p n
  | 0, k, a, p, n, x, hp, hn, h, hL => rfl
  | c + 1, k, a, p, n, x, hp, hn, h, hL => by
    unfold partsR at h hL
    have hpo := partR_ok hl (num := (k : Int)) (first := (a : Int)) (left := F - a) (behind := parts - 1 - k) hp hn
    cases hpr : (partR l p n k a (F - a) (parts - 1 - k)).1 with
    | error e => rw [hpr] at h; cases h
    | ok y =>
      rw [hpr] at h hL
      simp only [consP] at h hL
      have hmo := partsR_mono hl (F := F) (parts := parts) c (k + 1) (a + y.2.1.length) _ _ hpo.2.1 hpo.2.2.1
      cases hps : (partsR l F parts c (k + 1) (a + y.2.1.length) (partR l p n k a (F - a) (parts - 1 - k)).2.1 (partR l p n k a (F - a) (parts - 1 - k)).2.2).1 with
      | error e => rw [hps] at h; cases h
      | ok z =>
        have e1 := partR_ext (m := m) hl hp hn hpr (by omega)
        have ih := partsR_ext (m := m) hl c _ _ _ _ hpo.2.1 hpo.2.2.1 hps hL
        unfold partsR
        rw [e1, hpr]
        simp only
        rw [ih]
theorem exactR_ext {l m : List Int} (hl : ∀ x ∈ l, InK .u8 x) {p n : Nat} {k : Int} {d : List Int} (hp : p ≤ l.length) (h : (exactR l p n k d).1 = none) : exactR (l ++ m) p n k d = exactR l p n k d := by
  unfold exactR at h ⊢
  cases hnx : nextR l p k d.length with
  | error e' => rw [hnx] at h; cases h
  | ok u => rw [nextR_ext hl hp hnx]
/-- how what opens ends: a unit whose data is the sum of all ahead, and its own sum -/
structure TailShape (d : List Int) (q p : Nat) : Prop where
  len : d.length = q + 16
  data : ((d.drop q).drop 4).take 8 = tailB (d.take q) p
  sum : (crc ((d.drop q).take 12) : Int) = sumU (d.drop q) 8
theorem tailB_length (l : List Int) (n : Int) : (tailB l n).length = 8 := by simp [tailB, be_length]
theorem closeR_shape {l : List Int} (hl : ∀ x ∈ l, InK .u8 x) {h : HeadD} {es : List Entry} {cs : List Coded} {fs : List Int} {p n : Nat} (hp : p ≤ l.length) (hn : n ≤ p) {x : WholeD} (hh : (closeR l h es cs fs p n).1 = .ok x) :
    (∃ q, TailShape l q p) ∧ ∀ m, m ≠ [] → ∃ e, (closeR (l ++ m) h es cs fs p n).1 = .error e := by
  have h1 := exactR_pos hl (k := 18) (d := indexB es) hp hn
  unfold closeR at hh
  split at hh
  · cases hh
  rename_i he1
  have h2 := exactR_pos hl (p := (exactR l p n 18 (indexB es)).2.1) (n := (exactR l p n 18 (indexB es)).2.2) (k := 19) (d := tailB (l.take (exactR l p n 18 (indexB es)).2.1) p) h1.2.1 h1.2.2
  split at hh
  · cases hh
  rename_i he2
  split at hh
  · cases hh
  rename_i he3
  clear hh
  have x1 := fun m => exactR_ext (m := m) hl hp he1
  have x2 := fun m => exactR_ext (m := m) hl h1.2.1 he2
  have hq3 : (exactR l (exactR l p n 18 (indexB es)).2.1 (exactR l p n 18 (indexB es)).2.2 19 (tailB (l.take (exactR l p n 18 (indexB es)).2.1) p)).2.1 = l.length := by
    unfold endR at he3
    split at he3
    · split at he3 <;> cases he3
    · omega
  refine ⟨⟨(exactR l p n 18 (indexB es)).2.1, ?_⟩, fun m hm => ?_⟩
  · generalize (exactR l p n 18 (indexB es)).2.1 = q at *
    generalize (exactR l p n 18 (indexB es)).2.2 = n1 at *
    unfold exactR at he2 hq3
    cases hnx : nextR l q 19 (tailB (l.take q) p).length with
    | error e' => rw [hnx] at he2; cases he2
    | ok u =>
      rw [hnx] at he2 hq3
      simp only at he2 hq3
      split at he2
      · rename_i hd
        rw [if_pos hd] at hq3
        simp only at hq3
        obtain ⟨hpk, hk, hlen⟩ := nextR_peek hnx
        unfold peekR at hpk
        split at hpk
        · cases hpk
        rename_i hne
        have hnn := lenU_nn (l.drop q) (fun x hx => hl x (List.mem_of_mem_drop hx))
        unfold nextD at hpk
        split at hpk
        · cases hpk; exact absurd hk (by simp)
        split at hpk
        · cases hpk
        rename_i h4
        split at hpk
        · cases hpk
        rename_i h5
        split at hpk
        · cases hpk
        rename_i h8
        split at hpk
        · cases hpk
        rename_i hc
        cases hpk
        simp only at hd hq3 hk
        have e8 : (((l.drop q).drop 4).take (lenU (l.drop q)).toNat).length = 8 := by rw [hd, tailB_length]
        rw [List.length_take, List.length_drop, List.length_drop] at e8
        rw [List.length_drop] at h4 h8
        have e9 : (lenU (l.drop q)).toNat = 8 := by omega
        rw [e9] at hd hc hq3
        exact ⟨by omega, hd, Decidable.not_not.1 hc⟩
      · cases he2
  · have hml : 0 < m.length := List.length_pos_iff.2 hm
    unfold closeR
    rw [x1 m, he1]
    simp only
    rw [List.take_append_of_le_length h1.2.1, x2 m, he2]
    simp only
    rw [hq3]
    have : ∃ e, endR (l ++ m) l.length = some e := by
      unfold endR
      rw [if_pos (by rw [List.length_append]; omega)]
      cases peekR (l ++ m) l.length with
      | error e => exact ⟨_, rfl⟩
      | ok u => exact ⟨_, rfl⟩
    obtain ⟨e, he⟩ := this
    rw [he]
    exact ⟨_, rfl⟩
theorem headR_ext {l m : List Int} (hl : ∀ x ∈ l, InK .u8 x) {p n : Nat} {h : HeadD} (hp : p ≤ l.length) (hh : (headR l p n).1 = .ok h) : headR (l ++ m) p n = headR l p n := by
  unfold headR at hh ⊢
  cases hnx : nextR l p 16 22 with
  | error e' => rw [hnx] at hh; cases hh
  | ok u => rw [nextR_ext hl hp hnx]
/-- what opens ends as it should; with more bytes it does not open -/
theorem openR_shape {l : List Int} (hl : ∀ x ∈ l, InK .u8 x) {x : WholeD} (h : openR l = .ok x) : (∃ q p, TailShape l q p) ∧ ∀ m, m ≠ [] → ∃ e, openR (l ++ m) = .error e := by
  unfold openR at h
  cases ha : (allR l).1 with
  | error e => rw [ha] at h; cases h
  | ok y =>
    unfold allR at ha
    have hp := headR_pos hl (p := 0) (n := 0) (Nat.zero_le _) (Nat.le_refl _)
    cases hhd : (headR l 0 0).1 with
    | error e => rw [hhd] at ha; cases ha
    | ok hd =>
      rw [hhd] at ha
      simp only [bodyR] at ha
      have hps0 := partsR_pos hl (F := hd.F) (parts := hd.parts) hd.parts.toNat 0 0 (headR l 0 0).2.1 (headR l 0 0).2.2 hp.2.1 hp.2.2.1
      cases hps : (partsR l hd.F hd.parts hd.parts.toNat 0 0 (headR l 0 0).2.1 (headR l 0 0).2.2).1 with
      | error e => rw [hps] at ha; cases ha
      | ok z =>
        rw [hps] at ha
        simp only at ha
        have hc := closeR_shape hl hps0.1 hps0.2 ha
        refine ⟨⟨_, _, hc.1.choose_spec⟩, fun m hm => ?_⟩
        obtain ⟨e, he⟩ := hc.2 m hm
        have hlt : (partsR l hd.F hd.parts hd.parts.toNat 0 0 (headR l 0 0).2.1 (headR l 0 0).2.2).2.1 < l.length := by
          have h1 := exactR_pos hl (k := 18) (d := indexB z.1) hps0.1 hps0.2
          unfold closeR at ha
          split at ha
          · cases ha
          rename_i he1
          have := exactR_none hl hps0.1 he1
          omega
        have e1 := partsR_ext (m := m) hl _ _ _ _ _ hp.2.1 hp.2.2.1 hps hlt
        have hne : (allR (l ++ m)).1 = .error e := by
          unfold allR
          rw [headR_ext hl (Nat.zero_le _) hhd, hhd]
          simp only
          rw [e1]
          simp only [bodyR]
          rw [hps]
          exact he
        unfold openR
        rw [hne]
        exact ⟨_, rfl⟩
theorem be4_inj {a b : Nat} (ha : a < 4294967296) (hb : b < 4294967296) (h : be a 4 = be b 4) : a = b := by
  rw [be4_eq ha, be4_eq hb] at h
  simp only [be4, List.cons.injEq, and_true] at h
  omega
theorem set_in {b : List Int} (hb : ∀ x ∈ b, InK .u8 x) {i : Nat} {y : Int} (hy : InK .u8 y) : ∀ x ∈ b.set i y, InK .u8 x := by
  intro x hx
  rcases List.mem_or_eq_of_mem_set hx with h | rfl
  · exact hb x h
  · exact hy
theorem getD_set_ne {l : List Int} {i j : Nat} {y : Int} (h : i ≠ j) : (l.set i y).getD j 0 = l.getD j 0 := by
  simp [List.getD_eq_getElem?_getD, List.getElem?_set_ne h]
theorem getD_set_eq {l : List Int} {i : Nat} {y : Int} (h : i < l.length) : (l.set i y).getD i 0 = y := by
  simp [List.getD_eq_getElem?_getD, h]
/-- two that end so differ not in one byte alone -/
theorem TailShape.turned {b : List Int} (hb : ∀ x ∈ b, InK .u8 x) {i : Nat} (hi : i < b.length) {y : Int} (hy : InK .u8 y) {q q' p p' : Nat} (h1 : TailShape b q p) (h2 : TailShape (b.set i y) q' p') : b.getD i 0 = y := by
  obtain ⟨l1, d1, s1⟩ := h1
  obtain ⟨l2, d2, s2⟩ := h2
  rw [List.length_set] at l2
  obtain rfl : q = q' := by omega
  have hsb := set_in hb (i := i) hy
  by_cases hiq : i < q
  · rw [List.drop_set_of_lt hiq, d1] at d2
    unfold tailB at d2
    have hinj := (List.append_inj d2 (by simp [be_length])).2
    have hc1 := crc_lt (b.take q) (fun x hx => hb x (List.mem_of_mem_take hx))
    have hc2 := crc_lt ((b.set i y).take q) (fun x hx => hsb x (List.mem_of_mem_take hx))
    have hc := be4_inj hc1 hc2 hinj
    rw [List.take_set] at hc
    have := crc_set (fun x hx => hb x (List.mem_of_mem_take hx)) (by rw [List.length_take]; omega) hy hc.symm
    rwa [getD_take hiq] at this
  · have hj : i - q < 16 := by omega
    have hd : (b.set i y).drop q = (b.drop q).set (i - q) y := by rw [List.drop_set, if_neg hiq]
    have hg : (b.drop q).getD (i - q) 0 = b.getD i 0 := by rw [getD_drop, show q + (i - q) = i by omega]
    have hT : ∀ x ∈ b.drop q, InK .u8 x := fun x hx => hb x (List.mem_of_mem_drop hx)
    have hTl : (b.drop q).length = 16 := by rw [List.length_drop]; omega
    rw [hd] at s2
    rw [← hg]
    generalize b.drop q = T at *
    generalize i - q = j at *
    by_cases hj2 : j < 12
    · have e : sumU (T.set j y) 8 = sumU T 8 := by
        simp only [sumU]
        rw [getD_set_ne (by omega), getD_set_ne (by omega), getD_set_ne (by omega), getD_set_ne (by omega)]
      rw [e, ← s1, List.take_set] at s2
      have hcc : crc ((T.take 12).set j y) = crc (T.take 12) := by omega
      have := crc_set (fun x hx => hT x (List.mem_of_mem_take hx)) (by rw [List.length_take]; omega) hy hcc
      rwa [getD_take hj2] at this
    · have e : (T.set j y).take 12 = T.take 12 := by rw [List.take_set, List.set_eq_of_length_le (by rw [List.length_take]; omega)]
      rw [e, s1] at s2
      have r12 := ints_range hT (i := 12) (by omega)
      have r13 := ints_range hT (i := 13) (by omega)
      have r14 := ints_range hT (i := 14) (by omega)
      have r15 := ints_range hT (i := 15) (by omega)
      unfold InK at hy
      simp only [sumU, Nat.reduceAdd] at s2
      have hcase : j = 12 ∨ j = 13 ∨ j = 14 ∨ j = 15 := by omega
      rcases hcase with rfl | rfl | rfl | rfl
      · rw [getD_set_eq (l := T) (i := 12) (by omega), getD_set_ne (by omega), getD_set_ne (by omega), getD_set_ne (by omega)] at s2
        omega
      · rw [getD_set_ne (by omega), getD_set_eq (l := T) (i := 13) (by omega), getD_set_ne (by omega), getD_set_ne (by omega)] at s2
        omega
      · rw [getD_set_ne (by omega), getD_set_ne (by omega), getD_set_eq (l := T) (i := 14) (by omega), getD_set_ne (by omega)] at s2
        omega
      · rw [getD_set_ne (by omega), getD_set_ne (by omega), getD_set_ne (by omega), getD_set_eq (l := T) (i := 15) (by omega)] at s2
        omega
/-- what opens does not open with one byte turned -/
theorem openR_turned {b : List Int} (hb : ∀ x ∈ b, InK .u8 x) {x : WholeD} (h : openR b = .ok x) {i : Nat} (hi : i < b.length) {y : Int} (hy : InK .u8 y) (hne : b.getD i 0 ≠ y) : ∃ e, openR (b.set i y) = .error e := by
  cases ho : openR (b.set i y) with
  | error e => exact ⟨e, rfl⟩
  | ok z =>
    obtain ⟨⟨q, p, s1⟩, _⟩ := openR_shape hb h
    obtain ⟨⟨q', p', s2⟩, _⟩ := openR_shape (set_in hb hy) ho
    exact absurd (s1.turned hb hi hy s2) hne
/-- nor cut off -/
theorem openR_cutoff {b : List Int} (hb : ∀ x ∈ b, InK .u8 x) {x : WholeD} (h : openR b = .ok x) {i : Nat} (hi : i < b.length) : ∃ e, openR (b.take i) = .error e := by
  cases ho : openR (b.take i) with
  | error e => exact ⟨e, rfl⟩
  | ok z =>
    obtain ⟨_, h2⟩ := openR_shape (fun x hx => hb x (List.mem_of_mem_take hx)) ho
    obtain ⟨e, he⟩ := h2 (b.drop i) (by intro h0; have := congrArg List.length h0; simp at this; omega)
    rw [List.take_append_drop, h] at he
    cases he
end Go.Proofs.YtmbjehnddgcboaaGreatDoor
/- A container that was made opens, and tells what it was made of. Conditions: none. -/
namespace Go.Proofs.YtmbjehnddgcboaaGreatDoor
open Go.RowKit
set_option linter.unusedVariables false
set_option linter.unusedSimpArgs false

theorem getB_be2 {v : Int} (h0 : 0 ≤ v) (h1 : v < 65536) : getB (be v 2) = v := by
  have e : be v 2 = [v / 256 % 256, v / 1 % 256] := rfl
  rw [e]; simp only [getB, List.foldl_cons, List.foldl_nil]; omega
theorem getB_be4 {v : Int} (h0 : 0 ≤ v) (h1 : v < 4294967296) : getB (be v 4) = v := by
  have e : be v 4 = [v / 16777216 % 256, v / 65536 % 256, v / 256 % 256, v / 1 % 256] := rfl
  rw [e]; simp only [getB, List.foldl_cons, List.foldl_nil]; omega
theorem getD_append_right' {l m : List Int} {i : Nat} (j : Nat) (h : i = l.length + j) : (l ++ m).getD i 0 = m.getD j 0 := by
  subst h
  simp [List.getD_eq_getElem?_getD, List.getElem?_append_right (Nat.le_add_right _ _)]
theorem drop_step {l X B : List Int} {p : Nat} (h : l.drop p = X ++ B) : l.drop (p + X.length) = B := by
  rw [← List.drop_drop, h, List.drop_left]
theorem unitHead_in {k : Int} {data : List Int} (hk : 1 ≤ k ∧ k ≤ 255) (hl : data.length ≤ 65536) (hin : ∀ x ∈ data, InK .u8 x) : ∀ x ∈ unitHead k data, InK .u8 x := by
  intro x hx
  simp only [unitHead, List.cons_append, List.nil_append, List.mem_cons] at hx
  rcases hx with rfl | rfl | rfl | rfl | hx
  · exact ⟨by omega, by omega⟩
  · exact ⟨by omega, by omega⟩
  · exact ⟨by omega, by omega⟩
  · exact ⟨by omega, by omega⟩
  · exact hin x hx
theorem nextD_unit {k : Int} {data B : List Int} (p : Nat) (hk : 1 ≤ k ∧ k ≤ 255) (hl : data.length ≤ 65536) (hin : ∀ x ∈ data, InK .u8 x) : nextD (unitB k data ++ B) p = .ok ⟨k, data, p, p + (8 + data.length)⟩ := by
  have hc := crc_lt _ (unitHead_in hk hl hin)
  have hul : (unitHead k data).length = 4 + data.length := by simp [unitHead]; omega
  have e : unitB k data ++ B = unitHead k data ++ (be4 (crc (unitHead k data)) ++ B) := by rw [unitB, be4_eq hc, List.append_assoc]
  rw [e]
  have hlen : ∀ T, lenU (unitHead k data ++ T) = data.length := by
    intro T
    simp only [lenU, unitHead, List.cons_append, List.nil_append, List.getD_cons_succ, List.getD_cons_zero]; omega
  have hsum : ∀ (c : Nat), c < 4294967296 → sumU (unitHead k data ++ (be4 c ++ B)) data.length = c := by
    intro c hc
    unfold sumU
    rw [getD_append_right' (i := 4 + data.length) 0 (by omega), getD_append_right' (i := 5 + data.length) 1 (by omega), getD_append_right' (i := 6 + data.length) 2 (by omega), getD_append_right' (i := 7 + data.length) 3 (by omega)]
    simp only [be4, List.cons_append, List.nil_append, List.getD_cons_succ, List.getD_cons_zero]
    omega
  have hL : ∀ c, (unitHead k data ++ (be4 c ++ B)).length = 8 + data.length + B.length := by intro c; simp [be4, hul]; omega
  have h0 : ∀ T, (unitHead k data ++ T).getD 0 0 = k := fun T => rfl
  have htk : ∀ T, (unitHead k data ++ T).take (4 + data.length) = unitHead k data := fun T => by rw [← hul, List.take_left]
  have hdt : ∀ T, (((unitHead k data ++ T).drop 4).take data.length) = data := fun T => by
    have : (unitHead k data ++ T).drop 4 = data ++ T := by simp [unitHead]
    rw [this, List.take_left]
  unfold nextD
  rw [h0, if_neg (by omega), if_neg (by rw [hL]; omega), hlen, if_neg (by omega), if_neg (by rw [hL]; omega)]
  simp only [Int.toNat_natCast]
  rw [htk, hsum _ hc, if_neg (by simp), hdt]
theorem unitB_ne {k : Int} {data B : List Int} : unitB k data ++ B ≠ [] := by simp [unitB, unitHead]
theorem peekR_unit {l : List Int} {p : Nat} {k : Int} {data B : List Int} (h : l.drop p = unitB k data ++ B) (hk : 1 ≤ k ∧ k ≤ 255) (hl : data.length ≤ 65536) (hin : ∀ x ∈ data, InK .u8 x) : peekR l p = .ok ⟨k, data, p, p + (8 + data.length)⟩ := by
  unfold peekR
  rw [if_neg (by rintro rfl; rw [List.drop_length] at h; exact unitB_ne h.symm), h, nextD_unit p hk hl hin]
theorem nextR_unit {l : List Int} {p : Nat} {k : Int} {data B : List Int} {n : Int} (h : l.drop p = unitB k data ++ B) (hk : 1 ≤ k ∧ k ≤ 255) (hl : data.length ≤ 65536) (hin : ∀ x ∈ data, InK .u8 x) (hn : (data.length : Int) = n) : nextR l p k n = .ok ⟨k, data, p, p + (8 + data.length)⟩ := by
  unfold nextR
  rw [peekR_unit h hk hl hin]
  simp [hn]
theorem exactR_unit {l : List Int} {p n : Nat} {k : Int} {data B : List Int} (h : l.drop p = unitB k data ++ B) (hk : 1 ≤ k ∧ k ≤ 255) (hl : data.length ≤ 65536) (hin : ∀ x ∈ data, InK .u8 x) : exactR l p n k data = (none, p + (8 + data.length), n + 1) := by
  unfold exactR
  rw [nextR_unit h hk hl hin rfl]
  simp
theorem zeros_rep : ∀ (z : Nat) (r : List Int), zeros (List.replicate z 0 ++ r) = z + zeros r
  | 0, r => by simp
  | z + 1, r => by rw [List.replicate_succ, List.cons_append, zeros, if_pos rfl, zeros_rep z r]; omega
theorem zeros_unit {k : Int} {data B : List Int} (hk : 1 ≤ k) : zeros (unitB k data ++ B) = 0 := by
  have e : unitB k data ++ B = k :: ((unitB k data).tail ++ B) := rfl
  rw [e, zeros, if_neg (by omega)]
theorem readB_none {c : Coded} (h : readB c = none) : 1 ≤ c.kind ∧ c.kind ≤ 4 ∧ c.data.length ≤ 65536 := by
  unfold readB at h
  split at h
  · cases h
  rename_i hk
  have hk' : kindB c.kind = true := by simpa using hk
  simp only [kindB, decide_eq_true_eq] at hk'
  split at h
  · split at h
    · cases h
    · omega
  split at h
  · cases h
  split at h
  · cases h
  split at h
  · cases h
  omega
theorem zeros_muxF {fl : List Int} {first : Nat} : ∀ (cs : List Coded) (f : Nat) {B : List Int}, (∀ c ∈ cs, 1 ≤ c.kind) → zeros B = 0 → zeros (muxF fl first f cs ++ B) = 0
  | [], f, B, _, hB => hB
  | c :: cs, f, B, hc, hB => by
    rw [muxF, List.append_assoc, List.append_assoc]
    exact zeros_unit (hc c (by simp))
def CodOk (c : Coded) : Prop := readB c = none ∧ ∀ x ∈ c.data, InK .u8 x
theorem framesR_made {l fl : List Int} {first : Nat} (hfl : ∀ z ∈ fl, 0 ≤ z) : ∀ (cs : List Coded) (f p n : Nat) {B : List Int}, l.drop p = muxF fl first f cs ++ B → zeros B = 0 → (∀ c ∈ cs, CodOk c) → (f = 0 → ∀ c, cs.head? = some c → c.kind = 1 ∨ c.kind = 4) → first + f + cs.length ≤ fl.length →
    ∃ n', framesR l cs.length f p n = (.ok (cs, (fl.drop (first + f)).take cs.length), p + (muxF fl first f cs).length, n')
  | [], f, p, n, B, h, hB, hc, hf, hn => ⟨n, by simp [framesR, muxF]⟩
  | c :: cs, f, p, n, B, h, hB, hc, hf, hn => by
    obtain ⟨hr, hin⟩ := hc c (by simp)
    obtain ⟨k1, k4, hdl⟩ := readB_none hr
    rw [muxF, List.append_assoc, List.append_assoc] at h
    have hpk := peekR_unit h ⟨k1, by omega⟩ hdl hin
    have h1 := drop_step h
    rw [unitB_length] at h1
    have hz : zeros (l.drop (p + (c.data.length + 8))) = (fl.getD (first + f) 0).toNat := by
      rw [h1, zeros_rep, zeros_muxF cs (f + 1) (fun c' hc' => (readB_none (hc c' (by simp [hc'])).1).1) hB]
      omega
    have h2 := drop_step h1
    rw [List.length_replicate] at h2
    rw [List.length_cons] at hn
    obtain ⟨n', ih⟩ := framesR_made hfl cs (f + 1) _ (n + 1 + (fl.getD (first + f) 0).toNat) h2 hB (fun c' hc' => hc c' (by simp [hc'])) (fun h => absurd h (by omega)) (by omega)
    refine ⟨n', ?_⟩
    rw [List.length_cons, framesR, hpk]
    simp only
    rw [if_neg (by
      rintro (h | h | ⟨h, h'⟩)
      · omega
      · omega
      · rcases hf h c rfl with e | e
        · exact h'.1 e
        · exact h'.2 e), hr]
    simp only
    rw [show p + (8 + c.data.length) = p + (c.data.length + 8) by omega, hz, ih]
    have hg : 0 ≤ fl.getD (first + f) 0 := by
      have : fl.getD (first + f) 0 ∈ fl := by simp [show first + f < fl.length by omega]
      exact hfl _ this
    have hd : (fl.drop (first + f)).take (cs.length + 1) = fl.getD (first + f) 0 :: (fl.drop (first + (f + 1))).take cs.length := by
      rw [drop_cons (show first + f < fl.length by omega)]; rfl
    rw [hd]
    simp only [consF, Prod.mk.injEq, Except.ok.injEq, List.cons.injEq, true_and, and_true]
    refine ⟨by omega, ?_⟩
    rw [muxF, List.length_append, List.length_append, List.length_replicate, unitB_length]
    omega
theorem head?_getD {l : List Coded} {c : Coded} (h : l.head? = some c) : l.getD 0 default = c := by
  cases l with
  | nil => cases h
  | cons a l => simpa using h
theorem chunkB_parts {k : Chunk} (h : chunkB k = true) : (0 ≤ k.first ∧ k.first < 16 ∧ 1 ≤ k.count ∧ k.count ≤ 16 ∧ (k.coded.length : Int) = k.count) ∧ firstB (k.coded.getD 0 default).kind = true ∧ ∀ c ∈ k.coded, readB c = none := by
  simp only [chunkB, Bool.and_eq_true, headB, decide_eq_true_eq, List.all_eq_true, Option.isNone_iff_eq_none] at h
  exact ⟨by omega, h.1.2, h.2⟩
def ChunkIn (k : Chunk) : Prop := chunkB k = true ∧ ∀ c ∈ k.coded, ∀ x ∈ c.data, InK .u8 x
theorem partR_made {l fl : List Int} (hfl : ∀ z ∈ fl, 0 ≤ z) {k : Chunk} {num p n : Nat} {B : List Int} {left behind : Int} (h : l.drop p = chunkBytes fl num k ++ B) (hB : zeros B = 0) (hnum : num ≤ 255) (hk : ChunkIn k)
    (hlen : k.first.toNat + k.coded.length ≤ fl.length) (hb : k.count ≤ left - behind) (he : behind = 0 → k.count = left) :
    ∃ n', partR l p n num k.first left behind = (.ok (⟨k.first, k.count, p, ((chunkBytes fl num k).length : Int)⟩, k.coded, (fl.drop k.first.toNat).take k.coded.length), p + (chunkBytes fl num k).length, n') := by
  obtain ⟨⟨f0, f1, c1, c2, hcl⟩, hfk, hrd⟩ := chunkB_parts hk.1
  have hcl2 : (chunkBytes fl num k).length = 11 + (muxF fl k.first.toNat 0 k.coded).length := by rw [chunkBytes, List.length_append, unitB_length]; rfl
  unfold chunkBytes at h
  rw [List.append_assoc] at h
  have hin : ∀ x ∈ [(num : Int) % 256, k.first % 256, k.count % 256], InK .u8 x := by
    simp only [List.mem_cons, List.not_mem_nil, or_false, forall_eq_or_imp, forall_eq, InK]; omega
  have hnx := nextR_unit (n := 3) h (by omega) (by simp) hin rfl
  have h1 := drop_step h
  rw [unitB_length] at h1
  obtain ⟨n', hf⟩ := framesR_made hfl k.coded 0 _ (n + 1) h1 hB (fun c hc => ⟨hrd c hc, hk.2 c hc⟩) (fun _ c hc => by
    rw [head?_getD hc] at hfk
    simpa [firstB] using hfk) (by omega)
  refine ⟨n', ?_⟩
  unfold partR
  rw [hnx]
  simp only [List.length_cons, List.length_nil, List.getD_cons_zero, List.getD_cons_succ]
  rw [if_neg (by omega), show k.count % 256 = k.count by omega, show k.count.toNat = k.coded.length by omega]
  simp only [List.length_cons, List.length_nil] at hf
  rw [show p + (8 + (0 + 1 + 1 + 1)) = p + (0 + 1 + 1 + 1 + 8) by omega, hf]
  simp only [Nat.add_zero, Prod.mk.injEq, Except.ok.injEq, Entry.mk.injEq, true_and, and_true]
  refine ⟨?_, ?_⟩ <;> omega
theorem flat_le : ∀ {ks : List Chunk}, (∀ k ∈ ks, chunkB k = true) → ks.length ≤ (ks.flatMap Chunk.coded).length
  | [], _ => by simp
  | k :: ks, h => by
    have h1 := flat_le (ks := ks) (fun k' hk' => h k' (by simp [hk']))
    have h2 := (chunkB_parts (h k (by simp))).1
    simp only [List.flatMap_cons, List.length_append, List.length_cons]
    omega
theorem zeros_muxP {fl : List Int} : ∀ (ks : List Chunk) (num off : Nat) {B : List Int}, zeros B = 0 → zeros ((muxP fl num off ks).1 ++ B) = 0
  | [], num, off, B, hB => hB
  | k :: ks, num, off, B, hB => by
    rw [muxP, chunkBytes]
    simp only [List.append_assoc]
    exact zeros_unit (by omega)
theorem partsR_made {l fl : List Int} (hfl : ∀ z ∈ fl, 0 ≤ z) {F parts : Int} : ∀ (ks : List Chunk) (num a p n : Nat) {B : List Int}, l.drop p = (muxP fl num p ks).1 ++ B → zeros B = 0 → runsOn num a ks = true → (∀ k ∈ ks, ChunkIn k) →
    F = a + (ks.flatMap Chunk.coded).length → parts = num + ks.length → F ≤ fl.length → num + ks.length ≤ 256 →
    ∃ n', partsR l F parts ks.length num a p n = (.ok ((muxP fl num p ks).2, ks.flatMap Chunk.coded, (fl.drop a).take (ks.flatMap Chunk.coded).length), p + (muxP fl num p ks).1.length, n')
  | [], num, a, p, n, B, h, hB, hr, hk, hF, hp, hfl2, hn => ⟨n, by simp [partsR, muxP]⟩
  | k :: ks, num, a, p, n, B, h, hB, hr, hk, hF, hp, hfl2, hn => by
    have hk1 := hk k (by simp)
    have hks : ∀ k' ∈ ks, ChunkIn k' := fun k' hk' => hk k' (by simp [hk'])
    obtain ⟨⟨f0, f1, c1, c2, hcl⟩, _, _⟩ := chunkB_parts hk1.1
    have hfl3 := flat_le (fun k' hk' => (hks k' hk').1)
    rw [List.length_cons] at hp hn
    simp only [List.flatMap_cons, List.length_append] at hF
    rw [runsOn] at hr
    split at hr
    · cases hr
    rename_i hb
    have hfirst : k.first = a := by omega
    have hbytes : (muxP fl num p (k :: ks)).1 = chunkBytes fl num k ++ (muxP fl (num + 1) (p + (chunkBytes fl num k).length) ks).1 := by rw [muxP]
    have hents : (muxP fl num p (k :: ks)).2 = ⟨k.first, k.count, p, (chunkBytes fl num k).length⟩ :: (muxP fl (num + 1) (p + (chunkBytes fl num k).length) ks).2 := by rw [muxP]
    rw [hbytes, List.append_assoc] at h
    have hz := zeros_muxP (fl := fl) ks (num + 1) (p + (chunkBytes fl num k).length) hB
    have hat : k.first.toNat = a := by omega
    obtain ⟨n1, hpart⟩ := partR_made hfl (n := n) (left := F - a) (behind := parts - 1 - num) h hz (by omega) hk1 (by omega) (by omega) (fun h0 => by
      obtain rfl : ks = [] := List.eq_nil_of_length_eq_zero (by omega)
      simp only [List.flatMap_nil, List.length_nil] at hF
      omega)
    have h1 := drop_step h
    rw [← hcl] at hr
    obtain ⟨n2, ih⟩ := partsR_made hfl (F := F) (parts := parts) ks (num + 1) (a + k.coded.length) _ n1 h1 hB (by push_cast; exact hr) hks (by push_cast; omega) (by push_cast; omega) hfl2 (by omega)
    refine ⟨n2, ?_⟩
    rw [hbytes, hents]
    rw [List.length_cons, partsR]
    rw [hfirst] at hpart
    rw [hpart]
    simp only
    rw [ih]
    simp only [consP, List.flatMap_cons, hfirst, Prod.mk.injEq, Except.ok.injEq, true_and, and_true]
    refine ⟨?_, by rw [List.length_append]; omega⟩
    rw [show (a : Int).toNat = a by omega, List.length_append, List.take_add, List.drop_drop]
def HeadFits (W H : Int) (c : Cfg) : Prop := sideB W = true ∧ sideB H = true ∧ mayB c = true
theorem headD_header {W H F np : Int} {c : Cfg} (h : HeadFits W H c) : headD (headerB W H F np c) = ⟨W, H, F, c, np⟩ := by
  obtain ⟨h1, h2, h3⟩ := h
  simp only [sideB, decide_eq_true_eq] at h1 h2
  obtain ⟨q0, q1, q2, q3, q4, q5, q6, q7, q8, q9, q10, q11, q12, q13, q14, q15, q16, q17⟩ := may_bounds h3
  obtain ⟨c0, c1, c2, c3, c4, c5, c6, c7⟩ := c
  simp only at q0 q1 q2 q3 q4 q5 q6 q7 q8 q9 q10 q11 q12 q13 q14 q15 q16 q17
  have e : headD (headerB W H F np ⟨c0, c1, c2, c3, c4, c5, c6, c7⟩) = ⟨8 * (W / 8), 8 * (H / 8), F, ⟨c0, c1, c2, getB (be c3 2), c4, getB (be c5 4), getB (be c6 4), getB (be c7 4)⟩, np⟩ := rfl
  rw [e, getB_be2 (by omega) (by omega), getB_be4 (by omega) (by omega), getB_be4 (by omega) (by omega), getB_be4 (by omega) (by omega), show 8 * (W / 8) = W by omega, show 8 * (H / 8) = H by omega]
theorem headerB_length (W H F np : Int) (c : Cfg) : (headerB W H F np c).length = 22 := by simp [headerB, be_length]
theorem headerB_in {W H F np : Int} {c : Cfg} (h : HeadFits W H c) (hF : 0 ≤ F ∧ F ≤ 255) (hp : 0 ≤ np ∧ np ≤ 255) : ∀ x ∈ headerB W H F np c, InK .u8 x := by
  obtain ⟨h1, h2, h3⟩ := h
  simp only [sideB, decide_eq_true_eq] at h1 h2
  have hq := may_bounds h3
  intro x hx
  simp only [headerB, List.mem_append] at hx
  rcases hx with (((hx | hx) | hx) | hx) | hx
  · simp only [List.mem_cons, List.not_mem_nil, or_false] at hx
    rcases hx with rfl | rfl | rfl | rfl | rfl | rfl | rfl | rfl <;> exact ⟨by omega, by omega⟩
  · exact be_range _ _ x hx
  · exact be_range _ _ x hx
  · exact be_range _ _ x hx
  · exact be_range _ _ x hx
theorem indexB_in : ∀ (es : List Entry), ∀ x ∈ indexB es, InK .u8 x := by
  intro es x hx
  simp only [indexB, List.mem_flatMap, entryB, List.mem_cons, List.mem_append] at hx
  obtain ⟨e, _, hx⟩ := hx
  rcases hx with rfl | rfl | hx | hx
  · exact ⟨by omega, by omega⟩
  · exact ⟨by omega, by omega⟩
  · exact be_range _ _ x hx
  · exact be_range _ _ x hx
theorem tailB_in (l : List Int) (n : Int) : ∀ x ∈ tailB l n, InK .u8 x := by
  intro x hx
  rcases List.mem_append.1 hx with hx | hx
  · exact be_range _ _ x hx
  · exact be_range _ _ x hx
theorem muxP_length {fl : List Int} : ∀ (ks : List Chunk) (num off : Nat), (muxP fl num off ks).2.length = ks.length
  | [], num, off => rfl
  | k :: ks, num, off => by rw [muxP]; simp [muxP_length ks]
theorem allSizes_length (l : List Chunk) : (allSizes l).length = (l.flatMap Chunk.coded).length := by
  induction l with
  | nil => rfl
  | cons k l ih => simp only [allSizes, List.flatMap_cons, List.length_append, sizesOf, List.length_map] at ih ⊢; omega
theorem checkB_none {l : List Chunk} (h : checkB l = none) : l ≠ [] ∧ (∀ k ∈ l, chunkB k = true) ∧ runsOn 0 0 l = true := by
  unfold checkB at h
  split at h
  · cases h
  rename_i hb
  have h1 : l ≠ [] := fun e => hb (.inl e)
  have h2 : badB l = false := by simpa using fun e => hb (.inr e)
  refine ⟨h1, fun k hk => ?_, ?_⟩
  · have := List.any_eq_false.1 h2 k hk
    simpa using this
  · cases hr : runsOn 0 0 l with
    | true => rfl
    | false => rw [hr] at h; cases h
theorem runsOn_le : ∀ {l : List Chunk} {i a : Int}, (∀ k ∈ l, chunkB k = true) → runsOn i a l = true → a ≤ 16 → a + (l.flatMap Chunk.coded).length ≤ 16
  | [], i, a, _, _, ha => by simpa using ha
  | k :: l, i, a, hc, h, ha => by
    have hk := (chunkB_parts (hc k (by simp))).1
    rw [runsOn] at h
    split at h
    · cases h
    rename_i hb
    have := runsOn_le (fun k' hk' => hc k' (by simp [hk'])) h (by omega)
    simp only [List.flatMap_cons, List.length_append]
    push_cast
    omega
/-- what was made opens -/
theorem openR_made {c : Cfg} {W H : Int} {l : List Chunk} {fl : List Int} (hh : HeadFits W H c) (hc : checkB l = none) (hin : ∀ k ∈ l, ∀ x ∈ k.coded, ∀ y ∈ x.data, InK .u8 y) (hlen : fl.length = (allSizes l).length) (hfl : ∀ z ∈ fl, 0 ≤ z) :
    openR (muxBytes c W H l fl) = .ok ⟨⟨W, H, (allSizes l).length, c, l.length⟩, (muxP fl 0 30 l).2, l.flatMap Chunk.coded, fl⟩ := by
  obtain ⟨hne, hck, hro⟩ := checkB_none hc
  have hci : ∀ k ∈ l, ChunkIn k := fun k hk => ⟨hck k hk, hin k hk⟩
  have h16 := runsOn_le hck hro (by omega)
  have hle := flat_le hck
  have hl0 : 0 < l.length := List.length_pos_iff.2 hne
  have hal := allSizes_length l
  have hhl : (unitB 16 (headerB W H (allSizes l).length l.length c)).length = 30 := by rw [unitB_length, headerB_length]
  unfold muxBytes
  simp only
  rw [hhl]
  generalize hA : unitB 16 (headerB W H (allSizes l).length l.length c) = A at *
  generalize hR : muxP fl 0 30 l = R at *
  have hRl : R.2.length = l.length := by rw [← hR]; exact muxP_length _ _ _
  have hb2 : ∀ (X : List Int), X = A ++ R.1 ++ unitB 18 (indexB R.2) → X.length = 30 + R.1.length + (8 + (indexB R.2).length) := by
    rintro X rfl
    rw [List.length_append, List.length_append, hhl, unitB_length]; omega
  generalize hX : A ++ R.1 ++ unitB 18 (indexB R.2) = X at *
  have hXl := hb2 X rfl
  have hbl : (A ++ R.1).length = 30 + R.1.length := by rw [List.length_append, hhl]
  rw [hbl]
  generalize hL : X ++ unitB 19 (tailB X ((30 + R.1.length : Nat) : Int)) = L
  have d0 : L.drop 0 = A ++ (R.1 ++ (unitB 18 (indexB R.2) ++ (unitB 19 (tailB X ((30 + R.1.length : Nat) : Int)) ++ []))) := by
    rw [List.drop_zero, ← hL, ← hX, List.append_nil, List.append_assoc, List.append_assoc]
  have d1 := drop_step d0
  rw [hhl, Nat.zero_add] at d1
  have d2 := drop_step d1
  have d3 := drop_step d2
  rw [unitB_length] at d3
  have d4 := drop_step d3
  rw [unitB_length, tailB_length] at d4
  have hix : (indexB R.2).length ≤ 65536 := by rw [indexB_length]; omega
  have htk : L.take (30 + R.1.length + (8 + (indexB R.2).length)) = X := by rw [← hL, ← hXl, List.take_left]
  have hhead : headR L 0 0 = (.ok ⟨W, H, (allSizes l).length, c, l.length⟩, 30, 1) := by
    rw [← hA] at d0
    unfold headR
    rw [nextR_unit d0 (by omega) (by rw [headerB_length]; omega) (headerB_in hh (by omega) (by omega)) (by rw [headerB_length]; rfl)]
    simp only [headD_header hh]
    rw [if_pos ⟨by simp [newB, hh.1, hh.2.1]; decide, by simp only; omega, by simp only; omega, by simp only; omega, by simp only; omega, hh.2.2⟩, headerB_length]
  rw [← hR] at d1
  obtain ⟨n1, hparts⟩ := partsR_made (F := (allSizes l).length) (parts := l.length) hfl l 0 0 30 1 d1 (zeros_unit (by omega)) hro hci (by omega) (by omega) (by omega) (by omega)
  rw [hR] at hparts
  have hfx : (fl.drop 0).take (l.flatMap Chunk.coded).length = fl := by rw [List.drop_zero, List.take_of_length_le (by omega)]
  rw [hfx] at hparts
  have hx1 := exactR_unit (n := n1) d2 (by omega) hix (indexB_in _)
  have hx2 := exactR_unit (n := n1 + 1) d3 (by omega) (by rw [tailB_length]; omega) (tailB_in _ _)
  rw [tailB_length] at hx2
  have hend : endR L (30 + R.1.length + ((indexB R.2).length + 8) + (8 + 8)) = none := by
    unfold endR
    rw [if_neg]
    have := congrArg List.length d4
    rw [List.length_drop, List.length_nil] at this
    omega
  have hall : (allR L).1 = .ok ⟨⟨W, H, (allSizes l).length, c, l.length⟩, R.2, l.flatMap Chunk.coded, fl⟩ := by
    unfold allR
    rw [hhead]
    simp only [Int.toNat_natCast]
    rw [hparts]
    simp only [bodyR, closeR]
    rw [hx1]
    simp only
    rw [htk, show 30 + R.1.length + (8 + (indexB R.2).length) = 30 + R.1.length + ((indexB R.2).length + 8) by omega, hx2]
    simp only
    rw [hend]
  unfold openR
  rw [hall]
theorem fillsGo_ok {rate room : Int} : ∀ (l : List Int) (i : Nat) (has : Int) {fl : List Int}, fillsGo rate room i has l = .ok fl → fl.length = l.length ∧ ∀ z ∈ fl, 0 ≤ z
  | [], i, has, fl, h => by simp only [fillsGo] at h; cases h; simp
  | n :: l, i, has, fl, h => by
    rw [fillsGo] at h
    split at h
    · cases h
    cases hf : fillsGo rate room (i + 1) (min (has + (rate - n)) room) l with
    | error e => rw [hf] at h; cases h
    | ok r =>
      rw [hf] at h
      cases h
      obtain ⟨h1, h2⟩ := fillsGo_ok l _ _ hf
      refine ⟨by simp [h1], fun z hz => ?_⟩
      rcases List.mem_cons.1 hz with rfl | hz
      · omega
      · exact h2 z hz
theorem fills_ok {c : Cfg} {l fl : List Int} (h : fills c l = .ok fl) : vcheck c l = none ∧ fillsGo c.rate c.room 0 c.fill l = .ok fl := by
  unfold fills at h
  cases hv : vcheck c l with
  | some k => rw [hv] at h; cases h
  | none => rw [hv] at h; exact ⟨rfl, h⟩
theorem fills_play {rate room : Int} (h0 : 0 ≤ rate) (h1 : rate ≤ room) : ∀ (l : List Int) (i : Nat) (has : Int) {fl : List Int}, 0 ≤ has → has ≤ room → (∀ n ∈ l, 0 ≤ n) → fillsGo rate room i has l = .ok fl →
    ∃ q, playGo rate room i has (List.zipWith (fun a b => a + b) l fl) = .ok q ∧ (∀ x ∈ q, 0 ≤ x ∧ x ≤ room) ∧ ∀ x ∈ List.zipWith (fun a b => a + b) l fl, 0 ≤ x ∧ x ≤ room
  | [], i, has, fl, _, _, _, h => ⟨[], by simp [playGo], by simp, by simp⟩
  | n :: l, i, has, fl, g0, g1, hn, h => by
    rw [fillsGo] at h
    split at h
    · cases h
    rename_i hlt
    have hn0 := hn n (by simp)
    cases hf : fillsGo rate room (i + 1) (min (has + (rate - n)) room) l with
    | error e => rw [hf] at h; cases h
    | ok r =>
      rw [hf] at h
      cases h
      obtain ⟨q, hq, hq2, hq3⟩ := fills_play h0 h1 l (i + 1) (min (has + (rate - n)) room) (by omega) (by omega) (fun x hx => hn x (by simp [hx])) hf
      have e : has + (rate - (n + max (has + (rate - n) - room) 0)) = min (has + (rate - n)) room := by omega
      refine ⟨min (has + (rate - n)) room :: q, ?_, ?_, ?_⟩
      · rw [List.zipWith_cons_cons, playGo, if_neg (by omega), if_neg (by omega), e, hq]
      · intro x hx
        rcases List.mem_cons.1 hx with rfl | hx
        · omega
        · exact hq2 x hx
      · intro x hx
        rw [List.zipWith_cons_cons] at hx
        rcases List.mem_cons.1 hx with rfl | hx
        · omega
        · exact hq3 x hx
theorem allSizes_eq (l : List Chunk) : allSizes l = (l.flatMap Chunk.coded).map costOf := by
  induction l with
  | nil => rfl
  | cons k l ih => simp only [allSizes, List.flatMap_cons, sizesOf, List.map_append] at ih ⊢; rw [ih]
theorem takenR_eq (cs : List Coded) (fs : List Int) : takenR cs fs = List.zipWith (fun a b => a + b) (cs.map costOf) fs := by
  unfold takenR
  rw [List.zipWith_map_left]
/-- the bucket over what the frames of a made container take -/
theorem play_made {c : Cfg} {l : List Chunk} {fl : List Int} (hm : mayB c = true) (h : fills c (allSizes l) = .ok fl) : ∃ q, play c (takenR (l.flatMap Chunk.coded) fl) = .ok q ∧ ∀ x ∈ q, 0 ≤ x ∧ x ≤ c.room := by
  obtain ⟨hv, hf⟩ := fills_ok h
  obtain ⟨q0, q1, q2, q3, q4, q5, q6, q7, q8, q9, q10, q11, q12, q13, q14, q15, q16, q17⟩ := may_bounds hm
  have hlen := (fillsGo_ok _ _ _ hf).1
  have hn : ∀ n ∈ allSizes l, 0 ≤ n := by
    intro n hn
    rw [allSizes_eq, List.mem_map] at hn
    obtain ⟨x, _, rfl⟩ := hn
    unfold costOf; omega
  obtain ⟨q, h1, h2, h3⟩ := fills_play (rate := c.rate) (room := c.room) (by omega) (by omega) _ 0 c.fill (by omega) (by omega) hn hf
  refine ⟨q, ?_, h2⟩
  rw [takenR_eq, ← allSizes_eq]
  have h4096 : (allSizes l).length ≤ 4096 := by
    unfold vcheck at hv
    split at hv
    · cases hv
    split at hv
    · cases hv
    omega
  have hvc : vcheck c (List.zipWith (fun a b => a + b) (allSizes l) fl) = none := by
    unfold vcheck
    rw [if_neg (by simp [hm]), if_neg (by rw [List.length_zipWith]; omega), if_neg]
    rw [Bool.not_eq_false]
    unfold sizesB
    rw [List.all_eq_true]
    intro x hx
    have := h3 x hx
    simp only [fromB, Bool.and_eq_true, decide_eq_true_eq]
    omega
  unfold play
  rw [hvc]
  exact h1
/-- what a made container opens as -/
theorem openR_mux {c : Cfg} {W H : Int} {l : List Chunk} {b : List Int} (hin : ∀ k ∈ l, ∀ x ∈ k.coded, ∀ y ∈ x.data, InK .u8 y) (h : muxR c W H l = .ok b) :
    ∃ fl, b = muxBytes c W H l fl ∧ mayB c = true ∧ checkB l = none ∧ fills c (allSizes l) = .ok fl ∧ fl.length = (l.flatMap Chunk.coded).length ∧ openR b = .ok ⟨⟨W, H, (allSizes l).length, c, l.length⟩, (muxP fl 0 30 l).2, l.flatMap Chunk.coded, fl⟩ := by
  unfold muxR at h
  split at h
  · cases h
  rename_i hm
  split at h
  · cases h
  rename_i hn
  cases hc : checkB l with
  | some k => rw [hc] at h; cases h
  | none =>
    rw [hc] at h
    cases hf : fills c (allSizes l) with
    | error e => rw [hf] at h; cases h
    | ok fl =>
      rw [hf] at h
      cases h
      have hok := fillsGo_ok _ _ _ (fills_ok hf).2
      have hm' : mayB c = true := by simpa using hm
      have hn' : newB W H 0 = true := by simpa using hn
      simp only [newB, Bool.and_eq_true] at hn'
      refine ⟨fl, rfl, hm', rfl, rfl, by rw [hok.1, allSizes_length], openR_made ⟨hn'.1.1, hn'.1.2, hm'⟩ hc hin hok.1 hok.2⟩
end Go.Proofs.YtmbjehnddgcboaaGreatDoor
/- Words for the walk of box.Mux: its loops' prefixes, entries stored in place. Conditions: none. -/
namespace Go.Proofs.YtmbjehnddgcboaaGreatDoor
open Go.RowKit
set_option linter.unusedVariables false
set_option linter.unusedSimpArgs false

theorem muxF_snoc {fl : List Int} {first : Nat} : ∀ (cs : List Coded) (f : Nat) (c : Coded), muxF fl first f (cs ++ [c]) = muxF fl first f cs ++ (unitB c.kind c.data ++ List.replicate (fl.getD (first + (f + cs.length)) 0).toNat 0)
  | [], f, c => by simp [muxF]
  | d :: cs, f, c => by
    rw [List.cons_append, muxF, muxF, muxF_snoc cs (f + 1) c, List.length_cons, show f + 1 + cs.length = f + (cs.length + 1) by omega]
    simp only [List.append_assoc]
theorem muxP_snoc {fl : List Int} : ∀ (l : List Chunk) (n off : Nat) (k : Chunk), muxP fl n off (l ++ [k]) = ((muxP fl n off l).1 ++ chunkBytes fl (n + l.length) k, (muxP fl n off l).2 ++ [⟨k.first, k.count, ((off + (muxP fl n off l).1.length : Nat) : Int), (chunkBytes fl (n + l.length) k).length⟩])
  | [], n, off, k => by simp [muxP]
  | d :: l, n, off, k => by
    rw [List.cons_append, muxP, muxP, muxP_snoc l (n + 1) _ k, List.length_cons, show n + 1 + l.length = n + (l.length + 1) by omega]
    simp only [List.append_assoc, List.cons_append, List.length_append, Nat.add_assoc]
def ents0 (l : List Chunk) : List Entry := l.map fun k => ⟨k.first, k.count, 0, 0⟩
theorem ents0_length (l : List Chunk) : (ents0 l).length = l.length := by simp [ents0]
theorem chunk_take {l : List Chunk} {k : Nat} (h : k < l.length) : l.take (k + 1) = l.take k ++ [l.getD k default] := by
  rw [List.take_succ_eq_append_getElem h]; simp [h]
theorem chunk_drop {l : List Chunk} {k : Nat} (h : k < l.length) : l.drop k = l.getD k default :: l.drop (k + 1) := by
  rw [List.drop_eq_getElem_cons h]; simp [h]
theorem coded_take {l : List Coded} {k : Nat} (h : k < l.length) : l.take (k + 1) = l.take k ++ [l.getD k default] := by
  rw [List.take_succ_eq_append_getElem h]; simp [h]
theorem ents0_take {l : List Chunk} {k : Nat} (h : k < l.length) : ents0 (l.take (k + 1)) = ents0 (l.take k) ++ [⟨(l.getD k default).first, (l.getD k default).count, 0, 0⟩] := by
  rw [chunk_take h, ents0, List.map_append]; rfl
theorem allSizes_take {l : List Chunk} {k : Nat} (h : k < l.length) : allSizes (l.take (k + 1)) = allSizes (l.take k) ++ sizesOf (l.getD k default).coded := by
  rw [chunk_take h, allSizes, List.flatMap_append]; simp [allSizes]
/-- the entries when k parts are made -/
def entsAt (fl : List Int) (off : Nat) (l : List Chunk) (k : Nat) : List Entry := (muxP fl 0 off (l.take k)).2 ++ ents0 (l.drop k)
theorem entsAt_length {fl : List Int} {off : Nat} {l : List Chunk} {k : Nat} (h : k ≤ l.length) : (entsAt fl off l k).length = l.length := by
  rw [entsAt, List.length_append, muxP_length, ents0_length, List.length_take, List.length_drop]; omega
theorem entsAt_zero {fl : List Int} {off : Nat} {l : List Chunk} : entsAt fl off l 0 = ents0 l := by simp [entsAt, muxP]
theorem entsAt_end {fl : List Int} {off : Nat} {l : List Chunk} : entsAt fl off l l.length = (muxP fl 0 off l).2 := by simp [entsAt, ents0]
theorem entsAt_getD {fl : List Int} {off : Nat} {l : List Chunk} {k : Nat} (h : k < l.length) : (entsAt fl off l k).getD k default = ⟨(l.getD k default).first, (l.getD k default).count, 0, 0⟩ := by
  have hl : (muxP fl 0 off (l.take k)).2.length = k := by rw [muxP_length, List.length_take]; omega
  rw [entsAt, chunk_drop h, List.getD_eq_getElem?_getD, List.getElem?_append_right (by omega), hl, Nat.sub_self]
  rfl
theorem set_mid {α : Type} {D R : List α} {x y : α} {k : Nat} (h : D.length = k) : (D ++ x :: R).set k y = D ++ y :: R := by
  subst h
  rw [List.set_append_right _ _ (Nat.le_refl _), Nat.sub_self, List.set_cons_zero]
theorem entsAt_succ {fl : List Int} {off : Nat} {l : List Chunk} {k : Nat} (h : k < l.length) :
    entsAt fl off l (k + 1) = (entsAt fl off l k).set k ⟨(l.getD k default).first, (l.getD k default).count, ((off + (muxP fl 0 off (l.take k)).1.length : Nat) : Int), (chunkBytes fl k (l.getD k default)).length⟩ := by
  have hl : (muxP fl 0 off (l.take k)).2.length = k := by rw [muxP_length, List.length_take]; omega
  have hk : (l.take k).length = k := by rw [List.length_take]; omega
  have e0 : ents0 (l.getD k default :: l.drop (k + 1)) = ⟨(l.getD k default).first, (l.getD k default).count, 0, 0⟩ :: ents0 (l.drop (k + 1)) := rfl
  rw [entsAt, entsAt, chunk_drop h, e0, set_mid hl, chunk_take h, muxP_snoc, hk, Nat.zero_add]
  simp
theorem bytes_succ {fl : List Int} {off : Nat} {l : List Chunk} {k : Nat} (h : k < l.length) : (muxP fl 0 off (l.take (k + 1))).1 = (muxP fl 0 off (l.take k)).1 ++ chunkBytes fl k (l.getD k default) := by
  have hk : (l.take k).length = k := by rw [List.length_take]; omega
  rw [chunk_take h, muxP_snoc, hk, Nat.zero_add]

/-! ### bounds -/
theorem fillsGo_le {rate room : Int} (h0 : 0 ≤ rate) : ∀ (l : List Int) (i : Nat) (has : Int) {fl : List Int}, has ≤ room → (∀ n ∈ l, 0 ≤ n) → fillsGo rate room i has l = .ok fl → ∀ z ∈ fl, z ≤ rate
  | [], i, has, fl, _, _, h => by simp only [fillsGo] at h; cases h; simp
  | n :: l, i, has, fl, g, hn, h => by
    rw [fillsGo] at h
    split at h
    · cases h
    have hn0 := hn n (by simp)
    cases hf : fillsGo rate room (i + 1) (min (has + (rate - n)) room) l with
    | error e => rw [hf] at h; cases h
    | ok r =>
      rw [hf] at h
      cases h
      intro z hz
      rcases List.mem_cons.1 hz with rfl | hz
      · omega
      · exact fillsGo_le h0 l _ _ (by omega) (fun x hx => hn x (by simp [hx])) hf z hz
def FlOk (fl : List Int) : Prop := ∀ z ∈ fl, 0 ≤ z ∧ z ≤ 16384
theorem FlOk.at {fl : List Int} (h : FlOk fl) (i : Nat) : 0 ≤ fl.getD i 0 ∧ fl.getD i 0 ≤ 16384 := by
  by_cases hi : i < fl.length
  · exact h _ (by simp [hi])
  · rw [List.getD_eq_getElem?_getD, List.getElem?_eq_none (by omega)]; simp
theorem fills_flok {c : Cfg} {l fl : List Int} (hm : mayB c = true) (hn : ∀ n ∈ l, 0 ≤ n) (h : fills c l = .ok fl) : fl.length = l.length ∧ FlOk fl := by
  obtain ⟨_, hf⟩ := fills_ok h
  obtain ⟨q0, q1, q2, q3, q4, q5, q6, q7, q8, q9, q10, q11, q12, q13, q14, q15, q16, q17⟩ := may_bounds hm
  obtain ⟨h1, h2⟩ := fillsGo_ok _ _ _ hf
  have h3 := fillsGo_le (by omega) _ _ _ (by omega) hn hf
  exact ⟨h1, fun z hz => ⟨h2 z hz, by have := h3 z hz; omega⟩⟩
theorem muxF_le {fl : List Int} (hf : FlOk fl) {first : Nat} : ∀ (cs : List Coded) (f : Nat), (∀ c ∈ cs, c.data.length ≤ 65536) → (muxF fl first f cs).length ≤ cs.length * 90000
  | [], f, _ => by simp [muxF]
  | c :: cs, f, h => by
    have h1 := muxF_le hf (first := first) cs (f + 1) (fun c' hc => h c' (by simp [hc]))
    have h2 := h c (by simp)
    have h3 := hf.at (first + f)
    rw [muxF, List.length_append, List.length_append, List.length_replicate, unitB_length, List.length_cons]
    omega
theorem chunkBytes_le {fl : List Int} (hf : FlOk fl) {k : Chunk} (n : Nat) (hk : chunkB k = true) : (chunkBytes fl n k).length ≤ 1450000 := by
  obtain ⟨⟨_, _, _, _, hc⟩, _, hr⟩ := chunkB_parts hk
  have := muxF_le hf (first := k.first.toNat) k.coded 0 (fun c hc => (readB_none (hr c hc)).2.2)
  rw [chunkBytes, List.length_append, unitB_length]
  simp only [List.length_cons, List.length_nil]
  omega
theorem muxP_le {fl : List Int} (hf : FlOk fl) : ∀ (l : List Chunk) (n off : Nat), (∀ k ∈ l, chunkB k = true) → (muxP fl n off l).1.length ≤ l.length * 1450000
  | [], n, off, _ => by simp [muxP]
  | k :: l, n, off, h => by
    have h1 := chunkBytes_le hf n (h k (by simp))
    have h2 := muxP_le hf l (n + 1) (off + (chunkBytes fl n k).length) (fun k' hk => h k' (by simp [hk]))
    rw [muxP, List.length_append, List.length_cons]
    omega
theorem runsOn_first : ∀ {l : List Chunk} {i a : Int}, (∀ k ∈ l, chunkB k = true) → runsOn i a l = true → ∀ j, j < l.length → (l.getD j default).first = a + ((l.take j).flatMap Chunk.coded).length ∧ ((l.take j).flatMap Chunk.coded).length + (l.getD j default).coded.length ≤ (l.flatMap Chunk.coded).length
  | [], i, a, _, _, j, hj => absurd hj (by simp)
  | k :: l, i, a, hc, h, j, hj => by
    have hk := (chunkB_parts (hc k (by simp))).1
    rw [runsOn] at h
    split at h
    · cases h
    rename_i hb
    cases j with
    | zero =>
      simp only [List.take_zero, List.flatMap_nil, List.length_nil, List.getD_cons_zero, List.flatMap_cons, List.length_append]
      omega
    | succ j =>
      have := runsOn_first (fun k' hk' => hc k' (by simp [hk'])) h j (by simpa using hj)
      simp only [List.take_succ_cons, List.flatMap_cons, List.length_append, List.getD_cons_succ]
      omega

/-! ### entries stored in place -/
theorem OwnE.form {base : Nat} {w : World} {v : Value} {l : List Entry} (h : OwnE base w v l) (hl : 0 < l.length) : ∃ g cap, v = .slice (some ⟨g, 0, none⟩) l.length cap ∧ base ≤ g ∧ g < w.heap.size := by
  rcases h.2 with ⟨_, h0⟩ | ⟨g, cap, cur, rfl, hb, hg, _⟩
  · omega
  · exact ⟨g, cap, rfl, hb, (Array.getElem?_eq_some_iff.1 hg).1⟩
theorem Own.form {k : IntKind} {e : TypeId} {base : Nat} {w : World} {v : Value} {l : List Int} (h : Own k e base w v l) (hl : 0 < l.length) : ∃ g cap, v = .slice (some ⟨g, 0, none⟩) l.length cap ∧ base ≤ g ∧ g < w.heap.size := by
  rcases h.1.2 with ⟨_, h0⟩ | ⟨g, cap, cur, rfl, hb, hg, _⟩
  · omega
  · exact ⟨g, cap, rfl, hb, (Array.getElem?_eq_some_iff.1 hg).1⟩
theorem Own.cell {k : IntKind} {e : TypeId} {base : Nat} {w : World} {g n cap : Nat} {l : List Int} (h : Own k e base w (.slice (some ⟨g, 0, none⟩) n cap) l) {i : Nat} (hi : i < l.length) : w.cell? ⟨g, i, none⟩ = some (.int k (l.getD i 0)) := by
  have := h.1.cells (g := g) rfl i (.int k (l.getD i 0)) (by simp [hi])
  simpa [Addr.add_lit] using this
theorem From.mono {B B' : Nat} {v : Value} (h : From B v) (hb : B' ≤ B) : From B' v := fun g hg => Nat.le_trans hb (h g hg)
theorem OwnE.cell {base : Nat} {w : World} {g n cap : Nat} {l : List Entry} (h : OwnE base w (.slice (some ⟨g, 0, none⟩) n cap) l) {i : Nat} (hi : i < l.length) {j : Nat} (hj : j < 4) : w.cell? ⟨g, i * 4 + j, none⟩ = some (entryF l i j) := by
  have := h.cells (g := g) rfl (i * 4 + j) _ (flatE_at l i j hi hj)
  simpa [Addr.add_lit] using this
theorem OwnE.frozen {base : Nat} {w : World} {g n cap : Nat} {l : List Entry} (h : OwnE base w (.slice (some ⟨g, 0, none⟩) n cap) l) (j : Nat) : w.frozen? ⟨g, j, none⟩ = false := by
  rcases h.2 with ⟨h0, _⟩ | ⟨g', cap', cur, he, hb, hg, _⟩
  · cases h0
  · cases he
    exact frozen_of_row w g j _ _ hg
theorem OwnE.setAt {base : Nat} {w : World} {g n cap : Nat} {l l' : List Entry} {i : Nat} {x : Value} (h : OwnE base w (.slice (some ⟨g, 0, none⟩) n cap) l) (hl : l'.length = l.length) (hf : flatE l' = (flatE l).set i x) :
    OwnE base (w.setCell ⟨g, i, none⟩ x) (.slice (some ⟨g, 0, none⟩) n cap) l' := by
  have h1 := h.1
  refine ⟨by rw [hf, List.length_set, hl]; exact h1, ?_⟩
  rcases h.2 with ⟨h0, _⟩ | ⟨g', cap', cur, he, hb, hg, hn, hm, hcs, ht⟩
  · cases h0
  · cases he
    refine .inr ⟨g, cap, _, by rw [hl], hb, heap_setCell_same w g i _ _ x hg, by rw [hl]; exact hn, hm, by simpa using hcs, ?_⟩
    rw [hl, hf, ← ht, Array.toList_setIfInBounds, List.take_set]
theorem flatE_cons (e : Entry) (l : List Entry) : flatE (e :: l) = .int .i64 e.first :: .int .i64 e.count :: .int .i64 e.offset :: .int .i64 e.length :: flatE l := rfl
theorem flatE_set2 (x : Int) : ∀ (l : List Entry) (i : Nat), i < l.length → flatE (l.set i ⟨(l.getD i default).first, (l.getD i default).count, x, (l.getD i default).length⟩) = (flatE l).set (i * 4 + 2) (.int .i64 x)
  | [], _, h => absurd h (by simp)
  | e :: l, 0, _ => rfl
  | e :: l, i + 1, h => by
    have ih := flatE_set2 x l i (by simpa using h)
    rw [List.set_cons_succ, flatE_cons, flatE_cons, show (i + 1) * 4 + 2 = (i * 4 + 2) + 4 by omega]
    simp only [List.set_cons_succ, List.getD_cons_succ, ih]
theorem flatE_set3 (x : Int) : ∀ (l : List Entry) (i : Nat), i < l.length → flatE (l.set i ⟨(l.getD i default).first, (l.getD i default).count, (l.getD i default).offset, x⟩) = (flatE l).set (i * 4 + 3) (.int .i64 x)
  | [], _, h => absurd h (by simp)
  | e :: l, 0, _ => rfl
  | e :: l, i + 1, h => by
    have ih := flatE_set3 x l i (by simpa using h)
    rw [List.set_cons_succ, flatE_cons, flatE_cons, show (i + 1) * 4 + 3 = (i * 4 + 3) + 4 by omega]
    simp only [List.set_cons_succ, List.getD_cons_succ, ih]
end Go.Proofs.YtmbjehnddgcboaaGreatDoor
