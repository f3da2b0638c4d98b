/- Joined texts: Part, Loc, BackP, Errs. Conditions: each part names its own. -/
import Derived.Test.YtjpbnboaonnfgaaDoorC7
import Derived.Test.YtjpbnboaonnfgaaDoorC2
import Derived.Test.YtjpbnboaonnfgaaDoorC10
/- box.Part: a part by itself. Conditions: the bytes read. -/
namespace Go.Proofs.YtjpbnboaonnfgaaDoor
open Go.RowKit
set_option linter.unusedVariables false
set_option linter.unusedSimpArgs false

def sPart : ByteArray := ⟨#[112, 97, 114, 116]⟩
def partOk (l : List Int) (e : Entry) : Prop := 1 ≤ e.count ∧ e.count ≤ 16 ∧ 0 ≤ e.first ∧ e.first < 16 ∧ 0 ≤ e.offset ∧ 0 ≤ e.length ∧ e.offset ≤ l.length ∧ e.length ≤ l.length - e.offset
instance (l : List Int) (e : Entry) : Decidable (partOk l e) := by unfold partOk; infer_instance
def Part_R (l : List Int) (e : Entry) : Except Err (List Coded × List Int) :=
  if partOk l e then
    match (aloneR ((l.drop e.offset.toNat).take e.length.toNat) 0 0 e.first e.count).1 with
    | .error er => .error (inE sPart (aloneR ((l.drop e.offset.toNat).take e.length.toNat) 0 0 e.first e.count).2.2 er)
    | .ok x => .ok x
  else .error ⟨[], 3⟩
def PartP2 (w : World) (r : Except Err (List Coded × List Int)) (e : Ending) (w' : World) : Prop :=
  Only [] w w' ∧ match r with
    | .ok x => ∃ cv fv, e = .returned (.tuple #[cv, fv, .nilIface]) ∧ CodedsAt w.heap.size w'.heap.size w' cv x.1 ∧ Ints .i64 w.heap.size w'.heap.size w' fv x.2
    | .error er => ∃ ev, e = .returned (.tuple #[.slice none 0 0, .slice none 0 0, ev]) ∧ ErrV w.heap.size w'.heap.size w' ev er

set_option maxRecDepth 100000 in
set_option maxHeartbeats 8000000 in
theorem Part_bad {lo hi : Nat} {bv : Value} {l : List Int} {w : World} (f c o n : Int) (h : Ints .u8 lo hi w bv l) (hbad : ¬ partOk l ⟨f, c, o, n⟩) (hl : l.length ≤ 1000000000000) :
    Calls Tryd.prog 16 #[bv, .agg #[.int .i64 f, .int .i64 c, .int .i64 o, .int .i64 n]] w (PartP2 w (Part_R l ⟨f, c, o, n⟩)) := by
  have hfin : Part_R l ⟨f, c, o, n⟩ = .error ⟨[], 3⟩ := if_neg hbad
  have Hfin := Lib.hid hfin
  obtain ⟨ba, bcap, rfl, _⟩ := h.open
  have hc : c < 1 ∨ (¬ c < 1 ∧ (16 < c ∨ (¬ 16 < c ∧ (f < 0 ∨ (¬ f < 0 ∧ (16 ≤ f ∨ (¬ 16 ≤ f ∧ (o < 0 ∨ (¬ o < 0 ∧ (n < 0 ∨ (¬ n < 0 ∧ ((l.length : Int) < o ∨ (¬ (l.length : Int) < o ∧ (l.length : Int) - o < n))))))))))))) := by
    by_cases h1 : c < 1
    · exact .inl h1
    refine .inr ⟨h1, ?_⟩
    by_cases h2 : 16 < c
    · exact .inl h2
    refine .inr ⟨h2, ?_⟩
    by_cases h3 : f < 0
    · exact .inl h3
    refine .inr ⟨h3, ?_⟩
    by_cases h4 : 16 ≤ f
    · exact .inl h4
    refine .inr ⟨h4, ?_⟩
    by_cases h5 : o < 0
    · exact .inl h5
    refine .inr ⟨h5, ?_⟩
    by_cases h6 : n < 0
    · exact .inl h6
    refine .inr ⟨h6, ?_⟩
    by_cases h7 : (l.length : Int) < o
    · exact .inl h7
    refine .inr ⟨h7, ?_⟩
    by_cases h8 : (l.length : Int) - o < n
    · exact h8
    exact absurd ⟨(by show 1 ≤ c; omega), (by show c ≤ 16; omega), (by show 0 ≤ f; omega), (by show f < 16; omega), (by show 0 ≤ o; omega), (by show 0 ≤ n; omega), (by show o ≤ l.length; omega), (by show n ≤ l.length - o; omega)⟩ hbad
  clear hfin hbad h
  rcases hc with h1 | ⟨h1, h2 | ⟨h2, h3 | ⟨h3, h4 | ⟨h4, h5 | ⟨h5, h6 | ⟨h6, h7 | ⟨h7, h8⟩⟩⟩⟩⟩⟩⟩
  all_goals
    go_enter Tryd.func16, Tryd.ntmps16
    go_wp2_with fail
    refine bodyPost_ret (v := .tuple #[.slice none 0 0, .slice none 0 0, .iface 47 (.int .i64 3)]) (by simp [results, Tryd.results16, go_sem]) rfl ?_
    unfold PartP2
    rw [Hfin.out]
    exact ⟨Only.new _ _, _, rfl, rfl⟩

set_option maxRecDepth 100000 in
set_option maxHeartbeats 8000000 in
/-- a part, where the bytes are some and the part begins within them -/
theorem Part_ok {lo hi : Nat} {b off cap : Nat} {l : List Int} {w : World} (f c : Int) (O N : Nat) (h : Ints .u8 lo hi w (.slice (some ⟨b, off, none⟩) l.length cap) l) (hh : hi ≤ w.heap.size) (hok : partOk l ⟨f, c, O, N⟩) (hl : l.length ≤ 1000000000000) (hcap : O < cap) (hlc : l.length ≤ cap) (hcm : cap ≤ 9223372036854775807) :
    Calls Tryd.prog 16 #[.slice (some ⟨b, off, none⟩) l.length cap, .agg #[.int .i64 f, .int .i64 c, .int .i64 O, .int .i64 N]] w (PartP2 w (Part_R l ⟨f, c, O, N⟩)) := by
  have hfin : Part_R l ⟨f, c, O, N⟩ = (match (aloneR ((l.drop O).take N) 0 0 f c).1 with
    | .error er => .error (inE sPart (aloneR ((l.drop O).take N) 0 0 f c).2.2 er)
    | .ok x => .ok x) := by unfold Part_R; rw [if_pos hok]; simp only [Int.toNat_natCast]
  obtain ⟨k1, k2, k3, k4, k5, k6, k7, k8⟩ := hok
  simp only at k1 k2 k3 k4 k5 k6 k7 k8
  have hsub := h.sub (i := O) (j := O + N) (by omega) (by omega) (cap - O) (by omega) (by omega)
  rw [show O + N - O = N by omega, show (l.take (O + N)).drop O = (l.drop O).take N by rw [List.drop_take]; congr 1; omega] at hsub
  have hO : Only [] w ((w.alloc (.cells #[.int .i64 f, .int .i64 c, .int .i64 O, .int .i64 N] 43)).alloc (.cells #[.slice (some ⟨b, off + O, none⟩) N (cap - O), .int .i64 0, .int .i64 0] 97)) := (Only.new _ _).q (Only.new _ _)
  have hr : Rd (w.heap.size + 1) (.slice (some ⟨b, off + O, none⟩) N (cap - O)) ((w.alloc (.cells #[.int .i64 f, .int .i64 c, .int .i64 O, .int .i64 N] 43)).alloc (.cells #[.slice (some ⟨b, off + O, none⟩) N (cap - O), .int .i64 0, .int .i64 0] 97)) 0 0 := heap_alloc_new' (by simp)
  have H := Lib.hid (ralone_any f c (O : Int) (N : Int) hr (hsub.quiet hO) (by omega) (Nat.zero_le _) (Nat.le_refl _) (by rw [List.length_take]; omega))
  have HO := Lib.hid hO
  have Hfin := Lib.hid hfin
  have h1 : ¬ c < 1 := by omega
  have h2 : ¬ 16 < c := by omega
  have h3 : ¬ f < 0 := by omega
  have h4 : ¬ 16 ≤ f := by omega
  have h5 : ¬ (O : Int) < 0 := by omega
  have h6 : ¬ (N : Int) < 0 := by omega
  have h7 : ¬ (l.length : Int) < (O : Int) := by omega
  have h8 : ¬ (l.length : Int) - (O : Int) < (N : Int) := by omega
  have hll : (l.length : Int) ≤ 1000000000000 := by omega
  have hcz : ¬ cap - O = 0 := by omega
  have hcc : (O : Int) + (N : Int) ≤ (cap : Int) := by omega
  have hON : (O : Int) ≤ (O : Int) + (N : Int) := by omega
  have hOc : O < cap := hcap
  have htn : ((O : Int) + (N : Int)).toNat = O + N := by omega
  have htm : O + N - O = N := by omega
  clear hfin hO hr h hsub k1 k2 k3 k4 k5 k6 k7 k8
  generalize hal : aloneR ((l.drop O).take N) 0 0 f c = A at *
  obtain ⟨a, p, m⟩ := A
  simp only at Hfin
  clear hal
  cases a with
  | error er =>
    simp only at Hfin
    go_enter Tryd.func16, Tryd.ntmps16
    go_wp2_with (first
      | (go_at_call 38; refine H.out.mono ?_; rintro e w2 hP; unfold FramesP at hP; simp only at hP; obtain ⟨hq2, hr2, ev, rfl, hev⟩ := hP; obtain ⟨et, eu, rfl⟩ := id hev.held; have c2 := hr2.c2; have HEv := Lib.hid hev; have Hq2 := Lib.hid hq2; clear hev hq2 hr2)
      | (go_at_call 39; refine (in_any _ _ HEv.out (Nat.le_refl _) (by have := Hq2.out.size; simp at this ⊢; omega)).mono ?_; rintro e w3 ⟨ev3, rfl, hev3, hq3⟩)
      | fail)
    refine bodyPost_ret (v := .tuple #[.slice none 0 0, .slice none 0 0, ev3]) (by simp [results, Tryd.results16, go_sem]) rfl ?_
    unfold PartP2
    rw [Hfin.out]
    have hO2 : Only [] w w2 := HO.out.trans Hq2.out (by simp) (by simp)
    exact ⟨hO2.q hq3, _, rfl, hev3.mono (by simp; omega) (Nat.le_refl _)⟩
  | ok x =>
    obtain ⟨cs, fs⟩ := x
    simp only at Hfin
    go_enter Tryd.func16, Tryd.ntmps16
    go_wp2_with (first
      | (go_at_call 38; refine H.out.mono ?_; rintro e w2 hP; unfold FramesP at hP; simp only at hP; obtain ⟨hq2, hr2, cv, fv, rfl, hoc, hof⟩ := hP; have HOC := Lib.hid hoc; have HOF := Lib.hid hof; have Hq2 := Lib.hid hq2; clear hoc hof hq2 hr2)
      | fail)
    refine bodyPost_ret (v := .tuple #[cv, fv, .nilIface]) (by simp [results, Tryd.results16, go_sem]) rfl ?_
    unfold PartP2
    rw [Hfin.out]
    have hO2 : Only [] w w2 := HO.out.trans Hq2.out (by simp) (by simp)
    exact ⟨hO2, _, _, rfl, HOC.out.codeds.mono (by simp; omega) (Nat.le_refl _), HOF.out.ints.mono (by simp; omega) (Nat.le_refl _)⟩
end Go.Proofs.YtjpbnboaonnfgaaDoor
/- What is read of some bytes is read of these bytes cut out. Conditions: none. -/
namespace Go.Proofs.YtjpbnboaonnfgaaDoor
open Go.RowKit
set_option linter.unusedVariables false
set_option linter.unusedSimpArgs false

theorem getD_take {d : List Int} {m i : Nat} (h : i < m) : (d.take m).getD i 0 = d.getD i 0 := by
  simp [List.getD_eq_getElem?_getD, List.getElem?_take, h]
theorem zeros_take : ∀ (d : List Int) (m : Nat), zeros (d.take m) = min (zeros d) m
  | [], m => by simp [zeros]
  | x :: d, 0 => by simp [zeros]
  | x :: d, m + 1 => by
    simp only [List.take_succ_cons, zeros]
    split
    · rw [zeros_take d m]; omega
    · simp
theorem lenU_take {d : List Int} {m : Nat} (h : 4 ≤ m) : lenU (d.take m) = lenU d := by
  simp only [lenU, getD_take (show 1 < m by omega), getD_take (show 2 < m by omega), getD_take (show 3 < m by omega)]
theorem sumU_take {d : List Int} {m n : Nat} (h : 8 + n ≤ m) : sumU (d.take m) n = sumU d n := by
  simp only [sumU, getD_take (show 4 + n < m by omega), getD_take (show 5 + n < m by omega), getD_take (show 6 + n < m by omega), getD_take (show 7 + n < m by omega)]
theorem nextD_take {d : List Int} {p p' m : Nat} {u : UnitD} (hr : ∀ x ∈ d, InK .u8 x) (h : nextD d p = .ok u) (hm : u.end_ ≤ p + m) : nextD (d.take m) p' = .ok ⟨u.kind, u.data, p', p' + (u.end_ - p)⟩ := by
  have hnn := lenU_nn d hr
  unfold nextD at h
  split at h
  · rename_i h0
    cases h
    have hm1 : 0 < m := by simp only at hm; omega
    unfold nextD
    rw [if_pos (by rw [getD_take hm1]; exact h0)]
    simp
  rename_i h0
  split at h
  · cases h
  rename_i h4
  split at h
  · cases h
  rename_i h5
  split at h
  · cases h
  rename_i h8
  split at h
  · cases h
  rename_i hc
  cases h
  simp only at hm ⊢
  have hm8 : 8 + (lenU d).toNat ≤ m := by omega
  have hc' : (crc (d.take (4 + (lenU d).toNat)) : Int) = sumU d (lenU d).toNat := Decidable.not_not.1 hc
  unfold nextD
  rw [getD_take (by omega), if_neg h0, if_neg (by rw [List.length_take]; omega), lenU_take (by omega), if_neg h5, if_neg (by rw [List.length_take]; omega)]
  rw [List.take_take, show min (4 + (lenU d).toNat) m = 4 + (lenU d).toNat by omega, sumU_take (by omega), if_neg (by rw [hc']; simp)]
  congr 2
  · rw [List.drop_take, List.take_take]; congr 1; omega
  · omega
theorem peekR_cut {l : List Int} {o L p : Nat} {u : UnitD} (hr : ∀ x ∈ l, InK .u8 x) (h : peekR l p = .ok u) (ho : o ≤ p) (hp : p ≤ l.length) (hm : u.end_ ≤ o + L) : peekR ((l.drop o).take L) (p - o) = .ok ⟨u.kind, u.data, p - o, u.end_ - o⟩ := by
  have h1 := peekR_ok h hp hr
  unfold peekR at h
  split at h
  · cases h
  have hd : (((l.drop o).take L).drop (p - o)) = (l.drop p).take (L - (p - o)) := by
    rw [List.drop_take, List.drop_drop, show o + (p - o) = p by omega]
  unfold peekR
  rw [if_neg (by rw [List.length_take, List.length_drop]; omega), hd, nextD_take (p' := p - o) (fun x hx => hr x (List.mem_of_mem_drop hx)) h (by omega)]
  congr 2
  omega
theorem nextR_cut {l : List Int} {o L p : Nat} {k n : Int} {u : UnitD} (hr : ∀ x ∈ l, InK .u8 x) (h : nextR l p k n = .ok u) (ho : o ≤ p) (hp : p ≤ l.length) (hm : u.end_ ≤ o + L) : nextR ((l.drop o).take L) (p - o) k n = .ok ⟨u.kind, u.data, p - o, u.end_ - o⟩ := by
  obtain ⟨h1, h2, h3⟩ := nextR_peek h
  unfold nextR
  rw [peekR_cut hr h1 ho hp hm]
  simp [h2, h3]
theorem framesR_cut {l : List Int} {o L : Nat} (hr : ∀ x ∈ l, InK .u8 x) : ∀ (c i p n n' : Nat) {x : List Coded × List Int}, o ≤ p → p ≤ l.length → n ≤ p → (framesR l c i p n).1 = .ok x → (framesR l c i p n).2.1 ≤ o + L →
    (framesR ((l.drop o).take L) c i (p - o) n').1 = .ok x ∧ (framesR ((l.drop o).take L) c i (p - o) n').2.1 = (framesR l c i p n).2.1 - o
  | 0, i, p, n, n', x, ho, hp, hn, h, hL => by
    simp only [framesR] at h ⊢
    exact ⟨h, trivial⟩
  | c + 1, i, p, n, n', x, ho, hp, hn, h, hL => by
    unfold framesR at h hL
    cases hpk : peekR l p with
    | error e => rw [hpk] at h; cases h
    | ok u =>
      have h1 := peekR_ok hpk hp hr
      have hz := zeros_le (l.drop u.end_)
      rw [List.length_drop] at hz
      have hpos := framesR_pos hr c (i + 1) (u.end_ + zeros (l.drop u.end_)) (n + 1 + zeros (l.drop u.end_)) (by omega) (by omega)
      rw [hpk] at h hL
      simp only at h hL
      split at h
      · cases h
      · rename_i hb
        rw [if_neg hb] at hL
        cases hrb : readB ⟨u.kind, u.data⟩ with
        | some k => rw [hrb] at h; cases h
        | none =>
          rw [hrb] at h hL
          simp only [consF] at h hL
          cases hf : (framesR l c (i + 1) (u.end_ + zeros (l.drop u.end_)) (n + 1 + zeros (l.drop u.end_))).1 with
          | error e => rw [hf] at h; cases h
          | ok y =>
            rw [hf] at h
            have hzc : zeros (((l.drop o).take L).drop (u.end_ - o)) = zeros (l.drop u.end_) := by
              rw [List.drop_take, List.drop_drop, show o + (u.end_ - o) = u.end_ by omega, zeros_take]
              omega
            have ih := framesR_cut hr c (i + 1) (u.end_ + zeros (l.drop u.end_)) (n + 1 + zeros (l.drop u.end_)) (n' + 1 + zeros (l.drop u.end_)) (by omega) (by omega) (by omega) hf hL
            unfold framesR
            rw [peekR_cut (L := L) hr hpk ho hp (by omega)]
            simp only
            rw [if_neg hb, hrb]
            simp only [consF]
            rw [hzc, show u.end_ - o + zeros (l.drop u.end_) = u.end_ + zeros (l.drop u.end_) - o by omega, ih.1]
            cases h
            refine ⟨rfl, ?_⟩
            simp only [hpk, if_neg hb, hrb, consF]
            exact ih.2
end Go.Proofs.YtjpbnboaonnfgaaDoor
/- A part that was read within a container is read by itself, by its entry. Conditions: none. -/
namespace Go.Proofs.YtjpbnboaonnfgaaDoor
open Go.RowKit
set_option linter.unusedVariables false
set_option linter.unusedSimpArgs false

theorem partR_alone {l : List Int} (hl : ∀ x ∈ l, InK .u8 x) {p n : Nat} {num first left behind : Int} {x : Entry × List Coded × List Int} (hp : p ≤ l.length) (hn : n ≤ p)
    (h : (partR l p n num first left behind).1 = .ok x) (hf0 : 0 ≤ first) (hf1 : first < 16) (hlb : left - behind ≤ 16) : Part_R l x.1 = .ok (x.2.1, x.2.2) := by
  have hpo := partR_ok hl (num := num) (first := first) (left := left) (behind := behind) hp hn
  obtain ⟨k1, k2, k3, k4, k5, k6, k7, k8⟩ := hpo.2.2.2 x h
  have hp2 := hpo.1
  have hp3 := hpo.2.1
  clear hpo
  unfold partR at h k8 hp2 hp3
  cases hnx : nextR l p 17 3 with
  | error e => rw [hnx] at h; cases h
  | ok u =>
    obtain ⟨hpk, _, _⟩ := nextR_peek hnx
    have h1 := peekR_ok hpk hp hl
    rw [hnx] at h k8 hp2 hp3
    simp only at h k8 hp2 hp3
    split at h
    · cases h
    · rename_i hb
      rw [if_neg hb] at k8 hp2 hp3
      simp only at k8 hp2 hp3
      cases hf : (framesR l (u.data.getD 2 0).toNat 0 u.end_ (n + 1)).1 with
      | error e => rw [hf] at h; cases h
      | ok y =>
        have hpos := framesR_pos hl (u.data.getD 2 0).toNat 0 u.end_ (n + 1) (by omega) (by omega)
        have hd1 : u.data.getD 1 0 = first := Decidable.not_not.1 fun h' => hb (.inr (.inl h'))
        rw [hf] at h
        cases h
        simp only at k1 k2 k3 k5 k6 k7 k8 ⊢
        have hok : partOk l ⟨first, u.data.getD 2 0, p, ((framesR l (u.data.getD 2 0).toNat 0 u.end_ (n + 1)).2.1 : Int) - p⟩ :=
          ⟨k2, by show u.data.getD 2 0 ≤ 16; omega, hf0, hf1, by show (0 : Int) ≤ (p : Int); omega, by show (0 : Int) ≤ _ - _; omega, by show (p : Int) ≤ l.length; omega, by show _ - _ ≤ (l.length : Int) - p; omega⟩
        unfold Part_R
        rw [if_pos hok]
        simp only [Int.toNat_natCast]
        have hL : (((framesR l (u.data.getD 2 0).toNat 0 u.end_ (n + 1)).2.1 : Int) - p).toNat = (framesR l (u.data.getD 2 0).toNat 0 u.end_ (n + 1)).2.1 - p := by omega
        rw [hL]
        have hcut := nextR_cut (o := p) (L := (framesR l (u.data.getD 2 0).toNat 0 u.end_ (n + 1)).2.1 - p) hl hnx (Nat.le_refl _) hp (by omega)
        rw [Nat.sub_self] at hcut
        have hfr := framesR_cut (o := p) (L := (framesR l (u.data.getD 2 0).toNat 0 u.end_ (n + 1)).2.1 - p) hl (u.data.getD 2 0).toNat 0 u.end_ (n + 1) (0 + 1) (by omega) (by omega) (by omega) hf (by omega)
        have hend : endR ((l.drop p).take ((framesR l (u.data.getD 2 0).toNat 0 u.end_ (n + 1)).2.1 - p)) ((framesR l (u.data.getD 2 0).toNat 0 u.end_ (n + 1)).2.1 - p) = none := if_neg (by rw [List.length_take, List.length_drop]; omega)
        have hal : aloneR ((l.drop p).take ((framesR l (u.data.getD 2 0).toNat 0 u.end_ (n + 1)).2.1 - p)) 0 0 first (u.data.getD 2 0) =
            (.ok y, (framesR ((l.drop p).take ((framesR l (u.data.getD 2 0).toNat 0 u.end_ (n + 1)).2.1 - p)) (u.data.getD 2 0).toNat 0 (u.end_ - p) (0 + 1)).2) := by
          unfold aloneR
          rw [hcut]
          simp only
          rw [if_neg (by rintro (h | h)
                         · exact h hd1
                         · exact h rfl), hfr.1]
          simp only
          rw [hfr.2, hend]
        rw [hal]
/-- the entries' parts, each by itself, one behind the other -/
inductive Segs (l : List Int) : List Entry → List Coded → List Int → Prop
  | nil : Segs l [] [] []
  | cons {e : Entry} {es : List Entry} {cs cs' : List Coded} {fs fs' : List Int} : Part_R l e = .ok (cs, fs) → (cs.length : Int) = e.count → fs.length = cs.length → Segs l es cs' fs' → Segs l (e :: es) (cs ++ cs') (fs ++ fs')
theorem partsR_segs {l : List Int} (hl : ∀ x ∈ l, InK .u8 x) {F parts : Int} (hF : F ≤ 16) : ∀ (c k a p n : Nat) {x : List Entry × List Coded × List Int}, p ≤ l.length → n ≤ p → (k : Int) + c ≤ parts → (partsR l F parts c k a p n).1 = .ok x → Segs l x.1 x.2.1 x.2.2
  | 0, k, a, p, n, x, hp, hn, hk, h => by
    simp only [partsR] at h
    cases h
    exact .nil
  | c + 1, k, a, p, n, x, hp, hn, hk, h => by
    unfold partsR at h
    have hpo := partR_ok hl (num := (k : Int)) (first := (a : Int)) (left := F - a) (behind := parts - 1 - k) hp hn
    cases hpr : (partR l p n k a (F - a) (parts - 1 - k)).1 with
    | error e => rw [hpr] at h; cases h
    | ok y =>
      obtain ⟨h1, h2, h3, h4, h5, h6, h7, h8⟩ := hpo.2.2.2 y hpr
      have hpart := partR_alone hl hp hn hpr (by omega) (by omega) (by omega)
      rw [hpr] at h
      simp only [consP] at h
      cases hps : (partsR l F parts c (k + 1) (a + y.2.1.length) (partR l p n k a (F - a) (parts - 1 - k)).2.1 (partR l p n k a (F - a) (parts - 1 - k)).2.2).1 with
      | error e => rw [hps] at h; cases h
      | ok z =>
        rw [hps] at h
        have ih := partsR_segs hl hF c _ _ _ _ hpo.2.1 hpo.2.2.1 (by omega) hps
        cases h
        exact .cons hpart h6 (by omega) ih
theorem openR_segs {l : List Int} (hl : ∀ x ∈ l, InK .u8 x) {x : WholeD} (h : openR l = .ok x) : Segs l x.parts x.coded x.fills := by
  unfold openR at h
  cases ha : (allR l).1 with
  | error e => rw [ha] at h; cases h
  | ok y =>
    rw [ha] at h
    cases h
    unfold allR at ha
    have hp := headR_pos hl (p := 0) (n := 0) (Nat.zero_le _) (Nat.le_refl _)
    cases hhd : (headR l 0 0).1 with
    | error e => rw [hhd] at ha; cases ha
    | ok hd =>
      have hok := hp.2.2.2 _ hhd
      rw [hhd] at ha
      simp only [bodyR] at ha
      cases hps : (partsR l hd.F hd.parts hd.parts.toNat 0 0 (headR l 0 0).2.1 (headR l 0 0).2.2).1 with
      | error e => rw [hps] at ha; cases ha
      | ok z =>
        rw [hps] at ha
        obtain ⟨_, _, h3, h4, _⟩ := hok
        have hf := partsR_segs hl h3 _ _ _ _ _ hp.2.1 hp.2.2.1 (by omega) hps
        have := closeR_ok ha
        subst this
        exact hf
end Go.Proofs.YtjpbnboaonnfgaaDoor
/- Which errors an opening can end in. Conditions: none. -/
namespace Go.Proofs.YtjpbnboaonnfgaaDoor
open Go.RowKit
set_option linter.unusedVariables false
set_option linter.unusedSimpArgs false

/-- an error with at most one place, and a code of the document's -/
def ErrOk (e : Err) : Prop := e.path.length ≤ 1 ∧ 1 ≤ e.code ∧ e.code ≤ 14
theorem nextD_err {d : List Int} {p : Nat} {e : Err} (h : nextD d p = .error e) : ErrOk e := by
  unfold nextD at h
  split at h
  · cases h
  split at h
  · cases h; simp [ErrOk]
  split at h
  · cases h; simp [ErrOk]
  split at h
  · cases h; simp [ErrOk]
  split at h
  · cases h; simp [ErrOk]
  cases h
theorem peekR_err {l : List Int} {p : Nat} {e : Err} (h : peekR l p = .error e) : ErrOk e := by
  unfold peekR at h
  split at h
  · cases h; simp [ErrOk]
  · exact nextD_err h
theorem nextR_err {l : List Int} {p : Nat} {k m : Int} {e : Err} (h : nextR l p k m = .error e) : ErrOk e := by
  unfold nextR at h
  cases hp : peekR l p with
  | error e' => rw [hp] at h; cases h; exact peekR_err hp
  | ok u =>
    rw [hp] at h
    simp only at h
    split at h
    · cases h; simp [ErrOk]
    · cases h
theorem readB_err {c : Coded} {k : Int} (h : readB c = some k) : 1 ≤ k ∧ k ≤ 14 := by
  unfold readB at h
  split at h
  · cases h; omega
  split at h
  · split at h
    · cases h; omega
    · cases h
  split at h
  · cases h; omega
  split at h
  · cases h; omega
  split at h
  · cases h; omega
  cases h
theorem framesR_err {l : List Int} : ∀ (c i p n : Nat) {e : Err}, (framesR l c i p n).1 = .error e → ErrOk e
  | 0, i, p, n, e, h => by simp only [framesR] at h; cases h
  | c + 1, i, p, n, e, h => by
    unfold framesR at h
    cases hpk : peekR l p with
    | error e' => rw [hpk] at h; cases h; exact peekR_err hpk
    | ok u =>
      rw [hpk] at h
      simp only at h
      split at h
      · cases h; simp [ErrOk]
      · cases hrb : readB ⟨u.kind, u.data⟩ with
        | some k =>
          rw [hrb] at h
          cases h
          have := readB_err hrb
          exact ⟨by simp, this⟩
        | none =>
          rw [hrb] at h
          simp only [consF] at h
          cases hf : (framesR l c (i + 1) (u.end_ + zeros (l.drop u.end_)) (n + 1 + zeros (l.drop u.end_))).1 with
          | error e' => rw [hf] at h; cases h; exact framesR_err c _ _ _ hf
          | ok y => rw [hf] at h; cases h
theorem partR_err {l : List Int} {p n : Nat} {num first left behind : Int} {e : Err} (h : (partR l p n num first left behind).1 = .error e) : ErrOk e := by
  unfold partR at h
  cases hnx : nextR l p 17 3 with
  | error e' => rw [hnx] at h; cases h; exact nextR_err hnx
  | ok u =>
    rw [hnx] at h
    simp only at h
    split at h
    · cases h; simp [ErrOk]
    · cases hf : (framesR l (u.data.getD 2 0).toNat 0 u.end_ (n + 1)).1 with
      | error e' => rw [hf] at h; cases h; exact framesR_err _ _ _ _ hf
      | ok y => rw [hf] at h; cases h
theorem partsR_err {l : List Int} {F parts : Int} : ∀ (c k a p n : Nat) {e : Err}, (partsR l F parts c k a p n).1 = .error e → ErrOk e
  | 0, k, a, p, n, e, h => by simp only [partsR] at h; cases h
  | c + 1, k, a, p, n, e, h => by
    unfold partsR at h
    cases hpr : (partR l p n k a (F - a) (parts - 1 - k)).1 with
    | error e' => rw [hpr] at h; cases h; exact partR_err hpr
    | ok y =>
      rw [hpr] at h
      simp only [consP] at h
      cases hps : (partsR l F parts c (k + 1) (a + y.2.1.length) (partR l p n k a (F - a) (parts - 1 - k)).2.1 (partR l p n k a (F - a) (parts - 1 - k)).2.2).1 with
      | error e' => rw [hps] at h; cases h; exact partsR_err c _ _ _ _ hps
      | ok z => rw [hps] at h; cases h
theorem exactR_err {l : List Int} {p n : Nat} {k : Int} {d : List Int} {e : Err} (h : (exactR l p n k d).1 = some e) : ErrOk e := by
  unfold exactR at h
  cases hnx : nextR l p k d.length with
  | error e' => rw [hnx] at h; cases h; exact nextR_err hnx
  | ok u =>
    rw [hnx] at h
    simp only at h
    split at h
    · cases h
    · cases h; simp [ErrOk]
theorem endR_err {l : List Int} {p : Nat} {e : Err} (h : endR l p = some e) : ErrOk e := by
  unfold endR at h
  split at h
  · cases hp : peekR l p with
    | error e' => rw [hp] at h; cases h; exact peekR_err hp
    | ok u => rw [hp] at h; cases h; simp [ErrOk]
  · cases h
theorem headR_err {l : List Int} {p n : Nat} {e : Err} (h : (headR l p n).1 = .error e) : ErrOk e := by
  unfold headR at h
  cases hnx : nextR l p 16 22 with
  | error e' => rw [hnx] at h; cases h; exact nextR_err hnx
  | ok u =>
    rw [hnx] at h
    simp only at h
    split at h
    · cases h
    · cases h; simp [ErrOk]
theorem partsR_pos {l : List Int} (hl : ∀ x ∈ l, InK .u8 x) {F parts : Int} : ∀ (c k a p n : Nat), p ≤ l.length → n ≤ p → (partsR l F parts c k a p n).2.1 ≤ l.length ∧ (partsR l F parts c k a p n).2.2 ≤ (partsR l F parts c k a p n).2.1
  | 0, k, a, p, n, hp, hn => ⟨hp, hn⟩
  | c + 1, k, a, p, n, hp, hn => by
    unfold partsR
    have hpo := partR_ok hl (num := (k : Int)) (first := (a : Int)) (left := F - a) (behind := parts - 1 - k) hp hn
    cases hpr : (partR l p n k a (F - a) (parts - 1 - k)).1 with
    | error e' => exact ⟨hpo.2.1, hpo.2.2.1⟩
    | ok y => exact partsR_pos hl c (k + 1) (a + y.2.1.length) _ _ hpo.2.1 hpo.2.2.1
theorem closeR_err {l : List Int} (hl : ∀ x ∈ l, InK .u8 x) {h : HeadD} {es : List Entry} {cs : List Coded} {fs : List Int} {p n : Nat} (hp : p ≤ l.length) (hn : n ≤ p) :
    (closeR l h es cs fs p n).2.1 ≤ l.length ∧ (closeR l h es cs fs p n).2.2 ≤ (closeR l h es cs fs p n).2.1 ∧ ∀ e, (closeR l h es cs fs p n).1 = .error e → ErrOk e := by
  have h1 := exactR_pos hl (k := 18) (d := indexB es) hp hn
  have h2 := exactR_pos hl (p := (exactR l p n 18 (indexB es)).2.1) (n := (exactR l p n 18 (indexB es)).2.2) (k := 19) (d := tailB (l.take (exactR l p n 18 (indexB es)).2.1) p) h1.2.1 h1.2.2
  unfold closeR
  split
  · rename_i e he
    exact ⟨h1.2.1, h1.2.2, fun e' h' => by cases h'; exact exactR_err he⟩
  · split
    · rename_i e he
      exact ⟨h2.2.1, h2.2.2, fun e' h' => by cases h'; exact exactR_err he⟩
    · split
      · rename_i e he
        exact ⟨h2.2.1, h2.2.2, fun e' h' => by cases h'; exact endR_err he⟩
      · exact ⟨h2.2.1, h2.2.2, fun e' h' => by cases h'⟩
/-- an error of an opening: its first place is box, within the bytes; its code is one of the document's -/
theorem openR_err {l : List Int} (hl : ∀ x ∈ l, InK .u8 x) {e : Err} (h : openR l = .error e) : ∃ (n : Nat) (er : Err), e = inE sBox n er ∧ n ≤ l.length ∧ ErrOk er := by
  unfold openR at h
  cases ha : (allR l).1 with
  | ok y => rw [ha] at h; cases h
  | error er =>
    rw [ha] at h
    cases h
    refine ⟨(allR l).2.2, er, rfl, ?_⟩
    have hp := headR_pos hl (p := 0) (n := 0) (Nat.zero_le _) (Nat.le_refl _)
    unfold allR at ha ⊢
    cases hhd : (headR l 0 0).1 with
    | error e =>
      rw [hhd] at ha
      cases ha
      exact ⟨by simp only; omega, headR_err hhd⟩
    | ok hd =>
      rw [hhd] at ha
      simp only [bodyR] at ha ⊢
      have hps := partsR_pos hl (F := hd.F) (parts := hd.parts) hd.parts.toNat 0 0 (headR l 0 0).2.1 (headR l 0 0).2.2 hp.2.1 hp.2.2.1
      cases hpx : (partsR l hd.F hd.parts hd.parts.toNat 0 0 (headR l 0 0).2.1 (headR l 0 0).2.2).1 with
      | error e =>
        rw [hpx] at ha
        cases ha
        exact ⟨by simp only; omega, partsR_err _ _ _ _ _ hpx⟩
      | ok z =>
        rw [hpx] at ha
        have hc := closeR_err hl (h := hd) (es := z.1) (cs := z.2.1) (fs := z.2.2) hps.1 hps.2
        exact ⟨by simp only; omega, hc.2.2 er ha⟩
end Go.Proofs.YtjpbnboaonnfgaaDoor
