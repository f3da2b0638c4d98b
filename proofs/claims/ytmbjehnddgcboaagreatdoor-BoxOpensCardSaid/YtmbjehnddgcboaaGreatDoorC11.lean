/- Joined texts: Loc, Errs. Conditions: each part names its own. -/
import Derived.Test.YtmbjehnddgcboaaGreatDoorC10
/- What is read of some bytes is read of these bytes cut out. Conditions: none. -/
namespace Go.Proofs.YtmbjehnddgcboaaGreatDoor
open Go.RowKit
set_option linter.unusedVariables false
set_option linter.unusedSimpArgs false

theorem getD_take {d : List Int} {m i : Nat} (h : i < m) : (d.take m).getD i 0 = d.getD i 0 := by
  simp [List.getD_eq_getElem?_getD, List.getElem?_take, h]
theorem zeros_take : ∀ (d : List Int) (m : Nat), zeros (d.take m) = min (zeros d) m
  | [], m => by simp [zeros]
  | x :: d, 0 => by simp [zeros]
  | x :: d, m + 1 => by
    simp only [List.take_succ_cons, zeros]
    split
    · rw [zeros_take d m]; omega
    · simp
theorem lenU_take {d : List Int} {m : Nat} (h : 4 ≤ m) : lenU (d.take m) = lenU d := by
  simp only [lenU, getD_take (show 1 < m by omega), getD_take (show 2 < m by omega), getD_take (show 3 < m by omega)]
theorem sumU_take {d : List Int} {m n : Nat} (h : 8 + n ≤ m) : sumU (d.take m) n = sumU d n := by
  simp only [sumU, getD_take (show 4 + n < m by omega), getD_take (show 5 + n < m by omega), getD_take (show 6 + n < m by omega), getD_take (show 7 + n < m by omega)]
theorem nextD_take {d : List Int} {p p' m : Nat} {u : UnitD} (hr : ∀ x ∈ d, InK .u8 x) (h : nextD d p = .ok u) (hm : u.end_ ≤ p + m) : nextD (d.take m) p' = .ok ⟨u.kind, u.data, p', p' + (u.end_ - p)⟩ := by
  have hnn := lenU_nn d hr
  unfold nextD at h
  split at h
  · rename_i h0
    cases h
    have hm1 : 0 < m := by simp only at hm; omega
    unfold nextD
    rw [if_pos (by rw [getD_take hm1]; exact h0)]
    simp
  rename_i h0
  split at h
  · cases h
  rename_i h4
  split at h
  · cases h
  rename_i h5
  split at h
  · cases h
  rename_i h8
  split at h
  · cases h
  rename_i hc
  cases h
  simp only at hm ⊢
  have hm8 : 8 + (lenU d).toNat ≤ m := by omega
  have hc' : (crc (d.take (4 + (lenU d).toNat)) : Int) = sumU d (lenU d).toNat := Decidable.not_not.1 hc
  unfold nextD
  rw [getD_take (by omega), if_neg h0, if_neg (by rw [List.length_take]; omega), lenU_take (by omega), if_neg h5, if_neg (by rw [List.length_take]; omega)]
  rw [List.take_take, show min (4 + (lenU d).toNat) m = 4 + (lenU d).toNat by omega, sumU_take (by omega), if_neg (by rw [hc']; simp)]
  congr 2
  · rw [List.drop_take, List.take_take]; congr 1; omega
  · omega
theorem peekR_cut {l : List Int} {o L p : Nat} {u : UnitD} (hr : ∀ x ∈ l, InK .u8 x) (h : peekR l p = .ok u) (ho : o ≤ p) (hp : p ≤ l.length) (hm : u.end_ ≤ o + L) : peekR ((l.drop o).take L) (p - o) = .ok ⟨u.kind, u.data, p - o, u.end_ - o⟩ := by
  have h1 := peekR_ok h hp hr
  unfold peekR at h
  split at h
  · cases h
  have hd : (((l.drop o).take L).drop (p - o)) = (l.drop p).take (L - (p - o)) := by
    rw [List.drop_take, List.drop_drop, show o + (p - o) = p by omega]
  unfold peekR
  rw [if_neg (by rw [List.length_take, List.length_drop]; omega), hd, nextD_take (p' := p - o) (fun x hx => hr x (List.mem_of_mem_drop hx)) h (by omega)]
  congr 2
  omega
theorem nextR_cut {l : List Int} {o L p : Nat} {k n : Int} {u : UnitD} (hr : ∀ x ∈ l, InK .u8 x) (h : nextR l p k n = .ok u) (ho : o ≤ p) (hp : p ≤ l.length) (hm : u.end_ ≤ o + L) : nextR ((l.drop o).take L) (p - o) k n = .ok ⟨u.kind, u.data, p - o, u.end_ - o⟩ := by
  obtain ⟨h1, h2, h3⟩ := nextR_peek h
  unfold nextR
  rw [peekR_cut hr h1 ho hp hm]
  simp [h2, h3]
theorem framesR_cut {l : List Int} {o L : Nat} (hr : ∀ x ∈ l, InK .u8 x) : ∀ (c i p n n' : Nat) {x : List Coded × List Int}, o ≤ p → p ≤ l.length → n ≤ p → (framesR l c i p n).1 = .ok x → (framesR l c i p n).2.1 ≤ o + L →
    (framesR ((l.drop o).take L) c i (p - o) n').1 = .ok x ∧ (framesR ((l.drop o).take L) c i (p - o) n').2.1 = (framesR l c i p n).2.1 - o
  | 0, i, p, n, n', x, ho, hp, hn, h, hL => by
    simp only [framesR] at h ⊢
    exact ⟨h, trivial⟩
  | c + 1, i, p, n, n', x, ho, hp, hn, h, hL => by
    unfold framesR at h hL
    cases hpk : peekR l p with
    | error e => rw [hpk] at h; cases h
    | ok u =>
      have h1 := peekR_ok hpk hp hr
      have hz := zeros_le (l.drop u.end_)
      rw [List.length_drop] at hz
      have hpos := framesR_pos hr c (i + 1) (u.end_ + zeros (l.drop u.end_)) (n + 1 + zeros (l.drop u.end_)) (by omega) (by omega)
      rw [hpk] at h hL
      simp only at h hL
      split at h
      · cases h
      · rename_i hb
        rw [if_neg hb] at hL
        cases hrb : readB ⟨u.kind, u.data⟩ with
        | some k => rw [hrb] at h; cases h
        | none =>
          rw [hrb] at h hL
          simp only [consF] at h hL
          cases hf : (framesR l c (i + 1) (u.end_ + zeros (l.drop u.end_)) (n + 1 + zeros (l.drop u.end_))).1 with
          | error e => rw [hf] at h; cases h
          | ok y =>
            rw [hf] at h
            have hzc : zeros (((l.drop o).take L).drop (u.end_ - o)) = zeros (l.drop u.end_) := by
              rw [List.drop_take, List.drop_drop, show o + (u.end_ - o) = u.end_ by omega, zeros_take]
              omega
            have ih := framesR_cut hr c (i + 1) (u.end_ + zeros (l.drop u.end_)) (n + 1 + zeros (l.drop u.end_)) (n' + 1 + zeros (l.drop u.end_)) (by omega) (by omega) (by omega) hf hL
            unfold framesR
            rw [peekR_cut (L := L) hr hpk ho hp (by omega)]
            simp only
            rw [if_neg hb, hrb]
            simp only [consF]
            rw [hzc, show u.end_ - o + zeros (l.drop u.end_) = u.end_ + zeros (l.drop u.end_) - o by omega, ih.1]
            cases h
            refine ⟨rfl, ?_⟩
            simp only [hpk, if_neg hb, hrb, consF]
            exact ih.2
end Go.Proofs.YtmbjehnddgcboaaGreatDoor
/- Which errors an opening can end in. Conditions: none. -/
namespace Go.Proofs.YtmbjehnddgcboaaGreatDoor
open Go.RowKit
set_option linter.unusedVariables false
set_option linter.unusedSimpArgs false

/-- an error with at most one place, and a code of the document's -/
def ErrOk (e : Err) : Prop := e.path.length ≤ 1 ∧ 1 ≤ e.code ∧ e.code ≤ 14
theorem nextD_err {d : List Int} {p : Nat} {e : Err} (h : nextD d p = .error e) : ErrOk e := by
  unfold nextD at h
  split at h
  · cases h
  split at h
  · cases h; simp [ErrOk]
  split at h
  · cases h; simp [ErrOk]
  split at h
  · cases h; simp [ErrOk]
  split at h
  · cases h; simp [ErrOk]
  cases h
theorem peekR_err {l : List Int} {p : Nat} {e : Err} (h : peekR l p = .error e) : ErrOk e := by
  unfold peekR at h
  split at h
  · cases h; simp [ErrOk]
  · exact nextD_err h
theorem nextR_err {l : List Int} {p : Nat} {k m : Int} {e : Err} (h : nextR l p k m = .error e) : ErrOk e := by
  unfold nextR at h
  cases hp : peekR l p with
  | error e' => rw [hp] at h; cases h; exact peekR_err hp
  | ok u =>
    rw [hp] at h
    simp only at h
    split at h
    · cases h; simp [ErrOk]
    · cases h
theorem readB_err {c : Coded} {k : Int} (h : readB c = some k) : 1 ≤ k ∧ k ≤ 14 := by
  unfold readB at h
  split at h
  · cases h; omega
  split at h
  · split at h
    · cases h; omega
    · cases h
  split at h
  · cases h; omega
  split at h
  · cases h; omega
  split at h
  · cases h; omega
  cases h
theorem framesR_err {l : List Int} : ∀ (c i p n : Nat) {e : Err}, (framesR l c i p n).1 = .error e → ErrOk e
  | 0, i, p, n, e, h => by simp only [framesR] at h; cases h
  | c + 1, i, p, n, e, h => by
    unfold framesR at h
    cases hpk : peekR l p with
    | error e' => rw [hpk] at h; cases h; exact peekR_err hpk
    | ok u =>
      rw [hpk] at h
      simp only at h
      split at h
      · cases h; simp [ErrOk]
      · cases hrb : readB ⟨u.kind, u.data⟩ with
        | some k =>
          rw [hrb] at h
          cases h
          have := readB_err hrb
          exact ⟨by simp, this⟩
        | none =>
          rw [hrb] at h
          simp only [consF] at h
          cases hf : (framesR l c (i + 1) (u.end_ + zeros (l.drop u.end_)) (n + 1 + zeros (l.drop u.end_))).1 with
          | error e' => rw [hf] at h; cases h; exact framesR_err c _ _ _ hf
          | ok y => rw [hf] at h; cases h
theorem partR_err {l : List Int} {p n : Nat} {num first left behind : Int} {e : Err} (h : (partR l p n num first left behind).1 = .error e) : ErrOk e := by
  unfold partR at h
  cases hnx : nextR l p 17 3 with
  | error e' => rw [hnx] at h; cases h; exact nextR_err hnx
  | ok u =>
    rw [hnx] at h
    simp only at h
    split at h
    · cases h; simp [ErrOk]
    · cases hf : (framesR l (u.data.getD 2 0).toNat 0 u.end_ (n + 1)).1 with
      | error e' => rw [hf] at h; cases h; exact framesR_err _ _ _ _ hf
      | ok y => rw [hf] at h; cases h
theorem partsR_err {l : List Int} {F parts : Int} : ∀ (c k a p n : Nat) {e : Err}, (partsR l F parts c k a p n).1 = .error e → ErrOk e
  | 0, k, a, p, n, e, h => by simp only [partsR] at h; cases h
  | c + 1, k, a, p, n, e, h => by
    unfold partsR at h
    cases hpr : (partR l p n k a (F - a) (parts - 1 - k)).1 with
    | error e' => rw [hpr] at h; cases h; exact partR_err hpr
    | ok y =>
      rw [hpr] at h
      simp only [consP] at h
      cases hps : (partsR l F parts c (k + 1) (a + y.2.1.length) (partR l p n k a (F - a) (parts - 1 - k)).2.1 (partR l p n k a (F - a) (parts - 1 - k)).2.2).1 with
      | error e' => rw [hps] at h; cases h; exact partsR_err c _ _ _ _ hps
      | ok z => rw [hps] at h; cases h
theorem exactR_err {l : List Int} {p n : Nat} {k : Int} {d : List Int} {e : Err} (h : (exactR l p n k d).1 = some e) : ErrOk e := by
  unfold exactR at h
  cases hnx : nextR l p k d.length with
  | error e' => rw [hnx] at h; cases h; exact nextR_err hnx
  | ok u =>
    rw [hnx] at h
    simp only at h
    split at h
    · cases h
    · cases h; simp [ErrOk]
theorem endR_err {l : List Int} {p : Nat} {e : Err} (h : endR l p = some e) : ErrOk e := by
  unfold endR at h
  split at h
  · cases hp : peekR l p with
    | error e' => rw [hp] at h; cases h; exact peekR_err hp
    | ok u => rw [hp] at h; cases h; simp [ErrOk]
  · cases h
theorem headR_err {l : List Int} {p n : Nat} {e : Err} (h : (headR l p n).1 = .error e) : ErrOk e := by
  unfold headR at h
  cases hnx : nextR l p 16 22 with
  | error e' => rw [hnx] at h; cases h; exact nextR_err hnx
  | ok u =>
    rw [hnx] at h
    simp only at h
    split at h
    · cases h
    · cases h; simp [ErrOk]
theorem partsR_pos {l : List Int} (hl : ∀ x ∈ l, InK .u8 x) {F parts : Int} : ∀ (c k a p n : Nat), p ≤ l.length → n ≤ p → (partsR l F parts c k a p n).2.1 ≤ l.length ∧ (partsR l F parts c k a p n).2.2 ≤ (partsR l F parts c k a p n).2.1
  | 0, k, a, p, n, hp, hn => ⟨hp, hn⟩
  | c + 1, k, a, p, n, hp, hn => by
    unfold partsR
    have hpo := partR_ok hl (num := (k : Int)) (first := (a : Int)) (left := F - a) (behind := parts - 1 - k) hp hn
    cases hpr : (partR l p n k a (F - a) (parts - 1 - k)).1 with
    | error e' => exact ⟨hpo.2.1, hpo.2.2.1⟩
    | ok y => exact partsR_pos hl c (k + 1) (a + y.2.1.length) _ _ hpo.2.1 hpo.2.2.1
theorem closeR_err {l : List Int} (hl : ∀ x ∈ l, InK .u8 x) {h : HeadD} {es : List Entry} {cs : List Coded} {fs : List Int} {p n : Nat} (hp : p ≤ l.length) (hn : n ≤ p) :
    (closeR l h es cs fs p n).2.1 ≤ l.length ∧ (closeR l h es cs fs p n).2.2 ≤ (closeR l h es cs fs p n).2.1 ∧ ∀ e, (closeR l h es cs fs p n).1 = .error e → ErrOk e := by
  have h1 := exactR_pos hl (k := 18) (d := indexB es) hp hn
  have h2 := exactR_pos hl (p := (exactR l p n 18 (indexB es)).2.1) (n := (exactR l p n 18 (indexB es)).2.2) (k := 19) (d := tailB (l.take (exactR l p n 18 (indexB es)).2.1) p) h1.2.1 h1.2.2
  unfold closeR
  split
  · rename_i e he
    exact ⟨h1.2.1, h1.2.2, fun e' h' => by cases h'; exact exactR_err he⟩
  · split
    · rename_i e he
      exact ⟨h2.2.1, h2.2.2, fun e' h' => by cases h'; exact exactR_err he⟩
    · split
      · rename_i e he
        exact ⟨h2.2.1, h2.2.2, fun e' h' => by cases h'; exact endR_err he⟩
      · exact ⟨h2.2.1, h2.2.2, fun e' h' => by cases h'⟩
/-- an error of an opening: its first place is box, within the bytes; its code is one of the document's -/
theorem openR_err {l : List Int} (hl : ∀ x ∈ l, InK .u8 x) {e : Err} (h : openR l = .error e) : ∃ (n : Nat) (er : Err), e = inE sBox n er ∧ n ≤ l.length ∧ ErrOk er := by
  unfold openR at h
  cases ha : (allR l).1 with
  | ok y => rw [ha] at h; cases h
  | error er =>
    rw [ha] at h
    cases h
    refine ⟨(allR l).2.2, er, rfl, ?_⟩
    have hp := headR_pos hl (p := 0) (n := 0) (Nat.zero_le _) (Nat.le_refl _)
    unfold allR at ha ⊢
    cases hhd : (headR l 0 0).1 with
    | error e =>
      rw [hhd] at ha
      cases ha
      exact ⟨by simp only; omega, headR_err hhd⟩
    | ok hd =>
      rw [hhd] at ha
      simp only [bodyR] at ha ⊢
      have hps := partsR_pos hl (F := hd.F) (parts := hd.parts) hd.parts.toNat 0 0 (headR l 0 0).2.1 (headR l 0 0).2.2 hp.2.1 hp.2.2.1
      cases hpx : (partsR l hd.F hd.parts hd.parts.toNat 0 0 (headR l 0 0).2.1 (headR l 0 0).2.2).1 with
      | error e =>
        rw [hpx] at ha
        cases ha
        exact ⟨by simp only; omega, partsR_err _ _ _ _ _ hpx⟩
      | ok z =>
        rw [hpx] at ha
        have hc := closeR_err hl (h := hd) (es := z.1) (cs := z.2.1) (fs := z.2.2) hps.1 hps.2
        exact ⟨by simp only; omega, hc.2.2 er ha⟩
end Go.Proofs.YtmbjehnddgcboaaGreatDoor
