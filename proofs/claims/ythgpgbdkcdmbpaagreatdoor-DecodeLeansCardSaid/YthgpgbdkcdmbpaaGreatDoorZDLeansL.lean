/- Joined texts: DLeansL. Conditions: each part names its own. -/
import Derived.Test.YthgpgbdkcdmbpaaGreatDoorZDSkipsL
/- Coded frames, one behind the other: what each hangs on. Conditions: the data are bytes. -/
namespace Go.Proofs.YthgpgbdkcdmbpaaGreatDoor
open Go.RowKit
set_option linter.unusedVariables false
set_option linter.unusedSimpArgs false

/-- frames that coded frames mean, one behind the other -/
def chainD (W H : Int) : FrameD → List Coded → List FrameD → Prop
  | _, [], [] => True
  | prev, c :: l, f :: fs => frameD c prev W H = .ok f ∧ chainD W H f l fs
  | _, _, _ => False
theorem framesGo_chain {W H : Int} : ∀ (l : List Coded) (i : Nat) (prev : FrameD) (acc : List FrameD) {all : List FrameD}, framesGo W H l i prev acc = .ok all → ∃ fs, all = acc ++ fs ∧ chainD W H prev l fs
  | [], i, prev, acc, all, h => by
    rw [framesGo] at h
    cases h
    exact ⟨[], by simp, trivial⟩
  | c :: l, i, prev, acc, all, h => by
    cases hf : frameD c prev W H with
    | error e => rw [framesGo_bad hf] at h; cases h
    | ok f =>
      rw [framesGo_more hf] at h
      obtain ⟨fs, h1, h2⟩ := framesGo_chain l (i + 1) f (acc ++ [f]) h
      exact ⟨f :: fs, by rw [h1, List.append_assoc]; rfl, hf, h2⟩
theorem chain_framesGo {W H : Int} : ∀ (l : List Coded) (i : Nat) (prev : FrameD) (acc fs : List FrameD), chainD W H prev l fs → framesGo W H l i prev acc = .ok (acc ++ fs)
  | [], i, prev, acc, [], h => by rw [framesGo, List.append_nil]
  | c :: l, i, prev, acc, f :: fs, h => by
    obtain ⟨h1, h2⟩ := h
    rw [framesGo_more h1, chain_framesGo l (i + 1) f (acc ++ [f]) fs h2, List.append_assoc]
    rfl
  | [], _, _, _, _ :: _, h => h.elim
  | _ :: _, _, _, _, [], h => h.elim
theorem framesD_chain {W H : Int} {l : List Coded} {all : List FrameD} : framesD l W H = .ok all ↔ l.length ≤ 16 ∧ chainD W H frame0 l all := by
  unfold framesD
  by_cases h : 16 < l.length
  · rw [if_pos h]
    exact ⟨fun e => (by cases e), fun e => absurd e.1 (by omega)⟩
  · rw [if_neg h]
    constructor
    · intro e
      obtain ⟨fs, h1, h2⟩ := framesGo_chain _ _ _ _ e
      rw [h1]
      exact ⟨by omega, h2⟩
    · intro e
      exact chain_framesGo _ _ _ [] _ e.2
theorem chainD_len {W H : Int} : ∀ {prev : FrameD} {l : List Coded} {fs : List FrameD}, chainD W H prev l fs → fs.length = l.length
  | _, [], [], _ => rfl
  | _, c :: l, f :: fs, h => by rw [List.length_cons, List.length_cons, chainD_len h.2]
  | _, [], _ :: _, h => h.elim
  | _, _ :: _, [], h => h.elim
theorem chainD_take {W H : Int} : ∀ (k : Nat) {prev : FrameD} {l : List Coded} {fs : List FrameD}, chainD W H prev l fs → chainD W H prev (l.take k) (fs.take k)
  | 0, _, l, fs, _ => by rw [List.take_zero, List.take_zero]; trivial
  | k + 1, _, [], [], _ => by trivial
  | k + 1, _, c :: l, f :: fs, h => by rw [List.take_succ_cons, List.take_succ_cons]; exact ⟨h.1, chainD_take k h.2⟩
  | _ + 1, _, [], _ :: _, h => h.elim
  | _ + 1, _, _ :: _, [], h => h.elim
/-- the frame ahead of the k-th -/
def aheadD (prev : FrameD) (fs : List FrameD) : Nat → FrameD
  | 0 => prev
  | k + 1 => fs.getD k default
theorem chainD_drop {W H : Int} : ∀ (k : Nat) {prev : FrameD} {l : List Coded} {fs : List FrameD}, chainD W H prev l fs → k ≤ l.length → chainD W H (aheadD prev fs k) (l.drop k) (fs.drop k)
  | 0, _, l, fs, h, _ => h
  | k + 1, prev, c :: l, f :: fs, h, hk => by
    rw [List.drop_succ_cons, List.drop_succ_cons]
    have ih := chainD_drop k h.2 (by simp at hk; omega)
    have e : aheadD f fs k = aheadD prev (f :: fs) (k + 1) := by cases k <;> rfl
    rw [e] at ih
    exact ih
  | k + 1, _, [], [], _, hk => by simp at hk
  | _ + 1, _, [], _ :: _, h, _ => h.elim
  | _ + 1, _, _ :: _, [], h, _ => h.elim
theorem chainD_at {W H : Int} {prev : FrameD} {l : List Coded} {fs : List FrameD} (h : chainD W H prev l fs) {k : Nat} (hk : k < l.length) : frameD (l.getD k default) (aheadD prev fs k) W H = .ok (fs.getD k default) := by
  have h1 := chainD_drop k h (by omega)
  have hl : k < fs.length := by rw [chainD_len h]; exact hk
  rw [List.drop_eq_getElem_cons hk, List.drop_eq_getElem_cons hl] at h1
  rw [List.getD_eq_getElem?_getD, List.getElem?_eq_getElem hk, List.getD_eq_getElem?_getD, List.getElem?_eq_getElem hl]
  exact h1.1
/-- a frame that is by itself hangs on nothing ahead -/
theorem laySq_alone (f p p' : FrameD) (x y qp : Int) (s : SqD) (h : 2 ≤ s.kind) : laySq f p x y qp s = laySq f p' x y qp s := by
  have h0 : ¬ s.kind = 0 := by omega
  have h1 : ¬ s.kind = 1 := by omega
  unfold laySq
  simp only [if_neg h0, if_neg h1]
theorem squaresGo_alone (p p' : FrameD) (qp : Int) : ∀ (k i : Nat) (f : FrameD) {m : Mod}, ModOk m → squaresGo true p qp k i f m = squaresGo true p' qp k i f m
  | 0, i, f, m, h => rfl
  | k + 1, i, f, m, h => by
    obtain ⟨A, a1, a2⟩ := squareD_adv true h
    unfold squaresGo
    cases hs : (squareD true m).1 with
    | error e => rfl
    | ok s =>
      simp only
      rw [laySq_alone _ p p' _ _ _ s ((a1 s hs).2 rfl)]
      exact squaresGo_alone p p' qp k (i + 1) _ A.ok
theorem frameD_alone {c : Coded} (hd : ∀ x ∈ c.data, InK .u8 x) (hk : c.kind = 1 ∨ c.kind = 4) (p p' : FrameD) (W H : Int) : frameD c p W H = frameD c p' W H := by
  unfold frameD
  split
  · rfl
  cases hr : readB c with
  | some k => rfl
  | none =>
    have n1 : ¬ ((c.kind = 2 ∨ c.kind = 3) ∧ matesB p W H = false) := by omega
    have n2 : ¬ ((c.kind = 2 ∨ c.kind = 3) ∧ matesB p' W H = false) := by omega
    have n3 : ¬ c.kind = 3 := by omega
    simp only [if_neg n1, if_neg n2, if_neg n3]
    split
    · rfl
    · rename_i h4
      have h1 : c.kind = 1 := by omega
      simp only [h1, decide_true]
      exact squaresGo_alone p p' _ _ _ _ (modNew_ok (fun z hz => hd z (List.mem_of_mem_drop hz)))
/-- a skip is the frame ahead -/
theorem frameD_skip3 {c : Coded} {p f : FrameD} {W H : Int} (hk : c.kind = 3) (h : frameD c p W H = .ok f) : f = p ∧ p ≠ frame0 := by
  unfold frameD at h
  split at h
  · cases h
  rename_i hn
  cases hr : readB c with
  | some k => rw [hr] at h; cases h
  | none =>
    rw [hr] at h
    simp only at h
    split at h
    · cases h
    rename_i hm
    have n4 : ¬ c.kind = 4 := by omega
    simp only [if_neg n4, if_pos hk] at h
    cases h
    have hmt : matesB p W H = true := by
      cases hb : matesB p W H with
      | true => rfl
      | false => exact absurd ⟨.inr hk, hb⟩ hm
    unfold matesB at hmt
    rw [Bool.and_eq_true, Bool.and_eq_true, decide_eq_true_iff, decide_eq_true_iff] at hmt
    obtain ⟨⟨h1, h2⟩, h3⟩ := hmt
    refine ⟨by rw [← h2, ← h3], fun e => ?_⟩
    rw [e] at h1
    exact absurd h1 (by decide +kernel)
theorem skip_at {W H : Int} {l : List Coded} {all : List FrameD} (h : framesD l W H = .ok all) {i : Nat} (hi : i < l.length) (hk : (l.getD i default).kind = 3) : ∃ j, i = j + 1 ∧ all.getD i default = all.getD j default := by
  obtain ⟨_, hc⟩ := framesD_chain.1 h
  obtain ⟨e1, e2⟩ := frameD_skip3 hk (chainD_at hc hi)
  cases i with
  | zero => exact absurd rfl e2
  | succ j => exact ⟨j, rfl, e1⟩
theorem heads_at {W H : Int} {l : List Coded} {all : List FrameD} (h : framesD l W H = .ok all) (k : Nat) : framesD (l.take k) W H = .ok (all.take k) := by
  obtain ⟨hl, hc⟩ := framesD_chain.1 h
  exact framesD_chain.2 ⟨by rw [List.length_take]; omega, chainD_take k hc⟩
theorem tails_at {W H : Int} {l : List Coded} {all : List FrameD} (hd : ∀ c ∈ l, ∀ x ∈ c.data, InK .u8 x) (h : framesD l W H = .ok all) {k : Nat} (hi : k < l.length) (hk : (l.getD k default).kind = 1 ∨ (l.getD k default).kind = 4) :
    framesD (l.drop k) W H = .ok (all.drop k) ∧ ∀ p, frameD (l.getD k default) p W H = .ok (all.getD k default) := by
  obtain ⟨hl, hc⟩ := framesD_chain.1 h
  have hmem : l.getD k default ∈ l := by rw [List.getD_eq_getElem?_getD, List.getElem?_eq_getElem hi]; exact List.getElem_mem _
  have h1 := chainD_at hc hi
  have h2 : ∀ p, frameD (l.getD k default) p W H = .ok (all.getD k default) := fun p => by rw [frameD_alone (hd _ hmem) hk p (aheadD frame0 all k)]; exact h1
  refine ⟨framesD_chain.2 ⟨by rw [List.length_drop]; omega, ?_⟩, h2⟩
  have h3 := chainD_drop k hc (by omega)
  have hla : k < all.length := by rw [chainD_len hc]; exact hi
  rw [List.drop_eq_getElem_cons hi, List.drop_eq_getElem_cons hla] at h3 ⊢
  have e1 : l[k] = l.getD k default := by rw [List.getD_eq_getElem?_getD, List.getElem?_eq_getElem hi]; rfl
  have e2 : all[k] = all.getD k default := by rw [List.getD_eq_getElem?_getD, List.getElem?_eq_getElem hla]; rfl
  refine ⟨?_, h3.2⟩
  rw [e1, e2]
  exact h2 frame0
theorem all_len {W H : Int} {l : List Coded} {all : List FrameD} (h : framesD l W H = .ok all) : all.length = l.length := chainD_len (framesD_chain.1 h).2
#print axioms tails_at
end Go.Proofs.YthgpgbdkcdmbpaaGreatDoor
