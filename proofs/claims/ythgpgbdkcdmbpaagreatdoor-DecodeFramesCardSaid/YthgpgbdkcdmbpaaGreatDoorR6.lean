/- Joined texts: ReadG, ReadK. Conditions: each part names its own. -/
import Derived.Test.YthgpgbdkcdmbpaaGreatDoorC4
import Derived.Test.YthgpgbdkcdmbpaaGreatDoorC1
namespace Go.Proofs.YthgpgbdkcdmbpaaGreatDoor
open Go.RowKit
set_option linter.unusedVariables false
set_option linter.unusedSimpArgs false
set_option maxRecDepth 100000
set_option maxHeartbeats 16000000
def HeadK (w : World) (c : Coded) (e : Ending) (w' : World) : Prop :=
 Only [] w w' ∧ match readB c with
  | some k => e = .returned (.tuple #[.agg #[.int .i64 0, .int .i64 0, .slice none 0 0], .agg #[.int .i64 k, .slice none 0 0]])
  | none => ∃ dv, e = .returned (.tuple #[.agg #[.int .i64 c.kind, .int .i64 (c.data.getD 0 0), dv], .agg #[.int .i64 0, .slice none 0 0]]) ∧ Ints .u8 w.heap.size w'.heap.size w' dv (c.data.drop 1)
theorem HeadK.err {w w' : World} {c : Coded} {k : Int} {e : Ending} (hk : readB c = some k) (ho : Only [] w w') (he : e = .returned (.tuple #[.agg #[.int .i64 0, .int .i64 0, .slice none 0 0], .agg #[.int .i64 k, .slice none 0 0]])) : HeadK w c e w' := by
 unfold HeadK; rw [hk]; exact ⟨ho, he⟩
theorem readB_13 {k : Int} {l : List Int} (h : k < 1 ∨ 4 < k) : readB ⟨k, l⟩ = some 13 := by
 have : kindB k = false := by unfold kindB; rw [decide_eq_false_iff_not]; omega
 simp [readB, this]
theorem kindB_of {k : Int} (h1 : ¬ k < 1) (h2 : ¬ 4 < k) : kindB k = true := by unfold kindB; rw [decide_eq_true_eq]; omega
theorem bareB_of {k : Int} (h2 : ¬ 4 < k) (h3 : 2 < k) : bareB k = true := by unfold bareB; rw [decide_eq_true_eq]; omega
theorem bareB_no {k : Int} (h3 : ¬ 2 < k) : bareB k = false := by unfold bareB; rw [decide_eq_false_iff_not]; omega
theorem fail_eq (c : Int) (w : World) : Calls Tryz.prog 22 #[.int .i64 c] w fun e w' => e = .returned (.agg #[.int .i64 c, .slice none 0 0]) ∧ w.alloc (.cells #[.int .i64 c, .slice none 0 0] 45) = w' := by
 go_enter Tryz.func22, Tryz.ntmps22
 go_wp2
 refine bodyPost_ret (v := .agg #[.int .i64 c, .slice none 0 0]) (by simp [results, Tryz.results22, go_sem]) rfl ⟨rfl, rfl⟩
theorem Ints.open' {k : IntKind} {lo hi b off n cap : Nat} {w : World} {l : List Int} (h : Ints k lo hi w (.slice (some ⟨b, off, none⟩) n cap) l) (hp : 0 < l.length) : lo ≤ b ∧ w.cell? ⟨b, off, none⟩ = some (.int k (l.getD 0 0)) := by
 obtain ⟨b', off', cap', e, x, y, hc⟩ := h.at hp
 cases e
 exact ⟨x, by simpa using hc⟩
theorem kread_good {lo hi b off cap : Nat} {k q : Int} {l : List Int} {w : World} (h : Ints .u8 lo hi w (.slice (some ⟨b, off, none⟩) l.length cap) l) (hcap : l.length ≤ cap) (hcm : (cap : Int) ≤ 9223372036854775807) (hlen : l.length ≤ 140737488355328)
  (hk1 : ¬ k < 1) (hk4 : ¬ 4 < k) (hk2 : ¬ 2 < k) (hpos : 0 < l.length) (hq : l.getD 0 0 = q) (h15 : ¬ 15 < q) (h5 : ¬ 65536 < l.length) (hr : readB ⟨k, l⟩ = none) :
  Calls Tryz.prog 48 #[.agg #[.int .i64 k, .slice (some ⟨b, off, none⟩) l.length cap]] w (HeadK w ⟨k, l⟩) := by
 have HQ := lh (fun o o' o'' => (((Only.new w o).q (Only.new _ o')).q (Only.new _ o'')))
 have c0 := (h.open' hpos).2
 have hx := h.range hpos
 rw [hq] at c0 hx
 unfold InK at hx
 have Hh := lh h
 have Hq := lh hq
 obtain ⟨a1, hsl, hI1⟩ := slice_from h hcap (i := 1) hpos (z := 1) rfl
 have HI1 := lh hI1
 have Hl1 : Hid ((l.drop 1).length = l.length - 1) := lh (by simp)
 have h0b : (((l.length : Nat) : Int) == 0) = false := by rw [beq_eq_false_iff_ne]; omega
 have hpi : (0 : Int) < (l.length : Int) := by omega
 have c1 : ∀ o o' o'', (((w.alloc o).alloc o').alloc o'').cell? ⟨b, off, none⟩ = some (.int .u8 q) := fun o o' o'' => (HQ.out o o' o'').cell c0 (by simp)
 clear h hI1 hq
 have Hr := lh hr
 refine hidQ fun Q HPost => ?_
 go_enter Tryz.func48, Tryz.ntmps48
 go_wp2_with fail
 clear c1
 generalize hW : ((w.alloc _).alloc _).alloc _ = W3
 have hO : Only [] w W3 := by rw [← hW]; exact HQ.out _ _ _
 have hz3 : W3.heap.size = w.heap.size + 3 := by rw [← hW]; simp
 have rA : W3.heap[w.heap.size]? = some (.cells #[.int .i64 k, .slice (some ⟨b, off, none⟩) l.length cap] 24 (0, 0)) := by
  rw [← hW, Below.heap_alloc _ _ _ (by simp; omega), Below.heap_alloc _ _ _ (by simp)]; exact heap_alloc_new _ _
 have rB : W3.heap[w.heap.size + 1]? = some (.cells #[.int .i64 0, .int .i64 0, .slice none 0 0] 100 (0, 0)) := by
  rw [← hW, Below.heap_alloc _ _ _ (by simp)]; exact heap_alloc_new' (by simp)
 have rC : W3.heap[w.heap.size + 1 + 1]? = some (.cells #[.int .i64 0, .slice none 0 0] 45 (0, 0)) := by
  rw [← hW]; exact heap_alloc_new' (by simp)
 clear hW
 have f0 : W3.cell? ⟨w.heap.size, 0, none⟩ = some (.int .i64 k) := by rw [cell_of_row _ _ _ _ _ _ rA]; rfl
 have f1 : W3.cell? ⟨w.heap.size, 1, none⟩ = some (.slice (some ⟨b, off, none⟩) l.length cap) := by rw [cell_of_row _ _ _ _ _ _ rA]; rfl
 have f2 : W3.cell? ⟨b, off, none⟩ = some (.int .u8 q) := hO.cell c0 (by simp)
 have hwq : IntKind.i64.wrap q = q := by simp [IntKind.wrap, IntKind.bits, IntKind.signed]; omega
 have hI3 := HI1.out.quiet hO
 have hB : ∀ w1, Only [] W3.drew w1 → (w1.cell? ⟨w.heap.size + 1, 0, none⟩ = some (.int .i64 0) ∧ w1.cell? ⟨w.heap.size + 1, 1, none⟩ = some (.int .i64 0) ∧ w1.cell? ⟨w.heap.size + 1, 2, none⟩ = some (.slice none 0 0)) ∧
   (w1.frozen? ⟨w.heap.size + 1, 0, none⟩ = false ∧ w1.frozen? ⟨w.heap.size + 1, 1, none⟩ = false ∧ w1.frozen? ⟨w.heap.size + 1, 2, none⟩ = false) ∧
   (w1.cell? ⟨w.heap.size + 1 + 1, 0, none⟩ = some (.int .i64 0) ∧ w1.cell? ⟨w.heap.size + 1 + 1, 1, none⟩ = some (.slice none 0 0)) ∧ (w1.frozen? ⟨w.heap.size + 1 + 1, 0, none⟩ = false ∧ w1.frozen? ⟨w.heap.size + 1 + 1, 1, none⟩ = false) := by
  intro w1 o
  have r1 := ((Only.refl [] W3).drew.q o).row rB
  have r2 := ((Only.refl [] W3).drew.q o).row rC
  refine ⟨⟨?_, ?_, ?_⟩, ⟨?_, ?_, ?_⟩, ⟨?_, ?_⟩, ?_, ?_⟩
  ·rw [cell_of_row _ _ _ _ _ _ r1]; rfl
  ·rw [cell_of_row _ _ _ _ _ _ r1]; rfl
  ·rw [cell_of_row _ _ _ _ _ _ r1]; rfl
  ·exact frozen_of_row _ _ _ _ _ r1
  ·exact frozen_of_row _ _ _ _ _ r1
  ·exact frozen_of_row _ _ _ _ _ r1
  ·rw [cell_of_row _ _ _ _ _ _ r2]; rfl
  ·rw [cell_of_row _ _ _ _ _ _ r2]; rfl
  ·exact frozen_of_row _ _ _ _ _ r2
  ·exact frozen_of_row _ _ _ _ _ r2
 have HB := lh hB
 have hbw : b < w.heap.size := block_lt_of_cell c0
 have hbA1 : (w.heap.size + 1 = w.heap.size) = False := by simp
 have hbA2 : (w.heap.size + 1 + 1 = w.heap.size) = False := eq_false (by omega)
 have hbn2 : (w.heap.size + 1 = b) = False := eq_false (by omega)
 have hbn4 : (w.heap.size + 1 + 1 = b) = False := eq_false (by omega)
 have hcp : Calls Tryz.prog 42 #[.slice a1 (l.length - 1) (cap - 1)] W3.drew (fun e w' => ∃ a2 cap2, e = .returned (.slice a2 (l.length - 1) cap2) ∧ Own .u8 5 W3.drew.heap.size w' (.slice a2 (l.length - 1) cap2) (l.drop 1) ∧ Only [] W3.drew w') := by
  refine (copyb_any (w := W3.drew) (hI3.quiet (Only.refl [] W3).drew) (by rw [Hl1.out]; omega)).mono ?_
  rintro e w1 ⟨v1, rfl, ho, hq⟩
  obtain ⟨a2, cap2, hv, _⟩ := ho.ints.open
  rw [Hl1.out] at hv
  subst hv
  exact ⟨a2, cap2, rfl, ho, hq⟩
 have Hc := lh hcp
 clear hcp
 clear rA rB rC hB hI3 c0
 go_region_held3 (fun w' => w'.cell? ⟨w.heap.size, 0, none⟩ = some (.int .i64 k) ∧ w'.cell? ⟨w.heap.size, 1, none⟩ = some (.slice (some ⟨b, off, none⟩) l.length cap) ∧ w'.cell? ⟨b, off, none⟩ = some (.int .u8 q))
  (first
   | (simp only [World.cell?_setCell_far, ne_eq, hbA1, hbA2, hbn2, hbn4, not_false_eq_true]; go_split_ands; refine ⟨?_, ?_, ?_⟩ <;> assumption)
   | (go_split_ands; with_reducible refine ⟨hq1.cell (by assumption) (by simp), hq1.cell (by assumption) (by simp), hq1.cell (by assumption) (by simp)⟩)
   | (simp [*, World.cell?_alloc_some, World.cell?_setCell_far, frozen?_alloc_cells, frozen_drew, World.frozen?_setCell])
   | fail)
  (first
   | (go_at_call 42; refine Hc.out.mono ?_; rintro e w1 ⟨a2, cap2, rfl, hown1, hq1⟩; obtain ⟨⟨m0, m1, m2⟩, ⟨n0, n1, n2⟩, ⟨p0, p1⟩, ⟨r0, r1⟩⟩ := HB.out w1 hq1)
   | fail)
 go_wp2_with fail
 refine bodyPost_ret (v := .tuple #[.agg #[.int .i64 k, .int .i64 q, .slice a2 (l.length - 1) cap2], .agg #[.int .i64 0, .slice none 0 0]]) (by simp [results, Tryz.results48, go_sem, hwq, m0, m1, m2, p0, p1, World.cell?_setCell_other]) rfl ?_
 apply HPost.out
 unfold HeadK
 rw [Hr.out]
 generalize hWf : World.setCell _ _ _ = Wf
 have hs : Only [w.heap.size + 1, w.heap.size + 1 + 1] w1 Wf := by
  rw [← hWf]
  exact (((((Only.refl _ _).setCell (by simp) _).setCell (by simp) _).setCell (by simp) _).setCell (by simp) _).setCell (by simp) _
 refine ⟨(hO.drew.q hq1).trans hs (by simp) (fun g hg hlt => ?_), _, ?_, (hown1.ints.only hs (fun g hg => ?_)).mono ?_ hs.size⟩
 ·simp only [List.mem_cons, List.not_mem_nil, or_false] at hg; omega
 ·rw [← Hq.out]
 ·simp only [List.mem_cons, List.not_mem_nil, or_false] at hg
  left; show g < W3.heap.size; omega
 ·show w.heap.size ≤ W3.heap.size; omega
theorem qReadK0 {p : Prop} (h : p := by
 go_enter Tryz.func48, Tryz.ntmps48
 go_wp2_with (go_at_call 22; refine (fail_eq _ _).mono ?_; rintro e w' ⟨rfl, rfl⟩)
 exact bodyPost_ret (v := .tuple #[.agg #[.int .i64 0, .int .i64 0, .slice none 0 0], .agg #[.int .i64 13, .slice none 0 0]]) (by simp [results, Tryz.results48, go_sem]) rfl (HeadK.err Hr.out ((HQ.out _ _ _).alloc _) rfl)) : p := h
theorem kread_any {lo hi : Nat} {k : Int} {dv : Value} {l : List Int} {w : World} (h : Ints .u8 lo hi w dv l) (hlen : l.length ≤ 140737488355328) :
  Calls Tryz.prog 48 #[.agg #[.int .i64 k, dv]] w (HeadK w ⟨k, l⟩) := by
 obtain ⟨a, cap, rfl, hcap, hmax, hat, hcell⟩ := h.open
 have hcm : (cap : Int) ≤ 9223372036854775807 := by unfold maxLen at hmax; omega
 have HQ := lh (fun o o' o'' => (((Only.new w o).q (Only.new _ o')).q (Only.new _ o'')))
 have Hh := lh h
 have Hat := lh hat
 have Hcell := lh hcell
 clear h hat hcell hmax
 by_cases hk1 : k < 1
 ·have Hr := lh (readB_13 (l := l) (.inl hk1))
  exact qReadK0
 by_cases hk4 : 4 < k
 ·have Hr := lh (readB_13 (l := l) (.inr hk4))
  exact qReadK0
 have hkB := kindB_of hk1 hk4
 by_cases hk2 : 2 < k
 ·have hbB := bareB_of hk4 hk2
  by_cases h0 : 0 < l.length
  ·have Hr : Hid (readB ⟨k, l⟩ = some 2) := lh (by simp [readB, hkB, hbB, h0])
   clear hkB hbB
   go_enter Tryz.func48, Tryz.ntmps48
   go_wp2_with (go_at_call 22; refine (fail_eq _ _).mono ?_; rintro e w' ⟨rfl, rfl⟩)
   exact bodyPost_ret (v := .tuple #[.agg #[.int .i64 0, .int .i64 0, .slice none 0 0], .agg #[.int .i64 2, .slice none 0 0]]) (by simp [results, Tryz.results48, go_sem]) rfl (HeadK.err Hr.out ((HQ.out _ _ _).alloc _) rfl)
  ·have hz : l = [] := List.eq_nil_of_length_eq_zero (by omega)
   have Hr : Hid (readB ⟨k, l⟩ = none) := lh (by simp [readB, hkB, hbB, hz])
   have Hz := lh hz
   clear hkB hbB hz
   go_enter Tryz.func48, Tryz.ntmps48
   go_wp2_with fail
   refine bodyPost_ret (v := .tuple #[.agg #[.int .i64 k, .int .i64 0, .slice none 0 0], .agg #[.int .i64 0, .slice none 0 0]]) (by simp [results, Tryz.results48, go_sem]) rfl ?_
   unfold HeadK
   rw [Hr.out, Hz.out]
   exact ⟨HQ.out _ _ _, _, rfl, Ints.nil _ _ _ _⟩
 ·have hbB := bareB_no hk2
  by_cases h0 : l.length = 0
  ·have hz : l = [] := List.eq_nil_of_length_eq_zero h0
   have h0i : ((l.length : Nat) : Int) = 0 := by omega
   have Hr : Hid (readB ⟨k, l⟩ = some 1) := lh (by simp [readB, hkB, hbB, hz])
   clear hkB hbB hz h0
   go_enter Tryz.func48, Tryz.ntmps48
   go_wp2_with (go_at_call 22; refine (fail_eq _ _).mono ?_; rintro e w' ⟨rfl, rfl⟩)
   exact bodyPost_ret (v := .tuple #[.agg #[.int .i64 0, .int .i64 0, .slice none 0 0], .agg #[.int .i64 1, .slice none 0 0]]) (by simp [results, Tryz.results48, go_sem]) rfl (HeadK.err Hr.out ((HQ.out _ _ _).alloc _) rfl)
  ·have hpos : 0 < l.length := by omega
   have h0b : (((l.length : Nat) : Int) == 0) = false := by rw [beq_eq_false_iff_ne]; omega
   have hpi : (0 : Int) < (l.length : Int) := by omega
   obtain ⟨b, off, rfl, _, _⟩ := Hat.out 0 hpos
   have c0 := Hcell.out b off rfl 0 hpos
   rw [Nat.add_zero] at c0
   have hx := Hh.out.range hpos
   unfold InK at hx
   have Hr3 := lh (readB_3 hkB hbB hpos)
   have Hr5 := lh (readB_5 hkB hbB hpos)
   have Hr0 := lh (readB_0 hkB hbB hpos)
   obtain ⟨a1, hsl, hI1⟩ := slice_from Hh.out hcap (i := 1) hpos (z := 1) rfl
   have HI1 := lh hI1
   have hl1 : (l.drop 1).length = l.length - 1 := by simp
   have Hl1 := lh hl1
   clear hkB hbB h0 hI1 hl1
   generalize hq : l.getD 0 0 = q at *
   have Hq := lh hq
   clear hq
   have c1 : ∀ o o' o'', (((w.alloc o).alloc o').alloc o'').cell? ⟨b, off, none⟩ = some (.int .u8 q) := fun o o' o'' => (HQ.out o o' o'').cell c0 (by simp)
   by_cases h15 : 15 < q
   ·have Hr := lh (Hr3.out h15)
    go_enter Tryz.func48, Tryz.ntmps48
    go_wp2_with (go_at_call 22; refine (fail_eq _ _).mono ?_; rintro e w' ⟨rfl, rfl⟩)
    exact bodyPost_ret (v := .tuple #[.agg #[.int .i64 0, .int .i64 0, .slice none 0 0], .agg #[.int .i64 3, .slice none 0 0]]) (by simp [results, Tryz.results48, go_sem]) rfl (HeadK.err Hr.out ((HQ.out _ _ _).alloc _) rfl)
   ·by_cases h5 : 65536 < l.length
    ·have Hr := lh (Hr5.out h15 h5)
     go_enter Tryz.func48, Tryz.ntmps48
     go_wp2_with (go_at_call 22; refine (fail_eq _ _).mono ?_; rintro e w' ⟨rfl, rfl⟩)
     exact bodyPost_ret (v := .tuple #[.agg #[.int .i64 0, .int .i64 0, .slice none 0 0], .agg #[.int .i64 5, .slice none 0 0]]) (by simp [results, Tryz.results48, go_sem]) rfl (HeadK.err Hr.out ((HQ.out _ _ _).alloc _) rfl)
    ·exact kread_good Hh.out hcap hcm hlen hk1 hk4 hk2 hpos Hq.out h15 h5 (Hr0.out h15 h5)
end Go.Proofs.YthgpgbdkcdmbpaaGreatDoor
