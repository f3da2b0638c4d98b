/- Joined texts: ReadG. Conditions: each part names its own. -/
import Derived.Test.YtmbjehnddgcboaaGreatDoorZOwnS
import Derived.Test.YtmbjehnddgcboaaGreatDoorC5
import Derived.Test.YtmbjehnddgcboaaGreatDoorC2
/- kinref20.Read tells what a coded frame carries, or why not. Conditions: the data reads. -/
namespace Go.Proofs.YtmbjehnddgcboaaGreatDoor
open Go.RowKit
set_option linter.unusedVariables false
set_option linter.unusedSimpArgs false

def HeadK (w : World) (c : Coded) (e : Ending) (w' : World) : Prop :=
  Only [] w w' ∧ match readB c with
    | some k => e = .returned (.tuple #[.agg #[.int .i64 0, .int .i64 0, .slice none 0 0], .agg #[.int .i64 k, .slice none 0 0]])
    | none => ∃ dv, e = .returned (.tuple #[.agg #[.int .i64 c.kind, .int .i64 (c.data.getD 0 0), dv], .agg #[.int .i64 0, .slice none 0 0]]) ∧ Ints .u8 w.heap.size w'.heap.size w' dv (c.data.drop 1)
theorem HeadK.err {w w' : World} {c : Coded} {k : Int} {e : Ending} (hk : readB c = some k) (ho : Only [] w w') (he : e = .returned (.tuple #[.agg #[.int .i64 0, .int .i64 0, .slice none 0 0], .agg #[.int .i64 k, .slice none 0 0]])) : HeadK w c e w' := by
  unfold HeadK; rw [hk]; exact ⟨ho, he⟩
theorem readB_13 {k : Int} {l : List Int} (h : k < 1 ∨ 4 < k) : readB ⟨k, l⟩ = some 13 := by
  have : kindB k = false := by unfold kindB; rw [decide_eq_false_iff_not]; omega
  simp [readB, this]
theorem kindB_of {k : Int} (h1 : ¬ k < 1) (h2 : ¬ 4 < k) : kindB k = true := by unfold kindB; rw [decide_eq_true_eq]; omega
theorem bareB_of {k : Int} (h2 : ¬ 4 < k) (h3 : 2 < k) : bareB k = true := by unfold bareB; rw [decide_eq_true_eq]; omega
theorem bareB_no {k : Int} (h3 : ¬ 2 < k) : bareB k = false := by unfold bareB; rw [decide_eq_false_iff_not]; omega

theorem fail_eq (c : Int) (w : World) : Calls Tryz.prog 36 #[.int .i64 c] w fun e w' => e = .returned (.agg #[.int .i64 c, .slice none 0 0]) ∧ w.alloc (.cells #[.int .i64 c, .slice none 0 0] 42) = w' := by
  go_enter Tryz.func36, Tryz.ntmps36
  go_wp2
  refine bodyPost_ret (v := .agg #[.int .i64 c, .slice none 0 0]) (by simp [results, Tryz.results36, go_sem]) rfl ⟨rfl, rfl⟩
theorem ok_eq (c : Int) (x : Value) (w : World) :
    Calls Tryz.prog 20 #[.agg #[.int .i64 c, x]] w fun e w' => e = .returned (.bool (c == 0)) ∧ w.alloc (.cells #[.int .i64 c, x] 42) = w' := by
  go_enter Tryz.func20, Tryz.ntmps20
  go_wp2
  go_ret
  exact ⟨rfl, rfl⟩

theorem Ints.open' {k : IntKind} {lo hi b off n cap : Nat} {w : World} {l : List Int} (h : Ints k lo hi w (.slice (some ⟨b, off, none⟩) n cap) l) (hp : 0 < l.length) : lo ≤ b ∧ w.cell? ⟨b, off, none⟩ = some (.int k (l.getD 0 0)) := by
  obtain ⟨b', off', cap', e, x, y, hc⟩ := h.at hp
  cases e
  exact ⟨x, by simpa using hc⟩
set_option maxRecDepth 100000 in
set_option maxHeartbeats 4000000 in
theorem kread_good {lo hi b off cap : Nat} {k q : Int} {l : List Int} {w : World} (h : Ints .u8 lo hi w (.slice (some ⟨b, off, none⟩) l.length cap) l) (hcap : l.length ≤ cap) (hcm : (cap : Int) ≤ 9223372036854775807) (hlen : l.length ≤ 140737488355328)
    (hk1 : ¬ k < 1) (hk4 : ¬ 4 < k) (hk2 : ¬ 2 < k) (hpos : 0 < l.length) (hq : l.getD 0 0 = q) (h15 : ¬ 15 < q) (h5 : ¬ 65536 < l.length) (hr : readB ⟨k, l⟩ = none) :
    Calls Tryz.prog 95 #[.agg #[.int .i64 k, .slice (some ⟨b, off, none⟩) l.length cap]] w (HeadK w ⟨k, l⟩) := by
  have HQ := Lib.hid (fun o o' o'' => (((Only.new w o).q (Only.new _ o')).q (Only.new _ o'')))
  have c0 := (h.open' hpos).2
  have hx := h.range hpos
  rw [hq] at c0 hx
  unfold InK at hx
  have Hh := Lib.hid h
  have Hq := Lib.hid hq
  obtain ⟨a1, hsl, hI1⟩ := slice_from h hcap (i := 1) hpos (z := 1) rfl
  have HI1 := Lib.hid hI1
  have Hl1 : Hid ((l.drop 1).length = l.length - 1) := Lib.hid (by simp)
  have h0b : (((l.length : Nat) : Int) == 0) = false := by rw [beq_eq_false_iff_ne]; omega
  have hpi : (0 : Int) < (l.length : Int) := by omega
  have c1 : ∀ o o' o'', (((w.alloc o).alloc o').alloc o'').cell? ⟨b, off, none⟩ = some (.int .u8 q) := fun o o' o'' => (HQ.out o o' o'').cell c0 (by simp)
  clear h hI1 hq
  have Hr := Lib.hid hr
  suffices key : ∀ Q : Ending → World → Prop, Hid (∀ e w', HeadK w ⟨k, l⟩ e w' → Q e w') → Calls Tryz.prog 95 #[.agg #[.int .i64 k, .slice (some ⟨b, off, none⟩) l.length cap]] w Q from key _ (Lib.hid fun _ _ h => h)
  intro Q HPost
  go_enter Tryz.func95, Tryz.ntmps95
  go_wp2_with fail
  clear c1
  generalize hW : ((w.alloc _).alloc _).alloc _ = W3
  have hO : Only [] w W3 := by rw [← hW]; exact HQ.out _ _ _
  have hz3 : W3.heap.size = w.heap.size + 3 := by rw [← hW]; simp
  have rA : W3.heap[w.heap.size]? = some (.cells #[.int .i64 k, .slice (some ⟨b, off, none⟩) l.length cap] 71 (0, 0)) := by
    rw [← hW, Below.heap_alloc _ _ _ (by simp; omega), Below.heap_alloc _ _ _ (by simp)]; exact heap_alloc_new _ _
  have rB : W3.heap[w.heap.size + 1]? = some (.cells #[.int .i64 0, .int .i64 0, .slice none 0 0] 185 (0, 0)) := by
    rw [← hW, Below.heap_alloc _ _ _ (by simp)]; exact heap_alloc_new' (by simp)
  have rC : W3.heap[w.heap.size + 1 + 1]? = some (.cells #[.int .i64 0, .slice none 0 0] 42 (0, 0)) := by
    rw [← hW]; exact heap_alloc_new' (by simp)
  clear hW
  have f0 : W3.cell? ⟨w.heap.size, 0, none⟩ = some (.int .i64 k) := by rw [cell_of_row _ _ _ _ _ _ rA]; rfl
  have f1 : W3.cell? ⟨w.heap.size, 1, none⟩ = some (.slice (some ⟨b, off, none⟩) l.length cap) := by rw [cell_of_row _ _ _ _ _ _ rA]; rfl
  have f2 : W3.cell? ⟨b, off, none⟩ = some (.int .u8 q) := hO.cell c0 (by simp)
  have hwq : IntKind.i64.wrap q = q := by simp [IntKind.wrap, IntKind.bits, IntKind.signed]; omega
  have hI3 := HI1.out.quiet hO
  have hB : ∀ w1, Only [] W3.drew w1 → (w1.cell? ⟨w.heap.size + 1, 0, none⟩ = some (.int .i64 0) ∧ w1.cell? ⟨w.heap.size + 1, 1, none⟩ = some (.int .i64 0) ∧ w1.cell? ⟨w.heap.size + 1, 2, none⟩ = some (.slice none 0 0)) ∧
      (w1.frozen? ⟨w.heap.size + 1, 0, none⟩ = false ∧ w1.frozen? ⟨w.heap.size + 1, 1, none⟩ = false ∧ w1.frozen? ⟨w.heap.size + 1, 2, none⟩ = false) ∧
      (w1.cell? ⟨w.heap.size + 1 + 1, 0, none⟩ = some (.int .i64 0) ∧ w1.cell? ⟨w.heap.size + 1 + 1, 1, none⟩ = some (.slice none 0 0)) ∧ (w1.frozen? ⟨w.heap.size + 1 + 1, 0, none⟩ = false ∧ w1.frozen? ⟨w.heap.size + 1 + 1, 1, none⟩ = false) := by
    intro w1 o
    have r1 := ((Only.refl [] W3).drew.q o).row rB
    have r2 := ((Only.refl [] W3).drew.q o).row rC
    refine ⟨⟨?_, ?_, ?_⟩, ⟨?_, ?_, ?_⟩, ⟨?_, ?_⟩, ?_, ?_⟩
    · rw [cell_of_row _ _ _ _ _ _ r1]; rfl
    · rw [cell_of_row _ _ _ _ _ _ r1]; rfl
    · rw [cell_of_row _ _ _ _ _ _ r1]; rfl
    · exact frozen_of_row _ _ _ _ _ r1
    · exact frozen_of_row _ _ _ _ _ r1
    · exact frozen_of_row _ _ _ _ _ r1
    · rw [cell_of_row _ _ _ _ _ _ r2]; rfl
    · rw [cell_of_row _ _ _ _ _ _ r2]; rfl
    · exact frozen_of_row _ _ _ _ _ r2
    · exact frozen_of_row _ _ _ _ _ r2
  have HB := Lib.hid hB
  have hbw : b < w.heap.size := block_lt_of_cell c0
  have hbA1 : (w.heap.size + 1 = w.heap.size) = False := by simp
  have hbA2 : (w.heap.size + 1 + 1 = w.heap.size) = False := eq_false (by omega)
  have hbn2 : (w.heap.size + 1 = b) = False := eq_false (by omega)
  have hbn4 : (w.heap.size + 1 + 1 = b) = False := eq_false (by omega)
  have hcp : Calls Tryz.prog 5 #[.slice a1 (l.length - 1) (cap - 1)] W3.drew (fun e w' => ∃ a2 cap2, e = .returned (.slice a2 (l.length - 1) cap2) ∧ Own .u8 5 W3.drew.heap.size w' (.slice a2 (l.length - 1) cap2) (l.drop 1) ∧ Only [] W3.drew w') := by
    refine (copyb_any (w := W3.drew) (hI3.quiet (Only.refl [] W3).drew) (by rw [Hl1.out]; omega)).mono ?_
    rintro e w1 ⟨v1, rfl, ho, hq⟩
    obtain ⟨a2, cap2, hv, _⟩ := ho.ints.open
    rw [Hl1.out] at hv
    subst hv
    exact ⟨a2, cap2, rfl, ho, hq⟩
  have Hc := Lib.hid hcp
  clear hcp
  clear rA rB rC hB hI3 c0
  go_region_held3 (fun w' => w'.cell? ⟨w.heap.size, 0, none⟩ = some (.int .i64 k) ∧ w'.cell? ⟨w.heap.size, 1, none⟩ = some (.slice (some ⟨b, off, none⟩) l.length cap) ∧ w'.cell? ⟨b, off, none⟩ = some (.int .u8 q))
    (first
      | (simp only [World.cell?_setCell_far, ne_eq, hbA1, hbA2, hbn2, hbn4, not_false_eq_true]; go_split_ands; refine ⟨?_, ?_, ?_⟩ <;> assumption)
      | (go_split_ands; with_reducible refine ⟨hq1.cell (by assumption) (by simp), hq1.cell (by assumption) (by simp), hq1.cell (by assumption) (by simp)⟩)
      | (simp [*, World.cell?_alloc_some, World.cell?_setCell_far, frozen?_alloc_cells, frozen_drew, World.frozen?_setCell])
      | fail)
    (first
      | (go_at_call 5; refine Hc.out.mono ?_; rintro e w1 ⟨a2, cap2, rfl, hown1, hq1⟩; obtain ⟨⟨m0, m1, m2⟩, ⟨n0, n1, n2⟩, ⟨p0, p1⟩, ⟨r0, r1⟩⟩ := HB.out w1 hq1)
      | fail)
  go_wp2_with fail
  refine bodyPost_ret (v := .tuple #[.agg #[.int .i64 k, .int .i64 q, .slice a2 (l.length - 1) cap2], .agg #[.int .i64 0, .slice none 0 0]]) (by simp [results, Tryz.results95, go_sem, hwq, m0, m1, m2, p0, p1, World.cell?_setCell_other]) rfl ?_
  apply HPost.out
  unfold HeadK
  rw [Hr.out]
  generalize hWf : World.setCell _ _ _ = Wf
  have hs : Only [w.heap.size + 1, w.heap.size + 1 + 1] w1 Wf := by
    rw [← hWf]
    exact (((((Only.refl _ _).setCell (by simp) _).setCell (by simp) _).setCell (by simp) _).setCell (by simp) _).setCell (by simp) _
  refine ⟨(hO.drew.q hq1).trans hs (by simp) (fun g hg hlt => ?_), _, ?_, (hown1.ints.only hs (fun g hg => ?_)).mono ?_ hs.size⟩
  · simp only [List.mem_cons, List.not_mem_nil, or_false] at hg; omega
  · rw [← Hq.out]
  · simp only [List.mem_cons, List.not_mem_nil, or_false] at hg
    left; show g < W3.heap.size; omega
  · show w.heap.size ≤ W3.heap.size; omega
end Go.Proofs.YtmbjehnddgcboaaGreatDoor
