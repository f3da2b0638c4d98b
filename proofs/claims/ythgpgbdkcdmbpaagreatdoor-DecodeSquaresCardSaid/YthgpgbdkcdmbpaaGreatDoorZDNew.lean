/- Joined texts: DNew. Conditions: each part names its own. -/
import Derived.Test.YthgpgbdkcdmbpaaGreatDoorC3
import Derived.Test.YthgpgbdkcdmbpaaGreatDoorK2
import Derived.Test.YthgpgbdkcdmbpaaGreatDoorK3
import Derived.Test.YthgpgbdkcdmbpaaGreatDoorZDLay
/- plane.New of good sides: a frame of one's own, of one shade. Conditions: those. -/
namespace Go.Proofs.YthgpgbdkcdmbpaaGreatDoor
open Go.RowKit
set_option linter.unusedVariables false
set_option linter.unusedSimpArgs false

set_option maxRecDepth 100000 in
set_option maxHeartbeats 4000000 in
theorem pnewD_any (W H V : Int) (w : World) (hn : newB W H V = true) : Calls Tryz.prog 32 #[.int .i64 W, .int .i64 H, .int .i64 V] w fun e w' => ∃ g cap, e = .returned (.tuple #[.agg #[.int .i64 W, .int .i64 H, .slice (some ⟨g, 0, none⟩) (newF W H V).pix.length cap], .nilIface]) ∧ Own .i64 3 w.heap.size w' (.slice (some ⟨g, 0, none⟩) (newF W H V).pix.length cap) (newF W H V).pix ∧ Only [] w w' := by
  suffices key : ∀ Q : Ending → World → Prop, Hid (∀ e w', (∃ g cap, e = .returned (.tuple #[.agg #[.int .i64 W, .int .i64 H, .slice (some ⟨g, 0, none⟩) (newF W H V).pix.length cap], .nilIface]) ∧ Own .i64 3 w.heap.size w' (.slice (some ⟨g, 0, none⟩) (newF W H V).pix.length cap) (newF W H V).pix ∧ Only [] w w') → Q e w') → Calls Tryz.prog 32 #[.int .i64 W, .int .i64 H, .int .i64 V] w Q from key _ (Lib.hid fun _ _ h => h)
  intro Q HPost
  unfold newB at hn
  rw [Bool.and_eq_true, Bool.and_eq_true] at hn
  obtain ⟨⟨hW, hH⟩, hV⟩ := hn
  have bW := of_decide_eq_true hW
  have bH := of_decide_eq_true hH
  have bV := of_decide_eq_true hV
  have HW := Lib.hid hW
  have HH := Lib.hid hH
  have HV := Lib.hid hV
  clear hW hH hV
  obtain ⟨W', rfl⟩ := Int.eq_ofNat_of_zero_le (by omega : 0 ≤ W)
  obtain ⟨H', rfl⟩ := Int.eq_ofNat_of_zero_le (by omega : 0 ≤ H)
  have hn : W' * H' ≤ 1024 := Nat.le_trans (Nat.mul_le_mul (by omega : W' ≤ 32) (by omega : H' ≤ 32)) (by decide)
  have hmul : (W' : Int) * (H' : Int) = ((W' * H' : Nat) : Int) := by rw [Int.natCast_mul]
  have HF : Hid ((newF W' H' V).pix = List.replicate (W' * H') V) := Lib.hid (by show List.replicate ((W' : Int) * (H' : Int)).toNat V = _; rw [hmul]; rfl)
  have HFl : Hid ((newF W' H' V).pix.length = W' * H') := Lib.hid (by rw [HF.out, List.length_replicate])
  rw [HFl.out] at HPost
  rw [HF.out] at HPost
  generalize hN : W' * H' = n at *
  clear hN bW bH
  have hin : InK .i64 V := by simp only [InK]; omega
  have Hin := Lib.hid hin
  clear hin bV
  have hmk := run_make_row' (P := Tryz.prog) 25 3 (.int .i64 0) 8 EI.ut (by kernel_rfl) rfl .i64 .i64 n (by omega) (by omega)
  go_enter Tryz.func32, Tryz.ntmps32
  go_wp2_with (first | (go_at_call 39; refine (side_any _ _).mono ?_; rintro e w' ⟨rfl, rfl⟩; (first | rw [HW.out] | rw [HH.out])) | (go_at_call 62; refine (sample_any _ _).mono ?_; rintro e w' ⟨rfl, rfl⟩; rw [HV.out]) | fail)
  clear hmk
  have HO : Hid (Own .i64 3 (w.heap.size + 1) (((w.alloc (.cells #[.int .i64 0, .int .i64 0, .slice none 0 0] 27)).alloc (.cells (madeCells #[.int .i64 0] n) 3)).alloc (.cells #[.int .i64 W', .int .i64 H', .slice (some ⟨w.heap.size + 1, 0, none⟩) n n] 27)) (.slice (some ⟨w.heap.size + 1, 0, none⟩) n n) (List.replicate n 0)) := Lib.hid (by
    have h0 := own_made .i64 3 (w.alloc (.cells #[.int .i64 0, .int .i64 0, .slice none 0 0] 27)) n (by simp [maxLen]; omega)
    have hz : (w.alloc (.cells #[.int .i64 0, .int .i64 0, .slice none 0 0] 27)).heap.size = w.heap.size + 1 := by simp
    rw [hz] at h0
    exact h0.quiet (Only.new _ _))
  have hO : Only [] w (((w.alloc (.cells #[.int .i64 0, .int .i64 0, .slice none 0 0] 27)).alloc (.cells (madeCells #[.int .i64 0] n) 3)).alloc (.cells #[.int .i64 W', .int .i64 H', .slice (some ⟨w.heap.size + 1, 0, none⟩) n n] 27)) := (((Only.refl _ _).alloc _).alloc _).alloc _
  have HA : Hid ((((w.alloc (.cells #[.int .i64 0, .int .i64 0, .slice none 0 0] 27)).alloc (.cells (madeCells #[.int .i64 0] n) 3)).alloc (.cells #[.int .i64 W', .int .i64 H', .slice (some ⟨w.heap.size + 1, 0, none⟩) n n] 27)).heap[w.heap.size]? = some (.cells #[.int .i64 0, .int .i64 0, .slice none 0 0] 27 (0, 0))) := Lib.hid (((Only.new (w.alloc _) _).alloc _).row (heap_alloc_new w _))
  have HB : Hid ((((w.alloc (.cells #[.int .i64 0, .int .i64 0, .slice none 0 0] 27)).alloc (.cells (madeCells #[.int .i64 0] n) 3)).alloc (.cells #[.int .i64 W', .int .i64 H', .slice (some ⟨w.heap.size + 1, 0, none⟩) n n] 27)).heap[w.heap.size + 1 + 1]? = some (.cells #[.int .i64 W', .int .i64 H', .slice (some ⟨w.heap.size + 1, 0, none⟩) n n] 27 (0, 0))) := Lib.hid (heap_alloc_new' (by simp))
  have HO0 := Lib.hid hO
  clear hO
  generalize hW3 : World.alloc (World.alloc (World.alloc w _) _) _ = W3 at *
  clear hW3
  obtain ⟨r0, r1, r2⟩ := frame_cells HB.out
  clear hmul
  go_wp2_with fail
  clear r0 r1 r2
  go_loopw [35, 9] (fun i _ wr => ∃ (k : Nat) (ys : List Int), k ≤ n ∧ i = .int .i64 k ∧ Hid (ys.length = n) ∧ Hid (ys.take k = (List.replicate n V).take k) ∧ Hid (Own .i64 3 (w.heap.size + 1) wr (.slice (some ⟨w.heap.size + 1, 0, none⟩) n n) ys) ∧ Hid (Only [w.heap.size + 1] W3 wr)) (fun i _ _ => n - (intOf i).toNat)
  case atStart => exact ⟨0, List.replicate n 0, by omega, rfl, Lib.hid (by simp), Lib.hid rfl, HO, Lib.hid (Only.refl _ _)⟩
  case round =>
    obtain ⟨k, ys, hk, rfl, Hyl, Htk, HOk, HQk⟩ := hrel
    obtain ⟨r0, r1, r2⟩ := frame_cells (HQk.out.rowAt HB.out (by simp))
    by_cases hlt : k < n
    · have hki : (k : Int) < (n : Int) := by omega
      have hk0 : (0 : Int) ≤ (k : Int) := by omega
      have cx := HOk.out.cellS Hyl.out.symm (i := k) (by rw [Hyl.out]; exact hlt)
      have fx := HOk.out.frzS Hyl.out.symm k
      generalize ys.getD k 0 = y at *
      obtain ⟨hs1, hs2⟩ := HOk.out.storeS Hyl.out.symm Hin.out k
      have HS1 := Lib.hid hs1
      have HS2 := Lib.hid hs2
      clear hs1 hs2
      go_wp2_with fail
      refine ⟨⟨k + 1, ys.set k V, by omega, by go_num, Lib.hid (by rw [List.length_set]; exact Hyl.out), Lib.hid (fill_step Htk.out (by rw [Hyl.out]; exact hlt) (by rw [Hyl.out, List.length_replicate]) ?_), HS1, Lib.hid (HQk.out.trans HS2.out (fun _ h _ => h) (fun _ h _ => h))⟩, by simp [intOf]; omega⟩
      rw [List.getD_eq_getElem?_getD, List.getElem?_replicate, if_pos hlt]; rfl
    · obtain rfl : k = n := by omega
      have hx : ¬ (k : Int) < (k : Int) := by omega
      have hAr := HQk.out.rowAt HA.out (by simp)
      obtain ⟨e0, e1, e2⟩ := frame_cells hAr
      have g0 : wr.frozen? ⟨w.heap.size, 0, none⟩ = false := frozen_of_row _ _ _ _ _ hAr
      have g1 : wr.frozen? ⟨w.heap.size, 1, none⟩ = false := frozen_of_row _ _ _ _ _ hAr
      have g2 : wr.frozen? ⟨w.heap.size, 2, none⟩ = false := frozen_of_row _ _ _ _ _ hAr
      clear hAr
      have hfin := fill_end (R := List.replicate k V) (by rw [Hyl.out]; exact Htk.out) (by rw [Hyl.out, List.length_replicate])
      subst hfin
      go_wp2_with fail
      have hset : Only [w.heap.size] wr (((wr.setCell ⟨w.heap.size, 0, none⟩ (.int .i64 W')).setCell ⟨w.heap.size, 1, none⟩ (.int .i64 H')).setCell ⟨w.heap.size, 2, none⟩ (.slice (some ⟨w.heap.size + 1, 0, none⟩) k k)) := (((Only.refl _ _).setCell (by simp) _).setCell (by simp) _).setCell (by simp) _
      have hA : Only [] w wr := HO0.out.trans HQk.out (by simp) (fun g hg hlt => absurd (List.mem_singleton.1 hg) (by omega))
      refine bodyPost_ret (v := .tuple #[.agg #[.int .i64 W', .int .i64 H', .slice (some ⟨w.heap.size + 1, 0, none⟩) k k], .nilIface]) (by simp [results, Tryz.results32, go_sem, e0, e1, e2, r0, r1, r2, World.cell?_setCell_other]) rfl (HPost.out _ _ ⟨w.heap.size + 1, k, rfl, ?_, hA.trans hset (by simp) (fun g hg hlt => absurd (List.mem_singleton.1 hg) (by omega))⟩)
      exact (HOk.out.only hset (fun g hg => by rw [List.mem_singleton] at hg; subst hg; simp [Value.ownBlock])).lower (by omega)
#print axioms pnewD_any
end Go.Proofs.YthgpgbdkcdmbpaaGreatDoor
