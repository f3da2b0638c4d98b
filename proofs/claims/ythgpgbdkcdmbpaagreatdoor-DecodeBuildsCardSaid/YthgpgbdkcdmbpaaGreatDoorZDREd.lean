/- The document's neighbours: kinref10.sample, Edges. Conditions: a frame that may be, a square in it. -/
import Derived.Test.YthgpgbdkcdmbpaaGreatDoorR1
import Derived.Test.YthgpgbdkcdmbpaaGreatDoorS5
namespace Go.Proofs.YthgpgbdkcdmbpaaGreatDoor
open Go.RowKit
set_option linter.unusedVariables false
set_option linter.unusedSimpArgs false
section
set_option maxRecDepth 100000
set_option maxHeartbeats 4000000
theorem qDREd1 {p : Prop} (h : p := by
 go_enter Tryz.func164, Tryz.ntmps164
 go_wp2_with fail
 go_ret
 exact ⟨ret_int HR.out.symm, HQ.out⟩) : p := h
theorem ksample_any {lo hi : Nat} {pv : Value} {w : World} {f : FrameD} (hok : FrOk f) (h : Ints .i64 lo hi w pv f.pix) (x y : Int) (hx : x < f.W) (hy : y < f.H) :
  Calls Tryz.prog 164 #[.agg #[.int .i64 f.W, .int .i64 f.H, pv], .int .i64 x, .int .i64 y] w fun e w' => e = .returned (.int .i64 (sampleD f x y)) ∧ Only [] w w' := by
 obtain ⟨a, cap, rfl, -⟩ := h.open
 have hq := Only.new w (.cells #[.int .i64 f.W, .int .i64 f.H, .slice a f.pix.length cap] 27)
 have HQ := Lib.hid hq
 by_cases hx0 : x < 0
 ·have HR : Hid (sampleD f x y = 128) := Lib.hid (by unfold sampleD; rw [if_pos (.inl hx0)])
  clear h hok hq
  exact qDREd1
 by_cases hy0 : y < 0
 ·have HR : Hid (sampleD f x y = 128) := Lib.hid (by unfold sampleD; rw [if_pos (.inr hy0)])
  clear h hok hq
  exact qDREd1
 have h1 : y * f.W ≤ (f.H - 1) * f.W := Int.mul_le_mul_of_nonneg_right (by omega) (by have := hok.w0; omega)
 have h2 : 0 ≤ y * f.W := Int.mul_nonneg (by omega) (by have := hok.w0; omega)
 have hlen := hok.len
 rw [Int.sub_mul, Int.one_mul, Int.mul_comm f.H f.W] at h1
 have h3 : f.W * f.H ≤ 32 * 32 := Int.mul_le_mul hok.w1 hok.h1 (by have := hok.h0; omega) (by omega)
 have HR : Hid (sampleD f x y = f.pix.getD (y * f.W + x).toNat 0) := Lib.hid (by unfold sampleD; rw [if_neg (by omega)])
 obtain ⟨b, off, cap', hv, -, -, hc⟩ := (h.quiet hq).at (i := (y * f.W + x).toNat) (by omega)
 injection hv with e1 e2 e3
 subst e1; subst e3
 generalize f.pix.getD (y * f.W + x).toNat 0 = v at *
 obtain ⟨M, hM⟩ : ∃ M, M = y * f.W := ⟨_, rfl⟩
 rw [← hM] at h1 h2 hc
 have n1 : IntKind.i64.wrap (y * f.W) = M := by rw [← hM, IntKind.wrap_i64]; omega
 have n2 : IntKind.i64.wrap (M + x) = M + x := by rw [IntKind.wrap_i64]; omega
 have t0 : 0 ≤ M + x := by omega
 have t1 : M + x < (f.pix.length : Int) := by omega
 clear h hok hq e2 hM h1 h2 h3 hlen
 exact qDREd1
theorem qDREd0 {p : Prop} (h : p := by
 have hk0 : (0 : Int) ≤ (k : Int) := by omega
 have HC1 := Lib.hid (HB.out wr (HQ1.out.q (HQ3.out.q HQk.out)) (x + (k : Int)) (y - 1) (by omega) (by omega))
 have HC2 := Lib.hid (fun wt (o : Only [] w3 wt) => HB.out wt (HQ1.out.q (HQ3.out.q o)) (x - 1) (y + (k : Int)) (by omega) (by omega))
 have hi1 := Hin.out (x + (k : Int)) (y - 1)
 have hi2 := Hin.out (x - 1) (y + (k : Int))
 have Hm1 := Lib.hid (rowE_more f x y k)
 have Hm2 := Lib.hid (colE_more f x y k)
 generalize sampleD f (x + (k : Int)) (y - 1) = p1 at *
 generalize sampleD f (x - 1) (y + (k : Int)) = p2 at *
 have hk1 : ∀ z ∈ [p1], InK .i64 z := by simp only [List.mem_singleton, forall_eq, InK]; omega
 have hk2 : ∀ z ∈ [p2], InK .i64 z := by simp only [List.mem_singleton, forall_eq, InK]; omega
 have hs1 := Lib.hid (fun (W : World) => ints_newG (k := .i64) (w := W) (t := 3) (l := [p1]) rfl (by simp [maxLen]) hk1 1 rfl rfl)
 have hs2 := Lib.hid (fun (W : World) => ints_newG (k := .i64) (w := W) (t := 3) (l := [p2]) rfl (by simp [maxLen]) hk2 1 rfl rfl)
 have hby1 := Lib.hid (show ((rowE f x y k).length + [p1].length) * 8 ≤ 140737488355328 by rw [hlt1]; simp; omega)
 have hby2 := Lib.hid (show ((colE f x y k).length + [p2].length) * 8 ≤ 140737488355328 by rw [hlt2]; simp; omega)
 have Hl1 : Hid ((rowE f x y k ++ [p1]).length = k + 1) := Lib.hid (by rw [List.length_append, hlt1]; rfl)
 have Hl2 : Hid ((colE f x y k ++ [p2]).length = k + 1) := Lib.hid (by rw [List.length_append, hlt2]; rfl)
 have nb1 : IntKind.i64.wrap (x + (k : Int)) = x + (k : Int) := by rw [IntKind.wrap_i64]; omega
 have nb2 : IntKind.i64.wrap (y + (k : Int)) = y + (k : Int) := by rw [IntKind.wrap_i64]; omega
 clear hlt1 hlt2 hi1 hi2 hk1 hk2
 go_wp2_with fail
 go_at_call 164
 refine HC1.out.mono ?_
 rintro e ws ⟨rfl, hqs⟩
 have HOts := Lib.hid (HOt.out.quiet hqs)
 have HOls := Lib.hid (HOl.out.quiet hqs)
 have HQs := Lib.hid (HQk.out.q hqs)
 have hba1 := Lib.hid (fun (o : Obj) => (show w3.heap.size ≤ (ws.alloc o).heap.size by have := (HQk.out.q hqs).size; simp; omega))
 clear hqs r0 r1 r2
 go_wp2_with (first
   | (at_builtin; refine wpList_append_ints rfl (.tmp 38) (.tmp 46) _ rfl EI (HOts.out.quiet (Only.new _ _)) rfl (hs1.out _) rfl hby1.out (hba1.out _) (fun v1 w4 hown1 ho1 => ?_); obtain ⟨x1, x1cap, hx1, _⟩ := hown1.ints.open; subst hx1; rw [Hl1.out] at hown1 ho1 ⊢; have HO1 := Lib.hid hown1; have HA1 := Lib.hid ho1; have hq4r := (HQ3.out.q ((HQs.out.q (Only.new ws (.cells #[.int .i64 p1] 3))).acc ho1 HFt.out)).row HR1.out; obtain ⟨r0, r1, r2⟩ := frame_cells hq4r; clear hown1 ho1 hq4r)
   | fail)
 have hn4 := Only.new ws (.cells #[.int .i64 p1] 3)
 have hq4 := (HQs.out.q hn4).acc HA1.out HFt.out
 have HQ4 := Lib.hid hq4
 have HOl4 := Lib.hid ((HOls.out.quiet hn4).accD HA1.out HSp.out)
 have HSp4 := Lib.hid (HA1.out.sepD HSp.out (fun g hg => ((HOls.out.quiet hn4).at g hg).2))
 have HFt4 := Lib.hid (HA1.out.from_ HFt.out (hba1.out _))
 clear hq4 hn4
 go_at_call 164
 refine (HC2.out _ HQ4.out).mono ?_
 rintro e wt ⟨rfl, hqt⟩
 have HO1t := Lib.hid (HO1.out.quiet hqt)
 have HOlt := Lib.hid (HOl4.out.quiet hqt)
 have HQt := Lib.hid (HQ4.out.q hqt)
 have hba2 := Lib.hid (fun (o : Obj) => (show w3.heap.size ≤ (wt.alloc o).heap.size by have := (HQ4.out.q hqt).size; simp; omega))
 clear hqt r0 r1 r2
 go_wp2_with (first
   | (at_builtin; refine wpList_append_ints rfl (.tmp 48) (.tmp 56) _ rfl EI (HOlt.out.quiet (Only.new _ _)) rfl (hs2.out _) rfl hby2.out (hba2.out _) (fun v1 w5 hown1 ho1 => ?_); obtain ⟨x1, x1cap, hx1, _⟩ := hown1.ints.open; subst hx1; rw [Hl2.out] at hown1 ho1 ⊢; have HO2 := Lib.hid hown1; have HA2 := Lib.hid ho1; clear hown1 ho1)
   | fail)
 refine ⟨⟨k + 1, by omega, by go_num, Lib.hid ?_, HFt4, Lib.hid ?_, Lib.hid (HA2.out.from_ HFl.out (hba2.out _)), Lib.hid ?_, Lib.hid ((HQt.out.q (Only.new _ _)).acc HA2.out HFl.out)⟩, by simp [intOf]; omega⟩
 ·rw [Hm1.out]; exact (HO1t.out.quiet (Only.new _ _)).accD HA2.out HSp4.out.symm
 ·rw [Hm2.out]; exact HO2.out
 ·exact (HA2.out.sepD HSp4.out.symm (fun g hg => ((HO1t.out.quiet (Only.new _ _)).at g hg).2)).symm) : p := h
theorem kedges_any {lo hi : Nat} {pv : Value} {w : World} {f : FrameD} (hok : FrOk f) (h : Ints .i64 lo hi w pv f.pix) (x y : Int) (n : Nat) (hn : n = 4 ∨ n = 8) (hx : 0 ≤ x) (hxn : x + n ≤ f.W) (hy : 0 ≤ y) (hyn : y + n ≤ f.H) : Calls Tryz.prog 135 #[.agg #[.int .i64 f.W, .int .i64 f.H, pv], .int .i64 x, .int .i64 y, .int .i64 n] w fun e w' => (∃ v1 v2, e = .returned (.tuple #[v1, v2, .int .i64 (sampleD f (x - 1) (y - 1))]) ∧ Own .i64 3 w.heap.size w' v1 (topD f x y n) ∧ Own .i64 3 w.heap.size w' v2 (leftD f x y n) ∧ Only [] w w') := by
 refine hidQ fun Q HPost => ?_
 obtain ⟨a, cap, rfl, -⟩ := h.open
 have HT : Hid (topD f x y n = rowE f x y n) := Lib.hid rfl
 have HL : Hid (leftD f x y n = colE f x y n) := Lib.hid rfl
 have Hin := Lib.hid (fun hx hy => sampleD_in hok.sam hx hy)
 have hq1 := Only.new w (.cells #[.int .i64 f.W, .int .i64 f.H, .slice a f.pix.length cap] 27)
 have HR1 : Hid ((w.alloc (.cells #[.int .i64 f.W, .int .i64 f.H, .slice a f.pix.length cap] 27)).heap[w.heap.size]? = some (.cells #[.int .i64 f.W, .int .i64 f.H, .slice a f.pix.length cap] 27 (0, 0))) := Lib.hid (heap_alloc_new w _)
 have HQ1 := Lib.hid hq1
 have hM := kmay_any f.W f.H (h.quiet hq1)
 rw [show mayF ⟨f.W, f.H, f.pix⟩ = true from mayF_iff.2 hok] at hM
 have HM := Lib.hid hM
 have HP := Lib.hid (fun (W : World) => klies_any f.W f.H x y n (.slice a f.pix.length cap) W ⟨hok.w0, hok.w1⟩ ⟨hok.h0, hok.h1⟩ (by omega))
 rw [show liesD f.W f.H x y n = true from by unfold liesD; rw [decide_eq_true_iff]; omega] at HP
 have HB := Lib.hid (fun (W : World) (o : Only [] w W) (px py : Int) (h1 : px < f.W) (h2 : py < f.H) => ksample_any hok (h.quiet o) px py h1 h2)
 have Hz1 : Hid ((w.alloc (.cells #[.int .i64 f.W, .int .i64 f.H, .slice a f.pix.length cap] 27)).heap.size = w.heap.size + 1) := Lib.hid (by simp)
 have hW := hok.w1
 have hH := hok.h1
 clear h hq1 hM hok
 rcases hn with rfl | rfl
 ·rw [show (((4 : Nat)) : Int) = 4 from rfl] at *
  go_enter Tryz.func135, Tryz.ntmps135
  go_wp2_with fail
  generalize hW1 : World.alloc w _ = W1 at *
  clear hW1
  go_at_call 30
  refine HM.out.mono ?_
  rintro e w2 ⟨rfl, hq2⟩
  obtain ⟨r0, r1, r2⟩ := frame_cells (hq2.row HR1.out)
  have HQ2 := Lib.hid hq2
  clear hq2
  go_wp2_with fail
  go_at_call 100
  refine (HP.out w2).mono ?_
  rintro e w3 ⟨rfl, hq3⟩
  have HQ3 := Lib.hid (HQ2.out.q hq3)
  have Hz3 := Lib.hid (show w.heap.size + 1 ≤ w3.heap.size by have := (HQ2.out.q hq3).size; have := Hz1.out; omega)
  clear hq3 r0 r1 r2 HQ2
  go_wp2_with fail
  go_loopw [13, 11, 12] (fun i t l wr => ∃ (k : Nat), k ≤ 4 ∧ i = .int .i64 k ∧ Hid (Own .i64 3 w3.heap.size wr t (rowE f x y k)) ∧ Hid (From w3.heap.size t) ∧ Hid (Own .i64 3 w3.heap.size wr l (colE f x y k)) ∧ Hid (From w3.heap.size l) ∧ Hid (SepD t l) ∧ Hid (Only [] w3 wr)) (fun i _ _ _ => 4 - (intOf i).toNat)
  case atStart => exact ⟨0, by omega, rfl, Lib.hid (Own.nil _ _ _ _), Lib.hid (From.nil _), Lib.hid (Own.nil _ _ _ _), Lib.hid (From.nil _), Lib.hid (SepD.nil _), Lib.hid (Only.refl _ _)⟩
  case round =>
   obtain ⟨k, hk, rfl, HOt, HFt, HOl, HFl, HSp, HQk⟩ := hrel
   have hlt1 := rowE_len f x y k
   have hlt2 := colE_len f x y k
   obtain ⟨ta, tcap, rfl, -⟩ := HOt.out.ints.open
   obtain ⟨la, lcap, rfl, -⟩ := HOl.out.ints.open
   rw [hlt1] at HOt HFt HSp ⊢
   rw [hlt2] at HOl HFl HSp ⊢
   have HRk := Lib.hid ((HQ3.out.q HQk.out).row HR1.out)
   obtain ⟨r0, r1, r2⟩ := frame_cells HRk.out
   by_cases hlt : k < 4
   ·have hki : (k : Int) < 4 := by omega
    exact qDREd0
   ·obtain rfl : k = 4 := by omega
    have hki : ¬ ((4 : Nat) : Int) < 4 := by omega
    have HC := Lib.hid (HB.out wr (HQ1.out.q (HQ3.out.q HQk.out)) (x - 1) (y - 1) (by omega) (by omega))
    clear hlt1 hlt2
    generalize sampleD f (x - 1) (y - 1) = p0 at *
    go_wp2_with fail
    go_at_call 164
    refine HC.out.mono ?_
    rintro e ws ⟨rfl, hqs⟩
    have HOts := Lib.hid (HOt.out.quiet hqs)
    have HOls := Lib.hid (HOl.out.quiet hqs)
    have HQs := Lib.hid (HQk.out.q hqs)
    clear hqs r0 r1 r2
    go_wp2_with fail
    refine bodyPost_ret (v := .tuple #[.slice ta 4 tcap, .slice la 4 lcap, .int .i64 p0]) (by simp [results, Tryz.results135, go_sem]) rfl (HPost.out _ _ ⟨_, _, rfl, ?_, ?_, (HQ1.out.q HQ3.out).q HQs.out⟩)
    ·rw [HT.out]; exact HOts.out.lower (by have := Hz3.out; omega)
    ·rw [HL.out]; exact HOls.out.lower (by have := Hz3.out; omega)
 ·rw [show (((8 : Nat)) : Int) = 8 from rfl] at *
  go_enter Tryz.func135, Tryz.ntmps135
  go_wp2_with fail
  generalize hW1 : World.alloc w _ = W1 at *
  clear hW1
  go_at_call 30
  refine HM.out.mono ?_
  rintro e w2 ⟨rfl, hq2⟩
  obtain ⟨r0, r1, r2⟩ := frame_cells (hq2.row HR1.out)
  have HQ2 := Lib.hid hq2
  clear hq2
  go_wp2_with fail
  go_at_call 100
  refine (HP.out w2).mono ?_
  rintro e w3 ⟨rfl, hq3⟩
  have HQ3 := Lib.hid (HQ2.out.q hq3)
  have Hz3 := Lib.hid (show w.heap.size + 1 ≤ w3.heap.size by have := (HQ2.out.q hq3).size; have := Hz1.out; omega)
  clear hq3 r0 r1 r2 HQ2
  go_wp2_with fail
  go_loopw [13, 11, 12] (fun i t l wr => ∃ (k : Nat), k ≤ 8 ∧ i = .int .i64 k ∧ Hid (Own .i64 3 w3.heap.size wr t (rowE f x y k)) ∧ Hid (From w3.heap.size t) ∧ Hid (Own .i64 3 w3.heap.size wr l (colE f x y k)) ∧ Hid (From w3.heap.size l) ∧ Hid (SepD t l) ∧ Hid (Only [] w3 wr)) (fun i _ _ _ => 8 - (intOf i).toNat)
  case atStart => exact ⟨0, by omega, rfl, Lib.hid (Own.nil _ _ _ _), Lib.hid (From.nil _), Lib.hid (Own.nil _ _ _ _), Lib.hid (From.nil _), Lib.hid (SepD.nil _), Lib.hid (Only.refl _ _)⟩
  case round =>
   obtain ⟨k, hk, rfl, HOt, HFt, HOl, HFl, HSp, HQk⟩ := hrel
   have hlt1 := rowE_len f x y k
   have hlt2 := colE_len f x y k
   obtain ⟨ta, tcap, rfl, -⟩ := HOt.out.ints.open
   obtain ⟨la, lcap, rfl, -⟩ := HOl.out.ints.open
   rw [hlt1] at HOt HFt HSp ⊢
   rw [hlt2] at HOl HFl HSp ⊢
   have HRk := Lib.hid ((HQ3.out.q HQk.out).row HR1.out)
   obtain ⟨r0, r1, r2⟩ := frame_cells HRk.out
   by_cases hlt : k < 8
   ·have hki : (k : Int) < 8 := by omega
    exact qDREd0
   ·obtain rfl : k = 8 := by omega
    have hki : ¬ ((8 : Nat) : Int) < 8 := by omega
    have HC := Lib.hid (HB.out wr (HQ1.out.q (HQ3.out.q HQk.out)) (x - 1) (y - 1) (by omega) (by omega))
    clear hlt1 hlt2
    generalize sampleD f (x - 1) (y - 1) = p0 at *
    go_wp2_with fail
    go_at_call 164
    refine HC.out.mono ?_
    rintro e ws ⟨rfl, hqs⟩
    have HOts := Lib.hid (HOt.out.quiet hqs)
    have HOls := Lib.hid (HOl.out.quiet hqs)
    have HQs := Lib.hid (HQk.out.q hqs)
    clear hqs r0 r1 r2
    go_wp2_with fail
    refine bodyPost_ret (v := .tuple #[.slice ta 8 tcap, .slice la 8 lcap, .int .i64 p0]) (by simp [results, Tryz.results135, go_sem]) rfl (HPost.out _ _ ⟨_, _, rfl, ?_, ?_, (HQ1.out.q HQ3.out).q HQs.out⟩)
    ·rw [HT.out]; exact HOts.out.lower (by have := Hz3.out; omega)
    ·rw [HL.out]; exact HOls.out.lower (by have := Hz3.out; omega)
end
end Go.Proofs.YthgpgbdkcdmbpaaGreatDoor
