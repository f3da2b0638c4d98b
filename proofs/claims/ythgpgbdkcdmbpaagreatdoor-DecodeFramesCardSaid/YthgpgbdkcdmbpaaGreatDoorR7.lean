/- Joined texts: DREd, DRPd. Conditions: each part names its own. -/
import Derived.Test.YthgpgbdkcdmbpaaGreatDoorT1
import Derived.Test.YthgpgbdkcdmbpaaGreatDoorR1
import Derived.Test.YthgpgbdkcdmbpaaGreatDoorS5
import Derived.Test.YthgpgbdkcdmbpaaGreatDoorR2
namespace Go.Proofs.YthgpgbdkcdmbpaaGreatDoor
open Go.RowKit
set_option linter.unusedVariables false
set_option linter.unusedSimpArgs false
set_option maxRecDepth 100000
set_option maxHeartbeats 16000000
section
theorem qDREd1 {p : Prop} (h : p := by
 go_enter Tryz.func164, Tryz.ntmps164
 go_wp2_with fail
 go_ret
 exact ⟨ret_int HR.out.symm, HQ.out⟩) : p := h
theorem ksample_any {lo hi : Nat} {pv : Value} {w : World} {f : FrameD} (hok : FrOk f) (h : Ints .i64 lo hi w pv f.pix) (x y : Int) (hx : x < f.W) (hy : y < f.H) :
  Calls Tryz.prog 164 #[.agg #[.int .i64 f.W, .int .i64 f.H, pv], .int .i64 x, .int .i64 y] w fun e w' => e = .returned (.int .i64 (sampleD f x y)) ∧ Only [] w w' := by
 obtain ⟨a, cap, rfl, -⟩ := h.open
 have hq := Only.new w (.cells #[.int .i64 f.W, .int .i64 f.H, .slice a f.pix.length cap] 27)
 have HQ := lh hq
 by_cases hx0 : x < 0
 ·have HR : Hid (sampleD f x y = 128) := lh (by unfold sampleD; rw [if_pos (.inl hx0)])
  clear h hok hq
  exact qDREd1
 by_cases hy0 : y < 0
 ·have HR : Hid (sampleD f x y = 128) := lh (by unfold sampleD; rw [if_pos (.inr hy0)])
  clear h hok hq
  exact qDREd1
 have h1 : y * f.W ≤ (f.H - 1) * f.W := Int.mul_le_mul_of_nonneg_right (by omega) (by have := hok.w0; omega)
 have h2 : 0 ≤ y * f.W := Int.mul_nonneg (by omega) (by have := hok.w0; omega)
 have hlen := hok.len
 rw [Int.sub_mul, Int.one_mul, Int.mul_comm f.H f.W] at h1
 have h3 : f.W * f.H ≤ 32 * 32 := Int.mul_le_mul hok.w1 hok.h1 (by have := hok.h0; omega) (by omega)
 have HR : Hid (sampleD f x y = f.pix.getD (y * f.W + x).toNat 0) := lh (by unfold sampleD; rw [if_neg (by omega)])
 obtain ⟨b, off, cap', hv, -, -, hc⟩ := (h.quiet hq).at (i := (y * f.W + x).toNat) (by omega)
 injection hv with e1 e2 e3
 subst e1; subst e3
 generalize f.pix.getD (y * f.W + x).toNat 0 = v at *
 obtain ⟨M, hM⟩ : ∃ M, M = y * f.W := ⟨_, rfl⟩
 rw [← hM] at h1 h2 hc
 have n1 : IntKind.i64.wrap (y * f.W) = M := by rw [← hM, IntKind.wrap_i64]; omega
 have n2 : IntKind.i64.wrap (M + x) = M + x := by rw [IntKind.wrap_i64]; omega
 have t0 : 0 ≤ M + x := by omega
 have t1 : M + x < (f.pix.length : Int) := by omega
 clear h hok hq e2 hM h1 h2 h3 hlen
 exact qDREd1
theorem qDREd0 {p : Prop} (h : p := by
 have hk0 : (0 : Int) ≤ (k : Int) := by omega
 have HC1 := lh (HB.out wr (HQ1.out.q (HQ3.out.q HQk.out)) (x + (k : Int)) (y - 1) (by omega) (by omega))
 have HC2 := lh (fun wt (o : Only [] w3 wt) => HB.out wt (HQ1.out.q (HQ3.out.q o)) (x - 1) (y + (k : Int)) (by omega) (by omega))
 have hi1 := Hin.out (x + (k : Int)) (y - 1)
 have hi2 := Hin.out (x - 1) (y + (k : Int))
 have Hm1 := lh (rowE_more f x y k)
 have Hm2 := lh (colE_more f x y k)
 generalize sampleD f (x + (k : Int)) (y - 1) = p1 at *
 generalize sampleD f (x - 1) (y + (k : Int)) = p2 at *
 have hk1 : ∀ z ∈ [p1], InK .i64 z := by simp only [mSg, forall_eq, InK]; omega
 have hk2 : ∀ z ∈ [p2], InK .i64 z := by simp only [mSg, forall_eq, InK]; omega
 have hs1 := lh (fun (W : World) => ints_newG (k := .i64) (w := W) (t := 3) (l := [p1]) rfl (by simp [maxLen]) hk1 1 rfl rfl)
 have hs2 := lh (fun (W : World) => ints_newG (k := .i64) (w := W) (t := 3) (l := [p2]) rfl (by simp [maxLen]) hk2 1 rfl rfl)
 have hby1 := lh (show ((rowE f x y k).length + [p1].length) * 8 ≤ 140737488355328 by rw [hlt1]; simp; omega)
 have hby2 := lh (show ((colE f x y k).length + [p2].length) * 8 ≤ 140737488355328 by rw [hlt2]; simp; omega)
 have Hl1 : Hid ((rowE f x y k ++ [p1]).length = k + 1) := lh (by rw [List.length_append, hlt1]; rfl)
 have Hl2 : Hid ((colE f x y k ++ [p2]).length = k + 1) := lh (by rw [List.length_append, hlt2]; rfl)
 have nb1 : IntKind.i64.wrap (x + (k : Int)) = x + (k : Int) := by rw [IntKind.wrap_i64]; omega
 have nb2 : IntKind.i64.wrap (y + (k : Int)) = y + (k : Int) := by rw [IntKind.wrap_i64]; omega
 clear hlt1 hlt2 hi1 hi2 hk1 hk2
 go_wp2_with fail
 go_at_call 164
 refine HC1.out.mono ?_
 rintro e ws ⟨rfl, hqs⟩
 have HOts := lh (HOt.out.quiet hqs)
 have HOls := lh (HOl.out.quiet hqs)
 have HQs := lh (HQk.out.q hqs)
 have hba1 := lh (fun (o : Obj) => (show w3.heap.size ≤ (ws.alloc o).heap.size by have := (HQk.out.q hqs).size; simp; omega))
 clear hqs r0 r1 r2
 go_wp2_with (first
   | (at_builtin; refine wpList_append_ints rfl (.tmp 38) (.tmp 46) _ rfl EI (HOts.out.quiet (Only.new _ _)) rfl (hs1.out _) rfl hby1.out (hba1.out _) (fun v1 w4 hown1 ho1 => ?_); obtain ⟨x1, x1cap, hx1, _⟩ := hown1.ints.open; subst hx1; rw [Hl1.out] at hown1 ho1 ⊢; have HO1 := lh hown1; have HA1 := lh ho1; have hq4r := (HQ3.out.q ((HQs.out.q (Only.new ws (.cells #[.int .i64 p1] 3))).acc ho1 HFt.out)).row HR1.out; obtain ⟨r0, r1, r2⟩ := frame_cells hq4r; clear hown1 ho1 hq4r)
   | fail)
 have hn4 := Only.new ws (.cells #[.int .i64 p1] 3)
 have hq4 := (HQs.out.q hn4).acc HA1.out HFt.out
 have HQ4 := lh hq4
 have HOl4 := lh ((HOls.out.quiet hn4).accD HA1.out HSp.out)
 have HSp4 := lh (HA1.out.sepD HSp.out (fun g hg => ((HOls.out.quiet hn4).at g hg).2))
 have HFt4 := lh (HA1.out.from_ HFt.out (hba1.out _))
 clear hq4 hn4
 go_at_call 164
 refine (HC2.out _ HQ4.out).mono ?_
 rintro e wt ⟨rfl, hqt⟩
 have HO1t := lh (HO1.out.quiet hqt)
 have HOlt := lh (HOl4.out.quiet hqt)
 have HQt := lh (HQ4.out.q hqt)
 have hba2 := lh (fun (o : Obj) => (show w3.heap.size ≤ (wt.alloc o).heap.size by have := (HQ4.out.q hqt).size; simp; omega))
 clear hqt r0 r1 r2
 go_wp2_with (first
   | (at_builtin; refine wpList_append_ints rfl (.tmp 48) (.tmp 56) _ rfl EI (HOlt.out.quiet (Only.new _ _)) rfl (hs2.out _) rfl hby2.out (hba2.out _) (fun v1 w5 hown1 ho1 => ?_); obtain ⟨x1, x1cap, hx1, _⟩ := hown1.ints.open; subst hx1; rw [Hl2.out] at hown1 ho1 ⊢; have HO2 := lh hown1; have HA2 := lh ho1; clear hown1 ho1)
   | fail)
 refine ⟨⟨k + 1, by omega, by go_num, lh ?_, HFt4, lh ?_, lh (HA2.out.from_ HFl.out (hba2.out _)), lh ?_, lh ((HQt.out.q (Only.new _ _)).acc HA2.out HFl.out)⟩, by simp [intOf]; omega⟩
 ·rw [Hm1.out]; exact (HO1t.out.quiet (Only.new _ _)).accD HA2.out HSp4.out.symm
 ·rw [Hm2.out]; exact HO2.out
 ·exact (HA2.out.sepD HSp4.out.symm (fun g hg => ((HO1t.out.quiet (Only.new _ _)).at g hg).2)).symm) : p := h
theorem kedges_any {lo hi : Nat} {pv : Value} {w : World} {f : FrameD} (hok : FrOk f) (h : Ints .i64 lo hi w pv f.pix) (x y : Int) (n : Nat) (hn : n = 4 ∨ n = 8) (hx : 0 ≤ x) (hxn : x + n ≤ f.W) (hy : 0 ≤ y) (hyn : y + n ≤ f.H) : Calls Tryz.prog 135 #[.agg #[.int .i64 f.W, .int .i64 f.H, pv], .int .i64 x, .int .i64 y, .int .i64 n] w fun e w' => (∃ v1 v2, e = .returned (.tuple #[v1, v2, .int .i64 (sampleD f (x - 1) (y - 1))]) ∧ Own .i64 3 w.heap.size w' v1 (topD f x y n) ∧ Own .i64 3 w.heap.size w' v2 (leftD f x y n) ∧ Only [] w w') := by
 refine hidQ fun Q HPost => ?_
 obtain ⟨a, cap, rfl, -⟩ := h.open
 have HT : Hid (topD f x y n = rowE f x y n) := lh rfl
 have HL : Hid (leftD f x y n = colE f x y n) := lh rfl
 have Hin := lh (fun hx hy => sampleD_in hok.sam hx hy)
 have hq1 := Only.new w (.cells #[.int .i64 f.W, .int .i64 f.H, .slice a f.pix.length cap] 27)
 have HR1 : Hid ((w.alloc (.cells #[.int .i64 f.W, .int .i64 f.H, .slice a f.pix.length cap] 27)).heap[w.heap.size]? = some (.cells #[.int .i64 f.W, .int .i64 f.H, .slice a f.pix.length cap] 27 (0, 0))) := lh (heap_alloc_new w _)
 have HQ1 := lh hq1
 have hM := kmay_any f.W f.H (h.quiet hq1)
 rw [show mayF ⟨f.W, f.H, f.pix⟩ = true from mayF_iff.2 hok] at hM
 have HM := lh hM
 have HP := lh (fun (W : World) => klies_any f.W f.H x y n (.slice a f.pix.length cap) W ⟨hok.w0, hok.w1⟩ ⟨hok.h0, hok.h1⟩ (by omega))
 rw [show liesD f.W f.H x y n = true from by unfold liesD; rw [decide_eq_true_iff]; omega] at HP
 have HB := lh (fun (W : World) (o : Only [] w W) (px py : Int) (h1 : px < f.W) (h2 : py < f.H) => ksample_any hok (h.quiet o) px py h1 h2)
 have Hz1 : Hid ((w.alloc (.cells #[.int .i64 f.W, .int .i64 f.H, .slice a f.pix.length cap] 27)).heap.size = w.heap.size + 1) := lh (by simp)
 have hW := hok.w1
 have hH := hok.h1
 clear h hq1 hM hok
 rcases hn with rfl | rfl
 ·rw [show (((4 : Nat)) : Int) = 4 from rfl] at *
  go_enter Tryz.func135, Tryz.ntmps135
  go_wp2_with fail
  generalize hW1 : World.alloc w _ = W1 at *
  clear hW1
  go_at_call 30
  refine HM.out.mono ?_
  rintro e w2 ⟨rfl, hq2⟩
  obtain ⟨r0, r1, r2⟩ := frame_cells (hq2.row HR1.out)
  have HQ2 := lh hq2
  clear hq2
  go_wp2_with fail
  go_at_call 100
  refine (HP.out w2).mono ?_
  rintro e w3 ⟨rfl, hq3⟩
  have HQ3 := lh (HQ2.out.q hq3)
  have Hz3 := lh (show w.heap.size + 1 ≤ w3.heap.size by have := (HQ2.out.q hq3).size; have := Hz1.out; omega)
  clear hq3 r0 r1 r2 HQ2
  go_wp2_with fail
  go_loopw [13, 11, 12] (fun i t l wr => ∃ (k : Nat), k ≤ 4 ∧ i = .int .i64 k ∧ Hid (Own .i64 3 w3.heap.size wr t (rowE f x y k)) ∧ Hid (From w3.heap.size t) ∧ Hid (Own .i64 3 w3.heap.size wr l (colE f x y k)) ∧ Hid (From w3.heap.size l) ∧ Hid (SepD t l) ∧ Hid (Only [] w3 wr)) (fun i _ _ _ => 4 - (intOf i).toNat)
  case atStart => exact ⟨0, by omega, rfl, lh (Own.nil _ _ _ _), lh (From.nil _), lh (Own.nil _ _ _ _), lh (From.nil _), lh (SepD.nil _), lh (Only.refl _ _)⟩
  case round =>
   obtain ⟨k, hk, rfl, HOt, HFt, HOl, HFl, HSp, HQk⟩ := hrel
   have hlt1 := rowE_len f x y k
   have hlt2 := colE_len f x y k
   obtain ⟨ta, tcap, rfl, -⟩ := HOt.out.ints.open
   obtain ⟨la, lcap, rfl, -⟩ := HOl.out.ints.open
   rw [hlt1] at HOt HFt HSp ⊢
   rw [hlt2] at HOl HFl HSp ⊢
   have HRk := lh ((HQ3.out.q HQk.out).row HR1.out)
   obtain ⟨r0, r1, r2⟩ := frame_cells HRk.out
   by_cases hlt : k < 4
   ·have hki : (k : Int) < 4 := by omega
    exact qDREd0
   ·obtain rfl : k = 4 := by omega
    have hki : ¬ ((4 : Nat) : Int) < 4 := by omega
    have HC := lh (HB.out wr (HQ1.out.q (HQ3.out.q HQk.out)) (x - 1) (y - 1) (by omega) (by omega))
    clear hlt1 hlt2
    generalize sampleD f (x - 1) (y - 1) = p0 at *
    go_wp2_with fail
    go_at_call 164
    refine HC.out.mono ?_
    rintro e ws ⟨rfl, hqs⟩
    have HOts := lh (HOt.out.quiet hqs)
    have HOls := lh (HOl.out.quiet hqs)
    have HQs := lh (HQk.out.q hqs)
    clear hqs r0 r1 r2
    go_wp2_with fail
    refine bodyPost_ret (v := .tuple #[.slice ta 4 tcap, .slice la 4 lcap, .int .i64 p0]) (by simp [results, Tryz.results135, go_sem]) rfl (HPost.out _ _ ⟨_, _, rfl, ?_, ?_, (HQ1.out.q HQ3.out).q HQs.out⟩)
    ·rw [HT.out]; exact HOts.out.lower (by have := Hz3.out; omega)
    ·rw [HL.out]; exact HOls.out.lower (by have := Hz3.out; omega)
 ·rw [show (((8 : Nat)) : Int) = 8 from rfl] at *
  go_enter Tryz.func135, Tryz.ntmps135
  go_wp2_with fail
  generalize hW1 : World.alloc w _ = W1 at *
  clear hW1
  go_at_call 30
  refine HM.out.mono ?_
  rintro e w2 ⟨rfl, hq2⟩
  obtain ⟨r0, r1, r2⟩ := frame_cells (hq2.row HR1.out)
  have HQ2 := lh hq2
  clear hq2
  go_wp2_with fail
  go_at_call 100
  refine (HP.out w2).mono ?_
  rintro e w3 ⟨rfl, hq3⟩
  have HQ3 := lh (HQ2.out.q hq3)
  have Hz3 := lh (show w.heap.size + 1 ≤ w3.heap.size by have := (HQ2.out.q hq3).size; have := Hz1.out; omega)
  clear hq3 r0 r1 r2 HQ2
  go_wp2_with fail
  go_loopw [13, 11, 12] (fun i t l wr => ∃ (k : Nat), k ≤ 8 ∧ i = .int .i64 k ∧ Hid (Own .i64 3 w3.heap.size wr t (rowE f x y k)) ∧ Hid (From w3.heap.size t) ∧ Hid (Own .i64 3 w3.heap.size wr l (colE f x y k)) ∧ Hid (From w3.heap.size l) ∧ Hid (SepD t l) ∧ Hid (Only [] w3 wr)) (fun i _ _ _ => 8 - (intOf i).toNat)
  case atStart => exact ⟨0, by omega, rfl, lh (Own.nil _ _ _ _), lh (From.nil _), lh (Own.nil _ _ _ _), lh (From.nil _), lh (SepD.nil _), lh (Only.refl _ _)⟩
  case round =>
   obtain ⟨k, hk, rfl, HOt, HFt, HOl, HFl, HSp, HQk⟩ := hrel
   have hlt1 := rowE_len f x y k
   have hlt2 := colE_len f x y k
   obtain ⟨ta, tcap, rfl, -⟩ := HOt.out.ints.open
   obtain ⟨la, lcap, rfl, -⟩ := HOl.out.ints.open
   rw [hlt1] at HOt HFt HSp ⊢
   rw [hlt2] at HOl HFl HSp ⊢
   have HRk := lh ((HQ3.out.q HQk.out).row HR1.out)
   obtain ⟨r0, r1, r2⟩ := frame_cells HRk.out
   by_cases hlt : k < 8
   ·have hki : (k : Int) < 8 := by omega
    exact qDREd0
   ·obtain rfl : k = 8 := by omega
    have hki : ¬ ((8 : Nat) : Int) < 8 := by omega
    have HC := lh (HB.out wr (HQ1.out.q (HQ3.out.q HQk.out)) (x - 1) (y - 1) (by omega) (by omega))
    clear hlt1 hlt2
    generalize sampleD f (x - 1) (y - 1) = p0 at *
    go_wp2_with fail
    go_at_call 164
    refine HC.out.mono ?_
    rintro e ws ⟨rfl, hqs⟩
    have HOts := lh (HOt.out.quiet hqs)
    have HOls := lh (HOl.out.quiet hqs)
    have HQs := lh (HQk.out.q hqs)
    clear hqs r0 r1 r2
    go_wp2_with fail
    refine bodyPost_ret (v := .tuple #[.slice ta 8 tcap, .slice la 8 lcap, .int .i64 p0]) (by simp [results, Tryz.results135, go_sem]) rfl (HPost.out _ _ ⟨_, _, rfl, ?_, ?_, (HQ1.out.q HQ3.out).q HQs.out⟩)
    ·rw [HT.out]; exact HOts.out.lower (by have := Hz3.out; omega)
    ·rw [HL.out]; exact HOls.out.lower (by have := Hz3.out; omega)
end
theorem predD_next {mode corner : Int} {top left : List Int} {k : Nat} (hk : k < top.length * top.length) : (predD mode top left corner).take (k + 1) = (predD mode top left corner).take k ++ [predAt mode top left corner k] := by
 rw [List.take_succ_eq_append_getElem (by rw [predD_len]; exact hk)]
 congr 2
 simp [predD]
section
theorem qDRPd3 {p : Prop} (h : p := by
 go_wp2_with (first
   | (at_builtin; refine wpList_append_ints rfl (.tmp 115) (.tmp 117) _ rfl EI (HOk.out.quiet ((Only.refl [] wr).drew.q (Only.new _ _))) rfl (hsrc.out _) rfl hby.out hba.out (fun v1 w6 hown1 ho1 => ?_); obtain ⟨x1, x1cap, hx1, _⟩ := hown1.ints.open; subst hx1; rw [Hlen.out] at hown1 ho1 ⊢; have HO1 := lh hown1; have HA1 := lh ho1; clear hown1 ho1)
   | fail)
 refine ⟨⟨k + 1, by have := Hlt.out; omega, by go_num, lh (by rw [Hnx.out]; exact HO1.out), lh (HA1.out.from_ HFk.out hba.out), lh ((HQr.out.drew.q (Only.new _ _)).acc HA1.out HFk.out)⟩, by simp [intOf]; have := Hlt.out; omega⟩) : p := h
theorem qDRPd0 {p : Prop} (h : p := by
 have hVb : 0 ≤ V ∧ V ≤ 255 * 4 := by have := Hmb.out; omega
 have eV : IntKind.i64.wrap V = V := by rw [IntKind.wrap_i64]; omega
 have hmm := Hm.out
 have hcc := Hc.out
 have Hlt := lh hlt
 clear e2 e4 hnn bM bD hV hlt
 generalize hpq : predAt mode top left corner k = q at *
 have hqe : (mode = 0 → q = V) ∧ (mode = 1 → q = t) ∧ (mode = 2 → q = l) ∧ (mode = 3 → q = clipD (l + t - corner)) := ⟨fun h => by subst h; rw [← hpq, hp0, hVd]; rfl, fun h => by subst h; rw [← hpq, hp1], fun h => by subst h; rw [← hpq, hp2], fun h => by subst h; rw [← hpq, hp3]⟩
 clear hp0 hp1 hp2 hp3 hpq hVd
 have hqb : -100000 ≤ q ∧ q ≤ 100000 := by
  have hcd := clipD_in (l + t - corner)
  rcases (by omega : mode = 0 ∨ mode = 1 ∨ mode = 2 ∨ mode = 3) with h | h | h | h
  ·have := hqe.1 h; omega
  ·have := hqe.2.1 h; omega
  ·have := hqe.2.2.1 h; omega
  ·have := hqe.2.2.2 h; omega
 have hink : ∀ z ∈ [q], InK .i64 z := by simp only [mSg, forall_eq, InK]; omega
 have hsrc := lh (fun (W : World) => ints_newG (k := .i64) (w := W) (t := 3) (l := [q]) rfl (by simp [maxLen]) hink 1 rfl rfl)
 have hby := lh (show ((D.take k).length + [q].length) * 8 ≤ 140737488355328 by rw [hdl]; simp; omega)
 have Hlen : Hid ((D.take k ++ [q]).length = k + 1) := lh (by rw [List.length_append, hdl]; rfl)
 have Hnx := lh hnx
 have hba := lh (show W1.heap.size ≤ (wr.drew.alloc (.cells #[.int .i64 q] 3)).heap.size from Nat.le_trans HQr.out.drew.size (Only.new _ _).size)
 have Hqe := lh hqe
 have a1 : IntKind.i64.wrap (l + t) = l + t := by rw [IntKind.wrap_i64]; omega
 have a2 : IntKind.i64.wrap (l + t - corner) = l + t - corner := by rw [IntKind.wrap_i64]; omega
 clear hink hqb hnx hqe hdl hbt hbl hVb hcc
 go_wp2_with fail
 refine wp_region_held_drew (S := (fun w' => w'.cell? ⟨bt, ot + M, none⟩ = some (.int .i64 t) ∧ w'.cell? ⟨bl, ol + Dv, none⟩ = some (.int .i64 l))) (by kernel_rfl) ?_ (fun hHeld => ?_)
 ·exact ⟨ct, cl⟩
 refine tk 0 84 ?_
 refine tk 1 85 ?_
 refine tk 2 86 ?_
 refine tk 3 87 ?_
 refine tk 4 88 ?_
 refine tk 5 89 ?_
 refine tk 6 90 ?_
 refine tk 7 91 ?_
 refine tk 8 92 ?_
 refine tk 9 93 ?_
 refine tk 10 94 ?_
 refine tk 11 95 ?_
 refine tk 12 15 ?_
 refine tk 13 16 ?_
 refine wpAnyH_done (by kernel_rfl) ?_ _
 rcases (by omega : mode = 0 ∨ mode = 1 ∨ mode = 2 ∨ mode = 3) with rfl | rfl | rfl | rfl
 ·obtain rfl := Hqe.out.1 rfl
  exact qDRPd3
 ·obtain rfl := Hqe.out.2.1 rfl
  exact qDRPd3
 ·obtain rfl := Hqe.out.2.2.1 rfl
  exact qDRPd3
 ·have hq3 := Hqe.out.2.2.2 rfl
  have Hq3 := lh hq3
  clear hq3
  go_wp2_with fail
  go_at_call 132
  refine (kclip_any _ _).mono ?_
  rintro e w' ⟨rfl, rfl⟩
  rw [← Hq3.out]
  exact qDRPd3) : p := h
theorem qDRPd1 {p : Prop} (h : p := by
 have hk0 : (0 : Int) ≤ (k : Int) := by omega
 obtain ⟨bt, ot, tcap', e1, -, -, ct⟩ := (HT.out.quiet HQk.out).at (i := k) (by rw [Hn.out]; exact hlt)
 injection e1 with e1 e2 e3
 subst e1; subst e3
 obtain ⟨bl, ol, lcap', e1, -, -, cl⟩ := (HL.out.quiet HQk.out).at (i := k) (by rw [Hln.out]; exact hlt)
 injection e1 with e1 e4 e3
 subst e1; subst e3
 have hsn : sumD top left (k + 1) = sumD top left k + (top.getD k 0 + left.getD k 0) := rfl
 have hb := HSn.out k
 have hbt := Hts.out.at k
 have hbl := Hls.out.at k
 have hnn := Hn.out
 generalize hg : sumD top left (k + 1) = m1 at *
 generalize sumD top left k = m0 at *
 generalize top.getD k 0 = t at *
 generalize left.getD k 0 = l at *
 rw [hnn] at hb
 have n1 : IntKind.i64.wrap (m0 + t) = m0 + t := by rw [IntKind.wrap_i64]; omega
 have n2 : IntKind.i64.wrap (m0 + t + l) = m1 := by rw [hsn, IntKind.wrap_i64]; omega
 have Hg := lh hg
 have Hlt := lh hlt
 clear e2 e4 hg hsn hb hbt hbl hnn hlt
 go_wp2_with fail
 refine wp_region_held_drew (S := (fun w' => w'.cell? ⟨bt, ot + k, none⟩ = some (.int .i64 t) ∧ w'.cell? ⟨bl, ol + k, none⟩ = some (.int .i64 l))) (by kernel_rfl) ?_ (fun hHeld => ?_)
 ·exact ⟨ct, cl⟩
 refine tk 0 66 ?_
 refine tk 1 67 ?_
 refine tk 2 68 ?_
 refine tk 3 69 ?_
 refine tk 4 70 ?_
 refine tk 5 71 ?_
 refine tk 6 72 ?_
 refine tk 7 73 ?_
 refine tk 8 74 ?_
 refine tk 9 75 ?_
 refine tk 10 76 ?_
 refine tk 11 11 ?_
 refine wpAnyH_done (by kernel_rfl) ?_ _
 go_wp2_with fail
 exact ⟨⟨k + 1, by have := Hlt.out; omega, by go_num, by rw [Hg.out], lh HQk.out.drew⟩, by simp [intOf]; have := Hlt.out; omega⟩) : p := h
theorem qDRPd2 {p : Prop} (h : p := by
 rw [List.take_of_length_le (by rw [HDl.out]; omega)] at HOk
 have hre := HQr.out.row HR1.out
 obtain ⟨z0, z1, y0, y1, -⟩ := row2 hre
 have Hre := lh hre
 clear hre hdl
 go_wp2_with fail
 obtain ⟨hrow, hon⟩ := row2_set (x := .int .i64 0) (y := .slice none 0 0) Hre.out
 refine bodyPost_ret (results_tmp_cell Tryz.results136 _ _ w.heap.size _ _ _ _ _ rfl rfl hrow Tryz.underlying45 rfl (err_info _ rfl)) rfl (HPost.out _ _ ⟨⟨_, rfl, ?_⟩, ?_⟩)
 ·exact (HOk.out.only hon (fun x hx hh => by rw [mSg] at hx; subst hx; have := HFk.out _ hh; have := Hz1.out; omega)).lower HQ1.out.size
 ·exact (HQ1.out.q HQr.out).trans hon (U := []) (by simp) (fun x hx hlt => by rw [mSg] at hx; omega)) : p := h
theorem kpredict4_any {lo hi lo' hi' : Nat} {tv lv : Value} {top left : List Int} {w : World} (ht : Ints .i64 lo hi w tv top) (hl : Ints .i64 lo' hi' w lv left) (hn : top.length = 4) (hln : left.length = 4) (hts : SamOk top) (hls : SamOk left) {corner : Int} (hc : 0 ≤ corner ∧ corner ≤ 255) {mode : Int} (hm : 0 ≤ mode ∧ mode ≤ 3) : Calls Tryz.prog 136 #[.int .i64 mode, tv, lv, .int .i64 corner] w fun e w' => ((∃ v', e = .returned (.tuple #[v', .agg #[.int .i64 0, .slice none 0 0]]) ∧ Own .i64 3 w.heap.size w' v' (predD mode top left corner)) ∧ Only [] w w') := by
 refine hidQ fun Q HPost => ?_
 have hq1 := Only.new w (.cells #[.int .i64 0, .slice none 0 0] 45)
 have HR1 : Hid ((w.alloc (.cells #[.int .i64 0, .slice none 0 0] 45)).heap[w.heap.size]? = some (.cells #[.int .i64 0, .slice none 0 0] 45 (0, 0))) := lh (heap_alloc_new w _)
 have Hz1 : Hid ((w.alloc (.cells #[.int .i64 0, .slice none 0 0] 45)).heap.size = w.heap.size + 1) := lh (by simp)
 have HT := lh (ht.quiet hq1)
 have HL := lh (hl.quiet hq1)
 have Hts := lh hts
 have Hls := lh hls
 have Hn := lh hn
 have Hln := lh hln
 have HWt := lh (samOk_iff.2 hts)
 have HWl := lh (samOk_iff.2 hls)
 have HNx := lh (fun k (hk : k < 16) => predD_next (mode := mode) (corner := corner) (left := left) (show k < top.length * top.length by rw [hn]; exact hk))
 have HDl : Hid ((predD mode top left corner).length = 16) := lh (by rw [predD_len, hn])
 have HSn := lh (fun k => (sumD_in hts hls k))
 have HQ1 := lh hq1
 obtain ⟨ta, tcap, rfl, -⟩ := ht.open
 obtain ⟨la, lcap, rfl, -⟩ := hl.open
 rw [hn] at HT ⊢
 rw [hln] at HL ⊢
 have hc0 : ¬ corner < 0 := by omega
 have hc1 : ¬ (255 : Int) < corner := by omega
 have hm0 : ¬ mode < 0 := by omega
 have hm1 : ¬ (3 : Int) < mode := by omega
 have Hc := lh hc
 have Hm := lh hm
 clear ht hl hts hls hc hm hn hln hq1
 generalize predD mode top left corner = D at *
 go_enter Tryz.func136, Tryz.ntmps136
 go_wp2_with fail
 generalize hW1 : World.alloc w _ = W1 at *
 clear hW1
 go_at_call 23
 refine (within_any 0 255 HT.out).mono ?_
 rintro e w' ⟨rfl, rfl⟩
 rw [HWt.out]
 go_wp2_with fail
 go_at_call 23
 refine (within_any 0 255 HL.out).mono ?_
 rintro e w' ⟨rfl, rfl⟩
 rw [HWl.out]
 clear hm0 hm1
 go_wp2_with fail
 clear hc0 hc1
 go_loopw [12, 11] (fun i m wr => ∃ k : Nat, k ≤ 4 ∧ i = .int .i64 k ∧ m = .int .i64 (sumD top left k) ∧ Hid (Only [] W1 wr)) (fun i _ _ => 4 - (intOf i).toNat)
 case atStart => exact ⟨0, by omega, rfl, by show _ = Value.int IntKind.i64 ((top.length : Nat) : Int); rw [Hn.out]; rfl, lh (Only.refl _ _)⟩
 case round =>
  obtain ⟨k, hk, rfl, rfl, HQk⟩ := hrel
  by_cases hlt : k < 4
  ·have hki : (k : Int) < 4 := by omega
   exact qDRPd1
  ·obtain rfl : k = 4 := by omega
   have hki : ¬ ((4 : Nat) : Int) < 4 := by omega
   have hmb := HSn.out 4
   generalize hme : sumD top left 4 = mean at *
   have Hme := lh hme
   have hnn := Hn.out
   rw [hnn] at hmb
   have Hmb := lh hmb
   clear hmb hme hnn hlt hk
   go_wp2_with fail
   go_loopw [14, 13, 15, 16, 17] (fun i y _ _ _ wy => ∃ k : Nat, k ≤ 16 ∧ i = .int .i64 k ∧ Hid (Own .i64 3 W1.heap.size wy y (D.take k)) ∧ Hid (From W1.heap.size y) ∧ Hid (Only [] W1 wy)) (fun i _ _ _ _ _ => 16 - (intOf i).toNat)
   case atStart => exact ⟨0, by omega, rfl, lh (Own.nil _ _ _ _), lh (From.nil _), HQk⟩
   case round =>
    obtain ⟨k, hk, rfl, HOk, HFk, HQr⟩ := hrel
    have hdl : (D.take k).length = k := by rw [List.length_take, HDl.out]; omega
    obtain ⟨ra, rcap, rfl, -⟩ := HOk.out.ints.open
    rw [hdl] at HOk HFk ⊢
    have hNN : IntKind.i64.wrap (4 * 4) = 16 := by decide
    by_cases hlt : k < 16
    ·have hki2 : (k : Int) < 16 := by omega
     have hk0 : (0 : Int) ≤ (k : Int) := by omega
     have eM : (k : Int).tmod 4 = ((k % 4 : Nat) : Int) := by rw [Int.tmod_eq_emod_of_nonneg hk0]; rfl
     have eD : (k : Int).tdiv 4 = ((k / 4 : Nat) : Int) := by rw [Int.tdiv_eq_ediv_of_nonneg hk0]; rfl
     have bM : k % 4 < 4 := by omega
     have bD : k / 4 < 4 := by omega
     have hnx := HNx.out k hlt
     have hp0 : predAt 0 top left corner k = sumD top left top.length / (2 * (top.length : Int)) := rfl
     have hp1 : predAt 1 top left corner k = top.getD (k % top.length) 0 := rfl
     have hp2 : predAt 2 top left corner k = left.getD (k / top.length) 0 := rfl
     have hp3 : predAt 3 top left corner k = clipD (left.getD (k / top.length) 0 + top.getD (k % top.length) 0 - corner) := rfl
     have hnn := Hn.out
     rw [hnn] at hp0 hp1 hp2 hp3
     rw [Hme.out] at hp0
     generalize k % 4 = M at *
     generalize k / 4 = Dv at *
     obtain ⟨bt, ot, tcap', e1, -, -, ct⟩ := (HT.out.quiet HQr.out).at (i := M) (by rw [hnn]; exact bM)
     injection e1 with e1 e2 e3
     subst e1; subst e3
     obtain ⟨bl, ol, lcap', e1, -, -, cl⟩ := (HL.out.quiet HQr.out).at (i := Dv) (by rw [Hln.out]; exact bD)
     injection e1 with e1 e4 e3
     subst e1; subst e3
     have hbt := Hts.out.at M
     have hbl := Hls.out.at Dv
     generalize top.getD M 0 = t at *
     generalize left.getD Dv 0 = l at *
     have hM0 : (0 : Int) ≤ (M : Int) := by omega
     have hM1 : (M : Int) < 4 := by omega
     have hD0 : (0 : Int) ≤ (Dv : Int) := by omega
     have hD1 : (Dv : Int) < 4 := by omega
     have eDw : IntKind.i64.wrap (Dv : Int) = (Dv : Int) := by rw [IntKind.wrap_i64]; omega
     have h2n : IntKind.i64.wrap (2 * 4) = 8 := by decide
     obtain ⟨V, hV⟩ : ∃ V, V = mean.tdiv 8 := ⟨_, rfl⟩
     have hVe : mean.tdiv 8 = V := hV.symm
     have hVd : V = mean / 8 := by rw [hV, Int.tdiv_eq_ediv_of_nonneg (by have := Hmb.out.1; omega)]
     exact qDRPd0
    ·obtain rfl : k = 16 := by omega
     have hki2 : ¬ ((16 : Nat) : Int) < 16 := by omega
     exact qDRPd2
theorem kpredict8_any {lo hi lo' hi' : Nat} {tv lv : Value} {top left : List Int} {w : World} (ht : Ints .i64 lo hi w tv top) (hl : Ints .i64 lo' hi' w lv left) (hn : top.length = 8) (hln : left.length = 8) (hts : SamOk top) (hls : SamOk left) {corner : Int} (hc : 0 ≤ corner ∧ corner ≤ 255) {mode : Int} (hm : 0 ≤ mode ∧ mode ≤ 3) : Calls Tryz.prog 136 #[.int .i64 mode, tv, lv, .int .i64 corner] w fun e w' => ((∃ v', e = .returned (.tuple #[v', .agg #[.int .i64 0, .slice none 0 0]]) ∧ Own .i64 3 w.heap.size w' v' (predD mode top left corner)) ∧ Only [] w w') := by
 refine hidQ fun Q HPost => ?_
 have hq1 := Only.new w (.cells #[.int .i64 0, .slice none 0 0] 45)
 have HR1 : Hid ((w.alloc (.cells #[.int .i64 0, .slice none 0 0] 45)).heap[w.heap.size]? = some (.cells #[.int .i64 0, .slice none 0 0] 45 (0, 0))) := lh (heap_alloc_new w _)
 have Hz1 : Hid ((w.alloc (.cells #[.int .i64 0, .slice none 0 0] 45)).heap.size = w.heap.size + 1) := lh (by simp)
 have HT := lh (ht.quiet hq1)
 have HL := lh (hl.quiet hq1)
 have Hts := lh hts
 have Hls := lh hls
 have Hn := lh hn
 have Hln := lh hln
 have HWt := lh (samOk_iff.2 hts)
 have HWl := lh (samOk_iff.2 hls)
 have HNx := lh (fun k (hk : k < 64) => predD_next (mode := mode) (corner := corner) (left := left) (show k < top.length * top.length by rw [hn]; exact hk))
 have HDl : Hid ((predD mode top left corner).length = 64) := lh (by rw [predD_len, hn])
 have HSn := lh (fun k => (sumD_in hts hls k))
 have HQ1 := lh hq1
 obtain ⟨ta, tcap, rfl, -⟩ := ht.open
 obtain ⟨la, lcap, rfl, -⟩ := hl.open
 rw [hn] at HT ⊢
 rw [hln] at HL ⊢
 have hc0 : ¬ corner < 0 := by omega
 have hc1 : ¬ (255 : Int) < corner := by omega
 have hm0 : ¬ mode < 0 := by omega
 have hm1 : ¬ (3 : Int) < mode := by omega
 have Hc := lh hc
 have Hm := lh hm
 clear ht hl hts hls hc hm hn hln hq1
 generalize predD mode top left corner = D at *
 go_enter Tryz.func136, Tryz.ntmps136
 go_wp2_with fail
 generalize hW1 : World.alloc w _ = W1 at *
 clear hW1
 go_at_call 23
 refine (within_any 0 255 HT.out).mono ?_
 rintro e w' ⟨rfl, rfl⟩
 rw [HWt.out]
 go_wp2_with fail
 go_at_call 23
 refine (within_any 0 255 HL.out).mono ?_
 rintro e w' ⟨rfl, rfl⟩
 rw [HWl.out]
 clear hm0 hm1
 go_wp2_with fail
 clear hc0 hc1
 go_loopw [12, 11] (fun i m wr => ∃ k : Nat, k ≤ 8 ∧ i = .int .i64 k ∧ m = .int .i64 (sumD top left k) ∧ Hid (Only [] W1 wr)) (fun i _ _ => 8 - (intOf i).toNat)
 case atStart => exact ⟨0, by omega, rfl, by show _ = Value.int IntKind.i64 ((top.length : Nat) : Int); rw [Hn.out]; rfl, lh (Only.refl _ _)⟩
 case round =>
  obtain ⟨k, hk, rfl, rfl, HQk⟩ := hrel
  by_cases hlt : k < 8
  ·have hki : (k : Int) < 8 := by omega
   exact qDRPd1
  ·obtain rfl : k = 8 := by omega
   have hki : ¬ ((8 : Nat) : Int) < 8 := by omega
   have hmb := HSn.out 8
   generalize hme : sumD top left 8 = mean at *
   have Hme := lh hme
   have hnn := Hn.out
   rw [hnn] at hmb
   have Hmb := lh hmb
   clear hmb hme hnn hlt hk
   go_wp2_with fail
   go_loopw [14, 13, 15, 16, 17] (fun i y _ _ _ wy => ∃ k : Nat, k ≤ 64 ∧ i = .int .i64 k ∧ Hid (Own .i64 3 W1.heap.size wy y (D.take k)) ∧ Hid (From W1.heap.size y) ∧ Hid (Only [] W1 wy)) (fun i _ _ _ _ _ => 64 - (intOf i).toNat)
   case atStart => exact ⟨0, by omega, rfl, lh (Own.nil _ _ _ _), lh (From.nil _), HQk⟩
   case round =>
    obtain ⟨k, hk, rfl, HOk, HFk, HQr⟩ := hrel
    have hdl : (D.take k).length = k := by rw [List.length_take, HDl.out]; omega
    obtain ⟨ra, rcap, rfl, -⟩ := HOk.out.ints.open
    rw [hdl] at HOk HFk ⊢
    have hNN : IntKind.i64.wrap (8 * 8) = 64 := by decide
    by_cases hlt : k < 64
    ·have hki2 : (k : Int) < 64 := by omega
     have hk0 : (0 : Int) ≤ (k : Int) := by omega
     have eM : (k : Int).tmod 8 = ((k % 8 : Nat) : Int) := by rw [Int.tmod_eq_emod_of_nonneg hk0]; rfl
     have eD : (k : Int).tdiv 8 = ((k / 8 : Nat) : Int) := by rw [Int.tdiv_eq_ediv_of_nonneg hk0]; rfl
     have bM : k % 8 < 8 := by omega
     have bD : k / 8 < 8 := by omega
     have hnx := HNx.out k hlt
     have hp0 : predAt 0 top left corner k = sumD top left top.length / (2 * (top.length : Int)) := rfl
     have hp1 : predAt 1 top left corner k = top.getD (k % top.length) 0 := rfl
     have hp2 : predAt 2 top left corner k = left.getD (k / top.length) 0 := rfl
     have hp3 : predAt 3 top left corner k = clipD (left.getD (k / top.length) 0 + top.getD (k % top.length) 0 - corner) := rfl
     have hnn := Hn.out
     rw [hnn] at hp0 hp1 hp2 hp3
     rw [Hme.out] at hp0
     generalize k % 8 = M at *
     generalize k / 8 = Dv at *
     obtain ⟨bt, ot, tcap', e1, -, -, ct⟩ := (HT.out.quiet HQr.out).at (i := M) (by rw [hnn]; exact bM)
     injection e1 with e1 e2 e3
     subst e1; subst e3
     obtain ⟨bl, ol, lcap', e1, -, -, cl⟩ := (HL.out.quiet HQr.out).at (i := Dv) (by rw [Hln.out]; exact bD)
     injection e1 with e1 e4 e3
     subst e1; subst e3
     have hbt := Hts.out.at M
     have hbl := Hls.out.at Dv
     generalize top.getD M 0 = t at *
     generalize left.getD Dv 0 = l at *
     have hM0 : (0 : Int) ≤ (M : Int) := by omega
     have hM1 : (M : Int) < 8 := by omega
     have hD0 : (0 : Int) ≤ (Dv : Int) := by omega
     have hD1 : (Dv : Int) < 8 := by omega
     have eDw : IntKind.i64.wrap (Dv : Int) = (Dv : Int) := by rw [IntKind.wrap_i64]; omega
     have h2n : IntKind.i64.wrap (2 * 8) = 16 := by decide
     obtain ⟨V, hV⟩ : ∃ V, V = mean.tdiv 16 := ⟨_, rfl⟩
     have hVe : mean.tdiv 16 = V := hV.symm
     have hVd : V = mean / 16 := by rw [hV, Int.tdiv_eq_ediv_of_nonneg (by have := Hmb.out.1; omega)]
     exact qDRPd0
    ·obtain rfl : k = 64 := by omega
     have hki2 : ¬ ((64 : Nat) : Int) < 64 := by omega
     exact qDRPd2
end
end Go.Proofs.YthgpgbdkcdmbpaaGreatDoor
