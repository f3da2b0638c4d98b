/- Joined texts: DRPl, DRHf, DRBl. Conditions: each part names its own. -/
import Derived.Test.YthgpgbdkcdmbpaaGreatDoorT1
import Derived.Test.YthgpgbdkcdmbpaaGreatDoorZDKMay
import Derived.Test.YthgpgbdkcdmbpaaGreatDoorK2
import Derived.Test.YthgpgbdkcdmbpaaGreatDoorC4
import Derived.Test.YthgpgbdkcdmbpaaGreatDoorK5
import Derived.Deep.RegionHeld3
import Derived.BigRegion
import Derived.Test.YthgpgbdkcdmbpaaGreatDoorC3
namespace Go.Proofs.YthgpgbdkcdmbpaaGreatDoor
open Go.RowKit
set_option linter.unusedVariables false
set_option linter.unusedSimpArgs false
set_option maxRecDepth 100000
set_option maxHeartbeats 16000000
section
theorem qDRPl0 {p : Prop} (h : p := by
 go_enter Tryz.func100, Tryz.ntmps100
 go_wp2_with fail
 go_ret
 exact ⟨ret_bool (by rw [HR.out, Bool.eq_iff_iff]; simp; try omega), HQ.out⟩) : p := h
theorem klies_any (W H x y n : Int) (pv : Value) (w : World) (hW : 8 ≤ W ∧ W ≤ 32) (hH : 8 ≤ H ∧ H ≤ 32) (hn : 4 ≤ n ∧ n ≤ 8) :
  Calls Tryz.prog 100 #[.agg #[.int .i64 W, .int .i64 H, pv], .int .i64 x, .int .i64 y, .int .i64 n] w fun e w' => e = .returned (.bool (liesD W H x y n)) ∧ Only [] w w' := by
 have hq1 : Only [] w (w.alloc (.cells #[.int .i64 W, .int .i64 H, pv] 27)) := Only.new w _
 have HQ := lh hq1
 clear hq1
 obtain ⟨w1, w2⟩ := hW
 obtain ⟨h1, h2⟩ := hH
 obtain ⟨n1, n2⟩ := hn
 have HR : Hid (liesD W H x y n = decide (0 ≤ x ∧ 0 ≤ y ∧ x ≤ W - n ∧ y ≤ H - n)) := lh rfl
 generalize liesD W H x y n = b at *
 by_cases hx : 0 ≤ x
 ·by_cases hy : 0 ≤ y
  ·by_cases hxx : x ≤ W - n
   ·by_cases hyy : y ≤ H - n
    all_goals
     exact qDRPl0
   ·exact qDRPl0
  ·exact qDRPl0
 ·exact qDRPl0
theorem leans_any {lo hi : Nat} {pv : Value} {l : List Int} {w : World} (W H w0 h0 : Int) (fv : Value) (h : Ints .i64 lo hi w pv l) :
  Calls Tryz.prog 49 #[.agg #[.int .i64 w0, .int .i64 h0, fv], .agg #[.int .i64 W, .int .i64 H, pv]] w fun e w' => e = .returned (.bool (matesB ⟨W, H, l⟩ w0 h0)) ∧ Only [] w w' := by
 obtain ⟨a, cap, rfl, hlc, hmax, _⟩ := h.open
 have hq1 : Only [] w ((w.alloc (.cells #[.int .i64 w0, .int .i64 h0, fv] 27)).alloc (.cells #[.int .i64 W, .int .i64 H, .slice a l.length cap] 27)) := (Only.new w _).alloc _
 have HR : Hid (matesB ⟨W, H, l⟩ w0 h0 = (mayF ⟨W, H, l⟩ && decide (W = w0) && decide (H = h0))) := lh rfl
 have HM := lh (kmay_any W H (h.quiet hq1))
 have f0 := frame_cells ((Only.new (w.alloc _) (.cells #[.int .i64 W, .int .i64 H, .slice a l.length cap] 27)).row (heap_alloc_new w (.cells #[.int .i64 w0, .int .i64 h0, fv] 27)))
 have f := frame_cells (heap_alloc_new (w.alloc (.cells #[.int .i64 w0, .int .i64 h0, fv] 27)) (.cells #[.int .i64 W, .int .i64 H, .slice a l.length cap] 27))
 simp only [World.size_alloc] at f
 have HF := lh f
 have HF0 := lh f0
 have HQ := lh hq1
 clear h hmax hlc hq1 f f0
 generalize mayF ⟨W, H, l⟩ = b at *
 generalize l.length = n at *
 go_enter Tryz.func49, Tryz.ntmps49
 go_wp2_with fail
 go_at_call 30
 refine HM.out.mono ?_
 rintro e w2 ⟨rfl, hq2⟩
 have c0 := hq2.cell HF.out.1 (by simp)
 have c1 := hq2.cell HF.out.2.1 (by simp)
 have d0 := hq2.cell HF0.out.1 (by simp)
 have d1 := hq2.cell HF0.out.2.1 (by simp)
 have HQ2 := lh hq2
 clear hq2
 cases b with
 | false =>
  go_wp2_with fail
  go_ret
  exact ⟨ret_bool (by rw [HR.out]; rfl), HQ.out.q HQ2.out⟩
 | true =>
  by_cases hW : W = w0
  ·subst hW
   go_wp2_with fail
   all_goals
    go_ret
    exact ⟨ret_bool (by rw [HR.out, Bool.eq_iff_iff]; simp), HQ.out.q HQ2.out⟩
  ·have hb : (W == w0) = false := by rw [beq_eq_false_iff_ne]; exact hW
   have Hn := lh hW
   clear hW
   go_wp2_with fail
   go_ret
   exact ⟨ret_bool (by rw [HR.out]; simp [Hn.out]), HQ.out.q HQ2.out⟩
theorem kclip_any (v : Int) (w : World) : Calls Tryz.prog 132 #[.int .i64 v] w fun e w' => e = .returned (.int .i64 (clipD v)) ∧ w = w' := by
 go_enter Tryz.func132, Tryz.ntmps132
 go_wp2
 all_goals
  go_ret
  exact ⟨ret_int (by unfold clipD; first | rfl | omega | (split <;> omega)), rfl⟩
theorem copyi_any {lo hi : Nat} {v : Value} {l : List Int} {w : World} (h : Ints .i64 lo hi w v l) (hl : l.length ≤ 1000000000) :
  Calls Tryz.prog 54 #[v] w fun e w' => ∃ v', e = .returned v' ∧ Own .i64 3 w.heap.size w' v' l ∧ Only [] w w' := by
 go_enter Tryz.func54, Tryz.ntmps54
 go_wp2_with (at_builtin; refine wpList_append_ints rfl (.tmp 3) (.tmp 4) _ rfl EI (own_new (l := []) rfl (by simp) (by simp) 0 rfl) rfl (h.quiet ((Only.refl _ _).alloc _)) rfl ?c1 ?c2 (fun v1 w1 hown1 ho1 => ?_))
 case c1 => simp; omega
 case c2 => simp
 go_ret
 exact ⟨v1, rfl, by simpa using hown1, ((Only.refl _ _).alloc _).acc ho1 (From.lit (Nat.le_refl _))⟩
end
section
theorem down_any (a : Int) (h : -1000 ≤ a ∧ a ≤ 1000) (w : World) : Calls Tryz.prog 157 #[.int .i64 a] w fun e w' => e = .returned (.int .i64 (a / 2)) ∧ w = w' := by
 have ax := bits_and_one a
 have Hr : Hid ((a - a % 2).tdiv 2 = a / 2) := lh (by rw [Int.tdiv_eq_ediv]; omega)
 have hm : 0 ≤ a % 2 ∧ a % 2 ≤ 1 := by omega
 obtain ⟨h0, h1⟩ := h
 obtain ⟨m0, m1⟩ := hm
 generalize a % 2 = m at *
 generalize a / 2 = r at *
 go_enter Tryz.func157, Tryz.ntmps157
 go_wp2_with fail
 go_ret
 exact ⟨ret_int Hr.out, rfl⟩
theorem qDRHf3 {p : Prop} (h : p := by
 clear em ex hlen i2 i3 i4
 go_enter Tryz.func158, Tryz.ntmps158
 go_wp2_with fail
 go_ret
 exact ⟨ret_int HR.out.symm, HQ.out⟩) : p := h
theorem qDRHf0 {p : Prop} (h : p := by
 rw [← hMe] at i1 i2 hc
 clear hMe
 rcases (by omega : x < 0 ∨ (0 ≤ x ∧ x ≤ W - 1) ∨ (0 ≤ x ∧ W - 1 < x)) with hx | ⟨hx, hx1⟩ | ⟨hx, hx1⟩
 ·have ex : min (max x 0) (W - 1) = 0 := by omega
  rw [ex] at i2 hc
  rw [Int.add_zero] at i2 hc
  have t0 : 0 ≤ M := by omega
  have t1 : M < (N : Int) := by omega
  have hS : wrap64 (M) = M := by unfold wrap64; omega
  exact qDRHf3
 ·have ex : min (max x 0) (W - 1) = x := by omega
  rw [ex] at i2 hc
  have t0 : 0 ≤ M + x := by omega
  have t1 : M + x < (N : Int) := by omega
  have hS : wrap64 (M + x) = M + x := by unfold wrap64; omega
  exact qDRHf3
 ·have ex : min (max x 0) (W - 1) = (W - 1) := by omega
  rw [ex] at i2 hc
  have t0 : 0 ≤ M + (W - 1) := by omega
  have t1 : M + (W - 1) < (N : Int) := by omega
  have hS : wrap64 (M + (W - 1)) = M + (W - 1) := by unfold wrap64; omega
  exact qDRHf3) : p := h
theorem qDRHf1 {p : Prop} (h : p := by
 exact qDRHf3) : p := h
theorem kat_any {lo hi : Nat} {pv : Value} {w : World} {f : FrameD} (hok : FrOk f) (h : Ints .i64 lo hi w pv f.pix) (x y : Int) :
  Calls Tryz.prog 158 #[.agg #[.int .i64 f.W, .int .i64 f.H, pv], .int .i64 x, .int .i64 y] w fun e w' => e = .returned (.int .i64 (atD f x y)) ∧ Only [] w w' := by
 obtain ⟨a, cap, rfl, -⟩ := h.open
 have hq := Only.new w (.cells #[.int .i64 f.W, .int .i64 f.H, .slice a f.pix.length cap] 27)
 have hI := h.quiet hq
 have HQ := lh hq
 have hW : 8 ≤ f.W ∧ f.W ≤ 32 := ⟨hok.w0, hok.w1⟩
 have hH : 8 ≤ f.H ∧ f.H ≤ 32 := ⟨hok.h0, hok.h1⟩
 obtain ⟨i1, i2, i3, i4⟩ := atD_idx hW hH x y
 have hlen := hok.len
 obtain ⟨b, off, cap', hv, -, -, hc⟩ := hI.at (i := (min (max y 0) (f.H - 1) * f.W + min (max x 0) (f.W - 1)).toNat) (by omega)
 injection hv with e1 e2 e3
 subst e1; subst e3
 have HR : Hid (atD f x y = f.pix.getD (min (max y 0) (f.H - 1) * f.W + min (max x 0) (f.W - 1)).toNat 0) := lh rfl
 generalize f.pix.getD (min (max y 0) (f.H - 1) * f.W + min (max x 0) (f.W - 1)).toNat 0 = v at *
 generalize f.pix.length = N at *
 generalize f.W = W at *
 generalize f.H = H at *
 clear hI hok h hq
 have hH0 : 0 ≤ H - 1 := by omega
 have hW0 : 0 ≤ W - 1 := by omega
 have hw0 : wrap64 0 = 0 := by unfold wrap64; omega
 obtain ⟨hW1, hW2⟩ := hW
 obtain ⟨hH1, hH2⟩ := hH
 rcases (by omega : y < 0 ∨ (0 ≤ y ∧ y ≤ H - 1) ∨ (0 ≤ y ∧ H - 1 < y)) with hy | ⟨hy, hy1⟩ | ⟨hy, hy1⟩
 ·have em : min (max y 0) (H - 1) = 0 := by omega
  rw [em] at i1 i2 hc
  rw [Int.zero_mul] at i1 i2 hc
  simp only [Int.zero_add] at i2 hc
  rcases (by omega : x < 0 ∨ (0 ≤ x ∧ x ≤ W - 1) ∨ (0 ≤ x ∧ W - 1 < x)) with hx | ⟨hx, hx1⟩ | ⟨hx, hx1⟩
  ·have ex : min (max x 0) (W - 1) = 0 := by omega
   rw [ex] at i2 hc
   rw [Int.toNat_zero, Nat.add_zero] at hc
   have t0 : 0 ≤ 0 := by omega
   have t1 : 0 < (N : Int) := by omega
   exact qDRHf1
  ·have ex : min (max x 0) (W - 1) = x := by omega
   rw [ex] at i2 hc
   have t0 : 0 ≤ x := by omega
   have t1 : x < (N : Int) := by omega
   exact qDRHf1
  ·have ex : min (max x 0) (W - 1) = (W - 1) := by omega
   rw [ex] at i2 hc
   rw [show (W - 1).toNat = W.toNat - 1 by omega] at hc
   have t0 : 0 ≤ (W - 1) := by omega
   have t1 : (W - 1) < (N : Int) := by omega
   exact qDRHf1
 ·have em : min (max y 0) (H - 1) = y := by omega
  rw [em] at i1 i2 hc
  obtain ⟨M, hMe⟩ : ∃ M, M = y * W := ⟨_, rfl⟩
  have hM : wrap64 (y * W) = M := by rw [← hMe] at i1 i2 ⊢; unfold wrap64; omega
  exact qDRHf0
 ·have em : min (max y 0) (H - 1) = (H - 1) := by omega
  rw [em] at i1 i2 hc
  obtain ⟨M, hMe⟩ : ∃ M, M = (H - 1) * W := ⟨_, rfl⟩
  have hM : wrap64 ((H - 1) * W) = M := by rw [← hMe] at i1 i2 ⊢; unfold wrap64; omega
  exact qDRHf0
theorem qDRHf2 {p : Prop} (h : p := by
 rintro e w2 ⟨rfl, hq2⟩
 have HQ2 := lh (HQ1.out.q hq2)
 clear hq2
 go_wp2_with fail
 refine HPost.out _ _ ⟨ret_int (by rw [HR.out]; simp; try omega), HQ2.out⟩) : p := h
theorem khalf_any {lo hi : Nat} {pv : Value} {w : World} {f : FrameD} (hok : FrOk f) (h : Ints .i64 lo hi w pv f.pix) (hx hy : Int) (hx0 : -1000 ≤ hx ∧ hx ≤ 1000) (hy0 : -1000 ≤ hy ∧ hy ≤ 1000) :
  Calls Tryz.prog 131 #[.agg #[.int .i64 f.W, .int .i64 f.H, pv], .int .i64 hx, .int .i64 hy] w fun e w' => e = .returned (.int .i64 (halfD f hx hy)) ∧ Only [] w w' := by
 refine hidQ fun Q HPost => ?_
 obtain ⟨a, cap, rfl, -⟩ := h.open
 have hq := Only.new w (.cells #[.int .i64 f.W, .int .i64 f.H, .slice a f.pix.length cap] 27)
 have HRw : Hid ((w.alloc (.cells #[.int .i64 f.W, .int .i64 f.H, .slice a f.pix.length cap] 27)).heap[w.heap.size]? = some (.cells #[.int .i64 f.W, .int .i64 f.H, .slice a f.pix.length cap] 27 (0, 0))) := lh (heap_alloc_new w _)
 have HQ := lh hq
 have H1 := lh (fun x y (wx : World) (o : Only [] w wx) => kat_any hok (h.quiet o) x y)
 have HD1 := lh (down_any hx hx0)
 have HD2 := lh (down_any hy hy0)
 obtain ⟨X, hX⟩ : ∃ X, X = hx / 2 := ⟨_, rfl⟩
 obtain ⟨Y, hY⟩ : ∃ Y, Y = hy / 2 := ⟨_, rfl⟩
 have eX : hx / 2 = X := hX.symm
 have eY : hy / 2 = Y := hY.symm
 have HR : Hid (halfD f hx hy = if hx % 2 = 0 ∧ hy % 2 = 0 then atD f X Y
  else if hy % 2 = 0 then (atD f X Y + atD f (X + 1) Y + 1) / 2
  else if hx % 2 = 0 then (atD f X Y + atD f X (Y + 1) + 1) / 2
  else (atD f X Y + atD f (X + 1) Y + atD f X (Y + 1) + atD f (X + 1) (Y + 1) + 2) / 4) := lh (by rw [hX, hY]; rfl)
 have i00 := atD_in hok.sam X Y
 have i10 := atD_in hok.sam (X + 1) Y
 have i01 := atD_in hok.sam X (Y + 1)
 have i11 := atD_in hok.sam (X + 1) (Y + 1)
 have c00 := lh (H1.out X Y)
 have c10 := lh (H1.out (X + 1) Y)
 have c01 := lh (H1.out X (Y + 1))
 have c11 := lh (H1.out (X + 1) (Y + 1))
 have bX : -500 ≤ X ∧ X ≤ 500 := by omega
 have bY : -500 ≤ Y ∧ Y ≤ 500 := by omega
 generalize atD f X Y = v00 at *
 generalize atD f (X + 1) Y = v10 at *
 generalize atD f X (Y + 1) = v01 at *
 generalize atD f (X + 1) (Y + 1) = v11 at *
 obtain ⟨a00, b00⟩ := i00
 obtain ⟨a10, b10⟩ := i10
 obtain ⟨a01, b01⟩ := i01
 obtain ⟨a11, b11⟩ := i11
 obtain ⟨bX0, bX1⟩ := bX
 obtain ⟨bY0, bY1⟩ := bY
 have ax := bits_and_one hx
 have ay := bits_and_one hy
 have hx2 : hx % 2 = 0 ∨ hx % 2 = 1 := by omega
 have hy2 : hy % 2 = 0 ∨ hy % 2 = 1 := by omega
 rw [eX] at HD1
 rw [eY] at HD2
 clear h hq hX hY H1 hx0 hy0 eX eY
 rcases hx2 with ex | ex <;> rcases hy2 with ey | ey
 ·rw [ex, ey] at HR
  rw [ex] at ax
  rw [ey] at ay
  clear ex ey
  go_enter Tryz.func131, Tryz.ntmps131
  go_wp2_with fail
  go_at_call 157
  refine (HD1.out _).mono ?_
  rintro e w1 ⟨rfl, rfl⟩
  go_wp2_with fail
  go_at_call 157
  refine (HD2.out _).mono ?_
  rintro e w1 ⟨rfl, rfl⟩
  go_wp2_with fail
  go_at_call 158
  refine (c00.out _ HQ.out).mono ?_
  rintro e w1 ⟨rfl, hq1⟩
  have HQ1 := lh (HQ.out.q hq1)
  have HR1 := lh (hq1.row HRw.out)
  obtain ⟨r0, r1, r2⟩ := frame_cells HR1.out
  clear hq1
  go_wp2_with fail
  refine HPost.out _ _ ⟨ret_int (by rw [HR.out]; simp), HQ1.out⟩
 ·rw [ex, ey] at HR
  rw [ex] at ax
  rw [ey] at ay
  clear ex ey
  go_enter Tryz.func131, Tryz.ntmps131
  go_wp2_with fail
  go_at_call 157
  refine (HD1.out _).mono ?_
  rintro e w1 ⟨rfl, rfl⟩
  go_wp2_with fail
  go_at_call 157
  refine (HD2.out _).mono ?_
  rintro e w1 ⟨rfl, rfl⟩
  go_wp2_with fail
  go_at_call 158
  refine (c00.out _ HQ.out).mono ?_
  rintro e w1 ⟨rfl, hq1⟩
  have HQ1 := lh (HQ.out.q hq1)
  have HR1 := lh (hq1.row HRw.out)
  obtain ⟨r0, r1, r2⟩ := frame_cells HR1.out
  clear hq1
  go_wp2_with fail
  go_at_call 158
  refine (c01.out _ HQ1.out).mono ?_
  exact qDRHf2
 ·rw [ex, ey] at HR
  rw [ex] at ax
  rw [ey] at ay
  clear ex ey
  go_enter Tryz.func131, Tryz.ntmps131
  go_wp2_with fail
  go_at_call 157
  refine (HD1.out _).mono ?_
  rintro e w1 ⟨rfl, rfl⟩
  go_wp2_with fail
  go_at_call 157
  refine (HD2.out _).mono ?_
  rintro e w1 ⟨rfl, rfl⟩
  go_wp2_with fail
  go_at_call 158
  refine (c00.out _ HQ.out).mono ?_
  rintro e w1 ⟨rfl, hq1⟩
  have HQ1 := lh (HQ.out.q hq1)
  have HR1 := lh (hq1.row HRw.out)
  obtain ⟨r0, r1, r2⟩ := frame_cells HR1.out
  clear hq1
  go_wp2_with fail
  go_at_call 158
  refine (c10.out _ HQ1.out).mono ?_
  exact qDRHf2
 ·rw [ex, ey] at HR
  rw [ex] at ax
  rw [ey] at ay
  clear ex ey
  go_enter Tryz.func131, Tryz.ntmps131
  go_wp2_with fail
  go_at_call 157
  refine (HD1.out _).mono ?_
  rintro e w1 ⟨rfl, rfl⟩
  go_wp2_with fail
  go_at_call 157
  refine (HD2.out _).mono ?_
  rintro e w1 ⟨rfl, rfl⟩
  go_wp2_with fail
  go_at_call 158
  refine (c00.out _ HQ.out).mono ?_
  rintro e w1 ⟨rfl, hq1⟩
  have HQ1 := lh (HQ.out.q hq1)
  have HR1 := lh (hq1.row HRw.out)
  obtain ⟨r0, r1, r2⟩ := frame_cells HR1.out
  clear hq1
  have wX : IntKind.i64.wrap (X + 1) = X + 1 := by rw [IntKind.wrap_i64]; omega
  have wY : IntKind.i64.wrap (Y + 1) = Y + 1 := by rw [IntKind.wrap_i64]; omega
  have e1 : IntKind.i64.wrap (v00 + v10) = v00 + v10 := by rw [IntKind.wrap_i64]; omega
  have e2 : IntKind.i64.wrap (v00 + v10 + v01) = v00 + v10 + v01 := by rw [IntKind.wrap_i64]; omega
  have e3 : IntKind.i64.wrap (v00 + v10 + v01 + v11) = v00 + v10 + v01 + v11 := by rw [IntKind.wrap_i64]; omega
  have e4 : IntKind.i64.wrap (v00 + v10 + v01 + v11 + 2) = v00 + v10 + v01 + v11 + 2 := by rw [IntKind.wrap_i64]; omega
  go_wp2_with fail
  have HQa := lh (Only.refl [] w1)
  refine wp_region_held_drew (S := (fun w' => w'.cell? ⟨w.heap.size, 0, none⟩ = some (.int .i64 f.W) ∧ w'.cell? ⟨w.heap.size, 1, none⟩ = some (.int .i64 f.H) ∧ w'.cell? ⟨w.heap.size, 2, none⟩ = some (.slice a f.pix.length cap))) (by kernel_rfl) ?_ (fun hHeld => ?_)
  ·exact ⟨r0, r1, r2⟩
  refine tk 0 31 ?_
  refine tk 1 32 ?_
  refine tk 2 33 ?_
  refine tk 3 34 ?_
  refine tk 4 35 ?_
  refine tk 7 38 ?_
  refine tk 8 39 ?_
  refine tk 9 40 ?_
  refine tk 10 41 ?_
  refine tk 13 44 ?_
  refine tk 14 45 ?_
  refine tk 15 46 ?_
  refine tk 16 47 ?_
  refine tk 17 48 ?_
  refine rdy (rdc 5 36 (fun K hK => ?_) .nil)
  go_simp
  try simp only [wX, wY]
  go_at_call 158
  refine (c10.out _ HQ1.out.drew).mono ?_
  rintro e w2 ⟨rfl, hq2⟩
  have HQ2 := lh ((HQ1.out.drew).q hq2)
  have hr2 := (HQa.out.drew.q hq2).row HR1.out
  have hqp2 := HQa.out.drew.q hq2
  clear hq2
  refine hK.out _ _ ?_ (fun hHeld => ?_)
  ·exact frame_cells hr2
  clear hK K
  try simp only [Act.put, List.setIfInBounds_toArray, List.set_cons_zero, List.set_cons_succ]
  refine tk 6 37 ?_
  refine rdy (rdc 11 42 (fun K hK => ?_) .nil)
  go_simp
  try simp only [wX, wY]
  go_at_call 158
  refine (c01.out _ HQ2.out).mono ?_
  rintro e w3 ⟨rfl, hq3⟩
  have HQ3 := lh ((HQ2.out).q hq3)
  have hr3 := (hqp2.q hq3).row HR1.out
  have hqp3 := hqp2.q hq3
  clear hq3
  refine hK.out _ _ ?_ (fun hHeld => ?_)
  ·exact frame_cells hr3
  clear hK K
  try simp only [Act.put, List.setIfInBounds_toArray, List.set_cons_zero, List.set_cons_succ]
  refine tk 12 43 ?_
  refine rdy (rdc 18 49 (fun K hK => ?_) .nil)
  go_simp
  try simp only [wX, wY]
  go_at_call 158
  refine (c11.out _ HQ3.out).mono ?_
  rintro e w4 ⟨rfl, hq4⟩
  have HQ4 := lh ((HQ3.out).q hq4)
  have hr4 := (hqp3.q hq4).row HR1.out
  have hqp4 := hqp3.q hq4
  clear hq4
  refine hK.out _ _ ?_ (fun hHeld => ?_)
  ·exact frame_cells hr4
  clear hK K
  try simp only [Act.put, List.setIfInBounds_toArray, List.set_cons_zero, List.set_cons_succ]
  refine tk 19 50 ?_
  refine tk 20 51 ?_
  refine tk 21 52 ?_
  refine tk 22 6 ?_
  refine wpAnyH_done (by kernel_rfl) ?_ _
  clear hqp2 hqp3 hqp4 hr2 hr3 hr4
  try simp only [e1, e2, e3, e4]
  go_wp2_with fail
  refine HPost.out _ _ ⟨ret_int (by rw [HR.out]; simp; rw [Int.tdiv_eq_ediv_of_nonneg (by omega), IntKind.wrap_i64]; omega), HQ4.out⟩
end
/-- the append of integers, in a drawn region -/
theorem wp_append_ints {P : Program} {w : World} {o : Oper} {a : Act} {K : Act → World → Prop} {Q : Exit → Act → World → Prop} (hgd : o.guard = none) (s x : Operand) (t : TypeId)
  (ho : o.op = .call { callee := .builtin .append, args := #[s, x], argTypes := #[t, t] })
  {k : IntKind} {e : TypeId} {z : Value} {bytes base lo hi : Nat} {v sv : Value} {l m : List Int} (E : Elem P t e z 1 bytes)
  (hown : Own k e base w v l) (hv : a.eval s = v) (hs : Ints k lo hi w sv m) (hx : a.eval x = sv)
  (hbytes : (l.length + m.length) * bytes ≤ 140737488355328) (hbase : base ≤ w.heap.size)
  (h : ∀ v' w', Own k e base w' v' (l ++ m) → Acc v w v' w' → K (a.put o.dst v') w') : Oper.wp P o a w K Q := by
 have h1 := step_append_ints (ops := #[]) (Q := Q) (E' := True) hgd s x t ho E hown hv hs hx hbytes hbase h
 rwa [if_pos (by simp [Region.wanted, hgd])] at h1
def blockK (f : FrameD) (x y vx vy : Int) (k : Nat) : List Int := (List.range k).map fun i : Nat => halfD f (2 * (x + ((i % 8 : Nat) : Int)) + vx) (2 * (y + ((i / 8 : Nat) : Int)) + vy)
theorem blockK_len (f : FrameD) (x y vx vy : Int) (k : Nat) : (blockK f x y vx vy k).length = k := by simp [blockK]
theorem blockK_more (f : FrameD) (x y vx vy : Int) (k : Nat) : blockK f x y vx vy (k + 1) = blockK f x y vx vy k ++ [halfD f (2 * (x + ((k % 8 : Nat) : Int)) + vx) (2 * (y + ((k / 8 : Nat) : Int)) + vy)] := by simp [blockK, List.range_succ]
theorem blockK_all (f : FrameD) (x y vx vy : Int) : blockK f x y vx vy 64 = blockD f x y 8 vx vy := rfl
section
theorem kvmay_any (vx vy : Int) (w : World) (h : -15 ≤ vx ∧ vx ≤ 15) (g : -15 ≤ vy ∧ vy ≤ 15) :
  Calls Tryz.prog 130 #[.agg #[.int .i64 vx, .int .i64 vy]] w fun e w' => e = .returned (.bool true) ∧ Only [] w w' := by
 have HQ := lh (Only.new w (.cells #[.int .i64 vx, .int .i64 vy] 61))
 obtain ⟨h1, h2⟩ := h
 obtain ⟨g1, g2⟩ := g
 go_enter Tryz.func130, Tryz.ntmps130
 go_wp2_with fail
 go_ret
 exact ⟨ret_bool rfl, HQ.out⟩
theorem kblock_any {lo hi : Nat} {pv : Value} {w : World} {f : FrameD} (hok : FrOk f) (h : Ints .i64 lo hi w pv f.pix) (x y vx vy : Int) (hx : 0 ≤ x ∧ x ≤ 32) (hy : 0 ≤ y ∧ y ≤ 32) (hvx : -15 ≤ vx ∧ vx ≤ 15) (hvy : -15 ≤ vy ∧ vy ≤ 15) :
  Calls Tryz.prog 90 #[.agg #[.int .i64 f.W, .int .i64 f.H, pv], .int .i64 x, .int .i64 y, .int .i64 8, .agg #[.int .i64 vx, .int .i64 vy]] w fun e w' => ∃ v', e = .returned v' ∧ Own .i64 3 w.heap.size w' v' (blockD f x y 8 vx vy) ∧ Only [] w w' := by
 refine hidQ fun Q HPost => ?_
 obtain ⟨a, cap, rfl, -⟩ := h.open
 have hq2 : Only [] w ((w.alloc (.cells #[.int .i64 f.W, .int .i64 f.H, .slice a f.pix.length cap] 27)).alloc (.cells #[.int .i64 vx, .int .i64 vy] 61)) := (Only.new w _).alloc _
 have HR1 : Hid (((w.alloc (.cells #[.int .i64 f.W, .int .i64 f.H, .slice a f.pix.length cap] 27)).alloc (.cells #[.int .i64 vx, .int .i64 vy] 61)).heap[w.heap.size]? = some (.cells #[.int .i64 f.W, .int .i64 f.H, .slice a f.pix.length cap] 27 (0, 0))) := lh ((Only.new (w.alloc _) _).row (heap_alloc_new w _))
 have HR2 : Hid (((w.alloc (.cells #[.int .i64 f.W, .int .i64 f.H, .slice a f.pix.length cap] 27)).alloc (.cells #[.int .i64 vx, .int .i64 vy] 61)).heap[w.heap.size + 1]? = some (.cells #[.int .i64 vx, .int .i64 vy] 61 (0, 0))) := lh (heap_alloc_new' (by simp))
 have hz2 : ((w.alloc (.cells #[.int .i64 f.W, .int .i64 f.H, .slice a f.pix.length cap] 27)).alloc (.cells #[.int .i64 vx, .int .i64 vy] 61)).heap.size = w.heap.size + 1 + 1 := by simp
 have HI := lh (h.quiet hq2)
 have HQ2 := lh hq2
 have HZ2 := lh hz2
 have HM := lh (fun (W : World) (o : Only [] ((w.alloc (.cells #[.int .i64 f.W, .int .i64 f.H, .slice a f.pix.length cap] 27)).alloc (.cells #[.int .i64 vx, .int .i64 vy] 61)) W) => by have := kmay_any f.W f.H (HI.out.quiet o); rw [show mayF ⟨f.W, f.H, f.pix⟩ = true from mayF_iff.2 hok] at this; exact this)
 have HV := lh (fun (W : World) => kvmay_any vx vy W hvx hvy)
 have HH := lh (fun (W : World) (o : Only [] ((w.alloc (.cells #[.int .i64 f.W, .int .i64 f.H, .slice a f.pix.length cap] 27)).alloc (.cells #[.int .i64 vx, .int .i64 vy] 61)) W) (px py : Int) (h1 : -1000 ≤ px ∧ px ≤ 1000) (h2 : -1000 ≤ py ∧ py ≤ 1000) => khalf_any hok (HI.out.quiet o) px py h1 h2)
 have Hin := lh (fun px py => halfD_in hok.sam px py)
 have HB := lh (blockK_all f x y vx vy)
 obtain ⟨hx0, hx1⟩ := hx
 obtain ⟨hy0, hy1⟩ := hy
 obtain ⟨vx0, vx1⟩ := hvx
 obtain ⟨vy0, vy1⟩ := hvy
 clear h hq2 hok hz2
 obtain ⟨r0, r1, r2⟩ := frame_cells HR1.out
 go_enter Tryz.func90, Tryz.ntmps90
 go_wp2_with fail
 generalize hW2 : World.alloc (World.alloc w _) _ = W2 at *
 clear hW2 r0 r1 r2
 go_at_call 30
 refine (HM.out W2 (Only.refl _ _)).mono ?_
 rintro e w3 ⟨rfl, hq3⟩
 obtain ⟨v0, v1, -⟩ := row2 (hq3.row HR2.out)
 have HQ3 := lh hq3
 clear hq3
 go_wp2_with fail
 go_at_call 130
 refine (HV.out w3).mono ?_
 rintro e w4 ⟨rfl, hq4⟩
 have HQ4 := lh (HQ3.out.q hq4)
 clear hq4 v0 v1
 go_wp2_with fail
 go_loopw [12, 11] (fun i r wr => ∃ (k : Nat), k ≤ 64 ∧ i = .int .i64 k ∧ Hid (Own .i64 3 (w.heap.size + 1 + 1) wr r (blockK f x y vx vy k)) ∧ Hid (From (w.heap.size + 1 + 1) r) ∧ Hid (Only [] W2 wr)) (fun i _ _ => 64 - (intOf i).toNat)
 case atStart => exact ⟨0, by omega, rfl, lh (Own.nil _ _ _ _), lh (From.nil _), HQ4⟩
 case round =>
  obtain ⟨k, hk, rfl, HOk, HFk, HQk⟩ := hrel
  by_cases hlt : k < 64
  ·have hki : (k : Int) < 64 := by omega
   have hk0 : (0 : Int) ≤ (k : Int) := by omega
   have hw64 : IntKind.i64.wrap (8 * 8) = 64 := by decide
   have Hmore := lh (blockK_more f x y vx vy k)
   have hlen := blockK_len f x y vx vy k
   have eM : (k : Int).tmod 8 = ((k % 8 : Nat) : Int) := by rw [Int.tmod_eq_emod_of_nonneg hk0]; rfl
   have eD : (k : Int).tdiv 8 = ((k / 8 : Nat) : Int) := by rw [Int.tdiv_eq_ediv_of_nonneg hk0]; rfl
   have bM : (0 : Int) ≤ ((k % 8 : Nat) : Int) ∧ ((k % 8 : Nat) : Int) ≤ 7 := by omega
   have bD : (0 : Int) ≤ ((k / 8 : Nat) : Int) ∧ ((k / 8 : Nat) : Int) ≤ 7 := by omega
   generalize ((k % 8 : Nat) : Int) = M at *
   generalize ((k / 8 : Nat) : Int) = D at *
   have a1 : IntKind.i64.wrap (x + M) = x + M := by rw [IntKind.wrap_i64]; omega
   have a2 : IntKind.i64.wrap (2 * (x + M)) = 2 * (x + M) := by rw [IntKind.wrap_i64]; omega
   have a3 : IntKind.i64.wrap (2 * (x + M) + vx) = 2 * (x + M) + vx := by rw [IntKind.wrap_i64]; omega
   have b0 : IntKind.i64.wrap D = D := by rw [IntKind.wrap_i64]; omega
   have b1 : IntKind.i64.wrap (y + D) = y + D := by rw [IntKind.wrap_i64]; omega
   have b2 : IntKind.i64.wrap (2 * (y + D)) = 2 * (y + D) := by rw [IntKind.wrap_i64]; omega
   have b3 : IntKind.i64.wrap (2 * (y + D) + vy) = 2 * (y + D) + vy := by rw [IntKind.wrap_i64]; omega
   have hcall := fun W o => HH.out W o (2 * (x + M) + vx) (2 * (y + D) + vy) (by omega) (by omega)
   have hin := Hin.out (2 * (x + M) + vx) (2 * (y + D) + vy)
   have HC := lh hcall
   clear hcall
   generalize halfD f (2 * (x + M) + vx) (2 * (y + D) + vy) = hv at *
   have hink : ∀ z ∈ [hv], InK .i64 z := by simp only [mSg, forall_eq, InK]; omega
   have hsrc := lh (fun (W : World) => ints_newG (k := .i64) (w := W) (t := 3) (l := [hv]) rfl (by simp [maxLen]) hink 1 rfl rfl)
   have hby := lh (show ((blockK f x y vx vy k).length + [hv].length) * 8 ≤ 140737488355328 by rw [hlen]; simp; omega)
   have Hlen : Hid ((blockK f x y vx vy k ++ [hv]).length = k + 1) := lh (by rw [List.length_append, hlen]; rfl)
   obtain ⟨ra, rcap, rfl, -⟩ := HOk.out.ints.open
   rw [hlen] at HOk HFk ⊢
   obtain ⟨r0, r1, r2⟩ := frame_cells (HQk.out.row HR1.out)
   obtain ⟨v0, v1, -⟩ := row2 (HQk.out.row HR2.out)
   clear hlen hink hin bM bD
   go_wp2_with fail
   refine wp_region_held_drew (S := (fun w' => w'.cell? ⟨w.heap.size, 0, none⟩ = some (.int .i64 f.W) ∧ w'.cell? ⟨w.heap.size, 1, none⟩ = some (.int .i64 f.H) ∧ w'.cell? ⟨w.heap.size, 2, none⟩ = some (.slice a f.pix.length cap) ∧ w'.cell? ⟨w.heap.size + 1, 0, none⟩ = some (.int .i64 vx) ∧ w'.cell? ⟨w.heap.size + 1, 1, none⟩ = some (.int .i64 vy))) (by kernel_rfl) ?_ (fun hHeld => ?_)
   ·exact ⟨r0, r1, r2, v0, v1⟩
   refine tk 0 52 ?_
   refine tk 1 53 ?_
   refine tk 2 54 ?_
   refine tk 3 55 ?_
   refine tk 4 56 ?_
   refine tk 5 57 ?_
   refine tk 6 58 ?_
   refine tk 7 59 ?_
   refine tk 8 60 ?_
   refine tk 9 61 ?_
   refine tk 10 62 ?_
   refine tk 11 63 ?_
   refine tk 12 64 ?_
   refine tk 13 65 ?_
   refine tk 14 66 ?_
   refine tk 15 67 ?_
   refine tk 16 68 ?_
   refine tk 17 69 ?_
   refine tk 18 70 ?_
   refine tk 19 71 ?_
   refine rdy (rdc 20 72 (fun K hK => ?_) .nil)
   go_simp
   go_at_call 131
   refine (HC.out _ HQk.out.drew).mono ?_
   rintro e w5 ⟨rfl, hq5⟩
   have hd5 := (Only.refl [] wr).drew.q hq5
   have HQ5 := lh hd5
   have HO5 := lh (HOk.out.quiet hd5)
   have hba := lh (show w.heap.size + 1 + 1 ≤ w5.heap.size by have := HQk.out.size; have := hd5.size; have := HZ2.out; omega)
   have HFs : Hid (From W2.heap.size (Value.slice ra k rcap)) := lh (by rw [HZ2.out]; exact HFk.out)
   clear hq5
   refine hK.out _ _ ?_ (fun hHeld => ?_)
   ·exact ⟨(hd5).cell r0 (by simp), (hd5).cell r1 (by simp), (hd5).cell r2 (by simp), (hd5).cell v0 (by simp), (hd5).cell v1 (by simp)⟩
   clear hK K
   try simp only [Act.put, List.setIfInBounds_toArray, List.set_cons_zero, List.set_cons_succ]
   refine rdy (rdc 21 73 (fun K hK => ?_) .nil)
   go_simp
   refine hK.out _ _ ?_ (fun hHeld => ?_)
   ·exact ⟨(hd5.q (Only.new w5 _)).cell r0 (by simp), (hd5.q (Only.new w5 _)).cell r1 (by simp), (hd5.q (Only.new w5 _)).cell r2 (by simp), (hd5.q (Only.new w5 _)).cell v0 (by simp), (hd5.q (Only.new w5 _)).cell v1 (by simp)⟩
   clear hK K
   try simp only [Act.put, List.setIfInBounds_toArray, List.set_cons_zero, List.set_cons_succ]
   refine rdy (rdc 22 74 (fun K hK => ?_) .nil)
   refine wp_append_ints rfl (.tmp 52) (.tmp 73) _ rfl EI (HO5.out.quiet (Only.new _ _)) rfl (hsrc.out _) rfl hby.out (Nat.le_trans hba.out (Only.new _ _).size) (fun v1 w6 hown1 ho1 => ?_)
   obtain ⟨x1, x1cap, hx1, _⟩ := hown1.ints.open
   subst hx1
   rw [Hlen.out] at hown1 ho1 ⊢
   have HO1 := lh hown1
   have HA1 := lh ho1
   have hd6 := (HQk.out.q (HQ5.out.q (Only.new w5 _))).acc ho1 HFs.out
   clear hown1 ho1
   refine hK.out _ _ ?_ (fun hHeld => ?_)
   ·obtain ⟨r0, r1, r2⟩ := frame_cells (hd6.row HR1.out); obtain ⟨v0, v1, -⟩ := row2 (hd6.row HR2.out); exact ⟨r0, r1, r2, v0, v1⟩
   clear hK K
   try simp only [Act.put, List.setIfInBounds_toArray, List.set_cons_zero, List.set_cons_succ]
   refine tk 23 11 ?_
   refine wpAnyH_done (by kernel_rfl) ?_ _
   have HD6 := lh hd6
   clear hd6
   go_wp2_with fail
   refine ⟨⟨k + 1, by omega, by go_num, lh ?_, lh (HA1.out.from_ HFk.out (Nat.le_trans hba.out (Only.new _ _).size)), HD6⟩, by simp [intOf]; omega⟩
   rw [Hmore.out]
   exact HO1.out
  ·obtain rfl : k = 64 := by omega
   have hki : ¬ ((64 : Nat) : Int) < 64 := by omega
   have hw64 : IntKind.i64.wrap (8 * 8) = 64 := by decide
   have hlen := blockK_len f x y vx vy 64
   obtain ⟨ra, rcap, rfl, -⟩ := HOk.out.ints.open
   rw [hlen] at HOk HFk ⊢
   clear hlen
   go_wp2_with fail
   refine HPost.out _ _ ⟨_, rfl, ?_, HQ2.out.q HQk.out⟩
   rw [← HB.out]
   exact HOk.out.lower (by omega)
end
end Go.Proofs.YthgpgbdkcdmbpaaGreatDoor
