/- The document's kinds of squares by any coder (kinref20.kind); its grey frames (kinref6.New). Conditions: the coder stands so. -/
import Derived.Test.YthgpgbdkcdmbpaaGreatDoorC1
import Derived.Test.YthgpgbdkcdmbpaaGreatDoorR5
import Derived.Test.YthgpgbdkcdmbpaaGreatDoorR3
import Derived.Test.YthgpgbdkcdmbpaaGreatDoorK1
import Derived.Test.YthgpgbdkcdmbpaaGreatDoorZDKMay
import Derived.Test.YthgpgbdkcdmbpaaGreatDoorK2
namespace Go.Proofs.YthgpgbdkcdmbpaaGreatDoor
open Go.RowKit
set_option linter.unusedVariables false
set_option linter.unusedSimpArgs false
set_option maxRecDepth 100000
set_option maxHeartbeats 16000000
theorem qDRkS1 {p : Prop} (h : p := by
 go_enter Tryz.func85, Tryz.ntmps85
 go_wp2_with fail
 go_at_call 121
 refine (HF.out _ (by first | rfl | exact beq_dec _ _)).mono ?_
 rintro e w2 ⟨rfl, F2, hk2, hg2⟩
 go_wp2_with fail
 refine HPost.out _ _ ?_
 rw [HP.out]
 exact ⟨rfl, F2, hk2, hg2⟩) : p := h
theorem gkind20_any {R : Nat} (X : KC R) {F : List Nat} {w : World} {s : X.σ} {n : Nat} (h : X.At F w s) (key : Bool) (k : Int) (ok : X.Ok n s) (hn : n ≤ 800000000) :
  Calls Tryz.prog 85 #[.pointer (some ⟨R, 0, none⟩), .bool key, .int .i64 k] w (NumG X F w (((kindKG X.C key k s).1 : Int), (kindKG X.C key k s).2)) := by
 refine hidQ fun Q HPost => ?_
 cases key with
 | false =>
  have HP : Hid (kindKG X.C false k s = kindG X.C k s) := lh rfl
  rw [HP.out] at HPost
  have HK := lh (gkind_any X h k ok hn)
  clear h ok
  go_enter Tryz.func85, Tryz.ntmps85
  go_wp2_with fail
  go_at_call 120
  refine HK.out.mono ?_
  rintro e w2 ⟨rfl, F2, hk2, hg2⟩
  go_wp2_with fail
  exact HPost.out _ _ ⟨rfl, F2, hk2, hg2⟩
 | true =>
  have HP : Hid (kindKG X.C true k s = (if (X.C.flat (decide (k = 3)) s).1 then 3 else 2, (X.C.flat (decide (k = 3)) s).2)) := lh rfl
  have HF := lh (fun (b : Bool) (hb : b = decide (k = 3)) => (by subst hb; exact X.flat _ h ok (by omega) : Calls Tryz.prog 121 #[.pointer (some ⟨R, 0, none⟩), .bool b] w _))
  obtain ⟨FL, hFL⟩ : ∃ y, y = X.C.flat (decide (k = 3)) s := ⟨_, rfl⟩
  rw [← hFL] at HF HP
  obtain ⟨t, s2⟩ := FL
  simp only at HF HP
  clear h ok hFL
  cases t with
  | true =>
   exact qDRkS1
  | false =>
   exact qDRkS1
/-- what kinref6.New hands back -/
def KNewP (w : World) (W H V : Int) (e : Ending) (w' : World) : Prop :=
 Only [] w w' ∧ match newB W H V with
  | true => ∃ g cap, e = .returned (.tuple #[.agg #[.int .i64 W, .int .i64 H, .slice (some ⟨g, 0, none⟩) (newF W H V).pix.length cap], .agg #[.int .i64 0, .slice none 0 0]]) ∧ Own .i64 3 w.heap.size w' (.slice (some ⟨g, 0, none⟩) (newF W H V).pix.length cap) (newF W H V).pix
  | false => e = .returned (.tuple #[.agg #[.int .i64 0, .int .i64 0, .slice none 0 0], .agg #[.int .i64 3, .slice none 0 0]])
theorem qDRkS2 {p : Prop} (h : p := by
 go_wp2_with fail
 go_at_call 22
 refine (fail_any 3 W1).mono ?_
 rintro e w2 ⟨rfl, hq2⟩
 have HBa := lh (hq2.row HB0.out)
 have HBb := lh (hq2.row HB1.out)
 have HQ := lh (HQ1.out.q hq2)
 clear hq2
 obtain ⟨t0, t1, t2⟩ := frame_cells HBa.out
 have fz0 := frozen_of_row _ _ 0 _ _ HBa.out
 have fz1 := frozen_of_row _ _ 1 _ _ HBa.out
 have fz2 := frozen_of_row _ _ 2 _ _ HBa.out
 obtain ⟨z0, z1, y0, y1, -⟩ := row2 HBb.out
 go_wp2_with fail
 obtain ⟨hrow1, hon1⟩ := row3_set (x := .int .i64 0) (y := .int .i64 0) (z := .slice none 0 0) HBa.out
 have hr2 := hon1.rowAt HBb.out (by simp)
 obtain ⟨hrow2, hon2⟩ := row2_set (x := .int .i64 3) (y := .slice none 0 0) hr2
 have hr1 := hon2.rowAt hrow1 (by simp)
 have hall := (HQ.out.trans hon1 (U := []) (by simp) (fun g hg hlt => by rw [mSg] at hg; omega)).trans hon2 (U := []) (by simp) (fun g hg hlt => by rw [mSg] at hg; omega)
 refine bodyPost_ret (results_cell_cell Tryz.results47 _ _ (w.heap.size) (w.heap.size + 1) _ _ _ _ _ _ _ _ rfl rfl hr1 hrow2 Tryz.underlying27 rfl (by kernel_rfl) Tryz.underlying45 rfl (err_info _ rfl)) rfl (HPost.out _ _ ?_)
 exact ⟨hall, by rw [Hn.out]⟩) : p := h
theorem knew_w {W H V : Int} {w : World} (hsw : sideB W = false) : Calls Tryz.prog 47 #[.int .i64 W, .int .i64 H, .int .i64 V] w (KNewP w W H V) := by
 have Hn : Hid (newB W H V = false) := lh (by unfold newB; rw [hsw]; rfl)
 refine hidQ fun Q HPost => ?_
 obtain ⟨hq1, HB0, HB1, Hz⟩ := boxes2 w (.cells #[.int .i64 0, .int .i64 0, .slice none 0 0] 27) (.cells #[.int .i64 0, .slice none 0 0] 45)
 have HQ1 := lh hq1
 clear hq1
 go_enter Tryz.func47, Tryz.ntmps47
 go_wp2_with fail
 generalize hW1 : World.alloc (World.alloc w _) _ = W1 at *
 clear hW1
 go_at_call 60
 have hs := kside_any W W1
 rw [hsw] at hs
 have HS1 := lh hs
 clear hs
 refine HS1.out.mono ?_
 rintro e w' ⟨rfl, rfl⟩
 clear hsw
 exact qDRkS2
theorem qDRkS0 {p : Prop} (h : p := by
 refine hidQ fun Q HPost => ?_
 obtain ⟨hq1, HB0, HB1, Hz⟩ := boxes2 w (.cells #[.int .i64 0, .int .i64 0, .slice none 0 0] 27) (.cells #[.int .i64 0, .slice none 0 0] 45)
 have HQ1 := lh hq1
 clear hq1
 go_enter Tryz.func47, Tryz.ntmps47
 go_wp2_with fail
 generalize hW1 : World.alloc (World.alloc w _) _ = W1 at *
 clear hW1
 go_at_call 60
 have hs := kside_any W W1
 rw [hsw] at hs
 have HS1 := lh hs
 clear hs
 refine HS1.out.mono ?_
 rintro e w' ⟨rfl, rfl⟩
 go_wp2_with fail
 go_at_call 60
 have hs := kside_any H W1
 rw [hsh] at hs
 have HS2 := lh hs
 clear hs
 refine HS2.out.mono ?_
 rintro e w' ⟨rfl, rfl⟩
 clear hsw hsh
 exact qDRkS2) : p := h
theorem knew_h {W H V : Int} {w : World} (hsw : sideB W = true) (hsh : sideB H = false) : Calls Tryz.prog 47 #[.int .i64 W, .int .i64 H, .int .i64 V] w (KNewP w W H V) := by
 have Hn : Hid (newB W H V = false) := lh (by unfold newB; rw [hsw, hsh]; rfl)
 exact qDRkS0
theorem knew_v0 {W H V : Int} {w : World} (hsw : sideB W = true) (hsh : sideB H = true) (hv0 : V < 0) : Calls Tryz.prog 47 #[.int .i64 W, .int .i64 H, .int .i64 V] w (KNewP w W H V) := by
 have Hn : Hid (newB W H V = false) := lh (by unfold newB; rw [hsw, hsh]; unfold sampleB; simp; omega)
 exact qDRkS0
theorem knew_v1 {W H V : Int} {w : World} (hsw : sideB W = true) (hsh : sideB H = true) (hv0 : ¬ V < 0) (hv1 : 255 < V) : Calls Tryz.prog 47 #[.int .i64 W, .int .i64 H, .int .i64 V] w (KNewP w W H V) := by
 have Hn : Hid (newB W H V = false) := lh (by unfold newB; rw [hsw, hsh]; unfold sampleB; simp; omega)
 exact qDRkS0
theorem knew_ok {W H V : Int} {w : World} (hsw : sideB W = true) (hsh : sideB H = true) (hv0 : ¬ V < 0) (hv1 : ¬ 255 < V) : Calls Tryz.prog 47 #[.int .i64 W, .int .i64 H, .int .i64 V] w (KNewP w W H V) := by
 refine hidQ fun Q HPost => ?_
 obtain ⟨hq1, HB0, HB1, Hz⟩ := boxes2 w (.cells #[.int .i64 0, .int .i64 0, .slice none 0 0] 27) (.cells #[.int .i64 0, .slice none 0 0] 45)
 have HQ1 := lh hq1
 clear hq1
 go_enter Tryz.func47, Tryz.ntmps47
 go_wp2_with fail
 generalize hW1 : World.alloc (World.alloc w _) _ = W1 at *
 clear hW1
 go_at_call 60
 have hs := kside_any W W1
 rw [hsw] at hs
 have HS1 := lh hs
 clear hs
 refine HS1.out.mono ?_
 rintro e w' ⟨rfl, rfl⟩
 go_wp2_with fail
 go_at_call 60
 have hs := kside_any H W1
 rw [hsh] at hs
 have HS2 := lh hs
 clear hs
 refine HS2.out.mono ?_
 rintro e w' ⟨rfl, rfl⟩
 have hwb : 8 ≤ W ∧ W ≤ 32 ∧ W % 8 = 0 := of_decide_eq_true hsw
 have hhb : 8 ≤ H ∧ H ≤ 32 ∧ H % 8 = 0 := of_decide_eq_true hsh
 have Hn : Hid (newB W H V = true) := lh (by unfold newB; rw [hsw, hsh]; unfold sampleB; simp; omega)
 obtain ⟨Wn, rfl⟩ := Int.eq_ofNat_of_zero_le (show 0 ≤ W by omega)
 obtain ⟨Hm, rfl⟩ := Int.eq_ofNat_of_zero_le (show 0 ≤ H by omega)
 have hN : 64 ≤ Wn * Hm ∧ Wn * Hm ≤ 1024 := ⟨by have := Nat.mul_le_mul (show 8 ≤ Wn by omega) (show 8 ≤ Hm by omega); omega, by have := Nat.mul_le_mul (show Wn ≤ 32 by omega) (show Hm ≤ 32 by omega); omega⟩
 have hmul : (Wn : Int) * (Hm : Int) = ((Wn * Hm : Nat) : Int) := by rw [Int.natCast_mul]
 have HM := lh hmul
 obtain ⟨N, hNe⟩ : ∃ N, N = Wn * Hm := ⟨_, rfl⟩
 rw [← hNe] at hN hmul
 have hwm : IntKind.i64.wrap ((Wn : Int) * (Hm : Int)) = (N : Int) := by rw [hmul, IntKind.wrap_i64]; omega
 have hw64 : wrap64 (N : Int) = (N : Int) := by unfold wrap64; omega
 have HNe := lh hNe
 have HN := lh hN
 have Hwv := lh (And.intro hv0 hv1)
 clear hsw hsh hwb hhb hNe hN
 have hn3 := Only.new W1 (.cells #[.int .i64 Wn, .int .i64 Hm, .slice none 0 0] 27)
 have HR3 : Hid ((W1.alloc (.cells #[.int .i64 Wn, .int .i64 Hm, .slice none 0 0] 27)).heap[W1.heap.size]? = some (.cells #[.int .i64 Wn, .int .i64 Hm, .slice none 0 0] 27 (0, 0))) := lh (heap_alloc_new W1 _)
 have HB03 := lh (hn3.row HB0.out)
 have HB13 := lh (hn3.row HB1.out)
 have HQ3 := lh (HQ1.out.q hn3)
 clear hn3
 go_wp2_with fail
 generalize hW3 : World.alloc W1 _ = W3 at *
 have Hz3 : Hid (W1.heap.size < W3.heap.size) := lh (Array.getElem?_eq_some_iff.1 HR3.out).1
 clear hW3
 go_loopw [9] (fun i wr => ∃ (k : Nat) (pv : Value), k ≤ N ∧ i = .int .i64 k ∧ Hid (wr.heap[W1.heap.size]? = some (.cells #[.int .i64 Wn, .int .i64 Hm, pv] 27 (0, 0))) ∧ Hid (Own .i64 3 W3.heap.size wr pv (List.replicate k V)) ∧ Hid (From W3.heap.size pv) ∧ Hid (Only [W1.heap.size] W3 wr)) (fun i _ => N - (intOf i).toNat)
 case atStart => exact ⟨0, _, by omega, rfl, HR3, lh (Own.nil _ _ _ _), lh (From.nil _), lh (Only.refl _ _)⟩
 case round =>
  obtain ⟨k, pv, hk, rfl, HR, HO, HFr, HQr⟩ := hrel
  obtain ⟨pa, pcap, hpv, -⟩ := HO.out.ints.open
  rw [List.length_replicate] at hpv
  subst hpv
  obtain ⟨r0, r1, r2⟩ := frame_cells HR.out
  have fr2 := frozen_of_row wr W1.heap.size 2 _ _ HR.out
  by_cases hlt : k < N
  ·have hki : (k : Int) < (N : Int) := by omega
   have hk0 : (0 : Int) ≤ (k : Int) := by omega
   have hN := HN.out
   have hin : ∀ x ∈ [V], InK .i64 x := by simp only [mSg, forall_eq, InK]; have := Hwv.out; omega
   have hsrc := lh (fun (W : World) => ints_newG (k := .i64) (w := W) (t := 3) (l := [V]) rfl (by simp [maxLen]) hin 1 rfl rfl)
   have hby := lh (show ((List.replicate k V).length + [V].length) * 8 ≤ 140737488355328 by rw [List.length_replicate]; simp; omega)
   have hba := lh (fun (o : Obj) => (show W3.heap.size ≤ (wr.alloc o).heap.size from Nat.le_trans HQr.out.size (Only.new _ _).size))
   have Hlt := lh hlt
   have HR2 := lh (fun (o : Obj) (v1 : Value) (w1 : World) (ho : Acc (.slice pa k pcap) (wr.alloc o) v1 w1) => ho.only.rowAt ((Only.new wr o).row HR.out) (fun hm => by have := HFr.out W1.heap.size (by simpa using hm); have := Hz3.out; omega))
   clear hin hlt
   go_wp2_with (first
    | (at_builtin; refine wpList_append_ints rfl (.tmp 39) (.tmp 41) _ rfl EI (HO.out.quiet (Only.new _ _)) (by first | rfl | (rw [List.length_replicate]; rfl)) (hsrc.out _) rfl hby.out (hba.out _) (fun v1 w1 hown1 ho1 => ?_); have hrw := HR2.out _ _ _ ho1; obtain ⟨x1, x1cap, hx1, _⟩ := hown1.ints.open; subst hx1; simp only [List.length_append, List.length_singleton, List.length_replicate] at hown1 ho1 ⊢; obtain ⟨q0, q1, q2⟩ := frame_cells hrw; have fq2 := frozen_of_row w1 W1.heap.size 2 _ _ hrw; have HO1 := lh hown1; have HA1 := lh ho1; have HRw := lh hrw; clear hown1 ho1 hrw)
    | fail)
   have hst := heap_setCell_same w1 W1.heap.size 2 _ _ (.slice x1 (k + 1) x1cap) HRw.out
   have hon : Only [W1.heap.size] w1 (w1.setCell ⟨W1.heap.size, 2, none⟩ (.slice x1 (k + 1) x1cap)) := (Only.refl _ _).setCell (by simp) _
   have HF1 := lh (HA1.out.from_ HFr.out (hba.out _))
   refine ⟨⟨k + 1, _, by have := Hlt.out; omega, by go_num, lh hst, lh ?_, HF1, lh ?_⟩, by simp [intOf]; have := Hlt.out; omega⟩
   ·have ho := HO1.out.only hon (fun x hx e => by rw [mSg] at hx; subst hx; have := HF1.out _ e; have := Hz3.out; omega)
    rw [List.replicate_succ']
    exact ho
   ·exact ((HQr.out.trans (Only.new wr _) (U := [W1.heap.size]) (fun g h _ => h) (by simp)).trans HA1.out.only (U := [W1.heap.size]) (fun g h _ => h) (fun g hg hlt => by have := HFr.out g (by simpa using hg); omega)).trans hon (fun g h _ => h) (fun g h _ => h)
  ·obtain rfl : k = N := by omega
   have hki : ¬ ((k : Nat) : Int) < (k : Int) := by omega
   have HBa := lh (HQr.out.rowAt HB03.out (by simp; have := Hz.out; omega))
   have HBb := lh (HQr.out.rowAt HB13.out (by simp; have := Hz.out; omega))
   have HQ := lh (HQ3.out.trans HQr.out (U := []) (by simp) (fun g hg hlt => by rw [mSg] at hg; have := HQ1.out.size; omega))
   obtain ⟨g, gcap, hgv, hg1, hg2⟩ := HO.out.form (by rw [List.length_replicate]; have := HN.out; omega)
   rw [List.length_replicate] at hgv
   injection hgv with e1 e2 e3
   subst e1 e3
   clear e2
   obtain ⟨t0, t1, t2⟩ := frame_cells HBa.out
   have fz0 := frozen_of_row _ _ 0 _ _ HBa.out
   have fz1 := frozen_of_row _ _ 1 _ _ HBa.out
   have fz2 := frozen_of_row _ _ 2 _ _ HBa.out
   obtain ⟨z0, z1, y0, y1, -⟩ := row2 HBb.out
   go_wp2_with fail
   obtain ⟨hrow1, hon1⟩ := row3_set (x := .int .i64 Wn) (y := .int .i64 Hm) (z := .slice (some ⟨g, 0, none⟩) k pcap) HBa.out
   have hr2 := hon1.rowAt HBb.out (by simp)
   obtain ⟨hrow2, hon2⟩ := row2_set (x := .int .i64 0) (y := .slice none 0 0) hr2
   have hr1 := hon2.rowAt hrow1 (by simp)
   have hall := (HQ.out.trans hon1 (U := []) (by simp) (fun g hg hlt => by rw [mSg] at hg; omega)).trans hon2 (U := []) (by simp) (fun g hg hlt => by rw [mSg] at hg; omega)
   refine bodyPost_ret (results_cell_cell Tryz.results47 _ _ (w.heap.size) (w.heap.size + 1) _ _ _ _ _ _ _ _ rfl rfl hr1 hrow2 Tryz.underlying27 rfl (by kernel_rfl) Tryz.underlying45 rfl (err_info _ rfl)) rfl (HPost.out _ _ ?_)
   refine ⟨hall, ?_⟩
   rw [Hn.out]
   have hpx : (newF (Wn : Int) (Hm : Int) V).pix = List.replicate k V := by show List.replicate ((Wn : Int) * (Hm : Int)).toNat V = _; rw [HM.out, Int.toNat_natCast, ← HNe.out]
   refine ⟨g, pcap, ?_, ?_⟩
   ·rw [hpx, List.length_replicate]
   ·rw [hpx, List.length_replicate]
    have hz1 := HQ3.out.size
    have hz2 := Hz.out
    have hz3 := Hz3.out
    exact ((HO.out.only hon1 (fun x hx e => by rw [mSg] at hx; subst hx; have := HFr.out _ e; omega)).only hon2 (fun x hx e => by rw [mSg] at hx; subst hx; have := HFr.out _ e; omega)).lower hz1
theorem knew_any (W H V : Int) (w : World) : Calls Tryz.prog 47 #[.int .i64 W, .int .i64 H, .int .i64 V] w (KNewP w W H V) := by
 cases hsw : sideB W with
 | false => exact knew_w hsw
 | true =>
  cases hsh : sideB H with
  | false => exact knew_h hsw hsh
  | true =>
   by_cases hv0 : V < 0
   ·exact knew_v0 hsw hsh hv0
   ·by_cases hv1 : 255 < V
    ·exact knew_v1 hsw hsh hv0 hv1
    ·exact knew_ok hsw hsh hv0 hv1
end Go.Proofs.YthgpgbdkcdmbpaaGreatDoor
