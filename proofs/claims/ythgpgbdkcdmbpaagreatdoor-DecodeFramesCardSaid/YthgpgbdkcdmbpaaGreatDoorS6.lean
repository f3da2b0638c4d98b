/- Joined texts: DSquareW, DBlock. Conditions: each part names its own. -/
import Derived.Test.YthgpgbdkcdmbpaaGreatDoorK5
import Derived.Test.YthgpgbdkcdmbpaaGreatDoorK2
namespace Go.Proofs.YthgpgbdkcdmbpaaGreatDoor
open Go.RowKit
set_option linter.unusedVariables false
set_option linter.unusedSimpArgs false
set_option maxRecDepth 100000
set_option maxHeartbeats 16000000
theorem run_make_room (m : Nat) (hm : m ≤ 1000000) (w : World) : (Instr.makeSlice 25 (.int .i64 0) (.int .i64 m)).run Tryz.prog w = .ok (.slice (some ⟨w.heap.size, 0, none⟩) 0 m) (w.alloc (.cells (madeCells #[.int .i64 0] m) 3)) := by
 obtain ⟨i, hi, hz, hs, hb⟩ := EI.inf
 have hr := run_make (P := Tryz.prog) w 25 3 i (.int .i64 0) EI.ut hi hz .i64 .i64 0 m (by omega) (by omega) (by rw [hb]; omega) (by omega)
 simp only [hs, Nat.mul_one, Int.toNat_natCast, Int.toNat_zero] at hr
 exact hr
theorem own_room (m : Nat) (hm : m ≤ 1000000) (w : World) : Own .i64 3 w.heap.size (w.alloc (.cells (madeCells #[.int .i64 0] m) 3)) (.slice (some ⟨w.heap.size, 0, none⟩) 0 m) [] :=
 ⟨⟨rfl, .inr ⟨w.heap.size, m, _, rfl, Nat.le_refl _, heap_alloc_new _ _, Nat.zero_le _, by simp [maxLen]; omega, by rw [size_madeCells, Nat.mul_one], by simp⟩⟩, by simp⟩
def vpartB (n : Int) : Bool := decide (-15 ≤ n ∧ n ≤ 15)
theorem vpart_any (n : Int) (w : World) : Calls Tryz.prog 137 #[.int .i64 n] w fun e w' => e = .returned (.bool (vpartB n)) ∧ w = w' := by
 go_enter Tryz.func137, Tryz.ntmps137
 go_wp2
 all_goals
  go_ret
  exact ⟨ret_bool (by unfold vpartB; rw [Bool.eq_iff_iff]; simp; try omega), rfl⟩
theorem vmay_any (a b : Int) (w : World) : Calls Tryz.prog 94 #[.agg #[.int .i64 a, .int .i64 b]] w fun e w' => e = .returned (.bool (vpartB a && vpartB b)) ∧ Only [] w w' := by
 have hq := Only.new w (.cells #[.int .i64 a, .int .i64 b] 61)
 have HQ := lh hq
 clear hq
 have HA := lh (fun W : World => vpart_any a W)
 have HB := lh (fun W : World => vpart_any b W)
 generalize vpartB a = p at *
 generalize vpartB b = q at *
 cases p
 all_goals
  go_enter Tryz.func94, Tryz.ntmps94
  go_wp2_with (first | (go_at_call 137; (first | ((with_reducible refine (HA.out _).mono ?_); rintro e w' ⟨rfl, rfl⟩) | ((with_reducible refine (HB.out _).mono ?_); rintro e w' ⟨rfl, rfl⟩))) | fail)
  go_ret
  exact ⟨ret_bool (by simp), HQ.out⟩
theorem blockRow_len (f : FrameD) (x y : Int) (n : Nat) (vx vy : Int) (j : Nat) : (blockRow f x y n vx vy j).length = n := by simp [blockRow]
def blockGo (f : FrameD) (x y vx vy : Int) (j : Nat) : List Int := (List.range j).flatMap (blockRow f x y 8 vx vy)
theorem blockGo_more (f : FrameD) (x y vx vy : Int) (j : Nat) : blockGo f x y vx vy (j + 1) = blockGo f x y vx vy j ++ blockRow f x y 8 vx vy j := by
 unfold blockGo
 rw [List.range_succ, List.flatMap_append]
 simp
theorem blockGo_len (f : FrameD) (x y vx vy : Int) (j : Nat) : (blockGo f x y vx vy j).length = j * 8 := by
 unfold blockGo
 rw [flatMap_len 8 _ _ (fun j _ => blockRow_len _ _ _ _ _ _ _), List.length_range]
def rowGo (f : FrameD) (x y vx vy : Int) (j i : Nat) : List Int := (List.range i).map fun i : Nat => halfD f (2 * (x + (i : Int)) + vx) (2 * (y + (j : Int)) + vy)
theorem rowGo_more (f : FrameD) (x y vx vy : Int) (j i : Nat) : rowGo f x y vx vy j (i + 1) = rowGo f x y vx vy j i ++ [halfD f (2 * (x + (i : Int)) + vx) (2 * (y + (j : Int)) + vy)] := by
 unfold rowGo
 rw [List.range_succ, List.map_append]
 simp
theorem rowGo_len (f : FrameD) (x y vx vy : Int) (j i : Nat) : (rowGo f x y vx vy j i).length = i := by simp [rowGo]
theorem msquare_any {lo hi : Nat} {pv : Value} {w : World} {f : FrameD} (hok : FrOk f) (h : Ints .i64 lo hi w pv f.pix) (x y vx vy : Int) (hx : 0 ≤ x ∧ x ≤ 32) (hy : 0 ≤ y ∧ y ≤ 32) (hvx : -15 ≤ vx ∧ vx ≤ 15) (hvy : -15 ≤ vy ∧ vy ≤ 15) :
  Calls Tryz.prog 108 #[.agg #[.int .i64 f.W, .int .i64 f.H, pv], .int .i64 x, .int .i64 y, .int .i64 8, .agg #[.int .i64 vx, .int .i64 vy]] w fun e w' => ∃ v', e = .returned v' ∧ Own .i64 3 w.heap.size w' v' (blockD f x y 8 vx vy) ∧ Only [] w w' := by
 refine hidQ fun Q HPost => ?_
 obtain ⟨a, cap, rfl, -⟩ := h.open
 have HD : Hid (blockD f x y 8 vx vy = blockGo f x y vx vy 8) := lh rfl
 have HR : ∀ j, Hid (rowGo f x y vx vy j 8 = blockRow f x y 8 vx vy j) := fun j => lh rfl
 have HRow := lh HR
 clear HR
 have Hin := lh (fun hx hy => halfD_in hok.sam hx hy)
 have hq1 := Only.new w (.cells #[.int .i64 f.W, .int .i64 f.H, .slice a f.pix.length cap] 27)
 have hq2 := hq1.q (Only.new _ (.cells #[.int .i64 vx, .int .i64 vy] 61))
 have hr1 := (Only.new (w.alloc (.cells #[.int .i64 f.W, .int .i64 f.H, .slice a f.pix.length cap] 27)) (.cells #[.int .i64 vx, .int .i64 vy] 61)).row (heap_alloc_new w _)
 have hr2 := heap_alloc_new' (w := w.alloc (.cells #[.int .i64 f.W, .int .i64 f.H, .slice a f.pix.length cap] 27)) (o := .cells #[.int .i64 vx, .int .i64 vy] 61) (g := w.heap.size + 1) (by simp)
 have HI := lh (h.quiet hq2)
 have HR1 := lh hr1
 have HR2 := lh hr2
 have HQ2 := lh hq2
 have hmk : ∀ W : World, (Instr.makeSlice 25 (.int .i64 0) (.int .i64 64)).run Tryz.prog W = .ok (.slice (some ⟨W.heap.size, 0, none⟩) 0 64) (W.alloc (.cells (madeCells #[.int .i64 0] 64) 3)) := fun W => run_make_room 64 (by omega) W
 have hH := lh (fun (hx hy : Int) (a0 : -1000 ≤ hx ∧ hx ≤ 1000) (b0 : -1000 ≤ hy ∧ hy ≤ 1000) (W : World) (o : Ints .i64 lo hi W (.slice a f.pix.length cap) f.pix) => half_any hok o hx hy a0 b0)
 obtain ⟨hx0, hx1⟩ := hx
 obtain ⟨hy0, hy1⟩ := hy
 obtain ⟨hv0, hv1⟩ := hvx
 obtain ⟨hv2, hv3⟩ := hvy
 clear h hq1 hq2 hr1 hr2
 go_enter Tryz.func108, Tryz.ntmps108
 go_wp2_with fail
 clear hmk
 have HO := lh (own_room 64 (by omega) ((w.alloc (.cells #[.int .i64 f.W, .int .i64 f.H, .slice a f.pix.length cap] 27)).alloc (.cells #[.int .i64 vx, .int .i64 vy] 61)))
 have hz2 : ((w.alloc (.cells #[.int .i64 f.W, .int .i64 f.H, .slice a f.pix.length cap] 27)).alloc (.cells #[.int .i64 vx, .int .i64 vy] 61)).heap.size = w.heap.size + 1 + 1 := by simp
 have Hz2 := lh hz2
 rw [hz2] at HO
 clear hz2
 generalize hW2 : World.alloc (World.alloc w _) _ = W2 at *
 clear hW2
 go_loopw [19, 11, 12, 13, 23] (fun j r _ _ _ wr => ∃ (k : Nat), k ≤ 8 ∧ j = .int .i64 k ∧ Hid (Own .i64 3 (w.heap.size + 1 + 1) wr r (blockGo f x y vx vy k)) ∧ Hid (From (w.heap.size + 1 + 1) r) ∧ Hid (Only [] W2 wr)) (fun j _ _ _ _ _ => 8 - (intOf j).toNat)
 case atStart => exact ⟨0, by omega, rfl, HO, lh (From.lit (Nat.le_refl _)), lh (Only.new _ _)⟩
 case round =>
  obtain ⟨k, hk, rfl, HOk, HFk, HQk⟩ := hrel
  by_cases hlt : k < 8
  ·have hki : (k : Int) < 8 := by omega
   have hk0 : (0 : Int) ≤ (k : Int) := by omega
   go_wp2_with fail
   go_loopw [23, 11, 13] (fun i r _ wr => ∃ (n : Nat), n ≤ 8 ∧ i = .int .i64 n ∧ Hid (Own .i64 3 (w.heap.size + 1 + 1) wr r (blockGo f x y vx vy k ++ rowGo f x y vx vy k n)) ∧ Hid (From (w.heap.size + 1 + 1) r) ∧ Hid (Only [] W2 wr)) (fun i _ _ _ => 8 - (intOf i).toNat)
   case atStart => exact ⟨0, by omega, rfl, lh (by rw [show rowGo f x y vx vy k 0 = [] from rfl, List.append_nil]; exact HOk.out), HFk, HQk⟩
   case round =>
    obtain ⟨n, hn, rfl, HOn, HFn, HQn⟩ := hrel
    by_cases hnlt : n < 8
    ·have hni : (n : Int) < 8 := by omega
     have hn0 : (0 : Int) ≤ (n : Int) := by omega
     have hmore := rowGo_more f x y vx vy k n
     have hlen := blockGo_len f x y vx vy k
     have hlen2 := rowGo_len f x y vx vy k n
     have hcall := fun W o => hH.out (2 * (x + (n : Int)) + vx) (2 * (y + (k : Int)) + vy) (by omega) (by omega) W o
     have hin := Hin.out (2 * (x + (n : Int)) + vx) (2 * (y + (k : Int)) + vy)
     have HC := lh hcall
     clear hcall
     generalize halfD f (2 * (x + (n : Int)) + vx) (2 * (y + (k : Int)) + vy) = hv at *
     have hink : ∀ z ∈ [hv], InK .i64 z := by simp only [mSg, forall_eq, InK]; omega
     have hsrc := lh (fun (W : World) => ints_newG (k := .i64) (w := W) (t := 3) (l := [hv]) rfl (by simp [maxLen]) hink 1 rfl rfl)
     have hby := lh (show ((blockGo f x y vx vy k ++ rowGo f x y vx vy k n).length + [hv].length) * 8 ≤ 140737488355328 by rw [List.length_append, hlen, hlen2]; simp; omega)
     have Hmore := lh hmore
     obtain ⟨ra, rcap, rfl, -⟩ := HOn.out.ints.open
     have hll : (blockGo f x y vx vy k ++ rowGo f x y vx vy k n).length = k * 8 + n := by rw [List.length_append, hlen, hlen2]
     rw [hll] at HOn HFn ⊢
     obtain ⟨r0, r1, r2⟩ := frame_cells (HQn.out.row HR1.out)
     obtain ⟨v0, v1⟩ := row2 (HQn.out.row HR2.out)
     have HLn := lh hll
     have HIn := lh (HI.out.quiet HQn.out)
     clear hmore hlen hlen2 hink hll hin
     have Hlen : Hid (((blockGo f x y vx vy k ++ rowGo f x y vx vy k n) ++ [hv]).length = k * 8 + n + 1) := lh (by rw [List.length_append, HLn.out]; rfl)
     go_wp2_with fail
     go_at_call 147
     refine (HC.out _ HIn.out).mono ?_
     rintro e w3 ⟨rfl, hq3⟩
     have HQ3 := lh hq3
     have HO3 := lh (HOn.out.quiet hq3)
     have hba := lh (fun (o : Obj) => (show w.heap.size + 1 + 1 ≤ (w3.alloc o).heap.size by have := HQn.out.size; have := hq3.size; have := Hz2.out; simp; omega))
     have HFs : Hid (From W2.heap.size (Value.slice ra (k * 8 + n) rcap)) := lh (by rw [Hz2.out]; exact HFn.out)
     clear hq3
     go_wp2_with (first
      | (at_builtin; refine wpList_append_ints rfl (.tmp 26) (.tmp 43) _ rfl EI (HO3.out.quiet (Only.new _ _)) rfl (hsrc.out _) rfl hby.out (hba.out _) (fun v1 w4 hown1 ho1 => ?_); obtain ⟨x1, x1cap, hx1, _⟩ := hown1.ints.open; subst hx1; rw [Hlen.out] at hown1 ho1 ⊢; have HO1 := lh hown1; have HA1 := lh ho1; clear hown1 ho1)
      | fail)
     refine ⟨⟨n + 1, by omega, by go_num, lh ?_, lh (HA1.out.from_ HFn.out (hba.out _)), lh (((HQn.out.q HQ3.out).q (Only.new _ _)).acc HA1.out HFs.out)⟩, by simp [intOf]; omega⟩
     rw [Hmore.out, ← List.append_assoc]
     exact HO1.out
    ·obtain rfl : n = 8 := by omega
     have hlen := blockGo_len f x y vx vy k
     have hlen2 := rowGo_len f x y vx vy k 8
     have Hm := lh (blockGo_more f x y vx vy k)
     obtain ⟨ra, rcap, rfl, -⟩ := HOn.out.ints.open
     have hll : (blockGo f x y vx vy k ++ rowGo f x y vx vy k 8).length = k * 8 + 8 := by rw [List.length_append, hlen, hlen2]
     rw [hll] at HOn HFn ⊢
     clear hlen hlen2 hll
     go_wp2_with fail
     refine ⟨⟨k + 1, by omega, by go_num, lh ?_, HFn, HQn⟩, by simp [intOf]; omega⟩
     rw [Hm.out, ← (HRow.out k).out]
     exact HOn.out
  ·obtain rfl : k = 8 := by omega
   have hlen := blockGo_len f x y vx vy 8
   obtain ⟨ra, rcap, rfl, -⟩ := HOk.out.ints.open
   rw [hlen] at HOk HFk ⊢
   clear hlen
   go_wp2_with fail
   refine HPost.out _ _ ⟨_, rfl, ?_, HQ2.out.q HQk.out⟩
   rw [HD.out]
   exact HOk.out.lower (by omega)
theorem mblock_any {lo hi : Nat} {pv : Value} {w : World} {f : FrameD} (hok : FrOk f) (h : Ints .i64 lo hi w pv f.pix) (x y vx vy : Int) (hx : 0 ≤ x ∧ x ≤ 32) (hy : 0 ≤ y ∧ y ≤ 32) (hvx : -15 ≤ vx ∧ vx ≤ 15) (hvy : -15 ≤ vy ∧ vy ≤ 15) :
  Calls Tryz.prog 72 #[.agg #[.int .i64 f.W, .int .i64 f.H, pv], .int .i64 x, .int .i64 y, .int .i64 8, .agg #[.int .i64 vx, .int .i64 vy]] w fun e w' => ∃ v', e = .returned v' ∧ Own .i64 3 w.heap.size w' v' (blockD f x y 8 vx vy) ∧ Only [] w w' := by
 refine hidQ fun Q HPost => ?_
 obtain ⟨a, cap, rfl, -⟩ := h.open
 have hq1 := Only.new w (.cells #[.int .i64 f.W, .int .i64 f.H, .slice a f.pix.length cap] 27)
 have hq2 := hq1.q (Only.new _ (.cells #[.int .i64 vx, .int .i64 vy] 61))
 have hr1 := (Only.new (w.alloc (.cells #[.int .i64 f.W, .int .i64 f.H, .slice a f.pix.length cap] 27)) (.cells #[.int .i64 vx, .int .i64 vy] 61)).row (heap_alloc_new w _)
 have hr2 := heap_alloc_new' (w := w.alloc (.cells #[.int .i64 f.W, .int .i64 f.H, .slice a f.pix.length cap] 27)) (o := .cells #[.int .i64 vx, .int .i64 vy] 61) (g := w.heap.size + 1) (by simp)
 have HI := lh (h.quiet hq2)
 have HR1 := lh hr1
 have HR2 := lh hr2
 have HQ2 := lh hq2
 have HM := lh (fun (W : World) (o : Ints .i64 lo hi W (.slice a f.pix.length cap) f.pix) => pmay_any f.W f.H o)
 have ht : mayF ⟨f.W, f.H, f.pix⟩ = true := mayF_iff.2 hok
 have hvt : (vpartB vx && vpartB vy) = true := by simp [vpartB, hvx, hvy]
 have HS := lh (fun (W : World) (o : Ints .i64 lo hi W (.slice a f.pix.length cap) f.pix) => msquare_any hok o x y vx vy hx hy hvx hvy)
 have HV := lh (fun (W : World) => vmay_any vx vy W)
 rw [ht] at HM
 rw [hvt] at HV
 obtain ⟨hx0, hx1⟩ := hx
 obtain ⟨hy0, hy1⟩ := hy
 clear h hq1 hq2 hr1 hr2 ht hvt
 go_enter Tryz.func72, Tryz.ntmps72
 go_wp2_with fail
 obtain ⟨r0, r1, r2⟩ := frame_cells HR1.out
 generalize hW2 : World.alloc (World.alloc w _) _ = W2 at *
 clear hW2
 go_wp2_with fail
 go_at_call 12
 refine (HM.out W2 HI.out).mono ?_
 rintro e w3 ⟨rfl, hq3⟩
 obtain ⟨r3, r4, r5⟩ := frame_cells (hq3.row HR1.out)
 obtain ⟨v0, v1⟩ := row2 (hq3.row HR2.out)
 have HQ3 := lh hq3
 clear hq3 r0 r1 r2
 go_wp2_with fail
 go_at_call 94
 refine (HV.out w3).mono ?_
 rintro e w4 ⟨rfl, hq4⟩
 have hq34 := HQ3.out.q hq4
 obtain ⟨r0, r1, r2⟩ := frame_cells (hq34.row HR1.out)
 obtain ⟨u0, u1⟩ := row2 (hq34.row HR2.out)
 have HQ4 := lh hq34
 clear hq4 hq34 r3 r4 r5 v0 v1
 go_wp2_with fail
 go_at_call 108
 refine (HS.out w4 (HI.out.quiet HQ4.out)).mono ?_
 rintro e w5 ⟨v5, rfl, hown, hq5⟩
 have HO := lh hown
 have HQ5 := lh hq5
 clear hown hq5
 go_wp2_with fail
 exact HPost.out _ _ ⟨v5, rfl, HO.out.lower (Nat.le_trans HQ2.out.size HQ4.out.size), (HQ2.out.q HQ4.out).q HQ5.out⟩
end Go.Proofs.YthgpgbdkcdmbpaaGreatDoor
