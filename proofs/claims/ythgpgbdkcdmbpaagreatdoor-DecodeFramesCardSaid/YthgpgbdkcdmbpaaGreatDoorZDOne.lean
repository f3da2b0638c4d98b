/- decode.One: a square foretold and added, laid. Conditions: a frame of one's own that may be, a square in it, good levels. -/
import Derived.Test.YthgpgbdkcdmbpaaGreatDoorT1
import Derived.Test.YthgpgbdkcdmbpaaGreatDoorZDPred
import Derived.Test.YthgpgbdkcdmbpaaGreatDoorZDLay
import Derived.Deep.RegionHeld3
import Derived.BigRegion
namespace Go.Proofs.YthgpgbdkcdmbpaaGreatDoor
open Go.RowKit
set_option linter.unusedVariables false
set_option linter.unusedSimpArgs false
set_option maxRecDepth 100000
set_option maxHeartbeats 16000000
theorem one_any {lo hi g cap base : Nat} {lv : Value} {l : List Int} {w : World} {f : FrameD} {x y : Int} {n q : Nat} {mode : Int} (hf : FrOk f) (hp : Own .i64 3 base w (.slice (some ⟨g, 0, none⟩) f.pix.length cap) f.pix) (hl : Ints .i64 lo hi w lv l) (hg : g < lo ∨ hi ≤ g)
  (hn : n = 4 ∨ n = 8) (hll : l.length = n * n) (hlev : LevOk l) (hq : q ≤ 15) (hm : 0 ≤ mode ∧ mode ≤ 3) (hx : 0 ≤ x) (hxn : x + n ≤ f.W) (hy : 0 ≤ y) (hyn : y + n ≤ f.H) :
  Calls Tryz.prog 74 #[.agg #[.int .i64 f.W, .int .i64 f.H, .slice (some ⟨g, 0, none⟩) f.pix.length cap], .int .i64 x, .int .i64 y, .int .i64 n, .int .i64 mode, .int .i64 q, lv] w fun e w' => e = .returned (.tuple #[]) ∧ Own .i64 3 base w' (.slice (some ⟨g, 0, none⟩) f.pix.length cap) (oneD f x y n mode q l).pix ∧ Only [g] w w' := by
 refine hidQ fun Q HPost => ?_
 have HgL := lh ((hp.at g rfl).2)
 have hq1 := Only.new w (.cells #[.int .i64 f.W, .int .i64 f.H, .slice (some ⟨g, 0, none⟩) f.pix.length cap] 27)
 have HR1 : Hid ((w.alloc (.cells #[.int .i64 f.W, .int .i64 f.H, .slice (some ⟨g, 0, none⟩) f.pix.length cap] 27)).heap[w.heap.size]? = some (.cells #[.int .i64 f.W, .int .i64 f.H, .slice (some ⟨g, 0, none⟩) f.pix.length cap] 27 (0, 0))) := lh (heap_alloc_new w _)
 have hn16 : n * n = 16 ∨ n * n = 64 := by rcases hn with rfl | rfl <;> simp
 have HE := lh (edges_any hf (hp.ints.quiet hq1) x y n hn hx hxn hy hyn)
 have HPr : Hid (∀ (lo1 hi1 lo2 hi2 : Nat) (v1 v2 : Value) (W : World), Ints .i64 lo1 hi1 W v1 (topD f x y n) → Ints .i64 lo2 hi2 W v2 (leftD f x y n) → Calls Tryz.prog 112 #[.int .i64 mode, v1, v2, .int .i64 (sampleD f (x - 1) (y - 1))] W fun e w' => ∃ v', e = .returned (.tuple #[v', .nilIface]) ∧ Own .i64 3 W.heap.size w' v' (predD mode (topD f x y n) (leftD f x y n) (sampleD f (x - 1) (y - 1))) ∧ Only [] W w') :=
  lh (fun _ _ _ _ _ _ W h1 h2 => predict_any h1 h2 (by rw [topD_len]; exact hn) (by rw [topD_len, leftD_len]) (topD_in hf.sam _ _ _) (leftD_in hf.sam _ _ _) (sampleD_in hf.sam _ _) hm)
 have hpl : (predD mode (topD f x y n) (leftD f x y n) (sampleD f (x - 1) (y - 1))).length = n * n := by rw [predD_len, topD_len]
 have hps : SamOk (predD mode (topD f x y n) (leftD f x y n) (sampleD f (x - 1) (y - 1))) := predD_in (topD_in hf.sam _ _ _) (leftD_in hf.sam _ _ _) (by rw [topD_len]; omega) _ _
 have Htl := lh (topD_len f x y n)
 have Hll := lh (leftD_len f x y n)
 have HD : Hid ((oneD f x y n mode q l).pix = (layD f x y n (addD (predD mode (topD f x y n) (leftD f x y n) (sampleD f (x - 1) (y - 1))) l q)).pix) := lh rfl
 generalize predD mode (topD f x y n) (leftD f x y n) (sampleD f (x - 1) (y - 1)) = P at *
 have hal : (addD P l q).length = n * n := by rw [addD_len (by rw [hpl, hll])]; exact hpl
 have Hlen : Hid ((addD P l q).length = n * n ∧ 0 < n * n) := lh ⟨hal, by omega⟩
 have HPl := lh (And.intro hpl (show 0 < n * n by omega))
 have HAd : Hid (∀ (W : World) {lo1 hi1 : Nat} {v : Value}, Only [] (w.alloc (.cells #[.int .i64 f.W, .int .i64 f.H, .slice (some ⟨g, 0, none⟩) f.pix.length cap] 27)) W → Ints .i64 lo1 hi1 W v P → Calls Tryz.prog 73 #[v, lv, .int .i64 q] W fun e w' => ∃ v', e = .returned v' ∧ Own .i64 3 W.heap.size w' v' (addD P l q) ∧ Only [] W w') :=
  lh (fun W _ _ _ o h => add_dec_any h (hl.quiet (hq1.q o)) (by rw [hll]; exact hn16) (by rw [hpl, hll]) hps hlev q hq)
 have HLy : Hid (∀ (W : World) {lo1 : Nat} (v : Value), Only [] (w.alloc (.cells #[.int .i64 f.W, .int .i64 f.H, .slice (some ⟨g, 0, none⟩) f.pix.length cap] 27)) W → Own .i64 3 lo1 W v (addD P l q) → g < lo1 → Calls Tryz.prog 71 #[.agg #[.int .i64 f.W, .int .i64 f.H, .slice (some ⟨g, 0, none⟩) f.pix.length cap], .int .i64 x, .int .i64 y, .int .i64 n, v] W fun e w' => e = .returned (.tuple #[]) ∧ Own .i64 3 base w' (.slice (some ⟨g, 0, none⟩) f.pix.length cap) (layD f x y n (addD P l q)).pix ∧ Only [g] W w') :=
  lh (fun W _ v o h hlt => play_lay hf (hp.quiet (hq1.q o)) h.ints (.inl hlt) hn hal hx hxn hy hyn)
 have HQ1 := lh hq1
 obtain ⟨la, lcap, rfl, -⟩ := hl.open
 clear hp hl hg hlev hpl hps hal hq1 hf hn16 hn hll
 generalize addD P l q = A at *
 generalize topD f x y n = T at *
 generalize leftD f x y n = L at *
 generalize sampleD f (x - 1) (y - 1) = cn at *
 go_enter Tryz.func74, Tryz.ntmps74
 obtain ⟨r0, r1, r2⟩ := frame_cells HR1.out
 go_wp2_with fail
 go_at_call 111
 refine HE.out.mono ?_
 rintro e w2 ⟨v1, v2, rfl, ho1, ho2, hq2⟩
 obtain ⟨a1, c1, rfl, -⟩ := ho1.ints.open
 obtain ⟨a2, c2, rfl, -⟩ := ho2.ints.open
 have HO1 := lh ho1
 have HO2 := lh ho2
 have HQ2 := lh hq2
 clear r0 r1 r2
 obtain ⟨r0, r1, r2⟩ := frame_cells (hq2.row HR1.out)
 clear ho1 ho2 hq2
 go_wp2_with fail
 go_at_call 112
 refine (HPr.out _ _ _ _ _ _ w2 HO1.out.ints HO2.out.ints).mono ?_
 rintro e w3 ⟨v3, rfl, ho3, hq3⟩
 obtain ⟨g3, c3, rfl, -, -⟩ := ho3.form (by have := HPl.out; omega)
 have HP3 := lh (ho3.ints.quiet (Only.refl _ _).drew)
 have HQ3 := lh (HQ2.out.q hq3)
 clear r0 r1 r2
 obtain ⟨r0, r1, r2⟩ := frame_cells ((HQ2.out.q hq3).row HR1.out)
 clear ho3 hq3
 go_wp2_with fail
 refine wp_region_held_drew (S := (fun w' => w'.cell? ⟨w.heap.size, 0, none⟩ = some (.int .i64 f.W) ∧ w'.cell? ⟨w.heap.size, 1, none⟩ = some (.int .i64 f.H) ∧ w'.cell? ⟨w.heap.size, 2, none⟩ = some (.slice (some ⟨g, 0, none⟩) f.pix.length cap))) (by kernel_rfl) ?_ (fun hHeld => ?_)
 ·exact ⟨r0, r1, r2⟩
 refine tk 0 36 ?_
 refine tk 1 37 ?_
 refine tk 2 38 ?_
 refine tk 3 39 ?_
 refine tk 4 40 ?_
 refine tk 5 41 ?_
 refine tk 6 42 ?_
 refine rdy (rdc 7 43 (fun K hK => ?_) .nil)
 go_simp
 go_at_call 73
 refine (HAd.out w3.drew (HQ3.out.drew) HP3.out).mono ?_
 rintro e w4 ⟨v4, rfl, hown4, hq4⟩
 obtain ⟨g4, cap4, rfl, hg4, hg4x⟩ := hown4.form (by have := Hlen.out; omega)
 have HQ4 := lh ((HQ3.out.drew).q hq4)
 have HO4 := lh hown4
 have hr4 := (HQ3.out.drew.q hq4).row HR1.out
 have Hg4 := lh (And.intro hg4 hg4x)
 clear hown4 hq4 hg4 hg4x
 refine hK.out _ _ ?_ (fun hHeld => ?_)
 ·exact frame_cells hr4
 clear hK K
 try simp only [Act.put, List.setIfInBounds_toArray, List.set_cons_zero, List.set_cons_succ]
 refine rdy (rdc 8 44 (fun K hK => ?_) .nil)
 go_simp
 go_at_call 71
 refine (HLy.out w4 _ HQ4.out HO4.out (by have := Hg4.out.1; have := HQ3.out.size; have := HgL.out; simp at *; omega)).mono ?_
 rintro e w5 ⟨rfl, hown5, hq5⟩
 have HQ5 := lh hq5
 have HO5 := lh hown5
 have hr5 := hq5.rowAt (HQ4.out.row HR1.out) (by rw [mSg]; have := HgL.out; omega)
 clear hown5 hq5
 refine hK.out _ _ ?_ (fun hHeld => ?_)
 ·exact frame_cells hr5
 clear hK K
 try simp only [Act.put, List.setIfInBounds_toArray, List.set_cons_zero, List.set_cons_succ]
 refine wpAnyH_done (by kernel_rfl) ?_ _
 go_wp2_with fail
 refine bodyPost_end (results_none Tryz.results74 _ _ _) rfl (HPost.out _ _ ⟨rfl, ?_, (HQ1.out.q HQ4.out).trans HQ5.out (by simp) (fun g h _ => h)⟩)
 rw [HD.out]
 exact HO5.out
end Go.Proofs.YthgpgbdkcdmbpaaGreatDoor
