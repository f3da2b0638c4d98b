/- The document's quantiser: kinref.Err.OK, kinref9.Step, Value, Values. Conditions: a good step's number, good levels. -/
import Derived.Test.YthgpgbdkcdmbpaaGreatDoorT1
import Derived.Test.YthgpgbdkcdmbpaaGreatDoorR1
import Derived.Test.YthgpgbdkcdmbpaaGreatDoorK7
import Derived.Test.YthgpgbdkcdmbpaaGreatDoorZDFrA
import Derived.Test.YthgpgbdkcdmbpaaGreatDoorC4
namespace Go.Proofs.YthgpgbdkcdmbpaaGreatDoor
open Go.RowKit
set_option linter.unusedVariables false
set_option linter.unusedSimpArgs false
set_option maxRecDepth 100000
set_option maxHeartbeats 16000000
theorem row2_set {w : World} {g : Nat} {a b x y : Value} {t : TypeId} (h : w.heap[g]? = some (.cells #[a, b] t (0, 0))) :
  ((w.setCell ⟨g, 0, none⟩ x).setCell ⟨g, 1, none⟩ y).heap[g]? = some (.cells #[x, y] t (0, 0)) ∧ Only [g] w ((w.setCell ⟨g, 0, none⟩ x).setCell ⟨g, 1, none⟩ y) := by
 have h1 := heap_setCell_same w g 0 _ _ x h
 have h2 := heap_setCell_same _ g 1 _ _ y h1
 exact ⟨h2, ((Only.refl _ _).setCell (by simp) _).setCell (by simp) _⟩
theorem results_tmp_cell {P : Program} {fn : Func} {p q : Tmp} {ty : TypeId} (h : fn.results = #[.tmp q, .cell p ty]) (tmps : Array Value) (w : World) (g : Nat) (t : TypeId) (cs : Array Value) (fr : Nat × Nat) (d : TypeDesc) (v : Value)
  (hp : tmps.getD p undef = .pointer (some ⟨g, 0, none⟩)) (hq : tmps.getD q undef = v) (hg : w.heap[g]? = some (.cells cs t fr))
  (hu : P.underlying ty = some d) (hd : (match d with | .struct _ | .array _ _ => true | _ => false) = true) (hi : (P.info? ty).map (·.size) = some cs.size) :
  (results fn tmps).run P w = .ok (.tuple #[v, .agg cs]) w := by
 have hp' : tmps[p]?.getD undef = .pointer (some ⟨g, 0, none⟩) := by simpa using hp
 have hq' : tmps[q]?.getD undef = v := by simpa using hq
 simp [results, h, hp', hq', asAddr, run_loadVar_row w g t ty cs fr d hg hu hd hi]
theorem err_info (cs : Array Value) (h : cs.size = 2) : (Tryz.prog.info? 45).map (·.size) = some cs.size := by rw [h]; kernel_rfl
theorem steps_cell (n : Nat) (hn : n ≤ 15) : stepsV[n]? = some (.int .i64 (stepD n)) := by
 rcases upto15 hn with rfl | rfl | rfl | rfl | rfl | rfl | rfl | rfl | rfl | rfl | rfl | rfl | rfl | rfl | rfl | rfl <;> rfl
section
theorem kok_any (c : Int) (x : Value) (w : World) : Calls Tryz.prog 43 #[.agg #[.int .i64 c, x]] w fun e w' => e = .returned (.bool (c == 0)) ∧ Only [] w w' := by
 have HQ := lh (Only.new w (.cells #[.int .i64 c, x] 45))
 go_enter Tryz.func43, Tryz.ntmps43
 go_wp2
 go_ret
 exact ⟨rfl, HQ.out⟩
theorem kstep_any (n : Nat) (hn : n ≤ 15) (w : World) : Calls Tryz.prog 159 #[.int .i64 n] w fun e w' => (e = .returned (.tuple #[.int .i64 (stepD n), .agg #[.int .i64 0, .slice none 0 0]]) ∧ Only [] w w') := by
 refine hidQ fun Q HPost => ?_
 have h0 : ¬ (n : Int) < 0 := by omega
 have h1 : ¬ (15 : Int) < n := by omega
 have h2 : (0 : Int) ≤ n := by omega
 have h3 : (n : Int) < 16 := by omega
 have hg := steps_cell n hn
 unfold stepsV at hg
 have hq1 := Only.new w (.cells #[.int .i64 0, .slice none 0 0] 45)
 have HR1 : Hid ((w.alloc (.cells #[.int .i64 0, .slice none 0 0] 45)).heap[w.heap.size]? = some (.cells #[.int .i64 0, .slice none 0 0] 45 (0, 0))) := lh (heap_alloc_new w _)
 have HQ1 := lh hq1
 clear hq1 hn
 generalize stepD n = st at *
 go_enter Tryz.func159, Tryz.ntmps159
 go_wp2_with fail
 have hr2 := (Only.new (w.alloc (.cells #[.int .i64 0, .slice none 0 0] 45)) (.cells stepsV 3)).row HR1.out
 exact bodyPost_ret (v := .tuple #[.int .i64 st, .agg #[.int .i64 0, .slice none 0 0]]) (results_tmp_cell Tryz.results159 _ _ w.heap.size _ _ _ _ _ rfl rfl hr2 Tryz.underlying45 rfl (err_info _ rfl)) rfl (HPost.out _ _ ⟨rfl, HQ1.out.q (Only.new _ _)⟩)
theorem kvalue_any (v : Int) (n : Nat) (hn : n ≤ 15) (hv : -16320 ≤ v ∧ v ≤ 16320) (w : World) : Calls Tryz.prog 160 #[.int .i64 v, .int .i64 n] w fun e w' => (e = .returned (.tuple #[.int .i64 (v * stepD n), .agg #[.int .i64 0, .slice none 0 0]]) ∧ Only [] w w') := by
 refine hidQ fun Q HPost => ?_
 have h0 : ¬ v < -16320 := by omega
 have h1 : ¬ (16320 : Int) < v := by omega
 have hs := stepD_in hn
 have hw : InK .i64 (v * stepD n) := by have := value_in hv hs; simp only [InK]; omega
 have hwm : IntKind.i64.wrap (v * stepD n) = v * stepD n := by have := value_in hv hs; rw [IntKind.wrap_i64]; omega
 have hq1 := Only.new w (.cells #[.int .i64 0, .slice none 0 0] 45)
 have HR1 : Hid ((w.alloc (.cells #[.int .i64 0, .slice none 0 0] 45)).heap[w.heap.size]? = some (.cells #[.int .i64 0, .slice none 0 0] 45 (0, 0))) := lh (heap_alloc_new w _)
 have HQ1 := lh hq1
 have HS := lh (fun W => kstep_any n hn W)
 clear hq1 hn hs
 generalize stepD n = st at *
 go_enter Tryz.func160, Tryz.ntmps160
 go_wp2_with fail
 have Hz1 : Hid ((w.alloc (.cells #[.int .i64 0, .slice none 0 0] 45)).heap.size = w.heap.size + 1) := lh (by simp)
 generalize hW1 : World.alloc w _ = W1 at *
 clear hW1
 go_at_call 159
 refine (HS.out W1).mono ?_
 rintro e w2 ⟨rfl, hq2⟩
 have hq3 := hq2.q (Only.new w2 (.cells #[.int .i64 0, .slice none 0 0] 45))
 have HR2 : Hid ((w2.alloc (.cells #[.int .i64 0, .slice none 0 0] 45)).heap[w2.heap.size]? = some (.cells #[.int .i64 0, .slice none 0 0] 45 (0, 0))) := lh (heap_alloc_new w2 _)
 have HR1 := lh (hq3.row HR1.out)
 have HQ3 := lh (HQ1.out.q hq3)
 have Hne : Hid (¬ w2.heap.size = w.heap.size) := lh (by have := hq2.size; have := Hz1.out; omega)
 clear hq2 hq3
 go_wp2_with fail
 generalize hW3 : World.alloc w2 _ = W3 at *
 clear hW3
 go_at_call 43
 refine (kok_any _ _ _).mono ?_
 rintro e w4 ⟨rfl, hq4⟩
 have HQ4 := lh (HQ3.out.q hq4)
 have HR24 := lh (hq4.row HR2.out)
 have HR14 := lh (hq4.row HR1.out)
 obtain ⟨e0, e1, -⟩ := row2 HR24.out
 obtain ⟨z0, z1, y0, y1, -⟩ := row2 HR14.out
 clear hq4
 go_wp2_with fail
 obtain ⟨hrow, hon⟩ := row2_set (x := .int .i64 0) (y := .slice none 0 0) HR14.out
 have hne := Hne.out
 have hall := (HQ4.out.trans hon (U := []) (by simp) (fun g hg hlt => by rw [mSg] at hg; omega))
 refine wp_region_held_drew (S := (fun w' => w'.cell? ⟨w2.heap.size, 0, none⟩ = some (.int .i64 0) ∧ w'.cell? ⟨w2.heap.size, 1, none⟩ = some (.slice none 0 0))) (by kernel_rfl) ?_ (fun hHeld => ?_)
 ·exact ⟨e0, e1⟩
 refine tk 0 25 ?_
 refine tk 1 26 ?_
 refine tk 2 27 ?_
 refine tk 3 28 ?_
 refine tk 4 4 ?_
 refine rdy (rdn 5 (fun K hK => ?_) .nil)
 go_simp
 refine hK.out _ _ ?_ (fun hHeld => ?_)
 ·exact ⟨hon.cell e0 (by rw [mSg]; exact hne), hon.cell e1 (by rw [mSg]; exact hne)⟩
 clear hK K
 try simp only [Act.put, List.setIfInBounds_toArray, List.set_cons_zero, List.set_cons_succ]
 refine wpAnyH_done (by kernel_rfl) ?_ _
 go_wp2_with fail
 exact bodyPost_ret (v := .tuple #[.int .i64 (v * st), .agg #[.int .i64 0, .slice none 0 0]]) (results_tmp_cell Tryz.results160 _ _ w.heap.size _ _ _ _ _ rfl rfl hrow Tryz.underlying45 rfl (err_info _ rfl)) rfl (HPost.out _ _ ⟨rfl, hall.drew⟩)
theorem kvalues_any {lo hi : Nat} {v : Value} {l : List Int} {w : World} (h : Ints .i64 lo hi w v l) (hl : l.length ≤ 64) (hlev : LevOk l) (n : Nat) (hn : n ≤ 15) : Calls Tryz.prog 133 #[v, .int .i64 n] w fun e w' => ((∃ v', e = .returned (.tuple #[v', .agg #[.int .i64 0, .slice none 0 0]]) ∧ Own .i64 3 w.heap.size w' v' (valuesD l n)) ∧ Only [] w w') := by
 refine hidQ fun Q HPost => ?_
 obtain ⟨la, lcap, rfl, -, -, hat, hcell⟩ := h.open
 have Hat := lh hat
 have Hcell := lh hcell
 have hs := stepD_in hn
 have hq1 := Only.new w (.cells #[.int .i64 0, .slice none 0 0] 45)
 have HR1 : Hid ((w.alloc (.cells #[.int .i64 0, .slice none 0 0] 45)).heap[w.heap.size]? = some (.cells #[.int .i64 0, .slice none 0 0] 45 (0, 0))) := lh (heap_alloc_new w _)
 have Hz1 : Hid ((w.alloc (.cells #[.int .i64 0, .slice none 0 0] 45)).heap.size = w.heap.size + 1) := lh (by simp)
 have HQ1 := lh hq1
 have HS := lh (fun W => kstep_any n hn W)
 have HV := lh (fun (x : Int) (hx : -16320 ≤ x ∧ x ≤ 16320) (W : World) => kvalue_any x n hn hx W)
 have HD : Hid (valuesD l n = l.map fun v => v * stepD n) := lh rfl
 have Hlev := lh hlev
 clear h hat hcell hq1 hn hlev
 generalize valuesD l n = VD at *
 generalize stepD n = st at *
 go_enter Tryz.func133, Tryz.ntmps133
 go_wp2_with fail
 generalize hW1 : World.alloc w _ = W1 at *
 clear hW1
 go_at_call 159
 refine (HS.out W1).mono ?_
 rintro e w2 ⟨rfl, hq2⟩
 have hq3 := hq2.q (Only.new w2 (.cells #[.int .i64 0, .slice none 0 0] 45))
 have HR3 : Hid ((w2.alloc (.cells #[.int .i64 0, .slice none 0 0] 45)).heap[w2.heap.size]? = some (.cells #[.int .i64 0, .slice none 0 0] 45 (0, 0))) := lh (heap_alloc_new w2 _)
 have HE3 := lh (hq3.row HR1.out)
 have HQ3 := lh (HQ1.out.q hq3)
 have Hz3 : Hid (w.heap.size < w2.heap.size ∧ (w2.alloc (.cells #[.int .i64 0, .slice none 0 0] 45)).heap.size = w2.heap.size + 1) := lh ⟨by have := hq2.size; have := Hz1.out; omega, by simp⟩
 clear hq2 hq3 HQ1 HR1 Hz1
 go_wp2_with fail
 generalize hW3 : World.alloc w2 _ = W3 at *
 clear hW3
 generalize w2.heap.size = B at *
 go_loopw [9, 8, 10, 11] (fun i y _ _ wr => ∃ k : Nat, k ≤ l.length ∧ i = .int .i64 k ∧ Hid (Own .i64 3 W3.heap.size wr y ((l.take k).map fun v => v * st)) ∧ Hid (From W3.heap.size y) ∧ Hid (Only [] w wr) ∧ Hid (W3.heap.size ≤ wr.heap.size) ∧ Hid (wr.heap[B]? = some (.cells #[.int .i64 0, .slice none 0 0] 45 (0, 0))) ∧ Hid (wr.heap[w.heap.size]? = some (.cells #[.int .i64 0, .slice none 0 0] 45 (0, 0)))) (fun i _ _ _ _ => l.length - (intOf i).toNat)
 case atStart => exact ⟨0, by omega, rfl, lh (Own.nil _ _ _ _), lh (From.nil _), HQ3, lh (Nat.le_refl _), HR3, HE3⟩
 case round =>
  obtain ⟨k, hk, rfl, HOk, HFk, HQk, HZk, HBk, HEk⟩ := hrel
  obtain ⟨e0, e1, -⟩ := row2 HBk.out
  by_cases hlt : k < l.length
  ·have hki : (k : Int) < (l.length : Int) := by omega
   have hk0 : (0 : Int) ≤ (k : Int) := by omega
   obtain ⟨b, off, rfl, _, _⟩ := Hat.out k hlt
   have hx : -16320 ≤ l.getD k 0 ∧ l.getD k 0 ≤ 16320 := Hlev.out _ (by rw [List.getD_eq_getElem?_getD, List.getElem?_eq_getElem hlt]; exact List.getElem_mem _)
   have Htake : Hid ((l.take (k + 1)).map (fun v => v * st) = (l.take k).map (fun v => v * st) ++ [l.getD k 0 * st]) := lh (by
    rw [List.take_succ_eq_append_getElem hlt, List.map_append, List.getD_eq_getElem?_getD, List.getElem?_eq_getElem hlt]; rfl)
   have Hc := lh (Hcell.out b off rfl k hlt)
   generalize l.getD k 0 = x at *
   have hxs := value_in hx hs
   have hin : ∀ y ∈ [x * st], InK .i64 y := by simp only [mSg, forall_eq, InK]; omega
   have hsrc := lh (fun (W : World) => ints_newG (k := .i64) (w := W) (t := 3) (l := [x * st]) rfl (by simp [maxLen]) hin 1 rfl rfl)
   have hby := lh (show (((l.take k).map fun v => v * st).length + [x * st].length) * 8 ≤ 140737488355328 by simp; omega)
   have Hlen := lh (show (((l.take k).map fun v => v * st) ++ [x * st]).length = k + 1 by simp; omega)
   obtain ⟨ra, rcap, rfl, -⟩ := HOk.out.ints.open
   have hlk : ((l.take k).map fun v => v * st).length = k := by simp; omega
   rw [hlk] at HOk HFk ⊢
   have Hx := lh hx
   clear hin hlk hx hxs
   go_wp2_with fail
   go_at_call 43
   refine (kok_any _ _ _).mono ?_
   rintro e w4 ⟨rfl, hq4⟩
   have hc := (HQk.out.q hq4).cell Hc.out (by simp)
   have Hq4 := lh hq4
   clear hq4 e0 e1
   go_wp2_with fail
   go_at_call 160
   refine (HV.out x Hx.out _).mono ?_
   rintro e w5 ⟨rfl, hq5⟩
   have hq45 := Hq4.out.q hq5
   have HQ5 := lh (HQk.out.q hq45)
   have HO5 := lh (HOk.out.quiet hq45)
   have hn5 := (Only.new w5 (.cells #[.int .i64 0, .slice none 0 0] 45)).q (Only.new _ (.cells #[.int .i64 (x * st)] 3))
   have HB5 := lh ((hq45.q hn5).row HBk.out)
   have HE5 := lh ((hq45.q hn5).row HEk.out)
   have H11 := lh ((Only.new (w5.alloc (.cells #[.int .i64 0, .slice none 0 0] 45)) (.cells #[.int .i64 (x * st)] 3)).row (heap_alloc_new w5 (.cells #[.int .i64 0, .slice none 0 0] 45)))
   have Hnb : Hid (¬ w5.heap.size ∈ (Value.slice ra k rcap).ownBlock.toList) := lh (fun hm => by have := (HO5.out.at w5.heap.size (by simpa using hm)).2; omega)
   have HBlt : Hid (B < W3.heap.size) := lh (by have := Hz3.out; omega)
   have HElt : Hid (w.heap.size < W3.heap.size) := lh (by have := Hz3.out; omega)
   have HN5 := lh hn5
   have hba := lh (show W3.heap.size ≤ ((w5.alloc (.cells #[.int .i64 0, .slice none 0 0] 45)).alloc (.cells #[.int .i64 (x * st)] 3)).heap.size by have := HZk.out; have := hq45.size; have := hn5.size; omega)
   have hsrc5 := hsrc.out (w5.alloc (.cells #[.int .i64 0, .slice none 0 0] 45))
   rw [World.size_alloc] at hsrc5
   have Hsrc5 := lh hsrc5
   clear hq5 hq45 hc hn5 hsrc5
   go_wp2_with (first
    | (at_builtin; refine wpList_append_ints rfl (.tmp 36) (.tmp 38) _ rfl EI (HO5.out.quiet ((Only.new w5 (.cells #[.int .i64 0, .slice none 0 0] 45)).q (Only.new _ _))) rfl Hsrc5.out rfl hby.out hba.out (fun v1 w6 hown1 ho1 => ?_); obtain ⟨x1, x1cap, hx1, _⟩ := hown1.ints.open; subst hx1; rw [Hlen.out] at hown1 ho1 ⊢; have HO1 := lh hown1; have HA1 := lh ho1; have hr11 := ho1.only.rowAt H11.out Hnb.out; have hr7 := ho1.row HFk.out HB5.out HBlt.out; have hre := ho1.row HFk.out HE5.out HElt.out; have HB6 := lh hr7; have HE6 := lh hre; obtain ⟨q0, q1, -⟩ := row2 hr11; obtain ⟨n0, n1, m0, m1, -⟩ := row2 hr7; clear hown1 ho1 hr11 hr7 hre)
    | fail)
   obtain ⟨hrow, hon⟩ := row2_set (x := .int .i64 0) (y := .slice none 0 0) HB6.out
   have hfr := HA1.out.from_ HFk.out hba.out
   have hz6 := HA1.out.only.size
   refine ⟨⟨k + 1, by omega, by go_num, lh ?_, lh hfr, lh ?_, lh ?_, lh hrow, lh (hon.rowAt HE6.out (by rw [mSg]; have := Hz3.out; omega))⟩, by simp [intOf]; omega⟩
   ·rw [Htake.out]
    exact HO1.out.only hon (fun g hg hh => by rw [mSg] at hg; subst hg; have := hfr _ hh; have := HBlt.out; omega)
   ·exact ((HQ5.out.q HN5.out).trans HA1.out.only (U := []) (by simp) (fun g hg hlt => by have := HFk.out g (by simpa using hg); have := HElt.out; omega)).trans hon (U := []) (by simp) (fun g hg hlt => by rw [mSg] at hg; have := Hz3.out; omega)
   ·exact Nat.le_trans (Nat.le_trans hba.out hz6) hon.size
  ·obtain rfl : k = l.length := by omega
   have hki : ¬ (l.length : Int) < (l.length : Int) := by omega
   rw [List.take_length] at HOk
   go_wp2_with fail
   go_at_call 43
   refine (kok_any _ _ _).mono ?_
   rintro e w4 ⟨rfl, hq4⟩
   have HO4 := lh (HOk.out.quiet hq4)
   have HQ4 := lh (HQk.out.q hq4)
   have HE4 := lh (hq4.row HEk.out)
   have HB4 := lh (hq4.row HBk.out)
   clear hq4 e0 e1
   obtain ⟨e0, e1, -⟩ := row2 HB4.out
   go_wp2_with fail
   go_at_call 43
   refine (kok_any _ _ _).mono ?_
   rintro e w5 ⟨rfl, hq5⟩
   have HO5 := lh (HO4.out.quiet hq5)
   have HQ5 := lh (HQ4.out.q hq5)
   have HE5 := lh (hq5.row HE4.out)
   have HB5 := lh (hq5.row HB4.out)
   clear hq5 e0 e1
   obtain ⟨e0, e1, -⟩ := row2 HB5.out
   obtain ⟨z0, z1, y0, y1, -⟩ := row2 HE5.out
   go_wp2_with fail
   obtain ⟨hrow, hon⟩ := row2_set (x := .int .i64 0) (y := .slice none 0 0) HE5.out
   have hne : ¬ B = w.heap.size := by have := Hz3.out; omega
   have hall := (HQ5.out.trans hon (U := []) (by simp) (fun g hg hlt => by rw [mSg] at hg; omega))
   refine wp_region_held_drew (S := (fun w' => w'.cell? ⟨B, 0, none⟩ = some (.int .i64 0) ∧ w'.cell? ⟨B, 1, none⟩ = some (.slice none 0 0))) (by kernel_rfl) ?_ (fun hHeld => ?_)
   ·exact ⟨e0, e1⟩
   refine tk 0 45 ?_
   refine tk 1 46 ?_
   refine tk 2 4 ?_
   refine rdy (rdn 3 (fun K hK => ?_) .nil)
   go_simp
   refine hK.out _ _ ?_ (fun hHeld => ?_)
   ·exact ⟨hon.cell e0 (by rw [mSg]; exact hne), hon.cell e1 (by rw [mSg]; exact hne)⟩
   clear hK K
   try simp only [Act.put, List.setIfInBounds_toArray, List.set_cons_zero, List.set_cons_succ]
   refine wpAnyH_done (by kernel_rfl) ?_ _
   go_wp2_with fail
   refine bodyPost_ret (results_tmp_cell Tryz.results133 _ _ w.heap.size _ _ _ _ _ rfl rfl hrow Tryz.underlying45 rfl (err_info _ rfl)) rfl (HPost.out _ _ ⟨⟨_, rfl, ?_⟩, hall.drew⟩)
   rw [HD.out]
   exact ((HO5.out.only hon (fun g hg hh => by rw [mSg] at hg; subst hg; have := HFk.out _ hh; have := Hz3.out; omega)).quiet (Only.refl _ _).drew).lower (by have := Hz3.out; omega)
end
end Go.Proofs.YthgpgbdkcdmbpaaGreatDoor
