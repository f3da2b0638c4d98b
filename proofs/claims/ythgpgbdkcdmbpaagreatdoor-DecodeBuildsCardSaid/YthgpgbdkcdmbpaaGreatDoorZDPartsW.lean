/- decode.parts: of any square whose levels read. Conditions: those; its kind is one. -/
import Derived.Test.YthgpgbdkcdmbpaaGreatDoorK9
import Derived.Test.YthgpgbdkcdmbpaaGreatDoorS6
import Derived.Test.YthgpgbdkcdmbpaaGreatDoorZDLay
import Derived.Deep.CutBlock
namespace Go.Proofs.YthgpgbdkcdmbpaaGreatDoor
open Go.RowKit
set_option linter.unusedVariables false
set_option linter.unusedSimpArgs false
theorem ListsAt.one {lo hi : Nat} {w : World} {b : Nat} {u : Value} {l : List Int} (hc : w.cell? ⟨b, 0, none⟩ = some u) (h : Ints .i64 lo hi w u l) : ListsAt lo hi w (.slice (some ⟨b, 0, none⟩) 1 1) [l] :=
 ⟨_, _, rfl, fun i hi => by
  obtain rfl : i = 0 := by simpa using hi
  exact ⟨b, 0, u, rfl, hc, h⟩⟩
def listsD (k : Int) (L : List Int) (S : List (List Int)) : List (List Int) := if k = 0 then [] else if k = 3 then [S.getD 0 [], S.getD 1 [], S.getD 2 [], S.getD 3 []] else [L]
def wideD (k : Int) : Int := if k = 3 then 16 else 64
def formD (k mo : Int) (ms : List Int) (vx vy : Int) : Bool := if k = 1 then (vpartB vx && vpartB vy) else if k = 2 then decide (0 ≤ mo ∧ mo ≤ 3) else if k = 3 then !(ms.any nmodeB) else true
/-- what is wrong with a square's parts -/
def partsC (ok : Bool) (n : Int) (ls : List (List Int)) : Option Int := if ok = false then some 3 else if ls.any (nlenB n) = true then some 14 else if ls.any nchkB = true then some 3 else none
theorem qDPartsW0 {p : Prop} (h : p := by
 refine tk 7 3 ?_
 refine wpAnyH_done (by kernel_rfl) ?_ _
 go_wp2_with fail
 go_meet
 exact ⟨by simp [formD], Lib.hid (by rw [show listsD 1 L S = [L] by simp [listsD]]; exact ListsAt.one hcell ((HIL.out.quiet HQ2.out).quiet oAll)), Lib.hid (HQ2.out.q oAll), Lib.hid (oAll.cell HZ4.out (by simp))⟩) : p := h
set_option maxRecDepth 100000 in
set_option maxHeartbeats 4000000 in
theorem dparts_any {lo hi : Nat} {w : World} {k mo : Int} {ms : List Int} {vx vy : Int} {lv : Value} {vs : List Value} {L : List Int} {S : List (List Int)} (hm : ms.length = 4) (h : SqIn lo hi w lv vs L S) (hhi : hi ≤ w.heap.size) (hk : 0 ≤ k ∧ k ≤ 3) (hmk : ∀ x ∈ ms, InK .i64 x)
  (hL : L.length ≤ 1000000000) (hS : ∀ i, i < 4 → (S.getD i []).length ≤ 1000000000) :
  Calls Tryz.prog 56 #[.agg (sqL k mo ms vx vy lv vs).toArray] w fun e w' => (∃ u, e = .returned u ∧ CodeV u (partsC (formD k mo ms vx vy) (wideD k) (listsD k L S))) ∧ Only [] w w' := by
 refine hidQ fun Q HPost => ?_
 have hkc : (sqL k mo ms vx vy lv vs).toArray[0]? = some (.int .i64 k) := sqL_kind
 have HSa : Hid ((sqL k mo ms vx vy lv vs).toArray = (sqL k mo ms vx vy lv vs).toArray) := Lib.hid rfl
 generalize hsa : (sqL k mo ms vx vy lv vs).toArray = sa at *
 have Hsa := Lib.hid hsa
 have Hm := Lib.hid hm
 have HI := Lib.hid h
 have hq2 : Only [] w ((w.alloc (.cells sa 64)).alloc (.cells #[.int .i64 64] 3)) := (Only.new w _).alloc _
 have HB1 : Hid (((w.alloc (.cells sa 64)).alloc (.cells #[.int .i64 64] 3)).heap[w.heap.size]? = some (.cells sa 64 (0, 0))) := Lib.hid ((Only.new _ _).row (heap_alloc_new w _))
 have HB4 : Hid (((w.alloc (.cells sa 64)).alloc (.cells #[.int .i64 64] 3)).heap[w.heap.size + 1]? = some (.cells #[.int .i64 64] 3 (0, 0))) := Lib.hid (heap_alloc_new' (by simp))
 have HQ2 := Lib.hid hq2
 have hk0 : (w.alloc (.cells sa 64)).cell? ⟨w.heap.size, 0, none⟩ = some (.int .i64 k) := by rw [cell_of_row _ _ _ _ _ _ (heap_alloc_new w _)]; exact hkc
 have hk1 : ((w.alloc (.cells sa 64)).alloc (.cells #[.int .i64 64] 3)).cell? ⟨w.heap.size, 0, none⟩ = some (.int .i64 k) := (Only.new _ _).cell hk0 (by simp)
 have HLl := Lib.hid hL
 have HSl := Lib.hid hS
 have Hk := Lib.hid hk
 have Hmk := Lib.hid hmk
 have Hhi := Lib.hid hhi
 clear hsa hm h hq2 hL hS hkc hk hmk hhi
 go_enter Tryz.func56, Tryz.ntmps56
 go_upto_block 0 with (fail)
 generalize hW2 : World.alloc (World.alloc w _) _ = W2 at *
 clear hW2
 go_cut [3, 5] (fun s3 s5 wx => s5 = .bool (formD k mo ms vx vy) ∧ Hid (ListsAt lo hi wx s3 (listsD k L S)) ∧ Hid (Only [] w wx) ∧ Hid (wx.cell? ⟨w.heap.size + 1, 0, none⟩ = some (.int .i64 (wideD k))))
 case first =>
  rcases (by have := Hk.out; omega : k = 0 ∨ k = 1 ∨ k = 2 ∨ k = 3) with rfl | rfl | rfl | rfl
  ·go_wp2_with fail
   go_meet
   exact ⟨by simp [formD], Lib.hid ⟨none, 0, by simp [listsD], by simp [listsD]⟩, HQ2, Lib.hid (by rw [cell_of_row _ _ 0 _ _ _ HB4.out]; rfl)⟩
  ·have cF := HB1.out
   have c8 : W2.cell? ⟨w.heap.size, 8, none⟩ = some lv := by rw [cell_of_row _ _ _ _ _ _ HB1.out, ← Hsa.out]; exact sqL_large Hm.out
   obtain ⟨la, lcap, rfl, -⟩ := HI.out.large.open
   have Hc8 := Lib.hid c8
   have hZ := cell_of_row _ _ 0 _ _ _ HB4.out
   have HZ4 : Hid (W2.cell? ⟨w.heap.size + 1, 0, none⟩ = some (.int .i64 64)) := Lib.hid hZ
   clear hZ cF
   generalize hLn : L.length = ln at *
   have HLn := Lib.hid hLn
   clear hLn
   have HIL := Lib.hid HI.out.large
   have c6 : W2.cell? ⟨w.heap.size, 6, none⟩ = some (.int .i64 vx) := by rw [cell_of_row _ _ _ _ _ _ HB1.out, ← Hsa.out]; obtain ⟨a, b, c, d, rfl⟩ := len4 Hm.out; rfl
   have c7 : W2.cell? ⟨w.heap.size, 7, none⟩ = some (.int .i64 vy) := by rw [cell_of_row _ _ _ _ _ _ HB1.out, ← Hsa.out]; obtain ⟨a, b, c, d, rfl⟩ := len4 Hm.out; rfl
   go_wp2_with fail
   refine wp_region_held_drew (S := (fun w' => w'.cell? ⟨w.heap.size, 6, none⟩ = some (.int .i64 vx) ∧ w'.cell? ⟨w.heap.size, 7, none⟩ = some (.int .i64 vy) ∧ w'.cell? ⟨w.heap.size, 8, none⟩ = some (.slice la ln lcap))) (by kernel_rfl) ?_ (fun hHeld => ?_)
   ·exact ⟨c6, c7, c8⟩
   refine tk 0 10 ?_
   refine tk 1 11 ?_
   refine tk 3 13 ?_
   refine tk 4 14 ?_
   refine rdy (rdc 2 12 (fun K hK => ?_) (rdc 5 15 (fun K hK => ?_) .nil))
   ·go_simp
    go_at_call 94
    refine (vmay_any vx vy _).mono ?_
    rintro e w3 ⟨rfl, hq3⟩
    have o3 := (Only.refl [] W2).drew.q hq3
    refine hK.out _ _ ?_ (fun hHeld => ?_)
    ·exact ⟨o3.cell c6 (by simp), o3.cell c7 (by simp), o3.cell c8 (by simp)⟩
    clear hK K
    try simp only [Act.put, List.setIfInBounds_toArray, List.set_cons_zero, List.set_cons_succ]
    refine tk 6 5 ?_
    refine rdy (rdc 5 15 (fun K hK => ?_) .nil)
    go_simp
    have oAll := o3.q (Only.new w3 (.cells #[.slice la ln lcap] 25))
    have hcell : (w3.alloc (.cells #[.slice la ln lcap] 25)).cell? ⟨w3.heap.size, 0, none⟩ = some (.slice la ln lcap) := by rw [cell_of_row _ _ 0 _ _ _ (heap_alloc_new w3 _)]; rfl
    refine hK.out _ _ ?_ (fun hHeld => ?_)
    ·exact ⟨oAll.cell c6 (by simp), oAll.cell c7 (by simp), oAll.cell c8 (by simp)⟩
    clear hK K
    try simp only [Act.put, List.setIfInBounds_toArray, List.set_cons_zero, List.set_cons_succ]
    exact qDPartsW0
   ·go_simp
    have oN := (Only.new W2 (.cells #[.slice la ln lcap] 25)).drew
    refine hK.out _ _ ?_ (fun hHeld => ?_)
    ·exact ⟨oN.cell c6 (by simp), oN.cell c7 (by simp), oN.cell c8 (by simp)⟩
    clear hK K
    try simp only [Act.put, List.setIfInBounds_toArray, List.set_cons_zero, List.set_cons_succ]
    refine rdy (rdc 2 12 (fun K hK => ?_) .nil)
    go_simp
    go_at_call 94
    refine (vmay_any vx vy _).mono ?_
    rintro e w3 ⟨rfl, hq3⟩
    have oAll := oN.q hq3
    have hcell : w3.cell? ⟨W2.heap.size, 0, none⟩ = some (.slice la ln lcap) := hq3.cell (by show (W2.alloc (.cells #[.slice la ln lcap] 25)).cell? _ = _; rw [cell_of_row _ _ 0 _ _ _ (heap_alloc_new W2 _)]; rfl) (by simp)
    refine hK.out _ _ ?_ (fun hHeld => ?_)
    ·exact ⟨oAll.cell c6 (by simp), oAll.cell c7 (by simp), oAll.cell c8 (by simp)⟩
    clear hK K
    try simp only [Act.put, List.setIfInBounds_toArray, List.set_cons_zero, List.set_cons_succ]
    refine tk 6 5 ?_
    exact qDPartsW0
  ·have cF := HB1.out
   have c8 : W2.cell? ⟨w.heap.size, 8, none⟩ = some lv := by rw [cell_of_row _ _ _ _ _ _ HB1.out, ← Hsa.out]; exact sqL_large Hm.out
   obtain ⟨la, lcap, rfl, -⟩ := HI.out.large.open
   have Hc8 := Lib.hid c8
   have hZ := cell_of_row _ _ 0 _ _ _ HB4.out
   have HZ4 : Hid (W2.cell? ⟨w.heap.size + 1, 0, none⟩ = some (.int .i64 64)) := Lib.hid hZ
   clear hZ cF
   generalize hLn : L.length = ln at *
   have HLn := Lib.hid hLn
   clear hLn
   have HIL := Lib.hid HI.out.large
   have c1 : W2.cell? ⟨w.heap.size, 1, none⟩ = some (.int .i64 mo) := by rw [cell_of_row _ _ _ _ _ _ HB1.out, ← Hsa.out]; rfl
   have hw0 : IntKind.i64.wrap 0 = 0 := by decide
   have hw3 : IntKind.i64.wrap 3 = 3 := by decide
   by_cases hx : 0 ≤ mo
   ·go_wp2_with fail
    refine wp_region_held_drew (S := (fun w' => w'.cell? ⟨w.heap.size, 1, none⟩ = some (.int .i64 mo) ∧ w'.cell? ⟨w.heap.size, 8, none⟩ = some (.slice la ln lcap))) (by kernel_rfl) ?_ (fun hHeld => ?_)
    ·exact ⟨c1, c8⟩
    refine tk 0 18 ?_
    refine tk 1 19 ?_
    refine tk 2 20 ?_
    refine tk 3 21 ?_
    refine tk 4 22 ?_
    refine tk 5 23 ?_
    refine tk 6 24 ?_
    refine tk 7 25 ?_
    refine tk 8 26 ?_
    refine tk 9 27 ?_
    refine tk 11 5 ?_
    refine rdy (rdc 10 28 (fun K hK => ?_) .nil)
    go_simp
    have oAll := (Only.refl [] W2).drew.q (Only.new W2.drew (.cells #[.slice la ln lcap] 25))
    have hcell : (W2.drew.alloc (.cells #[.slice la ln lcap] 25)).cell? ⟨W2.heap.size, 0, none⟩ = some (.slice la ln lcap) := by rw [show W2.heap.size = W2.drew.heap.size from rfl, cell_of_row _ _ 0 _ _ _ (heap_alloc_new W2.drew _)]; rfl
    refine hK.out _ _ ?_ (fun hHeld => ?_)
    ·exact ⟨oAll.cell c1 (by simp), oAll.cell c8 (by simp)⟩
    clear hK K
    try simp only [Act.put, List.setIfInBounds_toArray, List.set_cons_zero, List.set_cons_succ]
    refine tk 12 3 ?_
    refine wpAnyH_done (by kernel_rfl) ?_ _
    go_wp2_with fail
    go_meet
    exact ⟨by rw [show formD 2 mo ms vx vy = decide (0 ≤ mo ∧ mo ≤ 3) by simp [formD]]; simp [hx], Lib.hid (by rw [show listsD 2 L S = [L] by simp [listsD]]; exact ListsAt.one hcell ((HIL.out.quiet HQ2.out).quiet oAll)), Lib.hid (HQ2.out.q oAll), Lib.hid (oAll.cell HZ4.out (by simp))⟩
   ·have hx2 : mo < 0 := by omega
    have hxb : decide (0 ≤ mo) = false := by simp; omega
    go_wp2_with fail
    refine wp_region_held_drew (S := (fun w' => w'.cell? ⟨w.heap.size, 1, none⟩ = some (.int .i64 mo) ∧ w'.cell? ⟨w.heap.size, 8, none⟩ = some (.slice la ln lcap))) (by kernel_rfl) ?_ (fun hHeld => ?_)
    ·exact ⟨c1, c8⟩
    refine tk 0 18 ?_
    refine tk 1 19 ?_
    refine tk 2 20 ?_
    refine tk 3 21 ?_
    refine tkn 4 22 ?_
    refine tkn 5 23 ?_
    refine tkn 6 24 ?_
    refine tk 7 25 ?_
    refine tk 8 26 ?_
    refine tk 9 27 ?_
    refine tk 11 5 ?_
    refine rdy (rdc 10 28 (fun K hK => ?_) .nil)
    go_simp
    have oAll := (Only.refl [] W2).drew.q (Only.new W2.drew (.cells #[.slice la ln lcap] 25))
    have hcell : (W2.drew.alloc (.cells #[.slice la ln lcap] 25)).cell? ⟨W2.heap.size, 0, none⟩ = some (.slice la ln lcap) := by rw [show W2.heap.size = W2.drew.heap.size from rfl, cell_of_row _ _ 0 _ _ _ (heap_alloc_new W2.drew _)]; rfl
    refine hK.out _ _ ?_ (fun hHeld => ?_)
    ·exact ⟨oAll.cell c1 (by simp), oAll.cell c8 (by simp)⟩
    clear hK K
    try simp only [Act.put, List.setIfInBounds_toArray, List.set_cons_zero, List.set_cons_succ]
    refine tk 12 3 ?_
    refine wpAnyH_done (by kernel_rfl) ?_ _
    go_wp2_with fail
    go_meet
    exact ⟨by rw [show formD 2 mo ms vx vy = decide (0 ≤ mo ∧ mo ≤ 3) by simp [formD]]; simp [hx]; try omega, Lib.hid (by rw [show listsD 2 L S = [L] by simp [listsD]]; exact ListsAt.one hcell ((HIL.out.quiet HQ2.out).quiet oAll)), Lib.hid (HQ2.out.q oAll), Lib.hid (oAll.cell HZ4.out (by simp))⟩
  ·have c9 : ∀ i, i < 4 → W2.cell? ⟨w.heap.size, 9 + i, none⟩ = some (vs.getD i nilS) := fun i hi => by rw [cell_of_row _ _ _ _ _ _ HB1.out, ← Hsa.out]; exact sqL_small Hm.out HI.out.len hi
   have c2 : ∀ i, i < 4 → W2.cell? ⟨w.heap.size, 2 + i, none⟩ = some (.int .i64 (ms.getD i 0)) := fun i hi => by rw [cell_of_row _ _ _ _ _ _ HB1.out, ← Hsa.out]; exact sqL_mode Hm.out hi
   obtain ⟨m0, m1, m2, m3, rfl⟩ := len4 Hm.out
   have hon : Only [w.heap.size + 1] W2 (W2.setCell ⟨w.heap.size + 1, 0, none⟩ (.int .i64 16)) := (Only.refl _ _).setCell (by simp) _
   have hrow := heap_setCell_same W2 (w.heap.size + 1) 0 _ _ (.int .i64 16) HB4.out
   have Hc16 : Hid ((W2.setCell ⟨w.heap.size + 1, 0, none⟩ (.int .i64 16)).cell? ⟨w.heap.size + 1, 0, none⟩ = some (.int .i64 16)) := Lib.hid (by rw [cell_of_row _ _ 0 _ _ _ hrow]; rfl)
   have Hon := Lib.hid hon
   have HC9 := Lib.hid c9
   have HC2 := Lib.hid c2
   have f4 := frozen_of_row _ _ 0 _ _ HB4.out
   have g4 : W2.cell? ⟨w.heap.size + 1, 0, none⟩ = some (.int .i64 64) := by rw [cell_of_row _ _ 0 _ _ _ HB4.out]; rfl
   have hlt4 : w.heap.size + 1 < W2.heap.size := block_lt_of_cell g4
   have HLt := Lib.hid hlt4
   clear hon hrow c9 c2 hlt4
   go_wp2_with fail
   refine wp_region_held_drew (S := (fun _ => True)) (by kernel_rfl) ?_ (fun hHeld => ?_)
   ·trivial
   refine tk 0 31 ?_
   refine tk 1 32 ?_
   refine rdy (rdn 2 (fun K hK => ?_) .nil)
   go_simp
   refine hK.out _ _ ?_ (fun hHeld => ?_)
   ·trivial
   clear hK K
   try simp only [Act.put, List.setIfInBounds_toArray, List.set_cons_zero, List.set_cons_succ]
   refine tk 3 3 ?_
   refine wpAnyH_done (by kernel_rfl) ?_ _
   go_wp2_with fail
   have hoD : Only [w.heap.size + 1] W2 (W2.setCell ⟨w.heap.size + 1, 0, none⟩ (.int .i64 16)).drew := Hon.out.drew
   have hIn : Ints .i64 0 W2.heap.size (W2.setCell ⟨w.heap.size + 1, 0, none⟩ (.int .i64 16)).drew (.slice (some ⟨w.heap.size, 2, none⟩) 4 4) [m0, m1, m2, m3] := ⟨⟨rfl, some ⟨w.heap.size, 2, none⟩, 4, rfl, Nat.le_refl _, by decide, fun _ => ⟨w.heap.size, 2, rfl, Nat.zero_le _, by have := HLt.out; omega, fun j u hu => by
    obtain ⟨hj, rfl⟩ := intsAt hu
    exact hoD.cell (HC2.out j hj) (by simp)⟩⟩, Hmk.out⟩
   have HCo := Lib.hid (containsM_any hIn (by simp))
   have HoD := Lib.hid hoD
   have hFm : formD 3 mo [m0, m1, m2, m3] vx vy = !([m0, m1, m2, m3].any nmodeB) := by simp [formD]
   have HFm := Lib.hid hFm
   clear hIn hoD hFm
   generalize [m0, m1, m2, m3].any nmodeB = bb at *
   go_at_call 75
   refine HCo.out.mono ?_
   rintro e w3 ⟨rfl, hq3⟩
   have Hq3 := Lib.hid hq3
   clear hq3
   go_wp2_with fail
   go_meet
   exact ⟨by rw [HFm.out], Lib.hid (by
    rw [show listsD 3 L S = [S.getD 0 [], S.getD 1 [], S.getD 2 [], S.getD 3 []] by simp [listsD]]
    refine ⟨_, _, rfl, fun i hi => ⟨w.heap.size, 9, vs.getD i nilS, rfl, Hq3.out.cell (HoD.out.cell (HC9.out i hi) (by simp)) (by simp), ?_⟩⟩
    have hI := (((HI.out.small i hi).quiet HQ2.out).only HoD.out (fun g hg => by rw [List.mem_singleton] at hg; right; have := Hhi.out; omega)).quiet Hq3.out
    match i, hi with
    | 0, _ => exact hI
    | 1, _ => exact hI
    | 2, _ => exact hI
    | 3, _ => exact hI), Lib.hid (HQ2.out.trans (HoD.out.trans Hq3.out (U := [w.heap.size + 1]) (by simp) (by simp)) (U := []) (by simp) (fun x hx hl => by rw [List.mem_singleton] at hx; omega)), Lib.hid (Hq3.out.cell Hc16.out (by simp))⟩
 case rest =>
  obtain ⟨rfl, HLs, HQ3, HB⟩ := hcut
  have HlL : Hid ((listsD k L S).length ≤ 1000000000) := Lib.hid (by unfold listsD; repeat' split; all_goals simp)
  have HlS : Hid (∀ j, j < (listsD k L S).length → ((listsD k L S).getD j []).length ≤ 1000000000) := Lib.hid (by
   intro j hj
   unfold listsD at hj ⊢
   split
   ·simp
   ·split
    ·match j with
     | 0 => exact HSl.out 0 (by omega)
     | 1 => exact HSl.out 1 (by omega)
     | 2 => exact HSl.out 2 (by omega)
     | 3 => exact HSl.out 3 (by omega)
     | n + 4 => simp
    ·match j with
     | 0 => exact HLl.out
     | n + 1 => simp)
  have HN := Lib.hid (containsN_any (wideD k) HLs.out HlL.out HB.out)
  have HC := Lib.hid (fun (wx : World) (o : Only [] wc wx) => containsC_any (HLs.out.quiet o) HlL.out HlS.out)
  have HP : Hid (partsC (formD k mo ms vx vy) (wideD k) (listsD k L S) = if formD k mo ms vx vy = false then some 3 else if (listsD k L S).any (nlenB (wideD k)) = true then some 14 else if (listsD k L S).any nchkB = true then some 3 else none) := Lib.hid rfl
  obtain ⟨la, lcap, rfl, -⟩ := HLs.out
  generalize formD k mo ms vx vy = ok at *
  generalize (listsD k L S).any (nlenB (wideD k)) = b1 at *
  generalize (listsD k L S).any nchkB = b2 at *
  generalize partsC ok (wideD k) (listsD k L S) = res at *
  generalize (listsD k L S).length = n at *
  have hmf : ∀ (fn : Fn) (first cap : Array Value) (W : World), (Instr.makeFunc fn first cap).run Tryz.prog W = .ok (.func fn first cap) W := fun _ _ _ _ => rfl
  cases ok with
  | false =>
   go_wp2_with fail
   exact HPost.out _ _ ⟨⟨_, rfl, by rw [HP.out]; rfl⟩, HQ3.out⟩
  | true =>
   go_wp2_with fail
   go_at_call 96
   refine HN.out.mono ?_
   rintro e w4 ⟨rfl, hq4⟩
   have HQ4 := Lib.hid (HQ3.out.q hq4)
   have HC4 := Lib.hid (HC.out w4 hq4)
   clear hq4
   cases b1 with
   | true =>
    go_wp2_with fail
    exact HPost.out _ _ ⟨⟨_, rfl, by rw [HP.out]; rfl⟩, HQ4.out⟩
   | false =>
    go_wp2_with fail
    go_at_call 96
    refine HC4.out.mono ?_
    rintro e w5 ⟨rfl, hq5⟩
    have HQ5 := Lib.hid (HQ4.out.q hq5)
    clear hq5
    cases b2 with
    | true =>
     go_wp2_with fail
     exact HPost.out _ _ ⟨⟨_, rfl, by rw [HP.out]; rfl⟩, HQ5.out⟩
    | false =>
     go_wp2_with fail
     exact HPost.out _ _ ⟨⟨_, rfl, by rw [HP.out]; rfl⟩, HQ5.out⟩
end Go.Proofs.YthgpgbdkcdmbpaaGreatDoor
