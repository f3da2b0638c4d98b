/- What the document foretells by neighbours: kinref10.Predict. Conditions: samples, a mode that may be. -/
import Derived.Test.YthgpgbdkcdmbpaaGreatDoorZDREd
import Derived.Test.YthgpgbdkcdmbpaaGreatDoorR2
namespace Go.Proofs.YthgpgbdkcdmbpaaGreatDoor
open Go.RowKit
set_option linter.unusedVariables false
set_option linter.unusedSimpArgs false
theorem predD_next {mode corner : Int} {top left : List Int} {k : Nat} (hk : k < top.length * top.length) : (predD mode top left corner).take (k + 1) = (predD mode top left corner).take k ++ [predAt mode top left corner k] := by
 rw [List.take_succ_eq_append_getElem (by rw [predD_len]; exact hk)]
 congr 2
 simp [predD]
section
set_option maxRecDepth 100000
set_option maxHeartbeats 4000000
theorem qDRPd3 {p : Prop} (h : p := by
 go_wp2_with (first
   | (at_builtin; refine wpList_append_ints rfl (.tmp 115) (.tmp 117) _ rfl EI (HOk.out.quiet ((Only.refl [] wr).drew.q (Only.new _ _))) rfl (hsrc.out _) rfl hby.out hba.out (fun v1 w6 hown1 ho1 => ?_); obtain ⟨x1, x1cap, hx1, _⟩ := hown1.ints.open; subst hx1; rw [Hlen.out] at hown1 ho1 ⊢; have HO1 := Lib.hid hown1; have HA1 := Lib.hid ho1; clear hown1 ho1)
   | fail)
 refine ⟨⟨k + 1, by have := Hlt.out; omega, by go_num, Lib.hid (by rw [Hnx.out]; exact HO1.out), Lib.hid (HA1.out.from_ HFk.out hba.out), Lib.hid ((HQr.out.drew.q (Only.new _ _)).acc HA1.out HFk.out)⟩, by simp [intOf]; have := Hlt.out; omega⟩) : p := h
theorem qDRPd0 {p : Prop} (h : p := by
 have hVb : 0 ≤ V ∧ V ≤ 255 * 4 := by have := Hmb.out; omega
 have eV : IntKind.i64.wrap V = V := by rw [IntKind.wrap_i64]; omega
 have hmm := Hm.out
 have hcc := Hc.out
 have Hlt := Lib.hid hlt
 clear e2 e4 hnn bM bD hV hlt
 generalize hpq : predAt mode top left corner k = q at *
 have hqe : (mode = 0 → q = V) ∧ (mode = 1 → q = t) ∧ (mode = 2 → q = l) ∧ (mode = 3 → q = clipD (l + t - corner)) := ⟨fun h => by subst h; rw [← hpq, hp0, hVd]; rfl, fun h => by subst h; rw [← hpq, hp1], fun h => by subst h; rw [← hpq, hp2], fun h => by subst h; rw [← hpq, hp3]⟩
 clear hp0 hp1 hp2 hp3 hpq hVd
 have hqb : -100000 ≤ q ∧ q ≤ 100000 := by
  have hcd := clipD_in (l + t - corner)
  rcases (by omega : mode = 0 ∨ mode = 1 ∨ mode = 2 ∨ mode = 3) with h | h | h | h
  ·have := hqe.1 h; omega
  ·have := hqe.2.1 h; omega
  ·have := hqe.2.2.1 h; omega
  ·have := hqe.2.2.2 h; omega
 have hink : ∀ z ∈ [q], InK .i64 z := by simp only [List.mem_singleton, forall_eq, InK]; omega
 have hsrc := Lib.hid (fun (W : World) => ints_newG (k := .i64) (w := W) (t := 3) (l := [q]) rfl (by simp [maxLen]) hink 1 rfl rfl)
 have hby := Lib.hid (show ((D.take k).length + [q].length) * 8 ≤ 140737488355328 by rw [hdl]; simp; omega)
 have Hlen : Hid ((D.take k ++ [q]).length = k + 1) := Lib.hid (by rw [List.length_append, hdl]; rfl)
 have Hnx := Lib.hid hnx
 have hba := Lib.hid (show W1.heap.size ≤ (wr.drew.alloc (.cells #[.int .i64 q] 3)).heap.size from Nat.le_trans HQr.out.drew.size (Only.new _ _).size)
 have Hqe := Lib.hid hqe
 have a1 : IntKind.i64.wrap (l + t) = l + t := by rw [IntKind.wrap_i64]; omega
 have a2 : IntKind.i64.wrap (l + t - corner) = l + t - corner := by rw [IntKind.wrap_i64]; omega
 clear hink hqb hnx hqe hdl hbt hbl hVb hcc
 go_wp2_with fail
 refine wp_region_held_drew (S := (fun w' => w'.cell? ⟨bt, ot + M, none⟩ = some (.int .i64 t) ∧ w'.cell? ⟨bl, ol + Dv, none⟩ = some (.int .i64 l))) (by kernel_rfl) ?_ (fun hHeld => ?_)
 ·exact ⟨ct, cl⟩
 refine tk 0 84 ?_
 refine tk 1 85 ?_
 refine tk 2 86 ?_
 refine tk 3 87 ?_
 refine tk 4 88 ?_
 refine tk 5 89 ?_
 refine tk 6 90 ?_
 refine tk 7 91 ?_
 refine tk 8 92 ?_
 refine tk 9 93 ?_
 refine tk 10 94 ?_
 refine tk 11 95 ?_
 refine tk 12 15 ?_
 refine tk 13 16 ?_
 refine wpAnyH_done (by kernel_rfl) ?_ _
 rcases (by omega : mode = 0 ∨ mode = 1 ∨ mode = 2 ∨ mode = 3) with rfl | rfl | rfl | rfl
 ·obtain rfl := Hqe.out.1 rfl
  exact qDRPd3
 ·obtain rfl := Hqe.out.2.1 rfl
  exact qDRPd3
 ·obtain rfl := Hqe.out.2.2.1 rfl
  exact qDRPd3
 ·have hq3 := Hqe.out.2.2.2 rfl
  have Hq3 := Lib.hid hq3
  clear hq3
  go_wp2_with fail
  go_at_call 132
  refine (kclip_any _ _).mono ?_
  rintro e w' ⟨rfl, rfl⟩
  rw [← Hq3.out]
  exact qDRPd3) : p := h
theorem qDRPd1 {p : Prop} (h : p := by
 have hk0 : (0 : Int) ≤ (k : Int) := by omega
 obtain ⟨bt, ot, tcap', e1, -, -, ct⟩ := (HT.out.quiet HQk.out).at (i := k) (by rw [Hn.out]; exact hlt)
 injection e1 with e1 e2 e3
 subst e1; subst e3
 obtain ⟨bl, ol, lcap', e1, -, -, cl⟩ := (HL.out.quiet HQk.out).at (i := k) (by rw [Hln.out]; exact hlt)
 injection e1 with e1 e4 e3
 subst e1; subst e3
 have hsn : sumD top left (k + 1) = sumD top left k + (top.getD k 0 + left.getD k 0) := rfl
 have hb := HSn.out k
 have hbt := Hts.out.at k
 have hbl := Hls.out.at k
 have hnn := Hn.out
 generalize hg : sumD top left (k + 1) = m1 at *
 generalize sumD top left k = m0 at *
 generalize top.getD k 0 = t at *
 generalize left.getD k 0 = l at *
 rw [hnn] at hb
 have n1 : IntKind.i64.wrap (m0 + t) = m0 + t := by rw [IntKind.wrap_i64]; omega
 have n2 : IntKind.i64.wrap (m0 + t + l) = m1 := by rw [hsn, IntKind.wrap_i64]; omega
 have Hg := Lib.hid hg
 have Hlt := Lib.hid hlt
 clear e2 e4 hg hsn hb hbt hbl hnn hlt
 go_wp2_with fail
 refine wp_region_held_drew (S := (fun w' => w'.cell? ⟨bt, ot + k, none⟩ = some (.int .i64 t) ∧ w'.cell? ⟨bl, ol + k, none⟩ = some (.int .i64 l))) (by kernel_rfl) ?_ (fun hHeld => ?_)
 ·exact ⟨ct, cl⟩
 refine tk 0 66 ?_
 refine tk 1 67 ?_
 refine tk 2 68 ?_
 refine tk 3 69 ?_
 refine tk 4 70 ?_
 refine tk 5 71 ?_
 refine tk 6 72 ?_
 refine tk 7 73 ?_
 refine tk 8 74 ?_
 refine tk 9 75 ?_
 refine tk 10 76 ?_
 refine tk 11 11 ?_
 refine wpAnyH_done (by kernel_rfl) ?_ _
 go_wp2_with fail
 exact ⟨⟨k + 1, by have := Hlt.out; omega, by go_num, by rw [Hg.out], Lib.hid HQk.out.drew⟩, by simp [intOf]; have := Hlt.out; omega⟩) : p := h
theorem qDRPd2 {p : Prop} (h : p := by
 rw [List.take_of_length_le (by rw [HDl.out]; omega)] at HOk
 have hre := HQr.out.row HR1.out
 obtain ⟨z0, z1, y0, y1, -⟩ := row2 hre
 have Hre := Lib.hid hre
 clear hre hdl
 go_wp2_with fail
 obtain ⟨hrow, hon⟩ := row2_set (x := .int .i64 0) (y := .slice none 0 0) Hre.out
 refine bodyPost_ret (results_tmp_cell Tryz.results136 _ _ w.heap.size _ _ _ _ _ rfl rfl hrow Tryz.underlying45 rfl (err_info _ rfl)) rfl (HPost.out _ _ ⟨⟨_, rfl, ?_⟩, ?_⟩)
 ·exact (HOk.out.only hon (fun x hx hh => by rw [List.mem_singleton] at hx; subst hx; have := HFk.out _ hh; have := Hz1.out; omega)).lower HQ1.out.size
 ·exact (HQ1.out.q HQr.out).trans hon (U := []) (by simp) (fun x hx hlt => by rw [List.mem_singleton] at hx; omega)) : p := h
theorem kpredict4_any {lo hi lo' hi' : Nat} {tv lv : Value} {top left : List Int} {w : World} (ht : Ints .i64 lo hi w tv top) (hl : Ints .i64 lo' hi' w lv left) (hn : top.length = 4) (hln : left.length = 4) (hts : SamOk top) (hls : SamOk left) {corner : Int} (hc : 0 ≤ corner ∧ corner ≤ 255) {mode : Int} (hm : 0 ≤ mode ∧ mode ≤ 3) : Calls Tryz.prog 136 #[.int .i64 mode, tv, lv, .int .i64 corner] w fun e w' => ((∃ v', e = .returned (.tuple #[v', .agg #[.int .i64 0, .slice none 0 0]]) ∧ Own .i64 3 w.heap.size w' v' (predD mode top left corner)) ∧ Only [] w w') := by
 refine hidQ fun Q HPost => ?_
 have hq1 := Only.new w (.cells #[.int .i64 0, .slice none 0 0] 45)
 have HR1 : Hid ((w.alloc (.cells #[.int .i64 0, .slice none 0 0] 45)).heap[w.heap.size]? = some (.cells #[.int .i64 0, .slice none 0 0] 45 (0, 0))) := Lib.hid (heap_alloc_new w _)
 have Hz1 : Hid ((w.alloc (.cells #[.int .i64 0, .slice none 0 0] 45)).heap.size = w.heap.size + 1) := Lib.hid (by simp)
 have HT := Lib.hid (ht.quiet hq1)
 have HL := Lib.hid (hl.quiet hq1)
 have Hts := Lib.hid hts
 have Hls := Lib.hid hls
 have Hn := Lib.hid hn
 have Hln := Lib.hid hln
 have HWt := Lib.hid (samOk_iff.2 hts)
 have HWl := Lib.hid (samOk_iff.2 hls)
 have HNx := Lib.hid (fun k (hk : k < 16) => predD_next (mode := mode) (corner := corner) (left := left) (show k < top.length * top.length by rw [hn]; exact hk))
 have HDl : Hid ((predD mode top left corner).length = 16) := Lib.hid (by rw [predD_len, hn])
 have HSn := Lib.hid (fun k => (sumD_in hts hls k))
 have HQ1 := Lib.hid hq1
 obtain ⟨ta, tcap, rfl, -⟩ := ht.open
 obtain ⟨la, lcap, rfl, -⟩ := hl.open
 rw [hn] at HT ⊢
 rw [hln] at HL ⊢
 have hc0 : ¬ corner < 0 := by omega
 have hc1 : ¬ (255 : Int) < corner := by omega
 have hm0 : ¬ mode < 0 := by omega
 have hm1 : ¬ (3 : Int) < mode := by omega
 have Hc := Lib.hid hc
 have Hm := Lib.hid hm
 clear ht hl hts hls hc hm hn hln hq1
 generalize predD mode top left corner = D at *
 go_enter Tryz.func136, Tryz.ntmps136
 go_wp2_with fail
 generalize hW1 : World.alloc w _ = W1 at *
 clear hW1
 go_at_call 23
 refine (within_any 0 255 HT.out).mono ?_
 rintro e w' ⟨rfl, rfl⟩
 rw [HWt.out]
 go_wp2_with fail
 go_at_call 23
 refine (within_any 0 255 HL.out).mono ?_
 rintro e w' ⟨rfl, rfl⟩
 rw [HWl.out]
 clear hm0 hm1
 go_wp2_with fail
 clear hc0 hc1
 go_loopw [12, 11] (fun i m wr => ∃ k : Nat, k ≤ 4 ∧ i = .int .i64 k ∧ m = .int .i64 (sumD top left k) ∧ Hid (Only [] W1 wr)) (fun i _ _ => 4 - (intOf i).toNat)
 case atStart => exact ⟨0, by omega, rfl, by show _ = Value.int IntKind.i64 ((top.length : Nat) : Int); rw [Hn.out]; rfl, Lib.hid (Only.refl _ _)⟩
 case round =>
  obtain ⟨k, hk, rfl, rfl, HQk⟩ := hrel
  by_cases hlt : k < 4
  ·have hki : (k : Int) < 4 := by omega
   exact qDRPd1
  ·obtain rfl : k = 4 := by omega
   have hki : ¬ ((4 : Nat) : Int) < 4 := by omega
   have hmb := HSn.out 4
   generalize hme : sumD top left 4 = mean at *
   have Hme := Lib.hid hme
   have hnn := Hn.out
   rw [hnn] at hmb
   have Hmb := Lib.hid hmb
   clear hmb hme hnn hlt hk
   go_wp2_with fail
   go_loopw [14, 13, 15, 16, 17] (fun i y _ _ _ wy => ∃ k : Nat, k ≤ 16 ∧ i = .int .i64 k ∧ Hid (Own .i64 3 W1.heap.size wy y (D.take k)) ∧ Hid (From W1.heap.size y) ∧ Hid (Only [] W1 wy)) (fun i _ _ _ _ _ => 16 - (intOf i).toNat)
   case atStart => exact ⟨0, by omega, rfl, Lib.hid (Own.nil _ _ _ _), Lib.hid (From.nil _), HQk⟩
   case round =>
    obtain ⟨k, hk, rfl, HOk, HFk, HQr⟩ := hrel
    have hdl : (D.take k).length = k := by rw [List.length_take, HDl.out]; omega
    obtain ⟨ra, rcap, rfl, -⟩ := HOk.out.ints.open
    rw [hdl] at HOk HFk ⊢
    have hNN : IntKind.i64.wrap (4 * 4) = 16 := by decide
    by_cases hlt : k < 16
    ·have hki2 : (k : Int) < 16 := by omega
     have hk0 : (0 : Int) ≤ (k : Int) := by omega
     have eM : (k : Int).tmod 4 = ((k % 4 : Nat) : Int) := by rw [Int.tmod_eq_emod_of_nonneg hk0]; rfl
     have eD : (k : Int).tdiv 4 = ((k / 4 : Nat) : Int) := by rw [Int.tdiv_eq_ediv_of_nonneg hk0]; rfl
     have bM : k % 4 < 4 := by omega
     have bD : k / 4 < 4 := by omega
     have hnx := HNx.out k hlt
     have hp0 : predAt 0 top left corner k = sumD top left top.length / (2 * (top.length : Int)) := rfl
     have hp1 : predAt 1 top left corner k = top.getD (k % top.length) 0 := rfl
     have hp2 : predAt 2 top left corner k = left.getD (k / top.length) 0 := rfl
     have hp3 : predAt 3 top left corner k = clipD (left.getD (k / top.length) 0 + top.getD (k % top.length) 0 - corner) := rfl
     have hnn := Hn.out
     rw [hnn] at hp0 hp1 hp2 hp3
     rw [Hme.out] at hp0
     generalize k % 4 = M at *
     generalize k / 4 = Dv at *
     obtain ⟨bt, ot, tcap', e1, -, -, ct⟩ := (HT.out.quiet HQr.out).at (i := M) (by rw [hnn]; exact bM)
     injection e1 with e1 e2 e3
     subst e1; subst e3
     obtain ⟨bl, ol, lcap', e1, -, -, cl⟩ := (HL.out.quiet HQr.out).at (i := Dv) (by rw [Hln.out]; exact bD)
     injection e1 with e1 e4 e3
     subst e1; subst e3
     have hbt := Hts.out.at M
     have hbl := Hls.out.at Dv
     generalize top.getD M 0 = t at *
     generalize left.getD Dv 0 = l at *
     have hM0 : (0 : Int) ≤ (M : Int) := by omega
     have hM1 : (M : Int) < 4 := by omega
     have hD0 : (0 : Int) ≤ (Dv : Int) := by omega
     have hD1 : (Dv : Int) < 4 := by omega
     have eDw : IntKind.i64.wrap (Dv : Int) = (Dv : Int) := by rw [IntKind.wrap_i64]; omega
     have h2n : IntKind.i64.wrap (2 * 4) = 8 := by decide
     obtain ⟨V, hV⟩ : ∃ V, V = mean.tdiv 8 := ⟨_, rfl⟩
     have hVe : mean.tdiv 8 = V := hV.symm
     have hVd : V = mean / 8 := by rw [hV, Int.tdiv_eq_ediv_of_nonneg (by have := Hmb.out.1; omega)]
     exact qDRPd0
    ·obtain rfl : k = 16 := by omega
     have hki2 : ¬ ((16 : Nat) : Int) < 16 := by omega
     exact qDRPd2
theorem kpredict8_any {lo hi lo' hi' : Nat} {tv lv : Value} {top left : List Int} {w : World} (ht : Ints .i64 lo hi w tv top) (hl : Ints .i64 lo' hi' w lv left) (hn : top.length = 8) (hln : left.length = 8) (hts : SamOk top) (hls : SamOk left) {corner : Int} (hc : 0 ≤ corner ∧ corner ≤ 255) {mode : Int} (hm : 0 ≤ mode ∧ mode ≤ 3) : Calls Tryz.prog 136 #[.int .i64 mode, tv, lv, .int .i64 corner] w fun e w' => ((∃ v', e = .returned (.tuple #[v', .agg #[.int .i64 0, .slice none 0 0]]) ∧ Own .i64 3 w.heap.size w' v' (predD mode top left corner)) ∧ Only [] w w') := by
 refine hidQ fun Q HPost => ?_
 have hq1 := Only.new w (.cells #[.int .i64 0, .slice none 0 0] 45)
 have HR1 : Hid ((w.alloc (.cells #[.int .i64 0, .slice none 0 0] 45)).heap[w.heap.size]? = some (.cells #[.int .i64 0, .slice none 0 0] 45 (0, 0))) := Lib.hid (heap_alloc_new w _)
 have Hz1 : Hid ((w.alloc (.cells #[.int .i64 0, .slice none 0 0] 45)).heap.size = w.heap.size + 1) := Lib.hid (by simp)
 have HT := Lib.hid (ht.quiet hq1)
 have HL := Lib.hid (hl.quiet hq1)
 have Hts := Lib.hid hts
 have Hls := Lib.hid hls
 have Hn := Lib.hid hn
 have Hln := Lib.hid hln
 have HWt := Lib.hid (samOk_iff.2 hts)
 have HWl := Lib.hid (samOk_iff.2 hls)
 have HNx := Lib.hid (fun k (hk : k < 64) => predD_next (mode := mode) (corner := corner) (left := left) (show k < top.length * top.length by rw [hn]; exact hk))
 have HDl : Hid ((predD mode top left corner).length = 64) := Lib.hid (by rw [predD_len, hn])
 have HSn := Lib.hid (fun k => (sumD_in hts hls k))
 have HQ1 := Lib.hid hq1
 obtain ⟨ta, tcap, rfl, -⟩ := ht.open
 obtain ⟨la, lcap, rfl, -⟩ := hl.open
 rw [hn] at HT ⊢
 rw [hln] at HL ⊢
 have hc0 : ¬ corner < 0 := by omega
 have hc1 : ¬ (255 : Int) < corner := by omega
 have hm0 : ¬ mode < 0 := by omega
 have hm1 : ¬ (3 : Int) < mode := by omega
 have Hc := Lib.hid hc
 have Hm := Lib.hid hm
 clear ht hl hts hls hc hm hn hln hq1
 generalize predD mode top left corner = D at *
 go_enter Tryz.func136, Tryz.ntmps136
 go_wp2_with fail
 generalize hW1 : World.alloc w _ = W1 at *
 clear hW1
 go_at_call 23
 refine (within_any 0 255 HT.out).mono ?_
 rintro e w' ⟨rfl, rfl⟩
 rw [HWt.out]
 go_wp2_with fail
 go_at_call 23
 refine (within_any 0 255 HL.out).mono ?_
 rintro e w' ⟨rfl, rfl⟩
 rw [HWl.out]
 clear hm0 hm1
 go_wp2_with fail
 clear hc0 hc1
 go_loopw [12, 11] (fun i m wr => ∃ k : Nat, k ≤ 8 ∧ i = .int .i64 k ∧ m = .int .i64 (sumD top left k) ∧ Hid (Only [] W1 wr)) (fun i _ _ => 8 - (intOf i).toNat)
 case atStart => exact ⟨0, by omega, rfl, by show _ = Value.int IntKind.i64 ((top.length : Nat) : Int); rw [Hn.out]; rfl, Lib.hid (Only.refl _ _)⟩
 case round =>
  obtain ⟨k, hk, rfl, rfl, HQk⟩ := hrel
  by_cases hlt : k < 8
  ·have hki : (k : Int) < 8 := by omega
   exact qDRPd1
  ·obtain rfl : k = 8 := by omega
   have hki : ¬ ((8 : Nat) : Int) < 8 := by omega
   have hmb := HSn.out 8
   generalize hme : sumD top left 8 = mean at *
   have Hme := Lib.hid hme
   have hnn := Hn.out
   rw [hnn] at hmb
   have Hmb := Lib.hid hmb
   clear hmb hme hnn hlt hk
   go_wp2_with fail
   go_loopw [14, 13, 15, 16, 17] (fun i y _ _ _ wy => ∃ k : Nat, k ≤ 64 ∧ i = .int .i64 k ∧ Hid (Own .i64 3 W1.heap.size wy y (D.take k)) ∧ Hid (From W1.heap.size y) ∧ Hid (Only [] W1 wy)) (fun i _ _ _ _ _ => 64 - (intOf i).toNat)
   case atStart => exact ⟨0, by omega, rfl, Lib.hid (Own.nil _ _ _ _), Lib.hid (From.nil _), HQk⟩
   case round =>
    obtain ⟨k, hk, rfl, HOk, HFk, HQr⟩ := hrel
    have hdl : (D.take k).length = k := by rw [List.length_take, HDl.out]; omega
    obtain ⟨ra, rcap, rfl, -⟩ := HOk.out.ints.open
    rw [hdl] at HOk HFk ⊢
    have hNN : IntKind.i64.wrap (8 * 8) = 64 := by decide
    by_cases hlt : k < 64
    ·have hki2 : (k : Int) < 64 := by omega
     have hk0 : (0 : Int) ≤ (k : Int) := by omega
     have eM : (k : Int).tmod 8 = ((k % 8 : Nat) : Int) := by rw [Int.tmod_eq_emod_of_nonneg hk0]; rfl
     have eD : (k : Int).tdiv 8 = ((k / 8 : Nat) : Int) := by rw [Int.tdiv_eq_ediv_of_nonneg hk0]; rfl
     have bM : k % 8 < 8 := by omega
     have bD : k / 8 < 8 := by omega
     have hnx := HNx.out k hlt
     have hp0 : predAt 0 top left corner k = sumD top left top.length / (2 * (top.length : Int)) := rfl
     have hp1 : predAt 1 top left corner k = top.getD (k % top.length) 0 := rfl
     have hp2 : predAt 2 top left corner k = left.getD (k / top.length) 0 := rfl
     have hp3 : predAt 3 top left corner k = clipD (left.getD (k / top.length) 0 + top.getD (k % top.length) 0 - corner) := rfl
     have hnn := Hn.out
     rw [hnn] at hp0 hp1 hp2 hp3
     rw [Hme.out] at hp0
     generalize k % 8 = M at *
     generalize k / 8 = Dv at *
     obtain ⟨bt, ot, tcap', e1, -, -, ct⟩ := (HT.out.quiet HQr.out).at (i := M) (by rw [hnn]; exact bM)
     injection e1 with e1 e2 e3
     subst e1; subst e3
     obtain ⟨bl, ol, lcap', e1, -, -, cl⟩ := (HL.out.quiet HQr.out).at (i := Dv) (by rw [Hln.out]; exact bD)
     injection e1 with e1 e4 e3
     subst e1; subst e3
     have hbt := Hts.out.at M
     have hbl := Hls.out.at Dv
     generalize top.getD M 0 = t at *
     generalize left.getD Dv 0 = l at *
     have hM0 : (0 : Int) ≤ (M : Int) := by omega
     have hM1 : (M : Int) < 8 := by omega
     have hD0 : (0 : Int) ≤ (Dv : Int) := by omega
     have hD1 : (Dv : Int) < 8 := by omega
     have eDw : IntKind.i64.wrap (Dv : Int) = (Dv : Int) := by rw [IntKind.wrap_i64]; omega
     have h2n : IntKind.i64.wrap (2 * 8) = 16 := by decide
     obtain ⟨V, hV⟩ : ∃ V, V = mean.tdiv 16 := ⟨_, rfl⟩
     have hVe : mean.tdiv 16 = V := hV.symm
     have hVd : V = mean / 16 := by rw [hV, Int.tdiv_eq_ediv_of_nonneg (by have := Hmb.out.1; omega)]
     exact qDRPd0
    ·obtain rfl : k = 64 := by omega
     have hki2 : ¬ ((64 : Nat) : Int) < 64 := by omega
     exact qDRPd2
end
end Go.Proofs.YthgpgbdkcdmbpaaGreatDoor
