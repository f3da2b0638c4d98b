/- Joined texts: DRFA, DRFC. Conditions: each part names its own. -/
import Derived.Test.YthgpgbdkcdmbpaaGreatDoorZDRF
namespace Go.Proofs.YthgpgbdkcdmbpaaGreatDoor
open Go.RowKit
set_option linter.unusedVariables false
set_option linter.unusedSimpArgs false
set_option maxRecDepth 100000
set_option maxHeartbeats 16000000
theorem qDRFAt0 {p : Prop} (h : p := by intro wz hSw; obtain ⟨hSb, hSc, hSd⟩ := hSw; obtain ⟨p3, p4, p5⟩ := frame_cells hSb; go_simp; try with_reducible rfl) : p := h
theorem qDRFAt1 {p : Prop} (h : p := by intro wz hSw; rw [run_load_rowQ (.tmp 17) 70 (hr := hSw.2.2) (hu := Tryz.underlying70) (hi := HInf.out)] <;> rfl) : p := h
section
variable {lo hi lo' hi' : Nat} {dv pv : Value} {w : World} {prev : FrameD} {l : List Int} {K W H : Int}
theorem qDRFA0 {p : Prop} (h : p := by
 rw [hsq] at hm11
 obtain ⟨sv, rfl, hcs⟩ := hm11
 obtain ⟨_, a11, cap11, hsv, _⟩ := id hcs
 subst hsv
 have hee := (squareD_adv _ HMk.out.ok).2.2 er hsq
 have Hec : Hid (er.code ≠ 0) := lh (by rw [hee.1]; omega)
 have Hep : Hid (er.path.length = 2) := lh hee.2
 have hgo := Hgo.out
 rw [show C - k = (C - k - 1) + 1 by omega, squaresGo_bad hsq] at hgo
 have HGO := lh hgo
 have Hcs := lh hcs
 clear hgo hsq hcs hee
 have HQ11' := HQ11
 obtain ⟨f1, f2, f3, f4, f5, f6⟩ := fresh2 w11 #[.int .i64 0, .int .i64 0, .int .i64 0, .int .i64 0, .int .i64 0, .int .i64 0, .int .i64 0, .int .i64 0, .slice none 0 0, .slice none 0 0, .slice none 0 0, .slice none 0 0, .slice none 0 0] #[.int .i64 0, .int .i64 0, .int .i64 0, .int .i64 0, .int .i64 0, .int .i64 0, .int .i64 0, .int .i64 0, .slice none 0 0, .slice none 0 0, .slice none 0 0, .slice none 0 0, .slice none 0 0] 70 #[.int .i64 0, .slice none 0 0] #[.int .i64 er.code, .slice a11 er.path.length cap11] 45
 have F1 := lh f1
 have F2 := lh f2
 have F3 := lh f3
 have HY12 := lh f4
 have HX12 := lh f5
 have HZ12 := lh f6
 clear f1 f2 f3 f4 f5 f6
 go_upto_region 19 with (first
  | (refine wpList_store_row rfl (.tmp 17) (.tmp 86) 70 rfl rfl rfl F1.out (HIz.out) (rfl) (HOz.out) ?_)
  | (refine wpList_store_row rfl (.tmp 18) (.tmp 87) 45 rfl rfl rfl F2.out (er_info _ _) rfl (by first | kernel_rfl | simp [Value.oneCell']) ?_)
  | fail)
 generalize hW12 : World.setRow (World.setRow _ _ _) _ _ = W12 at *
 clear hW12 F1 F2
 have HB212 := lh (F3.out.row HB211.out)
 have HB312 := lh (F3.out.row HB311.out)
 have HS12 := F3
 clear F3
 have Hcs12 := lh (Hcs.out.only HS12.out (by simp))
 have hcb : (er.code == 0) = false := by rw [beq_eq_false_iff_ne]; exact Hec.out
 have Hcb := lh hcb
 clear hcb
 obtain ⟨e0, e1, -⟩ := row2 HX12.out
 go_wp2_with fail
 go_at_call 43
 refine (kok_any _ _ _).mono ?_
 rintro e w13 ⟨rfl, hq13⟩
 rw [Hcb.out]
 have HB213 := lh (hq13.row HB212.out)
 have HB313 := lh (hq13.row HB312.out)
 have HX13 := lh (hq13.row HX12.out)
 have HS13 := lh hq13
 clear hq13 e0 e1
 have Hcs13 := lh (Hcs12.out.only HS13.out (by simp))
 obtain ⟨e0, e1, -⟩ := row2 HX13.out
 have HIn := lh (kin_any sDecode k er.code Hcs13.out Hec.out (by have := Hep.out; omega))
 go_wp2_with fail
 go_at_call 44
 refine HIn.out.mono ?_
 rintro e w14 ⟨kv, rfl, ⟨sv14, rfl, hcs14⟩, hq14⟩
 obtain ⟨_, a14, cap14, hsv, _⟩ := id hcs14
 subst hsv
 have Hcs14 := lh hcs14
 have HB214 := lh (hq14.row HB213.out)
 have HB314 := lh (hq14.row HB313.out)
 have HS14 := lh hq14
 clear hcs14 hq14 e0 e1
 have hso := Only.setRow (S := [(w.heap.size + 1 + 1)]) (Only.refl _ w14) (g := (w.heap.size + 1 + 1)) (fun _ => by simp) #[.int .i64 0, .int .i64 0, .slice none 0 0]
 have hro := setRow_heap w14 (w.heap.size + 1 + 1) _ #[.int .i64 0, .int .i64 0, .slice none 0 0] _ _ HB214.out
 have hr3 := hso.rowAt HB314.out (by simp)
 have Hso := lh hso
 have Hro := lh hro
 have Hr3 := lh hr3
 clear hso hro hr3
 go_wp2_with (first
  | (refine wpList_store_row rfl (.tmp 8) (.tmp 91) 27 rfl rfl rfl HB214.out (fr_info _ _ _) rfl (by first | kernel_rfl | simp [Value.oneCell']) ?_)
  | (refine wpList_store_row rfl (.tmp 9) (.tmp 94) 45 rfl rfl rfl Hr3.out (er_info _ _) rfl (by first | kernel_rfl | simp [Value.oneCell']) ?_)
  | fail)
 have hs9 := Only.setRow (S := [(w.heap.size + 1 + 1 + 1)]) (Only.refl _ (w14.setRow (w.heap.size + 1 + 1) #[.int .i64 0, .int .i64 0, .slice none 0 0])) (g := (w.heap.size + 1 + 1 + 1)) (fun _ => by simp) #[.int .i64 er.code, .slice a14 (er.path.length + 1) cap14]
 have hr9 := setRow_heap (w14.setRow (w.heap.size + 1 + 1) #[.int .i64 0, .int .i64 0, .slice none 0 0]) (w.heap.size + 1 + 1 + 1) _ #[.int .i64 er.code, .slice a14 (er.path.length + 1) cap14] _ _ Hr3.out
 have h9q := hs9.rowAt Hro.out (by simp)
 have hkw : Only [] w wr := HQx.out.trans HQk.out (U := []) (by simp) (fun g hg hl => by simp only [List.mem_cons, List.not_mem_nil, or_false] at hg; have := HZw.out; have := HRD.out; omega)
 have hk14 : Only [] w w14 := (((hkw.trans HQ11.out (U := []) (by simp) (fun g hg hl => by simp only [List.mem_cons, List.not_mem_nil, or_false] at hg; have := HZw.out; have := HRD.out; omega)).q HS12.out).q HS13.out).q HS14.out
 have hall : Only [] w _ := (hk14.trans Hso.out (U := []) (by simp) (fun g hg hl => by rw [mSg] at hg; omega)).trans hs9 (U := []) (by simp) (fun g hg hl => by rw [mSg] at hg; omega)
 refine bodyPost_ret (results_cell_cell Tryz.results20 _ _ (w.heap.size + 1 + 1) (w.heap.size + 1 + 1 + 1) _ _ _ _ _ _ _ _ rfl rfl h9q hr9 Tryz.underlying27 rfl (fr_info _ _ _) Tryz.underlying45 rfl (er_info _ _)) rfl (HPost.out _ _ ?_)
 rw [← HGO.out]
 have hz13 : w.heap.size + 1 + 1 + 1 < w13.heap.size := by have h1 := HS13.out.size; have h2 := HZ12.out; have h3 := Hz11.out; have h4 := HZw.out; have h5 := HRD.out; omega
 exact ⟨hall, _, rfl, ((Hcs14.out.only Hso.out (fun x hx => by rw [mSg] at hx; left; omega)).only hs9 (fun x hx => by rw [mSg] at hx; left; omega)).mono (by omega) (Nat.le_trans Hso.out.size hs9.size)⟩) : p := h
theorem qDRFA1 {p : Prop} (h : p := by
 have HPx := lh (frok_pos HFKn.out.1)
 have Hw13 := lh (And.intro HS12.out.size HS13.out.size)
 clear hK8 hX hY hXU hYU hXX hfk hfw hfh hfl p1 p2 p3 p4 hlo hlw hB hu hbd hkw hk13
 go_wp2_with fail
 refine wp_region_held_drew (S := (fun wz => wz.heap[(w.heap.size + 1)]? = some (.cells #[.int .i64 prev.W, .int .i64 prev.H, .slice pa prev.pix.length pcap] 27 (0, 0)) ∧ wz.cell? ⟨w5.heap.size, 1, none⟩ = some (.int .i64 q) ∧ wz.heap[w11.heap.size]? = some (.cells C13 70 (0, 0)))) (by kernel_rfl) ?_ (fun hHeld => ?_)
 ·exact ⟨HB113.out, (head_cells HT13.out).2.1, HY13.out⟩
 refine tkw 1 96 ⟨rfl, qDRFAt0⟩ ?_
 refine tkw 2 97 ⟨rfl, qDRFAt0⟩ ?_
 refine tkw 3 98 ⟨rfl, qDRFAt0⟩ ?_
 refine tkw 4 99 ⟨rfl, qDRFAt0⟩ ?_
 refine tkw 5 100 ⟨rfl, qDRFAt0⟩ ?_
 refine tkw 6 101 ⟨rfl, qDRFAt0⟩ ?_
 refine tkw 7 102 ⟨rfl, qDRFAt0⟩ ?_
 refine tkw 8 103 ⟨rfl, qDRFAt0⟩ ?_
 refine tkw 9 104 ⟨rfl, qDRFAt0⟩ ?_
 refine tkw 10 105 ⟨rfl, qDRFAt0⟩ ?_
 refine tkw 11 106 ⟨rfl, qDRFAt0⟩ ?_
 refine tkw 12 107 ⟨rfl, qDRFAt0⟩ ?_
 refine tkw 13 108 ⟨rfl, qDRFAt0⟩ ?_
 refine tkw 14 109 ⟨rfl, qDRFAt1⟩ ?_
 obtain ⟨p0, p1, p2⟩ := frame_cells HA13.out
 obtain ⟨p0', p1', p2'⟩ := frame_cells ((Only.refl [] w13).drew.row HA13.out)
 refine rdy (rdc 0 95 (fun K hK => ?_) .nil)
 go_simp
 refine hK.out _ _ ?_ (fun hHeld => ?_)
 ·first | exact ⟨HB113.out, (head_cells HT13.out).2.1, HY13.out⟩ | exact ⟨(Only.refl [] w13).drew.row HB113.out, (head_cells ((Only.refl [] w13).drew.row HT13.out)).2.1, (Only.refl [] w13).drew.row HY13.out⟩
 clear hK K p0 p1 p2 p0' p1' p2'
 clear e1 e1' e2 e3 e4 e4' e5 e5' e6 e6' e7 hUn hUn2 hUb
 refine rdy (rdc 15 110 (fun K hK => ?_) .nil)
 go_simp
 go_at_call 52
 refine HB_.out.mono ?_
 rintro e w15 ⟨nv, rfl, hown15, hq15⟩
 have hb1 : w13.heap.size ≤ w13.drew.heap.size := (Only.refl [] w13).drew.size
 have hq15' : Only [] w13 w15 := ((Only.refl _ _).drew).q hq15
 obtain ⟨ng, ngc, rfl, hng1, hng2⟩ := hown15.form HPx.out
 have HO15 := lh hown15
 have HQ15 := lh hq15'
 have Hng := lh (And.intro (Nat.le_trans hb1 hng1) hng2)
 have HA15 := lh (hq15'.row HA13.out)
 have HB115 := lh (hq15'.row HB113.out)
 have HT15 := lh (hq15'.row HT13.out)
 have HY15 := lh (hq15'.row HY13.out)
 clear hown15 hq15 hq15' hb1 hng1 hng2
 rw [HFKn.out.2.2.2] at HO15 ⊢
 refine hK.out _ _ ?_ (fun hHeld => ?_)
 ·exact ⟨HB115.out, (head_cells HT15.out).2.1, HY15.out⟩
 clear hK K
 refine rdy (rdn 16 (fun K hK => ?_) .nil)
 refine wp_store_rowQ (.tmp 10) (.tmp 110) 27 rfl (g := w2.heap.size) (c' := #[.int .i64 W, .int .i64 H, .slice (some ⟨ng, 0, none⟩) F0.pix.length ngc]) rfl rfl HA15.out (fr_info _ _ _) rfl (by first | kernel_rfl | simp [Value.oneCell']) (fun w16 hq16 hr16 => ?_)
 replace hq16 : Only [w2.heap.size] w15 w16 := by first | exact hq16 | exact ((Only.refl [] w15).drew.mono (U := [w2.heap.size]) (by simp)).trans hq16 (fun g h _ => h) (fun g h _ => h)
 have HS16 := lh hq16
 have HY16 := lh (hq16.rowAt HY15.out (by rw [mSg]; have := Hz11.out; have := HRD.out; have := HZw.out; omega))
 have HB116 := lh (hq16.rowAt HB115.out (by rw [mSg]; have := HZw.out; omega))
 have HT16 := lh (hq16.rowAt HT15.out (by rw [mSg]; have := HZw.out; omega))
 have HR16 := lh hr16
 clear hq16 hr16
 refine hK.out _ _ ?_ (fun hHeld => ?_)
 ·exact ⟨HB116.out, (head_cells HT16.out).2.1, HY16.out⟩
 clear hK K
 refine wpAnyH_done (by kernel_rfl) ?_ _
 have Hlt2 : Hid (k + 1 ≤ C) := lh Hlt.out
 go_wp2_with fail
 have hA : w2.heap.size < w13.heap.size ∧ R < w13.heap.size ∧ D < w13.heap.size := by have h1 := HRD.out; have h2 := HZw.out; have h3 := Hz11.out; have h4 := Hw13.out; omega
 have hng := Hng.out
 refine ⟨⟨k + 1, laySq FK prev X Y q s, _, ng, ngc, Hlt2.out, by go_num, HFKn, HR16, lh ?_, lh (by omega), lh ?_, HGO2, lh ?_, lh ?_⟩, by simp [intOf]; have := Hlt.out; omega⟩
 ·exact (HO15.out.only HS16.out (fun x hx e => by rw [mSg] at hx; simp only [Value.ownBlock] at e; injection e with e; omega)).lower (by have h1 := HZw.out; have h2 := (Only.refl [] w13).drew.size; omega)
 ·exact (((HM11.out.only2 HS12.out (by simp)).only2 HS13.out (by simp)).only2 HQ15.out (by simp)).only2 HS16.out (fun x hx => by rw [mSg] at hx; subst hx; have h1 := HRD.out; have h2 := HZw.out; exact ⟨.inl (by omega), by omega, by omega⟩)
 ·have h1 := Hadv.out.pos; have h2 := Hpos.out; omega
 ·exact ((((HQk.out.trans HQ11.out (U := [w2.heap.size, R, D]) (fun x h _ => h) (fun x h _ => by simp only [List.mem_cons, List.not_mem_nil, or_false] at h ⊢; omega)).trans HS12.out (fun x h _ => h) (by simp)).trans HS13.out (fun x h _ => h) (by simp)).trans HQ15.out (fun x h _ => h) (by simp)).trans HS16.out (fun x h _ => h) (fun x h _ => by rw [mSg] at h; simp [h])) : p := h
theorem qDRFA2 {p : Prop} (h : p := by
 obtain rfl : k = C := by omega
 have hki : ¬ (k : Int) < NN / 64 := by rw [Hcc.out]; omega
 have hk0 : (0 : Int) ≤ (k : Int) := by omega
 have hgo := Hgo.out
 rw [Nat.sub_self, squaresGo] at hgo
 have HGO := lh hgo
 have HQk' : Hid (Only [] w wr) := lh (HQx.out.trans HQk.out (U := []) (by simp) (fun g hg hl => by simp only [List.mem_cons, List.not_mem_nil, or_false] at hg; have := HZw.out; have := HRD.out; omega))
 clear hgo
 go_wp2_with fail
 refine wp_region_held_drew (S := (fun wz => wz.heap[(w2.heap.size + 1)]? = some (.cells #[.int .i64 0, .slice none 0 0] 45 (0, 0)) ∧ wz.heap[w2.heap.size]? = some (.cells #[.int .i64 W, .int .i64 H, .slice (some ⟨gk, 0, none⟩) F0.pix.length gc] 27 (0, 0)))) (by kernel_rfl) ?_ (fun hHeld => ?_)
 ·exact ⟨HEk.out, HAk.out⟩
 refine tkw 0 111 ⟨rfl, by intro wz hSw; obtain ⟨p0, p1, p2⟩ := frame_cells hSw.2; go_simp; try with_reducible rfl⟩ ?_
 refine tkw 1 112 ⟨rfl, by intro wz hSw; obtain ⟨e0, e1, -⟩ := row2 hSw.1; go_simp; try with_reducible rfl⟩ ?_
 refine rdy (rdn 2 (fun K hK => ?_) .nil)
 refine wp_store_rowQ (.tmp 8) (.tmp 111) 27 rfl (g := (w.heap.size + 1 + 1)) (c' := #[.int .i64 W, .int .i64 H, .slice (some ⟨gk, 0, none⟩) F0.pix.length gc]) rfl rfl HB2k.out (fr_info _ _ _) rfl (by first | kernel_rfl | simp [Value.oneCell']) (fun wy8 hq8 hr8 => ?_)
 replace hq8 : Only [(w.heap.size + 1 + 1)] wr wy8 := by first | exact hq8 | exact ((Only.refl [] wr).drew.mono (U := [(w.heap.size + 1 + 1)]) (by simp)).trans hq8 (fun g h _ => h) (fun g h _ => h)
 have h8E := hq8.rowAt HEk.out (by rw [mSg]; have := HZw.out; omega)
 have h8A := hq8.rowAt HAk.out (by rw [mSg]; have := HZw.out; omega)
 have h8r := hq8.rowAt HB3k.out (by rw [mSg]; omega)
 refine hK.out _ _ ?_ (fun hHeld => ?_)
 ·exact ⟨h8E, h8A⟩
 clear hK K
 refine rdy (rdn 3 (fun K hK => ?_) .nil)
 refine wp_store_rowQ (.tmp 9) (.tmp 112) 45 rfl (g := (w.heap.size + 1 + 1 + 1)) (c' := #[.int .i64 0, .slice none 0 0]) rfl rfl h8r (er_info _ _) rfl (by first | kernel_rfl | simp [Value.oneCell']) (fun wy9 hq9 hr9 => ?_)
 replace hq9 : Only [(w.heap.size + 1 + 1 + 1)] wy8 wy9 := by first | exact hq9 | exact ((Only.refl [] wy8).drew.mono (U := [(w.heap.size + 1 + 1 + 1)]) (by simp)).trans hq9 (fun g h _ => h) (fun g h _ => h)
 have h9E := hq9.rowAt h8E (by rw [mSg]; have := HZw.out; omega)
 have h9A := hq9.rowAt h8A (by rw [mSg]; have := HZw.out; omega)
 have h9q := hq9.rowAt hr8 (by rw [mSg]; omega)
 refine hK.out _ _ ?_ (fun hHeld => ?_)
 ·exact ⟨h9E, h9A⟩
 clear hK K
 refine wpAnyH_done (by kernel_rfl) ?_ _
 go_wp2_with fail
 have hall : Only [] w _ := (HQk'.out.trans hq8 (U := []) (by simp) (fun g hg hl => by rw [mSg] at hg; omega)).trans hq9 (U := []) (by simp) (fun g hg hl => by rw [mSg] at hg; omega)
 refine bodyPost_ret (results_cell_cell Tryz.results20 _ _ (w.heap.size + 1 + 1) (w.heap.size + 1 + 1 + 1) _ _ _ _ _ _ _ _ rfl rfl h9q hr9 Tryz.underlying27 rfl (fr_info _ _ _) Tryz.underlying45 rfl (er_info _ _)) rfl (HPost.out _ _ ?_)
 rw [← HGO.out]
 have hgk := (HOk.out.at gk rfl).1
 have hz := HZw.out
 refine ⟨hall, gk, gc, by rw [HFK.out.2.1, HFK.out.2.2.1, HFK.out.2.2.2], ?_⟩
 rw [HFK.out.2.2.2]
 exact ((HOk.out.only hq8 (fun x hx e => by rw [mSg] at hx; simp only [Value.ownBlock] at e; injection e with e; omega)).only hq9 (fun x hx e => by rw [mSg] at hx; simp only [Value.ownBlock] at e; injection e with e; omega)).lower (by omega)) : p := h
theorem qDRFA3 {p : Prop} (h : p := by
 have hC16' : k ≤ 16 := by omega
 rw [hX, hY, hXU, hYU, hK8, hu.2.1]
 rcases (by omega : U = 1 ∨ U = 2 ∨ U = 3 ∨ U = 4) with rfl | rfl | rfl | rfl <;> omega) : p := h
theorem kframe_squares1 (hd : Ints .u8 lo hi w dv l) (hp : Ints .i64 lo' hi' w pv prev.pix) (hn : newB W H 128 = true) (hl : l.length ≤ 140737488355328) (hk : readB ⟨1, l⟩ = none) :
  Calls Tryz.prog 20 #[.agg #[.int .i64 1, dv], .agg #[.int .i64 prev.W, .int .i64 prev.H, pv], .int .i64 W, .int .i64 H] w (KFrameP w (squaresGo true prev (l.getD 0 0) (W * H / 64).toNat 0 (newF W H 128) (modNew (l.drop 1)))) := by
 refine hidQ fun Q HPost => ?_
 have HLl := lh hl
 have Hk := lh hk
 clear hl hk
 obtain ⟨hl1, hl2, hq0, hq15⟩ := readB_in (k := 1) (by omega) hd.2 Hk.out
 have HL := lh (show (l.drop 1).length ≤ 100000000 by rw [List.length_drop]; omega)
 obtain ⟨q, hq⟩ := Int.eq_ofNat_of_zero_le hq0
 rw [hq] at HPost
 have hqn : q ≤ 15 := by omega
 have Hqn := lh hqn
 have Hq := lh hq
 have HPw := lh hp
 clear hl1 hl2 hq0 hq15 hqn hq
 obtain ⟨da, dcap, rfl, -⟩ := hd.open
 obtain ⟨pa, pcap, rfl, -⟩ := hp.open
 obtain ⟨hq1, HB01, HB11, HB21, HB31, HZ1⟩ := boxes4 w (.cells #[.int .i64 1, .slice da l.length dcap] 24) (.cells #[.int .i64 prev.W, .int .i64 prev.H, .slice pa prev.pix.length pcap] 27) (.cells #[.int .i64 0, .int .i64 0, .slice none 0 0] 27) (.cells #[.int .i64 0, .slice none 0 0] 45)
 have HQ1 := lh hq1
 have HD := lh hd
 have HP := lh hp
 clear hq1 hd hp
 go_enter Tryz.func20, Tryz.ntmps20
 go_wp2_with fail
 generalize hW1 : World.alloc (World.alloc (World.alloc (World.alloc w _) _) _) _ = W1 at *
 clear hW1
 go_at_call 47
 refine (knew_any W H 128 W1).mono ?_
 rintro e w2 ⟨hq2, hm2⟩
 rw [hn] at hm2
 obtain ⟨g, gcap, rfl, hown2⟩ := hm2
 have HF0 := lh (newF_ok hn)
 have HFW : Hid ((newF W H 128).W = W ∧ (newF W H 128).H = H) := lh ⟨rfl, rfl⟩
 have HO2 := lh hown2
 have HB02 := lh (hq2.row HB01.out)
 have HB12 := lh (hq2.row HB11.out)
 have HB22 := lh (hq2.row HB21.out)
 have HB32 := lh (hq2.row HB31.out)
 have HQ2 := lh (HQ1.out.q hq2)
 have HS2 := lh hq2
 have HBd := lh (newB_iff.1 hn)
 clear hq2 hn hown2
 generalize hF0 : newF W H 128 = F0 at *
 clear hF0
 obtain ⟨f1, f2, f3, f4, f5, f6⟩ := fresh2 w2 #[.int .i64 0, .int .i64 0, .slice none 0 0] #[.int .i64 W, .int .i64 H, .slice (some ⟨g, 0, none⟩) F0.pix.length gcap] 27 #[.int .i64 0, .slice none 0 0] #[.int .i64 0, .slice none 0 0] 45
 have F1 := lh f1
 have F2 := lh f2
 have F3 := lh f3
 have HA3 := lh f4
 have HE3 := lh f5
 have HZ3 := lh f6
 clear f1 f2 f3 f4 f5 f6
 go_upto_region 2 with (first
  | (refine wpList_store_row rfl (.tmp 10) (.tmp 23) 27 rfl rfl rfl F1.out (fr_info _ _ _) (rfl) (by first | kernel_rfl | simp [Value.oneCell']) ?_)
  | (refine wpList_store_row rfl (.tmp 11) (.tmp 24) 45 rfl rfl rfl F2.out (er_info _ _) rfl (by first | kernel_rfl | simp [Value.oneCell']) ?_)
  | fail)
 generalize hW3 : World.setRow (World.setRow _ _ _) _ _ = W3 at *
 clear hW3 F1 F2
 have HB03 := lh (F3.out.row HB02.out)
 have HB13 := lh (F3.out.row HB12.out)
 have HB23 := lh (F3.out.row HB22.out)
 have HB33 := lh (F3.out.row HB32.out)
 have HQ3 := lh (HQ2.out.q F3.out)
 have HS3 := F3
 clear F3
 have HO3 := lh (HO2.out.quiet HS3.out)
 obtain ⟨e0, e1, -⟩ := row2 HE3.out
 go_wp2_with fail
 go_at_call 43
 refine (kok_any _ _ _).mono ?_
 rintro e w4 ⟨rfl, hq4⟩
 have HB04 := lh (hq4.row HB03.out)
 have HB14 := lh (hq4.row HB13.out)
 have HB24 := lh (hq4.row HB23.out)
 have HB34 := lh (hq4.row HB33.out)
 have HA4 := lh (hq4.row HA3.out)
 have HE4 := lh (hq4.row HE3.out)
 have HQ4 := lh (HQ3.out.q hq4)
 have HS4 := lh hq4
 clear hq4 e0 e1
 have HO4 := lh (HO3.out.quiet HS4.out)
 have HZx : Hid (w.heap.size + 1 + 1 + 1 < w2.heap.size) := lh (by have h1 := HZ1.out; have h2 := HS2.out.size; omega)
 obtain ⟨c0, c1, -⟩ := row2 HB04.out
 have hrd := kread_any (k := 1) (HD.out.quiet HQ4.out) HLl.out
 have HRd := lh hrd
 clear hrd
 go_wp2_with fail
 go_at_call 48
 refine HRd.out.mono ?_
 rintro e w5 ⟨hq5, hm5⟩
 rw [Hk.out] at hm5
 simp only at hm5
 have HB05 := lh (hq5.row HB04.out)
 have HB15 := lh (hq5.row HB14.out)
 have HB25 := lh (hq5.row HB24.out)
 have HB35 := lh (hq5.row HB34.out)
 have HA5 := lh (hq5.row HA4.out)
 have HE5 := lh (hq5.row HE4.out)
 have HQ5 := lh (HQ4.out.q hq5)
 have HS5 := lh hq5
 have HO5 := lh (HO4.out.quiet hq5)
 clear hq5 c0 c1
 obtain ⟨tv, rfl, hin5⟩ := hm5
 obtain ⟨ta, tcap, rfl, -⟩ := hin5.open
 obtain ⟨tl, htl⟩ : ∃ n, n = (l.drop 1).length := ⟨_, rfl⟩
 rw [← htl] at hin5 ⊢
 have HTl := lh htl
 have HI5 := lh hin5
 clear hin5 htl
 have hqq := Hq.out
 rw [hqq]
 clear hqq
 obtain ⟨f1, f2, f3, f4, f5, f6⟩ := fresh2 w5 #[.int .i64 0, .int .i64 0, .slice none 0 0] #[.int .i64 1, .int .i64 q, .slice ta tl tcap] 100 #[.int .i64 0, .slice none 0 0] #[.int .i64 0, .slice none 0 0] 45
 have F1 := lh f1
 have F2 := lh f2
 have F3 := lh f3
 have HT6 := lh f4
 have HG6 := lh f5
 have HZ6 := lh f6
 clear f1 f2 f3 f4 f5 f6
 go_upto_region 5 with (first
  | (refine wpList_store_row rfl (.tmp 12) (.tmp 33) 100 rfl rfl rfl F1.out (hd_info _ _ _) (rfl) (by first | kernel_rfl | simp [Value.oneCell']) ?_)
  | (refine wpList_store_row rfl (.tmp 13) (.tmp 34) 45 rfl rfl rfl F2.out (er_info _ _) rfl (by first | kernel_rfl | simp [Value.oneCell']) ?_)
  | fail)
 generalize hW6 : World.setRow (World.setRow _ _ _) _ _ = W6 at *
 clear hW6 F1 F2
 have HB06 := lh (F3.out.row HB05.out)
 have HB16 := lh (F3.out.row HB15.out)
 have HB26 := lh (F3.out.row HB25.out)
 have HB36 := lh (F3.out.row HB35.out)
 have HA6 := lh (F3.out.row HA5.out)
 have HE6 := lh (F3.out.row HE5.out)
 have HQ6 := lh (HQ5.out.q F3.out)
 have HS6 := F3
 clear F3
 have HO6 := lh (HO5.out.quiet HS6.out)
 have HI6 := lh (HI5.out.quiet HS6.out)
 obtain ⟨e0, e1, -⟩ := row2 HG6.out
 go_wp2_with fail
 go_at_call 43
 refine (kok_any _ _ _).mono ?_
 rintro e w7 ⟨rfl, hq7⟩
 have HB07 := lh (hq7.row HB06.out)
 have HB17 := lh (hq7.row HB16.out)
 have HB27 := lh (hq7.row HB26.out)
 have HB37 := lh (hq7.row HB36.out)
 have HA7 := lh (hq7.row HA6.out)
 have HE7 := lh (hq7.row HE6.out)
 have HT7 := lh (hq7.row HT6.out)
 have HG7 := lh (hq7.row HG6.out)
 have HQ7 := lh (HQ6.out.q hq7)
 have HS7 := lh hq7
 clear hq7 e0 e1
 have HO7 := lh (HO6.out.quiet HS7.out)
 have HI7 := lh (HI6.out.quiet HS7.out)
 have HZ5x : Hid (w2.heap.size + 1 < w5.heap.size) := lh (by have h1 := HZ3.out; have h2 := HS4.out.size; have h3 := HS5.out.size; omega)
 have HZ7x : Hid (w5.heap.size + 1 < w7.heap.size) := lh (by have h1 := HZ6.out; have h2 := HS7.out.size; omega)
 obtain ⟨t0, t1, t2⟩ := head_cells HT7.out
 obtain ⟨w8, rfl⟩ : ∃ z, z = w7 := ⟨_, rfl⟩
 have HB08 := HB07
 have HB18 := HB17
 have HB28 := HB27
 have HB38 := HB37
 have HA8 := HA7
 have HE8 := HE7
 have HT8 := HT7
 have HG8 := HG7
 have HQ8 := HQ7
 have HO8 := HO7
 have HI8 := HI7
 clear HB07
 clear HB17
 clear HB27
 clear HB37
 clear HA7
 clear HE7
 clear HT7
 clear HG7
 clear HQ7
 clear HO7
 clear HI7
 have Hnr := lh (kmnew_any HI8.out HL.out)
 go_wp2_with fail
 go_at_call 50
 refine Hnr.out.mono ?_
 rintro e w9 ⟨R, D, bv, hib, rfl, hmod, hq9, hR9, hD9⟩
 have HB09 := lh (hq9.row HB08.out)
 have HB19 := lh (hq9.row HB18.out)
 have HB29 := lh (hq9.row HB28.out)
 have HB39 := lh (hq9.row HB38.out)
 have HA9 := lh (hq9.row HA8.out)
 have HE9 := lh (hq9.row HE8.out)
 have HT9 := lh (hq9.row HT8.out)
 have HG9 := lh (hq9.row HG8.out)
 have HM9 := lh hmod
 have HQ9 := lh (HQ8.out.q hq9)
 have HO9 := lh (HO8.out.quiet hq9)
 have HRD := lh (show w8.heap.size ≤ R ∧ w8.heap.size ≤ D ∧ R < w9.heap.size ∧ D < w9.heap.size from ⟨hR9, hD9, hmod.lt.1, hmod.lt.2⟩)
 have HZw : Hid (w.heap.size + 1 + 1 + 1 < W1.heap.size ∧ W1.heap.size ≤ g ∧ g < w2.heap.size ∧ w2.heap.size + 1 < w5.heap.size ∧ w5.heap.size + 1 < w8.heap.size) := lh ⟨by have := HZ1.out; omega, (HO2.out.at g rfl).1, (HO2.out.at g rfl).2, HZ5x.out, by have := HZ7x.out; omega⟩
 clear hmod hq9 hR9 hD9 t0 t1 t2 Hnr
 have HRn : Hid ((w9.alloc (.cells #[.int .i64 0, .int .i64 0, .int .i64 0, .int .i64 0, .int .i64 0, .int .i64 0, .int .i64 0, .int .i64 0, .slice none 0 0, .slice none 0 0, .slice none 0 0, .slice none 0 0, .slice none 0 0] 70)).heap[w9.heap.size]? = some (.cells #[.int .i64 0, .int .i64 0, .int .i64 0, .int .i64 0, .int .i64 0, .int .i64 0, .int .i64 0, .int .i64 0, .slice none 0 0, .slice none 0 0, .slice none 0 0, .slice none 0 0, .slice none 0 0] 70 (0, 0))) := lh (heap_alloc_new w9 _)
 have HIz := lh (show (Tryz.prog.info? 70).map (·.size) = some (#[.int .i64 0, .int .i64 0, .int .i64 0, .int .i64 0, .int .i64 0, .int .i64 0, .int .i64 0, .int .i64 0, .slice none 0 0, .slice none 0 0, .slice none 0 0, .slice none 0 0, .slice none 0 0] : Array Value).size from ksq_info (k := 0) (mo := 0) (ms := [0, 0, 0, 0]) (vx := 0) (vy := 0) (lv := nilS) (vs := [nilS, nilS, nilS, nilS]) rfl rfl)
 have HOz := lh (show (#[.int .i64 0, .int .i64 0, .int .i64 0, .int .i64 0, .int .i64 0, .int .i64 0, .int .i64 0, .int .i64 0, .slice none 0 0, .slice none 0 0, .slice none 0 0, .slice none 0 0, .slice none 0 0] : Array Value).all (·.oneCell') = true from sqL_one (k := 0) (mo := 0) (ms := [0, 0, 0, 0]) (vx := 0) (vy := 0) (lv := nilS) rfl nils_one)
 have hsr := setRow_heap (w9.alloc (.cells #[.int .i64 0, .int .i64 0, .int .i64 0, .int .i64 0, .int .i64 0, .int .i64 0, .int .i64 0, .int .i64 0, .slice none 0 0, .slice none 0 0, .slice none 0 0, .slice none 0 0, .slice none 0 0] 70)) w9.heap.size _ #[.int .i64 0, .int .i64 0, .int .i64 0, .int .i64 0, .int .i64 0, .int .i64 0, .int .i64 0, .int .i64 0, .slice none 0 0, .slice none 0 0, .slice none 0 0, .slice none 0 0, .slice none 0 0] _ _ HRn.out
 have hso := (Only.new w9 (.cells #[.int .i64 0, .int .i64 0, .int .i64 0, .int .i64 0, .int .i64 0, .int .i64 0, .int .i64 0, .int .i64 0, .slice none 0 0, .slice none 0 0, .slice none 0 0, .slice none 0 0, .slice none 0 0] 70)).trans (Only.setRow (S := [w9.heap.size]) (Only.refl _ _) (g := w9.heap.size) (fun _ => by simp) #[.int .i64 0, .int .i64 0, .int .i64 0, .int .i64 0, .int .i64 0, .int .i64 0, .int .i64 0, .int .i64 0, .slice none 0 0, .slice none 0 0, .slice none 0 0, .slice none 0 0, .slice none 0 0]) (U := []) (by simp) (fun x hx hl => by rw [mSg] at hx; omega)
 have hsz : w9.heap.size < ((w9.alloc (.cells #[.int .i64 0, .int .i64 0, .int .i64 0, .int .i64 0, .int .i64 0, .int .i64 0, .int .i64 0, .int .i64 0, .slice none 0 0, .slice none 0 0, .slice none 0 0, .slice none 0 0, .slice none 0 0] 70)).setRow w9.heap.size #[.int .i64 0, .int .i64 0, .int .i64 0, .int .i64 0, .int .i64 0, .int .i64 0, .int .i64 0, .int .i64 0, .slice none 0 0, .slice none 0 0, .slice none 0 0, .slice none 0 0, .slice none 0 0]).heap.size := by rw [size_setRow]; simp
 have HRq := lh hsr
 have HSo := lh hso
 have HZq := lh hsz
 clear hsr hso hsz
 go_upto_region 15 with (first
  | (refine wpList_store_row rfl (.tmp 15) (.tmp 70) 70 rfl rfl rfl HRn.out HIz.out rfl HOz.out ?_)
  | fail)
 generalize hW10 : World.setRow (World.alloc w9 _) _ _ = W10 at *
 clear hW10 HRn
 have HB0x := lh (HSo.out.row HB09.out)
 have HB1x := lh (HSo.out.row HB19.out)
 have HB2x := lh (HSo.out.row HB29.out)
 have HB3x := lh (HSo.out.row HB39.out)
 have HAx := lh (HSo.out.row HA9.out)
 have HEx := lh (HSo.out.row HE9.out)
 have HTx := lh (HSo.out.row HT9.out)
 have HGx := lh (HSo.out.row HG9.out)
 have HQx := lh (HQ9.out.q HSo.out)
 have HOx := lh (HO9.out.quiet HSo.out)
 have HMx := lh (HM9.out.only2 HSo.out (by simp))
 have hbd := HBd.out
 have hWH0 : 0 ≤ W * H ∧ W * H ≤ 32 * 32 := ⟨Int.mul_nonneg (by omega) (by omega), Int.mul_le_mul hbd.1.2.1 hbd.2.1.2.1 (by omega) (by omega)⟩
 obtain ⟨NN, hNN⟩ : ∃ NN, NN = W * H := ⟨_, rfl⟩
 obtain ⟨C, hC⟩ : ∃ C : Nat, C = (W * H / 64).toNat := ⟨_, rfl⟩
 have Hcl : Hid ((C : Int) = W * H / 64) := lh (by rw [hC]; omega)
 have HWH : Hid (wrap64 (W * H) = NN) := lh (by rw [← hNN] at hWH0 ⊢; unfold wrap64; omega)
 have Hcc : Hid (NN / 64 = (C : Int)) := lh (by rw [Hcl.out, ← hNN])
 have hn0 : 0 ≤ NN := by omega
 have hn1 : NN ≤ 1024 := by omega
 have hC16 : C ≤ 16 := by omega
 rw [← hC] at HPost
 have hw1 : 8 ≤ W := hbd.1.1
 have hw2 : W ≤ 32 := hbd.1.2.1
 obtain ⟨U, hU⟩ : ∃ U : Nat, (U : Int) = W / 8 ∧ W = 8 * (U : Int) ∧ 1 ≤ U ∧ U ≤ 4 := ⟨(W / 8).toNat, by omega, by omega, by omega, by omega⟩
 have HU := lh hU
 clear hNN hC hWH0 hbd hU
 go_wp2_with fail
 go_loopw [16] (fun i wr => ∃ (k : Nat) (FK : FrameD) (MK : Mod) (gk gc : Nat), k ≤ C ∧ i = .int .i64 k ∧ Hid (FrOk FK ∧ FK.W = W ∧ FK.H = H ∧ FK.pix.length = F0.pix.length) ∧ Hid (wr.heap[w2.heap.size]? = some (.cells #[.int .i64 W, .int .i64 H, .slice (some ⟨gk, 0, none⟩) F0.pix.length gc] 27 (0, 0))) ∧ Hid (Own .i64 3 W1.heap.size wr (.slice (some ⟨gk, 0, none⟩) F0.pix.length gc) FK.pix) ∧ Hid (gk ≠ w2.heap.size ∧ gk ≠ R ∧ gk ≠ D) ∧ Hid (KModAt w8.heap.size hib R D bv wr MK) ∧ Hid (squaresGo true prev q (C - k) k FK MK = squaresGo true prev q C 0 F0 (modNew (l.drop 1))) ∧ Hid (MK.d.pos ≤ 4 + 23006 * k) ∧ Hid (Only [w2.heap.size, R, D] W10 wr)) (fun i _ => C - (intOf i).toNat)
 case atStart => exact ⟨0, F0, modNew (l.drop 1), g, gcap, by omega, rfl, lh ⟨HF0.out, HFW.out.1, HFW.out.2, rfl⟩, HAx, HOx, lh (by have := HZw.out; have := HRD.out; omega), HMx, lh rfl, lh (Nat.le_refl _), lh (Only.refl _ _)⟩
 case round =>
  obtain ⟨k, FK, MK, gk, gc, hk, rfl, HFK, HAk, HOk, HNk, HMk, Hgo, Hpos, HQk⟩ := hrel
  have HB1k := lh (HQk.out.rowAt HB1x.out (by simp only [List.mem_cons, List.not_mem_nil, or_false]; have := HZw.out; have := HRD.out; omega))
  have HB2k := lh (HQk.out.rowAt HB2x.out (by simp only [List.mem_cons, List.not_mem_nil, or_false]; have := HZw.out; have := HRD.out; omega))
  have HB3k := lh (HQk.out.rowAt HB3x.out (by simp only [List.mem_cons, List.not_mem_nil, or_false]; have := HZw.out; have := HRD.out; omega))
  have HEk := lh (HQk.out.rowAt HEx.out (by simp only [List.mem_cons, List.not_mem_nil, or_false]; have := HZw.out; have := HRD.out; omega))
  have HTk := lh (HQk.out.rowAt HTx.out (by simp only [List.mem_cons, List.not_mem_nil, or_false]; have := HZw.out; have := HRD.out; omega))
  have HGk := lh (HQk.out.rowAt HGx.out (by simp only [List.mem_cons, List.not_mem_nil, or_false]; have := HZw.out; have := HRD.out; omega))
  have HRk := lh (HQk.out.rowAt HRq.out (by simp only [List.mem_cons, List.not_mem_nil, or_false]; have := HZw.out; have := HRD.out; omega))
  have hwk := HQk.out.size
  have Hwk := lh hwk
  clear hwk
  have hwh := HWH.out
  by_cases hlt : k < C
  ·have hki : (k : Int) < NN / 64 := by rw [Hcc.out]; omega
   have hk0 : (0 : Int) ≤ (k : Int) := by omega
   obtain ⟨t0, t1, t2⟩ := head_cells HTk.out
   have HCode := lh (ksquare_any HMk.out true (sa := #[.int .i64 0, .int .i64 0, .int .i64 0, .int .i64 0, .int .i64 0, .int .i64 0, .int .i64 0, .int .i64 0, .slice none 0 0, .slice none 0 0, .slice none 0 0, .slice none 0 0, .slice none 0 0]) rfl (by have := Hpos.out; omega))
   have Hlt := lh hlt
   go_wp2_with (first
    | (refine wpList_load_row rfl (.tmp 15) 70 rfl rfl HRk.out Tryz.underlying70 rfl HIz.out ?_)
    | fail)
   clear t0 t1 t2 hki hwh
   go_at_call 51
   refine HCode.out.mono ?_
   rintro e w11 ⟨hmod11, hq11, hm11⟩
   have HB111 := lh (hq11.rowAt HB1k.out (by simp only [List.mem_cons, List.not_mem_nil, or_false]; have := HZw.out; have := HRD.out; omega))
   have HB211 := lh (hq11.rowAt HB2k.out (by simp only [List.mem_cons, List.not_mem_nil, or_false]; have := HZw.out; have := HRD.out; omega))
   have HB311 := lh (hq11.rowAt HB3k.out (by simp only [List.mem_cons, List.not_mem_nil, or_false]; have := HZw.out; have := HRD.out; omega))
   have HA11 := lh (hq11.rowAt HAk.out (by simp only [List.mem_cons, List.not_mem_nil, or_false]; have := HZw.out; have := HRD.out; omega))
   have HE11 := lh (hq11.rowAt HEk.out (by simp only [List.mem_cons, List.not_mem_nil, or_false]; have := HZw.out; have := HRD.out; omega))
   have HT11 := lh (hq11.rowAt HTk.out (by simp only [List.mem_cons, List.not_mem_nil, or_false]; have := HZw.out; have := HRD.out; omega))
   have HG11 := lh (hq11.rowAt HGk.out (by simp only [List.mem_cons, List.not_mem_nil, or_false]; have := HZw.out; have := HRD.out; omega))
   have hz10 := HZq.out
   have HR11 := lh (hq11.rowAt HRk.out (by simp only [List.mem_cons, List.not_mem_nil, or_false]; have := HRD.out; omega))
   have HM11 := lh hmod11
   have HQ11 := lh hq11
   have HO11 := lh (HOk.out.only hq11 (fun x hx e => by simp only [Value.ownBlock] at e; injection e with e; subst e; simp only [List.mem_cons, List.not_mem_nil, or_false] at hx; have := HNk.out; omega))
   have Hz11 := lh (show w9.heap.size < w11.heap.size by have := hq11.size; have := Hwk.out; omega)
   have Hwr11 := lh hq11.size
   clear hmod11 hq11 hz10 HCode
   cases hsq : (squareD true MK).1 with
   | error er =>
    exact qDRFA0
   | ok s =>
    rw [hsq] at hm11
    obtain ⟨lv, vs, rfl, hml, hsin⟩ := hm11
    obtain ⟨hadv, hsok, -⟩ := squareD_adv _ HMk.out.ok
    obtain ⟨hs1, hs2⟩ := hsok s hsq
    have hgo := Hgo.out
    rw [show C - k = (C - (k + 1)) + 1 by omega, squaresGo_more hsq] at hgo
    have HGO := lh hgo
    obtain ⟨C13, hC13⟩ : ∃ A, A = (sqL s.kind s.mode s.modes s.vx s.vy lv vs).toArray := ⟨_, rfl⟩
    rw [← hC13]
    have HInf := lh (show (Tryz.prog.info? 70).map (·.size) = some C13.size by rw [hC13]; exact ksq_info hml hsin.len)
    have HSiz := lh (show (#[.int .i64 0, .int .i64 0, .int .i64 0, .int .i64 0, .int .i64 0, .int .i64 0, .int .i64 0, .int .i64 0, .slice none 0 0, .slice none 0 0, .slice none 0 0, .slice none 0 0, .slice none 0 0] : Array Value).size = C13.size by rw [hC13]; exact (show (sqL s.kind s.mode s.modes s.vx s.vy lv vs).toArray.size = 13 by rw [List.size_toArray, sqL_size hml hsin.len]).symm)
    have HOne := lh (show C13.all (·.oneCell') = true by rw [hC13]; exact sqL_one hsin.one.1 hsin.one.2)
    have HC13 := lh hC13
    have Hs1 := lh hs1
    have Hs2 := lh hs2
    have Hml := lh hml
    have Hsin := lh hsin
    have Hadv := lh hadv
    clear hgo hsq hC13 hs1 hs2 hml hsin hadv hsok
    obtain ⟨f1, f2, f3, f4, f5, f6⟩ := fresh2 w11 #[.int .i64 0, .int .i64 0, .int .i64 0, .int .i64 0, .int .i64 0, .int .i64 0, .int .i64 0, .int .i64 0, .slice none 0 0, .slice none 0 0, .slice none 0 0, .slice none 0 0, .slice none 0 0] C13 70 #[.int .i64 0, .slice none 0 0] #[.int .i64 0, .slice none 0 0] 45
    have F1 := lh f1
    have F2 := lh f2
    have F3 := lh f3
    have HY12 := lh f4
    have HX12 := lh f5
    have HZ12 := lh f6
    clear f1 f2 f3 f4 f5 f6
    go_upto_region 19 with (first
     | (refine wpList_store_row rfl (.tmp 17) (.tmp 86) 70 rfl rfl rfl F1.out (HInf.out) (HSiz.out) (HOne.out) ?_)
     | (refine wpList_store_row rfl (.tmp 18) (.tmp 87) 45 rfl rfl rfl F2.out (er_info _ _) rfl (by first | kernel_rfl | simp [Value.oneCell']) ?_)
     | fail)
    generalize hW12 : World.setRow (World.setRow _ _ _) _ _ = W12 at *
    clear hW12 F1 F2
    have HB112 := lh (F3.out.row HB111.out)
    have HA12 := lh (F3.out.row HA11.out)
    have HT12 := lh (F3.out.row HT11.out)
    have HS12 := F3
    clear F3
    obtain ⟨e0, e1, -⟩ := row2 HX12.out
    go_wp2_with fail
    go_at_call 43
    refine (kok_any _ _ _).mono ?_
    rintro e w13 ⟨rfl, hq13⟩
    have HB113 := lh (hq13.row HB112.out)
    have HA13 := lh (hq13.row HA12.out)
    have HT13 := lh (hq13.row HT12.out)
    have HX13 := lh (hq13.row HX12.out)
    have HY13 := lh (hq13.row HY12.out)
    have HS13 := lh hq13
    clear hq13 e0 e1
    skip
    obtain ⟨K8, hK8⟩ : ∃ K8, K8 = (k : Int) * 8 := ⟨_, rfl⟩
    obtain ⟨X, hX⟩ : ∃ X, X = K8 % W := ⟨_, rfl⟩
    obtain ⟨Y, hY⟩ : ∃ Y, Y = K8 / W * 8 := ⟨_, rfl⟩
    have hu := HU.out
    have e1 : W.tdiv 8 = (U : Int) := by rw [Int.tdiv_eq_ediv_of_nonneg (by omega)]; omega
    have e1' : W / 8 = (U : Int) := by omega
    obtain ⟨XU, hXU⟩ : ∃ z, z = (k : Int) % (U : Int) := ⟨_, rfl⟩
    obtain ⟨YU, hYU⟩ : ∃ z, z = (k : Int) / (U : Int) := ⟨_, rfl⟩
    have e2 : (k : Int).tmod (U : Int) = XU := by rw [hXU, Int.tmod_eq_emod_of_nonneg (by omega)]
    have e3 : (k : Int).tdiv (U : Int) = YU := by rw [hYU, Int.tdiv_eq_ediv_of_nonneg (by omega)]
    have hXX : XU * 8 = X ∧ YU * 8 = Y ∧ 0 ≤ XU ∧ XU ≤ 3 ∧ 0 ≤ YU ∧ YU ≤ 16 := by
     exact qDRFA3
    have e4 : IntKind.i64.wrap (XU * 8) = X := by rw [IntKind.wrap_i64]; omega
    have e4' : wrap64 (XU * 8) = X := by unfold wrap64; omega
    have e5 : IntKind.i64.wrap (YU * 8) = Y := by rw [IntKind.wrap_i64]; omega
    have e5' : wrap64 (YU * 8) = Y := by unfold wrap64; omega
    have e6 : IntKind.i64.wrap YU = YU := by rw [IntKind.wrap_i64]; omega
    have e6' : wrap64 YU = YU := by unfold wrap64; omega
    have e7 : IntKind.i64.wrap (U : Int) = (U : Int) := by rw [IntKind.wrap_i64]; omega
    have hUn : ¬ (U : Int) = 0 := by omega
    have hUn2 : ¬ U = 0 := by omega
    have hUb : ((U : Int) == 0) = false := by rw [beq_eq_false_iff_ne]; exact hUn
    obtain ⟨hfk, hfw, hfh, hfl⟩ := HFK.out
    have hbd := HBd.out
    obtain ⟨p1, p2, p3, p4⟩ := square_in (W := W) (H := H) (i := k) hbd.1.1 hbd.1.2.1 hbd.1.2.2 hbd.2.1.1 hbd.2.1.2.1 hbd.2.1.2.2 (by have := Hcl.out; have := Hlt.out; omega)
    rw [← hK8, ← hX] at p1 p2
    rw [← hK8, ← hY] at p3 p4
    have hkw : Only [] w wr := HQx.out.trans HQk.out (U := []) (by simp) (fun g hg hl => by simp only [List.mem_cons, List.not_mem_nil, or_false] at hg; have := HZw.out; have := HRD.out; omega)
    have hk13 : Only [] w w13 := ((hkw.trans HQ11.out (U := []) (by simp) (fun g hg hl => by simp only [List.mem_cons, List.not_mem_nil, or_false] at hg; have := HZw.out; have := HRD.out; omega)).q HS12.out).q HS13.out
    have hB := kbuild_any (f := FK) (prev := prev) (s := s) (x := X) (y := Y) (q := q) (mo := (s.mode : Int)) (w := w13.drew) (lv := lv) (vs := vs) hfk (pv := .slice (some ⟨gk, 0, none⟩) F0.pix.length gc) ((((HO11.out.quiet HS12.out).quiet HS13.out).quiet (Only.refl _ _).drew).ints) (Nat.le_refl _) ((HPw.out.quiet hk13).quiet (Only.refl _ _).drew) (((Hsin.out.only HS12.out (by simp)).only HS13.out (by simp)).only (Only.refl [] _).drew (by simp)) (fun hk => absurd (Hs2.out (by trivial)) (by omega)) Hs1.out.may (fun _ => rfl) Hml.out Hqn.out p1 (by rw [hfw]; exact p2) p3 (by rw [hfh]; exact p4)
    rw [hfw, hfh, ← HC13.out] at hB
    have HB_ := lh hB
    have hlo := laySq_ok hfk (s := s) (prev := prev) (fun hk => (absurd (Hs2.out (by trivial)) (by omega))) p1 (by rw [hfw]; exact p2) p3 (by rw [hfh]; exact p4) Hs1.out (q : Int)
    have hlw := laySq_W FK prev X Y q s
    have HFKn : Hid (FrOk (laySq FK prev X Y q s) ∧ (laySq FK prev X Y q s).W = W ∧ (laySq FK prev X Y q s).H = H ∧ (laySq FK prev X Y q s).pix.length = F0.pix.length) := lh ⟨hlo, hlw.1.trans hfw, hlw.2.trans hfh, by
     have t1 := hlo.len
     have t2 := hfk.len
     rw [hlw.1, hlw.2] at t1
     omega⟩
    have HGO2 : Hid (squaresGo true prev q (C - (k + 1)) (k + 1) (laySq FK prev X Y q s) (squareD true MK).2 = squaresGo true prev q C 0 F0 (modNew (l.drop 1))) := lh (by
     rw [← HGO.out, hfw, ← hK8, ← hX, ← hY])
    exact qDRFA1
  ·exact qDRFA2
theorem kframe_squares2 (hd : Ints .u8 lo hi w dv l) (hp : Ints .i64 lo' hi' w pv prev.pix) (hn : newB W H 128 = true) (hl : l.length ≤ 140737488355328) (hk : readB ⟨2, l⟩ = none) (hma : matesB prev W H = true) :
  Calls Tryz.prog 20 #[.agg #[.int .i64 2, dv], .agg #[.int .i64 prev.W, .int .i64 prev.H, pv], .int .i64 W, .int .i64 H] w (KFrameP w (squaresGo false prev (l.getD 0 0) (W * H / 64).toNat 0 (newF W H 128) (modNew (l.drop 1)))) := by
 refine hidQ fun Q HPost => ?_
 have HLl := lh hl
 have Hk := lh hk
 clear hl hk
 obtain ⟨hl1, hl2, hq0, hq15⟩ := readB_in (k := 2) (by omega) hd.2 Hk.out
 have HL := lh (show (l.drop 1).length ≤ 100000000 by rw [List.length_drop]; omega)
 obtain ⟨q, hq⟩ := Int.eq_ofNat_of_zero_le hq0
 rw [hq] at HPost
 have hqn : q ≤ 15 := by omega
 have Hqn := lh hqn
 have Hq := lh hq
 have HPw := lh hp
 clear hl1 hl2 hq0 hq15 hqn hq
 have HPF : Hid (FrOk prev ∧ prev.W = W ∧ prev.H = H) := lh (by
  unfold matesB at hma
  rw [Bool.and_eq_true, Bool.and_eq_true, mayF_iff, decide_eq_true_iff, decide_eq_true_iff] at hma
  exact ⟨hma.1.1, hma.1.2, hma.2⟩)
 have HPz : Hid (0 < prev.pix.length) := lh (frok_pos HPF.out.1)
 have HPl : Hid (prev.pix.length ≤ 1000000000) := lh (frok_le HPF.out.1)
 have Hma := lh hma
 clear hma
 obtain ⟨da, dcap, rfl, -⟩ := hd.open
 obtain ⟨pa, pcap, rfl, -⟩ := hp.open
 obtain ⟨hq1, HB01, HB11, HB21, HB31, HZ1⟩ := boxes4 w (.cells #[.int .i64 2, .slice da l.length dcap] 24) (.cells #[.int .i64 prev.W, .int .i64 prev.H, .slice pa prev.pix.length pcap] 27) (.cells #[.int .i64 0, .int .i64 0, .slice none 0 0] 27) (.cells #[.int .i64 0, .slice none 0 0] 45)
 have HQ1 := lh hq1
 have HD := lh hd
 have HP := lh hp
 clear hq1 hd hp
 go_enter Tryz.func20, Tryz.ntmps20
 go_wp2_with fail
 generalize hW1 : World.alloc (World.alloc (World.alloc (World.alloc w _) _) _) _ = W1 at *
 clear hW1
 go_at_call 47
 refine (knew_any W H 128 W1).mono ?_
 rintro e w2 ⟨hq2, hm2⟩
 rw [hn] at hm2
 obtain ⟨g, gcap, rfl, hown2⟩ := hm2
 have HF0 := lh (newF_ok hn)
 have HFW : Hid ((newF W H 128).W = W ∧ (newF W H 128).H = H) := lh ⟨rfl, rfl⟩
 have HO2 := lh hown2
 have HB02 := lh (hq2.row HB01.out)
 have HB12 := lh (hq2.row HB11.out)
 have HB22 := lh (hq2.row HB21.out)
 have HB32 := lh (hq2.row HB31.out)
 have HQ2 := lh (HQ1.out.q hq2)
 have HS2 := lh hq2
 have HBd := lh (newB_iff.1 hn)
 clear hq2 hn hown2
 generalize hF0 : newF W H 128 = F0 at *
 clear hF0
 obtain ⟨f1, f2, f3, f4, f5, f6⟩ := fresh2 w2 #[.int .i64 0, .int .i64 0, .slice none 0 0] #[.int .i64 W, .int .i64 H, .slice (some ⟨g, 0, none⟩) F0.pix.length gcap] 27 #[.int .i64 0, .slice none 0 0] #[.int .i64 0, .slice none 0 0] 45
 have F1 := lh f1
 have F2 := lh f2
 have F3 := lh f3
 have HA3 := lh f4
 have HE3 := lh f5
 have HZ3 := lh f6
 clear f1 f2 f3 f4 f5 f6
 go_upto_region 2 with (first
  | (refine wpList_store_row rfl (.tmp 10) (.tmp 23) 27 rfl rfl rfl F1.out (fr_info _ _ _) (rfl) (by first | kernel_rfl | simp [Value.oneCell']) ?_)
  | (refine wpList_store_row rfl (.tmp 11) (.tmp 24) 45 rfl rfl rfl F2.out (er_info _ _) rfl (by first | kernel_rfl | simp [Value.oneCell']) ?_)
  | fail)
 generalize hW3 : World.setRow (World.setRow _ _ _) _ _ = W3 at *
 clear hW3 F1 F2
 have HB03 := lh (F3.out.row HB02.out)
 have HB13 := lh (F3.out.row HB12.out)
 have HB23 := lh (F3.out.row HB22.out)
 have HB33 := lh (F3.out.row HB32.out)
 have HQ3 := lh (HQ2.out.q F3.out)
 have HS3 := F3
 clear F3
 have HO3 := lh (HO2.out.quiet HS3.out)
 obtain ⟨e0, e1, -⟩ := row2 HE3.out
 go_wp2_with fail
 go_at_call 43
 refine (kok_any _ _ _).mono ?_
 rintro e w4 ⟨rfl, hq4⟩
 have HB04 := lh (hq4.row HB03.out)
 have HB14 := lh (hq4.row HB13.out)
 have HB24 := lh (hq4.row HB23.out)
 have HB34 := lh (hq4.row HB33.out)
 have HA4 := lh (hq4.row HA3.out)
 have HE4 := lh (hq4.row HE3.out)
 have HQ4 := lh (HQ3.out.q hq4)
 have HS4 := lh hq4
 clear hq4 e0 e1
 have HO4 := lh (HO3.out.quiet HS4.out)
 have HZx : Hid (w.heap.size + 1 + 1 + 1 < w2.heap.size) := lh (by have h1 := HZ1.out; have h2 := HS2.out.size; omega)
 obtain ⟨c0, c1, -⟩ := row2 HB04.out
 have hrd := kread_any (k := 2) (HD.out.quiet HQ4.out) HLl.out
 have HRd := lh hrd
 clear hrd
 go_wp2_with fail
 go_at_call 48
 refine HRd.out.mono ?_
 rintro e w5 ⟨hq5, hm5⟩
 rw [Hk.out] at hm5
 simp only at hm5
 have HB05 := lh (hq5.row HB04.out)
 have HB15 := lh (hq5.row HB14.out)
 have HB25 := lh (hq5.row HB24.out)
 have HB35 := lh (hq5.row HB34.out)
 have HA5 := lh (hq5.row HA4.out)
 have HE5 := lh (hq5.row HE4.out)
 have HQ5 := lh (HQ4.out.q hq5)
 have HS5 := lh hq5
 have HO5 := lh (HO4.out.quiet hq5)
 clear hq5 c0 c1
 obtain ⟨tv, rfl, hin5⟩ := hm5
 obtain ⟨ta, tcap, rfl, -⟩ := hin5.open
 obtain ⟨tl, htl⟩ : ∃ n, n = (l.drop 1).length := ⟨_, rfl⟩
 rw [← htl] at hin5 ⊢
 have HTl := lh htl
 have HI5 := lh hin5
 clear hin5 htl
 have hqq := Hq.out
 rw [hqq]
 clear hqq
 obtain ⟨f1, f2, f3, f4, f5, f6⟩ := fresh2 w5 #[.int .i64 0, .int .i64 0, .slice none 0 0] #[.int .i64 2, .int .i64 q, .slice ta tl tcap] 100 #[.int .i64 0, .slice none 0 0] #[.int .i64 0, .slice none 0 0] 45
 have F1 := lh f1
 have F2 := lh f2
 have F3 := lh f3
 have HT6 := lh f4
 have HG6 := lh f5
 have HZ6 := lh f6
 clear f1 f2 f3 f4 f5 f6
 go_upto_region 5 with (first
  | (refine wpList_store_row rfl (.tmp 12) (.tmp 33) 100 rfl rfl rfl F1.out (hd_info _ _ _) (rfl) (by first | kernel_rfl | simp [Value.oneCell']) ?_)
  | (refine wpList_store_row rfl (.tmp 13) (.tmp 34) 45 rfl rfl rfl F2.out (er_info _ _) rfl (by first | kernel_rfl | simp [Value.oneCell']) ?_)
  | fail)
 generalize hW6 : World.setRow (World.setRow _ _ _) _ _ = W6 at *
 clear hW6 F1 F2
 have HB06 := lh (F3.out.row HB05.out)
 have HB16 := lh (F3.out.row HB15.out)
 have HB26 := lh (F3.out.row HB25.out)
 have HB36 := lh (F3.out.row HB35.out)
 have HA6 := lh (F3.out.row HA5.out)
 have HE6 := lh (F3.out.row HE5.out)
 have HQ6 := lh (HQ5.out.q F3.out)
 have HS6 := F3
 clear F3
 have HO6 := lh (HO5.out.quiet HS6.out)
 have HI6 := lh (HI5.out.quiet HS6.out)
 obtain ⟨e0, e1, -⟩ := row2 HG6.out
 go_wp2_with fail
 go_at_call 43
 refine (kok_any _ _ _).mono ?_
 rintro e w7 ⟨rfl, hq7⟩
 have HB07 := lh (hq7.row HB06.out)
 have HB17 := lh (hq7.row HB16.out)
 have HB27 := lh (hq7.row HB26.out)
 have HB37 := lh (hq7.row HB36.out)
 have HA7 := lh (hq7.row HA6.out)
 have HE7 := lh (hq7.row HE6.out)
 have HT7 := lh (hq7.row HT6.out)
 have HG7 := lh (hq7.row HG6.out)
 have HQ7 := lh (HQ6.out.q hq7)
 have HS7 := lh hq7
 clear hq7 e0 e1
 have HO7 := lh (HO6.out.quiet HS7.out)
 have HI7 := lh (HI6.out.quiet HS7.out)
 have HZ5x : Hid (w2.heap.size + 1 < w5.heap.size) := lh (by have h1 := HZ3.out; have h2 := HS4.out.size; have h3 := HS5.out.size; omega)
 have HZ7x : Hid (w5.heap.size + 1 < w7.heap.size) := lh (by have h1 := HZ6.out; have h2 := HS7.out.size; omega)
 obtain ⟨t0, t1, t2⟩ := head_cells HT7.out
 obtain ⟨a0, a1, a2⟩ := frame_cells HA7.out
 obtain ⟨p0, p1, p2⟩ := frame_cells HB17.out
 have hle := leans_any prev.W prev.H W H (.slice (some ⟨g, 0, none⟩) F0.pix.length gcap) (HP.out.quiet HQ7.out)
 rw [show matesB ⟨prev.W, prev.H, prev.pix⟩ W H = true from Hma.out] at hle
 have Hle := lh hle
 clear hle
 go_wp2_with fail
 go_at_call 49
 refine Hle.out.mono ?_
 rintro e w8 ⟨rfl, hq8⟩
 have HB08 := lh (hq8.row HB07.out)
 have HB18 := lh (hq8.row HB17.out)
 have HB28 := lh (hq8.row HB27.out)
 have HB38 := lh (hq8.row HB37.out)
 have HA8 := lh (hq8.row HA7.out)
 have HE8 := lh (hq8.row HE7.out)
 have HT8 := lh (hq8.row HT7.out)
 have HG8 := lh (hq8.row HG7.out)
 have HQ8 := lh (HQ7.out.q hq8)
 have HS8 := lh hq8
 have HO8 := lh (HO7.out.quiet hq8)
 have HI8 := lh (HI7.out.quiet hq8)
 clear hq8 a0 a1 a2 p0 p1 p2 t0 t1 t2
 obtain ⟨t0, t1, t2⟩ := head_cells HT8.out
 have Hnr := lh (kmnew_any HI8.out HL.out)
 go_wp2_with fail
 go_at_call 50
 refine Hnr.out.mono ?_
 rintro e w9 ⟨R, D, bv, hib, rfl, hmod, hq9, hR9, hD9⟩
 have HB09 := lh (hq9.row HB08.out)
 have HB19 := lh (hq9.row HB18.out)
 have HB29 := lh (hq9.row HB28.out)
 have HB39 := lh (hq9.row HB38.out)
 have HA9 := lh (hq9.row HA8.out)
 have HE9 := lh (hq9.row HE8.out)
 have HT9 := lh (hq9.row HT8.out)
 have HG9 := lh (hq9.row HG8.out)
 have HM9 := lh hmod
 have HQ9 := lh (HQ8.out.q hq9)
 have HO9 := lh (HO8.out.quiet hq9)
 have HRD := lh (show w8.heap.size ≤ R ∧ w8.heap.size ≤ D ∧ R < w9.heap.size ∧ D < w9.heap.size from ⟨hR9, hD9, hmod.lt.1, hmod.lt.2⟩)
 have HZw : Hid (w.heap.size + 1 + 1 + 1 < W1.heap.size ∧ W1.heap.size ≤ g ∧ g < w2.heap.size ∧ w2.heap.size + 1 < w5.heap.size ∧ w5.heap.size + 1 < w8.heap.size) := lh ⟨by have := HZ1.out; omega, (HO2.out.at g rfl).1, (HO2.out.at g rfl).2, HZ5x.out, by have := HZ7x.out; have := HS8.out.size; omega⟩
 clear hmod hq9 hR9 hD9 t0 t1 t2 Hnr
 have HRn : Hid ((w9.alloc (.cells #[.int .i64 0, .int .i64 0, .int .i64 0, .int .i64 0, .int .i64 0, .int .i64 0, .int .i64 0, .int .i64 0, .slice none 0 0, .slice none 0 0, .slice none 0 0, .slice none 0 0, .slice none 0 0] 70)).heap[w9.heap.size]? = some (.cells #[.int .i64 0, .int .i64 0, .int .i64 0, .int .i64 0, .int .i64 0, .int .i64 0, .int .i64 0, .int .i64 0, .slice none 0 0, .slice none 0 0, .slice none 0 0, .slice none 0 0, .slice none 0 0] 70 (0, 0))) := lh (heap_alloc_new w9 _)
 have HIz := lh (show (Tryz.prog.info? 70).map (·.size) = some (#[.int .i64 0, .int .i64 0, .int .i64 0, .int .i64 0, .int .i64 0, .int .i64 0, .int .i64 0, .int .i64 0, .slice none 0 0, .slice none 0 0, .slice none 0 0, .slice none 0 0, .slice none 0 0] : Array Value).size from ksq_info (k := 0) (mo := 0) (ms := [0, 0, 0, 0]) (vx := 0) (vy := 0) (lv := nilS) (vs := [nilS, nilS, nilS, nilS]) rfl rfl)
 have HOz := lh (show (#[.int .i64 0, .int .i64 0, .int .i64 0, .int .i64 0, .int .i64 0, .int .i64 0, .int .i64 0, .int .i64 0, .slice none 0 0, .slice none 0 0, .slice none 0 0, .slice none 0 0, .slice none 0 0] : Array Value).all (·.oneCell') = true from sqL_one (k := 0) (mo := 0) (ms := [0, 0, 0, 0]) (vx := 0) (vy := 0) (lv := nilS) rfl nils_one)
 have hsr := setRow_heap (w9.alloc (.cells #[.int .i64 0, .int .i64 0, .int .i64 0, .int .i64 0, .int .i64 0, .int .i64 0, .int .i64 0, .int .i64 0, .slice none 0 0, .slice none 0 0, .slice none 0 0, .slice none 0 0, .slice none 0 0] 70)) w9.heap.size _ #[.int .i64 0, .int .i64 0, .int .i64 0, .int .i64 0, .int .i64 0, .int .i64 0, .int .i64 0, .int .i64 0, .slice none 0 0, .slice none 0 0, .slice none 0 0, .slice none 0 0, .slice none 0 0] _ _ HRn.out
 have hso := (Only.new w9 (.cells #[.int .i64 0, .int .i64 0, .int .i64 0, .int .i64 0, .int .i64 0, .int .i64 0, .int .i64 0, .int .i64 0, .slice none 0 0, .slice none 0 0, .slice none 0 0, .slice none 0 0, .slice none 0 0] 70)).trans (Only.setRow (S := [w9.heap.size]) (Only.refl _ _) (g := w9.heap.size) (fun _ => by simp) #[.int .i64 0, .int .i64 0, .int .i64 0, .int .i64 0, .int .i64 0, .int .i64 0, .int .i64 0, .int .i64 0, .slice none 0 0, .slice none 0 0, .slice none 0 0, .slice none 0 0, .slice none 0 0]) (U := []) (by simp) (fun x hx hl => by rw [mSg] at hx; omega)
 have hsz : w9.heap.size < ((w9.alloc (.cells #[.int .i64 0, .int .i64 0, .int .i64 0, .int .i64 0, .int .i64 0, .int .i64 0, .int .i64 0, .int .i64 0, .slice none 0 0, .slice none 0 0, .slice none 0 0, .slice none 0 0, .slice none 0 0] 70)).setRow w9.heap.size #[.int .i64 0, .int .i64 0, .int .i64 0, .int .i64 0, .int .i64 0, .int .i64 0, .int .i64 0, .int .i64 0, .slice none 0 0, .slice none 0 0, .slice none 0 0, .slice none 0 0, .slice none 0 0]).heap.size := by rw [size_setRow]; simp
 have HRq := lh hsr
 have HSo := lh hso
 have HZq := lh hsz
 clear hsr hso hsz
 go_upto_region 15 with (first
  | (refine wpList_store_row rfl (.tmp 15) (.tmp 70) 70 rfl rfl rfl HRn.out HIz.out rfl HOz.out ?_)
  | fail)
 generalize hW10 : World.setRow (World.alloc w9 _) _ _ = W10 at *
 clear hW10 HRn
 have HB0x := lh (HSo.out.row HB09.out)
 have HB1x := lh (HSo.out.row HB19.out)
 have HB2x := lh (HSo.out.row HB29.out)
 have HB3x := lh (HSo.out.row HB39.out)
 have HAx := lh (HSo.out.row HA9.out)
 have HEx := lh (HSo.out.row HE9.out)
 have HTx := lh (HSo.out.row HT9.out)
 have HGx := lh (HSo.out.row HG9.out)
 have HQx := lh (HQ9.out.q HSo.out)
 have HOx := lh (HO9.out.quiet HSo.out)
 have HMx := lh (HM9.out.only2 HSo.out (by simp))
 have hbd := HBd.out
 have hWH0 : 0 ≤ W * H ∧ W * H ≤ 32 * 32 := ⟨Int.mul_nonneg (by omega) (by omega), Int.mul_le_mul hbd.1.2.1 hbd.2.1.2.1 (by omega) (by omega)⟩
 obtain ⟨NN, hNN⟩ : ∃ NN, NN = W * H := ⟨_, rfl⟩
 obtain ⟨C, hC⟩ : ∃ C : Nat, C = (W * H / 64).toNat := ⟨_, rfl⟩
 have Hcl : Hid ((C : Int) = W * H / 64) := lh (by rw [hC]; omega)
 have HWH : Hid (wrap64 (W * H) = NN) := lh (by rw [← hNN] at hWH0 ⊢; unfold wrap64; omega)
 have Hcc : Hid (NN / 64 = (C : Int)) := lh (by rw [Hcl.out, ← hNN])
 have hn0 : 0 ≤ NN := by omega
 have hn1 : NN ≤ 1024 := by omega
 have hC16 : C ≤ 16 := by omega
 rw [← hC] at HPost
 have hw1 : 8 ≤ W := hbd.1.1
 have hw2 : W ≤ 32 := hbd.1.2.1
 obtain ⟨U, hU⟩ : ∃ U : Nat, (U : Int) = W / 8 ∧ W = 8 * (U : Int) ∧ 1 ≤ U ∧ U ≤ 4 := ⟨(W / 8).toNat, by omega, by omega, by omega, by omega⟩
 have HU := lh hU
 clear hNN hC hWH0 hbd hU
 go_wp2_with fail
 go_loopw [16] (fun i wr => ∃ (k : Nat) (FK : FrameD) (MK : Mod) (gk gc : Nat), k ≤ C ∧ i = .int .i64 k ∧ Hid (FrOk FK ∧ FK.W = W ∧ FK.H = H ∧ FK.pix.length = F0.pix.length) ∧ Hid (wr.heap[w2.heap.size]? = some (.cells #[.int .i64 W, .int .i64 H, .slice (some ⟨gk, 0, none⟩) F0.pix.length gc] 27 (0, 0))) ∧ Hid (Own .i64 3 W1.heap.size wr (.slice (some ⟨gk, 0, none⟩) F0.pix.length gc) FK.pix) ∧ Hid (gk ≠ w2.heap.size ∧ gk ≠ R ∧ gk ≠ D) ∧ Hid (KModAt w8.heap.size hib R D bv wr MK) ∧ Hid (squaresGo false prev q (C - k) k FK MK = squaresGo false prev q C 0 F0 (modNew (l.drop 1))) ∧ Hid (MK.d.pos ≤ 4 + 23006 * k) ∧ Hid (Only [w2.heap.size, R, D] W10 wr)) (fun i _ => C - (intOf i).toNat)
 case atStart => exact ⟨0, F0, modNew (l.drop 1), g, gcap, by omega, rfl, lh ⟨HF0.out, HFW.out.1, HFW.out.2, rfl⟩, HAx, HOx, lh (by have := HZw.out; have := HRD.out; omega), HMx, lh rfl, lh (Nat.le_refl _), lh (Only.refl _ _)⟩
 case round =>
  obtain ⟨k, FK, MK, gk, gc, hk, rfl, HFK, HAk, HOk, HNk, HMk, Hgo, Hpos, HQk⟩ := hrel
  have HB1k := lh (HQk.out.rowAt HB1x.out (by simp only [List.mem_cons, List.not_mem_nil, or_false]; have := HZw.out; have := HRD.out; omega))
  have HB2k := lh (HQk.out.rowAt HB2x.out (by simp only [List.mem_cons, List.not_mem_nil, or_false]; have := HZw.out; have := HRD.out; omega))
  have HB3k := lh (HQk.out.rowAt HB3x.out (by simp only [List.mem_cons, List.not_mem_nil, or_false]; have := HZw.out; have := HRD.out; omega))
  have HEk := lh (HQk.out.rowAt HEx.out (by simp only [List.mem_cons, List.not_mem_nil, or_false]; have := HZw.out; have := HRD.out; omega))
  have HTk := lh (HQk.out.rowAt HTx.out (by simp only [List.mem_cons, List.not_mem_nil, or_false]; have := HZw.out; have := HRD.out; omega))
  have HGk := lh (HQk.out.rowAt HGx.out (by simp only [List.mem_cons, List.not_mem_nil, or_false]; have := HZw.out; have := HRD.out; omega))
  have HRk := lh (HQk.out.rowAt HRq.out (by simp only [List.mem_cons, List.not_mem_nil, or_false]; have := HZw.out; have := HRD.out; omega))
  have hwk := HQk.out.size
  have Hwk := lh hwk
  clear hwk
  have hwh := HWH.out
  by_cases hlt : k < C
  ·have hki : (k : Int) < NN / 64 := by rw [Hcc.out]; omega
   have hk0 : (0 : Int) ≤ (k : Int) := by omega
   obtain ⟨t0, t1, t2⟩ := head_cells HTk.out
   have HCode := lh (ksquare_any HMk.out false (sa := #[.int .i64 0, .int .i64 0, .int .i64 0, .int .i64 0, .int .i64 0, .int .i64 0, .int .i64 0, .int .i64 0, .slice none 0 0, .slice none 0 0, .slice none 0 0, .slice none 0 0, .slice none 0 0]) rfl (by have := Hpos.out; omega))
   have Hlt := lh hlt
   go_wp2_with (first
    | (refine wpList_load_row rfl (.tmp 15) 70 rfl rfl HRk.out Tryz.underlying70 rfl HIz.out ?_)
    | fail)
   clear t0 t1 t2 hki hwh
   go_at_call 51
   refine HCode.out.mono ?_
   rintro e w11 ⟨hmod11, hq11, hm11⟩
   have HB111 := lh (hq11.rowAt HB1k.out (by simp only [List.mem_cons, List.not_mem_nil, or_false]; have := HZw.out; have := HRD.out; omega))
   have HB211 := lh (hq11.rowAt HB2k.out (by simp only [List.mem_cons, List.not_mem_nil, or_false]; have := HZw.out; have := HRD.out; omega))
   have HB311 := lh (hq11.rowAt HB3k.out (by simp only [List.mem_cons, List.not_mem_nil, or_false]; have := HZw.out; have := HRD.out; omega))
   have HA11 := lh (hq11.rowAt HAk.out (by simp only [List.mem_cons, List.not_mem_nil, or_false]; have := HZw.out; have := HRD.out; omega))
   have HE11 := lh (hq11.rowAt HEk.out (by simp only [List.mem_cons, List.not_mem_nil, or_false]; have := HZw.out; have := HRD.out; omega))
   have HT11 := lh (hq11.rowAt HTk.out (by simp only [List.mem_cons, List.not_mem_nil, or_false]; have := HZw.out; have := HRD.out; omega))
   have HG11 := lh (hq11.rowAt HGk.out (by simp only [List.mem_cons, List.not_mem_nil, or_false]; have := HZw.out; have := HRD.out; omega))
   have hz10 := HZq.out
   have HR11 := lh (hq11.rowAt HRk.out (by simp only [List.mem_cons, List.not_mem_nil, or_false]; have := HRD.out; omega))
   have HM11 := lh hmod11
   have HQ11 := lh hq11
   have HO11 := lh (HOk.out.only hq11 (fun x hx e => by simp only [Value.ownBlock] at e; injection e with e; subst e; simp only [List.mem_cons, List.not_mem_nil, or_false] at hx; have := HNk.out; omega))
   have Hz11 := lh (show w9.heap.size < w11.heap.size by have := hq11.size; have := Hwk.out; omega)
   have Hwr11 := lh hq11.size
   clear hmod11 hq11 hz10 HCode
   cases hsq : (squareD false MK).1 with
   | error er =>
    exact qDRFA0
   | ok s =>
    rw [hsq] at hm11
    obtain ⟨lv, vs, rfl, hml, hsin⟩ := hm11
    obtain ⟨hadv, hsok, -⟩ := squareD_adv _ HMk.out.ok
    obtain ⟨hs1, hs2⟩ := hsok s hsq
    have hgo := Hgo.out
    rw [show C - k = (C - (k + 1)) + 1 by omega, squaresGo_more hsq] at hgo
    have HGO := lh hgo
    obtain ⟨C13, hC13⟩ : ∃ A, A = (sqL s.kind s.mode s.modes s.vx s.vy lv vs).toArray := ⟨_, rfl⟩
    rw [← hC13]
    have HInf := lh (show (Tryz.prog.info? 70).map (·.size) = some C13.size by rw [hC13]; exact ksq_info hml hsin.len)
    have HSiz := lh (show (#[.int .i64 0, .int .i64 0, .int .i64 0, .int .i64 0, .int .i64 0, .int .i64 0, .int .i64 0, .int .i64 0, .slice none 0 0, .slice none 0 0, .slice none 0 0, .slice none 0 0, .slice none 0 0] : Array Value).size = C13.size by rw [hC13]; exact (show (sqL s.kind s.mode s.modes s.vx s.vy lv vs).toArray.size = 13 by rw [List.size_toArray, sqL_size hml hsin.len]).symm)
    have HOne := lh (show C13.all (·.oneCell') = true by rw [hC13]; exact sqL_one hsin.one.1 hsin.one.2)
    have HC13 := lh hC13
    have Hs1 := lh hs1
    have Hs2 := lh hs2
    have Hml := lh hml
    have Hsin := lh hsin
    have Hadv := lh hadv
    clear hgo hsq hC13 hs1 hs2 hml hsin hadv hsok
    obtain ⟨f1, f2, f3, f4, f5, f6⟩ := fresh2 w11 #[.int .i64 0, .int .i64 0, .int .i64 0, .int .i64 0, .int .i64 0, .int .i64 0, .int .i64 0, .int .i64 0, .slice none 0 0, .slice none 0 0, .slice none 0 0, .slice none 0 0, .slice none 0 0] C13 70 #[.int .i64 0, .slice none 0 0] #[.int .i64 0, .slice none 0 0] 45
    have F1 := lh f1
    have F2 := lh f2
    have F3 := lh f3
    have HY12 := lh f4
    have HX12 := lh f5
    have HZ12 := lh f6
    clear f1 f2 f3 f4 f5 f6
    go_upto_region 19 with (first
     | (refine wpList_store_row rfl (.tmp 17) (.tmp 86) 70 rfl rfl rfl F1.out (HInf.out) (HSiz.out) (HOne.out) ?_)
     | (refine wpList_store_row rfl (.tmp 18) (.tmp 87) 45 rfl rfl rfl F2.out (er_info _ _) rfl (by first | kernel_rfl | simp [Value.oneCell']) ?_)
     | fail)
    generalize hW12 : World.setRow (World.setRow _ _ _) _ _ = W12 at *
    clear hW12 F1 F2
    have HB112 := lh (F3.out.row HB111.out)
    have HA12 := lh (F3.out.row HA11.out)
    have HT12 := lh (F3.out.row HT11.out)
    have HS12 := F3
    clear F3
    obtain ⟨e0, e1, -⟩ := row2 HX12.out
    go_wp2_with fail
    go_at_call 43
    refine (kok_any _ _ _).mono ?_
    rintro e w13 ⟨rfl, hq13⟩
    have HB113 := lh (hq13.row HB112.out)
    have HA13 := lh (hq13.row HA12.out)
    have HT13 := lh (hq13.row HT12.out)
    have HX13 := lh (hq13.row HX12.out)
    have HY13 := lh (hq13.row HY12.out)
    have HS13 := lh hq13
    clear hq13 e0 e1
    skip
    obtain ⟨K8, hK8⟩ : ∃ K8, K8 = (k : Int) * 8 := ⟨_, rfl⟩
    obtain ⟨X, hX⟩ : ∃ X, X = K8 % W := ⟨_, rfl⟩
    obtain ⟨Y, hY⟩ : ∃ Y, Y = K8 / W * 8 := ⟨_, rfl⟩
    have hu := HU.out
    have e1 : W.tdiv 8 = (U : Int) := by rw [Int.tdiv_eq_ediv_of_nonneg (by omega)]; omega
    have e1' : W / 8 = (U : Int) := by omega
    obtain ⟨XU, hXU⟩ : ∃ z, z = (k : Int) % (U : Int) := ⟨_, rfl⟩
    obtain ⟨YU, hYU⟩ : ∃ z, z = (k : Int) / (U : Int) := ⟨_, rfl⟩
    have e2 : (k : Int).tmod (U : Int) = XU := by rw [hXU, Int.tmod_eq_emod_of_nonneg (by omega)]
    have e3 : (k : Int).tdiv (U : Int) = YU := by rw [hYU, Int.tdiv_eq_ediv_of_nonneg (by omega)]
    have hXX : XU * 8 = X ∧ YU * 8 = Y ∧ 0 ≤ XU ∧ XU ≤ 3 ∧ 0 ≤ YU ∧ YU ≤ 16 := by
     exact qDRFA3
    have e4 : IntKind.i64.wrap (XU * 8) = X := by rw [IntKind.wrap_i64]; omega
    have e4' : wrap64 (XU * 8) = X := by unfold wrap64; omega
    have e5 : IntKind.i64.wrap (YU * 8) = Y := by rw [IntKind.wrap_i64]; omega
    have e5' : wrap64 (YU * 8) = Y := by unfold wrap64; omega
    have e6 : IntKind.i64.wrap YU = YU := by rw [IntKind.wrap_i64]; omega
    have e6' : wrap64 YU = YU := by unfold wrap64; omega
    have e7 : IntKind.i64.wrap (U : Int) = (U : Int) := by rw [IntKind.wrap_i64]; omega
    have hUn : ¬ (U : Int) = 0 := by omega
    have hUn2 : ¬ U = 0 := by omega
    have hUb : ((U : Int) == 0) = false := by rw [beq_eq_false_iff_ne]; exact hUn
    obtain ⟨hfk, hfw, hfh, hfl⟩ := HFK.out
    have hbd := HBd.out
    obtain ⟨p1, p2, p3, p4⟩ := square_in (W := W) (H := H) (i := k) hbd.1.1 hbd.1.2.1 hbd.1.2.2 hbd.2.1.1 hbd.2.1.2.1 hbd.2.1.2.2 (by have := Hcl.out; have := Hlt.out; omega)
    rw [← hK8, ← hX] at p1 p2
    rw [← hK8, ← hY] at p3 p4
    have hkw : Only [] w wr := HQx.out.trans HQk.out (U := []) (by simp) (fun g hg hl => by simp only [List.mem_cons, List.not_mem_nil, or_false] at hg; have := HZw.out; have := HRD.out; omega)
    have hk13 : Only [] w w13 := ((hkw.trans HQ11.out (U := []) (by simp) (fun g hg hl => by simp only [List.mem_cons, List.not_mem_nil, or_false] at hg; have := HZw.out; have := HRD.out; omega)).q HS12.out).q HS13.out
    have hB := kbuild_any (f := FK) (prev := prev) (s := s) (x := X) (y := Y) (q := q) (mo := (s.mode : Int)) (w := w13.drew) (lv := lv) (vs := vs) hfk (pv := .slice (some ⟨gk, 0, none⟩) F0.pix.length gc) ((((HO11.out.quiet HS12.out).quiet HS13.out).quiet (Only.refl _ _).drew).ints) (Nat.le_refl _) ((HPw.out.quiet hk13).quiet (Only.refl _ _).drew) (((Hsin.out.only HS12.out (by simp)).only HS13.out (by simp)).only (Only.refl [] _).drew (by simp)) (fun _ => HPF.out.1) Hs1.out.may (fun _ => rfl) Hml.out Hqn.out p1 (by rw [hfw]; exact p2) p3 (by rw [hfh]; exact p4)
    rw [hfw, hfh, ← HC13.out] at hB
    have HB_ := lh hB
    have hlo := laySq_ok hfk (s := s) (prev := prev) (fun hk => (HPF.out.1.sam)) p1 (by rw [hfw]; exact p2) p3 (by rw [hfh]; exact p4) Hs1.out (q : Int)
    have hlw := laySq_W FK prev X Y q s
    have HFKn : Hid (FrOk (laySq FK prev X Y q s) ∧ (laySq FK prev X Y q s).W = W ∧ (laySq FK prev X Y q s).H = H ∧ (laySq FK prev X Y q s).pix.length = F0.pix.length) := lh ⟨hlo, hlw.1.trans hfw, hlw.2.trans hfh, by
     have t1 := hlo.len
     have t2 := hfk.len
     rw [hlw.1, hlw.2] at t1
     omega⟩
    have HGO2 : Hid (squaresGo false prev q (C - (k + 1)) (k + 1) (laySq FK prev X Y q s) (squareD false MK).2 = squaresGo false prev q C 0 F0 (modNew (l.drop 1))) := lh (by
     rw [← HGO.out, hfw, ← hK8, ← hX, ← hY])
    exact qDRFA1
  ·exact qDRFA2
end
section
variable {lo hi lo' hi' : Nat} {dv pv : Value} {w : World} {prev : FrameD} {l : List Int} {K W H : Int}
theorem kdframe_any {c : Coded} (hd : Ints .u8 lo hi w dv c.data) (hp : Ints .i64 lo' hi' w pv prev.pix) (hl : c.data.length ≤ 140737488355328) :
  Calls Tryz.prog 20 #[.agg #[.int .i64 c.kind, dv], .agg #[.int .i64 prev.W, .int .i64 prev.H, pv], .int .i64 W, .int .i64 H] w (KFrameP w (frameD c prev W H)) := by
 by_cases hn : newB W H 128 = false
 ·unfold frameD
  rw [if_pos hn]
  exact kframe_sides hd hp hn
 have hn' : newB W H 128 = true := by simpa using hn
 obtain ⟨K, l⟩ := c
 by_cases hx : (readB ⟨K, l⟩ = none → K = 2 ∨ K = 3 ∨ K = 4) ∧ (readB ⟨K, l⟩ = none → K = 2 → matesB prev W H = false)
 ·exact kframe_good hd hp hn' hl hx
 ·cases hr : readB ⟨K, l⟩ with
  | some k =>
   exact absurd ⟨fun h => by rw [hr] at h; (cases h), fun h => by rw [hr] at h; (cases h)⟩ hx
  | none =>
   have hk := readB_kind hr
   simp only at hk hd hl ⊢
   unfold frameD
   rw [if_neg hn, hr]
   rcases (by omega : K = 1 ∨ K = 2 ∨ K = 3 ∨ K = 4) with rfl | rfl | rfl | rfl
   ·simp only
    rw [if_neg (by omega), if_neg (by omega), if_neg (by omega)]
    exact kframe_squares1 hd hp hn' hl hr
   ·cases hm : matesB prev W H with
    | false => exact absurd ⟨fun _ => by omega, fun _ _ => hm⟩ hx
    | true =>
     simp only
     rw [if_neg (fun h => by cases h.2), if_neg (by omega), if_neg (by omega)]
     exact kframe_squares2 hd hp hn' hl hr hm
   ·exact absurd ⟨fun _ => by omega, fun _ h => by omega⟩ hx
   ·exact absurd ⟨fun _ => by omega, fun _ h => by omega⟩ hx
end
end Go.Proofs.YthgpgbdkcdmbpaaGreatDoor
