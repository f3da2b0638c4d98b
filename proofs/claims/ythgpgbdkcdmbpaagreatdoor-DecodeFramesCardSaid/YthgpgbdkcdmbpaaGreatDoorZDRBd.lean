/- What the document builds of a square: kinref21.build. Conditions: frames that may be, a square that may be laid, in the frame. -/
import Derived.Test.YthgpgbdkcdmbpaaGreatDoorT1
import Derived.Test.YthgpgbdkcdmbpaaGreatDoorR3
import Derived.Test.YthgpgbdkcdmbpaaGreatDoorS4
namespace Go.Proofs.YthgpgbdkcdmbpaaGreatDoor
open Go.RowKit
set_option linter.unusedVariables false
set_option linter.unusedSimpArgs false
set_option maxRecDepth 100000
set_option maxHeartbeats 16000000
section
theorem qDRBd3 {p : Prop} (h : p := by
 exact (HOp.out.only Hon.out (fun x hx hh => by rw [mSg] at hx; subst hx; simp only [Value.ownBlock] at hh; injection hh with hh; have := Hg.out; have := Hz1.out; omega)).lower HQ1.out.size) : p := h
theorem qDRBd1 {p : Prop} (h : p := by
 clear hK K
 try simp only [Act.put, List.setIfInBounds_toArray, List.set_cons_zero, List.set_cons_succ]
 refine wpAnyH_done (by kernel_rfl) ?_ _
 go_wp2_with fail
 refine bodyPost_ret (v := .agg #[.int .i64 f.W, .int .i64 f.H, .slice (some ⟨g, 0, none⟩) f.pix.length gcap]) (results_cell_row Tryz.results52 _ _ (w.heap.size + 1 + 1 + 1) _ _ _ _ rfl Hrow.out Tryz.underlying27 rfl (by kernel_rfl)) rfl (HPost.out _ _ ⟨_, rfl, ?_, ?_⟩)
 ·exact qDRBd3
 ·exact (HQ1.out.q HQp.out).trans Hon.out (U := []) (by simp) (fun x hx hlt => by rw [mSg] at hx; omega)) : p := h
theorem kbuild0_any {lo hi lo2 hi2 lo3 hi3 : Nat} {pv qv lv : Value} {vs : List Value} {w : World} {f prev : FrameD} {x y mo vx vy : Int} {ms L : List Int} {SL : List (List Int)} {q : Nat} {mo0 : Nat} (hok : FrOk f) (h : Ints .i64 lo hi w pv f.pix) (hp : Ints .i64 lo2 hi2 w qv prev.pix) (hs : SqIn lo3 hi3 w lv vs L SL) (hm : ms.length = 4) (hq : q ≤ 15) (hx : 0 ≤ x) (hxn : x + 8 ≤ f.W) (hy : 0 ≤ y) (hyn : y + 8 ≤ f.H) (hpo : FrOk prev) : Calls Tryz.prog 52 #[.agg #[.int .i64 f.W, .int .i64 f.H, pv], .agg #[.int .i64 prev.W, .int .i64 prev.H, qv], .int .i64 x, .int .i64 y, .int .i64 q, .agg (sqL 0 mo ms vx vy lv vs).toArray] w fun e w' => (∃ v', e = .returned (.agg #[.int .i64 f.W, .int .i64 f.H, v']) ∧ Own .i64 3 w.heap.size w' v' (laySq f prev x y q ⟨0, mo0, ms, vx, vy, L, SL⟩).pix ∧ Only [] w w') := by
 refine hidQ fun Q HPost => ?_
 obtain ⟨a, cap, rfl, -⟩ := h.open
 obtain ⟨pa, pcap, rfl, -⟩ := hp.open
 obtain ⟨m0, m1, m2, m3, rfl⟩ := len4 hm
 have hone := hs.one
 obtain ⟨s0, s1, s2, s3, rfl⟩ := len4 hs.len
 obtain ⟨hq1, HB0, HB1, HB2, HB3, Hz1⟩ := boxes4 w (.cells #[.int .i64 f.W, .int .i64 f.H, .slice a f.pix.length cap] 27) (.cells #[.int .i64 prev.W, .int .i64 prev.H, .slice pa prev.pix.length pcap] 27) (.cells (sqL 0 mo [m0, m1, m2, m3] vx vy lv [s0, s1, s2, s3]).toArray 70) (.cells #[.int .i64 0, .int .i64 0, .slice none 0 0] 27)
 have HBk := lh (fun (W : World) (o : Only [] w W) => kblock_any hpo (hp.quiet o) x y 0 0 ⟨hx, by have := hok.w1; omega⟩ ⟨hy, by have := hok.h1; omega⟩ (by omega) (by omega))
 have hbl := blockD_len prev x y 8 0 0
 have hbs := blockD_in hpo.sam x y 8 0 0
 have HPu : Hid (∀ (W : World), Only [] w W → ∀ (lo1 : Nat) (v : Value) , Own .i64 3 lo1 W v (blockD prev x y 8 0 0) → _) := lh (fun W o _ v hb => kput21_8 hok (h.quiet o) hb.ints hbl hbs hx hxn hy hyn)
 have HLn : Hid ((layD f x y 8 (blockD prev x y 8 0 0)).pix.length = f.pix.length ∧ 0 < f.pix.length) := lh ⟨layD_len (n := 8) hok hx hxn hy hyn hbl hbs, hok.pos.1⟩
 have HQ1 := lh hq1
 clear hq1 h hp
 simp only [sqL, List.map_cons, List.map_nil, List.cons_append, List.nil_append] at HB0 HB1 HB2 HB3 Hz1 HQ1 ⊢
 go_enter Tryz.func52, Tryz.ntmps52
 go_wp2_with fail
 generalize hW1 : World.alloc (World.alloc (World.alloc (World.alloc w _) _) _) _ = W1 at *
 clear hW1
 obtain ⟨r0, r1, r2⟩ := frame_cells HB0.out
 obtain ⟨p0, p1, p2⟩ := frame_cells HB1.out
 have c0 := cell_of_row _ _ 0 _ _ _ HB2.out
 simp at c0
 go_wp2_with fail
 refine wp_region_held_drew (S := (fun w' => w'.cell? ⟨w.heap.size, 0, none⟩ = some (.int .i64 f.W) ∧ w'.cell? ⟨w.heap.size, 1, none⟩ = some (.int .i64 f.H) ∧ w'.cell? ⟨w.heap.size, 2, none⟩ = some (.slice a f.pix.length cap) ∧ w'.cell? ⟨w.heap.size + 1, 0, none⟩ = some (.int .i64 prev.W) ∧ w'.cell? ⟨w.heap.size + 1, 1, none⟩ = some (.int .i64 prev.H) ∧ w'.cell? ⟨w.heap.size + 1, 2, none⟩ = some (.slice pa prev.pix.length pcap))) (by kernel_rfl) ?_ (fun hHeld => ?_)
 ·exact ⟨r0, r1, r2, p0, p1, p2⟩
 refine tk 0 20 ?_
 refine tk 1 21 ?_
 refine tk 2 22 ?_
 refine tk 3 23 ?_
 refine tk 4 24 ?_
 refine tk 5 25 ?_
 refine tk 6 26 ?_
 refine rdy (rdc 7 27 (fun K hK => ?_) .nil)
 go_simp
 go_at_call 90
 refine (HBk.out _ HQ1.out.drew).mono ?_
 rintro e w5 ⟨v5, rfl, hown5, hq5⟩
 have o5 := (Only.refl [] W1).drew.q hq5
 obtain ⟨g5, c5, rfl, -, -⟩ := hown5.form (by rw [blockD_len]; omega)
 rw [blockD_len] at hown5 ⊢
 refine hK.out _ _ ?_ (fun hHeld => ?_)
 ·exact ⟨(o5).cell r0 (by simp), (o5).cell r1 (by simp), (o5).cell r2 (by simp), (o5).cell p0 (by simp), (o5).cell p1 (by simp), (o5).cell p2 (by simp)⟩
 clear hK K
 try simp only [Act.put, List.setIfInBounds_toArray, List.set_cons_zero, List.set_cons_succ]
 refine rdy (rdc 8 28 (fun K hK => ?_) .nil)
 go_simp
 go_at_call 89
 refine (HPu.out _ (HQ1.out.q o5) _ _ hown5).mono ?_
 rintro e w6 ⟨vp, rfl, hownp, hqp⟩
 obtain ⟨g, gcap, rfl, hg1, hg2⟩ := hownp.form (by have := HLn.out; omega)
 rw [HLn.out.1] at hownp ⊢
 have op := (o5).q hqp
 have hr3 := op.row HB3.out
 obtain ⟨z0, z1, z2⟩ := frame_cells hr3
 have fz0 := frozen_of_row _ _ 0 _ _ hr3
 have fz1 := frozen_of_row _ _ 1 _ _ hr3
 have fz2 := frozen_of_row _ _ 2 _ _ hr3
 obtain ⟨hrow, hon⟩ := row3_set (x := .int .i64 f.W) (y := .int .i64 f.H) (z := .slice (some ⟨g, 0, none⟩) f.pix.length gcap) hr3
 have Hg : Hid (W1.heap.size ≤ g) := lh (Nat.le_trans (o5).size hg1)
 have HOp := lh (hownp.lower (o5).size)
 have HQp := lh op
 have Hrow := lh hrow
 have Hon := lh hon
 clear hownp hqp hg1 hg2 hrow hr3
 refine hK.out _ _ ?_ (fun hHeld => ?_)
 ·exact ⟨(op).cell r0 (by simp), (op).cell r1 (by simp), (op).cell r2 (by simp), (op).cell p0 (by simp), (op).cell p1 (by simp), (op).cell p2 (by simp)⟩
 clear hK K
 try simp only [Act.put, List.setIfInBounds_toArray, List.set_cons_zero, List.set_cons_succ]
 refine rdy (rdn 9 (fun K hK => ?_) .nil)
 go_simp
 refine hK.out _ _ ?_ (fun hHeld => ?_)
 ·exact ⟨hon.cell (op.cell r0 (by simp)) (by simp; try omega), hon.cell (op.cell r1 (by simp)) (by simp; try omega), hon.cell (op.cell r2 (by simp)) (by simp; try omega), hon.cell (op.cell p0 (by simp)) (by simp; try omega), hon.cell (op.cell p1 (by simp)) (by simp; try omega), hon.cell (op.cell p2 (by simp)) (by simp; try omega)⟩
 exact qDRBd1
theorem kbuild1_any {lo hi lo2 hi2 lo3 hi3 : Nat} {pv qv lv : Value} {vs : List Value} {w : World} {f prev : FrameD} {x y mo vx vy : Int} {ms L : List Int} {SL : List (List Int)} {q : Nat} {mo0 : Nat} (hok : FrOk f) (h : Ints .i64 lo hi w pv f.pix) (hp : Ints .i64 lo2 hi2 w qv prev.pix) (hs : SqIn lo3 hi3 w lv vs L SL) (hm : ms.length = 4) (hq : q ≤ 15) (hx : 0 ≤ x) (hxn : x + 8 ≤ f.W) (hy : 0 ≤ y) (hyn : y + 8 ≤ f.H) (hpo : FrOk prev) (hLl : L.length = 64) (hLv : LevOk L) (hv : -15 ≤ vx ∧ vx ≤ 15 ∧ -15 ≤ vy ∧ vy ≤ 15) : Calls Tryz.prog 52 #[.agg #[.int .i64 f.W, .int .i64 f.H, pv], .agg #[.int .i64 prev.W, .int .i64 prev.H, qv], .int .i64 x, .int .i64 y, .int .i64 q, .agg (sqL 1 mo ms vx vy lv vs).toArray] w fun e w' => (∃ v', e = .returned (.agg #[.int .i64 f.W, .int .i64 f.H, v']) ∧ Own .i64 3 w.heap.size w' v' (laySq f prev x y q ⟨1, mo0, ms, vx, vy, L, SL⟩).pix ∧ Only [] w w') := by
 refine hidQ fun Q HPost => ?_
 obtain ⟨a, cap, rfl, -⟩ := h.open
 obtain ⟨pa, pcap, rfl, -⟩ := hp.open
 obtain ⟨m0, m1, m2, m3, rfl⟩ := len4 hm
 have hone := hs.one
 obtain ⟨s0, s1, s2, s3, rfl⟩ := len4 hs.len
 obtain ⟨hq1, HB0, HB1, HB2, HB3, Hz1⟩ := boxes4 w (.cells #[.int .i64 f.W, .int .i64 f.H, .slice a f.pix.length cap] 27) (.cells #[.int .i64 prev.W, .int .i64 prev.H, .slice pa prev.pix.length pcap] 27) (.cells (sqL 1 mo [m0, m1, m2, m3] vx vy lv [s0, s1, s2, s3]).toArray 70) (.cells #[.int .i64 0, .int .i64 0, .slice none 0 0] 27)
 have HBk := lh (fun (W : World) (o : Only [] w W) => kblock_any hpo (hp.quiet o) x y vx vy ⟨hx, by have := hok.w1; omega⟩ ⟨hy, by have := hok.h1; omega⟩ ⟨hv.1, hv.2.1⟩ ⟨hv.2.2.1, hv.2.2.2⟩)
 have hlv : LevOk L := hLv
 have HLl : Hid ((blockD prev x y 8 vx vy).length = 64 ∧ (restD L q).length = 64) := lh ⟨blockD_len _ _ _ _ _ _, by rw [restD_len, hLl]⟩
 have hRa : AbsLe 401080320 (restD L q) := inverseD_abs2 (by rw [valuesD_len]; omega) (valuesD_abs hLv hq)
 have HRs := lh (fun (W : World) (o : Only [] w W) => krest_any (hs.large.quiet o) (by omega) hLv q hq)
 have HCl : Hid (∀ (W : World) (b5 b6 : Nat) (v5 v6 : Value), Own .i64 3 b5 W v5 (blockD prev x y 8 vx vy) → Own .i64 3 b6 W v6 (restD L q) → _) := lh (fun W b5 b6 v5 v6 h5 h6 => kclips_any h5.ints h6.ints (by rw [HLl.out.1, HLl.out.2]) (by rw [HLl.out.1]; omega) (blockD_in hpo.sam _ _ _ _ _) hRa)
 have hbl : (clipK (blockD prev x y 8 vx vy) (restD L q)).length = 64 := by rw [clipK_len (by rw [HLl.out.1, HLl.out.2]), HLl.out.1]
 have hbs : SamOk (clipK (blockD prev x y 8 vx vy) (restD L q)) := addD_in _ _ _
 have HLc := lh hbl
 have HPu : Hid (∀ (W : World), Only [] w W → ∀ (lo1 : Nat) (v : Value), Own .i64 3 lo1 W v (clipK (blockD prev x y 8 vx vy) (restD L q)) → _) := lh (fun W o _ v hb => kput21_8 hok (h.quiet o) hb.ints hbl hbs hx hxn hy hyn)
 have HLn : Hid ((layD f x y 8 (clipK (blockD prev x y 8 vx vy) (restD L q))).pix.length = f.pix.length ∧ 0 < f.pix.length) := lh ⟨layD_len (n := 8) hok hx hxn hy hyn hbl hbs, hok.pos.1⟩
 obtain ⟨la, lcap, rfl, -⟩ := hs.large.open
 rw [hLl] at HRs HB0 HB1 HB2 HB3 Hz1 hq1 ⊢
 have HQ1 := lh hq1
 clear hq1 h hp
 simp only [sqL, List.map_cons, List.map_nil, List.cons_append, List.nil_append] at HB0 HB1 HB2 HB3 Hz1 HQ1 ⊢
 go_enter Tryz.func52, Tryz.ntmps52
 go_wp2_with fail
 generalize hW1 : World.alloc (World.alloc (World.alloc (World.alloc w _) _) _) _ = W1 at *
 clear hW1
 obtain ⟨r0, r1, r2⟩ := frame_cells HB0.out
 obtain ⟨p0, p1, p2⟩ := frame_cells HB1.out
 have c0 := cell_of_row _ _ 0 _ _ _ HB2.out
 have c6 := cell_of_row _ _ 6 _ _ _ HB2.out
 have c7 := cell_of_row _ _ 7 _ _ _ HB2.out
 have c8 := cell_of_row _ _ 8 _ _ _ HB2.out
 simp at c0 c6 c7 c8
 go_wp2_with fail
 refine wp_region_held_drew (S := (fun w' => w'.cell? ⟨w.heap.size, 0, none⟩ = some (.int .i64 f.W) ∧ w'.cell? ⟨w.heap.size, 1, none⟩ = some (.int .i64 f.H) ∧ w'.cell? ⟨w.heap.size, 2, none⟩ = some (.slice a f.pix.length cap) ∧ w'.cell? ⟨w.heap.size + 1, 0, none⟩ = some (.int .i64 prev.W) ∧ w'.cell? ⟨w.heap.size + 1, 1, none⟩ = some (.int .i64 prev.H) ∧ w'.cell? ⟨w.heap.size + 1, 2, none⟩ = some (.slice pa prev.pix.length pcap) ∧ w'.cell? ⟨w.heap.size + 1 + 1, 6, none⟩ = some (.int .i64 vx) ∧ w'.cell? ⟨w.heap.size + 1 + 1, 7, none⟩ = some (.int .i64 vy) ∧ w'.cell? ⟨w.heap.size + 1 + 1, 8, none⟩ = some (.slice la 64 lcap))) (by kernel_rfl) ?_ (fun hHeld => ?_)
 ·exact ⟨r0, r1, r2, p0, p1, p2, c6, c7, c8⟩
 refine tk 0 31 ?_
 refine tk 1 32 ?_
 refine tk 2 33 ?_
 refine tk 3 34 ?_
 refine tk 4 35 ?_
 refine tk 5 36 ?_
 refine tk 6 37 ?_
 refine tk 7 38 ?_
 refine tk 9 40 ?_
 refine tk 10 41 ?_
 refine tk 11 42 ?_
 refine rdy (rdc 8 39 (fun K hK => ?_) .nil)
 go_simp
 go_at_call 90
 refine (HBk.out _ HQ1.out.drew).mono ?_
 rintro e w5 ⟨v5, rfl, hown5, hq5⟩
 have o5 := (Only.refl [] W1).drew.q hq5
 obtain ⟨g5, c5v, rfl, -, -⟩ := hown5.form (by have := HLl.out.1; omega)
 rw [HLl.out.1] at hown5 ⊢
 refine hK.out _ _ ?_ (fun hHeld => ?_)
 ·exact ⟨(o5).cell r0 (by simp), (o5).cell r1 (by simp), (o5).cell r2 (by simp), (o5).cell p0 (by simp), (o5).cell p1 (by simp), (o5).cell p2 (by simp), (o5).cell c6 (by simp), (o5).cell c7 (by simp), (o5).cell c8 (by simp)⟩
 clear hK K
 try simp only [Act.put, List.setIfInBounds_toArray, List.set_cons_zero, List.set_cons_succ]
 refine rdy (rdc 12 43 (fun K hK => ?_) .nil)
 go_simp
 go_at_call 92
 refine (HRs.out _ (HQ1.out.q o5)).mono ?_
 rintro e w6 ⟨⟨v6, rfl, hown6⟩, hab, hq6⟩
 have o6 := o5.q hq6
 have h56 := hown5.quiet hq6
 obtain ⟨g6, c6v, rfl, -, -⟩ := hown6.form (by have := HLl.out.2; omega)
 rw [HLl.out.2] at hown6 ⊢
 refine hK.out _ _ ?_ (fun hHeld => ?_)
 ·exact ⟨(o6).cell r0 (by simp), (o6).cell r1 (by simp), (o6).cell r2 (by simp), (o6).cell p0 (by simp), (o6).cell p1 (by simp), (o6).cell p2 (by simp), (o6).cell c6 (by simp), (o6).cell c7 (by simp), (o6).cell c8 (by simp)⟩
 clear hK K
 try simp only [Act.put, List.setIfInBounds_toArray, List.set_cons_zero, List.set_cons_succ]
 refine rdy (rdc 13 44 (fun K hK => ?_) .nil)
 go_simp
 go_at_call 91
 refine (HCl.out _ _ _ _ _ h56 hown6).mono ?_
 rintro e w7 ⟨⟨v7, rfl, hown7⟩, hq7⟩
 have o7 := o6.q hq7
 obtain ⟨g7, c7v, rfl, -, -⟩ := hown7.form (by have := HLc.out; omega)
 rw [HLc.out] at hown7 ⊢
 refine hK.out _ _ ?_ (fun hHeld => ?_)
 ·exact ⟨(o7).cell r0 (by simp), (o7).cell r1 (by simp), (o7).cell r2 (by simp), (o7).cell p0 (by simp), (o7).cell p1 (by simp), (o7).cell p2 (by simp), (o7).cell c6 (by simp), (o7).cell c7 (by simp), (o7).cell c8 (by simp)⟩
 clear hK K
 try simp only [Act.put, List.setIfInBounds_toArray, List.set_cons_zero, List.set_cons_succ]
 refine rdy (rdc 14 45 (fun K hK => ?_) .nil)
 go_simp
 go_at_call 89
 refine (HPu.out _ (HQ1.out.q o7) _ _ hown7).mono ?_
 rintro e w8 ⟨vp, rfl, hownp, hqp⟩
 obtain ⟨g, gcap, rfl, hg1, hg2⟩ := hownp.form (by have := HLn.out; omega)
 rw [HLn.out.1] at hownp ⊢
 have op := (o7).q hqp
 have hr3 := op.row HB3.out
 obtain ⟨z0, z1, z2⟩ := frame_cells hr3
 have fz0 := frozen_of_row _ _ 0 _ _ hr3
 have fz1 := frozen_of_row _ _ 1 _ _ hr3
 have fz2 := frozen_of_row _ _ 2 _ _ hr3
 obtain ⟨hrow, hon⟩ := row3_set (x := .int .i64 f.W) (y := .int .i64 f.H) (z := .slice (some ⟨g, 0, none⟩) f.pix.length gcap) hr3
 have Hg : Hid (W1.heap.size ≤ g) := lh (Nat.le_trans (o7).size hg1)
 have HOp := lh (hownp.lower (o7).size)
 have HQp := lh op
 have Hrow := lh hrow
 have Hon := lh hon
 clear hownp hqp hg1 hg2 hrow hr3
 refine hK.out _ _ ?_ (fun hHeld => ?_)
 ·exact ⟨(op).cell r0 (by simp), (op).cell r1 (by simp), (op).cell r2 (by simp), (op).cell p0 (by simp), (op).cell p1 (by simp), (op).cell p2 (by simp), (op).cell c6 (by simp), (op).cell c7 (by simp), (op).cell c8 (by simp)⟩
 clear hK K
 try simp only [Act.put, List.setIfInBounds_toArray, List.set_cons_zero, List.set_cons_succ]
 refine rdy (rdn 15 (fun K hK => ?_) .nil)
 go_simp
 refine hK.out _ _ ?_ (fun hHeld => ?_)
 ·exact ⟨hon.cell (op.cell r0 (by simp)) (by simp; try omega), hon.cell (op.cell r1 (by simp)) (by simp; try omega), hon.cell (op.cell r2 (by simp)) (by simp; try omega), hon.cell (op.cell p0 (by simp)) (by simp; try omega), hon.cell (op.cell p1 (by simp)) (by simp; try omega), hon.cell (op.cell p2 (by simp)) (by simp; try omega), hon.cell (op.cell c6 (by simp)) (by simp; try omega), hon.cell (op.cell c7 (by simp)) (by simp; try omega), hon.cell (op.cell c8 (by simp)) (by simp; try omega)⟩
 exact qDRBd1
theorem kbuild2_any {lo hi lo2 hi2 lo3 hi3 : Nat} {pv qv lv : Value} {vs : List Value} {w : World} {f prev : FrameD} {x y mo vx vy : Int} {ms L : List Int} {SL : List (List Int)} {q : Nat} (hok : FrOk f) (h : Ints .i64 lo hi w pv f.pix) (hp : Ints .i64 lo2 hi2 w qv prev.pix) (hs : SqIn lo3 hi3 w lv vs L SL) (hm : ms.length = 4) (hq : q ≤ 15) (hx : 0 ≤ x) (hxn : x + 8 ≤ f.W) (hy : 0 ≤ y) (hyn : y + 8 ≤ f.H) (hmo : mo = ((mo.toNat : Nat) : Int)) (hm3 : mo ≤ 3) (hLl : L.length = 64) (hLv : LevOk L) : Calls Tryz.prog 52 #[.agg #[.int .i64 f.W, .int .i64 f.H, pv], .agg #[.int .i64 prev.W, .int .i64 prev.H, qv], .int .i64 x, .int .i64 y, .int .i64 q, .agg (sqL 2 mo ms vx vy lv vs).toArray] w fun e w' => (∃ v', e = .returned (.agg #[.int .i64 f.W, .int .i64 f.H, v']) ∧ Own .i64 3 w.heap.size w' v' (laySq f prev x y q ⟨2, mo.toNat, ms, vx, vy, L, SL⟩).pix ∧ Only [] w w') := by
 refine hidQ fun Q HPost => ?_
 obtain ⟨a, cap, rfl, -⟩ := h.open
 obtain ⟨pa, pcap, rfl, -⟩ := hp.open
 obtain ⟨m0, m1, m2, m3, rfl⟩ := len4 hm
 have hone := hs.one
 obtain ⟨s0, s1, s2, s3, rfl⟩ := len4 hs.len
 obtain ⟨hq1, HB0, HB1, HB2, HB3, Hz1⟩ := boxes4 w (.cells #[.int .i64 f.W, .int .i64 f.H, .slice a f.pix.length cap] 27) (.cells #[.int .i64 prev.W, .int .i64 prev.H, .slice pa prev.pix.length pcap] 27) (.cells (sqL 2 mo [m0, m1, m2, m3] vx vy lv [s0, s1, s2, s3]).toArray 70) (.cells #[.int .i64 0, .int .i64 0, .slice none 0 0] 27)
 have HFo := lh (fun (W : World) (o : Only [] w W) => kforetold_any (n := 8) (mode := mo) hok (h.quiet o) (.inr rfl) ⟨by omega, by omega⟩ hx hxn hy hyn)
 have Hmo := lh hmo
 clear hmo hm3
 have hlv : LevOk L := hLv
 have HLl : Hid ((predD mo (topD f x y 8) (leftD f x y 8) (sampleD f (x - 1) (y - 1))).length = 64 ∧ (restD L q).length = 64) := lh ⟨by rw [predD_len, topD_len], by rw [restD_len, hLl]⟩
 have hRa : AbsLe 401080320 (restD L q) := inverseD_abs2 (by rw [valuesD_len]; omega) (valuesD_abs hLv hq)
 have HRs := lh (fun (W : World) (o : Only [] w W) => krest_any (hs.large.quiet o) (by omega) hLv q hq)
 have HCl : Hid (∀ (W : World) (b5 b6 : Nat) (v5 v6 : Value), Own .i64 3 b5 W v5 (predD mo (topD f x y 8) (leftD f x y 8) (sampleD f (x - 1) (y - 1))) → Own .i64 3 b6 W v6 (restD L q) → _) := lh (fun W b5 b6 v5 v6 h5 h6 => kclips_any h5.ints h6.ints (by rw [HLl.out.1, HLl.out.2]) (by rw [HLl.out.1]; omega) (predD_in (topD_in hok.sam _ _ _) (leftD_in hok.sam _ _ _) (by rw [topD_len]; omega) _ _) hRa)
 have hbl : (clipK (predD mo (topD f x y 8) (leftD f x y 8) (sampleD f (x - 1) (y - 1))) (restD L q)).length = 64 := by rw [clipK_len (by rw [HLl.out.1, HLl.out.2]), HLl.out.1]
 have hbs : SamOk (clipK (predD mo (topD f x y 8) (leftD f x y 8) (sampleD f (x - 1) (y - 1))) (restD L q)) := addD_in _ _ _
 have HLc := lh hbl
 have HPu : Hid (∀ (W : World), Only [] w W → ∀ (lo1 : Nat) (v : Value), Own .i64 3 lo1 W v (clipK (predD mo (topD f x y 8) (leftD f x y 8) (sampleD f (x - 1) (y - 1))) (restD L q)) → _) := lh (fun W o _ v hb => kput21_8 hok (h.quiet o) hb.ints hbl hbs hx hxn hy hyn)
 have HLn : Hid ((layD f x y 8 (clipK (predD mo (topD f x y 8) (leftD f x y 8) (sampleD f (x - 1) (y - 1))) (restD L q))).pix.length = f.pix.length ∧ 0 < f.pix.length) := lh ⟨layD_len (n := 8) hok hx hxn hy hyn hbl hbs, hok.pos.1⟩
 obtain ⟨la, lcap, rfl, -⟩ := hs.large.open
 rw [hLl] at HRs HB0 HB1 HB2 HB3 Hz1 hq1 ⊢
 have HQ1 := lh hq1
 clear hq1 h hp
 simp only [sqL, List.map_cons, List.map_nil, List.cons_append, List.nil_append] at HB0 HB1 HB2 HB3 Hz1 HQ1 ⊢
 go_enter Tryz.func52, Tryz.ntmps52
 go_wp2_with fail
 generalize hW1 : World.alloc (World.alloc (World.alloc (World.alloc w _) _) _) _ = W1 at *
 clear hW1
 obtain ⟨r0, r1, r2⟩ := frame_cells HB0.out
 obtain ⟨p0, p1, p2⟩ := frame_cells HB1.out
 have c0 := cell_of_row _ _ 0 _ _ _ HB2.out
 have c1 := cell_of_row _ _ 1 _ _ _ HB2.out
 have c8 := cell_of_row _ _ 8 _ _ _ HB2.out
 simp at c0 c1 c8
 go_wp2_with fail
 refine wp_region_held_drew (S := (fun w' => w'.cell? ⟨w.heap.size, 0, none⟩ = some (.int .i64 f.W) ∧ w'.cell? ⟨w.heap.size, 1, none⟩ = some (.int .i64 f.H) ∧ w'.cell? ⟨w.heap.size, 2, none⟩ = some (.slice a f.pix.length cap) ∧ w'.cell? ⟨w.heap.size + 1 + 1, 1, none⟩ = some (.int .i64 mo) ∧ w'.cell? ⟨w.heap.size + 1 + 1, 8, none⟩ = some (.slice la 64 lcap))) (by kernel_rfl) ?_ (fun hHeld => ?_)
 ·exact ⟨r0, r1, r2, c1, c8⟩
 refine tk 0 48 ?_
 refine tk 1 49 ?_
 refine tk 2 50 ?_
 refine tk 3 51 ?_
 refine tk 4 52 ?_
 refine tk 5 53 ?_
 refine tk 6 54 ?_
 refine tk 7 55 ?_
 refine tk 9 57 ?_
 refine tk 10 58 ?_
 refine tk 11 59 ?_
 refine rdy (rdc 8 56 (fun K hK => ?_) .nil)
 go_simp
 go_at_call 93
 refine (HFo.out _ HQ1.out.drew).mono ?_
 rintro e w5 ⟨⟨v5, rfl, hown5⟩, hq5⟩
 have o5 := (Only.refl [] W1).drew.q hq5
 obtain ⟨g5, c5v, rfl, -, -⟩ := hown5.form (by have := HLl.out.1; omega)
 rw [HLl.out.1] at hown5 ⊢
 refine hK.out _ _ ?_ (fun hHeld => ?_)
 ·exact ⟨(o5).cell r0 (by simp), (o5).cell r1 (by simp), (o5).cell r2 (by simp), (o5).cell c1 (by simp), (o5).cell c8 (by simp)⟩
 clear hK K
 try simp only [Act.put, List.setIfInBounds_toArray, List.set_cons_zero, List.set_cons_succ]
 refine rdy (rdc 12 60 (fun K hK => ?_) .nil)
 go_simp
 go_at_call 92
 refine (HRs.out _ (HQ1.out.q o5)).mono ?_
 rintro e w6 ⟨⟨v6, rfl, hown6⟩, hab, hq6⟩
 have o6 := o5.q hq6
 have h56 := hown5.quiet hq6
 obtain ⟨g6, c6v, rfl, -, -⟩ := hown6.form (by have := HLl.out.2; omega)
 rw [HLl.out.2] at hown6 ⊢
 refine hK.out _ _ ?_ (fun hHeld => ?_)
 ·exact ⟨(o6).cell r0 (by simp), (o6).cell r1 (by simp), (o6).cell r2 (by simp), (o6).cell c1 (by simp), (o6).cell c8 (by simp)⟩
 clear hK K
 try simp only [Act.put, List.setIfInBounds_toArray, List.set_cons_zero, List.set_cons_succ]
 refine rdy (rdc 13 61 (fun K hK => ?_) .nil)
 go_simp
 go_at_call 91
 refine (HCl.out _ _ _ _ _ h56 hown6).mono ?_
 rintro e w7 ⟨⟨v7, rfl, hown7⟩, hq7⟩
 have o7 := o6.q hq7
 obtain ⟨g7, c7v, rfl, -, -⟩ := hown7.form (by have := HLc.out; omega)
 rw [HLc.out] at hown7 ⊢
 refine hK.out _ _ ?_ (fun hHeld => ?_)
 ·exact ⟨(o7).cell r0 (by simp), (o7).cell r1 (by simp), (o7).cell r2 (by simp), (o7).cell c1 (by simp), (o7).cell c8 (by simp)⟩
 clear hK K
 try simp only [Act.put, List.setIfInBounds_toArray, List.set_cons_zero, List.set_cons_succ]
 refine rdy (rdc 14 62 (fun K hK => ?_) .nil)
 go_simp
 go_at_call 89
 refine (HPu.out _ (HQ1.out.q o7) _ _ hown7).mono ?_
 rintro e w8 ⟨vp, rfl, hownp, hqp⟩
 obtain ⟨g, gcap, rfl, hg1, hg2⟩ := hownp.form (by have := HLn.out; omega)
 rw [HLn.out.1] at hownp ⊢
 have op := (o7).q hqp
 have hr3 := op.row HB3.out
 obtain ⟨z0, z1, z2⟩ := frame_cells hr3
 have fz0 := frozen_of_row _ _ 0 _ _ hr3
 have fz1 := frozen_of_row _ _ 1 _ _ hr3
 have fz2 := frozen_of_row _ _ 2 _ _ hr3
 obtain ⟨hrow, hon⟩ := row3_set (x := .int .i64 f.W) (y := .int .i64 f.H) (z := .slice (some ⟨g, 0, none⟩) f.pix.length gcap) hr3
 have Hg : Hid (W1.heap.size ≤ g) := lh (Nat.le_trans (o7).size hg1)
 have HOp := lh (hownp.lower (o7).size)
 have HQp := lh op
 have Hrow := lh hrow
 have Hon := lh hon
 clear hownp hqp hg1 hg2 hrow hr3
 refine hK.out _ _ ?_ (fun hHeld => ?_)
 ·exact ⟨(op).cell r0 (by simp), (op).cell r1 (by simp), (op).cell r2 (by simp), (op).cell c1 (by simp), (op).cell c8 (by simp)⟩
 clear hK K
 try simp only [Act.put, List.setIfInBounds_toArray, List.set_cons_zero, List.set_cons_succ]
 refine rdy (rdn 15 (fun K hK => ?_) .nil)
 go_simp
 refine hK.out _ _ ?_ (fun hHeld => ?_)
 ·exact ⟨hon.cell (op.cell r0 (by simp)) (by simp; try omega), hon.cell (op.cell r1 (by simp)) (by simp; try omega), hon.cell (op.cell r2 (by simp)) (by simp; try omega), hon.cell (op.cell c1 (by simp)) (by simp; try omega), hon.cell (op.cell c8 (by simp)) (by simp; try omega)⟩
 clear hK K
 try simp only [Act.put, List.setIfInBounds_toArray, List.set_cons_zero, List.set_cons_succ]
 refine wpAnyH_done (by kernel_rfl) ?_ _
 go_wp2_with fail
 refine bodyPost_ret (v := .agg #[.int .i64 f.W, .int .i64 f.H, .slice (some ⟨g, 0, none⟩) f.pix.length gcap]) (results_cell_row Tryz.results52 _ _ (w.heap.size + 1 + 1 + 1) _ _ _ _ rfl Hrow.out Tryz.underlying27 rfl (by kernel_rfl)) rfl (HPost.out _ _ ⟨_, rfl, ?_, ?_⟩)
 ·show Own _ _ _ _ _ (layD f x y 8 (addD (predD ((mo.toNat : Nat) : Int) (topD f x y 8) (leftD f x y 8) (sampleD f (x - 1) (y - 1))) L q)).pix
  rw [← Hmo.out]
  exact qDRBd3
 ·exact (HQ1.out.q HQp.out).trans Hon.out (U := []) (by simp) (fun x hx hlt => by rw [mSg] at hx; omega)
theorem clipK_in (p r : List Int) : SamOk (clipK p r) := by
 intro x hx
 unfold clipK at hx
 obtain ⟨i, hi, rfl⟩ := List.mem_iff_getElem.1 hx
 rw [List.getElem_zipWith]
 exact clipD_in _
theorem ints_narrow {lo hi g cap n : Nat} {w : World} {l : List Int} (h : Ints .i64 lo hi w (.slice (some ⟨g, 0, none⟩) n cap) l) : Ints .i64 g (g + 1) w (.slice (some ⟨g, 0, none⟩) n cap) l := by
 obtain ⟨⟨h1, a, c, e, h3, h4, h5⟩, h6⟩ := h
 refine ⟨⟨h1, a, c, e, h3, h4, fun hp => ?_⟩, h6⟩
 obtain ⟨b, off, ea, x, y, hc⟩ := h5 hp
 rw [ea] at e
 injection e with e1 e2 e3
 injection e1 with e1
 injection e1 with e1 e2
 exact ⟨b, off, ea, by omega, by omega, hc⟩
def fsK (f : FrameD) (x y : Int) (q : Nat) (s : SqD) (j : Nat) : FrameD := (List.range j).foldl (smallD x y q s) f
theorem fsK_next (f : FrameD) (x y : Int) (q : Nat) (s : SqD) (j : Nat) : fsK f x y q s (j + 1) = smallD x y q s (fsK f x y q s j) j := by
 unfold fsK
 rw [List.range_succ, List.foldl_append]
 rfl
theorem fsK_ok {f : FrameD} (h : FrOk f) {x y : Int} {q : Nat} {s : SqD} (hx : 0 ≤ x) (hxn : x + 8 ≤ f.W) (hy : 0 ≤ y) (hyn : y + 8 ≤ f.H) (hl : ∀ i, i < 4 → (s.small.getD i []).length = 16) : ∀ j, j ≤ 4 → FrOk (fsK f x y q s j) ∧ (fsK f x y q s j).W = f.W ∧ (fsK f x y q s j).H = f.H
 | 0, _ => ⟨h, rfl, rfl⟩
 | j + 1, hj => by
  obtain ⟨a, b, c⟩ := fsK_ok h hx hxn hy hyn hl j (by omega)
  rw [fsK_next]
  refine ⟨(show FrOk (oneD _ (x + ((j % 2 : Nat) : Int) * 4) (y + ((j / 2 : Nat) : Int) * 4) 4 (s.modes.getD j 0) q (s.small.getD j [])) from oneD_ok a (by omega) (by omega) (by omega) (by omega) (hl j (by omega)) (by omega) _ _), ?_, ?_⟩
  ·exact b
  ·exact c
theorem fsK_len {f : FrameD} (h : FrOk f) {x y : Int} {q : Nat} {s : SqD} (hx : 0 ≤ x) (hxn : x + 8 ≤ f.W) (hy : 0 ≤ y) (hyn : y + 8 ≤ f.H) (hl : ∀ i, i < 4 → (s.small.getD i []).length = 16) {j : Nat} (hj : j ≤ 4) : (fsK f x y q s j).pix.length = f.pix.length := by
 obtain ⟨a, b, c⟩ := fsK_ok (q := q) h hx hxn hy hyn hl j hj
 have h1 := a.len
 have h2 := h.len
 rw [b, c] at h1
 omega
theorem qDRBd0 {p : Prop} (h : p := by
 refine hK.out _ _ ?_ (fun hHeld => ?_)
 ·exact ⟨c2, c9⟩
 clear hK K
 try simp only [Act.put, List.setIfInBounds_toArray, List.set_cons_zero, List.set_cons_succ]
 refine rdy (rdc 18 95 (fun K hK => ?_) .nil)
 go_simp
 go_at_call 89
 refine (HPu.out _ o7 _ _ hown7).mono ?_
 rintro e w8 ⟨vp, rfl, hownp, hqp⟩
 obtain ⟨g, gcap, rfl, hg1, hg2⟩ := hownp.form (by have := HLn.out; omega)
 rw [HLn.out.1] at hownp ⊢
 have op := o7.q hqp
 obtain ⟨r0, r1, r2⟩ := frame_cells ((op).row Hr.out)
 have c2 := (op).cell Hk2.out (by simp)
 have c9 := (op).cell Hk9.out (by simp)
 have hr3 := op.row Hr.out
 have fz0 := frozen_of_row _ _ 0 _ _ hr3
 have fz1 := frozen_of_row _ _ 1 _ _ hr3
 have fz2 := frozen_of_row _ _ 2 _ _ hr3
 obtain ⟨hrow, hon⟩ := row3_set (x := .int .i64 f.W) (y := .int .i64 f.H) (z := .slice (some ⟨g, 0, none⟩) f.pix.length gcap) hr3
 have hgw : w.heap.size < g := by have := HQk.out.size; have := Hz1.out; have := o7.size; omega
 clear hqp hg1 hg2 hr3
 refine hK.out _ _ ?_ (fun hHeld => ?_)
 ·exact ⟨c2, c9⟩
 clear hK K
 try simp only [Act.put, List.setIfInBounds_toArray, List.set_cons_zero, List.set_cons_succ]
 refine rdy (rdn 19 (fun K hK => ?_) .nil)
 go_simp
 refine hK.out _ _ ?_ (fun hHeld => ?_)
 ·exact ⟨hon.cell c2 (by simp; try omega), hon.cell c9 (by simp; try omega)⟩
 clear hK K
 try simp only [Act.put, List.setIfInBounds_toArray, List.set_cons_zero, List.set_cons_succ]
 refine wpAnyH_done (by kernel_rfl) ?_ _
 go_wp2_with fail
 have hno := hownp.only hon (fun x hx hh => by rw [mSg] at hx; subst hx; simp only [Value.ownBlock] at hh; injection hh with hh; omega)
 refine ⟨⟨j + 1, _, _, g, g + 1, by have := Hj.out; omega, by go_num, lh hrow, lh ?_, lh (.inr hgw), lh ?_, lh ((HQk.out.trans op (U := [w.heap.size]) (fun _ h _ => h) (by simp)).trans hon (U := [w.heap.size]) (fun _ h _ => h) (fun _ h _ => h))⟩, by simp [intOf]; have := Hj.out; omega⟩
 ·rw [HfJ.out]
  exact ints_narrow hno.ints
 ·refine .inr ?_
  rw [HfJ.out]
  exact hno.lower (Nat.le_trans HQk.out.size o7.size)) : p := h
theorem qDRBd5 {p : Prop} (h : p := by
 refine hK.out _ _ ?_ (fun hHeld => ?_)
 ·exact ⟨c2, c9⟩
 clear hK K
 try simp only [Act.put, List.setIfInBounds_toArray, List.set_cons_zero, List.set_cons_succ]
 refine rdy (rdc 17 94 (fun K hK => ?_) .nil)
 go_simp
 go_at_call 91
 refine (HCl.out _ _ _ _ _ h56 hown6).mono ?_
 rintro e w7 ⟨⟨v7, rfl, hown7⟩, hq7⟩
 have o7 := o6.q hq7
 obtain ⟨g7, c7v, rfl, -, -⟩ := hown7.form (by have := HLc.out; omega)
 rw [HLc.out] at hown7 ⊢
 obtain ⟨r0, r1, r2⟩ := frame_cells ((o7).row Hr.out)
 have c2 := (o7).cell Hk2.out (by simp)
 have c9 := (o7).cell Hk9.out (by simp)
 exact qDRBd0) : p := h
theorem qDRBd2 {p : Prop} (h : p := by
 refine hK.out _ _ ?_ (fun hHeld => ?_)
 ·exact ⟨c2, c9⟩
 clear hK K
 try simp only [Act.put, List.setIfInBounds_toArray, List.set_cons_zero, List.set_cons_succ]
 refine rdy (rdc 16 93 (fun K hK => ?_) .nil)
 go_simp
 go_at_call 92
 refine (HRs.out _ o5).mono ?_
 rintro e w6 ⟨⟨v6, rfl, hown6⟩, hab, hq6⟩
 have o6 := o5.q hq6
 have h56 := hown5.quiet hq6
 obtain ⟨g6, c6v, rfl, -, -⟩ := hown6.form (by have := HLl.out.2; omega)
 rw [HLl.out.2] at hown6 ⊢
 obtain ⟨r0, r1, r2⟩ := frame_cells ((o6).row Hr.out)
 have c2 := (o6).cell Hk2.out (by simp)
 have c9 := (o6).cell Hk9.out (by simp)
 exact qDRBd5) : p := h
theorem qDRBd4 {p : Prop} (h : p := by
 go_simp
 refine hK.out _ _ ?_ (fun hHeld => ?_)
 ·exact ⟨c2, c9⟩
 clear hK K
 try simp only [Act.put, List.setIfInBounds_toArray, List.set_cons_zero, List.set_cons_succ]
 refine rdy (rdc 10 87 (fun K hK => ?_) .nil)
 go_simp
 go_at_call 93
 refine (HFo.out _ ((Only.refl [] wr).drew)).mono ?_
 rintro e w5 ⟨⟨v5, rfl, hown5⟩, hq5⟩
 have o5 := (Only.refl [] wr).drew.q hq5
 obtain ⟨g5, c5v, rfl, -, -⟩ := hown5.form (by have := HLl.out.1; omega)
 rw [HLl.out.1] at hown5 ⊢
 obtain ⟨r0, r1, r2⟩ := frame_cells ((o5).row Hr.out)
 have c2 := (o5).cell Hk2.out (by simp)
 have c9 := (o5).cell Hk9.out (by simp)
 exact qDRBd2) : p := h
theorem kbuild3_any {lo hi lo2 hi2 lo3 hi3 : Nat} {pv qv lv : Value} {vs : List Value} {w : World} {f prev : FrameD} {x y mo vx vy : Int} {ms L : List Int} {SL : List (List Int)} {q : Nat} {mo0 : Nat} (hok : FrOk f) (h : Ints .i64 lo hi w pv f.pix) (hp : Ints .i64 lo2 hi2 w qv prev.pix) (hs : SqIn lo3 hi3 w lv vs L SL) (hm : ms.length = 4) (hq : q ≤ 15) (hx : 0 ≤ x) (hxn : x + 8 ≤ f.W) (hy : 0 ≤ y) (hyn : y + 8 ≤ f.H) (hhi : hi ≤ w.heap.size) (hms : ∀ z ∈ ms, 0 ≤ z ∧ z ≤ 3) (hSl : SL.length = 4) (hSv : ∀ l ∈ SL, l.length = 16 ∧ LevOk l) : Calls Tryz.prog 52 #[.agg #[.int .i64 f.W, .int .i64 f.H, pv], .agg #[.int .i64 prev.W, .int .i64 prev.H, qv], .int .i64 x, .int .i64 y, .int .i64 q, .agg (sqL 3 mo ms vx vy lv vs).toArray] w fun e w' => (∃ v', e = .returned (.agg #[.int .i64 f.W, .int .i64 f.H, v']) ∧ Own .i64 3 w.heap.size w' v' (laySq f prev x y q ⟨3, mo0, ms, vx, vy, L, SL⟩).pix ∧ Only [] w w') := by
 refine hidQ fun Q HPost => ?_
 obtain ⟨a, cap, rfl, -⟩ := h.open
 obtain ⟨pa, pcap, rfl, -⟩ := hp.open
 have hsl : ∀ i, i < 4 → (SL.getD i []).length = 16 ∧ LevOk (SL.getD i []) := fun i hi4 => hSv _ (by rw [List.getD_eq_getElem?_getD, List.getElem?_eq_getElem (by omega)]; exact List.getElem_mem _)
 have hml : ∀ i, i < 4 → 0 ≤ ms.getD i 0 ∧ ms.getD i 0 ≤ 3 := fun i hi4 => hms _ (by rw [List.getD_eq_getElem?_getD, List.getElem?_eq_getElem (by omega)]; exact List.getElem_mem _)
 obtain ⟨hq1, HB0, _, _, _, -⟩ := boxes4 w (.cells #[.int .i64 f.W, .int .i64 f.H, .slice a f.pix.length cap] 27) (.cells #[.int .i64 prev.W, .int .i64 prev.H, .slice pa prev.pix.length pcap] 27) (.cells (sqL 3 mo ms vx vy lv vs).toArray 70) (.cells #[.int .i64 0, .int .i64 0, .slice none 0 0] 27)
 have HB2 : Hid (SqRow (w.heap.size + 1 + 1) ((((w.alloc (.cells #[.int .i64 f.W, .int .i64 f.H, .slice a f.pix.length cap] 27)).alloc (.cells #[.int .i64 prev.W, .int .i64 prev.H, .slice pa prev.pix.length pcap] 27)).alloc (.cells (sqL 3 mo ms vx vy lv vs).toArray 70)).alloc (.cells #[.int .i64 0, .int .i64 0, .slice none 0 0] 27)) 3 mo ms vx vy lv vs → True) := lh (fun _ => trivial)
 have HB2r : Hid (((((w.alloc (.cells #[.int .i64 f.W, .int .i64 f.H, .slice a f.pix.length cap] 27)).alloc (.cells #[.int .i64 prev.W, .int .i64 prev.H, .slice pa prev.pix.length pcap] 27)).alloc (.cells (sqL 3 mo ms vx vy lv vs).toArray 70)).alloc (.cells #[.int .i64 0, .int .i64 0, .slice none 0 0] 27)).heap[w.heap.size + 1 + 1]? = some (.cells (sqL 3 mo ms vx vy lv vs).toArray 70 (0, 0))) := lh ((Only.new (((w.alloc _).alloc _).alloc _) _).row (heap_alloc_new' (by simp)))
 have HB3 : Hid (((((w.alloc (.cells #[.int .i64 f.W, .int .i64 f.H, .slice a f.pix.length cap] 27)).alloc (.cells #[.int .i64 prev.W, .int .i64 prev.H, .slice pa prev.pix.length pcap] 27)).alloc (.cells (sqL 3 mo ms vx vy lv vs).toArray 70)).alloc (.cells #[.int .i64 0, .int .i64 0, .slice none 0 0] 27)).heap[w.heap.size + 1 + 1 + 1]? = some (.cells #[.int .i64 0, .int .i64 0, .slice none 0 0] 27 (0, 0))) := lh (heap_alloc_new' (by simp))
 have Hz1 : Hid (((((w.alloc (.cells #[.int .i64 f.W, .int .i64 f.H, .slice a f.pix.length cap] 27)).alloc (.cells #[.int .i64 prev.W, .int .i64 prev.H, .slice pa prev.pix.length pcap] 27)).alloc (.cells (sqL 3 mo ms vx vy lv vs).toArray 70)).alloc (.cells #[.int .i64 0, .int .i64 0, .slice none 0 0] 27)).heap.size = w.heap.size + 1 + 1 + 1 + 1) := lh (by simp)
 have c0 : ((((w.alloc (.cells #[.int .i64 f.W, .int .i64 f.H, .slice a f.pix.length cap] 27)).alloc (.cells #[.int .i64 prev.W, .int .i64 prev.H, .slice pa prev.pix.length pcap] 27)).alloc (.cells (sqL 3 mo ms vx vy lv vs).toArray 70)).alloc (.cells #[.int .i64 0, .int .i64 0, .slice none 0 0] 27)).cell? ⟨w.heap.size + 1 + 1, 0, none⟩ = some (.int .i64 3) := by rw [cell_of_row _ _ _ _ _ _ HB2r.out]; rfl
 have Hc2 : Hid (∀ j, j < 4 → ((((w.alloc (.cells #[.int .i64 f.W, .int .i64 f.H, .slice a f.pix.length cap] 27)).alloc (.cells #[.int .i64 prev.W, .int .i64 prev.H, .slice pa prev.pix.length pcap] 27)).alloc (.cells (sqL 3 mo ms vx vy lv vs).toArray 70)).alloc (.cells #[.int .i64 0, .int .i64 0, .slice none 0 0] 27)).cell? ⟨w.heap.size + 1 + 1, 2 + j, none⟩ = some (.int .i64 (ms.getD j 0))) := lh (fun j hj => by rw [cell_of_row _ _ _ _ _ _ HB2r.out]; exact sqL_mode hm hj)
 have Hc9 : Hid (∀ j, j < 4 → ((((w.alloc (.cells #[.int .i64 f.W, .int .i64 f.H, .slice a f.pix.length cap] 27)).alloc (.cells #[.int .i64 prev.W, .int .i64 prev.H, .slice pa prev.pix.length pcap] 27)).alloc (.cells (sqL 3 mo ms vx vy lv vs).toArray 70)).alloc (.cells #[.int .i64 0, .int .i64 0, .slice none 0 0] 27)).cell? ⟨w.heap.size + 1 + 1, 9 + j, none⟩ = some (vs.getD j nilS)) := lh (fun j hj => by rw [cell_of_row _ _ _ _ _ _ HB2r.out]; exact sqL_small hm hs.len hj)
 have HI := lh (h.quiet hq1)
 have HSm := lh (fun (W : World) (o : Only [] w W) j (hj : j < 4) => (hs.small j hj).quiet o)
 have Hok := lh (fun j (hj : j ≤ 4) => fsK_ok (q := q) (s := ⟨3, mo0, ms, vx, vy, L, SL⟩) hok hx hxn hy hyn (fun i hi => (hsl i hi).1) j hj)
 have Hln := lh (fun j (hj : j ≤ 4) => fsK_len (q := q) (s := ⟨3, mo0, ms, vx, vy, L, SL⟩) hok hx hxn hy hyn (fun i hi => (hsl i hi).1) hj)
 have Hnx := lh (fun j => fsK_next f x y q ⟨3, mo0, ms, vx, vy, L, SL⟩ j)
 have HR : Hid (laySq f prev x y q ⟨3, mo0, ms, vx, vy, L, SL⟩ = fsK f x y q ⟨3, mo0, ms, vx, vy, L, SL⟩ 4) := lh rfl
 have HF0 : Hid (fsK f x y q ⟨3, mo0, ms, vx, vy, L, SL⟩ 0 = f) := lh rfl
 have Hsl := lh hsl
 have Hml := lh hml
 have Hq := lh hq
 have Hpos := lh hok.pos
 have Hhi := lh hhi
 have Hpl : Hid (0 ≤ x ∧ x + 8 ≤ f.W ∧ 0 ≤ y ∧ y + 8 ≤ f.H ∧ f.W ≤ 32 ∧ f.H ≤ 32) := lh ⟨hx, hxn, hy, hyn, hok.w1, hok.h1⟩
 have HQ1 := lh hq1
 generalize hsa : (sqL 3 mo ms vx vy lv vs).toArray = sa at *
 clear hq1 h hp hs hm hms hSl hSv hsl hml hok hx hxn hy hyn hq hhi HB2 HB2r hsa
 go_enter Tryz.func52, Tryz.ntmps52
 go_wp2_with fail
 generalize hW1 : World.alloc (World.alloc (World.alloc (World.alloc w _) _) _) _ = W1 at *
 clear hW1
 go_wp2_with fail
 clear c0
 go_loopw [13, 14, 15] (fun i _ _ wr => ∃ (j : Nat) (va : Option Addr) (vc lo' hi' : Nat), j ≤ 4 ∧ i = .int .i64 j ∧ Hid (wr.heap[w.heap.size]? = some (.cells #[.int .i64 f.W, .int .i64 f.H, .slice va f.pix.length vc] 27 (0, 0))) ∧ Hid (Ints .i64 lo' hi' wr (.slice va f.pix.length vc) (fsK f x y q ⟨3, mo0, ms, vx, vy, L, SL⟩ j).pix) ∧ Hid (hi' ≤ w.heap.size ∨ w.heap.size < lo') ∧ Hid (j = 0 ∨ Own .i64 3 W1.heap.size wr (.slice va f.pix.length vc) (fsK f x y q ⟨3, mo0, ms, vx, vy, L, SL⟩ j).pix) ∧ Hid (Only [w.heap.size] W1 wr)) (fun i _ _ _ => 4 - (intOf i).toNat)
 case atStart => exact ⟨0, _, _, lo, hi, by omega, rfl, HB0, lh (by rw [HF0.out]; exact HI.out), lh (.inl Hhi.out), lh (.inl rfl), lh (Only.refl _ _)⟩
 case round =>
  obtain ⟨j, va, vc, lo', hi', hj, rfl, HBk, HIk, HRg, HOj, HQk⟩ := hrel
  by_cases hlt : j < 4
  ·have hji : (j : Int) < 4 := by omega
   have hj0 : (0 : Int) ≤ (j : Int) := by omega
   have hNx := Hnx.out j
   obtain ⟨fok, fw, fh⟩ := Hok.out j (by omega)
   have fln := Hln.out j (by omega)
   obtain ⟨hlen, hlev⟩ := Hsl.out j hlt
   have hmd := Hml.out j hlt
   have hsm := fun (W : World) (o : Only [] wr W) => HSm.out W ((HQ1.out.trans HQk.out (U := []) (by simp) (fun g hg hl => by rw [mSg] at hg; omega)).q o) j hlt
   have k2 := HQk.out.cell (Hc2.out j hlt) (by simp; try omega)
   have k9 := HQk.out.cell (Hc9.out j hlt) (by simp; try omega)
   have eM : (j : Int).tmod 2 = ((j % 2 : Nat) : Int) := by rw [Int.tmod_eq_emod_of_nonneg hj0]; rfl
   have eD : (j : Int).tdiv 2 = ((j / 2 : Nat) : Int) := by rw [Int.tdiv_eq_ediv_of_nonneg hj0]; rfl
   have bM : j % 2 ≤ 1 := by omega
   have bD : j / 2 ≤ 1 := by omega
   have hsq : smallD x y q ⟨3, mo0, ms, vx, vy, L, SL⟩ (fsK f x y q ⟨3, mo0, ms, vx, vy, L, SL⟩ j) j = oneD (fsK f x y q ⟨3, mo0, ms, vx, vy, L, SL⟩ j) (x + ((j % 2 : Nat) : Int) * 4) (y + ((j / 2 : Nat) : Int) * 4) 4 (ms.getD j 0) q (SL.getD j []) := rfl
   rw [← hNx] at hsq
   obtain ⟨F, hF⟩ : ∃ F, F = fsK f x y q ⟨3, mo0, ms, vx, vy, L, SL⟩ j := ⟨_, rfl⟩
   rw [← hF] at fok fw fh fln hsq HIk
   clear HOj
   obtain ⟨X, hX⟩ : ∃ X, X = x + ((j % 2 : Nat) : Int) * 4 := ⟨_, rfl⟩
   obtain ⟨Y, hY⟩ : ∃ Y, Y = y + ((j / 2 : Nat) : Int) * 4 := ⟨_, rfl⟩
   rw [← hX, ← hY] at hsq
   have hpl := Hpl.out
   have X0 : 0 ≤ X ∧ X + 4 ≤ F.W := by rw [fw]; omega
   have Y0 : 0 ≤ Y ∧ Y + 4 ≤ F.H := by rw [fh]; omega
   generalize ms.getD j 0 = m at *
   generalize SL.getD j [] = l at *
   obtain ⟨sa0, sc0, hsv, -⟩ := (hsm wr (Only.refl _ _)).open
   rw [hlen] at hsv
   rw [hsv] at k9 hsm
   generalize j % 2 = M at *
   generalize j / 2 = Dv at *
   have n0 : IntKind.i64.wrap (Dv : Int) = (Dv : Int) := by rw [IntKind.wrap_i64]; omega
   have n1 : IntKind.i64.wrap ((M : Int) * 4) = (M : Int) * 4 := by rw [IntKind.wrap_i64]; omega
   have n2 : IntKind.i64.wrap ((Dv : Int) * 4) = (Dv : Int) * 4 := by rw [IntKind.wrap_i64]; omega
   have n3 : IntKind.i64.wrap (x + (M : Int) * 4) = X := by rw [← hX, IntKind.wrap_i64]; omega
   have n4 : IntKind.i64.wrap (y + (Dv : Int) * 4) = Y := by rw [← hY, IntKind.wrap_i64]; omega
   have hq15 := Hq.out
   rw [← fln] at HIk
   have hfk := HIk.out
   have HFo : Hid (∀ (W : World), Only [] wr W → Calls Tryz.prog 93 #[.agg #[.int .i64 f.W, .int .i64 f.H, .slice va f.pix.length vc], .int .i64 X, .int .i64 Y, .int .i64 4, .int .i64 m] W fun e w' => (∃ v', e = .returned v' ∧ Own .i64 3 W.heap.size w' v' (predD m (topD F X Y 4) (leftD F X Y 4) (sampleD F (X - 1) (Y - 1)))) ∧ Only [] W w') := lh (fun W o => by have := kforetold_any (n := 4) (mode := m) fok (hfk.quiet o) (.inl rfl) hmd X0.1 X0.2 Y0.1 Y0.2; rw [fw, fh, fln] at this; exact this)
   have hpb : (predD m (topD F X Y 4) (leftD F X Y 4) (sampleD F (X - 1) (Y - 1))).length = 16 := by rw [predD_len, topD_len]
   have hps : SamOk (predD m (topD F X Y 4) (leftD F X Y 4) (sampleD F (X - 1) (Y - 1))) := predD_in (topD_in fok.sam _ _ _) (leftD_in fok.sam _ _ _) (by rw [topD_len]; omega) _ _
   have hsq' : oneD F X Y 4 m q l = layD F X Y 4 (clipK (predD m (topD F X Y 4) (leftD F X Y 4) (sampleD F (X - 1) (Y - 1))) (restD l q)) := rfl
   rw [hsq'] at hsq
   have hrl : (restD l q).length = 16 := by rw [restD_len, hlen]
   have hra : AbsLe 401080320 (restD l q) := inverseD_abs2 (by rw [valuesD_len]; omega) (valuesD_abs hlev hq15)
   have HRs := lh (fun (W : World) (o : Only [] wr W) => krest_any (hsm W o) (by omega) hlev q hq15)
   generalize predD m (topD F X Y 4) (leftD F X Y 4) (sampleD F (X - 1) (Y - 1)) = PD at *
   generalize restD l q = RL at *
   have HLl : Hid (PD.length = 16 ∧ RL.length = 16) := lh ⟨hpb, hrl⟩
   have HCl := lh (fun (W : World) (b5 b6 : Nat) (v5 v6 : Value) (h5 : Own .i64 3 b5 W v5 PD) (h6 : Own .i64 3 b6 W v6 RL) => kclips_any h5.ints h6.ints (by rw [hpb, hrl]) (by rw [hpb]; omega) hps hra)
   have hbl : (clipK PD RL).length = 16 := by rw [clipK_len (by rw [hpb, hrl]), hpb]
   have hbs : SamOk (clipK PD RL) := clipK_in _ _
   generalize clipK PD RL = CB at *
   have HLc := lh hbl
   have hln2 : (layD F X Y 4 CB).pix.length = f.pix.length := by rw [layD_len (n := 4) fok X0.1 X0.2 Y0.1 Y0.2 hbl hbs, fln]
   have HPu : Hid (∀ (W : World), Only [] wr W → ∀ (lo1 : Nat) (v : Value), Own .i64 3 lo1 W v CB → Calls Tryz.prog 89 #[.agg #[.int .i64 f.W, .int .i64 f.H, .slice va f.pix.length vc], .int .i64 X, .int .i64 Y, .int .i64 4, v] W fun e w' => ∃ v', e = .returned (.agg #[.int .i64 f.W, .int .i64 f.H, v']) ∧ Own .i64 3 W.heap.size w' v' (layD F X Y 4 CB).pix ∧ Only [] W w') := lh (fun W o _ v hb => by have := kput21_4 fok (hfk.quiet o) hb.ints hbl hbs X0.1 X0.2 Y0.1 Y0.2; rw [fw, fh, fln] at this; exact this)
   have HLn := lh (And.intro hln2 Hpos.out.1)
   have HfJ := lh hsq
   have Hr := HBk
   have Hk2 := lh k2
   have Hk9 := lh k9
   have Hj := lh hlt
   obtain ⟨r0, r1, r2⟩ := frame_cells HBk.out
   have c2 := k2
   have c9 := k9
   clear hsq hsq' hX hY hpl X0 Y0 hsv hsm hfk hbl hbs hln2 hpb hps hrl hra hmd hlen hlev fok fw fh fln hNx bM bD hF k2 k9 hlt hq15
   go_wp2_with fail
   refine wp_region_held_drew (S := (fun w' => w'.cell? ⟨w.heap.size + 1 + 1, 2 + j, none⟩ = some (.int .i64 m) ∧ w'.cell? ⟨w.heap.size + 1 + 1, 9 + j, none⟩ = some (.slice sa0 16 sc0))) (by kernel_rfl) ?_ (fun hHeld => ?_)
   ·exact ⟨c2, c9⟩
   refine tk 1 78 ?_
   refine tk 2 79 ?_
   refine tk 4 81 ?_
   refine tk 5 82 ?_
   refine tk 6 83 ?_
   refine tk 7 84 ?_
   refine tk 8 85 ?_
   refine tk 9 86 ?_
   refine tk 11 88 ?_
   refine tk 12 89 ?_
   refine tk 13 90 ?_
   refine tk 14 91 ?_
   refine tk 15 92 ?_
   refine rdy (rdc 0 77 (fun K hK => ?_) (rdc 3 80 (fun K hK => ?_) .nil))
   ·go_simp
    refine hK.out _ _ ?_ (fun hHeld => ?_)
    ·exact ⟨c2, c9⟩
    clear hK K
    try simp only [Act.put, List.setIfInBounds_toArray, List.set_cons_zero, List.set_cons_succ]
    refine rdy (rdc 3 80 (fun K hK => ?_) .nil)
    exact qDRBd4
   ·go_simp
    refine hK.out _ _ ?_ (fun hHeld => ?_)
    ·exact ⟨c2, c9⟩
    clear hK K
    try simp only [Act.put, List.setIfInBounds_toArray, List.set_cons_zero, List.set_cons_succ]
    refine rdy (rdc 0 77 (fun K hK => ?_) (rdc 10 87 (fun K hK => ?_) .nil))
    ·exact qDRBd4
    ·go_simp
     go_at_call 93
     refine (HFo.out _ ((Only.refl [] wr).drew)).mono ?_
     rintro e w5 ⟨⟨v5, rfl, hown5⟩, hq5⟩
     have o5 := (Only.refl [] wr).drew.q hq5
     obtain ⟨g5, c5v, rfl, -, -⟩ := hown5.form (by have := HLl.out.1; omega)
     rw [HLl.out.1] at hown5 ⊢
     obtain ⟨r0, r1, r2⟩ := frame_cells ((o5).row Hr.out)
     have c2 := (o5).cell Hk2.out (by simp)
     have c9 := (o5).cell Hk9.out (by simp)
     refine hK.out _ _ ?_ (fun hHeld => ?_)
     ·exact ⟨c2, c9⟩
     clear hK K
     try simp only [Act.put, List.setIfInBounds_toArray, List.set_cons_zero, List.set_cons_succ]
     refine rdy (rdc 0 77 (fun K hK => ?_) (rdc 16 93 (fun K hK => ?_) .nil))
     ·go_simp
      exact qDRBd2
     ·go_simp
      go_at_call 92
      refine (HRs.out _ o5).mono ?_
      rintro e w6 ⟨⟨v6, rfl, hown6⟩, hab, hq6⟩
      have o6 := o5.q hq6
      have h56 := hown5.quiet hq6
      obtain ⟨g6, c6v, rfl, -, -⟩ := hown6.form (by have := HLl.out.2; omega)
      rw [HLl.out.2] at hown6 ⊢
      obtain ⟨r0, r1, r2⟩ := frame_cells ((o6).row Hr.out)
      have c2 := (o6).cell Hk2.out (by simp)
      have c9 := (o6).cell Hk9.out (by simp)
      refine hK.out _ _ ?_ (fun hHeld => ?_)
      ·exact ⟨c2, c9⟩
      clear hK K
      try simp only [Act.put, List.setIfInBounds_toArray, List.set_cons_zero, List.set_cons_succ]
      refine rdy (rdc 0 77 (fun K hK => ?_) (rdc 17 94 (fun K hK => ?_) .nil))
      ·go_simp
       exact qDRBd5
      ·go_simp
       go_at_call 91
       refine (HCl.out _ _ _ _ _ h56 hown6).mono ?_
       rintro e w7 ⟨⟨v7, rfl, hown7⟩, hq7⟩
       have o7 := o6.q hq7
       obtain ⟨g7, c7v, rfl, -, -⟩ := hown7.form (by have := HLc.out; omega)
       rw [HLc.out] at hown7 ⊢
       obtain ⟨r0, r1, r2⟩ := frame_cells ((o7).row Hr.out)
       have c2 := (o7).cell Hk2.out (by simp)
       have c9 := (o7).cell Hk9.out (by simp)
       refine hK.out _ _ ?_ (fun hHeld => ?_)
       ·exact ⟨c2, c9⟩
       clear hK K
       try simp only [Act.put, List.setIfInBounds_toArray, List.set_cons_zero, List.set_cons_succ]
       refine rdy (rdc 0 77 (fun K hK => ?_) .nil)
       go_simp
       exact qDRBd0
  ·obtain rfl : j = 4 := by omega
   have hji : ¬ ((4 : Nat) : Int) < 4 := by omega
   obtain ⟨r0, r1, r2⟩ := frame_cells HBk.out
   have hr3 := HQk.out.rowAt HB3.out (by simp; try omega)
   obtain ⟨z0, z1, z2⟩ := frame_cells hr3
   have fz0 := frozen_of_row _ _ 0 _ _ hr3
   have fz1 := frozen_of_row _ _ 1 _ _ hr3
   have fz2 := frozen_of_row _ _ 2 _ _ hr3
   obtain ⟨hrow, hon⟩ := row3_set (x := .int .i64 f.W) (y := .int .i64 f.H) (z := .slice va f.pix.length vc) hr3
   have Hrow := lh hrow
   have Hon := lh hon
   clear hrow hon hr3 hlt
   go_wp2_with fail
   refine bodyPost_ret (v := .agg #[.int .i64 f.W, .int .i64 f.H, .slice va f.pix.length vc]) (results_cell_row Tryz.results52 _ _ (w.heap.size + 1 + 1 + 1) _ _ _ _ rfl Hrow.out Tryz.underlying27 rfl (by kernel_rfl)) rfl (HPost.out _ _ ⟨_, rfl, ?_, ?_⟩)
   ·rw [HR.out]
    rcases HOj.out with h0 | ho
    ·omega
    exact (ho.only Hon.out (fun x hx hh => by rw [mSg] at hx; subst hx; have := (ho.at _ hh).1; have := Hz1.out; omega)).lower HQ1.out.size
   ·exact (HQ1.out.trans HQk.out (U := []) (by simp) (fun g hg hl => by rw [mSg] at hg; omega)).trans Hon.out (U := []) (by simp) (fun x hx hlt => by rw [mSg] at hx; omega)
theorem kbuild_any {lo hi lo2 hi2 lo3 hi3 : Nat} {pv qv lv : Value} {vs : List Value} {w : World} {f prev : FrameD} {x y mo : Int} {s : SqD} {q : Nat} (hok : FrOk f) (h : Ints .i64 lo hi w pv f.pix) (hhi : hi ≤ w.heap.size) (hp : Ints .i64 lo2 hi2 w qv prev.pix) (hs : SqIn lo3 hi3 w lv vs s.large s.small) (hpr : s.kind < 2 → FrOk prev) (hsm : SqMay s) (hmo : s.kind = 2 → mo = s.mode) (hml : s.modes.length = 4) (hq : q ≤ 15) (hx : 0 ≤ x) (hxn : x + 8 ≤ f.W) (hy : 0 ≤ y) (hyn : y + 8 ≤ f.H) :
  Calls Tryz.prog 52 #[.agg #[.int .i64 f.W, .int .i64 f.H, pv], .agg #[.int .i64 prev.W, .int .i64 prev.H, qv], .int .i64 x, .int .i64 y, .int .i64 q, .agg (sqL s.kind mo s.modes s.vx s.vy lv vs).toArray] w fun e w' => (∃ v', e = .returned (.agg #[.int .i64 f.W, .int .i64 f.H, v']) ∧ Own .i64 3 w.heap.size w' v' (laySq f prev x y q s).pix ∧ Only [] w w') := by
 obtain ⟨kind, mode, ms, vx, vy, L, SL⟩ := s
 have hk := hsm.kind
 simp only at hs hpr hmo hml hk
 rcases (by omega : kind = 0 ∨ kind = 1 ∨ kind = 2 ∨ kind = 3) with rfl | rfl | rfl | rfl
 ·exact kbuild0_any hok h hp hs hml hq hx hxn hy hyn (hpr (by omega))
 ·obtain ⟨a, b⟩ := hsm.large (.inl rfl)
  exact kbuild1_any hok h hp hs hml hq hx hxn hy hyn (hpr (by omega)) a b (hsm.vec rfl)
 ·obtain ⟨a, b⟩ := hsm.large (.inr rfl)
  obtain rfl := hmo rfl
  exact kbuild2_any hok h hp hs hml hq hx hxn hy hyn rfl (by have : mode ≤ 3 := hsm.mode rfl; omega) a b
 ·obtain ⟨-, a, b, c⟩ := hsm.small rfl
  exact kbuild3_any hok h hp hs hml hq hx hxn hy hyn hhi b a c
end
end Go.Proofs.YthgpgbdkcdmbpaaGreatDoor
