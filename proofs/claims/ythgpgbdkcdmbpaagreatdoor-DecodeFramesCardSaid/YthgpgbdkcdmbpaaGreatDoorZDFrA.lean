/- decode.Frame where no squares are read: sides that may not be, a unit that may not be, no frame ahead, a flat one, a skip. Conditions: the arguments read. -/
import Derived.Test.YthgpgbdkcdmbpaaGreatDoorS5
import Derived.Test.YthgpgbdkcdmbpaaGreatDoorS4
import Derived.Test.YthgpgbdkcdmbpaaGreatDoorC3
import Derived.Test.YthgpgbdkcdmbpaaGreatDoorK1
namespace Go.Proofs.YthgpgbdkcdmbpaaGreatDoor
open Go.RowKit
set_option linter.unusedVariables false
set_option linter.unusedSimpArgs false
set_option maxRecDepth 100000
set_option maxHeartbeats 16000000
/-- what a frame is handed back as -/
def FrameP (w : World) (r : Except Err FrameD) (e : Ending) (w' : World) : Prop :=
 Only [] w w' ∧ match r with
  | .ok f => ∃ g cap, e = .returned (.tuple #[.agg #[.int .i64 f.W, .int .i64 f.H, .slice (some ⟨g, 0, none⟩) f.pix.length cap], .nilIface]) ∧ Own .i64 3 w.heap.size w' (.slice (some ⟨g, 0, none⟩) f.pix.length cap) f.pix
  | .error er => ∃ ev, e = .returned (.tuple #[.agg #[.int .i64 0, .int .i64 0, .slice none 0 0], ev]) ∧ ErrV w.heap.size w'.heap.size w' ev er
theorem FrameP.bad {w w' : World} {er : Err} {e : Ending} {ev : Value} (o : Only [] w w') (he : e = .returned (.tuple #[.agg #[.int .i64 0, .int .i64 0, .slice none 0 0], ev])) (hv : ErrV w.heap.size w'.heap.size w' ev er) : FrameP w (.error er) e w' := ⟨o, ev, he, hv⟩
theorem row3_set {w : World} {g : Nat} {a b c x y z : Value} {t : TypeId} (h : w.heap[g]? = some (.cells #[a, b, c] t (0, 0))) :
  (((w.setCell ⟨g, 0, none⟩ x).setCell ⟨g, 1, none⟩ y).setCell ⟨g, 2, none⟩ z).heap[g]? = some (.cells #[x, y, z] t (0, 0)) ∧ Only [g] w (((w.setCell ⟨g, 0, none⟩ x).setCell ⟨g, 1, none⟩ y).setCell ⟨g, 2, none⟩ z) := by
 have h1 := heap_setCell_same w g 0 _ _ x h
 have h2 := heap_setCell_same _ g 1 _ _ y h1
 have h3 := heap_setCell_same _ g 2 _ _ z h2
 exact ⟨h3, (((Only.refl _ _).setCell (by simp) _).setCell (by simp) _).setCell (by simp) _⟩
section
variable {lo hi lo' hi' : Nat} {dv pv : Value} {w : World} {c : Coded} {prev : FrameD} {l : List Int} {W H : Int}
theorem frame_sides (hd : Ints .u8 lo hi w dv c.data) (hp : Ints .i64 lo' hi' w pv prev.pix) (hn : newB W H 128 = false) :
  Calls Tryz.prog 11 #[.agg #[.int .i64 c.kind, dv], .agg #[.int .i64 prev.W, .int .i64 prev.H, pv], .int .i64 W, .int .i64 H] w (FrameP w (.error ⟨[], 3⟩)) := by
 refine hidQ fun Q HPost => ?_
 obtain ⟨da, dcap, rfl, -⟩ := hd.open
 obtain ⟨pa, pcap, rfl, -⟩ := hp.open
 obtain ⟨hq1, HB0, HB1, HB2, -⟩ := boxes3 w (.cells #[.int .i64 c.kind, .slice da c.data.length dcap] 24) (.cells #[.int .i64 prev.W, .int .i64 prev.H, .slice pa prev.pix.length pcap] 27) (.cells #[.int .i64 0, .int .i64 0, .slice none 0 0] 27)
 have HQ1 := lh hq1
 have HD := lh (hd.quiet hq1)
 have HPv := lh (hp.quiet hq1)
 have HZ3 : Hid (w.heap.size + 1 + 1 < (((w.alloc (.cells #[.int .i64 c.kind, .slice da c.data.length dcap] 24)).alloc (.cells #[.int .i64 prev.W, .int .i64 prev.H, .slice pa prev.pix.length pcap] 27)).alloc (.cells #[.int .i64 0, .int .i64 0, .slice none 0 0] 27)).heap.size) := lh (by simp)
 clear hd hp hq1
 go_enter Tryz.func11, Tryz.ntmps11
 go_wp2_with fail
 generalize hW3 : World.alloc (World.alloc (World.alloc w _) _) _ = W3 at *
 clear hW3
 go_at_call 32
 refine (pnew_any W H 128 W3).mono ?_
 rintro e W4 ⟨hq4, hm⟩
 rw [hn] at hm
 subst hm
 have HQ4 := lh (HQ1.out.q hq4)
 have hr := hq4.row HB2.out
 have HR := lh hr
 obtain ⟨z0, z1, z2⟩ := frame_cells hr
 have fz0 := frozen_of_row _ _ 0 _ _ hr
 have fz1 := frozen_of_row _ _ 1 _ _ hr
 have fz2 := frozen_of_row _ _ 2 _ _ hr
 have HZ4 := lh (Nat.lt_of_lt_of_le HZ3.out hq4.size)
 have n1 : ¬ W4.heap.size = w.heap.size + 1 + 1 := by have := HZ4.out; omega
 have n2 : ¬ w.heap.size + 1 + 1 = W4.heap.size := by have := HZ4.out; omega
 have n3 : w.heap.size + 1 + 1 < W4.heap.size := HZ4.out
 clear hq4 hn hr
 go_wp2_with fail
 obtain ⟨hrow, hon⟩ := row3_set (x := (.int .i64 0)) (y := (.int .i64 0)) (z := (.slice none 0 0)) HR.out
 have hall := HQ4.out.trans hon (U := []) (by simp) (fun g hg hlt => by rw [mSg] at hg; omega)
 have hrow2 := (Only.new _ (.cells #[.int .i64 0, .int .i64 0, .slice none 0 0] 27)).row hrow
 have hall2 := hall.q (Only.new _ (.cells #[.int .i64 0, .int .i64 0, .slice none 0 0] 27))
 refine bodyPost_ret (v := .tuple #[.agg #[(.int .i64 0), (.int .i64 0), (.slice none 0 0)], .iface 37 (.int .i64 3)]) (results_cell_row2 Tryz.results11 _ _ (w.heap.size + 1 + 1) _ _ _ _ _ rfl rfl hrow2 Tryz.underlying27 rfl (by kernel_rfl)) rfl (HPost.out _ _ (FrameP.bad hall2 rfl (ErrV.code _ _ _ _)))
theorem frame_unit (hd : Ints .u8 lo hi w dv c.data) (hp : Ints .i64 lo' hi' w pv prev.pix) {k : Int} (hn : newB W H 128 = true) (hk : readB c = some k) :
  Calls Tryz.prog 11 #[.agg #[.int .i64 c.kind, dv], .agg #[.int .i64 prev.W, .int .i64 prev.H, pv], .int .i64 W, .int .i64 H] w (FrameP w (.error ⟨[], k⟩)) := by
 refine hidQ fun Q HPost => ?_
 obtain ⟨da, dcap, rfl, -⟩ := hd.open
 obtain ⟨pa, pcap, rfl, -⟩ := hp.open
 obtain ⟨hq1, HB0, HB1, HB2, -⟩ := boxes3 w (.cells #[.int .i64 c.kind, .slice da c.data.length dcap] 24) (.cells #[.int .i64 prev.W, .int .i64 prev.H, .slice pa prev.pix.length pcap] 27) (.cells #[.int .i64 0, .int .i64 0, .slice none 0 0] 27)
 have HQ1 := lh hq1
 have HD := lh (hd.quiet hq1)
 have HPv := lh (hp.quiet hq1)
 have HZ3 : Hid (w.heap.size + 1 + 1 < (((w.alloc (.cells #[.int .i64 c.kind, .slice da c.data.length dcap] 24)).alloc (.cells #[.int .i64 prev.W, .int .i64 prev.H, .slice pa prev.pix.length pcap] 27)).alloc (.cells #[.int .i64 0, .int .i64 0, .slice none 0 0] 27)).heap.size) := lh (by simp)
 clear hd hp hq1
 go_enter Tryz.func11, Tryz.ntmps11
 go_wp2_with fail
 generalize hW3 : World.alloc (World.alloc (World.alloc w _) _) _ = W3 at *
 clear hW3
 go_at_call 32
 refine (pnewD_any W H 128 W3 hn).mono ?_
 rintro e W4 ⟨g, gcap, rfl, hown, hq4⟩
 have HN := lh hn
 have HF0 := lh (newF_ok hn)
 have HFe : Hid (newF W H 128 = newF W H 128) := lh rfl
 have HFW : Hid ((newF W H 128).W = W ∧ (newF W H 128).H = H) := lh ⟨rfl, rfl⟩
 generalize hF0 : newF W H 128 = F0 at *
 have HFF := lh hF0
 clear hF0 HFe
 have Hgat := lh ((hown.at g rfl))
 have HOwn4 := lh hown
 have HQ4 := lh (HQ1.out.q hq4)
 have HZ4 := lh (Nat.lt_of_lt_of_le HZ3.out hq4.size)
 have b0 := hq4.row HB0.out
 obtain ⟨k0, k1⟩ := row2 b0
 have HR0 := lh b0
 have HR1 := lh (hq4.row HB1.out)
 have HR2 := lh (hq4.row HB2.out)
 have n1 : ¬ W4.heap.size = w.heap.size := by have := HZ4.out; omega
 have n2 : ¬ w.heap.size = W4.heap.size := by have := HZ4.out; omega
 have HD4 := lh (HD.out.quiet hq4)
 have HP4 := lh (HPv.out.quiet hq4)
 clear hq4 hn hown b0
 go_wp2_with fail
 have hnew := Only.new W4 (.cells #[.int .i64 W, .int .i64 H, .slice (some ⟨g, 0, none⟩) F0.pix.length gcap] 27)
 have HRT : Hid ((W4.alloc (.cells #[.int .i64 W, .int .i64 H, .slice (some ⟨g, 0, none⟩) F0.pix.length gcap] 27)).heap[W4.heap.size]? = some (.cells #[.int .i64 W, .int .i64 H, .slice (some ⟨g, 0, none⟩) F0.pix.length gcap] 27 (0, 0))) := lh (heap_alloc_new W4 _)
 have HQ5 := lh (HQ4.out.q hnew)
 have HR05 := lh (hnew.row HR0.out)
 have HR15 := lh (hnew.row HR1.out)
 have HR25 := lh (hnew.row HR2.out)
 have HD5 := lh (HD4.out.quiet hnew)
 have HP5 := lh (HP4.out.quiet hnew)
 have HO5 := lh (HOwn4.out.quiet hnew)
 have HZ5 : Hid (W4.heap.size < (W4.alloc (.cells #[.int .i64 W, .int .i64 H, .slice (some ⟨g, 0, none⟩) F0.pix.length gcap] 27)).heap.size) := lh (by simp)
 clear hnew k0 k1 n1 n2
 generalize hW5 : World.alloc W4 _ = W5 at *
 clear hW5
 go_at_call 33
 refine (show Calls Tryz.prog 33 #[.agg #[.int .i64 c.kind, .slice da c.data.length dcap]] W5 (HeadOr W5 c) from read_any HD5.out).mono ?_
 rintro e W6 ⟨hq6, hm⟩
 rw [hk] at hm
 subst hm
 have HQ6 := lh (HQ5.out.q hq6)
 have HR06 := lh (hq6.row HR05.out)
 have HR16 := lh (hq6.row HR15.out)
 have HR26 := lh (hq6.row HR25.out)
 have HRT6 := lh (hq6.row HRT.out)
 have HP6 := lh (HP5.out.quiet hq6)
 have HO6 := lh (HO5.out.quiet hq6)
 have HZ6 := lh (show w.heap.size + 1 + 1 < W6.heap.size ∧ W4.heap.size < W6.heap.size ∧ g < W6.heap.size by have := hq6.size; have := HZ4.out; have := HZ5.out; have := Hgat.out.2; omega)
 have n1 : ¬ W6.heap.size = w.heap.size + 1 + 1 := by have := HZ6.out; omega
 have n2 : ¬ w.heap.size + 1 + 1 = W6.heap.size := by have := HZ6.out; omega
 have n3 : w.heap.size + 1 + 1 < W6.heap.size := HZ6.out.1
 have n4 : ¬ W6.heap.size = w.heap.size + 1 := by have := HZ6.out; omega
 have n5 : ¬ w.heap.size + 1 = W6.heap.size := by have := HZ6.out; omega
 have n6 : w.heap.size + 1 < W6.heap.size := by have := HZ6.out; omega
 obtain ⟨z0, z1, z2⟩ := frame_cells HR26.out
 have fz0 := frozen_of_row _ _ 0 _ _ HR26.out
 have fz1 := frozen_of_row _ _ 1 _ _ HR26.out
 have fz2 := frozen_of_row _ _ 2 _ _ HR26.out
 clear hq6 hk
 go_wp2_with fail
 obtain ⟨hrow, hon⟩ := row3_set (x := (.int .i64 0)) (y := (.int .i64 0)) (z := (.slice none 0 0)) HR26.out
 have hall := HQ6.out.trans hon (U := []) (by simp) (fun g hg hlt => by rw [mSg] at hg; omega)
 have hrow2 := (Only.new _ (.cells #[.int .i64 0, .int .i64 0, .slice none 0 0] 77)).row hrow
 have hall2 := hall.q (Only.new _ (.cells #[.int .i64 0, .int .i64 0, .slice none 0 0] 77))
 refine bodyPost_ret (v := .tuple #[.agg #[(.int .i64 0), (.int .i64 0), (.slice none 0 0)], .iface 37 (.int .i64 k)]) (results_cell_row2 Tryz.results11 _ _ (w.heap.size + 1 + 1) _ _ _ _ _ rfl rfl hrow2 Tryz.underlying27 rfl (by kernel_rfl)) rfl (HPost.out _ _ (FrameP.bad hall2 rfl (ErrV.code _ _ _ _)))
theorem qDFrA0 {p : Prop} (h : p := by
 clear hnew7
 generalize hW7 : World.alloc W6 _ = W7 at *
 clear hW7
 go_at_call 34
 have hmt := mates_any prev.W prev.H W H HP7.out
 rw [hma] at hmt
 have Hmt := lh hmt
 clear hmt hma p0 p1 p2 k0 k1
 refine Hmt.out.mono ?_
 rintro e W8 ⟨rfl, hq8⟩
 have HQ8 := lh (HQ7.out.q hq8)
 have HR28 := lh (hq8.row HR27.out)
 obtain ⟨z0, z1, z2⟩ := frame_cells HR28.out
 have fz0 := frozen_of_row _ _ 0 _ _ HR28.out
 have fz1 := frozen_of_row _ _ 1 _ _ HR28.out
 have fz2 := frozen_of_row _ _ 2 _ _ HR28.out
 clear hq8 n1 n2 n3 n4 n5 n6
 go_wp2_with fail
 obtain ⟨hrow, hon⟩ := row3_set (x := (.int .i64 0)) (y := (.int .i64 0)) (z := (.slice none 0 0)) HR28.out
 have hall := HQ8.out.trans hon (U := []) (by simp) (fun g hg hlt => by rw [mSg] at hg; omega)
 have hrow2 := hrow
 have hall2 := hall
 refine bodyPost_ret (v := .tuple #[.agg #[(.int .i64 0), (.int .i64 0), (.slice none 0 0)], .iface 37 (.int .i64 12)]) (results_cell_row2 Tryz.results11 _ _ (w.heap.size + 1 + 1) _ _ _ _ _ rfl rfl hrow2 Tryz.underlying27 rfl (by kernel_rfl)) rfl (HPost.out _ _ (FrameP.bad hall2 rfl (ErrV.code _ _ _ _)))) : p := h
theorem frame_mates2 (hd : Ints .u8 lo hi w dv l) (hp : Ints .i64 lo' hi' w pv prev.pix) (hn : newB W H 128 = true) (hk : readB ⟨2, l⟩ = none) (hma : matesB prev W H = false) :
  Calls Tryz.prog 11 #[.agg #[.int .i64 2, dv], .agg #[.int .i64 prev.W, .int .i64 prev.H, pv], .int .i64 W, .int .i64 H] w (FrameP w (.error ⟨[], 12⟩)) := by
 refine hidQ fun Q HPost => ?_
 obtain ⟨da, dcap, rfl, -⟩ := hd.open
 obtain ⟨pa, pcap, rfl, -⟩ := hp.open
 obtain ⟨hq1, HB0, HB1, HB2, -⟩ := boxes3 w (.cells #[.int .i64 2, .slice da l.length dcap] 24) (.cells #[.int .i64 prev.W, .int .i64 prev.H, .slice pa prev.pix.length pcap] 27) (.cells #[.int .i64 0, .int .i64 0, .slice none 0 0] 27)
 have HQ1 := lh hq1
 have HD := lh (hd.quiet hq1)
 have HPv := lh (hp.quiet hq1)
 have HZ3 : Hid (w.heap.size + 1 + 1 < (((w.alloc (.cells #[.int .i64 2, .slice da l.length dcap] 24)).alloc (.cells #[.int .i64 prev.W, .int .i64 prev.H, .slice pa prev.pix.length pcap] 27)).alloc (.cells #[.int .i64 0, .int .i64 0, .slice none 0 0] 27)).heap.size) := lh (by simp)
 clear hd hp hq1
 go_enter Tryz.func11, Tryz.ntmps11
 go_wp2_with fail
 generalize hW3 : World.alloc (World.alloc (World.alloc w _) _) _ = W3 at *
 clear hW3
 go_at_call 32
 refine (pnewD_any W H 128 W3 hn).mono ?_
 rintro e W4 ⟨g, gcap, rfl, hown, hq4⟩
 have HN := lh hn
 have HF0 := lh (newF_ok hn)
 have HFe : Hid (newF W H 128 = newF W H 128) := lh rfl
 have HFW : Hid ((newF W H 128).W = W ∧ (newF W H 128).H = H) := lh ⟨rfl, rfl⟩
 generalize hF0 : newF W H 128 = F0 at *
 have HFF := lh hF0
 clear hF0 HFe
 have Hgat := lh ((hown.at g rfl))
 have HOwn4 := lh hown
 have HQ4 := lh (HQ1.out.q hq4)
 have HZ4 := lh (Nat.lt_of_lt_of_le HZ3.out hq4.size)
 have b0 := hq4.row HB0.out
 obtain ⟨k0, k1⟩ := row2 b0
 have HR0 := lh b0
 have HR1 := lh (hq4.row HB1.out)
 have HR2 := lh (hq4.row HB2.out)
 have n1 : ¬ W4.heap.size = w.heap.size := by have := HZ4.out; omega
 have n2 : ¬ w.heap.size = W4.heap.size := by have := HZ4.out; omega
 have HD4 := lh (HD.out.quiet hq4)
 have HP4 := lh (HPv.out.quiet hq4)
 clear hq4 hn hown b0
 go_wp2_with fail
 have hnew := Only.new W4 (.cells #[.int .i64 W, .int .i64 H, .slice (some ⟨g, 0, none⟩) F0.pix.length gcap] 27)
 have HRT : Hid ((W4.alloc (.cells #[.int .i64 W, .int .i64 H, .slice (some ⟨g, 0, none⟩) F0.pix.length gcap] 27)).heap[W4.heap.size]? = some (.cells #[.int .i64 W, .int .i64 H, .slice (some ⟨g, 0, none⟩) F0.pix.length gcap] 27 (0, 0))) := lh (heap_alloc_new W4 _)
 have HQ5 := lh (HQ4.out.q hnew)
 have HR05 := lh (hnew.row HR0.out)
 have HR15 := lh (hnew.row HR1.out)
 have HR25 := lh (hnew.row HR2.out)
 have HD5 := lh (HD4.out.quiet hnew)
 have HP5 := lh (HP4.out.quiet hnew)
 have HO5 := lh (HOwn4.out.quiet hnew)
 have HZ5 : Hid (W4.heap.size < (W4.alloc (.cells #[.int .i64 W, .int .i64 H, .slice (some ⟨g, 0, none⟩) F0.pix.length gcap] 27)).heap.size) := lh (by simp)
 clear hnew k0 k1 n1 n2
 generalize hW5 : World.alloc W4 _ = W5 at *
 clear hW5
 go_at_call 33
 refine (show Calls Tryz.prog 33 #[.agg #[.int .i64 2, .slice da l.length dcap]] W5 (HeadOr W5 ⟨2, l⟩) from read_any HD5.out).mono ?_
 rintro e W6 ⟨hq6, hm⟩
 rw [hk] at hm
 obtain ⟨dv2, rfl, hi2⟩ := hm
 obtain ⟨ea, ecap, rfl, -⟩ := hi2.open
 have HI2 := lh hi2
 generalize hel : (l.drop 1).length = el at *
 have Hel := lh hel
 clear hel hi2
 generalize hq0 : l.getD 0 0 = q0 at *
 have Hq0 := lh hq0
 clear hq0
 have HQ6 := lh (HQ5.out.q hq6)
 have HR06 := lh (hq6.row HR05.out)
 have HR16 := lh (hq6.row HR15.out)
 have HR26 := lh (hq6.row HR25.out)
 have HRT6 := lh (hq6.row HRT.out)
 have HP6 := lh (HP5.out.quiet hq6)
 have HO6 := lh (HO5.out.quiet hq6)
 have HZ6 := lh (show w.heap.size + 1 + 1 < W6.heap.size ∧ W4.heap.size < W6.heap.size ∧ g < W6.heap.size by have := hq6.size; have := HZ4.out; have := HZ5.out; have := Hgat.out.2; omega)
 have n1 : ¬ W6.heap.size = w.heap.size + 1 + 1 := by have := HZ6.out; omega
 have n2 : ¬ w.heap.size + 1 + 1 = W6.heap.size := by have := HZ6.out; omega
 have n3 : w.heap.size + 1 + 1 < W6.heap.size := HZ6.out.1
 have n4 : ¬ W6.heap.size = w.heap.size + 1 := by have := HZ6.out; omega
 have n5 : ¬ w.heap.size + 1 = W6.heap.size := by have := HZ6.out; omega
 have n6 : w.heap.size + 1 < W6.heap.size := by have := HZ6.out; omega
 obtain ⟨p0, p1, p2⟩ := frame_cells HR16.out
 clear hq6 hk
 obtain ⟨k0, k1⟩ := row2 HR06.out
 go_wp2_with fail
 have hnew7 := Only.new W6 (.cells #[.int .i64 2, .int .i64 q0, .slice ea el ecap] 77)
 have HQ7 := lh (HQ6.out.q hnew7)
 have HRH : Hid ((W6.alloc (.cells #[.int .i64 2, .int .i64 q0, .slice ea el ecap] 77)).heap[W6.heap.size]? = some (.cells #[.int .i64 2, .int .i64 q0, .slice ea el ecap] 77 (0, 0))) := lh (heap_alloc_new W6 _)
 have HR07 := lh (hnew7.row HR06.out)
 have HR17 := lh (hnew7.row HR16.out)
 have HR27 := lh (hnew7.row HR26.out)
 have HRT7 := lh (hnew7.row HRT6.out)
 have HP7 := lh (HP6.out.quiet hnew7)
 have HO7 := lh (HO6.out.quiet hnew7)
 have HI7 := lh (HI2.out.quiet hnew7)
 have HZ7 : Hid (W6.heap.size < (W6.alloc (.cells #[.int .i64 2, .int .i64 q0, .slice ea el ecap] 77)).heap.size) := lh (by simp)
 exact qDFrA0
theorem frame_mates3 (hd : Ints .u8 lo hi w dv l) (hp : Ints .i64 lo' hi' w pv prev.pix) (hn : newB W H 128 = true) (hk : readB ⟨3, l⟩ = none) (hma : matesB prev W H = false) :
  Calls Tryz.prog 11 #[.agg #[.int .i64 3, dv], .agg #[.int .i64 prev.W, .int .i64 prev.H, pv], .int .i64 W, .int .i64 H] w (FrameP w (.error ⟨[], 12⟩)) := by
 refine hidQ fun Q HPost => ?_
 obtain ⟨da, dcap, rfl, -⟩ := hd.open
 obtain ⟨pa, pcap, rfl, -⟩ := hp.open
 obtain ⟨hq1, HB0, HB1, HB2, -⟩ := boxes3 w (.cells #[.int .i64 3, .slice da l.length dcap] 24) (.cells #[.int .i64 prev.W, .int .i64 prev.H, .slice pa prev.pix.length pcap] 27) (.cells #[.int .i64 0, .int .i64 0, .slice none 0 0] 27)
 have HQ1 := lh hq1
 have HD := lh (hd.quiet hq1)
 have HPv := lh (hp.quiet hq1)
 have HZ3 : Hid (w.heap.size + 1 + 1 < (((w.alloc (.cells #[.int .i64 3, .slice da l.length dcap] 24)).alloc (.cells #[.int .i64 prev.W, .int .i64 prev.H, .slice pa prev.pix.length pcap] 27)).alloc (.cells #[.int .i64 0, .int .i64 0, .slice none 0 0] 27)).heap.size) := lh (by simp)
 clear hd hp hq1
 go_enter Tryz.func11, Tryz.ntmps11
 go_wp2_with fail
 generalize hW3 : World.alloc (World.alloc (World.alloc w _) _) _ = W3 at *
 clear hW3
 go_at_call 32
 refine (pnewD_any W H 128 W3 hn).mono ?_
 rintro e W4 ⟨g, gcap, rfl, hown, hq4⟩
 have HN := lh hn
 have HF0 := lh (newF_ok hn)
 have HFe : Hid (newF W H 128 = newF W H 128) := lh rfl
 have HFW : Hid ((newF W H 128).W = W ∧ (newF W H 128).H = H) := lh ⟨rfl, rfl⟩
 generalize hF0 : newF W H 128 = F0 at *
 have HFF := lh hF0
 clear hF0 HFe
 have Hgat := lh ((hown.at g rfl))
 have HOwn4 := lh hown
 have HQ4 := lh (HQ1.out.q hq4)
 have HZ4 := lh (Nat.lt_of_lt_of_le HZ3.out hq4.size)
 have b0 := hq4.row HB0.out
 obtain ⟨k0, k1⟩ := row2 b0
 have HR0 := lh b0
 have HR1 := lh (hq4.row HB1.out)
 have HR2 := lh (hq4.row HB2.out)
 have n1 : ¬ W4.heap.size = w.heap.size := by have := HZ4.out; omega
 have n2 : ¬ w.heap.size = W4.heap.size := by have := HZ4.out; omega
 have HD4 := lh (HD.out.quiet hq4)
 have HP4 := lh (HPv.out.quiet hq4)
 clear hq4 hn hown b0
 go_wp2_with fail
 have hnew := Only.new W4 (.cells #[.int .i64 W, .int .i64 H, .slice (some ⟨g, 0, none⟩) F0.pix.length gcap] 27)
 have HRT : Hid ((W4.alloc (.cells #[.int .i64 W, .int .i64 H, .slice (some ⟨g, 0, none⟩) F0.pix.length gcap] 27)).heap[W4.heap.size]? = some (.cells #[.int .i64 W, .int .i64 H, .slice (some ⟨g, 0, none⟩) F0.pix.length gcap] 27 (0, 0))) := lh (heap_alloc_new W4 _)
 have HQ5 := lh (HQ4.out.q hnew)
 have HR05 := lh (hnew.row HR0.out)
 have HR15 := lh (hnew.row HR1.out)
 have HR25 := lh (hnew.row HR2.out)
 have HD5 := lh (HD4.out.quiet hnew)
 have HP5 := lh (HP4.out.quiet hnew)
 have HO5 := lh (HOwn4.out.quiet hnew)
 have HZ5 : Hid (W4.heap.size < (W4.alloc (.cells #[.int .i64 W, .int .i64 H, .slice (some ⟨g, 0, none⟩) F0.pix.length gcap] 27)).heap.size) := lh (by simp)
 clear hnew k0 k1 n1 n2
 generalize hW5 : World.alloc W4 _ = W5 at *
 clear hW5
 go_at_call 33
 refine (show Calls Tryz.prog 33 #[.agg #[.int .i64 3, .slice da l.length dcap]] W5 (HeadOr W5 ⟨3, l⟩) from read_any HD5.out).mono ?_
 rintro e W6 ⟨hq6, hm⟩
 rw [hk] at hm
 obtain ⟨dv2, rfl, hi2⟩ := hm
 obtain ⟨ea, ecap, rfl, -⟩ := hi2.open
 have HI2 := lh hi2
 generalize hel : (l.drop 1).length = el at *
 have Hel := lh hel
 clear hel hi2
 generalize hq0 : l.getD 0 0 = q0 at *
 have Hq0 := lh hq0
 clear hq0
 have HQ6 := lh (HQ5.out.q hq6)
 have HR06 := lh (hq6.row HR05.out)
 have HR16 := lh (hq6.row HR15.out)
 have HR26 := lh (hq6.row HR25.out)
 have HRT6 := lh (hq6.row HRT.out)
 have HP6 := lh (HP5.out.quiet hq6)
 have HO6 := lh (HO5.out.quiet hq6)
 have HZ6 := lh (show w.heap.size + 1 + 1 < W6.heap.size ∧ W4.heap.size < W6.heap.size ∧ g < W6.heap.size by have := hq6.size; have := HZ4.out; have := HZ5.out; have := Hgat.out.2; omega)
 have n1 : ¬ W6.heap.size = w.heap.size + 1 + 1 := by have := HZ6.out; omega
 have n2 : ¬ w.heap.size + 1 + 1 = W6.heap.size := by have := HZ6.out; omega
 have n3 : w.heap.size + 1 + 1 < W6.heap.size := HZ6.out.1
 have n4 : ¬ W6.heap.size = w.heap.size + 1 := by have := HZ6.out; omega
 have n5 : ¬ w.heap.size + 1 = W6.heap.size := by have := HZ6.out; omega
 have n6 : w.heap.size + 1 < W6.heap.size := by have := HZ6.out; omega
 obtain ⟨p0, p1, p2⟩ := frame_cells HR16.out
 clear hq6 hk
 obtain ⟨k0, k1⟩ := row2 HR06.out
 go_wp2_with fail
 have hnew7 := Only.new W6 (.cells #[.int .i64 3, .int .i64 q0, .slice ea el ecap] 77)
 have HQ7 := lh (HQ6.out.q hnew7)
 have HRH : Hid ((W6.alloc (.cells #[.int .i64 3, .int .i64 q0, .slice ea el ecap] 77)).heap[W6.heap.size]? = some (.cells #[.int .i64 3, .int .i64 q0, .slice ea el ecap] 77 (0, 0))) := lh (heap_alloc_new W6 _)
 have HR07 := lh (hnew7.row HR06.out)
 have HR17 := lh (hnew7.row HR16.out)
 have HR27 := lh (hnew7.row HR26.out)
 have HRT7 := lh (hnew7.row HRT6.out)
 have HP7 := lh (HP6.out.quiet hnew7)
 have HO7 := lh (HO6.out.quiet hnew7)
 have HI7 := lh (HI2.out.quiet hnew7)
 have HZ7 : Hid (W6.heap.size < (W6.alloc (.cells #[.int .i64 3, .int .i64 q0, .slice ea el ecap] 77)).heap.size) := lh (by simp)
 exact qDFrA0
theorem frame_flat4 (hd : Ints .u8 lo hi w dv l) (hp : Ints .i64 lo' hi' w pv prev.pix) (hn : newB W H 128 = true) (hk : readB ⟨4, l⟩ = none) :
  Calls Tryz.prog 11 #[.agg #[.int .i64 4, dv], .agg #[.int .i64 prev.W, .int .i64 prev.H, pv], .int .i64 W, .int .i64 H] w (FrameP w (.ok (newF W H 128))) := by
 refine hidQ fun Q HPost => ?_
 obtain ⟨da, dcap, rfl, -⟩ := hd.open
 obtain ⟨pa, pcap, rfl, -⟩ := hp.open
 obtain ⟨hq1, HB0, HB1, HB2, -⟩ := boxes3 w (.cells #[.int .i64 4, .slice da l.length dcap] 24) (.cells #[.int .i64 prev.W, .int .i64 prev.H, .slice pa prev.pix.length pcap] 27) (.cells #[.int .i64 0, .int .i64 0, .slice none 0 0] 27)
 have HQ1 := lh hq1
 have HD := lh (hd.quiet hq1)
 have HPv := lh (hp.quiet hq1)
 have HZ3 : Hid (w.heap.size + 1 + 1 < (((w.alloc (.cells #[.int .i64 4, .slice da l.length dcap] 24)).alloc (.cells #[.int .i64 prev.W, .int .i64 prev.H, .slice pa prev.pix.length pcap] 27)).alloc (.cells #[.int .i64 0, .int .i64 0, .slice none 0 0] 27)).heap.size) := lh (by simp)
 clear hd hp hq1
 go_enter Tryz.func11, Tryz.ntmps11
 go_wp2_with fail
 generalize hW3 : World.alloc (World.alloc (World.alloc w _) _) _ = W3 at *
 clear hW3
 go_at_call 32
 refine (pnewD_any W H 128 W3 hn).mono ?_
 rintro e W4 ⟨g, gcap, rfl, hown, hq4⟩
 have HN := lh hn
 have HF0 := lh (newF_ok hn)
 have HFe : Hid (newF W H 128 = newF W H 128) := lh rfl
 have HFW : Hid ((newF W H 128).W = W ∧ (newF W H 128).H = H) := lh ⟨rfl, rfl⟩
 generalize hF0 : newF W H 128 = F0 at *
 have HFF := lh hF0
 clear hF0 HFe
 have Hgat := lh ((hown.at g rfl))
 have HOwn4 := lh hown
 have HQ4 := lh (HQ1.out.q hq4)
 have HZ4 := lh (Nat.lt_of_lt_of_le HZ3.out hq4.size)
 have b0 := hq4.row HB0.out
 obtain ⟨k0, k1⟩ := row2 b0
 have HR0 := lh b0
 have HR1 := lh (hq4.row HB1.out)
 have HR2 := lh (hq4.row HB2.out)
 have n1 : ¬ W4.heap.size = w.heap.size := by have := HZ4.out; omega
 have n2 : ¬ w.heap.size = W4.heap.size := by have := HZ4.out; omega
 have HD4 := lh (HD.out.quiet hq4)
 have HP4 := lh (HPv.out.quiet hq4)
 clear hq4 hn hown b0
 go_wp2_with fail
 have hnew := Only.new W4 (.cells #[.int .i64 W, .int .i64 H, .slice (some ⟨g, 0, none⟩) F0.pix.length gcap] 27)
 have HRT : Hid ((W4.alloc (.cells #[.int .i64 W, .int .i64 H, .slice (some ⟨g, 0, none⟩) F0.pix.length gcap] 27)).heap[W4.heap.size]? = some (.cells #[.int .i64 W, .int .i64 H, .slice (some ⟨g, 0, none⟩) F0.pix.length gcap] 27 (0, 0))) := lh (heap_alloc_new W4 _)
 have HQ5 := lh (HQ4.out.q hnew)
 have HR05 := lh (hnew.row HR0.out)
 have HR15 := lh (hnew.row HR1.out)
 have HR25 := lh (hnew.row HR2.out)
 have HD5 := lh (HD4.out.quiet hnew)
 have HP5 := lh (HP4.out.quiet hnew)
 have HO5 := lh (HOwn4.out.quiet hnew)
 have HZ5 : Hid (W4.heap.size < (W4.alloc (.cells #[.int .i64 W, .int .i64 H, .slice (some ⟨g, 0, none⟩) F0.pix.length gcap] 27)).heap.size) := lh (by simp)
 clear hnew k0 k1 n1 n2
 generalize hW5 : World.alloc W4 _ = W5 at *
 clear hW5
 go_at_call 33
 refine (show Calls Tryz.prog 33 #[.agg #[.int .i64 4, .slice da l.length dcap]] W5 (HeadOr W5 ⟨4, l⟩) from read_any HD5.out).mono ?_
 rintro e W6 ⟨hq6, hm⟩
 rw [hk] at hm
 obtain ⟨dv2, rfl, hi2⟩ := hm
 obtain ⟨ea, ecap, rfl, -⟩ := hi2.open
 have HI2 := lh hi2
 generalize hel : (l.drop 1).length = el at *
 have Hel := lh hel
 clear hel hi2
 generalize hq0 : l.getD 0 0 = q0 at *
 have Hq0 := lh hq0
 clear hq0
 have HQ6 := lh (HQ5.out.q hq6)
 have HR06 := lh (hq6.row HR05.out)
 have HR16 := lh (hq6.row HR15.out)
 have HR26 := lh (hq6.row HR25.out)
 have HRT6 := lh (hq6.row HRT.out)
 have HP6 := lh (HP5.out.quiet hq6)
 have HO6 := lh (HO5.out.quiet hq6)
 have HZ6 := lh (show w.heap.size + 1 + 1 < W6.heap.size ∧ W4.heap.size < W6.heap.size ∧ g < W6.heap.size by have := hq6.size; have := HZ4.out; have := HZ5.out; have := Hgat.out.2; omega)
 have n1 : ¬ W6.heap.size = w.heap.size + 1 + 1 := by have := HZ6.out; omega
 have n2 : ¬ w.heap.size + 1 + 1 = W6.heap.size := by have := HZ6.out; omega
 have n3 : w.heap.size + 1 + 1 < W6.heap.size := HZ6.out.1
 have n4 : ¬ W6.heap.size = w.heap.size + 1 := by have := HZ6.out; omega
 have n5 : ¬ w.heap.size + 1 = W6.heap.size := by have := HZ6.out; omega
 have n6 : w.heap.size + 1 < W6.heap.size := by have := HZ6.out; omega
 clear hq6 hk
 obtain ⟨t0, t1, t2⟩ := frame_cells HRT6.out
 have n7 : ¬ W6.heap.size = W4.heap.size := by have := HZ6.out; omega
 have n8 : ¬ W4.heap.size = W6.heap.size := by have := HZ6.out; omega
 have n9 : W4.heap.size < W6.heap.size := by have := HZ6.out; omega
 obtain ⟨z0, z1, z2⟩ := frame_cells HR26.out
 have fz0 := frozen_of_row _ _ 0 _ _ HR26.out
 have fz1 := frozen_of_row _ _ 1 _ _ HR26.out
 have fz2 := frozen_of_row _ _ 2 _ _ HR26.out
 obtain ⟨k0, k1⟩ := row2 HR06.out
 go_wp2_with fail
 obtain ⟨hrow, hon⟩ := row3_set (x := (.int .i64 W)) (y := (.int .i64 H)) (z := (.slice (some ⟨g, 0, none⟩) F0.pix.length gcap)) HR26.out
 have hall := HQ6.out.trans hon (U := []) (by simp) (fun g hg hlt => by rw [mSg] at hg; omega)
 have hrow2 := (Only.new _ (.cells #[.int .i64 4, .int .i64 q0, .slice ea el ecap] 77)).row hrow
 have hall2 := hall.q (Only.new _ (.cells #[.int .i64 4, .int .i64 q0, .slice ea el ecap] 77))
 refine bodyPost_ret (v := .tuple #[.agg #[(.int .i64 W), (.int .i64 H), (.slice (some ⟨g, 0, none⟩) F0.pix.length gcap)], .nilIface]) (results_cell_row2 Tryz.results11 _ _ (w.heap.size + 1 + 1) _ _ _ _ _ rfl rfl hrow2 Tryz.underlying27 rfl (by kernel_rfl)) rfl (HPost.out _ _ ⟨hall2, g, gcap, ?_, ?_⟩)
 ·rw [HFW.out.1, HFW.out.2]
 ·have hgn := Hgat.out.1
  have hz := HQ1.out.size
  exact (((HO6.out.only hon (fun x hx => by rw [mSg] at hx; subst hx; simp only [Value.ownBlock]; intro e; injection e with e; have := HZ3.out; omega)).quiet (Only.new _ _)).lower hz)
theorem frame_skip3 (hd : Ints .u8 lo hi w dv l) (hp : Ints .i64 lo' hi' w pv prev.pix) (hn : newB W H 128 = true) (hk : readB ⟨3, l⟩ = none) (hma : matesB prev W H = true) :
  Calls Tryz.prog 11 #[.agg #[.int .i64 3, dv], .agg #[.int .i64 prev.W, .int .i64 prev.H, pv], .int .i64 W, .int .i64 H] w (FrameP w (.ok ⟨W, H, prev.pix⟩)) := by
 refine hidQ fun Q HPost => ?_
 obtain ⟨da, dcap, rfl, -⟩ := hd.open
 obtain ⟨pa, pcap, rfl, -⟩ := hp.open
 obtain ⟨hq1, HB0, HB1, HB2, -⟩ := boxes3 w (.cells #[.int .i64 3, .slice da l.length dcap] 24) (.cells #[.int .i64 prev.W, .int .i64 prev.H, .slice pa prev.pix.length pcap] 27) (.cells #[.int .i64 0, .int .i64 0, .slice none 0 0] 27)
 have HQ1 := lh hq1
 have HD := lh (hd.quiet hq1)
 have HPv := lh (hp.quiet hq1)
 have HZ3 : Hid (w.heap.size + 1 + 1 < (((w.alloc (.cells #[.int .i64 3, .slice da l.length dcap] 24)).alloc (.cells #[.int .i64 prev.W, .int .i64 prev.H, .slice pa prev.pix.length pcap] 27)).alloc (.cells #[.int .i64 0, .int .i64 0, .slice none 0 0] 27)).heap.size) := lh (by simp)
 have HPF : Hid (FrOk prev ∧ prev.W = W ∧ prev.H = H) := lh (by
  unfold matesB at hma
  rw [Bool.and_eq_true, Bool.and_eq_true, mayF_iff, decide_eq_true_iff, decide_eq_true_iff] at hma
  exact ⟨hma.1.1, hma.1.2, hma.2⟩)
 clear hd hp hq1
 go_enter Tryz.func11, Tryz.ntmps11
 go_wp2_with fail
 generalize hW3 : World.alloc (World.alloc (World.alloc w _) _) _ = W3 at *
 clear hW3
 go_at_call 32
 refine (pnewD_any W H 128 W3 hn).mono ?_
 rintro e W4 ⟨g, gcap, rfl, hown, hq4⟩
 have HN := lh hn
 have HF0 := lh (newF_ok hn)
 have HFe : Hid (newF W H 128 = newF W H 128) := lh rfl
 have HFW : Hid ((newF W H 128).W = W ∧ (newF W H 128).H = H) := lh ⟨rfl, rfl⟩
 generalize hF0 : newF W H 128 = F0 at *
 have HFF := lh hF0
 clear hF0 HFe
 have Hgat := lh ((hown.at g rfl))
 have HOwn4 := lh hown
 have HQ4 := lh (HQ1.out.q hq4)
 have HZ4 := lh (Nat.lt_of_lt_of_le HZ3.out hq4.size)
 have b0 := hq4.row HB0.out
 obtain ⟨k0, k1⟩ := row2 b0
 have HR0 := lh b0
 have HR1 := lh (hq4.row HB1.out)
 have HR2 := lh (hq4.row HB2.out)
 have n1 : ¬ W4.heap.size = w.heap.size := by have := HZ4.out; omega
 have n2 : ¬ w.heap.size = W4.heap.size := by have := HZ4.out; omega
 have HD4 := lh (HD.out.quiet hq4)
 have HP4 := lh (HPv.out.quiet hq4)
 clear hq4 hn hown b0
 go_wp2_with fail
 have hnew := Only.new W4 (.cells #[.int .i64 W, .int .i64 H, .slice (some ⟨g, 0, none⟩) F0.pix.length gcap] 27)
 have HRT : Hid ((W4.alloc (.cells #[.int .i64 W, .int .i64 H, .slice (some ⟨g, 0, none⟩) F0.pix.length gcap] 27)).heap[W4.heap.size]? = some (.cells #[.int .i64 W, .int .i64 H, .slice (some ⟨g, 0, none⟩) F0.pix.length gcap] 27 (0, 0))) := lh (heap_alloc_new W4 _)
 have HQ5 := lh (HQ4.out.q hnew)
 have HR05 := lh (hnew.row HR0.out)
 have HR15 := lh (hnew.row HR1.out)
 have HR25 := lh (hnew.row HR2.out)
 have HD5 := lh (HD4.out.quiet hnew)
 have HP5 := lh (HP4.out.quiet hnew)
 have HO5 := lh (HOwn4.out.quiet hnew)
 have HZ5 : Hid (W4.heap.size < (W4.alloc (.cells #[.int .i64 W, .int .i64 H, .slice (some ⟨g, 0, none⟩) F0.pix.length gcap] 27)).heap.size) := lh (by simp)
 clear hnew k0 k1 n1 n2
 generalize hW5 : World.alloc W4 _ = W5 at *
 clear hW5
 go_at_call 33
 refine (show Calls Tryz.prog 33 #[.agg #[.int .i64 3, .slice da l.length dcap]] W5 (HeadOr W5 ⟨3, l⟩) from read_any HD5.out).mono ?_
 rintro e W6 ⟨hq6, hm⟩
 rw [hk] at hm
 obtain ⟨dv2, rfl, hi2⟩ := hm
 obtain ⟨ea, ecap, rfl, -⟩ := hi2.open
 have HI2 := lh hi2
 generalize hel : (l.drop 1).length = el at *
 have Hel := lh hel
 clear hel hi2
 generalize hq0 : l.getD 0 0 = q0 at *
 have Hq0 := lh hq0
 clear hq0
 have HQ6 := lh (HQ5.out.q hq6)
 have HR06 := lh (hq6.row HR05.out)
 have HR16 := lh (hq6.row HR15.out)
 have HR26 := lh (hq6.row HR25.out)
 have HRT6 := lh (hq6.row HRT.out)
 have HP6 := lh (HP5.out.quiet hq6)
 have HO6 := lh (HO5.out.quiet hq6)
 have HZ6 := lh (show w.heap.size + 1 + 1 < W6.heap.size ∧ W4.heap.size < W6.heap.size ∧ g < W6.heap.size by have := hq6.size; have := HZ4.out; have := HZ5.out; have := Hgat.out.2; omega)
 have n1 : ¬ W6.heap.size = w.heap.size + 1 + 1 := by have := HZ6.out; omega
 have n2 : ¬ w.heap.size + 1 + 1 = W6.heap.size := by have := HZ6.out; omega
 have n3 : w.heap.size + 1 + 1 < W6.heap.size := HZ6.out.1
 have n4 : ¬ W6.heap.size = w.heap.size + 1 := by have := HZ6.out; omega
 have n5 : ¬ w.heap.size + 1 = W6.heap.size := by have := HZ6.out; omega
 have n6 : w.heap.size + 1 < W6.heap.size := by have := HZ6.out; omega
 obtain ⟨p0, p1, p2⟩ := frame_cells HR16.out
 clear hq6 hk
 obtain ⟨k0, k1⟩ := row2 HR06.out
 go_wp2_with fail
 have hnew7 := Only.new W6 (.cells #[.int .i64 3, .int .i64 q0, .slice ea el ecap] 77)
 have HQ7 := lh (HQ6.out.q hnew7)
 have HRH : Hid ((W6.alloc (.cells #[.int .i64 3, .int .i64 q0, .slice ea el ecap] 77)).heap[W6.heap.size]? = some (.cells #[.int .i64 3, .int .i64 q0, .slice ea el ecap] 77 (0, 0))) := lh (heap_alloc_new W6 _)
 have HR07 := lh (hnew7.row HR06.out)
 have HR17 := lh (hnew7.row HR16.out)
 have HR27 := lh (hnew7.row HR26.out)
 have HRT7 := lh (hnew7.row HRT6.out)
 have HP7 := lh (HP6.out.quiet hnew7)
 have HO7 := lh (HO6.out.quiet hnew7)
 have HI7 := lh (HI2.out.quiet hnew7)
 have HZ7 : Hid (W6.heap.size < (W6.alloc (.cells #[.int .i64 3, .int .i64 q0, .slice ea el ecap] 77)).heap.size) := lh (by simp)
 clear hnew7
 generalize hW7 : World.alloc W6 _ = W7 at *
 clear hW7
 go_at_call 34
 have hmt := mates_any prev.W prev.H W H HP7.out
 rw [hma] at hmt
 have Hmt := lh hmt
 clear hmt hma p0 p1 p2 k0 k1
 refine Hmt.out.mono ?_
 rintro e W8 ⟨rfl, hq8⟩
 have HQ8 := lh (HQ7.out.q hq8)
 have HR08 := lh (hq8.row HR07.out)
 have HR18 := lh (hq8.row HR17.out)
 have HR28 := lh (hq8.row HR27.out)
 have HRT8 := lh (hq8.row HRT7.out)
 have HRH8 := lh (hq8.row HRH.out)
 have HP8 := lh (HP7.out.quiet hq8)
 have HO8 := lh (HO7.out.quiet hq8)
 have HI8 := lh (HI7.out.quiet hq8)
 have HZ8 := lh (show W6.heap.size < W8.heap.size from Nat.lt_of_lt_of_le HZ7.out hq8.size)
 clear hq8 n1 n2 n3 n4 n5 n6
 have hlen : prev.pix.length = F0.pix.length := by
  have e1 := HPF.out.1.len
  have e2 := HF0.out.len
  rw [HPF.out.2.1, HPF.out.2.2] at e1
  rw [HFW.out.1, HFW.out.2] at e2
  omega
 have hpos : 0 < prev.pix.length := by
  have e1 := HPF.out.1.len
  have h1 := HPF.out.1.w0
  have h2 := HPF.out.1.h0
  have : 8 * 8 ≤ prev.W * prev.H := Int.mul_le_mul h1 h2 (by omega) (by omega)
  omega
 obtain ⟨a', cap', hv, hpc, -, hpat, hpcell⟩ := HP8.out.open
 injection hv with e1 e2 e3
 subst e1; subst e3
 obtain ⟨pb, poff, rfl, -, -⟩ := hpat 0 hpos
 obtain ⟨cur, hcur, hfit, hown', honly⟩ := HO8.out.splice rfl (m := prev.pix) HP8.out.2 (off := 0) (by omega)
 rw [show rowD F0.pix 0 prev.pix = prev.pix by unfold rowD; rw [List.take_zero, List.nil_append, List.drop_eq_nil_of_le (by omega), List.append_nil]] at hown'
 have hsrc : ∀ j v, (prev.pix.map (Value.int .i64))[j]? = some v → W8.cell? ((⟨pb, poff, none⟩ : Addr).add j) = some v := fun j v hj => by
  obtain ⟨hi, rfl⟩ := intsAt hj
  rw [Addr.add_lit]
  exact hpcell pb poff rfl j hi
 have HCp := lh (And.intro hcur (And.intro hfit hsrc))
 have HOw := lh hown'
 have HOn := lh honly
 have hgn := Hgat.out.1
 have hz3 := HZ3.out
 have hz4 := HZ4.out
 have hz6 := HZ6.out
 have s0 := honly.rowAt HR28.out (by rw [mSg]; omega)
 have s1 := honly.rowAt HRT8.out (by rw [mSg]; have := Hgat.out.2; omega)
 have HS0 := lh s0
 have HS1 := lh s1
 have Hlen := lh hlen
 have Hpos := lh hpos
 obtain ⟨t0, t1, t2⟩ := frame_cells HRT8.out
 obtain ⟨p0, p1, p2⟩ := frame_cells HR18.out
 obtain ⟨k0, k1⟩ := row2 HR08.out
 clear hcur hfit hsrc hown' honly hpat hpcell hpc hgn hz3 hz4 hz6 s0 s1 hlen hpos
 obtain ⟨CS, hCS⟩ : ∃ CS, CS = prev.pix.map (Value.int .i64) := ⟨_, rfl⟩
 rw [← hCS] at HCp HOw HOn HS0 HS1
 have HCl : Hid (CS.length = prev.pix.length) := lh (by rw [hCS, List.length_map])
 have HC1 : Hid (∀ v ∈ CS, v.oneCell' = true) := lh (by rw [hCS]; exact ints_one)
 clear hCS
 obtain ⟨W9, hW9⟩ : ∃ W9, W9 = W8.setRow g (Go.splice cur 0 CS).toArray := ⟨_, rfl⟩
 rw [← hW9] at HOw HOn HS0 HS1
 have HW9 : Hid (W8.setRow g (cur.toArray.toList.take 0 ++ (CS ++ cur.toArray.toList.drop (0 + CS.length))).toArray = W9) := lh (by rw [hW9]; rfl)
 clear hW9
 obtain ⟨u0, u1, u2⟩ := frame_cells HS1.out
 obtain ⟨z0, z1, z2⟩ := frame_cells HS0.out
 have fz0 := frozen_of_row _ _ 0 _ _ HS0.out
 have fz1 := frozen_of_row _ _ 1 _ _ HS0.out
 have fz2 := frozen_of_row _ _ 2 _ _ HS0.out
 go_wp2_with (first | (refine wpList_copy_own rfl (.tmp 65) (.tmp 67) 25 25 rfl 3 EI.ut (by kernel_rfl) g 0 F0.pix.length gcap ⟨pb, poff, none⟩ prev.pix.length pcap rfl rfl cur.toArray _ HCp.out.1 CS (by rw [HCl.out]; have := Hlen.out; show _ = min _ _; omega) HCp.out.2.2 (by rw [HCl.out]; have := HCp.out.2.1; simpa using this) HC1.out ?_; rw [HW9.out]) | fail)
 have hallq : Only [] w W9 := HQ8.out.trans HOn.out (by simp) (fun x hx hlt => by rw [mSg] at hx; have := Hgat.out.1; have := HQ1.out.size; omega)
 obtain ⟨hrow, hon⟩ := row3_set (x := (.int .i64 W)) (y := (.int .i64 H)) (z := (.slice (some ⟨g, 0, none⟩) F0.pix.length gcap)) HS0.out
 have hall := hallq.trans hon (U := []) (by simp) (fun g hg hlt => by rw [mSg] at hg; omega)
 have hrow2 := hrow
 have hall2 := hall
 refine bodyPost_ret (v := .tuple #[.agg #[(.int .i64 W), (.int .i64 H), (.slice (some ⟨g, 0, none⟩) F0.pix.length gcap)], .nilIface]) (results_cell_row2 Tryz.results11 _ _ (w.heap.size + 1 + 1) _ _ _ _ _ rfl rfl hrow2 Tryz.underlying27 rfl (by kernel_rfl)) rfl (HPost.out _ _ ⟨hall2, g, gcap, ?_, ?_⟩)
 ·rw [Hlen.out]
 ·have hgn := Hgat.out.1
  have hz := HQ1.out.size
  have ho := (HOw.out.only hon (fun x hx => by rw [mSg] at hx; subst hx; simp only [Value.ownBlock]; intro e; injection e with e; have := HZ3.out; omega)).lower hz
  show Own _ _ _ _ (.slice _ prev.pix.length _) prev.pix
  rw [Hlen.out]
  exact ho
end
end Go.Proofs.YthgpgbdkcdmbpaaGreatDoor
