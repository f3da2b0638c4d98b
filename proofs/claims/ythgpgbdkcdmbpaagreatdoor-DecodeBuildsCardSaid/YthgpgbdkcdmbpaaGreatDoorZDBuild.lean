/- decode.Build: of any square at any place of any frame, beside any other one. Conditions: the arguments read; the square's lists are not too long. -/
import Derived.Test.YthgpgbdkcdmbpaaGreatDoorZDSqK
import Derived.Test.YthgpgbdkcdmbpaaGreatDoorZDFrA
namespace Go.Proofs.YthgpgbdkcdmbpaaGreatDoor
open Go.RowKit
set_option linter.unusedVariables false
set_option linter.unusedSimpArgs false
/-- what a square that is asked builds, or what is wrong -/
def buildD (f prev : FrameD) (x y qp k mo : Int) (ms : List Int) (vx vy : Int) (L : List Int) (S : List (List Int)) : Except Int FrameD :=
 if mayF f = false then .error 2
 else if ¬ (x.tmod 8 = 0 ∧ y.tmod 8 = 0 ∧ liesD f.W f.H x y 8 = true ∧ 0 ≤ qp ∧ qp ≤ 15) then .error 3
 else if ¬ (0 ≤ k ∧ k ≤ 3) then .error 13
 else if k ≤ 1 ∧ matesB prev f.W f.H = false then .error 12
 else match partsC (formD k mo ms vx vy) (wideD k) (listsD k L S) with
  | some c => .error c
  | none => .ok (laySq f prev x y qp ⟨k.toNat, mo.toNat, ms, vx, vy, L, S⟩)
/-- what a frame that is built is handed back as -/
def BuildP (w : World) (r : Except Int FrameD) (e : Ending) (w' : World) : Prop :=
 Only [] w w' ∧ match r with
  | .ok f => ∃ g cap, e = .returned (.tuple #[.agg #[.int .i64 f.W, .int .i64 f.H, .slice (some ⟨g, 0, none⟩) f.pix.length cap], .nilIface]) ∧ Own .i64 3 w.heap.size w' (.slice (some ⟨g, 0, none⟩) f.pix.length cap) f.pix
  | .error c => e = .returned (.tuple #[.agg #[.int .i64 0, .int .i64 0, .slice none 0 0], .iface 37 (.int .i64 c)])
theorem mode_nonneg {mo : Int} {ms : List Int} {vx vy : Int} {n : Int} {ls : List (List Int)} (h : partsC (formD 2 mo ms vx vy) n ls = none) : mo = ((mo.toNat : Nat) : Int) ∧ mo ≤ 3 := by
 have hfd : formD 2 mo ms vx vy = true := by
  cases hfd : formD 2 mo ms vx vy with
  | true => rfl
  | false => rw [hfd] at h; simp [partsC] at h
 have : 0 ≤ mo ∧ mo ≤ 3 := by simpa [formD] using hfd
 omega
theorem lies_iff {W H x y n : Int} (h : liesD W H x y n = true) : 0 ≤ x ∧ x + n ≤ W ∧ 0 ≤ y ∧ y + n ≤ H := by
 have := of_decide_eq_true h
 omega
section
set_option maxRecDepth 100000
set_option maxHeartbeats 4000000
variable {lo1 hi1 lo2 hi2 lo hi : Nat} {fv pv lv : Value} {vs : List Value} {w : World} {f prev : FrameD} {x y qp k mo vx vy : Int} {ms L : List Int} {S : List (List Int)}
theorem build_form (hf : Ints .i64 lo1 hi1 w fv f.pix) (hp : Ints .i64 lo2 hi2 w pv prev.pix) (h : SqIn lo hi w lv vs L S) (hm : ms.length = 4) (hmay : mayF f = false) :
  Calls Tryz.prog 27 #[.agg #[.int .i64 f.W, .int .i64 f.H, fv], .agg #[.int .i64 prev.W, .int .i64 prev.H, pv], .int .i64 x, .int .i64 y, .int .i64 qp, .agg (sqL k mo ms vx vy lv vs).toArray] w (BuildP w (.error 2)) := by
 refine hidQ fun Q HPost => ?_
 obtain ⟨fa, fcap, rfl, -⟩ := hf.open
 obtain ⟨pa, pcap, rfl, -⟩ := hp.open
 have hkc : (sqL k mo ms vx vy lv vs).toArray[0]? = some (.int .i64 k) := sqL_kind
 have hinf : (Tryz.prog.info? 64).map (·.size) = some (sqL k mo ms vx vy lv vs).toArray.size := sqL_info hm h.len
 generalize hsa : (sqL k mo ms vx vy lv vs).toArray = sa at *
 have Hinf := Lib.hid hinf
 obtain ⟨hq1, HB0, HB1, HB2, HB3, -⟩ := boxes4 w (.cells #[.int .i64 f.W, .int .i64 f.H, .slice fa f.pix.length fcap] 27) (.cells #[.int .i64 prev.W, .int .i64 prev.H, .slice pa prev.pix.length pcap] 27) (.cells sa 64) (.cells #[.int .i64 0, .int .i64 0, .slice none 0 0] 27)
 have Hkc := Lib.hid hkc
 have HQ4 := Lib.hid hq1
 have HF := Lib.hid (hf.quiet hq1)
 have HP := Lib.hid (hp.quiet hq1)
 have HZ4 : Hid (w.heap.size + 1 + 1 + 1 < ((((w.alloc (.cells #[.int .i64 f.W, .int .i64 f.H, .slice fa f.pix.length fcap] 27)).alloc (.cells #[.int .i64 prev.W, .int .i64 prev.H, .slice pa prev.pix.length pcap] 27)).alloc (.cells sa 64)).alloc (.cells #[.int .i64 0, .int .i64 0, .slice none 0 0] 27)).heap.size) := Lib.hid (by simp)
 obtain ⟨p0, p1, p2⟩ := frame_cells HB0.out
 clear hf hp h hq1 hkc hinf hsa hm
 go_enter Tryz.func27, Tryz.ntmps27
 go_wp2_with fail
 generalize hW4 : World.alloc (World.alloc (World.alloc (World.alloc w _) _) _) _ = W4 at *
 clear hW4 p0 p1 p2
 go_at_call 12
 have hmy := pmay_any f.W f.H HF.out
 rw [show mayF ⟨f.W, f.H, f.pix⟩ = false from hmay] at hmy
 have Hmy := Lib.hid hmy
 clear hmy hmay
 refine Hmy.out.mono ?_
 rintro e W5 ⟨rfl, hq5⟩
 have HB04 := HB0
 have HB14 := HB1
 have HB24 := HB2
 have HB34 := HB3
 have HF4 := HF
 have HP4 := HP
 have HB05 := Lib.hid (hq5.row HB04.out)
 have HB15 := Lib.hid (hq5.row HB14.out)
 have HB25 := Lib.hid (hq5.row HB24.out)
 have HB35 := Lib.hid (hq5.row HB34.out)
 have HQ5 := Lib.hid (HQ4.out.q hq5)
 have HF5 := Lib.hid (HF4.out.quiet hq5)
 have HP5 := Lib.hid (HP4.out.quiet hq5)
 have HZ5 := Lib.hid (Nat.lt_of_lt_of_le HZ4.out hq5.size)
 clear hq5
 obtain ⟨p0, p1, p2⟩ := frame_cells HB05.out
 obtain ⟨z0, z1, z2⟩ := frame_cells HB35.out
 have fz0 := frozen_of_row _ _ 0 _ _ HB35.out
 have fz1 := frozen_of_row _ _ 1 _ _ HB35.out
 have fz2 := frozen_of_row _ _ 2 _ _ HB35.out
 go_wp2_with fail
 obtain ⟨hrow, hon⟩ := row3_set (x := (.int .i64 0)) (y := (.int .i64 0)) (z := (.slice none 0 0)) HB35.out
 have hall := HQ5.out.trans hon (U := []) (by simp) (fun g hg hlt => by rw [List.mem_singleton] at hg; omega)
 exact bodyPost_ret (v := .tuple #[.agg #[.int .i64 0, .int .i64 0, .slice none 0 0], .iface 37 (.int .i64 2)]) (results_cell_row2 Tryz.results27 _ _ (w.heap.size + 1 + 1 + 1) _ _ _ _ _ rfl rfl hrow Tryz.underlying27 rfl (by kernel_rfl)) rfl (HPost.out _ _ ⟨hall, rfl⟩)
theorem qDBuild6 {p : Prop} (h : p := by
 exact bodyPost_ret (v := .tuple #[.agg #[.int .i64 0, .int .i64 0, .slice none 0 0], .iface 37 (.int .i64 3)]) (results_cell_row2 Tryz.results27 _ _ (w.heap.size + 1 + 1 + 1) _ _ _ _ _ rfl rfl hrow Tryz.underlying27 rfl (by kernel_rfl)) rfl (HPost.out _ _ ⟨hall, rfl⟩)) : p := h
theorem qDBuild2 {p : Prop} (h : p := by
 refine hidQ fun Q HPost => ?_
 obtain ⟨fa, fcap, rfl, -⟩ := hf.open
 obtain ⟨pa, pcap, rfl, -⟩ := hp.open
 have hkc : (sqL k mo ms vx vy lv vs).toArray[0]? = some (.int .i64 k) := sqL_kind
 have hinf : (Tryz.prog.info? 64).map (·.size) = some (sqL k mo ms vx vy lv vs).toArray.size := sqL_info hm h.len
 generalize hsa : (sqL k mo ms vx vy lv vs).toArray = sa at *
 have Hinf := Lib.hid hinf
 obtain ⟨hq1, HB0, HB1, HB2, HB3, -⟩ := boxes4 w (.cells #[.int .i64 f.W, .int .i64 f.H, .slice fa f.pix.length fcap] 27) (.cells #[.int .i64 prev.W, .int .i64 prev.H, .slice pa prev.pix.length pcap] 27) (.cells sa 64) (.cells #[.int .i64 0, .int .i64 0, .slice none 0 0] 27)
 have Hkc := Lib.hid hkc
 have HQ4 := Lib.hid hq1
 have HF := Lib.hid (hf.quiet hq1)
 have HP := Lib.hid (hp.quiet hq1)
 have HZ4 : Hid (w.heap.size + 1 + 1 + 1 < ((((w.alloc (.cells #[.int .i64 f.W, .int .i64 f.H, .slice fa f.pix.length fcap] 27)).alloc (.cells #[.int .i64 prev.W, .int .i64 prev.H, .slice pa prev.pix.length pcap] 27)).alloc (.cells sa 64)).alloc (.cells #[.int .i64 0, .int .i64 0, .slice none 0 0] 27)).heap.size) := Lib.hid (by simp)
 obtain ⟨p0, p1, p2⟩ := frame_cells HB0.out
 clear hf hp h hq1 hkc hinf hsa hm
 go_enter Tryz.func27, Tryz.ntmps27
 go_wp2_with fail
 generalize hW4 : World.alloc (World.alloc (World.alloc (World.alloc w _) _) _) _ = W4 at *
 clear hW4 p0 p1 p2
 go_at_call 12
 have hmy := pmay_any f.W f.H HF.out
 rw [show mayF ⟨f.W, f.H, f.pix⟩ = true from hmay] at hmy
 have Hmy := Lib.hid hmy
 clear hmy hmay
 refine Hmy.out.mono ?_
 rintro e W5 ⟨rfl, hq5⟩
 have HB04 := HB0
 have HB14 := HB1
 have HB24 := HB2
 have HB34 := HB3
 have HF4 := HF
 have HP4 := HP
 have HB05 := Lib.hid (hq5.row HB04.out)
 have HB15 := Lib.hid (hq5.row HB14.out)
 have HB25 := Lib.hid (hq5.row HB24.out)
 have HB35 := Lib.hid (hq5.row HB34.out)
 have HQ5 := Lib.hid (HQ4.out.q hq5)
 have HF5 := Lib.hid (HF4.out.quiet hq5)
 have HP5 := Lib.hid (HP4.out.quiet hq5)
 have HZ5 := Lib.hid (Nat.lt_of_lt_of_le HZ4.out hq5.size)
 clear hq5
 obtain ⟨p0, p1, p2⟩ := frame_cells HB05.out
 obtain ⟨z0, z1, z2⟩ := frame_cells HB35.out
 have fz0 := frozen_of_row _ _ 0 _ _ HB35.out
 have fz1 := frozen_of_row _ _ 1 _ _ HB35.out
 have fz2 := frozen_of_row _ _ 2 _ _ HB35.out
 go_wp2_with fail
 obtain ⟨hrow, hon⟩ := row3_set (x := (.int .i64 0)) (y := (.int .i64 0)) (z := (.slice none 0 0)) HB35.out
 have hall := HQ5.out.trans hon (U := []) (by simp) (fun g hg hlt => by rw [List.mem_singleton] at hg; omega)
 exact qDBuild6) : p := h
theorem build_x (hf : Ints .i64 lo1 hi1 w fv f.pix) (hp : Ints .i64 lo2 hi2 w pv prev.pix) (h : SqIn lo hi w lv vs L S) (hm : ms.length = 4) (hmay : mayF f = true) (hx8 : ¬ x.tmod 8 = 0) :
  Calls Tryz.prog 27 #[.agg #[.int .i64 f.W, .int .i64 f.H, fv], .agg #[.int .i64 prev.W, .int .i64 prev.H, pv], .int .i64 x, .int .i64 y, .int .i64 qp, .agg (sqL k mo ms vx vy lv vs).toArray] w (BuildP w (.error 3)) := by
 exact qDBuild2
theorem build_y (hf : Ints .i64 lo1 hi1 w fv f.pix) (hp : Ints .i64 lo2 hi2 w pv prev.pix) (h : SqIn lo hi w lv vs L S) (hm : ms.length = 4) (hmay : mayF f = true) (hx8 : x.tmod 8 = 0) (hy8 : ¬ y.tmod 8 = 0) :
  Calls Tryz.prog 27 #[.agg #[.int .i64 f.W, .int .i64 f.H, fv], .agg #[.int .i64 prev.W, .int .i64 prev.H, pv], .int .i64 x, .int .i64 y, .int .i64 qp, .agg (sqL k mo ms vx vy lv vs).toArray] w (BuildP w (.error 3)) := by
 exact qDBuild2
theorem qDBuild0 {p : Prop} (h : p := by
 refine hidQ fun Q HPost => ?_
 obtain ⟨fa, fcap, rfl, -⟩ := hf.open
 obtain ⟨pa, pcap, rfl, -⟩ := hp.open
 have hkc : (sqL k mo ms vx vy lv vs).toArray[0]? = some (.int .i64 k) := sqL_kind
 have hinf : (Tryz.prog.info? 64).map (·.size) = some (sqL k mo ms vx vy lv vs).toArray.size := sqL_info hm h.len
 have hfo : FrOk f := mayF_iff.1 hmay
 have Hfo := Lib.hid hfo
 clear hfo
 generalize hsa : (sqL k mo ms vx vy lv vs).toArray = sa at *
 have Hinf := Lib.hid hinf
 obtain ⟨hq1, HB0, HB1, HB2, HB3, -⟩ := boxes4 w (.cells #[.int .i64 f.W, .int .i64 f.H, .slice fa f.pix.length fcap] 27) (.cells #[.int .i64 prev.W, .int .i64 prev.H, .slice pa prev.pix.length pcap] 27) (.cells sa 64) (.cells #[.int .i64 0, .int .i64 0, .slice none 0 0] 27)
 have Hkc := Lib.hid hkc
 have HQ4 := Lib.hid hq1
 have HF := Lib.hid (hf.quiet hq1)
 have HP := Lib.hid (hp.quiet hq1)
 have HZ4 : Hid (w.heap.size + 1 + 1 + 1 < ((((w.alloc (.cells #[.int .i64 f.W, .int .i64 f.H, .slice fa f.pix.length fcap] 27)).alloc (.cells #[.int .i64 prev.W, .int .i64 prev.H, .slice pa prev.pix.length pcap] 27)).alloc (.cells sa 64)).alloc (.cells #[.int .i64 0, .int .i64 0, .slice none 0 0] 27)).heap.size) := Lib.hid (by simp)
 obtain ⟨p0, p1, p2⟩ := frame_cells HB0.out
 clear hf hp h hq1 hkc hinf hsa hm
 go_enter Tryz.func27, Tryz.ntmps27
 go_wp2_with fail
 generalize hW4 : World.alloc (World.alloc (World.alloc (World.alloc w _) _) _) _ = W4 at *
 clear hW4 p0 p1 p2
 go_at_call 12
 have hmy := pmay_any f.W f.H HF.out
 rw [show mayF ⟨f.W, f.H, f.pix⟩ = true from hmay] at hmy
 have Hmy := Lib.hid hmy
 clear hmy hmay
 refine Hmy.out.mono ?_
 rintro e W5 ⟨rfl, hq5⟩
 have HB04 := HB0
 have HB14 := HB1
 have HB24 := HB2
 have HB34 := HB3
 have HF4 := HF
 have HP4 := HP
 have HB05 := Lib.hid (hq5.row HB04.out)
 have HB15 := Lib.hid (hq5.row HB14.out)
 have HB25 := Lib.hid (hq5.row HB24.out)
 have HB35 := Lib.hid (hq5.row HB34.out)
 have HQ5 := Lib.hid (HQ4.out.q hq5)
 have HF5 := Lib.hid (HF4.out.quiet hq5)
 have HP5 := Lib.hid (HP4.out.quiet hq5)
 have HZ5 := Lib.hid (Nat.lt_of_lt_of_le HZ4.out hq5.size)
 clear hq5
 obtain ⟨p0, p1, p2⟩ := frame_cells HB05.out
 go_wp2_with fail
 go_at_call 55
 have hin := pin_any f.W f.H x y 8 (.slice fa f.pix.length fcap) W5 ⟨Hfo.out.w0, Hfo.out.w1⟩ ⟨Hfo.out.h0, Hfo.out.h1⟩ ⟨by omega, by omega⟩
 rw [hli] at hin
 have Hin := Lib.hid hin
 clear hin hli p0 p1 p2
 refine Hin.out.mono ?_
 rintro e W6 ⟨rfl, hq6⟩
 have HB06 := Lib.hid (hq6.row HB05.out)
 have HB16 := Lib.hid (hq6.row HB15.out)
 have HB26 := Lib.hid (hq6.row HB25.out)
 have HB36 := Lib.hid (hq6.row HB35.out)
 have HQ6 := Lib.hid (HQ5.out.q hq6)
 have HF6 := Lib.hid (HF5.out.quiet hq6)
 have HP6 := Lib.hid (HP5.out.quiet hq6)
 have HZ6 := Lib.hid (Nat.lt_of_lt_of_le HZ5.out hq6.size)
 clear hq6
 obtain ⟨p0, p1, p2⟩ := frame_cells HB06.out
 obtain ⟨z0, z1, z2⟩ := frame_cells HB36.out
 have fz0 := frozen_of_row _ _ 0 _ _ HB36.out
 have fz1 := frozen_of_row _ _ 1 _ _ HB36.out
 have fz2 := frozen_of_row _ _ 2 _ _ HB36.out
 go_wp2_with fail
 obtain ⟨hrow, hon⟩ := row3_set (x := (.int .i64 0)) (y := (.int .i64 0)) (z := (.slice none 0 0)) HB36.out
 have hall := HQ6.out.trans hon (U := []) (by simp) (fun g hg hlt => by rw [List.mem_singleton] at hg; omega)
 exact qDBuild6) : p := h
theorem build_out (hf : Ints .i64 lo1 hi1 w fv f.pix) (hp : Ints .i64 lo2 hi2 w pv prev.pix) (h : SqIn lo hi w lv vs L S) (hm : ms.length = 4) (hmay : mayF f = true) (hx8 : x.tmod 8 = 0) (hy8 : y.tmod 8 = 0) (hli : liesD f.W f.H x y 8 = false) :
  Calls Tryz.prog 27 #[.agg #[.int .i64 f.W, .int .i64 f.H, fv], .agg #[.int .i64 prev.W, .int .i64 prev.H, pv], .int .i64 x, .int .i64 y, .int .i64 qp, .agg (sqL k mo ms vx vy lv vs).toArray] w (BuildP w (.error 3)) := by
 exact qDBuild0
theorem build_qn (hf : Ints .i64 lo1 hi1 w fv f.pix) (hp : Ints .i64 lo2 hi2 w pv prev.pix) (h : SqIn lo hi w lv vs L S) (hm : ms.length = 4) (hmay : mayF f = true) (hx8 : x.tmod 8 = 0) (hy8 : y.tmod 8 = 0) (hli : liesD f.W f.H x y 8 = true) (hqn : qp < 0) :
  Calls Tryz.prog 27 #[.agg #[.int .i64 f.W, .int .i64 f.H, fv], .agg #[.int .i64 prev.W, .int .i64 prev.H, pv], .int .i64 x, .int .i64 y, .int .i64 qp, .agg (sqL k mo ms vx vy lv vs).toArray] w (BuildP w (.error 3)) := by
 exact qDBuild0
theorem build_qg (hf : Ints .i64 lo1 hi1 w fv f.pix) (hp : Ints .i64 lo2 hi2 w pv prev.pix) (h : SqIn lo hi w lv vs L S) (hm : ms.length = 4) (hmay : mayF f = true) (hx8 : x.tmod 8 = 0) (hy8 : y.tmod 8 = 0) (hli : liesD f.W f.H x y 8 = true) (hq0 : ¬ qp < 0) (hqg : 15 < qp) :
  Calls Tryz.prog 27 #[.agg #[.int .i64 f.W, .int .i64 f.H, fv], .agg #[.int .i64 prev.W, .int .i64 prev.H, pv], .int .i64 x, .int .i64 y, .int .i64 qp, .agg (sqL k mo ms vx vy lv vs).toArray] w (BuildP w (.error 3)) := by
 exact qDBuild0
theorem qDBuild1 {p : Prop} (h : p := by
 refine hidQ fun Q HPost => ?_
 obtain ⟨fa, fcap, rfl, -⟩ := hf.open
 obtain ⟨pa, pcap, rfl, -⟩ := hp.open
 have hkc : (sqL k mo ms vx vy lv vs).toArray[0]? = some (.int .i64 k) := sqL_kind
 have hinf : (Tryz.prog.info? 64).map (·.size) = some (sqL k mo ms vx vy lv vs).toArray.size := sqL_info hm h.len
 have hfo : FrOk f := mayF_iff.1 hmay
 have Hfo := Lib.hid hfo
 clear hfo
 generalize hsa : (sqL k mo ms vx vy lv vs).toArray = sa at *
 have Hinf := Lib.hid hinf
 obtain ⟨hq1, HB0, HB1, HB2, HB3, -⟩ := boxes4 w (.cells #[.int .i64 f.W, .int .i64 f.H, .slice fa f.pix.length fcap] 27) (.cells #[.int .i64 prev.W, .int .i64 prev.H, .slice pa prev.pix.length pcap] 27) (.cells sa 64) (.cells #[.int .i64 0, .int .i64 0, .slice none 0 0] 27)
 have Hkc := Lib.hid hkc
 have HQ4 := Lib.hid hq1
 have HF := Lib.hid (hf.quiet hq1)
 have HP := Lib.hid (hp.quiet hq1)
 have HZ4 : Hid (w.heap.size + 1 + 1 + 1 < ((((w.alloc (.cells #[.int .i64 f.W, .int .i64 f.H, .slice fa f.pix.length fcap] 27)).alloc (.cells #[.int .i64 prev.W, .int .i64 prev.H, .slice pa prev.pix.length pcap] 27)).alloc (.cells sa 64)).alloc (.cells #[.int .i64 0, .int .i64 0, .slice none 0 0] 27)).heap.size) := Lib.hid (by simp)
 obtain ⟨p0, p1, p2⟩ := frame_cells HB0.out
 clear hf hp h hq1 hkc hinf hsa hm
 go_enter Tryz.func27, Tryz.ntmps27
 go_wp2_with fail
 generalize hW4 : World.alloc (World.alloc (World.alloc (World.alloc w _) _) _) _ = W4 at *
 clear hW4 p0 p1 p2
 go_at_call 12
 have hmy := pmay_any f.W f.H HF.out
 rw [show mayF ⟨f.W, f.H, f.pix⟩ = true from hmay] at hmy
 have Hmy := Lib.hid hmy
 clear hmy hmay
 refine Hmy.out.mono ?_
 rintro e W5 ⟨rfl, hq5⟩
 have HB04 := HB0
 have HB14 := HB1
 have HB24 := HB2
 have HB34 := HB3
 have HF4 := HF
 have HP4 := HP
 have HB05 := Lib.hid (hq5.row HB04.out)
 have HB15 := Lib.hid (hq5.row HB14.out)
 have HB25 := Lib.hid (hq5.row HB24.out)
 have HB35 := Lib.hid (hq5.row HB34.out)
 have HQ5 := Lib.hid (HQ4.out.q hq5)
 have HF5 := Lib.hid (HF4.out.quiet hq5)
 have HP5 := Lib.hid (HP4.out.quiet hq5)
 have HZ5 := Lib.hid (Nat.lt_of_lt_of_le HZ4.out hq5.size)
 clear hq5
 obtain ⟨p0, p1, p2⟩ := frame_cells HB05.out
 go_wp2_with fail
 go_at_call 55
 have hin := pin_any f.W f.H x y 8 (.slice fa f.pix.length fcap) W5 ⟨Hfo.out.w0, Hfo.out.w1⟩ ⟨Hfo.out.h0, Hfo.out.h1⟩ ⟨by omega, by omega⟩
 rw [hli] at hin
 have Hin := Lib.hid hin
 clear hin hli p0 p1 p2
 refine Hin.out.mono ?_
 rintro e W6 ⟨rfl, hq6⟩
 have HB06 := Lib.hid (hq6.row HB05.out)
 have HB16 := Lib.hid (hq6.row HB15.out)
 have HB26 := Lib.hid (hq6.row HB25.out)
 have HB36 := Lib.hid (hq6.row HB35.out)
 have HQ6 := Lib.hid (HQ5.out.q hq6)
 have HF6 := Lib.hid (HF5.out.quiet hq6)
 have HP6 := Lib.hid (HP5.out.quiet hq6)
 have HZ6 := Lib.hid (Nat.lt_of_lt_of_le HZ5.out hq6.size)
 clear hq6
 obtain ⟨p0, p1, p2⟩ := frame_cells HB06.out
 have c0 : W6.cell? ⟨w.heap.size + 1 + 1, 0, none⟩ = some (.int .i64 k) := by rw [cell_of_row _ _ _ _ _ _ HB26.out]; exact Hkc.out
 obtain ⟨z0, z1, z2⟩ := frame_cells HB36.out
 have fz0 := frozen_of_row _ _ 0 _ _ HB36.out
 have fz1 := frozen_of_row _ _ 1 _ _ HB36.out
 have fz2 := frozen_of_row _ _ 2 _ _ HB36.out
 go_wp2_with fail
 obtain ⟨hrow, hon⟩ := row3_set (x := (.int .i64 0)) (y := (.int .i64 0)) (z := (.slice none 0 0)) HB36.out
 have hall := HQ6.out.trans hon (U := []) (by simp) (fun g hg hlt => by rw [List.mem_singleton] at hg; omega)
 exact bodyPost_ret (v := .tuple #[.agg #[.int .i64 0, .int .i64 0, .slice none 0 0], .iface 37 (.int .i64 13)]) (results_cell_row2 Tryz.results27 _ _ (w.heap.size + 1 + 1 + 1) _ _ _ _ _ rfl rfl hrow Tryz.underlying27 rfl (by kernel_rfl)) rfl (HPost.out _ _ ⟨hall, rfl⟩)) : p := h
theorem build_kn (hf : Ints .i64 lo1 hi1 w fv f.pix) (hp : Ints .i64 lo2 hi2 w pv prev.pix) (h : SqIn lo hi w lv vs L S) (hm : ms.length = 4) (hmay : mayF f = true) (hx8 : x.tmod 8 = 0) (hy8 : y.tmod 8 = 0) (hli : liesD f.W f.H x y 8 = true) (hq0 : ¬ qp < 0) (hqm : ¬ 15 < qp) (hkn : k < 0) :
  Calls Tryz.prog 27 #[.agg #[.int .i64 f.W, .int .i64 f.H, fv], .agg #[.int .i64 prev.W, .int .i64 prev.H, pv], .int .i64 x, .int .i64 y, .int .i64 qp, .agg (sqL k mo ms vx vy lv vs).toArray] w (BuildP w (.error 13)) := by
 exact qDBuild1
theorem build_kg (hf : Ints .i64 lo1 hi1 w fv f.pix) (hp : Ints .i64 lo2 hi2 w pv prev.pix) (h : SqIn lo hi w lv vs L S) (hm : ms.length = 4) (hmay : mayF f = true) (hx8 : x.tmod 8 = 0) (hy8 : y.tmod 8 = 0) (hli : liesD f.W f.H x y 8 = true) (hq0 : ¬ qp < 0) (hqm : ¬ 15 < qp) (hk0 : ¬ k < 0) (hkg : 3 < k) :
  Calls Tryz.prog 27 #[.agg #[.int .i64 f.W, .int .i64 f.H, fv], .agg #[.int .i64 prev.W, .int .i64 prev.H, pv], .int .i64 x, .int .i64 y, .int .i64 qp, .agg (sqL k mo ms vx vy lv vs).toArray] w (BuildP w (.error 13)) := by
 exact qDBuild1
theorem build_mates (hf : Ints .i64 lo1 hi1 w fv f.pix) (hp : Ints .i64 lo2 hi2 w pv prev.pix) (h : SqIn lo hi w lv vs L S) (hm : ms.length = 4) (hmay : mayF f = true) (hx8 : x.tmod 8 = 0) (hy8 : y.tmod 8 = 0) (hli : liesD f.W f.H x y 8 = true) (hq0 : ¬ qp < 0) (hqm : ¬ 15 < qp) (hk0 : ¬ k < 0) (hk3 : ¬ 3 < k) (hk1 : k ≤ 1) (hma : matesB prev f.W f.H = false) :
  Calls Tryz.prog 27 #[.agg #[.int .i64 f.W, .int .i64 f.H, fv], .agg #[.int .i64 prev.W, .int .i64 prev.H, pv], .int .i64 x, .int .i64 y, .int .i64 qp, .agg (sqL k mo ms vx vy lv vs).toArray] w (BuildP w (.error 12)) := by
 refine hidQ fun Q HPost => ?_
 obtain ⟨fa, fcap, rfl, -⟩ := hf.open
 obtain ⟨pa, pcap, rfl, -⟩ := hp.open
 have hkc : (sqL k mo ms vx vy lv vs).toArray[0]? = some (.int .i64 k) := sqL_kind
 have hinf : (Tryz.prog.info? 64).map (·.size) = some (sqL k mo ms vx vy lv vs).toArray.size := sqL_info hm h.len
 have hfo : FrOk f := mayF_iff.1 hmay
 have Hfo := Lib.hid hfo
 clear hfo
 generalize hsa : (sqL k mo ms vx vy lv vs).toArray = sa at *
 have Hinf := Lib.hid hinf
 obtain ⟨hq1, HB0, HB1, HB2, HB3, -⟩ := boxes4 w (.cells #[.int .i64 f.W, .int .i64 f.H, .slice fa f.pix.length fcap] 27) (.cells #[.int .i64 prev.W, .int .i64 prev.H, .slice pa prev.pix.length pcap] 27) (.cells sa 64) (.cells #[.int .i64 0, .int .i64 0, .slice none 0 0] 27)
 have Hkc := Lib.hid hkc
 have HQ4 := Lib.hid hq1
 have HF := Lib.hid (hf.quiet hq1)
 have HP := Lib.hid (hp.quiet hq1)
 have HZ4 : Hid (w.heap.size + 1 + 1 + 1 < ((((w.alloc (.cells #[.int .i64 f.W, .int .i64 f.H, .slice fa f.pix.length fcap] 27)).alloc (.cells #[.int .i64 prev.W, .int .i64 prev.H, .slice pa prev.pix.length pcap] 27)).alloc (.cells sa 64)).alloc (.cells #[.int .i64 0, .int .i64 0, .slice none 0 0] 27)).heap.size) := Lib.hid (by simp)
 obtain ⟨p0, p1, p2⟩ := frame_cells HB0.out
 clear hf hp h hq1 hkc hinf hsa hm
 go_enter Tryz.func27, Tryz.ntmps27
 go_wp2_with fail
 generalize hW4 : World.alloc (World.alloc (World.alloc (World.alloc w _) _) _) _ = W4 at *
 clear hW4 p0 p1 p2
 go_at_call 12
 have hmy := pmay_any f.W f.H HF.out
 rw [show mayF ⟨f.W, f.H, f.pix⟩ = true from hmay] at hmy
 have Hmy := Lib.hid hmy
 clear hmy hmay
 refine Hmy.out.mono ?_
 rintro e W5 ⟨rfl, hq5⟩
 have HB04 := HB0
 have HB14 := HB1
 have HB24 := HB2
 have HB34 := HB3
 have HF4 := HF
 have HP4 := HP
 have HB05 := Lib.hid (hq5.row HB04.out)
 have HB15 := Lib.hid (hq5.row HB14.out)
 have HB25 := Lib.hid (hq5.row HB24.out)
 have HB35 := Lib.hid (hq5.row HB34.out)
 have HQ5 := Lib.hid (HQ4.out.q hq5)
 have HF5 := Lib.hid (HF4.out.quiet hq5)
 have HP5 := Lib.hid (HP4.out.quiet hq5)
 have HZ5 := Lib.hid (Nat.lt_of_lt_of_le HZ4.out hq5.size)
 clear hq5
 obtain ⟨p0, p1, p2⟩ := frame_cells HB05.out
 go_wp2_with fail
 go_at_call 55
 have hin := pin_any f.W f.H x y 8 (.slice fa f.pix.length fcap) W5 ⟨Hfo.out.w0, Hfo.out.w1⟩ ⟨Hfo.out.h0, Hfo.out.h1⟩ ⟨by omega, by omega⟩
 rw [hli] at hin
 have Hin := Lib.hid hin
 clear hin hli p0 p1 p2
 refine Hin.out.mono ?_
 rintro e W6 ⟨rfl, hq6⟩
 have HB06 := Lib.hid (hq6.row HB05.out)
 have HB16 := Lib.hid (hq6.row HB15.out)
 have HB26 := Lib.hid (hq6.row HB25.out)
 have HB36 := Lib.hid (hq6.row HB35.out)
 have HQ6 := Lib.hid (HQ5.out.q hq6)
 have HF6 := Lib.hid (HF5.out.quiet hq6)
 have HP6 := Lib.hid (HP5.out.quiet hq6)
 have HZ6 := Lib.hid (Nat.lt_of_lt_of_le HZ5.out hq6.size)
 clear hq6
 obtain ⟨p0, p1, p2⟩ := frame_cells HB06.out
 have c0 : W6.cell? ⟨w.heap.size + 1 + 1, 0, none⟩ = some (.int .i64 k) := by rw [cell_of_row _ _ _ _ _ _ HB26.out]; exact Hkc.out
 obtain ⟨v0, v1, v2⟩ := frame_cells HB16.out
 go_wp2_with fail
 go_at_call 34
 have hmt := mates_any prev.W prev.H f.W f.H HP6.out
 rw [show matesB ⟨prev.W, prev.H, prev.pix⟩ f.W f.H = false from hma] at hmt
 have Hmt := Lib.hid hmt
 clear hmt hma p0 p1 p2 v0 v1 v2 c0
 refine Hmt.out.mono ?_
 rintro e W7 ⟨rfl, hq7⟩
 have HB07 := Lib.hid (hq7.row HB06.out)
 have HB17 := Lib.hid (hq7.row HB16.out)
 have HB27 := Lib.hid (hq7.row HB26.out)
 have HB37 := Lib.hid (hq7.row HB36.out)
 have HQ7 := Lib.hid (HQ6.out.q hq7)
 have HF7 := Lib.hid (HF6.out.quiet hq7)
 have HP7 := Lib.hid (HP6.out.quiet hq7)
 have HZ7 := Lib.hid (Nat.lt_of_lt_of_le HZ6.out hq7.size)
 clear hq7
 obtain ⟨z0, z1, z2⟩ := frame_cells HB37.out
 have fz0 := frozen_of_row _ _ 0 _ _ HB37.out
 have fz1 := frozen_of_row _ _ 1 _ _ HB37.out
 have fz2 := frozen_of_row _ _ 2 _ _ HB37.out
 go_wp2_with fail
 obtain ⟨hrow, hon⟩ := row3_set (x := (.int .i64 0)) (y := (.int .i64 0)) (z := (.slice none 0 0)) HB37.out
 have hall := HQ7.out.trans hon (U := []) (by simp) (fun g hg hlt => by rw [List.mem_singleton] at hg; omega)
 exact bodyPost_ret (v := .tuple #[.agg #[.int .i64 0, .int .i64 0, .slice none 0 0], .iface 37 (.int .i64 12)]) (results_cell_row2 Tryz.results27 _ _ (w.heap.size + 1 + 1 + 1) _ _ _ _ _ rfl rfl hrow Tryz.underlying27 rfl (by kernel_rfl)) rfl (HPost.out _ _ ⟨hall, rfl⟩)
theorem qDBuild3 {p : Prop} (h : p := by
 exact bodyPost_ret (v := .tuple #[.agg #[.int .i64 0, .int .i64 0, .slice none 0 0], .iface 37 (.int .i64 c)]) (results_cell_row2 Tryz.results27 _ _ (w.heap.size + 1 + 1 + 1) _ _ _ _ _ rfl rfl hrow Tryz.underlying27 rfl (by kernel_rfl)) rfl (HPost.out _ _ ⟨hall, rfl⟩)) : p := h
theorem build_parts1 (hf : Ints .i64 lo1 hi1 w fv f.pix) (hp : Ints .i64 lo2 hi2 w pv prev.pix) (h : SqIn lo hi w lv vs L S) (hm : ms.length = 4) (hmay : mayF f = true) (hx8 : x.tmod 8 = 0) (hy8 : y.tmod 8 = 0) (hli : liesD f.W f.H x y 8 = true) (hq0 : ¬ qp < 0) (hqm : ¬ 15 < qp) (hk0 : ¬ k < 0) (hk3 : ¬ 3 < k) (hk1 : k ≤ 1) (hma : matesB prev f.W f.H = true) (hhi : hi ≤ w.heap.size) (hmk : ∀ x ∈ ms, InK .i64 x) (hL : L.length ≤ 1000000000) (hS : ∀ i, i < 4 → (S.getD i []).length ≤ 1000000000) {c : Int} (hpc : partsC (formD k mo ms vx vy) (wideD k) (listsD k L S) = some c) :
  Calls Tryz.prog 27 #[.agg #[.int .i64 f.W, .int .i64 f.H, fv], .agg #[.int .i64 prev.W, .int .i64 prev.H, pv], .int .i64 x, .int .i64 y, .int .i64 qp, .agg (sqL k mo ms vx vy lv vs).toArray] w (BuildP w (.error c)) := by
 refine hidQ fun Q HPost => ?_
 obtain ⟨fa, fcap, rfl, -⟩ := hf.open
 obtain ⟨pa, pcap, rfl, -⟩ := hp.open
 have hkc : (sqL k mo ms vx vy lv vs).toArray[0]? = some (.int .i64 k) := sqL_kind
 have hinf : (Tryz.prog.info? 64).map (·.size) = some (sqL k mo ms vx vy lv vs).toArray.size := sqL_info hm h.len
 have hfo : FrOk f := mayF_iff.1 hmay
 have Hfo := Lib.hid hfo
 clear hfo
 have HPa := Lib.hid (fun (wx : World) (o : Only [] w wx) => dparts_any (w := wx) (k := k) (mo := mo) (vx := vx) (vy := vy) hm (h.only o (by simp)) (Nat.le_trans hhi o.size) ⟨by omega, by omega⟩ hmk hL hS)
 rw [hpc] at HPa
 generalize hsa : (sqL k mo ms vx vy lv vs).toArray = sa at *
 have Hinf := Lib.hid hinf
 obtain ⟨hq1, HB0, HB1, HB2, HB3, -⟩ := boxes4 w (.cells #[.int .i64 f.W, .int .i64 f.H, .slice fa f.pix.length fcap] 27) (.cells #[.int .i64 prev.W, .int .i64 prev.H, .slice pa prev.pix.length pcap] 27) (.cells sa 64) (.cells #[.int .i64 0, .int .i64 0, .slice none 0 0] 27)
 have Hkc := Lib.hid hkc
 have HQ4 := Lib.hid hq1
 have HF := Lib.hid (hf.quiet hq1)
 have HP := Lib.hid (hp.quiet hq1)
 have HZ4 : Hid (w.heap.size + 1 + 1 + 1 < ((((w.alloc (.cells #[.int .i64 f.W, .int .i64 f.H, .slice fa f.pix.length fcap] 27)).alloc (.cells #[.int .i64 prev.W, .int .i64 prev.H, .slice pa prev.pix.length pcap] 27)).alloc (.cells sa 64)).alloc (.cells #[.int .i64 0, .int .i64 0, .slice none 0 0] 27)).heap.size) := Lib.hid (by simp)
 obtain ⟨p0, p1, p2⟩ := frame_cells HB0.out
 clear hf hp h hq1 hkc hinf hsa hm
 go_enter Tryz.func27, Tryz.ntmps27
 go_wp2_with fail
 generalize hW4 : World.alloc (World.alloc (World.alloc (World.alloc w _) _) _) _ = W4 at *
 clear hW4 p0 p1 p2
 go_at_call 12
 have hmy := pmay_any f.W f.H HF.out
 rw [show mayF ⟨f.W, f.H, f.pix⟩ = true from hmay] at hmy
 have Hmy := Lib.hid hmy
 clear hmy hmay
 refine Hmy.out.mono ?_
 rintro e W5 ⟨rfl, hq5⟩
 have HB04 := HB0
 have HB14 := HB1
 have HB24 := HB2
 have HB34 := HB3
 have HF4 := HF
 have HP4 := HP
 have HB05 := Lib.hid (hq5.row HB04.out)
 have HB15 := Lib.hid (hq5.row HB14.out)
 have HB25 := Lib.hid (hq5.row HB24.out)
 have HB35 := Lib.hid (hq5.row HB34.out)
 have HQ5 := Lib.hid (HQ4.out.q hq5)
 have HF5 := Lib.hid (HF4.out.quiet hq5)
 have HP5 := Lib.hid (HP4.out.quiet hq5)
 have HZ5 := Lib.hid (Nat.lt_of_lt_of_le HZ4.out hq5.size)
 clear hq5
 obtain ⟨p0, p1, p2⟩ := frame_cells HB05.out
 go_wp2_with fail
 go_at_call 55
 have hin := pin_any f.W f.H x y 8 (.slice fa f.pix.length fcap) W5 ⟨Hfo.out.w0, Hfo.out.w1⟩ ⟨Hfo.out.h0, Hfo.out.h1⟩ ⟨by omega, by omega⟩
 rw [hli] at hin
 have Hin := Lib.hid hin
 clear hin hli p0 p1 p2
 refine Hin.out.mono ?_
 rintro e W6 ⟨rfl, hq6⟩
 have HB06 := Lib.hid (hq6.row HB05.out)
 have HB16 := Lib.hid (hq6.row HB15.out)
 have HB26 := Lib.hid (hq6.row HB25.out)
 have HB36 := Lib.hid (hq6.row HB35.out)
 have HQ6 := Lib.hid (HQ5.out.q hq6)
 have HF6 := Lib.hid (HF5.out.quiet hq6)
 have HP6 := Lib.hid (HP5.out.quiet hq6)
 have HZ6 := Lib.hid (Nat.lt_of_lt_of_le HZ5.out hq6.size)
 clear hq6
 obtain ⟨p0, p1, p2⟩ := frame_cells HB06.out
 have c0 : W6.cell? ⟨w.heap.size + 1 + 1, 0, none⟩ = some (.int .i64 k) := by rw [cell_of_row _ _ _ _ _ _ HB26.out]; exact Hkc.out
 obtain ⟨v0, v1, v2⟩ := frame_cells HB16.out
 go_wp2_with fail
 go_at_call 34
 have hmt := mates_any prev.W prev.H f.W f.H HP6.out
 rw [show matesB ⟨prev.W, prev.H, prev.pix⟩ f.W f.H = true from hma] at hmt
 have Hmt := Lib.hid hmt
 clear hmt hma p0 p1 p2 v0 v1 v2 c0
 refine Hmt.out.mono ?_
 rintro e W7 ⟨rfl, hq7⟩
 have HB07 := Lib.hid (hq7.row HB06.out)
 have HB17 := Lib.hid (hq7.row HB16.out)
 have HB27 := Lib.hid (hq7.row HB26.out)
 have HB37 := Lib.hid (hq7.row HB36.out)
 have HQ7 := Lib.hid (HQ6.out.q hq7)
 have HF7 := Lib.hid (HF6.out.quiet hq7)
 have HP7 := Lib.hid (HP6.out.quiet hq7)
 have HZ7 := Lib.hid (Nat.lt_of_lt_of_le HZ6.out hq7.size)
 clear hq7
 clear hpc hmk hL hS hhi
 go_wp2_with (first | (refine wpList_load_row rfl (.tmp 11) 64 rfl rfl HB27.out Tryz.underlying64 rfl Hinf.out ?_) | fail)
 go_at_call 56
 refine (HPa.out W7 HQ7.out).mono ?_
 rintro e W8 ⟨⟨u, rfl, hu⟩, hq8⟩
 have hu' : u = .iface 37 (.int .i64 c) := hu
 subst hu'
 have HB08 := Lib.hid (hq8.row HB07.out)
 have HB18 := Lib.hid (hq8.row HB17.out)
 have HB28 := Lib.hid (hq8.row HB27.out)
 have HB38 := Lib.hid (hq8.row HB37.out)
 have HQ8 := Lib.hid (HQ7.out.q hq8)
 have HF8 := Lib.hid (HF7.out.quiet hq8)
 have HP8 := Lib.hid (HP7.out.quiet hq8)
 have HZ8 := Lib.hid (Nat.lt_of_lt_of_le HZ7.out hq8.size)
 clear hq8 hu
 obtain ⟨z0, z1, z2⟩ := frame_cells HB38.out
 have fz0 := frozen_of_row _ _ 0 _ _ HB38.out
 have fz1 := frozen_of_row _ _ 1 _ _ HB38.out
 have fz2 := frozen_of_row _ _ 2 _ _ HB38.out
 go_wp2_with fail
 obtain ⟨hrow, hon⟩ := row3_set (x := (.int .i64 0)) (y := (.int .i64 0)) (z := (.slice none 0 0)) HB38.out
 have hall := HQ8.out.trans hon (U := []) (by simp) (fun g hg hlt => by rw [List.mem_singleton] at hg; omega)
 exact qDBuild3
theorem build_parts2 (hf : Ints .i64 lo1 hi1 w fv f.pix) (hp : Ints .i64 lo2 hi2 w pv prev.pix) (h : SqIn lo hi w lv vs L S) (hm : ms.length = 4) (hmay : mayF f = true) (hx8 : x.tmod 8 = 0) (hy8 : y.tmod 8 = 0) (hli : liesD f.W f.H x y 8 = true) (hq0 : ¬ qp < 0) (hqm : ¬ 15 < qp) (hk0 : ¬ k < 0) (hk3 : ¬ 3 < k) (hk1 : ¬ k ≤ 1) (hhi : hi ≤ w.heap.size) (hmk : ∀ x ∈ ms, InK .i64 x) (hL : L.length ≤ 1000000000) (hS : ∀ i, i < 4 → (S.getD i []).length ≤ 1000000000) {c : Int} (hpc : partsC (formD k mo ms vx vy) (wideD k) (listsD k L S) = some c) :
  Calls Tryz.prog 27 #[.agg #[.int .i64 f.W, .int .i64 f.H, fv], .agg #[.int .i64 prev.W, .int .i64 prev.H, pv], .int .i64 x, .int .i64 y, .int .i64 qp, .agg (sqL k mo ms vx vy lv vs).toArray] w (BuildP w (.error c)) := by
 refine hidQ fun Q HPost => ?_
 obtain ⟨fa, fcap, rfl, -⟩ := hf.open
 obtain ⟨pa, pcap, rfl, -⟩ := hp.open
 have hkc : (sqL k mo ms vx vy lv vs).toArray[0]? = some (.int .i64 k) := sqL_kind
 have hinf : (Tryz.prog.info? 64).map (·.size) = some (sqL k mo ms vx vy lv vs).toArray.size := sqL_info hm h.len
 have hfo : FrOk f := mayF_iff.1 hmay
 have Hfo := Lib.hid hfo
 clear hfo
 have HPa := Lib.hid (fun (wx : World) (o : Only [] w wx) => dparts_any (w := wx) (k := k) (mo := mo) (vx := vx) (vy := vy) hm (h.only o (by simp)) (Nat.le_trans hhi o.size) ⟨by omega, by omega⟩ hmk hL hS)
 rw [hpc] at HPa
 generalize hsa : (sqL k mo ms vx vy lv vs).toArray = sa at *
 have Hinf := Lib.hid hinf
 obtain ⟨hq1, HB0, HB1, HB2, HB3, -⟩ := boxes4 w (.cells #[.int .i64 f.W, .int .i64 f.H, .slice fa f.pix.length fcap] 27) (.cells #[.int .i64 prev.W, .int .i64 prev.H, .slice pa prev.pix.length pcap] 27) (.cells sa 64) (.cells #[.int .i64 0, .int .i64 0, .slice none 0 0] 27)
 have Hkc := Lib.hid hkc
 have HQ4 := Lib.hid hq1
 have HF := Lib.hid (hf.quiet hq1)
 have HP := Lib.hid (hp.quiet hq1)
 have HZ4 : Hid (w.heap.size + 1 + 1 + 1 < ((((w.alloc (.cells #[.int .i64 f.W, .int .i64 f.H, .slice fa f.pix.length fcap] 27)).alloc (.cells #[.int .i64 prev.W, .int .i64 prev.H, .slice pa prev.pix.length pcap] 27)).alloc (.cells sa 64)).alloc (.cells #[.int .i64 0, .int .i64 0, .slice none 0 0] 27)).heap.size) := Lib.hid (by simp)
 obtain ⟨p0, p1, p2⟩ := frame_cells HB0.out
 clear hf hp h hq1 hkc hinf hsa hm
 go_enter Tryz.func27, Tryz.ntmps27
 go_wp2_with fail
 generalize hW4 : World.alloc (World.alloc (World.alloc (World.alloc w _) _) _) _ = W4 at *
 clear hW4 p0 p1 p2
 go_at_call 12
 have hmy := pmay_any f.W f.H HF.out
 rw [show mayF ⟨f.W, f.H, f.pix⟩ = true from hmay] at hmy
 have Hmy := Lib.hid hmy
 clear hmy hmay
 refine Hmy.out.mono ?_
 rintro e W5 ⟨rfl, hq5⟩
 have HB04 := HB0
 have HB14 := HB1
 have HB24 := HB2
 have HB34 := HB3
 have HF4 := HF
 have HP4 := HP
 have HB05 := Lib.hid (hq5.row HB04.out)
 have HB15 := Lib.hid (hq5.row HB14.out)
 have HB25 := Lib.hid (hq5.row HB24.out)
 have HB35 := Lib.hid (hq5.row HB34.out)
 have HQ5 := Lib.hid (HQ4.out.q hq5)
 have HF5 := Lib.hid (HF4.out.quiet hq5)
 have HP5 := Lib.hid (HP4.out.quiet hq5)
 have HZ5 := Lib.hid (Nat.lt_of_lt_of_le HZ4.out hq5.size)
 clear hq5
 obtain ⟨p0, p1, p2⟩ := frame_cells HB05.out
 go_wp2_with fail
 go_at_call 55
 have hin := pin_any f.W f.H x y 8 (.slice fa f.pix.length fcap) W5 ⟨Hfo.out.w0, Hfo.out.w1⟩ ⟨Hfo.out.h0, Hfo.out.h1⟩ ⟨by omega, by omega⟩
 rw [hli] at hin
 have Hin := Lib.hid hin
 clear hin hli p0 p1 p2
 refine Hin.out.mono ?_
 rintro e W6 ⟨rfl, hq6⟩
 have HB06 := Lib.hid (hq6.row HB05.out)
 have HB16 := Lib.hid (hq6.row HB15.out)
 have HB26 := Lib.hid (hq6.row HB25.out)
 have HB36 := Lib.hid (hq6.row HB35.out)
 have HQ6 := Lib.hid (HQ5.out.q hq6)
 have HF6 := Lib.hid (HF5.out.quiet hq6)
 have HP6 := Lib.hid (HP5.out.quiet hq6)
 have HZ6 := Lib.hid (Nat.lt_of_lt_of_le HZ5.out hq6.size)
 clear hq6
 obtain ⟨p0, p1, p2⟩ := frame_cells HB06.out
 have c0 : W6.cell? ⟨w.heap.size + 1 + 1, 0, none⟩ = some (.int .i64 k) := by rw [cell_of_row _ _ _ _ _ _ HB26.out]; exact Hkc.out
 clear hpc hmk hL hS hhi
 go_wp2_with (first | (refine wpList_load_row rfl (.tmp 11) 64 rfl rfl HB26.out Tryz.underlying64 rfl Hinf.out ?_) | fail)
 go_at_call 56
 refine (HPa.out W6 HQ6.out).mono ?_
 rintro e W7 ⟨⟨u, rfl, hu⟩, hq7⟩
 have hu' : u = .iface 37 (.int .i64 c) := hu
 subst hu'
 have HB07 := Lib.hid (hq7.row HB06.out)
 have HB17 := Lib.hid (hq7.row HB16.out)
 have HB27 := Lib.hid (hq7.row HB26.out)
 have HB37 := Lib.hid (hq7.row HB36.out)
 have HQ7 := Lib.hid (HQ6.out.q hq7)
 have HF7 := Lib.hid (HF6.out.quiet hq7)
 have HP7 := Lib.hid (HP6.out.quiet hq7)
 have HZ7 := Lib.hid (Nat.lt_of_lt_of_le HZ6.out hq7.size)
 clear hq7 hu
 obtain ⟨z0, z1, z2⟩ := frame_cells HB37.out
 have fz0 := frozen_of_row _ _ 0 _ _ HB37.out
 have fz1 := frozen_of_row _ _ 1 _ _ HB37.out
 have fz2 := frozen_of_row _ _ 2 _ _ HB37.out
 go_wp2_with fail
 obtain ⟨hrow, hon⟩ := row3_set (x := (.int .i64 0)) (y := (.int .i64 0)) (z := (.slice none 0 0)) HB37.out
 have hall := HQ7.out.trans hon (U := []) (by simp) (fun g hg hlt => by rw [List.mem_singleton] at hg; omega)
 exact qDBuild3
theorem qDBuild4 {p : Prop} (h : p := by
 have e1 := Hfo.out.len
 have e2 := Hfo.out.w0
 have e3 := Hfo.out.h0
 have e4 := Hfo.out.w1
 have e5 := Hfo.out.h1
 have e6 : 8 * 8 ≤ f.W * f.H := Int.mul_le_mul e2 e3 (by omega) (by omega)
 have e7 : f.W * f.H ≤ 32 * 32 := Int.mul_le_mul e4 e5 (by omega) (by omega)
 omega) : p := h
theorem qDBuild5 {p : Prop} (h : p := by
 show _ = Ending.returned (.tuple #[.agg #[.int .i64 (laySq _ _ _ _ _ _).W, .int .i64 (laySq _ _ _ _ _ _).H, .slice _ (laySq _ _ _ _ _ _).pix.length _], _])
 rw [Int.toNat_natCast, HLW.out.1, HLW.out.2.1, HLW.out.2.2]) : p := h
theorem build_ok1 (hf : Ints .i64 lo1 hi1 w fv f.pix) (hp : Ints .i64 lo2 hi2 w pv prev.pix) (h : SqIn lo hi w lv vs L S) (hm : ms.length = 4) (hmay : mayF f = true) (hx8 : x.tmod 8 = 0) (hy8 : y.tmod 8 = 0) (hli : liesD f.W f.H x y 8 = true) (hq0 : ¬ qp < 0) (hqm : ¬ 15 < qp) (hk0 : ¬ k < 0) (hk3 : ¬ 3 < k) (hk1 : k ≤ 1) (hma : matesB prev f.W f.H = true) (hhi : hi ≤ w.heap.size) (hmk : ∀ x ∈ ms, InK .i64 x) (hL : L.length ≤ 1000000000) (hS : ∀ i, i < 4 → (S.getD i []).length ≤ 1000000000) (hls : S.length = 4) (hpc : partsC (formD k mo ms vx vy) (wideD k) (listsD k L S) = none) :
  Calls Tryz.prog 27 #[.agg #[.int .i64 f.W, .int .i64 f.H, fv], .agg #[.int .i64 prev.W, .int .i64 prev.H, pv], .int .i64 x, .int .i64 y, .int .i64 qp, .agg (sqL k mo ms vx vy lv vs).toArray] w (BuildP w (.ok (laySq f prev x y qp ⟨k.toNat, mo.toNat, ms, vx, vy, L, S⟩))) := by
 refine hidQ fun Q HPost => ?_
 obtain ⟨fa, fcap, rfl, -⟩ := hf.open
 obtain ⟨pa, pcap, rfl, -⟩ := hp.open
 have hfo : FrOk f := mayF_iff.1 hmay
 have Hfo := Lib.hid hfo
 clear hfo
 have hpo : FrOk prev := by
  unfold matesB at hma
  rw [Bool.and_eq_true, Bool.and_eq_true] at hma
  exact mayF_iff.1 hma.1.1
 obtain ⟨q, rfl⟩ := Int.eq_ofNat_of_zero_le (by omega : 0 ≤ qp)
 obtain ⟨kn, rfl⟩ := Int.eq_ofNat_of_zero_le (by omega : 0 ≤ k)
 obtain ⟨x0, x1, y0, y1⟩ := lies_iff hli
 have hmo : kn = 2 → mo = ((mo.toNat : Nat) : Int) := fun hk2 => by
  subst hk2
  exact (mode_nonneg hpc).1
 have hsm : SqMay ⟨kn, mo.toNat, ms, vx, vy, L, S⟩ := sqMay_of (mo := mo) (by show kn ≤ 3; omega) hm hls hmo hpc
 have hfl : 0 < f.pix.length ∧ f.pix.length ≤ 1000000 := by
  exact qDBuild4
 have Hfl := Lib.hid hfl
 have HLW : Hid ((laySq f prev x y q ⟨kn, mo.toNat, ms, vx, vy, L, S⟩).pix.length = f.pix.length ∧ (laySq f prev x y q ⟨kn, mo.toNat, ms, vx, vy, L, S⟩).W = f.W ∧ (laySq f prev x y q ⟨kn, mo.toNat, ms, vx, vy, L, S⟩).H = f.H) := Lib.hid (by
  have hlo := laySq_may Hfo.out (s := ⟨kn, mo.toNat, ms, vx, vy, L, S⟩) (prev := prev) (fun hk2 => hpo.sam) x0 x1 y0 y1 hsm (q : Int)
  have hlw := laySq_W f prev x y q ⟨kn, mo.toNat, ms, vx, vy, L, S⟩
  have t1 := hlo.len
  have t2 := Hfo.out.len
  rw [hlw.1, hlw.2] at t1
  exact ⟨by omega, hlw.1, hlw.2⟩)
 have HLy : Hid (∀ (wx : World) (o : Only [] w wx) (g cap : Nat) (ho : Own .i64 3 w.heap.size wx (.slice (some ⟨g, 0, none⟩) f.pix.length cap) f.pix) (hg : hi ≤ g), Calls Tryz.prog 38 #[.agg #[.int .i64 f.W, .int .i64 f.H, .slice (some ⟨g, 0, none⟩) f.pix.length cap], .agg #[.int .i64 prev.W, .int .i64 prev.H, .slice pa prev.pix.length pcap], .int .i64 x, .int .i64 y, .int .i64 q, .agg (sqL kn mo ms vx vy lv vs).toArray] wx fun e w' => e = .returned (.tuple #[]) ∧ Own .i64 3 w.heap.size w' (.slice (some ⟨g, 0, none⟩) f.pix.length cap) (laySq f prev x y q ⟨kn, mo.toNat, ms, vx, vy, L, S⟩).pix ∧ Only [g] wx w') :=
  Lib.hid (fun wx o g cap ho hg => lay_m_any (f := f) (prev := prev) (s := ⟨kn, mo.toNat, ms, vx, vy, L, S⟩) (mo := mo) (q := q) Hfo.out ⟨ho, hp.quiet o, h.only o (by simp), .inr hg⟩ (fun hk2 => hpo) hsm hmo hm (by omega) x0 x1 y0 y1)
 have Hhi := Lib.hid hhi
 clear x0 x1 y0 y1 hsm hmo hfl
 have hkc : (sqL kn mo ms vx vy lv vs).toArray[0]? = some (.int .i64 kn) := sqL_kind
 have hinf : (Tryz.prog.info? 64).map (·.size) = some (sqL kn mo ms vx vy lv vs).toArray.size := sqL_info hm h.len
 have HPa := Lib.hid (fun (wx : World) (o : Only [] w wx) => dparts_any (w := wx) (k := kn) (mo := mo) (vx := vx) (vy := vy) hm (h.only o (by simp)) (Nat.le_trans hhi o.size) ⟨by omega, by omega⟩ hmk hL hS)
 rw [hpc] at HPa
 generalize hsa : (sqL kn mo ms vx vy lv vs).toArray = sa at *
 have Hinf := Lib.hid hinf
 obtain ⟨hq1, HB0, HB1, HB2, HB3, -⟩ := boxes4 w (.cells #[.int .i64 f.W, .int .i64 f.H, .slice fa f.pix.length fcap] 27) (.cells #[.int .i64 prev.W, .int .i64 prev.H, .slice pa prev.pix.length pcap] 27) (.cells sa 64) (.cells #[.int .i64 0, .int .i64 0, .slice none 0 0] 27)
 have Hkc := Lib.hid hkc
 have HQ4 := Lib.hid hq1
 have HF := Lib.hid (hf.quiet hq1)
 have HP := Lib.hid (hp.quiet hq1)
 have HZ4 : Hid (w.heap.size + 1 + 1 + 1 < ((((w.alloc (.cells #[.int .i64 f.W, .int .i64 f.H, .slice fa f.pix.length fcap] 27)).alloc (.cells #[.int .i64 prev.W, .int .i64 prev.H, .slice pa prev.pix.length pcap] 27)).alloc (.cells sa 64)).alloc (.cells #[.int .i64 0, .int .i64 0, .slice none 0 0] 27)).heap.size) := Lib.hid (by simp)
 obtain ⟨p0, p1, p2⟩ := frame_cells HB0.out
 clear hf hp h hq1 hkc hinf hsa hm
 go_enter Tryz.func27, Tryz.ntmps27
 go_wp2_with fail
 generalize hW4 : World.alloc (World.alloc (World.alloc (World.alloc w _) _) _) _ = W4 at *
 clear hW4 p0 p1 p2
 go_at_call 12
 have hmy := pmay_any f.W f.H HF.out
 rw [show mayF ⟨f.W, f.H, f.pix⟩ = true from hmay] at hmy
 have Hmy := Lib.hid hmy
 clear hmy hmay
 refine Hmy.out.mono ?_
 rintro e W5 ⟨rfl, hq5⟩
 have HB04 := HB0
 have HB14 := HB1
 have HB24 := HB2
 have HB34 := HB3
 have HF4 := HF
 have HP4 := HP
 have HB05 := Lib.hid (hq5.row HB04.out)
 have HB15 := Lib.hid (hq5.row HB14.out)
 have HB25 := Lib.hid (hq5.row HB24.out)
 have HB35 := Lib.hid (hq5.row HB34.out)
 have HQ5 := Lib.hid (HQ4.out.q hq5)
 have HF5 := Lib.hid (HF4.out.quiet hq5)
 have HP5 := Lib.hid (HP4.out.quiet hq5)
 have HZ5 := Lib.hid (Nat.lt_of_lt_of_le HZ4.out hq5.size)
 clear hq5
 obtain ⟨p0, p1, p2⟩ := frame_cells HB05.out
 go_wp2_with fail
 go_at_call 55
 have hin := pin_any f.W f.H x y 8 (.slice fa f.pix.length fcap) W5 ⟨Hfo.out.w0, Hfo.out.w1⟩ ⟨Hfo.out.h0, Hfo.out.h1⟩ ⟨by omega, by omega⟩
 rw [hli] at hin
 have Hin := Lib.hid hin
 clear hin hli p0 p1 p2
 refine Hin.out.mono ?_
 rintro e W6 ⟨rfl, hq6⟩
 have HB06 := Lib.hid (hq6.row HB05.out)
 have HB16 := Lib.hid (hq6.row HB15.out)
 have HB26 := Lib.hid (hq6.row HB25.out)
 have HB36 := Lib.hid (hq6.row HB35.out)
 have HQ6 := Lib.hid (HQ5.out.q hq6)
 have HF6 := Lib.hid (HF5.out.quiet hq6)
 have HP6 := Lib.hid (HP5.out.quiet hq6)
 have HZ6 := Lib.hid (Nat.lt_of_lt_of_le HZ5.out hq6.size)
 clear hq6
 obtain ⟨p0, p1, p2⟩ := frame_cells HB06.out
 have c0 : W6.cell? ⟨w.heap.size + 1 + 1, 0, none⟩ = some (.int .i64 kn) := by rw [cell_of_row _ _ _ _ _ _ HB26.out]; exact Hkc.out
 obtain ⟨v0, v1, v2⟩ := frame_cells HB16.out
 go_wp2_with fail
 go_at_call 34
 have hmt := mates_any prev.W prev.H f.W f.H HP6.out
 rw [show matesB ⟨prev.W, prev.H, prev.pix⟩ f.W f.H = true from hma] at hmt
 have Hmt := Lib.hid hmt
 clear hmt hma p0 p1 p2 v0 v1 v2 c0
 refine Hmt.out.mono ?_
 rintro e W7 ⟨rfl, hq7⟩
 have HB07 := Lib.hid (hq7.row HB06.out)
 have HB17 := Lib.hid (hq7.row HB16.out)
 have HB27 := Lib.hid (hq7.row HB26.out)
 have HB37 := Lib.hid (hq7.row HB36.out)
 have HQ7 := Lib.hid (HQ6.out.q hq7)
 have HF7 := Lib.hid (HF6.out.quiet hq7)
 have HP7 := Lib.hid (HP6.out.quiet hq7)
 have HZ7 := Lib.hid (Nat.lt_of_lt_of_le HZ6.out hq7.size)
 clear hq7
 clear hpc hmk hL hS hhi hpo
 go_wp2_with (first | (refine wpList_load_row rfl (.tmp 11) 64 rfl rfl HB27.out Tryz.underlying64 rfl Hinf.out ?_) | fail)
 go_at_call 56
 refine (HPa.out W7 HQ7.out).mono ?_
 rintro e W8 ⟨⟨u, rfl, hu⟩, hq8⟩
 have hu' : u = .nilIface := hu
 subst hu'
 have HB08 := Lib.hid (hq8.row HB07.out)
 have HB18 := Lib.hid (hq8.row HB17.out)
 have HB28 := Lib.hid (hq8.row HB27.out)
 have HB38 := Lib.hid (hq8.row HB37.out)
 have HQ8 := Lib.hid (HQ7.out.q hq8)
 have HF8 := Lib.hid (HF7.out.quiet hq8)
 have HP8 := Lib.hid (HP7.out.quiet hq8)
 have HZ8 := Lib.hid (Nat.lt_of_lt_of_le HZ7.out hq8.size)
 clear hq8 hu
 obtain ⟨p0, p1, p2⟩ := frame_cells HB08.out
 go_wp2_with fail
 go_at_call 57
 refine (clone_any HF8.out Hfl.out.1 Hfl.out.2).mono ?_
 rintro e W9 ⟨v, rfl, hown, hq9⟩
 obtain ⟨g, cap, rfl, hgg1, hgg2⟩ := hown.form Hfl.out.1
 have HB09 := Lib.hid (hq9.row HB08.out)
 have HB19 := Lib.hid (hq9.row HB18.out)
 have HB29 := Lib.hid (hq9.row HB28.out)
 have HB39 := Lib.hid (hq9.row HB38.out)
 have HQ9 := Lib.hid (HQ8.out.q hq9)
 have HF9 := Lib.hid (HF8.out.quiet hq9)
 have HP9 := Lib.hid (HP8.out.quiet hq9)
 have HZ9 := Lib.hid (Nat.lt_of_lt_of_le HZ8.out hq9.size)
 have hgb : w.heap.size + 1 + 1 + 1 < g ∧ hi ≤ g := ⟨by have := HZ8.out; omega, Nat.le_trans Hhi.out (Nat.le_trans HQ8.out.size hgg1)⟩
 have Hgb := Lib.hid hgb
 have hrs : (W9.setCell ⟨w.heap.size, 2, none⟩ (.slice (some ⟨g, 0, none⟩) f.pix.length cap)).heap[w.heap.size]? = some (.cells #[.int .i64 f.W, .int .i64 f.H, .slice (some ⟨g, 0, none⟩) f.pix.length cap] 27 (0, 0)) := heap_setCell_same W9 w.heap.size 2 _ _ _ HB09.out
 have hon : Only [w.heap.size] W9 (W9.setCell ⟨w.heap.size, 2, none⟩ (.slice (some ⟨g, 0, none⟩) f.pix.length cap)) := (Only.refl _ _).setCell (by simp) _
 have hq10 : Only [] w (W9.setCell ⟨w.heap.size, 2, none⟩ (.slice (some ⟨g, 0, none⟩) f.pix.length cap)) := HQ9.out.trans hon (U := []) (by simp) (fun x hx hl => by rw [List.mem_singleton] at hx; omega)
 have HB010 := Lib.hid hrs
 have HB110 := Lib.hid (hon.rowAt HB19.out (by simp))
 have HB210 := Lib.hid (hon.rowAt HB29.out (by simp; omega))
 have HB310 := Lib.hid (hon.rowAt HB39.out (by simp; omega))
 have HQ10 := Lib.hid hq10
 have HOw10 := Lib.hid ((hown.only hon (fun x hx => by rw [List.mem_singleton] at hx; subst hx; simp only [Value.ownBlock]; intro e; injection e with e; omega)).lower HQ8.out.size)
 have fz := frozen_of_row _ _ 2 _ _ HB09.out
 obtain ⟨s0, s1, s2⟩ := frame_cells HB010.out
 obtain ⟨v0, v1, v2⟩ := frame_cells HB110.out
 obtain ⟨r0, r1, r2⟩ := frame_cells HB09.out
 clear hq9 hown p0 p1 p2 hgg1 hgg2 hgb hrs hon hq10
 go_wp2_with (first | (refine wpList_load_row rfl (.tmp 11) 64 rfl rfl HB210.out Tryz.underlying64 rfl Hinf.out ?_) | fail)
 generalize hW10 : World.setCell _ _ _ = W10 at *
 clear hW10 s0 s1 s2 v0 v1 v2 r0 r1 r2 fz
 go_at_call 38
 refine (HLy.out W10 HQ10.out g cap HOw10.out Hgb.out.2).mono ?_
 rintro e W11 ⟨rfl, hown, hon⟩
 have HB011 := Lib.hid (hon.rowAt HB010.out (by have := Hgb.out.1; simp; omega))
 have HB311 := Lib.hid (hon.rowAt HB310.out (by have := Hgb.out.1; simp; omega))
 have HQ11 := Lib.hid (HQ10.out.trans hon (U := []) (by simp) (fun x hx hl => by rw [List.mem_singleton] at hx; have := Hgb.out.1; omega))
 have HOw11 := Lib.hid hown
 clear hown hon
 obtain ⟨s0, s1, s2⟩ := frame_cells HB011.out
 obtain ⟨z0, z1, z2⟩ := frame_cells HB311.out
 have fz0 := frozen_of_row _ _ 0 _ _ HB311.out
 have fz1 := frozen_of_row _ _ 1 _ _ HB311.out
 have fz2 := frozen_of_row _ _ 2 _ _ HB311.out
 go_wp2_with fail
 obtain ⟨hrow, hon⟩ := row3_set (x := .int .i64 f.W) (y := .int .i64 f.H) (z := .slice (some ⟨g, 0, none⟩) f.pix.length cap) HB311.out
 have hall := HQ11.out.trans hon (U := []) (by simp) (fun g hg hlt => by rw [List.mem_singleton] at hg; omega)
 refine bodyPost_ret (v := .tuple #[.agg #[.int .i64 f.W, .int .i64 f.H, .slice (some ⟨g, 0, none⟩) f.pix.length cap], .nilIface]) (results_cell_row2 Tryz.results27 _ _ (w.heap.size + 1 + 1 + 1) _ _ _ _ _ rfl rfl hrow Tryz.underlying27 rfl (by kernel_rfl)) rfl (HPost.out _ _ ⟨hall, g, cap, ?_, ?_⟩)
 ·exact qDBuild5
 ·have ho := HOw11.out.only hon (fun x hx => by rw [List.mem_singleton] at hx; subst hx; simp only [Value.ownBlock]; intro e; injection e with e; have := Hgb.out.1; omega)
  show Own _ _ _ _ (.slice _ (laySq _ _ _ _ _ _).pix.length _) (laySq _ _ _ _ _ _).pix
  rw [Int.toNat_natCast, HLW.out.1]
  exact ho
theorem build_ok2 (hf : Ints .i64 lo1 hi1 w fv f.pix) (hp : Ints .i64 lo2 hi2 w pv prev.pix) (h : SqIn lo hi w lv vs L S) (hm : ms.length = 4) (hmay : mayF f = true) (hx8 : x.tmod 8 = 0) (hy8 : y.tmod 8 = 0) (hli : liesD f.W f.H x y 8 = true) (hq0 : ¬ qp < 0) (hqm : ¬ 15 < qp) (hk0 : ¬ k < 0) (hk3 : ¬ 3 < k) (hk1 : ¬ k ≤ 1) (hhi : hi ≤ w.heap.size) (hmk : ∀ x ∈ ms, InK .i64 x) (hL : L.length ≤ 1000000000) (hS : ∀ i, i < 4 → (S.getD i []).length ≤ 1000000000) (hls : S.length = 4) (hpc : partsC (formD k mo ms vx vy) (wideD k) (listsD k L S) = none) :
  Calls Tryz.prog 27 #[.agg #[.int .i64 f.W, .int .i64 f.H, fv], .agg #[.int .i64 prev.W, .int .i64 prev.H, pv], .int .i64 x, .int .i64 y, .int .i64 qp, .agg (sqL k mo ms vx vy lv vs).toArray] w (BuildP w (.ok (laySq f prev x y qp ⟨k.toNat, mo.toNat, ms, vx, vy, L, S⟩))) := by
 refine hidQ fun Q HPost => ?_
 obtain ⟨fa, fcap, rfl, -⟩ := hf.open
 obtain ⟨pa, pcap, rfl, -⟩ := hp.open
 have hfo : FrOk f := mayF_iff.1 hmay
 have Hfo := Lib.hid hfo
 clear hfo
 obtain ⟨q, rfl⟩ := Int.eq_ofNat_of_zero_le (by omega : 0 ≤ qp)
 obtain ⟨kn, rfl⟩ := Int.eq_ofNat_of_zero_le (by omega : 0 ≤ k)
 obtain ⟨x0, x1, y0, y1⟩ := lies_iff hli
 have hmo : kn = 2 → mo = ((mo.toNat : Nat) : Int) := fun hk2 => by
  subst hk2
  exact (mode_nonneg hpc).1
 have hsm : SqMay ⟨kn, mo.toNat, ms, vx, vy, L, S⟩ := sqMay_of (mo := mo) (by show kn ≤ 3; omega) hm hls hmo hpc
 have hfl : 0 < f.pix.length ∧ f.pix.length ≤ 1000000 := by
  exact qDBuild4
 have Hfl := Lib.hid hfl
 have HLW : Hid ((laySq f prev x y q ⟨kn, mo.toNat, ms, vx, vy, L, S⟩).pix.length = f.pix.length ∧ (laySq f prev x y q ⟨kn, mo.toNat, ms, vx, vy, L, S⟩).W = f.W ∧ (laySq f prev x y q ⟨kn, mo.toNat, ms, vx, vy, L, S⟩).H = f.H) := Lib.hid (by
  have hlo := laySq_may Hfo.out (s := ⟨kn, mo.toNat, ms, vx, vy, L, S⟩) (prev := prev) (fun hk2 => absurd hk2 (by show ¬ kn < 2; omega)) x0 x1 y0 y1 hsm (q : Int)
  have hlw := laySq_W f prev x y q ⟨kn, mo.toNat, ms, vx, vy, L, S⟩
  have t1 := hlo.len
  have t2 := Hfo.out.len
  rw [hlw.1, hlw.2] at t1
  exact ⟨by omega, hlw.1, hlw.2⟩)
 have HLy : Hid (∀ (wx : World) (o : Only [] w wx) (g cap : Nat) (ho : Own .i64 3 w.heap.size wx (.slice (some ⟨g, 0, none⟩) f.pix.length cap) f.pix) (hg : hi ≤ g), Calls Tryz.prog 38 #[.agg #[.int .i64 f.W, .int .i64 f.H, .slice (some ⟨g, 0, none⟩) f.pix.length cap], .agg #[.int .i64 prev.W, .int .i64 prev.H, .slice pa prev.pix.length pcap], .int .i64 x, .int .i64 y, .int .i64 q, .agg (sqL kn mo ms vx vy lv vs).toArray] wx fun e w' => e = .returned (.tuple #[]) ∧ Own .i64 3 w.heap.size w' (.slice (some ⟨g, 0, none⟩) f.pix.length cap) (laySq f prev x y q ⟨kn, mo.toNat, ms, vx, vy, L, S⟩).pix ∧ Only [g] wx w') :=
  Lib.hid (fun wx o g cap ho hg => lay_m_any (f := f) (prev := prev) (s := ⟨kn, mo.toNat, ms, vx, vy, L, S⟩) (mo := mo) (q := q) Hfo.out ⟨ho, hp.quiet o, h.only o (by simp), .inr hg⟩ (fun hk2 => (absurd hk2 (by show ¬ kn < 2; omega))) hsm hmo hm (by omega) x0 x1 y0 y1)
 have Hhi := Lib.hid hhi
 clear x0 x1 y0 y1 hsm hmo hfl
 have hkc : (sqL kn mo ms vx vy lv vs).toArray[0]? = some (.int .i64 kn) := sqL_kind
 have hinf : (Tryz.prog.info? 64).map (·.size) = some (sqL kn mo ms vx vy lv vs).toArray.size := sqL_info hm h.len
 have HPa := Lib.hid (fun (wx : World) (o : Only [] w wx) => dparts_any (w := wx) (k := kn) (mo := mo) (vx := vx) (vy := vy) hm (h.only o (by simp)) (Nat.le_trans hhi o.size) ⟨by omega, by omega⟩ hmk hL hS)
 rw [hpc] at HPa
 generalize hsa : (sqL kn mo ms vx vy lv vs).toArray = sa at *
 have Hinf := Lib.hid hinf
 obtain ⟨hq1, HB0, HB1, HB2, HB3, -⟩ := boxes4 w (.cells #[.int .i64 f.W, .int .i64 f.H, .slice fa f.pix.length fcap] 27) (.cells #[.int .i64 prev.W, .int .i64 prev.H, .slice pa prev.pix.length pcap] 27) (.cells sa 64) (.cells #[.int .i64 0, .int .i64 0, .slice none 0 0] 27)
 have Hkc := Lib.hid hkc
 have HQ4 := Lib.hid hq1
 have HF := Lib.hid (hf.quiet hq1)
 have HP := Lib.hid (hp.quiet hq1)
 have HZ4 : Hid (w.heap.size + 1 + 1 + 1 < ((((w.alloc (.cells #[.int .i64 f.W, .int .i64 f.H, .slice fa f.pix.length fcap] 27)).alloc (.cells #[.int .i64 prev.W, .int .i64 prev.H, .slice pa prev.pix.length pcap] 27)).alloc (.cells sa 64)).alloc (.cells #[.int .i64 0, .int .i64 0, .slice none 0 0] 27)).heap.size) := Lib.hid (by simp)
 obtain ⟨p0, p1, p2⟩ := frame_cells HB0.out
 clear hf hp h hq1 hkc hinf hsa hm
 go_enter Tryz.func27, Tryz.ntmps27
 go_wp2_with fail
 generalize hW4 : World.alloc (World.alloc (World.alloc (World.alloc w _) _) _) _ = W4 at *
 clear hW4 p0 p1 p2
 go_at_call 12
 have hmy := pmay_any f.W f.H HF.out
 rw [show mayF ⟨f.W, f.H, f.pix⟩ = true from hmay] at hmy
 have Hmy := Lib.hid hmy
 clear hmy hmay
 refine Hmy.out.mono ?_
 rintro e W5 ⟨rfl, hq5⟩
 have HB04 := HB0
 have HB14 := HB1
 have HB24 := HB2
 have HB34 := HB3
 have HF4 := HF
 have HP4 := HP
 have HB05 := Lib.hid (hq5.row HB04.out)
 have HB15 := Lib.hid (hq5.row HB14.out)
 have HB25 := Lib.hid (hq5.row HB24.out)
 have HB35 := Lib.hid (hq5.row HB34.out)
 have HQ5 := Lib.hid (HQ4.out.q hq5)
 have HF5 := Lib.hid (HF4.out.quiet hq5)
 have HP5 := Lib.hid (HP4.out.quiet hq5)
 have HZ5 := Lib.hid (Nat.lt_of_lt_of_le HZ4.out hq5.size)
 clear hq5
 obtain ⟨p0, p1, p2⟩ := frame_cells HB05.out
 go_wp2_with fail
 go_at_call 55
 have hin := pin_any f.W f.H x y 8 (.slice fa f.pix.length fcap) W5 ⟨Hfo.out.w0, Hfo.out.w1⟩ ⟨Hfo.out.h0, Hfo.out.h1⟩ ⟨by omega, by omega⟩
 rw [hli] at hin
 have Hin := Lib.hid hin
 clear hin hli p0 p1 p2
 refine Hin.out.mono ?_
 rintro e W6 ⟨rfl, hq6⟩
 have HB06 := Lib.hid (hq6.row HB05.out)
 have HB16 := Lib.hid (hq6.row HB15.out)
 have HB26 := Lib.hid (hq6.row HB25.out)
 have HB36 := Lib.hid (hq6.row HB35.out)
 have HQ6 := Lib.hid (HQ5.out.q hq6)
 have HF6 := Lib.hid (HF5.out.quiet hq6)
 have HP6 := Lib.hid (HP5.out.quiet hq6)
 have HZ6 := Lib.hid (Nat.lt_of_lt_of_le HZ5.out hq6.size)
 clear hq6
 obtain ⟨p0, p1, p2⟩ := frame_cells HB06.out
 have c0 : W6.cell? ⟨w.heap.size + 1 + 1, 0, none⟩ = some (.int .i64 kn) := by rw [cell_of_row _ _ _ _ _ _ HB26.out]; exact Hkc.out
 clear hpc hmk hL hS hhi
 go_wp2_with (first | (refine wpList_load_row rfl (.tmp 11) 64 rfl rfl HB26.out Tryz.underlying64 rfl Hinf.out ?_) | fail)
 go_at_call 56
 refine (HPa.out W6 HQ6.out).mono ?_
 rintro e W7 ⟨⟨u, rfl, hu⟩, hq7⟩
 have hu' : u = .nilIface := hu
 subst hu'
 have HB07 := Lib.hid (hq7.row HB06.out)
 have HB17 := Lib.hid (hq7.row HB16.out)
 have HB27 := Lib.hid (hq7.row HB26.out)
 have HB37 := Lib.hid (hq7.row HB36.out)
 have HQ7 := Lib.hid (HQ6.out.q hq7)
 have HF7 := Lib.hid (HF6.out.quiet hq7)
 have HP7 := Lib.hid (HP6.out.quiet hq7)
 have HZ7 := Lib.hid (Nat.lt_of_lt_of_le HZ6.out hq7.size)
 clear hq7 hu
 obtain ⟨p0, p1, p2⟩ := frame_cells HB07.out
 go_wp2_with fail
 go_at_call 57
 refine (clone_any HF7.out Hfl.out.1 Hfl.out.2).mono ?_
 rintro e W8 ⟨v, rfl, hown, hq8⟩
 obtain ⟨g, cap, rfl, hgg1, hgg2⟩ := hown.form Hfl.out.1
 have HB08 := Lib.hid (hq8.row HB07.out)
 have HB18 := Lib.hid (hq8.row HB17.out)
 have HB28 := Lib.hid (hq8.row HB27.out)
 have HB38 := Lib.hid (hq8.row HB37.out)
 have HQ8 := Lib.hid (HQ7.out.q hq8)
 have HF8 := Lib.hid (HF7.out.quiet hq8)
 have HP8 := Lib.hid (HP7.out.quiet hq8)
 have HZ8 := Lib.hid (Nat.lt_of_lt_of_le HZ7.out hq8.size)
 have hgb : w.heap.size + 1 + 1 + 1 < g ∧ hi ≤ g := ⟨by have := HZ7.out; omega, Nat.le_trans Hhi.out (Nat.le_trans HQ7.out.size hgg1)⟩
 have Hgb := Lib.hid hgb
 have hrs : (W8.setCell ⟨w.heap.size, 2, none⟩ (.slice (some ⟨g, 0, none⟩) f.pix.length cap)).heap[w.heap.size]? = some (.cells #[.int .i64 f.W, .int .i64 f.H, .slice (some ⟨g, 0, none⟩) f.pix.length cap] 27 (0, 0)) := heap_setCell_same W8 w.heap.size 2 _ _ _ HB08.out
 have hon : Only [w.heap.size] W8 (W8.setCell ⟨w.heap.size, 2, none⟩ (.slice (some ⟨g, 0, none⟩) f.pix.length cap)) := (Only.refl _ _).setCell (by simp) _
 have hq9 : Only [] w (W8.setCell ⟨w.heap.size, 2, none⟩ (.slice (some ⟨g, 0, none⟩) f.pix.length cap)) := HQ8.out.trans hon (U := []) (by simp) (fun x hx hl => by rw [List.mem_singleton] at hx; omega)
 have HB09 := Lib.hid hrs
 have HB19 := Lib.hid (hon.rowAt HB18.out (by simp))
 have HB29 := Lib.hid (hon.rowAt HB28.out (by simp; omega))
 have HB39 := Lib.hid (hon.rowAt HB38.out (by simp; omega))
 have HQ9 := Lib.hid hq9
 have HOw9 := Lib.hid ((hown.only hon (fun x hx => by rw [List.mem_singleton] at hx; subst hx; simp only [Value.ownBlock]; intro e; injection e with e; omega)).lower HQ7.out.size)
 have fz := frozen_of_row _ _ 2 _ _ HB08.out
 obtain ⟨s0, s1, s2⟩ := frame_cells HB09.out
 obtain ⟨v0, v1, v2⟩ := frame_cells HB19.out
 obtain ⟨r0, r1, r2⟩ := frame_cells HB08.out
 clear hq8 hown p0 p1 p2 hgg1 hgg2 hgb hrs hon hq9
 go_wp2_with (first | (refine wpList_load_row rfl (.tmp 11) 64 rfl rfl HB29.out Tryz.underlying64 rfl Hinf.out ?_) | fail)
 generalize hW9 : World.setCell _ _ _ = W9 at *
 clear hW9 s0 s1 s2 v0 v1 v2 r0 r1 r2 fz
 go_at_call 38
 refine (HLy.out W9 HQ9.out g cap HOw9.out Hgb.out.2).mono ?_
 rintro e W10 ⟨rfl, hown, hon⟩
 have HB010 := Lib.hid (hon.rowAt HB09.out (by have := Hgb.out.1; simp; omega))
 have HB310 := Lib.hid (hon.rowAt HB39.out (by have := Hgb.out.1; simp; omega))
 have HQ10 := Lib.hid (HQ9.out.trans hon (U := []) (by simp) (fun x hx hl => by rw [List.mem_singleton] at hx; have := Hgb.out.1; omega))
 have HOw10 := Lib.hid hown
 clear hown hon
 obtain ⟨s0, s1, s2⟩ := frame_cells HB010.out
 obtain ⟨z0, z1, z2⟩ := frame_cells HB310.out
 have fz0 := frozen_of_row _ _ 0 _ _ HB310.out
 have fz1 := frozen_of_row _ _ 1 _ _ HB310.out
 have fz2 := frozen_of_row _ _ 2 _ _ HB310.out
 go_wp2_with fail
 obtain ⟨hrow, hon⟩ := row3_set (x := .int .i64 f.W) (y := .int .i64 f.H) (z := .slice (some ⟨g, 0, none⟩) f.pix.length cap) HB310.out
 have hall := HQ10.out.trans hon (U := []) (by simp) (fun g hg hlt => by rw [List.mem_singleton] at hg; omega)
 refine bodyPost_ret (v := .tuple #[.agg #[.int .i64 f.W, .int .i64 f.H, .slice (some ⟨g, 0, none⟩) f.pix.length cap], .nilIface]) (results_cell_row2 Tryz.results27 _ _ (w.heap.size + 1 + 1 + 1) _ _ _ _ _ rfl rfl hrow Tryz.underlying27 rfl (by kernel_rfl)) rfl (HPost.out _ _ ⟨hall, g, cap, ?_, ?_⟩)
 ·exact qDBuild5
 ·have ho := HOw10.out.only hon (fun x hx => by rw [List.mem_singleton] at hx; subst hx; simp only [Value.ownBlock]; intro e; injection e with e; have := Hgb.out.1; omega)
  show Own _ _ _ _ (.slice _ (laySq _ _ _ _ _ _).pix.length _) (laySq _ _ _ _ _ _).pix
  rw [Int.toNat_natCast, HLW.out.1]
  exact ho
theorem build_any (hf : Ints .i64 lo1 hi1 w fv f.pix) (hp : Ints .i64 lo2 hi2 w pv prev.pix) (h : SqIn lo hi w lv vs L S) (hm : ms.length = 4) (hhi : hi ≤ w.heap.size) (hmk : ∀ x ∈ ms, InK .i64 x) (hL : L.length ≤ 1000000000) (hS : ∀ i, i < 4 → (S.getD i []).length ≤ 1000000000) (hls : S.length = 4) :
  Calls Tryz.prog 27 #[.agg #[.int .i64 f.W, .int .i64 f.H, fv], .agg #[.int .i64 prev.W, .int .i64 prev.H, pv], .int .i64 x, .int .i64 y, .int .i64 qp, .agg (sqL k mo ms vx vy lv vs).toArray] w (BuildP w (buildD f prev x y qp k mo ms vx vy L S)) := by
 unfold buildD
 cases hmay : mayF f with
 | false => simpa using build_form hf hp h hm hmay
 | true =>
  rw [if_neg (by simp)]
  by_cases hx8 : x.tmod 8 = 0
  ·by_cases hy8 : y.tmod 8 = 0
   ·cases hli : liesD f.W f.H x y 8 with
    | false => rw [if_pos (by simp)]; exact build_out hf hp h hm hmay hx8 hy8 hli
    | true =>
     by_cases hq0 : qp < 0
     ·rw [if_pos (by rintro ⟨-, -, -, a, -⟩; omega)]; exact build_qn hf hp h hm hmay hx8 hy8 hli hq0
     ·by_cases hqm : 15 < qp
      ·rw [if_pos (by rintro ⟨-, -, -, -, a⟩; omega)]; exact build_qg hf hp h hm hmay hx8 hy8 hli hq0 hqm
      ·rw [if_neg (by rw [Classical.not_not]; exact ⟨hx8, hy8, rfl, by omega, by omega⟩)]
       by_cases hk0 : k < 0
       ·rw [if_pos (by omega)]; exact build_kn hf hp h hm hmay hx8 hy8 hli hq0 hqm hk0
       ·by_cases hk3 : 3 < k
        ·rw [if_pos (by omega)]; exact build_kg hf hp h hm hmay hx8 hy8 hli hq0 hqm hk0 hk3
        ·rw [if_neg (by omega)]
         by_cases hk1 : k ≤ 1
         ·cases hma : matesB prev f.W f.H with
          | false => rw [if_pos ⟨hk1, rfl⟩]; exact build_mates hf hp h hm hmay hx8 hy8 hli hq0 hqm hk0 hk3 hk1 hma
          | true =>
           rw [if_neg (by simp)]
           cases hpc : partsC (formD k mo ms vx vy) (wideD k) (listsD k L S) with
           | some c => exact build_parts1 hf hp h hm hmay hx8 hy8 hli hq0 hqm hk0 hk3 hk1 hma hhi hmk hL hS hpc
           | none => exact build_ok1 hf hp h hm hmay hx8 hy8 hli hq0 hqm hk0 hk3 hk1 hma hhi hmk hL hS hls hpc
         ·rw [if_neg (fun a => hk1 a.1)]
          cases hpc : partsC (formD k mo ms vx vy) (wideD k) (listsD k L S) with
          | some c => exact build_parts2 hf hp h hm hmay hx8 hy8 hli hq0 hqm hk0 hk3 hk1 hhi hmk hL hS hpc
          | none => exact build_ok2 hf hp h hm hmay hx8 hy8 hli hq0 hqm hk0 hk3 hk1 hhi hmk hL hS hls hpc
   ·rw [if_pos (fun a => hy8 a.2.1)]; exact build_y hf hp h hm hmay hx8 hy8
  ·rw [if_pos (fun a => hx8 a.1)]; exact build_x hf hp h hm hmay hx8
end
end Go.Proofs.YthgpgbdkcdmbpaaGreatDoor
