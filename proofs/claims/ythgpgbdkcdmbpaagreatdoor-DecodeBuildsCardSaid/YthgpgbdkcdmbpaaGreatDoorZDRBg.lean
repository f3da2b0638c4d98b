/- kinref21.Build: of any square at any place of any frame, beside any other one. Conditions: the arguments read. -/
import Derived.Test.YthgpgbdkcdmbpaaGreatDoorZDRBo
import Derived.Test.YthgpgbdkcdmbpaaGreatDoorZDBuild
import Derived.Deep.DeepCutAuto
namespace Go.Proofs.YthgpgbdkcdmbpaaGreatDoor
open Go.RowKit
set_option linter.unusedVariables false
set_option linter.unusedSimpArgs false
theorem qDRBgt0 {p : Prop} (h : p := by intro wz hSw; obtain ⟨hS0, hS1, hS2, hS3, hS4, hS5, hS6, hS7, hS8⟩ := hSw; rw [run_load_rowK (.tmp 11) 70 (hr := hS8) (hu := Tryz.underlying70) (hi := Hinf.out)] <;> rfl) : p := h
theorem run_load_rowK {P : Program} {w : World} {o : Oper} {ev : Operand → Value} (x : Operand) (t : TypeId) (ho : o.op = .load t x) {g : Nat} {c : Array Value} {ty : TypeId} {fr : Nat × Nat} {d : TypeDesc} (hx : ev x = .pointer (some ⟨g, 0, none⟩)) (hr : w.heap[g]? = some (.cells c ty fr)) (hu : P.underlying t = some d)
  (hd : (match d with | .struct _ | .array _ _ => true | _ => false) = true) (hi : (P.info? t).map (·.size) = some c.size) : (execOp ev o).run P w = .ok (Next.value (.agg c)) w := by
 unfold execOp
 simp only [ho, hx, Instr.loadAt, Instr.sureAddr, Sem.run_bind, Sem.run_pure, Result.andThen_ok, run_loadVar_row w g ty t c fr d hr hu hd hi]
/-- what the document's Build hands back -/
def KBuildP (w : World) (r : Except Int FrameD) (e : Ending) (w' : World) : Prop :=
 Only [] w w' ∧ match r with
  | .ok f => ∃ g cap, e = .returned (.tuple #[.agg #[.int .i64 f.W, .int .i64 f.H, .slice (some ⟨g, 0, none⟩) f.pix.length cap], .agg #[.int .i64 0, .slice none 0 0]]) ∧ Own .i64 3 w.heap.size w' (.slice (some ⟨g, 0, none⟩) f.pix.length cap) f.pix
  | .error c => e = .returned (.tuple #[.agg #[.int .i64 0, .int .i64 0, .slice none 0 0], .agg #[.int .i64 c, .slice none 0 0]])
section
set_option maxRecDepth 100000
set_option maxHeartbeats 4000000
variable {lo1 hi1 lo2 hi2 lo hi : Nat} {pv qv lv : Value} {vs : List Value} {w : World} {f prev : FrameD} {x y qp k mo vx vy : Int} {ms L : List Int} {S : List (List Int)}
theorem qDRBg6 {p : Prop} (h : p := by
 refine tk 0 62 ?_
 refine tk 1 63 ?_
 refine rdy (rdn 2 (fun K hK => ?_) .nil)
 go_simp
 refine hK.out _ _ ?_ (fun hHeld => ?_)
 ·exact ⟨g0, g1⟩
 clear hK K
 try simp only [Act.put, List.setIfInBounds_toArray, List.set_cons_zero, List.set_cons_succ]
 refine rdy (rdn 3 (fun K hK => ?_) .nil)
 go_simp
 refine hK.out _ _ ?_ (fun hHeld => ?_)
 ·exact ⟨g2, g3⟩
 clear hK K
 try simp only [Act.put, List.setIfInBounds_toArray, List.set_cons_zero, List.set_cons_succ]
 refine wpAnyH_done (by kernel_rfl) ?_ _
 have hr1d : _ := hr1
 go_wp2_with fail
 exact bodyPost_ret (results_cell_cell Tryz.results28 _ _ (w.heap.size + 1 + 1 + 1) (w.heap.size + 1 + 1 + 1 + 1) _ _ _ _ _ _ _ _ rfl rfl hr1 hrow2 Tryz.underlying27 rfl (by kernel_rfl) Tryz.underlying45 rfl (err_info _ rfl)) rfl (HPost.out _ _ ⟨hall.drew, rfl⟩)) : p := h
theorem qDRBg1 {p : Prop} (h : p := by
 exact qDRBg6) : p := h
theorem kb_form (hf : Ints .i64 lo1 hi1 w pv f.pix) (hp : Ints .i64 lo2 hi2 w qv prev.pix) (h : SqIn lo hi w lv vs L S) (hm : ms.length = 4) (hmay : mayF f = false) :
  Calls Tryz.prog 28 #[.agg #[.int .i64 f.W, .int .i64 f.H, pv], .agg #[.int .i64 prev.W, .int .i64 prev.H, qv], .int .i64 x, .int .i64 y, .int .i64 qp, .agg (sqL k mo ms vx vy lv vs).toArray] w (KBuildP w (.error 2)) := by
 refine hidQ fun Q HPost => ?_
 obtain ⟨a, cap, rfl, -⟩ := hf.open
 obtain ⟨pa, pcap, rfl, -⟩ := hp.open
 have hkc : (sqL k mo ms vx vy lv vs).toArray[0]? = some (.int .i64 k) := sqL_kind
 have hinf : (Tryz.prog.info? 70).map (·.size) = some (sqL k mo ms vx vy lv vs).toArray.size := by rw [List.size_toArray, sqL_size hm h.len]; kernel_rfl
 generalize hsa : (sqL k mo ms vx vy lv vs).toArray = sa at *
 have Hinf := Lib.hid hinf
 have Hkc := Lib.hid hkc
 obtain ⟨hq1, HB0, HB1, HB2, HB3, HB4, HB5, Hz1⟩ := boxes6 w (.cells #[.int .i64 f.W, .int .i64 f.H, .slice a f.pix.length cap] 27) (.cells #[.int .i64 prev.W, .int .i64 prev.H, .slice pa prev.pix.length pcap] 27) (.cells sa 70) (.cells #[.int .i64 0, .int .i64 0, .slice none 0 0] 27) (.cells #[.int .i64 0, .slice none 0 0] 45) (.cells #[.int .i64 0, .slice none 0 0] 45)
 have HQ1 := Lib.hid hq1
 have HF := Lib.hid hf
 have HP := Lib.hid hp
 clear hf hp h hq1 hkc hinf hsa hm
 go_enter Tryz.func28, Tryz.ntmps28
 obtain ⟨r0, r1, r2⟩ := frame_cells HB0.out
 go_wp2_with fail
 generalize hW1 : World.alloc (World.alloc (World.alloc (World.alloc (World.alloc (World.alloc w _) _) _) _) _) _ = W1 at *
 clear hW1 r0 r1 r2
 go_at_call 30
 have hmy := kmay_any f.W f.H (HF.out.quiet HQ1.out)
 rw [show mayF ⟨f.W, f.H, f.pix⟩ = false from hmay] at hmy
 have Hmy := Lib.hid hmy
 clear hmy hmay
 refine Hmy.out.mono ?_
 rintro e w2 ⟨rfl, hq2⟩
 have HB02 := Lib.hid (hq2.row HB0.out)
 have HB12 := Lib.hid (hq2.row HB1.out)
 have HB22 := Lib.hid (hq2.row HB2.out)
 have HB32 := Lib.hid (hq2.row HB3.out)
 have HB42 := Lib.hid (hq2.row HB4.out)
 have HB52 := Lib.hid (hq2.row HB5.out)
 have HQ2 := Lib.hid (HQ1.out.q hq2)
 clear hq2
 go_wp2_with fail
 go_at_call 22
 refine (fail_any 2 _).mono ?_
 rintro e w3 ⟨rfl, hqf⟩
 have HB0w3 := Lib.hid (hqf.row HB02.out)
 have HB1w3 := Lib.hid (hqf.row HB12.out)
 have HB2w3 := Lib.hid (hqf.row HB22.out)
 have HB3w3 := Lib.hid (hqf.row HB32.out)
 have HB4w3 := Lib.hid (hqf.row HB42.out)
 have HB5w3 := Lib.hid (hqf.row HB52.out)
 have HQw3 := Lib.hid (HQ2.out.q hqf)
 clear hqf
 obtain ⟨z0, z1, y0, y1, -⟩ := row2 HB5w3.out
 go_upto_region 11 with (fail)
 obtain ⟨hrow5, hon5⟩ := row2_set (x := .int .i64 2) (y := .slice none 0 0) HB5w3.out
 have h3 := hon5.rowAt HB3w3.out (by simp; try omega)
 have h4 := hon5.rowAt HB4w3.out (by simp; try omega)
 have hq9 := HQw3.out.trans hon5 (U := []) (by simp) (fun g hg hlt => by rw [List.mem_singleton] at hg; omega)
 have HB39 := Lib.hid h3
 have HB49 := Lib.hid h4
 have HB59 := Lib.hid hrow5
 have HQ9 := Lib.hid hq9
 clear z0 z1 y0 y1 hrow5 hon5 h3 h4 hq9
 generalize hW9 : World.setCell (World.setCell _ _ _) _ _ = W9 at *
 clear hW9
 obtain ⟨e0, e1, -⟩ := row2 HB59.out
 go_wp2_with fail
 go_at_call 43
 refine (kok_any _ _ _).mono ?_
 rintro e wa ⟨rfl, hqa⟩
 have HB3a := Lib.hid (hqa.row HB39.out)
 have HB4a := Lib.hid (hqa.row HB49.out)
 have HB5a := Lib.hid (hqa.row HB59.out)
 have HQa := Lib.hid (HQ9.out.q hqa)
 clear hqa e0 e1
 obtain ⟨e0, e1, -⟩ := row2 HB5a.out
 obtain ⟨t0, t1, t2⟩ := frame_cells HB3a.out
 have fz0 := frozen_of_row _ _ 0 _ _ HB3a.out
 have fz1 := frozen_of_row _ _ 1 _ _ HB3a.out
 have fz2 := frozen_of_row _ _ 2 _ _ HB3a.out
 go_wp2_with fail
 obtain ⟨hrow1, hon1⟩ := row3_set (x := .int .i64 0) (y := .int .i64 0) (z := .slice none 0 0) HB3a.out
 have hr2 := hon1.rowAt HB4a.out (by simp; try omega)
 obtain ⟨hrow2, hon2⟩ := row2_set (x := .int .i64 2) (y := .slice none 0 0) hr2
 have hr1 := hon2.rowAt hrow1 (by simp; try omega)
 obtain ⟨u0, u1, u2, u3, -⟩ := row2 hr2
 have hall := (HQa.out.trans hon1 (U := []) (by simp) (fun g hg hlt => by rw [List.mem_singleton] at hg; omega)).trans hon2 (U := []) (by simp) (fun g hg hlt => by rw [List.mem_singleton] at hg; omega)
 have g0 := hon1.drew.cell e0 (by simp; try omega)
 have g1 := hon1.drew.cell e1 (by simp; try omega)
 have g2 := hon2.drew.cell (hon1.cell e0 (by simp; try omega)) (by simp; try omega)
 have g3 := hon2.drew.cell (hon1.cell e1 (by simp; try omega)) (by simp; try omega)
 refine wp_region_held_drew (S := (fun w' => w'.cell? ⟨w.heap.size + 1 + 1 + 1 + 1 + 1, 0, none⟩ = some (.int .i64 2) ∧ w'.cell? ⟨w.heap.size + 1 + 1 + 1 + 1 + 1, 1, none⟩ = some (.slice none 0 0))) (by kernel_rfl) ?_ (fun hHeld => ?_)
 ·exact ⟨e0, e1⟩
 exact qDRBg1
theorem qDRBg0 {p : Prop} (h : p := by
 have Hpl := Lib.hid hpl
 clear hpl hplc r0 r1 r2
 refine Hpl.out.mono ?_
 rintro e w3 ⟨rfl, hq3⟩
 have HB03 := Lib.hid (hq3.row HB02.out)
 have HB13 := Lib.hid (hq3.row HB12.out)
 have HB23 := Lib.hid (hq3.row HB22.out)
 have HB33 := Lib.hid (hq3.row HB32.out)
 have HB43 := Lib.hid (hq3.row HB42.out)
 have HB53 := Lib.hid (hq3.row HB52.out)
 have HQ3 := Lib.hid (HQ2.out.q hq3)
 clear hq3
 go_wp2_with fail
 go_at_call 22
 refine (fail_any 3 _).mono ?_
 rintro e w4 ⟨rfl, hqf⟩
 have HB0w4 := Lib.hid (hqf.row HB03.out)
 have HB1w4 := Lib.hid (hqf.row HB13.out)
 have HB2w4 := Lib.hid (hqf.row HB23.out)
 have HB3w4 := Lib.hid (hqf.row HB33.out)
 have HB4w4 := Lib.hid (hqf.row HB43.out)
 have HB5w4 := Lib.hid (hqf.row HB53.out)
 have HQw4 := Lib.hid (HQ3.out.q hqf)
 clear hqf
 obtain ⟨z0, z1, y0, y1, -⟩ := row2 HB5w4.out
 go_upto_region 11 with (fail)
 obtain ⟨hrow5, hon5⟩ := row2_set (x := .int .i64 3) (y := .slice none 0 0) HB5w4.out
 have h3 := hon5.rowAt HB3w4.out (by simp; try omega)
 have h4 := hon5.rowAt HB4w4.out (by simp; try omega)
 have hq9 := HQw4.out.trans hon5 (U := []) (by simp) (fun g hg hlt => by rw [List.mem_singleton] at hg; omega)
 have HB39 := Lib.hid h3
 have HB49 := Lib.hid h4
 have HB59 := Lib.hid hrow5
 have HQ9 := Lib.hid hq9
 clear z0 z1 y0 y1 hrow5 hon5 h3 h4 hq9
 generalize hW9 : World.setCell (World.setCell _ _ _) _ _ = W9 at *
 clear hW9
 obtain ⟨e0, e1, -⟩ := row2 HB59.out
 go_wp2_with fail
 go_at_call 43
 refine (kok_any _ _ _).mono ?_
 rintro e wa ⟨rfl, hqa⟩
 have HB3a := Lib.hid (hqa.row HB39.out)
 have HB4a := Lib.hid (hqa.row HB49.out)
 have HB5a := Lib.hid (hqa.row HB59.out)
 have HQa := Lib.hid (HQ9.out.q hqa)
 clear hqa e0 e1
 obtain ⟨e0, e1, -⟩ := row2 HB5a.out
 obtain ⟨t0, t1, t2⟩ := frame_cells HB3a.out
 have fz0 := frozen_of_row _ _ 0 _ _ HB3a.out
 have fz1 := frozen_of_row _ _ 1 _ _ HB3a.out
 have fz2 := frozen_of_row _ _ 2 _ _ HB3a.out
 go_wp2_with fail
 obtain ⟨hrow1, hon1⟩ := row3_set (x := .int .i64 0) (y := .int .i64 0) (z := .slice none 0 0) HB3a.out
 have hr2 := hon1.rowAt HB4a.out (by simp; try omega)
 obtain ⟨hrow2, hon2⟩ := row2_set (x := .int .i64 3) (y := .slice none 0 0) hr2
 have hr1 := hon2.rowAt hrow1 (by simp; try omega)
 obtain ⟨u0, u1, u2, u3, -⟩ := row2 hr2
 have hall := (HQa.out.trans hon1 (U := []) (by simp) (fun g hg hlt => by rw [List.mem_singleton] at hg; omega)).trans hon2 (U := []) (by simp) (fun g hg hlt => by rw [List.mem_singleton] at hg; omega)
 have g0 := hon1.drew.cell e0 (by simp; try omega)
 have g1 := hon1.drew.cell e1 (by simp; try omega)
 have g2 := hon2.drew.cell (hon1.cell e0 (by simp; try omega)) (by simp; try omega)
 have g3 := hon2.drew.cell (hon1.cell e1 (by simp; try omega)) (by simp; try omega)
 refine wp_region_held_drew (S := (fun w' => w'.cell? ⟨w.heap.size + 1 + 1 + 1 + 1 + 1, 0, none⟩ = some (.int .i64 3) ∧ w'.cell? ⟨w.heap.size + 1 + 1 + 1 + 1 + 1, 1, none⟩ = some (.slice none 0 0))) (by kernel_rfl) ?_ (fun hHeld => ?_)
 ·exact ⟨e0, e1⟩
 exact qDRBg6) : p := h
theorem kb_place (hf : Ints .i64 lo1 hi1 w pv f.pix) (hp : Ints .i64 lo2 hi2 w qv prev.pix) (h : SqIn lo hi w lv vs L S) (hm : ms.length = 4) (hmay : mayF f = true) (hplc : (decide (x.tmod 8 = 0) && decide (y.tmod 8 = 0) && liesD f.W f.H x y 8) = false) :
  Calls Tryz.prog 28 #[.agg #[.int .i64 f.W, .int .i64 f.H, pv], .agg #[.int .i64 prev.W, .int .i64 prev.H, qv], .int .i64 x, .int .i64 y, .int .i64 qp, .agg (sqL k mo ms vx vy lv vs).toArray] w (KBuildP w (.error 3)) := by
 refine hidQ fun Q HPost => ?_
 obtain ⟨a, cap, rfl, -⟩ := hf.open
 obtain ⟨pa, pcap, rfl, -⟩ := hp.open
 have hkc : (sqL k mo ms vx vy lv vs).toArray[0]? = some (.int .i64 k) := sqL_kind
 have hinf : (Tryz.prog.info? 70).map (·.size) = some (sqL k mo ms vx vy lv vs).toArray.size := by rw [List.size_toArray, sqL_size hm h.len]; kernel_rfl
 have hfo : FrOk f := mayF_iff.1 hmay
 have Hfo := Lib.hid hfo
 clear hfo
 generalize hsa : (sqL k mo ms vx vy lv vs).toArray = sa at *
 have Hinf := Lib.hid hinf
 have Hkc := Lib.hid hkc
 obtain ⟨hq1, HB0, HB1, HB2, HB3, HB4, HB5, Hz1⟩ := boxes6 w (.cells #[.int .i64 f.W, .int .i64 f.H, .slice a f.pix.length cap] 27) (.cells #[.int .i64 prev.W, .int .i64 prev.H, .slice pa prev.pix.length pcap] 27) (.cells sa 70) (.cells #[.int .i64 0, .int .i64 0, .slice none 0 0] 27) (.cells #[.int .i64 0, .slice none 0 0] 45) (.cells #[.int .i64 0, .slice none 0 0] 45)
 have HQ1 := Lib.hid hq1
 have HF := Lib.hid hf
 have HP := Lib.hid hp
 clear hf hp h hq1 hkc hinf hsa hm
 go_enter Tryz.func28, Tryz.ntmps28
 obtain ⟨r0, r1, r2⟩ := frame_cells HB0.out
 go_wp2_with fail
 generalize hW1 : World.alloc (World.alloc (World.alloc (World.alloc (World.alloc (World.alloc w _) _) _) _) _) _ = W1 at *
 clear hW1 r0 r1 r2
 go_at_call 30
 have hmy := kmay_any f.W f.H (HF.out.quiet HQ1.out)
 rw [show mayF ⟨f.W, f.H, f.pix⟩ = true from hmay] at hmy
 have Hmy := Lib.hid hmy
 clear hmy hmay
 refine Hmy.out.mono ?_
 rintro e w2 ⟨rfl, hq2⟩
 have HB02 := Lib.hid (hq2.row HB0.out)
 have HB12 := Lib.hid (hq2.row HB1.out)
 have HB22 := Lib.hid (hq2.row HB2.out)
 have HB32 := Lib.hid (hq2.row HB3.out)
 have HB42 := Lib.hid (hq2.row HB4.out)
 have HB52 := Lib.hid (hq2.row HB5.out)
 have HQ2 := Lib.hid (HQ1.out.q hq2)
 clear hq2
 obtain ⟨r0, r1, r2⟩ := frame_cells HB02.out
 go_wp2_with fail
 go_at_call 58
 have hpl := place_any f.W f.H x y (.slice a f.pix.length cap) w2 ⟨Hfo.out.w0, Hfo.out.w1⟩ ⟨Hfo.out.h0, Hfo.out.h1⟩
 rw [show (decide (x.tmod 8 = 0) && decide (y.tmod 8 = 0) && liesD f.W f.H x y 8) = false from hplc] at hpl
 exact qDRBg0
theorem qDRBg4 {p : Prop} (h : p := by
 refine hidQ fun Q HPost => ?_
 obtain ⟨a, cap, rfl, -⟩ := hf.open
 obtain ⟨pa, pcap, rfl, -⟩ := hp.open
 have hkc : (sqL k mo ms vx vy lv vs).toArray[0]? = some (.int .i64 k) := sqL_kind
 have hinf : (Tryz.prog.info? 70).map (·.size) = some (sqL k mo ms vx vy lv vs).toArray.size := by rw [List.size_toArray, sqL_size hm h.len]; kernel_rfl
 have hfo : FrOk f := mayF_iff.1 hmay
 have Hfo := Lib.hid hfo
 clear hfo
 generalize hsa : (sqL k mo ms vx vy lv vs).toArray = sa at *
 have Hinf := Lib.hid hinf
 have Hkc := Lib.hid hkc
 obtain ⟨hq1, HB0, HB1, HB2, HB3, HB4, HB5, Hz1⟩ := boxes6 w (.cells #[.int .i64 f.W, .int .i64 f.H, .slice a f.pix.length cap] 27) (.cells #[.int .i64 prev.W, .int .i64 prev.H, .slice pa prev.pix.length pcap] 27) (.cells sa 70) (.cells #[.int .i64 0, .int .i64 0, .slice none 0 0] 27) (.cells #[.int .i64 0, .slice none 0 0] 45) (.cells #[.int .i64 0, .slice none 0 0] 45)
 have HQ1 := Lib.hid hq1
 have HF := Lib.hid hf
 have HP := Lib.hid hp
 clear hf hp h hq1 hkc hinf hsa hm
 go_enter Tryz.func28, Tryz.ntmps28
 obtain ⟨r0, r1, r2⟩ := frame_cells HB0.out
 go_wp2_with fail
 generalize hW1 : World.alloc (World.alloc (World.alloc (World.alloc (World.alloc (World.alloc w _) _) _) _) _) _ = W1 at *
 clear hW1 r0 r1 r2
 go_at_call 30
 have hmy := kmay_any f.W f.H (HF.out.quiet HQ1.out)
 rw [show mayF ⟨f.W, f.H, f.pix⟩ = true from hmay] at hmy
 have Hmy := Lib.hid hmy
 clear hmy hmay
 refine Hmy.out.mono ?_
 rintro e w2 ⟨rfl, hq2⟩
 have HB02 := Lib.hid (hq2.row HB0.out)
 have HB12 := Lib.hid (hq2.row HB1.out)
 have HB22 := Lib.hid (hq2.row HB2.out)
 have HB32 := Lib.hid (hq2.row HB3.out)
 have HB42 := Lib.hid (hq2.row HB4.out)
 have HB52 := Lib.hid (hq2.row HB5.out)
 have HQ2 := Lib.hid (HQ1.out.q hq2)
 clear hq2
 obtain ⟨r0, r1, r2⟩ := frame_cells HB02.out
 go_wp2_with fail
 go_at_call 58
 have hpl := place_any f.W f.H x y (.slice a f.pix.length cap) w2 ⟨Hfo.out.w0, Hfo.out.w1⟩ ⟨Hfo.out.h0, Hfo.out.h1⟩
 rw [show (decide (x.tmod 8 = 0) && decide (y.tmod 8 = 0) && liesD f.W f.H x y 8) = true from hplc] at hpl
 exact qDRBg0) : p := h
theorem kb_qn (hf : Ints .i64 lo1 hi1 w pv f.pix) (hp : Ints .i64 lo2 hi2 w qv prev.pix) (h : SqIn lo hi w lv vs L S) (hm : ms.length = 4) (hmay : mayF f = true) (hplc : (decide (x.tmod 8 = 0) && decide (y.tmod 8 = 0) && liesD f.W f.H x y 8) = true) (hqn : qp < 0) :
  Calls Tryz.prog 28 #[.agg #[.int .i64 f.W, .int .i64 f.H, pv], .agg #[.int .i64 prev.W, .int .i64 prev.H, qv], .int .i64 x, .int .i64 y, .int .i64 qp, .agg (sqL k mo ms vx vy lv vs).toArray] w (KBuildP w (.error 3)) := by
 exact qDRBg4
theorem kb_qg (hf : Ints .i64 lo1 hi1 w pv f.pix) (hp : Ints .i64 lo2 hi2 w qv prev.pix) (h : SqIn lo hi w lv vs L S) (hm : ms.length = 4) (hmay : mayF f = true) (hplc : (decide (x.tmod 8 = 0) && decide (y.tmod 8 = 0) && liesD f.W f.H x y 8) = true) (hq0 : ¬ qp < 0) (hqg : 15 < qp) :
  Calls Tryz.prog 28 #[.agg #[.int .i64 f.W, .int .i64 f.H, pv], .agg #[.int .i64 prev.W, .int .i64 prev.H, qv], .int .i64 x, .int .i64 y, .int .i64 qp, .agg (sqL k mo ms vx vy lv vs).toArray] w (KBuildP w (.error 3)) := by
 exact qDRBg4
theorem qDRBg3 {p : Prop} (h : p := by
 refine hidQ fun Q HPost => ?_
 obtain ⟨a, cap, rfl, -⟩ := hf.open
 obtain ⟨pa, pcap, rfl, -⟩ := hp.open
 have hkc : (sqL k mo ms vx vy lv vs).toArray[0]? = some (.int .i64 k) := sqL_kind
 have hinf : (Tryz.prog.info? 70).map (·.size) = some (sqL k mo ms vx vy lv vs).toArray.size := by rw [List.size_toArray, sqL_size hm h.len]; kernel_rfl
 have hfo : FrOk f := mayF_iff.1 hmay
 have Hfo := Lib.hid hfo
 clear hfo
 generalize hsa : (sqL k mo ms vx vy lv vs).toArray = sa at *
 have Hinf := Lib.hid hinf
 have Hkc := Lib.hid hkc
 obtain ⟨hq1, HB0, HB1, HB2, HB3, HB4, HB5, Hz1⟩ := boxes6 w (.cells #[.int .i64 f.W, .int .i64 f.H, .slice a f.pix.length cap] 27) (.cells #[.int .i64 prev.W, .int .i64 prev.H, .slice pa prev.pix.length pcap] 27) (.cells sa 70) (.cells #[.int .i64 0, .int .i64 0, .slice none 0 0] 27) (.cells #[.int .i64 0, .slice none 0 0] 45) (.cells #[.int .i64 0, .slice none 0 0] 45)
 have HQ1 := Lib.hid hq1
 have HF := Lib.hid hf
 have HP := Lib.hid hp
 clear hf hp h hq1 hkc hinf hsa hm
 go_enter Tryz.func28, Tryz.ntmps28
 obtain ⟨r0, r1, r2⟩ := frame_cells HB0.out
 go_wp2_with fail
 generalize hW1 : World.alloc (World.alloc (World.alloc (World.alloc (World.alloc (World.alloc w _) _) _) _) _) _ = W1 at *
 clear hW1 r0 r1 r2
 go_at_call 30
 have hmy := kmay_any f.W f.H (HF.out.quiet HQ1.out)
 rw [show mayF ⟨f.W, f.H, f.pix⟩ = true from hmay] at hmy
 have Hmy := Lib.hid hmy
 clear hmy hmay
 refine Hmy.out.mono ?_
 rintro e w2 ⟨rfl, hq2⟩
 have HB02 := Lib.hid (hq2.row HB0.out)
 have HB12 := Lib.hid (hq2.row HB1.out)
 have HB22 := Lib.hid (hq2.row HB2.out)
 have HB32 := Lib.hid (hq2.row HB3.out)
 have HB42 := Lib.hid (hq2.row HB4.out)
 have HB52 := Lib.hid (hq2.row HB5.out)
 have HQ2 := Lib.hid (HQ1.out.q hq2)
 clear hq2
 obtain ⟨r0, r1, r2⟩ := frame_cells HB02.out
 go_wp2_with fail
 go_at_call 58
 have hpl := place_any f.W f.H x y (.slice a f.pix.length cap) w2 ⟨Hfo.out.w0, Hfo.out.w1⟩ ⟨Hfo.out.h0, Hfo.out.h1⟩
 rw [show (decide (x.tmod 8 = 0) && decide (y.tmod 8 = 0) && liesD f.W f.H x y 8) = true from hplc] at hpl
 have Hpl := Lib.hid hpl
 clear hpl hplc r0 r1 r2
 refine Hpl.out.mono ?_
 rintro e w3 ⟨rfl, hq3⟩
 have HB03 := Lib.hid (hq3.row HB02.out)
 have HB13 := Lib.hid (hq3.row HB12.out)
 have HB23 := Lib.hid (hq3.row HB22.out)
 have HB33 := Lib.hid (hq3.row HB32.out)
 have HB43 := Lib.hid (hq3.row HB42.out)
 have HB53 := Lib.hid (hq3.row HB52.out)
 have HQ3 := Lib.hid (HQ2.out.q hq3)
 clear hq3
 have c0 : w3.cell? ⟨w.heap.size + 1 + 1, 0, none⟩ = some (.int .i64 k) := by rw [cell_of_row _ _ _ _ _ _ HB23.out]; exact Hkc.out
 go_wp2_with fail
 go_at_call 22
 refine (fail_any 13 _).mono ?_
 rintro e w4 ⟨rfl, hqf⟩
 have HB0w4 := Lib.hid (hqf.row HB03.out)
 have HB1w4 := Lib.hid (hqf.row HB13.out)
 have HB2w4 := Lib.hid (hqf.row HB23.out)
 have HB3w4 := Lib.hid (hqf.row HB33.out)
 have HB4w4 := Lib.hid (hqf.row HB43.out)
 have HB5w4 := Lib.hid (hqf.row HB53.out)
 have HQw4 := Lib.hid (HQ3.out.q hqf)
 clear hqf
 obtain ⟨z0, z1, y0, y1, -⟩ := row2 HB5w4.out
 go_upto_region 11 with (fail)
 obtain ⟨hrow5, hon5⟩ := row2_set (x := .int .i64 13) (y := .slice none 0 0) HB5w4.out
 have h3 := hon5.rowAt HB3w4.out (by simp; try omega)
 have h4 := hon5.rowAt HB4w4.out (by simp; try omega)
 have hq9 := HQw4.out.trans hon5 (U := []) (by simp) (fun g hg hlt => by rw [List.mem_singleton] at hg; omega)
 have HB39 := Lib.hid h3
 have HB49 := Lib.hid h4
 have HB59 := Lib.hid hrow5
 have HQ9 := Lib.hid hq9
 clear z0 z1 y0 y1 hrow5 hon5 h3 h4 hq9
 generalize hW9 : World.setCell (World.setCell _ _ _) _ _ = W9 at *
 clear hW9
 obtain ⟨e0, e1, -⟩ := row2 HB59.out
 go_wp2_with fail
 go_at_call 43
 refine (kok_any _ _ _).mono ?_
 rintro e wa ⟨rfl, hqa⟩
 have HB3a := Lib.hid (hqa.row HB39.out)
 have HB4a := Lib.hid (hqa.row HB49.out)
 have HB5a := Lib.hid (hqa.row HB59.out)
 have HQa := Lib.hid (HQ9.out.q hqa)
 clear hqa e0 e1
 obtain ⟨e0, e1, -⟩ := row2 HB5a.out
 obtain ⟨t0, t1, t2⟩ := frame_cells HB3a.out
 have fz0 := frozen_of_row _ _ 0 _ _ HB3a.out
 have fz1 := frozen_of_row _ _ 1 _ _ HB3a.out
 have fz2 := frozen_of_row _ _ 2 _ _ HB3a.out
 go_wp2_with fail
 obtain ⟨hrow1, hon1⟩ := row3_set (x := .int .i64 0) (y := .int .i64 0) (z := .slice none 0 0) HB3a.out
 have hr2 := hon1.rowAt HB4a.out (by simp; try omega)
 obtain ⟨hrow2, hon2⟩ := row2_set (x := .int .i64 13) (y := .slice none 0 0) hr2
 have hr1 := hon2.rowAt hrow1 (by simp; try omega)
 obtain ⟨u0, u1, u2, u3, -⟩ := row2 hr2
 have hall := (HQa.out.trans hon1 (U := []) (by simp) (fun g hg hlt => by rw [List.mem_singleton] at hg; omega)).trans hon2 (U := []) (by simp) (fun g hg hlt => by rw [List.mem_singleton] at hg; omega)
 have g0 := hon1.drew.cell e0 (by simp; try omega)
 have g1 := hon1.drew.cell e1 (by simp; try omega)
 have g2 := hon2.drew.cell (hon1.cell e0 (by simp; try omega)) (by simp; try omega)
 have g3 := hon2.drew.cell (hon1.cell e1 (by simp; try omega)) (by simp; try omega)
 refine wp_region_held_drew (S := (fun w' => w'.cell? ⟨w.heap.size + 1 + 1 + 1 + 1 + 1, 0, none⟩ = some (.int .i64 13) ∧ w'.cell? ⟨w.heap.size + 1 + 1 + 1 + 1 + 1, 1, none⟩ = some (.slice none 0 0))) (by kernel_rfl) ?_ (fun hHeld => ?_)
 ·exact ⟨e0, e1⟩
 exact qDRBg1) : p := h
theorem kb_kn (hf : Ints .i64 lo1 hi1 w pv f.pix) (hp : Ints .i64 lo2 hi2 w qv prev.pix) (h : SqIn lo hi w lv vs L S) (hm : ms.length = 4) (hmay : mayF f = true) (hplc : (decide (x.tmod 8 = 0) && decide (y.tmod 8 = 0) && liesD f.W f.H x y 8) = true) (hq0 : ¬ qp < 0) (hqm : ¬ 15 < qp) (hkn : k < 0) :
  Calls Tryz.prog 28 #[.agg #[.int .i64 f.W, .int .i64 f.H, pv], .agg #[.int .i64 prev.W, .int .i64 prev.H, qv], .int .i64 x, .int .i64 y, .int .i64 qp, .agg (sqL k mo ms vx vy lv vs).toArray] w (KBuildP w (.error 13)) := by
 exact qDRBg3
theorem kb_kg (hf : Ints .i64 lo1 hi1 w pv f.pix) (hp : Ints .i64 lo2 hi2 w qv prev.pix) (h : SqIn lo hi w lv vs L S) (hm : ms.length = 4) (hmay : mayF f = true) (hplc : (decide (x.tmod 8 = 0) && decide (y.tmod 8 = 0) && liesD f.W f.H x y 8) = true) (hq0 : ¬ qp < 0) (hqm : ¬ 15 < qp) (hk0 : ¬ k < 0) (hkg : 3 < k) :
  Calls Tryz.prog 28 #[.agg #[.int .i64 f.W, .int .i64 f.H, pv], .agg #[.int .i64 prev.W, .int .i64 prev.H, qv], .int .i64 x, .int .i64 y, .int .i64 qp, .agg (sqL k mo ms vx vy lv vs).toArray] w (KBuildP w (.error 13)) := by
 exact qDRBg3
theorem kb_leans (hf : Ints .i64 lo1 hi1 w pv f.pix) (hp : Ints .i64 lo2 hi2 w qv prev.pix) (h : SqIn lo hi w lv vs L S) (hm : ms.length = 4) (hmay : mayF f = true) (hplc : (decide (x.tmod 8 = 0) && decide (y.tmod 8 = 0) && liesD f.W f.H x y 8) = true) (hq0 : ¬ qp < 0) (hqm : ¬ 15 < qp) (hk0 : ¬ k < 0) (hk3 : ¬ 3 < k) (hk2 : k < 2) (hma : matesB prev f.W f.H = false) :
  Calls Tryz.prog 28 #[.agg #[.int .i64 f.W, .int .i64 f.H, pv], .agg #[.int .i64 prev.W, .int .i64 prev.H, qv], .int .i64 x, .int .i64 y, .int .i64 qp, .agg (sqL k mo ms vx vy lv vs).toArray] w (KBuildP w (.error 12)) := by
 refine hidQ fun Q HPost => ?_
 obtain ⟨a, cap, rfl, -⟩ := hf.open
 obtain ⟨pa, pcap, rfl, -⟩ := hp.open
 have hkc : (sqL k mo ms vx vy lv vs).toArray[0]? = some (.int .i64 k) := sqL_kind
 have hinf : (Tryz.prog.info? 70).map (·.size) = some (sqL k mo ms vx vy lv vs).toArray.size := by rw [List.size_toArray, sqL_size hm h.len]; kernel_rfl
 have hfo : FrOk f := mayF_iff.1 hmay
 have Hfo := Lib.hid hfo
 clear hfo
 generalize hsa : (sqL k mo ms vx vy lv vs).toArray = sa at *
 have Hinf := Lib.hid hinf
 have Hkc := Lib.hid hkc
 obtain ⟨hq1, HB0, HB1, HB2, HB3, HB4, HB5, Hz1⟩ := boxes6 w (.cells #[.int .i64 f.W, .int .i64 f.H, .slice a f.pix.length cap] 27) (.cells #[.int .i64 prev.W, .int .i64 prev.H, .slice pa prev.pix.length pcap] 27) (.cells sa 70) (.cells #[.int .i64 0, .int .i64 0, .slice none 0 0] 27) (.cells #[.int .i64 0, .slice none 0 0] 45) (.cells #[.int .i64 0, .slice none 0 0] 45)
 have HQ1 := Lib.hid hq1
 have HF := Lib.hid hf
 have HP := Lib.hid hp
 clear hf hp h hq1 hkc hinf hsa hm
 go_enter Tryz.func28, Tryz.ntmps28
 obtain ⟨r0, r1, r2⟩ := frame_cells HB0.out
 go_wp2_with fail
 generalize hW1 : World.alloc (World.alloc (World.alloc (World.alloc (World.alloc (World.alloc w _) _) _) _) _) _ = W1 at *
 clear hW1 r0 r1 r2
 go_at_call 30
 have hmy := kmay_any f.W f.H (HF.out.quiet HQ1.out)
 rw [show mayF ⟨f.W, f.H, f.pix⟩ = true from hmay] at hmy
 have Hmy := Lib.hid hmy
 clear hmy hmay
 refine Hmy.out.mono ?_
 rintro e w2 ⟨rfl, hq2⟩
 have HB02 := Lib.hid (hq2.row HB0.out)
 have HB12 := Lib.hid (hq2.row HB1.out)
 have HB22 := Lib.hid (hq2.row HB2.out)
 have HB32 := Lib.hid (hq2.row HB3.out)
 have HB42 := Lib.hid (hq2.row HB4.out)
 have HB52 := Lib.hid (hq2.row HB5.out)
 have HQ2 := Lib.hid (HQ1.out.q hq2)
 clear hq2
 obtain ⟨r0, r1, r2⟩ := frame_cells HB02.out
 go_wp2_with fail
 go_at_call 58
 have hpl := place_any f.W f.H x y (.slice a f.pix.length cap) w2 ⟨Hfo.out.w0, Hfo.out.w1⟩ ⟨Hfo.out.h0, Hfo.out.h1⟩
 rw [show (decide (x.tmod 8 = 0) && decide (y.tmod 8 = 0) && liesD f.W f.H x y 8) = true from hplc] at hpl
 have Hpl := Lib.hid hpl
 clear hpl hplc r0 r1 r2
 refine Hpl.out.mono ?_
 rintro e w3 ⟨rfl, hq3⟩
 have HB03 := Lib.hid (hq3.row HB02.out)
 have HB13 := Lib.hid (hq3.row HB12.out)
 have HB23 := Lib.hid (hq3.row HB22.out)
 have HB33 := Lib.hid (hq3.row HB32.out)
 have HB43 := Lib.hid (hq3.row HB42.out)
 have HB53 := Lib.hid (hq3.row HB52.out)
 have HQ3 := Lib.hid (HQ2.out.q hq3)
 clear hq3
 have c0 : w3.cell? ⟨w.heap.size + 1 + 1, 0, none⟩ = some (.int .i64 k) := by rw [cell_of_row _ _ _ _ _ _ HB23.out]; exact Hkc.out
 obtain ⟨r0, r1, r2⟩ := frame_cells HB03.out
 obtain ⟨p0, p1, p2⟩ := frame_cells HB13.out
 go_wp2_with fail
 go_at_call 49
 have hle := leans_any prev.W prev.H f.W f.H (.slice a f.pix.length cap) (HP.out.quiet (HQ3.out))
 rw [show matesB ⟨prev.W, prev.H, prev.pix⟩ f.W f.H = false from hma] at hle
 have Hle := Lib.hid hle
 clear hle hma r0 r1 r2 p0 p1 p2 c0
 refine Hle.out.mono ?_
 rintro e w4 ⟨rfl, hq4⟩
 have HB04 := Lib.hid (hq4.row HB03.out)
 have HB14 := Lib.hid (hq4.row HB13.out)
 have HB24 := Lib.hid (hq4.row HB23.out)
 have HB34 := Lib.hid (hq4.row HB33.out)
 have HB44 := Lib.hid (hq4.row HB43.out)
 have HB54 := Lib.hid (hq4.row HB53.out)
 have HQ4 := Lib.hid (HQ3.out.q hq4)
 clear hq4
 go_wp2_with fail
 go_at_call 22
 refine (fail_any 12 _).mono ?_
 rintro e w5 ⟨rfl, hqf⟩
 have HB0w5 := Lib.hid (hqf.row HB04.out)
 have HB1w5 := Lib.hid (hqf.row HB14.out)
 have HB2w5 := Lib.hid (hqf.row HB24.out)
 have HB3w5 := Lib.hid (hqf.row HB34.out)
 have HB4w5 := Lib.hid (hqf.row HB44.out)
 have HB5w5 := Lib.hid (hqf.row HB54.out)
 have HQw5 := Lib.hid (HQ4.out.q hqf)
 clear hqf
 obtain ⟨z0, z1, y0, y1, -⟩ := row2 HB5w5.out
 go_upto_region 11 with (fail)
 obtain ⟨hrow5, hon5⟩ := row2_set (x := .int .i64 12) (y := .slice none 0 0) HB5w5.out
 have h3 := hon5.rowAt HB3w5.out (by simp; try omega)
 have h4 := hon5.rowAt HB4w5.out (by simp; try omega)
 have hq9 := HQw5.out.trans hon5 (U := []) (by simp) (fun g hg hlt => by rw [List.mem_singleton] at hg; omega)
 have HB39 := Lib.hid h3
 have HB49 := Lib.hid h4
 have HB59 := Lib.hid hrow5
 have HQ9 := Lib.hid hq9
 clear z0 z1 y0 y1 hrow5 hon5 h3 h4 hq9
 generalize hW9 : World.setCell (World.setCell _ _ _) _ _ = W9 at *
 clear hW9
 obtain ⟨e0, e1, -⟩ := row2 HB59.out
 go_wp2_with fail
 go_at_call 43
 refine (kok_any _ _ _).mono ?_
 rintro e wa ⟨rfl, hqa⟩
 have HB3a := Lib.hid (hqa.row HB39.out)
 have HB4a := Lib.hid (hqa.row HB49.out)
 have HB5a := Lib.hid (hqa.row HB59.out)
 have HQa := Lib.hid (HQ9.out.q hqa)
 clear hqa e0 e1
 obtain ⟨e0, e1, -⟩ := row2 HB5a.out
 obtain ⟨t0, t1, t2⟩ := frame_cells HB3a.out
 have fz0 := frozen_of_row _ _ 0 _ _ HB3a.out
 have fz1 := frozen_of_row _ _ 1 _ _ HB3a.out
 have fz2 := frozen_of_row _ _ 2 _ _ HB3a.out
 go_wp2_with fail
 obtain ⟨hrow1, hon1⟩ := row3_set (x := .int .i64 0) (y := .int .i64 0) (z := .slice none 0 0) HB3a.out
 have hr2 := hon1.rowAt HB4a.out (by simp; try omega)
 obtain ⟨hrow2, hon2⟩ := row2_set (x := .int .i64 12) (y := .slice none 0 0) hr2
 have hr1 := hon2.rowAt hrow1 (by simp; try omega)
 obtain ⟨u0, u1, u2, u3, -⟩ := row2 hr2
 have hall := (HQa.out.trans hon1 (U := []) (by simp) (fun g hg hlt => by rw [List.mem_singleton] at hg; omega)).trans hon2 (U := []) (by simp) (fun g hg hlt => by rw [List.mem_singleton] at hg; omega)
 have g0 := hon1.drew.cell e0 (by simp; try omega)
 have g1 := hon1.drew.cell e1 (by simp; try omega)
 have g2 := hon2.drew.cell (hon1.cell e0 (by simp; try omega)) (by simp; try omega)
 have g3 := hon2.drew.cell (hon1.cell e1 (by simp; try omega)) (by simp; try omega)
 refine wp_region_held_drew (S := (fun w' => w'.cell? ⟨w.heap.size + 1 + 1 + 1 + 1 + 1, 0, none⟩ = some (.int .i64 12) ∧ w'.cell? ⟨w.heap.size + 1 + 1 + 1 + 1 + 1, 1, none⟩ = some (.slice none 0 0))) (by kernel_rfl) ?_ (fun hHeld => ?_)
 ·exact ⟨e0, e1⟩
 exact qDRBg1
theorem qDRBg5 {p : Prop} (h : p := by
 have HB39 := Lib.hid h3
 have HB49 := Lib.hid h4
 have HB59 := Lib.hid hrow5
 have HQ9 := Lib.hid hq9
 clear z0 z1 y0 y1 hrow5 hon5 h3 h4 hq9
 generalize hW9 : World.setCell (World.setCell _ _ _) _ _ = W9 at *
 clear hW9
 obtain ⟨e0, e1, -⟩ := row2 HB59.out
 go_wp2_with fail
 go_at_call 43
 refine (kok_any _ _ _).mono ?_
 rintro e wa ⟨rfl, hqa⟩
 have HB3a := Lib.hid (hqa.row HB39.out)
 have HB4a := Lib.hid (hqa.row HB49.out)
 have HB5a := Lib.hid (hqa.row HB59.out)
 have HQa := Lib.hid (HQ9.out.q hqa)
 clear hqa e0 e1
 have hcb : (c == 0) = false := by rw [beq_eq_false_iff_ne]; exact Hc.out
 obtain ⟨e0, e1, -⟩ := row2 HB5a.out
 obtain ⟨t0, t1, t2⟩ := frame_cells HB3a.out
 have fz0 := frozen_of_row _ _ 0 _ _ HB3a.out
 have fz1 := frozen_of_row _ _ 1 _ _ HB3a.out
 have fz2 := frozen_of_row _ _ 2 _ _ HB3a.out
 go_wp2_with fail
 obtain ⟨hrow1, hon1⟩ := row3_set (x := .int .i64 0) (y := .int .i64 0) (z := .slice none 0 0) HB3a.out
 have hr2 := hon1.rowAt HB4a.out (by simp; try omega)
 obtain ⟨hrow2, hon2⟩ := row2_set (x := .int .i64 c) (y := .slice none 0 0) hr2
 have hr1 := hon2.rowAt hrow1 (by simp; try omega)
 obtain ⟨u0, u1, u2, u3, -⟩ := row2 hr2
 have hall := (HQa.out.trans hon1 (U := []) (by simp) (fun g hg hlt => by rw [List.mem_singleton] at hg; omega)).trans hon2 (U := []) (by simp) (fun g hg hlt => by rw [List.mem_singleton] at hg; omega)
 have g0 := hon1.drew.cell e0 (by simp; try omega)
 have g1 := hon1.drew.cell e1 (by simp; try omega)
 have g2 := hon2.drew.cell (hon1.cell e0 (by simp; try omega)) (by simp; try omega)
 have g3 := hon2.drew.cell (hon1.cell e1 (by simp; try omega)) (by simp; try omega)
 refine wp_region_held_drew (S := (fun w' => w'.cell? ⟨w.heap.size + 1 + 1 + 1 + 1 + 1, 0, none⟩ = some (.int .i64 c) ∧ w'.cell? ⟨w.heap.size + 1 + 1 + 1 + 1 + 1, 1, none⟩ = some (.slice none 0 0))) (by kernel_rfl) ?_ (fun hHeld => ?_)
 ·exact ⟨e0, e1⟩
 exact qDRBg1) : p := h
theorem kb_bounds1 (hf : Ints .i64 lo1 hi1 w pv f.pix) (hp : Ints .i64 lo2 hi2 w qv prev.pix) (h : SqIn lo hi w lv vs L S) (hm : ms.length = 4) (hmay : mayF f = true) (hplc : (decide (x.tmod 8 = 0) && decide (y.tmod 8 = 0) && liesD f.W f.H x y 8) = true) (hq0 : ¬ qp < 0) (hqm : ¬ 15 < qp) (hk0 : ¬ k < 0) (hk3 : ¬ 3 < k) (hmk : ∀ x ∈ ms, InK .i64 x) {c : Int} (hc : c ≠ 0) (hpc : partsC (formD k mo ms vx vy) (wideD k) (listsD k L S) = some c) (hk2 : k < 2) (hma : matesB prev f.W f.H = true) :
  Calls Tryz.prog 28 #[.agg #[.int .i64 f.W, .int .i64 f.H, pv], .agg #[.int .i64 prev.W, .int .i64 prev.H, qv], .int .i64 x, .int .i64 y, .int .i64 qp, .agg (sqL k mo ms vx vy lv vs).toArray] w (KBuildP w (.error c)) := by
 refine hidQ fun Q HPost => ?_
 obtain ⟨a, cap, rfl, -⟩ := hf.open
 obtain ⟨pa, pcap, rfl, -⟩ := hp.open
 have hkc : (sqL k mo ms vx vy lv vs).toArray[0]? = some (.int .i64 k) := sqL_kind
 have hinf : (Tryz.prog.info? 70).map (·.size) = some (sqL k mo ms vx vy lv vs).toArray.size := by rw [List.size_toArray, sqL_size hm h.len]; kernel_rfl
 have hfo : FrOk f := mayF_iff.1 hmay
 have Hfo := Lib.hid hfo
 clear hfo
 have HBo := Lib.hid (fun (wx : World) (o : Only [] w wx) => kbounds_any (w := wx) (k := k) (mo := mo) (vx := vx) (vy := vy) hm (h.only o (by simp)) hmk ⟨by omega, by omega⟩)
 rw [hpc] at HBo
 rw [show codeC (some c) = c from rfl] at HBo
 have Hc := Lib.hid hc
 clear hc hpc
 generalize hsa : (sqL k mo ms vx vy lv vs).toArray = sa at *
 have Hinf := Lib.hid hinf
 have Hkc := Lib.hid hkc
 obtain ⟨hq1, HB0, HB1, HB2, HB3, HB4, HB5, Hz1⟩ := boxes6 w (.cells #[.int .i64 f.W, .int .i64 f.H, .slice a f.pix.length cap] 27) (.cells #[.int .i64 prev.W, .int .i64 prev.H, .slice pa prev.pix.length pcap] 27) (.cells sa 70) (.cells #[.int .i64 0, .int .i64 0, .slice none 0 0] 27) (.cells #[.int .i64 0, .slice none 0 0] 45) (.cells #[.int .i64 0, .slice none 0 0] 45)
 have HQ1 := Lib.hid hq1
 have HF := Lib.hid hf
 have HP := Lib.hid hp
 clear hf hp h hq1 hkc hinf hsa hm
 go_enter Tryz.func28, Tryz.ntmps28
 obtain ⟨r0, r1, r2⟩ := frame_cells HB0.out
 go_wp2_with fail
 generalize hW1 : World.alloc (World.alloc (World.alloc (World.alloc (World.alloc (World.alloc w _) _) _) _) _) _ = W1 at *
 clear hW1 r0 r1 r2
 go_at_call 30
 have hmy := kmay_any f.W f.H (HF.out.quiet HQ1.out)
 rw [show mayF ⟨f.W, f.H, f.pix⟩ = true from hmay] at hmy
 have Hmy := Lib.hid hmy
 clear hmy hmay
 refine Hmy.out.mono ?_
 rintro e w2 ⟨rfl, hq2⟩
 have HB02 := Lib.hid (hq2.row HB0.out)
 have HB12 := Lib.hid (hq2.row HB1.out)
 have HB22 := Lib.hid (hq2.row HB2.out)
 have HB32 := Lib.hid (hq2.row HB3.out)
 have HB42 := Lib.hid (hq2.row HB4.out)
 have HB52 := Lib.hid (hq2.row HB5.out)
 have HQ2 := Lib.hid (HQ1.out.q hq2)
 clear hq2
 obtain ⟨r0, r1, r2⟩ := frame_cells HB02.out
 go_wp2_with fail
 go_at_call 58
 have hpl := place_any f.W f.H x y (.slice a f.pix.length cap) w2 ⟨Hfo.out.w0, Hfo.out.w1⟩ ⟨Hfo.out.h0, Hfo.out.h1⟩
 rw [show (decide (x.tmod 8 = 0) && decide (y.tmod 8 = 0) && liesD f.W f.H x y 8) = true from hplc] at hpl
 have Hpl := Lib.hid hpl
 clear hpl hplc r0 r1 r2
 refine Hpl.out.mono ?_
 rintro e w3 ⟨rfl, hq3⟩
 have HB03 := Lib.hid (hq3.row HB02.out)
 have HB13 := Lib.hid (hq3.row HB12.out)
 have HB23 := Lib.hid (hq3.row HB22.out)
 have HB33 := Lib.hid (hq3.row HB32.out)
 have HB43 := Lib.hid (hq3.row HB42.out)
 have HB53 := Lib.hid (hq3.row HB52.out)
 have HQ3 := Lib.hid (HQ2.out.q hq3)
 clear hq3
 have c0 : w3.cell? ⟨w.heap.size + 1 + 1, 0, none⟩ = some (.int .i64 k) := by rw [cell_of_row _ _ _ _ _ _ HB23.out]; exact Hkc.out
 obtain ⟨r0, r1, r2⟩ := frame_cells HB03.out
 obtain ⟨p0, p1, p2⟩ := frame_cells HB13.out
 go_wp2_with fail
 go_at_call 49
 have hle := leans_any prev.W prev.H f.W f.H (.slice a f.pix.length cap) (HP.out.quiet (HQ3.out))
 rw [show matesB ⟨prev.W, prev.H, prev.pix⟩ f.W f.H = true from hma] at hle
 have Hle := Lib.hid hle
 clear hle hma r0 r1 r2 p0 p1 p2 c0
 refine Hle.out.mono ?_
 rintro e w4 ⟨rfl, hq4⟩
 have HB04 := Lib.hid (hq4.row HB03.out)
 have HB14 := Lib.hid (hq4.row HB13.out)
 have HB24 := Lib.hid (hq4.row HB23.out)
 have HB34 := Lib.hid (hq4.row HB33.out)
 have HB44 := Lib.hid (hq4.row HB43.out)
 have HB54 := Lib.hid (hq4.row HB53.out)
 have HQ4 := Lib.hid (HQ3.out.q hq4)
 clear hq4
 go_wp2_with (first | (refine wpList_load_row rfl (.tmp 11) 70 rfl rfl HB24.out Tryz.underlying70 rfl Hinf.out ?_) | fail)
 go_at_call 59
 refine (HBo.out _ HQ4.out).mono ?_
 rintro e w5 ⟨rfl, hqf⟩
 have HB0w5 := Lib.hid (hqf.row HB04.out)
 have HB1w5 := Lib.hid (hqf.row HB14.out)
 have HB2w5 := Lib.hid (hqf.row HB24.out)
 have HB3w5 := Lib.hid (hqf.row HB34.out)
 have HB4w5 := Lib.hid (hqf.row HB44.out)
 have HB5w5 := Lib.hid (hqf.row HB54.out)
 have HQw5 := Lib.hid (HQ4.out.q hqf)
 clear hqf
 obtain ⟨z0, z1, y0, y1, -⟩ := row2 HB5w5.out
 go_upto_region 11 with (fail)
 obtain ⟨hrow5, hon5⟩ := row2_set (x := .int .i64 c) (y := .slice none 0 0) HB5w5.out
 have h3 := hon5.rowAt HB3w5.out (by simp; try omega)
 have h4 := hon5.rowAt HB4w5.out (by simp; try omega)
 have hq9 := HQw5.out.trans hon5 (U := []) (by simp) (fun g hg hlt => by rw [List.mem_singleton] at hg; omega)
 exact qDRBg5
theorem kb_bounds2 (hf : Ints .i64 lo1 hi1 w pv f.pix) (hp : Ints .i64 lo2 hi2 w qv prev.pix) (h : SqIn lo hi w lv vs L S) (hm : ms.length = 4) (hmay : mayF f = true) (hplc : (decide (x.tmod 8 = 0) && decide (y.tmod 8 = 0) && liesD f.W f.H x y 8) = true) (hq0 : ¬ qp < 0) (hqm : ¬ 15 < qp) (hk0 : ¬ k < 0) (hk3 : ¬ 3 < k) (hmk : ∀ x ∈ ms, InK .i64 x) {c : Int} (hc : c ≠ 0) (hpc : partsC (formD k mo ms vx vy) (wideD k) (listsD k L S) = some c) (hk2 : ¬ k < 2) :
  Calls Tryz.prog 28 #[.agg #[.int .i64 f.W, .int .i64 f.H, pv], .agg #[.int .i64 prev.W, .int .i64 prev.H, qv], .int .i64 x, .int .i64 y, .int .i64 qp, .agg (sqL k mo ms vx vy lv vs).toArray] w (KBuildP w (.error c)) := by
 refine hidQ fun Q HPost => ?_
 obtain ⟨a, cap, rfl, -⟩ := hf.open
 obtain ⟨pa, pcap, rfl, -⟩ := hp.open
 have hkc : (sqL k mo ms vx vy lv vs).toArray[0]? = some (.int .i64 k) := sqL_kind
 have hinf : (Tryz.prog.info? 70).map (·.size) = some (sqL k mo ms vx vy lv vs).toArray.size := by rw [List.size_toArray, sqL_size hm h.len]; kernel_rfl
 have hfo : FrOk f := mayF_iff.1 hmay
 have Hfo := Lib.hid hfo
 clear hfo
 have HBo := Lib.hid (fun (wx : World) (o : Only [] w wx) => kbounds_any (w := wx) (k := k) (mo := mo) (vx := vx) (vy := vy) hm (h.only o (by simp)) hmk ⟨by omega, by omega⟩)
 rw [hpc] at HBo
 rw [show codeC (some c) = c from rfl] at HBo
 have Hc := Lib.hid hc
 clear hc hpc
 generalize hsa : (sqL k mo ms vx vy lv vs).toArray = sa at *
 have Hinf := Lib.hid hinf
 have Hkc := Lib.hid hkc
 obtain ⟨hq1, HB0, HB1, HB2, HB3, HB4, HB5, Hz1⟩ := boxes6 w (.cells #[.int .i64 f.W, .int .i64 f.H, .slice a f.pix.length cap] 27) (.cells #[.int .i64 prev.W, .int .i64 prev.H, .slice pa prev.pix.length pcap] 27) (.cells sa 70) (.cells #[.int .i64 0, .int .i64 0, .slice none 0 0] 27) (.cells #[.int .i64 0, .slice none 0 0] 45) (.cells #[.int .i64 0, .slice none 0 0] 45)
 have HQ1 := Lib.hid hq1
 have HF := Lib.hid hf
 have HP := Lib.hid hp
 clear hf hp h hq1 hkc hinf hsa hm
 go_enter Tryz.func28, Tryz.ntmps28
 obtain ⟨r0, r1, r2⟩ := frame_cells HB0.out
 go_wp2_with fail
 generalize hW1 : World.alloc (World.alloc (World.alloc (World.alloc (World.alloc (World.alloc w _) _) _) _) _) _ = W1 at *
 clear hW1 r0 r1 r2
 go_at_call 30
 have hmy := kmay_any f.W f.H (HF.out.quiet HQ1.out)
 rw [show mayF ⟨f.W, f.H, f.pix⟩ = true from hmay] at hmy
 have Hmy := Lib.hid hmy
 clear hmy hmay
 refine Hmy.out.mono ?_
 rintro e w2 ⟨rfl, hq2⟩
 have HB02 := Lib.hid (hq2.row HB0.out)
 have HB12 := Lib.hid (hq2.row HB1.out)
 have HB22 := Lib.hid (hq2.row HB2.out)
 have HB32 := Lib.hid (hq2.row HB3.out)
 have HB42 := Lib.hid (hq2.row HB4.out)
 have HB52 := Lib.hid (hq2.row HB5.out)
 have HQ2 := Lib.hid (HQ1.out.q hq2)
 clear hq2
 obtain ⟨r0, r1, r2⟩ := frame_cells HB02.out
 go_wp2_with fail
 go_at_call 58
 have hpl := place_any f.W f.H x y (.slice a f.pix.length cap) w2 ⟨Hfo.out.w0, Hfo.out.w1⟩ ⟨Hfo.out.h0, Hfo.out.h1⟩
 rw [show (decide (x.tmod 8 = 0) && decide (y.tmod 8 = 0) && liesD f.W f.H x y 8) = true from hplc] at hpl
 have Hpl := Lib.hid hpl
 clear hpl hplc r0 r1 r2
 refine Hpl.out.mono ?_
 rintro e w3 ⟨rfl, hq3⟩
 have HB03 := Lib.hid (hq3.row HB02.out)
 have HB13 := Lib.hid (hq3.row HB12.out)
 have HB23 := Lib.hid (hq3.row HB22.out)
 have HB33 := Lib.hid (hq3.row HB32.out)
 have HB43 := Lib.hid (hq3.row HB42.out)
 have HB53 := Lib.hid (hq3.row HB52.out)
 have HQ3 := Lib.hid (HQ2.out.q hq3)
 clear hq3
 have c0 : w3.cell? ⟨w.heap.size + 1 + 1, 0, none⟩ = some (.int .i64 k) := by rw [cell_of_row _ _ _ _ _ _ HB23.out]; exact Hkc.out
 go_wp2_with (first | (refine wpList_load_row rfl (.tmp 11) 70 rfl rfl HB23.out Tryz.underlying70 rfl Hinf.out ?_) | fail)
 go_at_call 59
 refine (HBo.out _ HQ3.out).mono ?_
 rintro e w4 ⟨rfl, hqf⟩
 have HB0w4 := Lib.hid (hqf.row HB03.out)
 have HB1w4 := Lib.hid (hqf.row HB13.out)
 have HB2w4 := Lib.hid (hqf.row HB23.out)
 have HB3w4 := Lib.hid (hqf.row HB33.out)
 have HB4w4 := Lib.hid (hqf.row HB43.out)
 have HB5w4 := Lib.hid (hqf.row HB53.out)
 have HQw4 := Lib.hid (HQ3.out.q hqf)
 clear hqf
 obtain ⟨z0, z1, y0, y1, -⟩ := row2 HB5w4.out
 go_upto_region 11 with (fail)
 obtain ⟨hrow5, hon5⟩ := row2_set (x := .int .i64 c) (y := .slice none 0 0) HB5w4.out
 have h3 := hon5.rowAt HB3w4.out (by simp; try omega)
 have h4 := hon5.rowAt HB4w4.out (by simp; try omega)
 have hq9 := HQw4.out.trans hon5 (U := []) (by simp) (fun g hg hlt => by rw [List.mem_singleton] at hg; omega)
 exact qDRBg5
theorem qDRBg2 {p : Prop} (h : p := by
 have HB59 := Lib.hid hrow5
 clear z0 z1 y0 y1 hrow5 hon5
 generalize hW9 : World.setCell (World.setCell _ _ _) _ _ = W9 at *
 clear hW9
 obtain ⟨e0, e1, -⟩ := row2 HB59.out
 go_wp2_with fail
 go_at_call 43
 refine (kok_any _ _ _).mono ?_
 rintro e wa ⟨rfl, hqa⟩
 have HB0a := Lib.hid (hqa.row HB09.out)
 have HB1a := Lib.hid (hqa.row HB19.out)
 have HB2a := Lib.hid (hqa.row HB29.out)
 have HB3a := Lib.hid (hqa.row HB39.out)
 have HB4a := Lib.hid (hqa.row HB49.out)
 have HB5a := Lib.hid (hqa.row HB59.out)
 have HQa := Lib.hid (HQ9.out.q hqa)
 clear hqa e0 e1
 obtain ⟨e0, e1, -⟩ := row2 HB5a.out
 obtain ⟨r0, r1, r2⟩ := frame_cells HB0a.out
 obtain ⟨p0, p1, p2⟩ := frame_cells HB1a.out
 have s2 := HB2a.out
 go_wp2_with fail
 refine wp_region_held_drew (S := (fun w' => w'.cell? ⟨w.heap.size, 0, none⟩ = some (.int .i64 f.W) ∧ w'.cell? ⟨w.heap.size, 1, none⟩ = some (.int .i64 f.H) ∧ w'.cell? ⟨w.heap.size, 2, none⟩ = some (.slice a f.pix.length cap) ∧ w'.cell? ⟨w.heap.size + 1, 0, none⟩ = some (.int .i64 prev.W) ∧ w'.cell? ⟨w.heap.size + 1, 1, none⟩ = some (.int .i64 prev.H) ∧ w'.cell? ⟨w.heap.size + 1, 2, none⟩ = some (.slice pa prev.pix.length pcap) ∧ w'.cell? ⟨w.heap.size + 1 + 1 + 1 + 1 + 1, 0, none⟩ = some (.int .i64 0) ∧ w'.cell? ⟨w.heap.size + 1 + 1 + 1 + 1 + 1, 1, none⟩ = some (.slice none 0 0) ∧ w'.heap[w.heap.size + 1 + 1]? = some (.cells sa 70 (0, 0)))) (by kernel_rfl) ?_ (fun hHeld => ?_)
 ·exact ⟨r0, r1, r2, p0, p1, p2, e0, e1, s2⟩
 refine tk 0 64 ?_
 refine tk 1 65 ?_
 refine tk 2 66 ?_
 refine tk 3 67 ?_
 refine tk 4 68 ?_
 refine tkw 5 69 ⟨rfl, qDRBgt0⟩ ?_
 refine tk 7 71 ?_
 refine rdy (rdc 6 70 (fun K hK => ?_) .nil)
 go_simp
 go_at_call 52
 refine (HBl.out _ HQa.out.drew).mono ?_
 rintro e wb ⟨vb, rfl, hown, hqb⟩
 obtain ⟨g, gcap, rfl, hg1, hg2⟩ := hown.form (by have := HLW.out; have := Hpos.out; omega)
 rw [HLW.out.1] at hown ⊢
 have ob := (Only.refl [] wa).drew.q hqb
 have hr3 := ob.row HB3a.out
 have hr4 := ob.row HB4a.out
 obtain ⟨t0, t1, t2⟩ := frame_cells hr3
 have fz0 := frozen_of_row _ _ 0 _ _ hr3
 have fz1 := frozen_of_row _ _ 1 _ _ hr3
 have fz2 := frozen_of_row _ _ 2 _ _ hr3
 obtain ⟨hrow1, hon1⟩ := row3_set (x := .int .i64 f.W) (y := .int .i64 f.H) (z := .slice (some ⟨g, 0, none⟩) f.pix.length gcap) hr3
 have hr2 := hon1.rowAt hr4 (by simp; try omega)
 obtain ⟨hrow2, hon2⟩ := row2_set (x := .int .i64 0) (y := .slice none 0 0) hr2
 have hr1 := hon2.rowAt hrow1 (by simp; try omega)
 obtain ⟨u0, u1, u2, u3, -⟩ := row2 hr2
 have b0 := ob.cell r0 (by simp)
 have b1 := ob.cell r1 (by simp)
 have b2 := ob.cell r2 (by simp)
 have b3 := ob.cell p0 (by simp)
 have b4 := ob.cell p1 (by simp)
 have b5 := ob.cell p2 (by simp)
 have b6 := ob.cell e0 (by simp)
 have b7 := ob.cell e1 (by simp)
 have b8 := ob.row s2
 have d0 := hon1.cell b0 (by simp; try omega)
 have d1 := hon1.cell b1 (by simp; try omega)
 have d2 := hon1.cell b2 (by simp; try omega)
 have d3 := hon1.cell b3 (by simp; try omega)
 have d4 := hon1.cell b4 (by simp; try omega)
 have d5 := hon1.cell b5 (by simp; try omega)
 have d6 := hon1.cell b6 (by simp; try omega)
 have d7 := hon1.cell b7 (by simp; try omega)
 have d8 := hon1.rowAt b8 (by simp; try omega)
 have q0 := hon2.cell d0 (by simp; try omega)
 have q1 := hon2.cell d1 (by simp; try omega)
 have q2 := hon2.cell d2 (by simp; try omega)
 have q3 := hon2.cell d3 (by simp; try omega)
 have q4 := hon2.cell d4 (by simp; try omega)
 have q5 := hon2.cell d5 (by simp; try omega)
 have q6 := hon2.cell d6 (by simp; try omega)
 have q7 := hon2.cell d7 (by simp; try omega)
 have q8 := hon2.rowAt d8 (by simp; try omega)
 have Hg : Hid (w.heap.size + 1 + 1 + 1 + 1 < g) := Lib.hid (by have := HQ1.out.size; have := Hz1.out; have : wa.drew.heap.size = wa.heap.size := rfl; have := (Array.getElem?_eq_some_iff.1 HB5a.out).1; omega)
 have hall := ((HQa.out.q ob).trans hon1 (U := []) (by simp) (fun g hg hlt => by rw [List.mem_singleton] at hg; omega)).trans hon2 (U := []) (by simp) (fun g hg hlt => by rw [List.mem_singleton] at hg; omega)
 have HOb := Lib.hid hown
 have Hon1 := Lib.hid hon1
 have Hon2 := Lib.hid hon2
 clear hqb hown hg1 hg2
 refine hK.out _ _ ?_ (fun hHeld => ?_)
 ·exact ⟨b0, b1, b2, b3, b4, b5, b6, b7, b8⟩
 clear hK K
 try simp only [Act.put, List.setIfInBounds_toArray, List.set_cons_zero, List.set_cons_succ]
 refine rdy (rdn 8 (fun K hK => ?_) .nil)
 go_simp
 refine hK.out _ _ ?_ (fun hHeld => ?_)
 ·exact ⟨d0, d1, d2, d3, d4, d5, d6, d7, d8⟩
 clear hK K
 try simp only [Act.put, List.setIfInBounds_toArray, List.set_cons_zero, List.set_cons_succ]
 refine rdy (rdn 9 (fun K hK => ?_) .nil)
 go_simp
 refine hK.out _ _ ?_ (fun hHeld => ?_)
 ·exact ⟨q0, q1, q2, q3, q4, q5, q6, q7, q8⟩
 clear hK K
 try simp only [Act.put, List.setIfInBounds_toArray, List.set_cons_zero, List.set_cons_succ]
 refine wpAnyH_done (by kernel_rfl) ?_ _
 go_wp2_with fail
 refine bodyPost_ret (results_cell_cell Tryz.results28 _ _ (w.heap.size + 1 + 1 + 1) (w.heap.size + 1 + 1 + 1 + 1) _ _ _ _ _ _ _ _ rfl rfl hr1 hrow2 Tryz.underlying27 rfl (by kernel_rfl) Tryz.underlying45 rfl (err_info _ rfl)) rfl (HPost.out _ _ ⟨hall, g, gcap, ?_, ?_⟩)
 ·show _ = Ending.returned (.tuple #[.agg #[.int .i64 (laySq _ _ _ _ _ _).W, .int .i64 (laySq _ _ _ _ _ _).H, .slice _ (laySq _ _ _ _ _ _).pix.length _], _])
  rw [Int.toNat_natCast, HLW.out.1, HLW.out.2.1, HLW.out.2.2]
 ·have ho := ((HOb.out.only Hon1.out (fun x hx hh => by rw [List.mem_singleton] at hx; subst hx; simp only [Value.ownBlock] at hh; injection hh with hh; have := Hg.out; omega)).only Hon2.out (fun x hx hh => by rw [List.mem_singleton] at hx; subst hx; simp only [Value.ownBlock] at hh; injection hh with hh; have := Hg.out; omega)).lower (show w.heap.size ≤ wa.drew.heap.size from HQa.out.size)
  show Own _ _ _ _ (.slice _ (laySq _ _ _ _ _ _).pix.length _) (laySq _ _ _ _ _ _).pix
  rw [Int.toNat_natCast, HLW.out.1]
  exact ho) : p := h
theorem kb_ok1 (hf : Ints .i64 lo1 hi1 w pv f.pix) (hp : Ints .i64 lo2 hi2 w qv prev.pix) (h : SqIn lo hi w lv vs L S) (hm : ms.length = 4) (hmay : mayF f = true) (hplc : (decide (x.tmod 8 = 0) && decide (y.tmod 8 = 0) && liesD f.W f.H x y 8) = true) (hq0 : ¬ qp < 0) (hqm : ¬ 15 < qp) (hk0 : ¬ k < 0) (hk3 : ¬ 3 < k) (hmk : ∀ x ∈ ms, InK .i64 x) (hhi1 : hi1 ≤ w.heap.size) (hls : S.length = 4) (hpc : partsC (formD k mo ms vx vy) (wideD k) (listsD k L S) = none) (hk2 : k < 2) (hma : matesB prev f.W f.H = true) :
  Calls Tryz.prog 28 #[.agg #[.int .i64 f.W, .int .i64 f.H, pv], .agg #[.int .i64 prev.W, .int .i64 prev.H, qv], .int .i64 x, .int .i64 y, .int .i64 qp, .agg (sqL k mo ms vx vy lv vs).toArray] w (KBuildP w (.ok (laySq f prev x y qp ⟨k.toNat, mo.toNat, ms, vx, vy, L, S⟩))) := by
 refine hidQ fun Q HPost => ?_
 obtain ⟨a, cap, rfl, -⟩ := hf.open
 obtain ⟨pa, pcap, rfl, -⟩ := hp.open
 have hkc : (sqL k mo ms vx vy lv vs).toArray[0]? = some (.int .i64 k) := sqL_kind
 have hinf : (Tryz.prog.info? 70).map (·.size) = some (sqL k mo ms vx vy lv vs).toArray.size := by rw [List.size_toArray, sqL_size hm h.len]; kernel_rfl
 have hfo : FrOk f := mayF_iff.1 hmay
 have Hfo := Lib.hid hfo
 clear hfo
 have hpo : FrOk prev := by
  unfold matesB at hma
  rw [Bool.and_eq_true, Bool.and_eq_true] at hma
  exact mayF_iff.1 hma.1.1
 have hli : liesD f.W f.H x y 8 = true := by revert hplc; cases liesD f.W f.H x y 8 <;> simp
 obtain ⟨q, rfl⟩ := Int.eq_ofNat_of_zero_le (by omega : 0 ≤ qp)
 obtain ⟨kn, rfl⟩ := Int.eq_ofNat_of_zero_le (by omega : 0 ≤ k)
 obtain ⟨x0, x1, y0, y1⟩ := lies_iff hli
 have hmo : kn = 2 → mo = ((mo.toNat : Nat) : Int) := fun hk2 => by
  subst hk2
  exact (mode_nonneg hpc).1
 have hsm : SqMay ⟨kn, mo.toNat, ms, vx, vy, L, S⟩ := sqMay_of (mo := mo) (by show kn ≤ 3; omega) hm hls hmo hpc
 have Hpos := Lib.hid Hfo.out.pos
 have HLW : Hid ((laySq f prev x y q ⟨kn, mo.toNat, ms, vx, vy, L, S⟩).pix.length = f.pix.length ∧ (laySq f prev x y q ⟨kn, mo.toNat, ms, vx, vy, L, S⟩).W = f.W ∧ (laySq f prev x y q ⟨kn, mo.toNat, ms, vx, vy, L, S⟩).H = f.H) := Lib.hid (by
  have hlo := laySq_may Hfo.out (s := ⟨kn, mo.toNat, ms, vx, vy, L, S⟩) (prev := prev) (fun hk2 => hpo.sam) x0 x1 y0 y1 hsm (q : Int)
  have hlw := laySq_W f prev x y q ⟨kn, mo.toNat, ms, vx, vy, L, S⟩
  have t1 := hlo.len
  have t2 := Hfo.out.len
  rw [hlw.1, hlw.2] at t1
  exact ⟨by omega, hlw.1, hlw.2⟩)
 have HBl := Lib.hid (fun (wx : World) (o : Only [] w wx) => kbuild_any (f := f) (prev := prev) (s := ⟨kn, mo.toNat, ms, vx, vy, L, S⟩) (mo := mo) (q := q) Hfo.out (hf.quiet o) (Nat.le_trans hhi1 o.size) (hp.quiet o) (h.only o (by simp)) (fun hk2 => hpo) hsm hmo hm (by omega) x0 x1 y0 y1)
 clear x0 x1 y0 y1 hsm hmo hli hhi1
 have HBo := Lib.hid (fun (wx : World) (o : Only [] w wx) => kbounds_any (w := wx) (k := kn) (mo := mo) (vx := vx) (vy := vy) hm (h.only o (by simp)) hmk ⟨by omega, by omega⟩)
 rw [hpc] at HBo
 rw [show codeC none = 0 from rfl] at HBo
 clear hpc
 generalize hsa : (sqL kn mo ms vx vy lv vs).toArray = sa at *
 have Hinf := Lib.hid hinf
 have Hkc := Lib.hid hkc
 obtain ⟨hq1, HB0, HB1, HB2, HB3, HB4, HB5, Hz1⟩ := boxes6 w (.cells #[.int .i64 f.W, .int .i64 f.H, .slice a f.pix.length cap] 27) (.cells #[.int .i64 prev.W, .int .i64 prev.H, .slice pa prev.pix.length pcap] 27) (.cells sa 70) (.cells #[.int .i64 0, .int .i64 0, .slice none 0 0] 27) (.cells #[.int .i64 0, .slice none 0 0] 45) (.cells #[.int .i64 0, .slice none 0 0] 45)
 have HQ1 := Lib.hid hq1
 have HF := Lib.hid hf
 have HP := Lib.hid hp
 clear hf hp h hq1 hkc hinf hsa hm
 go_enter Tryz.func28, Tryz.ntmps28
 obtain ⟨r0, r1, r2⟩ := frame_cells HB0.out
 go_wp2_with fail
 generalize hW1 : World.alloc (World.alloc (World.alloc (World.alloc (World.alloc (World.alloc w _) _) _) _) _) _ = W1 at *
 clear hW1 r0 r1 r2
 go_at_call 30
 have hmy := kmay_any f.W f.H (HF.out.quiet HQ1.out)
 rw [show mayF ⟨f.W, f.H, f.pix⟩ = true from hmay] at hmy
 have Hmy := Lib.hid hmy
 clear hmy hmay
 refine Hmy.out.mono ?_
 rintro e w2 ⟨rfl, hq2⟩
 have HB02 := Lib.hid (hq2.row HB0.out)
 have HB12 := Lib.hid (hq2.row HB1.out)
 have HB22 := Lib.hid (hq2.row HB2.out)
 have HB32 := Lib.hid (hq2.row HB3.out)
 have HB42 := Lib.hid (hq2.row HB4.out)
 have HB52 := Lib.hid (hq2.row HB5.out)
 have HQ2 := Lib.hid (HQ1.out.q hq2)
 clear hq2
 obtain ⟨r0, r1, r2⟩ := frame_cells HB02.out
 go_wp2_with fail
 go_at_call 58
 have hpl := place_any f.W f.H x y (.slice a f.pix.length cap) w2 ⟨Hfo.out.w0, Hfo.out.w1⟩ ⟨Hfo.out.h0, Hfo.out.h1⟩
 rw [show (decide (x.tmod 8 = 0) && decide (y.tmod 8 = 0) && liesD f.W f.H x y 8) = true from hplc] at hpl
 have Hpl := Lib.hid hpl
 clear hpl hplc r0 r1 r2
 refine Hpl.out.mono ?_
 rintro e w3 ⟨rfl, hq3⟩
 have HB03 := Lib.hid (hq3.row HB02.out)
 have HB13 := Lib.hid (hq3.row HB12.out)
 have HB23 := Lib.hid (hq3.row HB22.out)
 have HB33 := Lib.hid (hq3.row HB32.out)
 have HB43 := Lib.hid (hq3.row HB42.out)
 have HB53 := Lib.hid (hq3.row HB52.out)
 have HQ3 := Lib.hid (HQ2.out.q hq3)
 clear hq3
 have c0 : w3.cell? ⟨w.heap.size + 1 + 1, 0, none⟩ = some (.int .i64 kn) := by rw [cell_of_row _ _ _ _ _ _ HB23.out]; exact Hkc.out
 obtain ⟨r0, r1, r2⟩ := frame_cells HB03.out
 obtain ⟨p0, p1, p2⟩ := frame_cells HB13.out
 go_wp2_with fail
 go_at_call 49
 have hle := leans_any prev.W prev.H f.W f.H (.slice a f.pix.length cap) (HP.out.quiet (HQ3.out))
 rw [show matesB ⟨prev.W, prev.H, prev.pix⟩ f.W f.H = true from hma] at hle
 have Hle := Lib.hid hle
 clear hle hma r0 r1 r2 p0 p1 p2 c0
 refine Hle.out.mono ?_
 rintro e w4 ⟨rfl, hq4⟩
 have HB04 := Lib.hid (hq4.row HB03.out)
 have HB14 := Lib.hid (hq4.row HB13.out)
 have HB24 := Lib.hid (hq4.row HB23.out)
 have HB34 := Lib.hid (hq4.row HB33.out)
 have HB44 := Lib.hid (hq4.row HB43.out)
 have HB54 := Lib.hid (hq4.row HB53.out)
 have HQ4 := Lib.hid (HQ3.out.q hq4)
 clear hq4
 go_wp2_with (first | (refine wpList_load_row rfl (.tmp 11) 70 rfl rfl HB24.out Tryz.underlying70 rfl Hinf.out ?_) | fail)
 go_at_call 59
 refine (HBo.out _ HQ4.out).mono ?_
 rintro e w5 ⟨rfl, hqf⟩
 have HB0w5 := Lib.hid (hqf.row HB04.out)
 have HB1w5 := Lib.hid (hqf.row HB14.out)
 have HB2w5 := Lib.hid (hqf.row HB24.out)
 have HB3w5 := Lib.hid (hqf.row HB34.out)
 have HB4w5 := Lib.hid (hqf.row HB44.out)
 have HB5w5 := Lib.hid (hqf.row HB54.out)
 have HQw5 := Lib.hid (HQ4.out.q hqf)
 clear hqf
 have HQW := Lib.hid HQw5.out.size
 obtain ⟨z0, z1, y0, y1, -⟩ := row2 HB5w5.out
 go_upto_region 11 with (fail)
 obtain ⟨hrow5, hon5⟩ := row2_set (x := .int .i64 0) (y := .slice none 0 0) HB5w5.out
 have HB09 := Lib.hid (hon5.rowAt HB0w5.out (by simp; try omega))
 have HB19 := Lib.hid (hon5.rowAt HB1w5.out (by simp; try omega))
 have HB29 := Lib.hid (hon5.rowAt HB2w5.out (by simp; try omega))
 have HB39 := Lib.hid (hon5.rowAt HB3w5.out (by simp; try omega))
 have HB49 := Lib.hid (hon5.rowAt HB4w5.out (by simp; try omega))
 have HQ9 := Lib.hid (HQw5.out.trans hon5 (U := []) (by simp) (fun g hg hlt => by rw [List.mem_singleton] at hg; omega))
 exact qDRBg2
theorem kb_ok2 (hf : Ints .i64 lo1 hi1 w pv f.pix) (hp : Ints .i64 lo2 hi2 w qv prev.pix) (h : SqIn lo hi w lv vs L S) (hm : ms.length = 4) (hmay : mayF f = true) (hplc : (decide (x.tmod 8 = 0) && decide (y.tmod 8 = 0) && liesD f.W f.H x y 8) = true) (hq0 : ¬ qp < 0) (hqm : ¬ 15 < qp) (hk0 : ¬ k < 0) (hk3 : ¬ 3 < k) (hmk : ∀ x ∈ ms, InK .i64 x) (hhi1 : hi1 ≤ w.heap.size) (hls : S.length = 4) (hpc : partsC (formD k mo ms vx vy) (wideD k) (listsD k L S) = none) (hk2 : ¬ k < 2) :
  Calls Tryz.prog 28 #[.agg #[.int .i64 f.W, .int .i64 f.H, pv], .agg #[.int .i64 prev.W, .int .i64 prev.H, qv], .int .i64 x, .int .i64 y, .int .i64 qp, .agg (sqL k mo ms vx vy lv vs).toArray] w (KBuildP w (.ok (laySq f prev x y qp ⟨k.toNat, mo.toNat, ms, vx, vy, L, S⟩))) := by
 refine hidQ fun Q HPost => ?_
 obtain ⟨a, cap, rfl, -⟩ := hf.open
 obtain ⟨pa, pcap, rfl, -⟩ := hp.open
 have hkc : (sqL k mo ms vx vy lv vs).toArray[0]? = some (.int .i64 k) := sqL_kind
 have hinf : (Tryz.prog.info? 70).map (·.size) = some (sqL k mo ms vx vy lv vs).toArray.size := by rw [List.size_toArray, sqL_size hm h.len]; kernel_rfl
 have hfo : FrOk f := mayF_iff.1 hmay
 have Hfo := Lib.hid hfo
 clear hfo
 have hli : liesD f.W f.H x y 8 = true := by revert hplc; cases liesD f.W f.H x y 8 <;> simp
 obtain ⟨q, rfl⟩ := Int.eq_ofNat_of_zero_le (by omega : 0 ≤ qp)
 obtain ⟨kn, rfl⟩ := Int.eq_ofNat_of_zero_le (by omega : 0 ≤ k)
 obtain ⟨x0, x1, y0, y1⟩ := lies_iff hli
 have hmo : kn = 2 → mo = ((mo.toNat : Nat) : Int) := fun hk2 => by
  subst hk2
  exact (mode_nonneg hpc).1
 have hsm : SqMay ⟨kn, mo.toNat, ms, vx, vy, L, S⟩ := sqMay_of (mo := mo) (by show kn ≤ 3; omega) hm hls hmo hpc
 have Hpos := Lib.hid Hfo.out.pos
 have HLW : Hid ((laySq f prev x y q ⟨kn, mo.toNat, ms, vx, vy, L, S⟩).pix.length = f.pix.length ∧ (laySq f prev x y q ⟨kn, mo.toNat, ms, vx, vy, L, S⟩).W = f.W ∧ (laySq f prev x y q ⟨kn, mo.toNat, ms, vx, vy, L, S⟩).H = f.H) := Lib.hid (by
  have hlo := laySq_may Hfo.out (s := ⟨kn, mo.toNat, ms, vx, vy, L, S⟩) (prev := prev) (fun hk2 => absurd hk2 (by show ¬ kn < 2; omega)) x0 x1 y0 y1 hsm (q : Int)
  have hlw := laySq_W f prev x y q ⟨kn, mo.toNat, ms, vx, vy, L, S⟩
  have t1 := hlo.len
  have t2 := Hfo.out.len
  rw [hlw.1, hlw.2] at t1
  exact ⟨by omega, hlw.1, hlw.2⟩)
 have HBl := Lib.hid (fun (wx : World) (o : Only [] w wx) => kbuild_any (f := f) (prev := prev) (s := ⟨kn, mo.toNat, ms, vx, vy, L, S⟩) (mo := mo) (q := q) Hfo.out (hf.quiet o) (Nat.le_trans hhi1 o.size) (hp.quiet o) (h.only o (by simp)) (fun hk2 => absurd hk2 (by show ¬ kn < 2; omega)) hsm hmo hm (by omega) x0 x1 y0 y1)
 clear x0 x1 y0 y1 hsm hmo hli hhi1
 have HBo := Lib.hid (fun (wx : World) (o : Only [] w wx) => kbounds_any (w := wx) (k := kn) (mo := mo) (vx := vx) (vy := vy) hm (h.only o (by simp)) hmk ⟨by omega, by omega⟩)
 rw [hpc] at HBo
 rw [show codeC none = 0 from rfl] at HBo
 clear hpc
 generalize hsa : (sqL kn mo ms vx vy lv vs).toArray = sa at *
 have Hinf := Lib.hid hinf
 have Hkc := Lib.hid hkc
 obtain ⟨hq1, HB0, HB1, HB2, HB3, HB4, HB5, Hz1⟩ := boxes6 w (.cells #[.int .i64 f.W, .int .i64 f.H, .slice a f.pix.length cap] 27) (.cells #[.int .i64 prev.W, .int .i64 prev.H, .slice pa prev.pix.length pcap] 27) (.cells sa 70) (.cells #[.int .i64 0, .int .i64 0, .slice none 0 0] 27) (.cells #[.int .i64 0, .slice none 0 0] 45) (.cells #[.int .i64 0, .slice none 0 0] 45)
 have HQ1 := Lib.hid hq1
 have HF := Lib.hid hf
 have HP := Lib.hid hp
 clear hf hp h hq1 hkc hinf hsa hm
 go_enter Tryz.func28, Tryz.ntmps28
 obtain ⟨r0, r1, r2⟩ := frame_cells HB0.out
 go_wp2_with fail
 generalize hW1 : World.alloc (World.alloc (World.alloc (World.alloc (World.alloc (World.alloc w _) _) _) _) _) _ = W1 at *
 clear hW1 r0 r1 r2
 go_at_call 30
 have hmy := kmay_any f.W f.H (HF.out.quiet HQ1.out)
 rw [show mayF ⟨f.W, f.H, f.pix⟩ = true from hmay] at hmy
 have Hmy := Lib.hid hmy
 clear hmy hmay
 refine Hmy.out.mono ?_
 rintro e w2 ⟨rfl, hq2⟩
 have HB02 := Lib.hid (hq2.row HB0.out)
 have HB12 := Lib.hid (hq2.row HB1.out)
 have HB22 := Lib.hid (hq2.row HB2.out)
 have HB32 := Lib.hid (hq2.row HB3.out)
 have HB42 := Lib.hid (hq2.row HB4.out)
 have HB52 := Lib.hid (hq2.row HB5.out)
 have HQ2 := Lib.hid (HQ1.out.q hq2)
 clear hq2
 obtain ⟨r0, r1, r2⟩ := frame_cells HB02.out
 go_wp2_with fail
 go_at_call 58
 have hpl := place_any f.W f.H x y (.slice a f.pix.length cap) w2 ⟨Hfo.out.w0, Hfo.out.w1⟩ ⟨Hfo.out.h0, Hfo.out.h1⟩
 rw [show (decide (x.tmod 8 = 0) && decide (y.tmod 8 = 0) && liesD f.W f.H x y 8) = true from hplc] at hpl
 have Hpl := Lib.hid hpl
 clear hpl hplc r0 r1 r2
 refine Hpl.out.mono ?_
 rintro e w3 ⟨rfl, hq3⟩
 have HB03 := Lib.hid (hq3.row HB02.out)
 have HB13 := Lib.hid (hq3.row HB12.out)
 have HB23 := Lib.hid (hq3.row HB22.out)
 have HB33 := Lib.hid (hq3.row HB32.out)
 have HB43 := Lib.hid (hq3.row HB42.out)
 have HB53 := Lib.hid (hq3.row HB52.out)
 have HQ3 := Lib.hid (HQ2.out.q hq3)
 clear hq3
 have c0 : w3.cell? ⟨w.heap.size + 1 + 1, 0, none⟩ = some (.int .i64 kn) := by rw [cell_of_row _ _ _ _ _ _ HB23.out]; exact Hkc.out
 go_wp2_with (first | (refine wpList_load_row rfl (.tmp 11) 70 rfl rfl HB23.out Tryz.underlying70 rfl Hinf.out ?_) | fail)
 go_at_call 59
 refine (HBo.out _ HQ3.out).mono ?_
 rintro e w4 ⟨rfl, hqf⟩
 have HB0w4 := Lib.hid (hqf.row HB03.out)
 have HB1w4 := Lib.hid (hqf.row HB13.out)
 have HB2w4 := Lib.hid (hqf.row HB23.out)
 have HB3w4 := Lib.hid (hqf.row HB33.out)
 have HB4w4 := Lib.hid (hqf.row HB43.out)
 have HB5w4 := Lib.hid (hqf.row HB53.out)
 have HQw4 := Lib.hid (HQ3.out.q hqf)
 clear hqf
 have HQW := Lib.hid HQw4.out.size
 obtain ⟨z0, z1, y0, y1, -⟩ := row2 HB5w4.out
 go_upto_region 11 with (fail)
 obtain ⟨hrow5, hon5⟩ := row2_set (x := .int .i64 0) (y := .slice none 0 0) HB5w4.out
 have HB09 := Lib.hid (hon5.rowAt HB0w4.out (by simp; try omega))
 have HB19 := Lib.hid (hon5.rowAt HB1w4.out (by simp; try omega))
 have HB29 := Lib.hid (hon5.rowAt HB2w4.out (by simp; try omega))
 have HB39 := Lib.hid (hon5.rowAt HB3w4.out (by simp; try omega))
 have HB49 := Lib.hid (hon5.rowAt HB4w4.out (by simp; try omega))
 have HQ9 := Lib.hid (HQw4.out.trans hon5 (U := []) (by simp) (fun g hg hlt => by rw [List.mem_singleton] at hg; omega))
 exact qDRBg2
theorem parts_ne {ok : Bool} {n : Int} {ls : List (List Int)} {c : Int} (h : partsC ok n ls = some c) : c ≠ 0 := by
 unfold partsC at h
 split at h
 ·injection h with h; omega
 ·split at h
  ·injection h with h; omega
  ·split at h
   ·injection h with h; omega
   ·cases h
theorem kb_any (hf : Ints .i64 lo1 hi1 w pv f.pix) (hp : Ints .i64 lo2 hi2 w qv prev.pix) (h : SqIn lo hi w lv vs L S) (hm : ms.length = 4) (hmk : ∀ x ∈ ms, InK .i64 x) (hhi1 : hi1 ≤ w.heap.size) (hls : S.length = 4) :
  Calls Tryz.prog 28 #[.agg #[.int .i64 f.W, .int .i64 f.H, pv], .agg #[.int .i64 prev.W, .int .i64 prev.H, qv], .int .i64 x, .int .i64 y, .int .i64 qp, .agg (sqL k mo ms vx vy lv vs).toArray] w (KBuildP w (buildD f prev x y qp k mo ms vx vy L S)) := by
 unfold buildD
 cases hmay : mayF f with
 | false => simpa using kb_form hf hp h hm hmay
 | true =>
  rw [if_neg (by simp)]
  cases hpl : (decide (x.tmod 8 = 0) && decide (y.tmod 8 = 0) && liesD f.W f.H x y 8) with
  | false =>
   rw [if_pos (by rintro ⟨a, b, c, -, -⟩; rw [a, b, c] at hpl; simp at hpl)]
   exact kb_place hf hp h hm hmay hpl
  | true =>
   have hpl2 := hpl
   rw [Bool.and_eq_true, Bool.and_eq_true, decide_eq_true_iff, decide_eq_true_iff] at hpl2
   by_cases hq0 : qp < 0
   ·rw [if_pos (by rintro ⟨-, -, -, a, -⟩; omega)]; exact kb_qn hf hp h hm hmay hpl hq0
   ·by_cases hqm : 15 < qp
    ·rw [if_pos (by rintro ⟨-, -, -, -, a⟩; omega)]; exact kb_qg hf hp h hm hmay hpl hq0 hqm
    ·rw [if_neg (by rw [Classical.not_not]; exact ⟨hpl2.1.1, hpl2.1.2, hpl2.2, by omega, by omega⟩)]
     by_cases hk0 : k < 0
     ·rw [if_pos (by omega)]; exact kb_kn hf hp h hm hmay hpl hq0 hqm hk0
     ·by_cases hk3 : 3 < k
      ·rw [if_pos (by omega)]; exact kb_kg hf hp h hm hmay hpl hq0 hqm hk0 hk3
      ·rw [if_neg (by omega)]
       by_cases hk2 : k < 2
       ·cases hma : matesB prev f.W f.H with
        | false => rw [if_pos ⟨by omega, rfl⟩]; exact kb_leans hf hp h hm hmay hpl hq0 hqm hk0 hk3 hk2 hma
        | true =>
         rw [if_neg (by simp)]
         cases hpc : partsC (formD k mo ms vx vy) (wideD k) (listsD k L S) with
         | some c => exact kb_bounds1 hf hp h hm hmay hpl hq0 hqm hk0 hk3 hmk (parts_ne hpc) hpc hk2 hma
         | none => exact kb_ok1 hf hp h hm hmay hpl hq0 hqm hk0 hk3 hmk hhi1 hls hpc hk2 hma
       ·rw [if_neg (fun a => by omega)]
        cases hpc : partsC (formD k mo ms vx vy) (wideD k) (listsD k L S) with
        | some c => exact kb_bounds2 hf hp h hm hmay hpl hq0 hqm hk0 hk3 hmk (parts_ne hpc) hpc hk2
        | none => exact kb_ok2 hf hp h hm hmay hpl hq0 hqm hk0 hk3 hmk hhi1 hls hpc hk2
end
end Go.Proofs.YthgpgbdkcdmbpaaGreatDoor
