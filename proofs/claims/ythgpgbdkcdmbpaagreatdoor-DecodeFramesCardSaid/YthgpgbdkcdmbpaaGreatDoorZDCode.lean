/- syntax.Code as the decoder asks it. Conditions: the coder is a reader that may stand so. -/
import Derived.Test.YthgpgbdkcdmbpaaGreatDoorK6
namespace Go.Proofs.YthgpgbdkcdmbpaaGreatDoor
open Go.RowKit
set_option linter.unusedVariables false
set_option linter.unusedSimpArgs false
set_option maxRecDepth 100000
set_option maxHeartbeats 16000000
theorem reader_assert (R : Nat) (w : World) : (Instr.typeAssert (cv R) 123 81 true).run Tryz.prog w = .ok (.tuple #[.pointer (some ⟨R, 0, none⟩), .bool true]) w := by kernel_rfl
theorem reads_any (R : Nat) (w : World) : Calls Tryz.prog 67 #[cv R] w fun e w' => e = .returned (.bool true) ∧ w = w' := by
 have ha := reader_assert R w
 go_enter Tryz.func67, Tryz.ntmps67
 go_wp2
 go_ret
 exact ⟨rfl, rfl⟩
section
variable {P : Program}
/-- a slice made -/
theorem wpList_make {w w' : World} {ops : Array Oper} {rest : List Oper} {o : Oper} {a : Act} {Q : Exit → Act → World → Prop} (hgd : o.guard = none) (t : TypeId) (l c : Operand) (ho : o.op = .makeSlice t l c) {v : Value}
  (hr : (Instr.makeSlice t (a.eval l) (a.eval c)).run P w = .ok v w') (h : wpList P ops Q rest (a.put o.dst v) w') : wpList P ops Q (o :: rest) a w :=
 wpList_plain hgd fun _ hK => by
  unfold Oper.wp execOp
  simp only [ho, Sem.run_bind, Sem.run_pure, Result.andThen_ok, hr]
  exact hK _ _ h
end
theorem parts_any {lo hi R D O lo' hi' : Nat} {bv v lv : Value} {vs : List Value} {w : World} {m : Mod} {k : Nat} (hk : k ≤ 3) (h : ModAt lo hi R D bv w m) (ha : AskV lo' hi' w v lv vs) (hR : R < lo' ∨ hi' ≤ R) (hD : D < lo' ∨ hi' ≤ D) (hw : hi' ≤ w.heap.size) (hO : hi ≤ O ∧ O ≠ R ∧ O ≠ D ∧ (O < lo' ∨ hi' ≤ O)) (ho : SqRow O w k 0 [0, 0, 0, 0] 0 0 nilS [nilS, nilS, nilS, nilS]) (hp : m.d.pos ≤ 600000000) :
  Calls Tryz.prog 70 #[cv R, v, .pointer (some ⟨O, 0, none⟩)] w (PartsP lo hi R D O bv w k (partsD k m)) := by
 match k, hk with
 | 0, _ => exact parts_zero h ha ho
 | 1, _ => exact parts_move h ha hR hD hw hO ho hp
 | 2, _ => exact parts_whole h ha hR hD hw hO ho hp
 | 3, _ => exact parts_small h ha hR hD hw hO ho hp
theorem sqL_one {k mo : Int} {ms : List Int} {vx vy : Int} {lv : Value} {vs : List Value} (hl : lv.oneCell' = true) (hv : ∀ v ∈ vs, v.oneCell' = true) : (sqL k mo ms vx vy lv vs).toArray.all (·.oneCell') = true := by
 rw [Array.all_eq_true_iff_forall_mem]
 intro v h
 simp only [sqL, List.mem_toArray, List.mem_append, List.mem_cons, List.mem_map, List.not_mem_nil, or_false] at h
 rcases h with (((rfl | rfl) | ⟨x, _, rfl⟩) | (rfl | rfl | rfl)) | h
 ·rfl
 ·rfl
 ·rfl
 ·rfl
 ·rfl
 ·exact hl
 ·exact hv v h
theorem nils_one : ∀ v ∈ [nilS, nilS, nilS, nilS], v.oneCell' = true := by
 intro v h
 simp only [List.mem_cons, List.not_mem_nil, or_false, or_self] at h
 rw [h]; rfl
theorem sqL_info {k mo : Int} {ms : List Int} {vx vy : Int} {lv : Value} {vs : List Value} (hm : ms.length = 4) (hv : vs.length = 4) : (Tryz.prog.info? 64).map (·.size) = some (sqL k mo ms vx vy lv vs).toArray.size := by
 rw [List.size_toArray, sqL_size hm hv]; kernel_rfl
theorem sqL_sizes {k mo : Int} {ms : List Int} {vx vy : Int} {lv : Value} {vs : List Value} {k' mo' : Int} {ms' : List Int} {vx' vy' : Int} {lv' : Value} {vs' : List Value} (hm : ms.length = 4) (hv : vs.length = 4) (hm' : ms'.length = 4) (hv' : vs'.length = 4) : (sqL k mo ms vx vy lv vs).toArray.size = (sqL k' mo' ms' vx' vy' lv' vs').toArray.size := by
 rw [List.size_toArray, List.size_toArray, sqL_size hm hv, sqL_size hm' hv']
theorem results_cell_row2 {P : Program} {fn : Func} {p q : Tmp} {ty : TypeId} (h : fn.results = #[.cell p ty, .tmp q]) (tmps : Array Value) (w : World) (g : Nat) (t : TypeId) (cs : Array Value) (fr : Nat × Nat) (d : TypeDesc) (v : Value)
  (hp : tmps.getD p undef = .pointer (some ⟨g, 0, none⟩)) (hq : tmps.getD q undef = v) (hg : w.heap[g]? = some (.cells cs t fr))
  (hu : P.underlying ty = some d) (hd : (match d with | .struct _ | .array _ _ => true | _ => false) = true) (hi : (P.info? ty).map (·.size) = some cs.size) :
  (results fn tmps).run P w = .ok (.tuple #[.agg cs, v]) w := by
 have hp' : tmps[p]?.getD undef = .pointer (some ⟨g, 0, none⟩) := by simpa using hp
 have hq' : tmps[q]?.getD undef = v := by simpa using hq
 simp [results, h, hp', hq', asAddr, run_loadVar_row w g t ty cs fr d hg hu hd hi]
theorem SqIn.one {lo hi : Nat} {w : World} {lv : Value} {vs : List Value} {L : List Int} {S : List (List Int)} (h : SqIn lo hi w lv vs L S) : lv.oneCell' = true ∧ ∀ v ∈ vs, v.oneCell' = true := by
 refine ⟨by obtain ⟨a, c, e, -⟩ := h.large.open; rw [e]; rfl, fun v hv => ?_⟩
 obtain ⟨i, hi, rfl⟩ := List.mem_iff_getElem.1 hv
 obtain ⟨a, c, e, -⟩ := (h.small i (by have := h.len; omega)).open
 rw [List.getD_eq_getElem?_getD, List.getElem?_eq_getElem hi] at e
 simp only [Option.getD_some] at e
 rw [e]; rfl
/-- what a square is handed back as -/
def SquareP (lo hi R D : Nat) (bv : Value) (w : World) (r : Except Err SqD × Mod) (e : Ending) (w' : World) : Prop :=
 Only [R, D] w w' ∧ ModAt lo hi R D bv w' r.2 ∧ match r.1 with
  | .ok s => ∃ lv vs, e = .returned (.tuple #[.agg (sqL s.kind s.mode s.modes s.vx s.vy lv vs).toArray, .nilIface]) ∧ s.modes.length = 4 ∧ SqIn w.heap.size w'.heap.size w' lv vs s.large s.small
  | .error er => ∃ ev, e = .returned (.tuple #[.agg (sqL 0 0 [0, 0, 0, 0] 0 0 nilS [nilS, nilS, nilS, nilS]).toArray, ev]) ∧ ErrV w.heap.size w'.heap.size w' ev er
theorem qDCode0 {p : Prop} (h : p := by
 obtain ⟨he, lvq, vsq, hrow, hml, hin⟩ := hm
 subst he
 have H66 := lh h66
 have HRow := lh hrow
 have HIn := lh hin
 have HIq := lh (sqL_info (k := sq.kind) (mo := sq.mode) (ms := sq.modes) (vx := sq.vx) (vy := sq.vy) (lv := lvq) (vs := vsq) hml hin.len)
 have HOq := lh (sqL_one (k := sq.kind) (mo := sq.mode) (ms := sq.modes) (vx := sq.vx) (vy := sq.vy) (lv := lvq) (vs := vsq) hin.one.1 hin.one.2)
 have HSq := lh (sqL_sizes (k := 0) (mo := 0) (ms := [0, 0, 0, 0]) (vx := 0) (vy := 0) (lv := nilS) (vs := [nilS, nilS, nilS, nilS]) (k' := sq.kind) (mo' := sq.mode) (ms' := sq.modes) (vx' := sq.vx) (vy' := sq.vy) (lv' := lvq) (vs' := vsq) rfl rfl hml hin.len)
 have HMl := lh hml
 have hfin : SqRow (w.heap.size + 1) (w6.setRow (w.heap.size + 1) (sqL sq.kind sq.mode sq.modes sq.vx sq.vy lvq vsq).toArray) sq.kind sq.mode sq.modes sq.vx sq.vy lvq vsq := setRow_heap w6 (w.heap.size + 1) _ _ _ _ h66
 have hso := Only.setRow (S := [w.heap.size + 1]) (Only.refl _ w6) (g := w.heap.size + 1) (fun _ => by simp) (sqL sq.kind sq.mode sq.modes sq.vx sq.vy lvq vsq).toArray
 have HFn := lh hfin
 have HSo := lh hso
 clear h66 hrow hin hml hfin hso
 go_wp2_with (first
  | (refine wpList_load_row rfl (.tmp 10) 64 rfl rfl HRow.out HUnd.out rfl HIq.out ?_)
  | (refine wpList_store_row rfl (.tmp 6) (.tmp 57) 64 rfl rfl rfl H66.out HIq.out HSq.out HOq.out ?_)
  | fail)
 refine bodyPost_ret (v := .tuple #[.agg (sqL sq.kind sq.mode sq.modes sq.vx sq.vy lvq vsq).toArray, .nilIface]) (results_cell_row2 Tryz.results36 _ _ (w.heap.size + 1) _ _ _ _ _ rfl rfl HFn.out HUnd.out rfl HIq.out) rfl (HPost.out _ _ ?_)
 unfold SquareP
 rw [HFin.out]
 have hz8 := HSo.out.size
 have hZ5 := HZ3.out
 have hZ6 := HZ6.out
 have hN := HN.out
 have hLt := HLt.out
 have hR := HK.out.hR
 refine ⟨HQ6.out.trans HSo.out (U := [R, D]) (fun g h _ => h) (fun g h hlt => by rw [mSg] at h; omega), HK6.out.only HSo.out (by simp only [mSg]; rintro g rfl; exact ⟨by omega, by omega, by omega⟩), _, _, rfl, HMl.out, ?_⟩
 have hin2 := HIn.out.only HSo.out (by simp only [mSg]; rintro g rfl; omega)
 exact ⟨hin2.large.mono (by omega) hz8, hin2.len, fun i hi => (hin2.small i hi).mono (by omega) hz8⟩) : p := h
theorem qDCode1 {p : Prop} (h : p := by
 obtain ⟨ev, rfl, hev, hc0⟩ := hm
 obtain ⟨et, eu, rfl⟩ := hev.held
 have HEv := lh hev
 have H66 := lh h66
 clear hev h66
 go_wp2_with fail
 go_at_call 37
 refine (in_any _ _ HEv.out (Nat.le_refl _) HZ6.out).mono ?_
 rintro e w7 ⟨ev7, rfl, hev7, hq7⟩
 obtain ⟨et7, eu7, rfl⟩ := hev7.held
 have HEv7 := lh hev7
 have H67 := lh (hq7.rowAt H66.out (by simp))
 have HQ7 := lh hq7
 clear hev7 hq7 hc0
 have HIz := lh (sqL_info (k := 0) (mo := 0) (ms := [0, 0, 0, 0]) (vx := 0) (vy := 0) (lv := nilS) (vs := [nilS, nilS, nilS, nilS]) rfl rfl)
 have HOz := lh (sqL_one (k := 0) (mo := 0) (ms := [0, 0, 0, 0]) (vx := 0) (vy := 0) (lv := nilS) rfl nils_one)
 go_wp2_with (first
  | (refine wpList_store_row rfl (.tmp 6) (.tmp 52) 64 rfl rfl rfl H67.out HIz.out rfl HOz.out ?_)
  | fail)
 have hrow : SqRow (w.heap.size + 1) (w7.setRow (w.heap.size + 1) (sqL 0 0 [0, 0, 0, 0] 0 0 nilS [nilS, nilS, nilS, nilS]).toArray) 0 0 [0, 0, 0, 0] 0 0 nilS [nilS, nilS, nilS, nilS] := setRow_heap w7 (w.heap.size + 1) _ _ _ _ H67.out
 have hso := Only.setRow (S := [w.heap.size + 1]) (Only.refl _ w7) (g := w.heap.size + 1) (fun _ => by simp) (sqL 0 0 [0, 0, 0, 0] 0 0 nilS [nilS, nilS, nilS, nilS]).toArray
 refine bodyPost_ret (v := .tuple #[.agg (sqL 0 0 [0, 0, 0, 0] 0 0 nilS [nilS, nilS, nilS, nilS]).toArray, .iface et7 eu7]) (results_cell_row2 Tryz.results36 _ _ (w.heap.size + 1) _ _ _ _ _ rfl rfl hrow HUnd.out rfl HIz.out) rfl (HPost.out _ _ ?_)
 unfold SquareP
 rw [HFin.out]
 have hz7 := HQ7.out.size
 have hz8 := hso.size
 have hZ5 := HZ3.out
 have hN := HN.out
 have hLt := HLt.out
 have hR := HK.out.hR
 refine ⟨(HQ6.out.trans HQ7.out (U := [R, D]) (fun g h _ => h) (by simp)).trans hso (U := [R, D]) (fun g h _ => h) (fun g h hlt => by rw [mSg] at h; omega), (HK6.out.quiet HQ7.out).only hso (by simp only [mSg]; rintro g rfl; exact ⟨by omega, by omega, by omega⟩), _, rfl, ?_⟩
 exact (HEv7.out.only hso (by simp only [mSg]; rintro g rfl; omega)).mono (by omega) hz8) : p := h
theorem square_any {lo hi R D : Nat} {bv : Value} {w : World} {m : Mod} (h : ModAt lo hi R D bv w m) (key : Bool) (hp : m.d.pos ≤ 500000000) :
  Calls Tryz.prog 36 #[cv R, .bool key, .agg (sqL 0 0 [0, 0, 0, 0] 0 0 nilS [nilS, nilS, nilS, nilS]).toArray] w (SquareP lo hi R D bv w (squareD key m)) := by
 refine hidQ fun Q HPost => ?_
 have HK := lh h
 have hlt := h.lt
 have HLt := lh hlt
 clear h hlt
 simp only [sqL, List.map_cons, List.map_nil, List.cons_append, List.nil_append]
 go_enter Tryz.func36, Tryz.ntmps36
 go_wp2_with fail
 go_at_call 67
 refine (reads_any R _).mono ?_
 rintro e w1 ⟨rfl, hw1⟩
 have hq1 : Only [] w w1 := by rw [← hw1]; exact (Only.new w _).alloc _
 have hz1 : w1.heap.size = w.heap.size + 1 + 1 := by rw [← hw1]; simp
 have h5 : SqRow w.heap.size w1 0 0 [0, 0, 0, 0] 0 0 nilS [nilS, nilS, nilS, nilS] := by
  rw [← hw1]; exact (Only.new (w.alloc _) _).rowAt (heap_alloc_new w _) (by simp)
 have h6 : SqRow (w.heap.size + 1) w1 0 0 [0, 0, 0, 0] 0 0 nilS [nilS, nilS, nilS, nilS] := by
  rw [← hw1]; exact heap_alloc_new' (by simp)
 clear hw1
 have hq2 := Only.new w1 (.cells (madeCells #[.int .i64 0] 64) 3)
 have h5' : SqRow w.heap.size (w1.alloc (.cells (madeCells #[.int .i64 0] 64) 3)) 0 0 [0, 0, 0, 0] 0 0 nilS [nilS, nilS, nilS, nilS] := hq2.rowAt h5 (by simp)
 have HQ1 := lh (hq1.q hq2)
 have H5 := lh h5'
 have H6 := lh (hq2.rowAt h6 (by simp))
 clear h5 h5' h6 hq1 hq2
 have hmk : (Instr.makeSlice 25 (.int .i64 64) (.int .i64 64)).run Tryz.prog w1 = .ok (.slice (some ⟨w1.heap.size, 0, none⟩) 64 64) (w1.alloc (.cells (madeCells #[.int .i64 0] 64) 3)) := run_make_row' (P := Tryz.prog) 25 3 (.int .i64 0) 8 EI.ut (by kernel_rfl) rfl .i64 .i64 64 (by omega) (by omega) w1
 have HMk := lh hmk
 clear hmk
 have HBd := lh (show (Instr.build 64 #[(4, .slice (some ⟨w1.heap.size, 0, none⟩) 64 64)]).run Tryz.prog (w1.alloc (.cells (madeCells #[.int .i64 0] 64) 3)) = .ok (.agg (sqL 0 0 [0, 0, 0, 0] 0 0 (.slice (some ⟨w1.heap.size, 0, none⟩) 64 64) [nilS, nilS, nilS, nilS]).toArray) (w1.alloc (.cells (madeCells #[.int .i64 0] 64) 3)) by kernel_rfl)
 have h13 := sqL_one (k := 0) (mo := 0) (ms := [0, 0, 0, 0]) (vx := 0) (vy := 0) (lv := .slice (some ⟨w.heap.size + 1 + 1, 0, none⟩) 64 64) rfl nils_one
 have hinf := sqL_info (k := 0) (mo := 0) (ms := [0, 0, 0, 0]) (vx := 0) (vy := 0) (lv := .slice (some ⟨w.heap.size + 1 + 1, 0, none⟩) 64 64) (vs := [nilS, nilS, nilS, nilS]) rfl rfl
 have hszs := sqL_sizes (k := 0) (mo := 0) (ms := [0, 0, 0, 0]) (vx := 0) (vy := 0) (lv := nilS) (vs := [nilS, nilS, nilS, nilS]) (k' := 0) (mo' := 0) (ms' := [0, 0, 0, 0]) (vx' := 0) (vy' := 0) (lv' := .slice (some ⟨w.heap.size + 1 + 1, 0, none⟩) 64 64) (vs' := [nilS, nilS, nilS, nilS]) rfl rfl rfl rfl
 have HSt := lh (And.intro hinf (And.intro hszs h13))
 clear h13 hinf hszs
 rw [hz1] at HMk HBd
 go_wp2_with (first
  | (refine wpList_make rfl 25 _ _ rfl HMk.out ?_; refine wpList_build rfl 64 [(4, .tmp 14)] rfl HBd.out ?_)
  | (refine wpList_store_row rfl (.tmp 5) (.tmp 15) 64 rfl rfl rfl H5.out HSt.out.1 HSt.out.2.1 HSt.out.2.2 ?_)
  | fail)
 have hset := setRow_heap (w1.alloc (.cells (madeCells #[.int .i64 0] 64) 3)) w.heap.size _ (sqL 0 0 [0, 0, 0, 0] 0 0 (.slice (some ⟨w.heap.size + 1 + 1, 0, none⟩) 64 64) [nilS, nilS, nilS, nilS]).toArray _ _ H5.out
 have hso := Only.setRow (S := [w.heap.size]) (Only.refl _ (w1.alloc (.cells (madeCells #[.int .i64 0] 64) 3))) (g := w.heap.size) (fun _ => by simp) (sqL 0 0 [0, 0, 0, 0] 0 0 (.slice (some ⟨w.heap.size + 1 + 1, 0, none⟩) 64 64) [nilS, nilS, nilS, nilS]).toArray
 have hmade := (own_made .i64 3 w1 64 (by simp [maxLen]))
 rw [hz1] at hmade
 have HL2 := lh ((hmade.ints.only hso (by simp only [mSg]; rintro g rfl; omega)).mono (lo' := w.heap.size + 1 + 1) (hi' := w1.heap.size + 1) (Nat.le_refl _) (by simp))
 have HQ2 := lh (HQ1.out.trans hso (U := []) (by simp) (fun g hg hlt => by rw [mSg] at hg; omega))
 have H62 := lh (hso.rowAt H6.out (by simp))
 have H52 := lh hset
 have hz2 := hso.size
 rw [World.size_alloc] at hz2
 clear hset hso hmade HSt HMk HBd H5 H6 HQ1
 generalize World.setRow _ _ _ = W2 at *
 go_loopw [16] (fun i wr => ∃ (k : Nat) (vs : List Value), k ≤ 4 ∧ i = .int .i64 k ∧ Hid (SqRow w.heap.size wr 0 0 [0, 0, 0, 0] 0 0 (.slice (some ⟨w.heap.size + 1 + 1, 0, none⟩) 64 64) vs) ∧ Hid (vs.length = 4) ∧ Hid (∀ j, j < k → Ints .i64 (w.heap.size + 1 + 1) wr.heap.size wr (vs.getD j nilS) (List.replicate 16 0)) ∧ Hid (Only [w.heap.size] W2 wr)) (fun i _ => 4 - (intOf i).toNat)
 case atStart => exact ⟨0, _, by omega, rfl, H52, lh rfl, lh (fun j hj => absurd hj (by omega)), lh (Only.refl _ _)⟩
 case round =>
  obtain ⟨k, vs, hk, rfl, H5r, Hvl, Hins, HQr⟩ := hrel
  by_cases hlt : k < 4
  ·have hki : (k : Int) < 4 := by omega
   have hk0 : (0 : Int) ≤ (k : Int) := by omega
   have hmk : (Instr.makeSlice 25 (.int .i64 16) (.int .i64 16)).run Tryz.prog wr = .ok (.slice (some ⟨wr.heap.size, 0, none⟩) 16 16) (wr.alloc (.cells (madeCells #[.int .i64 0] 16) 3)) := run_make_row' (P := Tryz.prog) 25 3 (.int .i64 0) 8 EI.ut (by kernel_rfl) rfl .i64 .i64 16 (by omega) (by omega) wr
   have hqn := Only.new wr (.cells (madeCells #[.int .i64 0] 16) 3)
   have h5n : SqRow w.heap.size (wr.alloc (.cells (madeCells #[.int .i64 0] 16) 3)) 0 0 [0, 0, 0, 0] 0 0 (.slice (some ⟨w.heap.size + 1 + 1, 0, none⟩) 64 64) vs := hqn.rowAt H5r.out (by simp)
   have cx := h5n.cell (i := 9 + k) (sqL_small rfl Hvl.out hlt)
   have fx := frozen_of_row _ _ (9 + k) _ _ h5n
   obtain ⟨hs, hso⟩ := h5n.set (sqL_setSmall rfl Hvl.out hlt (.slice (some ⟨wr.heap.size, 0, none⟩) 16 16))
   have hown := own_made .i64 3 wr 16 (by simp [maxLen])
   have hzr := HQr.out.size
   have HS := lh hs
   have HOwn := lh (hown.ints.only hso (by simp only [mSg]; rintro g rfl; omega))
   have HQn := lh (((HQr.out.mono (U := [w.heap.size]) (fun g h _ => h)).trans hqn (U := [w.heap.size]) (fun g h _ => h) (by simp)).trans hso (U := [w.heap.size]) (fun g h _ => h) (fun g h _ => h))
   have HQw := lh ((hqn.mono (U := [w.heap.size]) (by simp)).trans hso (U := [w.heap.size]) (fun g h _ => h) (fun g h _ => h))
   have hz4 := hso.size
   clear hqn h5n hs hso hown
   go_wp2_with fail
   exact ⟨⟨k + 1, vs.set k _, by omega, by go_num, HS, lh (by rw [List.length_set]; exact Hvl.out), lh (fun j hj => by
    by_cases hjk : j = k
    ·subst hjk
     rw [List.getD_eq_getElem?_getD, List.getElem?_set_self (by rw [Hvl.out]; exact hlt)]
     exact HOwn.out.mono (by omega) (Nat.le_of_eq (by simp))
    ·rw [List.getD_eq_getElem?_getD, List.getElem?_set_ne (Ne.symm hjk), ← List.getD_eq_getElem?_getD]
     exact ((Hins.out j (by omega)).only HQw.out (fun g hg => .inl (by rw [mSg] at hg; omega))).mono (Nat.le_refl _) (by have := HQw.out.size; omega)), HQn⟩, by simp [intOf]; omega⟩
  ·obtain rfl : k = 4 := by omega
   have hki : ¬ ((4 : Nat) : Int) < 4 := by omega
   have hqn := Only.new wr (.cells #[.int .i64 0, .int .i64 0, .int .i64 0, .int .i64 0, .int .i64 0, .int .i64 0, .int .i64 0, .int .i64 0, .slice none 0 0, .slice none 0 0, .slice none 0 0, .slice none 0 0, .slice none 0 0] 64)
   have hO3 : SqRow wr.heap.size (wr.alloc (.cells #[.int .i64 0, .int .i64 0, .int .i64 0, .int .i64 0, .int .i64 0, .int .i64 0, .int .i64 0, .int .i64 0, .slice none 0 0, .slice none 0 0, .slice none 0 0, .slice none 0 0, .slice none 0 0] 64)) 0 0 [0, 0, 0, 0] 0 0 nilS [nilS, nilS, nilS, nilS] := heap_alloc_new _ _
   have h53 : SqRow w.heap.size (wr.alloc (.cells #[.int .i64 0, .int .i64 0, .int .i64 0, .int .i64 0, .int .i64 0, .int .i64 0, .int .i64 0, .int .i64 0, .slice none 0 0, .slice none 0 0, .slice none 0 0, .slice none 0 0, .slice none 0 0] 64)) 0 0 [0, 0, 0, 0] 0 0 (.slice (some ⟨w.heap.size + 1 + 1, 0, none⟩) 64 64) vs := hqn.rowAt H5r.out (by simp)
   have h63 : SqRow (w.heap.size + 1) (wr.alloc (.cells #[.int .i64 0, .int .i64 0, .int .i64 0, .int .i64 0, .int .i64 0, .int .i64 0, .int .i64 0, .int .i64 0, .slice none 0 0, .slice none 0 0, .slice none 0 0, .slice none 0 0, .slice none 0 0] 64)) 0 0 [0, 0, 0, 0] 0 0 nilS [nilS, nilS, nilS, nilS] := hqn.rowAt (HQr.out.rowAt H62.out (by simp)) (by simp)
   have hq3 := ((HQ2.out.trans HQr.out (U := []) (by simp) (fun g hg hlt => by rw [mSg] at hg; omega)).q hqn)
   have hzr := HQr.out.size
   have hlt := HLt.out
   have HN : Hid (w.heap.size + 1 + 1 + 1 ≤ wr.heap.size) := lh (by omega)
   have HL3 := lh (((HL2.out.only HQr.out (by simp only [mSg]; rintro g rfl; omega)).quiet hqn).mono (lo' := w.heap.size + 1 + 1) (hi' := wr.heap.size) (Nat.le_refl _) (by omega))
   have HI3 := lh (fun i (hi : i < 4) => (Hins.out i hi).quiet hqn)
   have HK3 := lh (HK.out.quiet hq3)
   have H53 := lh h53
   have H63 := lh h63
   have HO3 := lh hO3
   have HQ3 := lh hq3
   have c50 := h53.cell (i := 0) (x := .int .i64 0) rfl
   have hz3 : wr.heap.size < (wr.alloc (.cells #[.int .i64 0, .int .i64 0, .int .i64 0, .int .i64 0, .int .i64 0, .int .i64 0, .int .i64 0, .int .i64 0, .slice none 0 0, .slice none 0 0, .slice none 0 0, .slice none 0 0, .slice none 0 0] 64)).heap.size := by simp
   have HZ3 := lh hz3
   have mf := mFlat R
   have HUnd := lh Tryz.underlying64
   have HInf := lh (sqL_info (k := 0) (mo := 0) (ms := [0, 0, 0, 0]) (vx := 0) (vy := 0) (lv := (.slice (some ⟨w.heap.size + 1 + 1, 0, none⟩) 64 64)) (vs := vs) rfl Hvl.out)
   clear hqn hO3 h53 h63 hq3 hlt hz3 H5r Hins HQr HL2 HQ2 H62 H52
   generalize hO : wr.heap.size = O at *
   clear hzr
   cases key with
   | false =>
    have hka := kindD_adv HK3.out.ok
    have hkp := hka.1.pos
    have hk3 := hka.2
    have HFin : Hid (squareD false m = match (partsD (kindD m).1 (kindD m).2).1 with
     | .error e => (.error (inD sSyntax (kindD m).1 e), (partsD (kindD m).1 (kindD m).2).2)
     | .ok s => (.ok s, (partsD (kindD m).1 (kindD m).2).2)) := lh rfl
    have HC := lh (fun (W : World) (hk : ModAt lo hi R D bv W m) => mkind_any hk 0 (by omega))
    clear hka
    generalize kindD m = KD at *
    obtain ⟨kn, m1⟩ := KD
    simp only at hkp hk3 HFin HC
    go_wp2_with fail
    go_at_call 69
    refine (HC.out _ HK3.out).mono ?_
    rintro e w2 ⟨rfl, hk2, hq2⟩
    have ho : SqRow O w2 0 0 [0, 0, 0, 0] 0 0 nilS [nilS, nilS, nilS, nilS] := hq2.rowAt HO3.out (by have := HLt.out; have := HN.out; simp only [List.mem_cons, List.not_mem_nil, or_false]; omega)
    have h5 : SqRow w.heap.size w2 0 0 [0, 0, 0, 0] 0 0 (.slice (some ⟨w.heap.size + 1 + 1, 0, none⟩) 64 64) vs := hq2.rowAt H53.out (by have := HLt.out; simp only [List.mem_cons, List.not_mem_nil, or_false]; omega)
    have h6 : SqRow (w.heap.size + 1) w2 0 0 [0, 0, 0, 0] 0 0 nilS [nilS, nilS, nilS, nilS] := hq2.rowAt H63.out (by have := HLt.out; simp only [List.mem_cons, List.not_mem_nil, or_false]; omega)
    have cx := ho.cell (i := 0) (x := .int .i64 0) rfl
    have fx := frozen_of_row _ _ 0 _ _ ho
    obtain ⟨hs, hso⟩ := ho.set (i := 0) (sqL_setK (kn : Int))
    have hR0 : R ∉ [O] ∧ D ∉ [O] := by have := HLt.out; have := HN.out; simp only [mSg]; omega
    have HOp := lh hs
    have H5p : Hid (SqRow w.heap.size _ 0 0 [0, 0, 0, 0] 0 0 (.slice (some ⟨w.heap.size + 1 + 1, 0, none⟩) 64 64) vs) := lh (hso.rowAt h5 (by have := HN.out; simp only [mSg]; omega))
    have H6p : Hid (SqRow (w.heap.size + 1) _ 0 0 [0, 0, 0, 0] 0 0 nilS [nilS, nilS, nilS, nilS]) := lh (hso.rowAt h6 (by have := HN.out; simp only [mSg]; omega))
    have HKp := lh (hk2.only hso (by simp only [mSg]; rintro g rfl; have := HLt.out; have := HN.out; have := HK.out.hR; exact ⟨by omega, by omega, by omega⟩))
    have HQp := lh ((((HQ3.out.mono (U := [R, D]) (by simp)).trans hq2 (fun g h _ => h) (fun g h _ => h))).trans hso (U := [R, D]) (fun g h _ => h) (fun g h hlt => by rw [mSg] at h; have := HN.out; omega))
    have HLp := lh ((HL3.out.only hq2 (by have := HLt.out; intro g hg; simp only [List.mem_cons, List.not_mem_nil, or_false] at hg; omega)).only hso (by intro g hg; rw [mSg] at hg; omega))
    have HIp := lh (fun i (hi : i < 4) => ((HI3.out i hi).only hq2 (by have := HLt.out; intro g hg; simp only [List.mem_cons, List.not_mem_nil, or_false] at hg; omega)).only hso (by intro g hg; rw [mSg] at hg; omega))
    have hzp := Nat.le_trans hq2.size hso.size
    clear ho h5 h6 hs hso hk2 hq2
    go_wp2_with (first
     | (refine wpList_load_row rfl (.tmp 5) 64 rfl rfl H5p.out HUnd.out rfl HInf.out ?_)
     | fail)
    clear cx fx c50
    generalize World.setCell w2 _ _ = W5 at *
    have HPt := lh (parts_any (k := kn) (lo' := w.heap.size + 1 + 1) (hi' := O) (by omega) HKp.out ⟨rfl, HLp.out, Hvl.out, HIp.out⟩ (by have := HLt.out; omega) (by have := HLt.out; omega) (by have := HZ3.out; omega) (by have := HLt.out; have := HN.out; have := HK.out.hR; exact ⟨by omega, by omega, by omega, by omega⟩) HOp.out (by omega))
    have HAdv := lh (partsD_adv (k := kn) (by omega) HKp.out.ok)
    generalize partsD kn m1 = PD at *
    obtain ⟨r, m2⟩ := PD
    simp only at HFin HPt HAdv
    go_at_call 70
    refine HPt.out.mono ?_
    rintro e w6 ⟨hq6, hk6, hm⟩
    have hON : w.heap.size + 1 ∉ [R, D, O] := by have := HLt.out; have := HN.out; simp only [List.mem_cons, List.not_mem_nil, or_false]; omega
    have h66 : SqRow (w.heap.size + 1) w6 0 0 [0, 0, 0, 0] 0 0 nilS [nilS, nilS, nilS, nilS] := hq6.rowAt H6p.out hON
    have HQ6 := lh (HQp.out.trans hq6 (U := [R, D]) (fun g h _ => h) (fun g h hlt => by have := HN.out; simp only [List.mem_cons, List.not_mem_nil, or_false] at h ⊢; rcases h with h | h | h; exact .inl h; exact .inr h; omega))
    have HK6 := lh hk6
    have HZ6 := lh hq6.size
    clear hk6 hq6 HPt hON
    cases r with
    | error er =>
     exact qDCode1
    | ok sq =>
     exact qDCode0
   | true =>
    have hfa := flatD_adv HK3.out.ok
    have hkp := hfa.pos
    have HC := lh (fun (W : World) (hk : ModAt lo hi R D bv W m) (b : Bool) => flat_any hk b (by omega))
    clear hfa
    cases hf : (flatD m).1 with
    | true =>
     have HFin : Hid (squareD true m = match (partsD 3 (flatD m).2).1 with
      | .error e => (.error (inD sSyntax (3 : Nat) e), (partsD 3 (flatD m).2).2)
      | .ok s => (.ok s, (partsD 3 (flatD m).2).2)) := lh (by unfold squareD kindK; rw [hf]; rfl)
     rw [hf] at HC
     clear hf
     generalize (flatD m).2 = m1 at *
     go_wp2_with fail
     go_at_call 198
     refine (HC.out _ HK3.out _).mono ?_
     rintro e w2 ⟨rfl, hk2, hq2⟩
     have ho : SqRow O w2 0 0 [0, 0, 0, 0] 0 0 nilS [nilS, nilS, nilS, nilS] := hq2.rowAt HO3.out (by have := HLt.out; have := HN.out; simp only [List.mem_cons, List.not_mem_nil, or_false]; omega)
     have h5 : SqRow w.heap.size w2 0 0 [0, 0, 0, 0] 0 0 (.slice (some ⟨w.heap.size + 1 + 1, 0, none⟩) 64 64) vs := hq2.rowAt H53.out (by have := HLt.out; simp only [List.mem_cons, List.not_mem_nil, or_false]; omega)
     have h6 : SqRow (w.heap.size + 1) w2 0 0 [0, 0, 0, 0] 0 0 nilS [nilS, nilS, nilS, nilS] := hq2.rowAt H63.out (by have := HLt.out; simp only [List.mem_cons, List.not_mem_nil, or_false]; omega)
     have cx := ho.cell (i := 0) (x := .int .i64 0) rfl
     have fx := frozen_of_row _ _ 0 _ _ ho
     obtain ⟨hs, hso⟩ := ho.set (i := 0) (sqL_setK 3)
     have hR0 : R ∉ [O] ∧ D ∉ [O] := by have := HLt.out; have := HN.out; simp only [mSg]; omega
     have HOp := lh hs
     have H5p : Hid (SqRow w.heap.size _ 0 0 [0, 0, 0, 0] 0 0 (.slice (some ⟨w.heap.size + 1 + 1, 0, none⟩) 64 64) vs) := lh (hso.rowAt h5 (by have := HN.out; simp only [mSg]; omega))
     have H6p : Hid (SqRow (w.heap.size + 1) _ 0 0 [0, 0, 0, 0] 0 0 nilS [nilS, nilS, nilS, nilS]) := lh (hso.rowAt h6 (by have := HN.out; simp only [mSg]; omega))
     have HKp := lh (hk2.only hso (by simp only [mSg]; rintro g rfl; have := HLt.out; have := HN.out; have := HK.out.hR; exact ⟨by omega, by omega, by omega⟩))
     have HQp := lh ((((HQ3.out.mono (U := [R, D]) (by simp)).trans hq2 (fun g h _ => h) (fun g h _ => h))).trans hso (U := [R, D]) (fun g h _ => h) (fun g h hlt => by rw [mSg] at h; have := HN.out; omega))
     have HLp := lh ((HL3.out.only hq2 (by have := HLt.out; intro g hg; simp only [List.mem_cons, List.not_mem_nil, or_false] at hg; omega)).only hso (by intro g hg; rw [mSg] at hg; omega))
     have HIp := lh (fun i (hi : i < 4) => ((HI3.out i hi).only hq2 (by have := HLt.out; intro g hg; simp only [List.mem_cons, List.not_mem_nil, or_false] at hg; omega)).only hso (by intro g hg; rw [mSg] at hg; omega))
     have hzp := Nat.le_trans hq2.size hso.size
     clear ho h5 h6 hs hso hk2 hq2
     go_wp2_with (first
      | (refine wpList_load_row rfl (.tmp 5) 64 rfl rfl H5p.out HUnd.out rfl HInf.out ?_)
      | fail)
     clear cx fx c50
     generalize World.setCell w2 _ _ = W5 at *
     have HPt := lh (parts_any (k := 3) (lo' := w.heap.size + 1 + 1) (hi' := O) (by omega) HKp.out ⟨rfl, HLp.out, Hvl.out, HIp.out⟩ (by have := HLt.out; omega) (by have := HLt.out; omega) (by have := HZ3.out; omega) (by have := HLt.out; have := HN.out; have := HK.out.hR; exact ⟨by omega, by omega, by omega, by omega⟩) HOp.out (by omega))
     have HAdv := lh (partsD_adv (k := 3) (by omega) HKp.out.ok)
     generalize partsD 3 m1 = PD at *
     obtain ⟨r, m2⟩ := PD
     simp only at HFin HPt HAdv
     go_at_call 70
     refine HPt.out.mono ?_
     rintro e w6 ⟨hq6, hk6, hm⟩
     have hON : w.heap.size + 1 ∉ [R, D, O] := by have := HLt.out; have := HN.out; simp only [List.mem_cons, List.not_mem_nil, or_false]; omega
     have h66 : SqRow (w.heap.size + 1) w6 0 0 [0, 0, 0, 0] 0 0 nilS [nilS, nilS, nilS, nilS] := hq6.rowAt H6p.out hON
     have HQ6 := lh (HQp.out.trans hq6 (U := [R, D]) (fun g h _ => h) (fun g h hlt => by have := HN.out; simp only [List.mem_cons, List.not_mem_nil, or_false] at h ⊢; rcases h with h | h | h; exact .inl h; exact .inr h; omega))
     have HK6 := lh hk6
     have HZ6 := lh hq6.size
     clear hk6 hq6 HPt hON
     cases r with
     | error er =>
      exact qDCode1
     | ok sq =>
      exact qDCode0
    | false =>
     have HFin : Hid (squareD true m = match (partsD 2 (flatD m).2).1 with
      | .error e => (.error (inD sSyntax (2 : Nat) e), (partsD 2 (flatD m).2).2)
      | .ok s => (.ok s, (partsD 2 (flatD m).2).2)) := lh (by unfold squareD kindK; rw [hf]; rfl)
     rw [hf] at HC
     clear hf
     generalize (flatD m).2 = m1 at *
     go_wp2_with fail
     go_at_call 198
     refine (HC.out _ HK3.out _).mono ?_
     rintro e w2 ⟨rfl, hk2, hq2⟩
     have ho : SqRow O w2 0 0 [0, 0, 0, 0] 0 0 nilS [nilS, nilS, nilS, nilS] := hq2.rowAt HO3.out (by have := HLt.out; have := HN.out; simp only [List.mem_cons, List.not_mem_nil, or_false]; omega)
     have h5 : SqRow w.heap.size w2 0 0 [0, 0, 0, 0] 0 0 (.slice (some ⟨w.heap.size + 1 + 1, 0, none⟩) 64 64) vs := hq2.rowAt H53.out (by have := HLt.out; simp only [List.mem_cons, List.not_mem_nil, or_false]; omega)
     have h6 : SqRow (w.heap.size + 1) w2 0 0 [0, 0, 0, 0] 0 0 nilS [nilS, nilS, nilS, nilS] := hq2.rowAt H63.out (by have := HLt.out; simp only [List.mem_cons, List.not_mem_nil, or_false]; omega)
     have cx := ho.cell (i := 0) (x := .int .i64 0) rfl
     have fx := frozen_of_row _ _ 0 _ _ ho
     obtain ⟨hs, hso⟩ := ho.set (i := 0) (sqL_setK 2)
     have hR0 : R ∉ [O] ∧ D ∉ [O] := by have := HLt.out; have := HN.out; simp only [mSg]; omega
     have HOp := lh hs
     have H5p : Hid (SqRow w.heap.size _ 0 0 [0, 0, 0, 0] 0 0 (.slice (some ⟨w.heap.size + 1 + 1, 0, none⟩) 64 64) vs) := lh (hso.rowAt h5 (by have := HN.out; simp only [mSg]; omega))
     have H6p : Hid (SqRow (w.heap.size + 1) _ 0 0 [0, 0, 0, 0] 0 0 nilS [nilS, nilS, nilS, nilS]) := lh (hso.rowAt h6 (by have := HN.out; simp only [mSg]; omega))
     have HKp := lh (hk2.only hso (by simp only [mSg]; rintro g rfl; have := HLt.out; have := HN.out; have := HK.out.hR; exact ⟨by omega, by omega, by omega⟩))
     have HQp := lh ((((HQ3.out.mono (U := [R, D]) (by simp)).trans hq2 (fun g h _ => h) (fun g h _ => h))).trans hso (U := [R, D]) (fun g h _ => h) (fun g h hlt => by rw [mSg] at h; have := HN.out; omega))
     have HLp := lh ((HL3.out.only hq2 (by have := HLt.out; intro g hg; simp only [List.mem_cons, List.not_mem_nil, or_false] at hg; omega)).only hso (by intro g hg; rw [mSg] at hg; omega))
     have HIp := lh (fun i (hi : i < 4) => ((HI3.out i hi).only hq2 (by have := HLt.out; intro g hg; simp only [List.mem_cons, List.not_mem_nil, or_false] at hg; omega)).only hso (by intro g hg; rw [mSg] at hg; omega))
     have hzp := Nat.le_trans hq2.size hso.size
     clear ho h5 h6 hs hso hk2 hq2
     go_wp2_with (first
      | (refine wpList_load_row rfl (.tmp 5) 64 rfl rfl H5p.out HUnd.out rfl HInf.out ?_)
      | fail)
     clear cx fx c50
     generalize World.setCell w2 _ _ = W5 at *
     have HPt := lh (parts_any (k := 2) (lo' := w.heap.size + 1 + 1) (hi' := O) (by omega) HKp.out ⟨rfl, HLp.out, Hvl.out, HIp.out⟩ (by have := HLt.out; omega) (by have := HLt.out; omega) (by have := HZ3.out; omega) (by have := HLt.out; have := HN.out; have := HK.out.hR; exact ⟨by omega, by omega, by omega, by omega⟩) HOp.out (by omega))
     have HAdv := lh (partsD_adv (k := 2) (by omega) HKp.out.ok)
     generalize partsD 2 m1 = PD at *
     obtain ⟨r, m2⟩ := PD
     simp only at HFin HPt HAdv
     go_at_call 70
     refine HPt.out.mono ?_
     rintro e w6 ⟨hq6, hk6, hm⟩
     have hON : w.heap.size + 1 ∉ [R, D, O] := by have := HLt.out; have := HN.out; simp only [List.mem_cons, List.not_mem_nil, or_false]; omega
     have h66 : SqRow (w.heap.size + 1) w6 0 0 [0, 0, 0, 0] 0 0 nilS [nilS, nilS, nilS, nilS] := hq6.rowAt H6p.out hON
     have HQ6 := lh (HQp.out.trans hq6 (U := [R, D]) (fun g h _ => h) (fun g h hlt => by have := HN.out; simp only [List.mem_cons, List.not_mem_nil, or_false] at h ⊢; rcases h with h | h | h; exact .inl h; exact .inr h; omega))
     have HK6 := lh hk6
     have HZ6 := lh hq6.size
     clear hk6 hq6 HPt hON
     cases r with
     | error er =>
      exact qDCode1
     | ok sq =>
      exact qDCode0
end Go.Proofs.YthgpgbdkcdmbpaaGreatDoor
