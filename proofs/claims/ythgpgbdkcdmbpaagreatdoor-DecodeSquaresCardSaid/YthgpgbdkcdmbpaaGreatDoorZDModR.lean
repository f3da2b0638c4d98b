/- Joined texts: DModR. Conditions: each part names its own. -/
import Derived.Test.YthgpgbdkcdmbpaaGreatDoorZDModel
/- model.NewReader, (*Reader).Bit, Flat, (*chances).learn. Conditions: the reader lies in a block, its decoder in another, both behind the bytes. -/
namespace Go.Proofs.YthgpgbdkcdmbpaaGreatDoor
open Go.RowKit
set_option linter.unusedVariables false
set_option linter.unusedSimpArgs false

section
variable {P : Program}
/-- a struct or an array built whole -/
theorem wpList_build {w : World} {ops : Array Oper} {rest : List Oper} {o : Oper} {a : Act} {Q : Exit → Act → World → Prop} (hgd : o.guard = none) (t : TypeId) (parts : List (Nat × Operand)) (ho : o.op = .build t parts.toArray) {v : Value}
    (hr : (Instr.build t (parts.map fun p => (p.1, a.eval p.2)).toArray).run P w = .ok v w) (h : wpList P ops Q rest (a.put o.dst v) w) : wpList P ops Q (o :: rest) a w :=
  wpList_plain hgd fun _ hK => by
    unfold Oper.wp execOp
    simp only [ho, List.map_toArray, Sem.run_bind, Sem.run_pure, Result.andThen_ok, hr]
    exact hK _ _ h
end

/-- the cells of a coder that reads -/
def modCells (p : List Int) (D : Nat) : List Value := p.map (Value.int .i64) ++ [.pointer (some ⟨D, 0, none⟩)]
/-- a coder that reads, in block R, its decoder in block D -/
structure ModAt (lo hi R D : Nat) (bv : Value) (w : World) (m : Mod) : Prop where
  row : w.heap[R]? = some (.cells (modCells m.p D).toArray 121 (0, 0))
  dec : DecAt lo hi D w bv m.d
  ok : ModOk m
  hR : hi ≤ R
  ne : R ≠ D
section
variable {lo hi R D : Nat} {bv : Value} {w w' : World} {m : Mod} {S : List Nat}
theorem ModAt.lt (h : ModAt lo hi R D bv w m) : R < w.heap.size ∧ D < w.heap.size := ⟨(Array.getElem?_eq_some_iff.1 h.row).1, h.dec.lt⟩
theorem ModAt.only (h : ModAt lo hi R D bv w m) (o : Only S w w') (hS : ∀ g ∈ S, hi ≤ g ∧ g ≠ R ∧ g ≠ D) : ModAt lo hi R D bv w' m :=
  ⟨o.rowAt h.row (fun hm => (hS R hm).2.1 rfl), h.dec.only o (fun g hg => ⟨(hS g hg).1, (hS g hg).2.2⟩), h.ok, h.hR, h.ne⟩
theorem ModAt.quiet (h : ModAt lo hi R D bv w m) (o : Only [] w w') : ModAt lo hi R D bv w' m := h.only o (by simp)
theorem modCells_at {p : List Int} (h : p.length = 64) (D : Nat) {c : Nat} (hc : c < 64) : (modCells p D).toArray[c]? = some (.int .i64 (p.getD c 0)) := by
  unfold modCells
  rw [List.getElem?_toArray, List.getElem?_append_left (by simp; omega), List.getElem?_map, List.getElem?_eq_getElem (by omega)]
  simp [h, hc]
theorem modCells_ptr {p : List Int} (h : p.length = 64) (D : Nat) : (modCells p D).toArray[64]? = some (.pointer (some ⟨D, 0, none⟩)) := by
  unfold modCells
  rw [List.getElem?_toArray, List.getElem?_append_right (by simp; omega)]
  simp [h]
theorem ModAt.cell (h : ModAt lo hi R D bv w m) {c : Nat} (hc : c < 64) : w.cell? ⟨R, c, none⟩ = some (.int .i64 (m.p.getD c 0)) := by
  rw [cell_of_row _ _ _ _ _ _ h.row]; exact modCells_at h.ok.len D hc
theorem ModAt.ptr (h : ModAt lo hi R D bv w m) : w.cell? ⟨R, 64, none⟩ = some (.pointer (some ⟨D, 0, none⟩)) := by
  rw [cell_of_row _ _ _ _ _ _ h.row]; exact modCells_ptr h.ok.len D
theorem modCells_set {p : List Int} (h : p.length = 64) (D : Nat) {c : Nat} (hc : c < 64) (x : Int) : (modCells p D).toArray.setIfInBounds c (.int .i64 x) = (modCells (p.set c x) D).toArray := by
  unfold modCells
  rw [List.setIfInBounds_toArray]
  congr 1
  rw [List.set_append_left _ _ (by simp; omega), List.map_set]
end

set_option maxRecDepth 100000 in
set_option maxHeartbeats 4000000 in
theorem mnew_any {lo hi : Nat} {v : Value} {l : List Int} {w : World} (h : Ints .u8 lo hi w v l) (hl : l.length ≤ 100000000) :
    Calls Tryz.prog 35 #[v] w fun e w' => ∃ R D bv hi', e = .returned (.pointer (some ⟨R, 0, none⟩)) ∧ ModAt w.heap.size hi' R D bv w' (modNew l) ∧ Only [] w w' ∧ w.heap.size ≤ R ∧ w.heap.size ≤ D := by
  suffices key : ∀ Q : Ending → World → Prop, Hid (∀ e w', (∃ R D bv hi', e = .returned (.pointer (some ⟨R, 0, none⟩)) ∧ ModAt w.heap.size hi' R D bv w' (modNew l) ∧ Only [] w w' ∧ w.heap.size ≤ R ∧ w.heap.size ≤ D) → Q e w') → Calls Tryz.prog 35 #[v] w Q from key _ (Lib.hid fun _ _ h => h)
  intro Q HPost
  have Hok := Lib.hid (modNew_ok h.2)
  obtain ⟨a, cap, hv, _⟩ := h.open
  subst hv
  have Hn := Lib.hid (fun (w' : World) (o : Only [] w w') => dnew_any (h.quiet o) hl)
  clear h hl
  go_enter Tryz.func35, Tryz.ntmps35
  go_wp2_with fail
  go_at_call 65
  refine (begin_any w).mono ?_
  rintro e w1 ⟨rfl, hq1⟩
  have HQ1 := Lib.hid hq1
  clear hq1
  obtain ⟨C, hC⟩ : ∃ C : Array Value, C = (List.replicate 64 (Value.int .i64 1024)).toArray := ⟨_, rfl⟩
  rw [← hC]
  have HC := Lib.hid hC
  clear hC
  go_wp2_with fail
  go_at_call 66
  refine (Hn.out w1 HQ1.out).mono ?_
  rintro e w2 ⟨D, bv, hi', rfl, hd, hq2, hz1, hz2⟩
  have HD := Lib.hid hd
  have HQ2 := Lib.hid hq2
  clear hd hq2
  obtain ⟨C2, hC2⟩ : ∃ C : Array Value, C = (modCells (List.replicate 64 1024) D).toArray := ⟨_, rfl⟩
  have hb : (Instr.build 121 #[(0, .agg C), (1, .pointer (some ⟨D, 0, none⟩))]).run Tryz.prog w2 = .ok (.agg C2) w2 := by rw [HC.out, hC2]; kernel_rfl
  have Hb := Lib.hid hb
  have HC2 := Lib.hid hC2
  clear hb hC2
  rename_i K0 hK0
  simp only []
  refine hK0 _ _ ?_
  clear hK0
  refine wpList_build rfl 121 [(0, .tmp 3), (1, .tmp 5)] rfl Hb.out ?_
  go_wp2_with fail
  have hqn := Only.new w2 (.cells C2 121)
  have hz3 := HQ1.out.size
  have hz4 := HD.out.lt
  refine HPost.out _ _ ⟨w2.heap.size, D, bv, hi', rfl, ⟨?_, ⟨(HD.out.quiet hqn).row, (HD.out.quiet hqn).bytes.mono hz3 (Nat.le_refl _), hz2⟩, Hok.out, by omega, by omega⟩, (HQ1.out.q HQ2.out).q hqn, by omega, by omega⟩
  rw [HC2.out]
  exact heap_alloc_new _ _
#print axioms mnew_any

theorem ModAt.learn {lo hi R D : Nat} {bv : Value} {w : World} {m : Mod} (h : ModAt lo hi R D bv w m) {c : Nat} (hc : c < 64) {x : Int} (hx : 31 ≤ x ∧ x ≤ 2017) :
    ModAt lo hi R D bv (w.setCell ⟨R, c, none⟩ (.int .i64 x)) ⟨m.p.set c x, m.d⟩ ∧ Only [R] w (w.setCell ⟨R, c, none⟩ (.int .i64 x)) := by
  have o : Only [R] w (w.setCell ⟨R, c, none⟩ (.int .i64 x)) := (Only.refl _ _).setCell (by simp) _
  have hr := heap_setCell_same w R c _ _ (.int .i64 x) h.row
  rw [modCells_set h.ok.len D hc] at hr
  refine ⟨⟨hr, h.dec.only o (fun g hg => by rw [List.mem_singleton] at hg; subst hg; exact ⟨h.hR, h.ne⟩), ⟨by rw [List.length_set]; exact h.ok.len, fun y hy => ?_, h.ok.d⟩, h.hR, h.ne⟩, o⟩
  rcases List.mem_or_eq_of_mem_set hy with hy | rfl
  · exact h.ok.ch y hy
  · exact hx

set_option maxRecDepth 100000 in
set_option maxHeartbeats 4000000 in
theorem learn_any {lo hi R D : Nat} {bv : Value} {w : World} {m : Mod} (h : ModAt lo hi R D bv w m) {c : Nat} (hc : c < 64) (b : Bool) :
    Calls Tryz.prog 202 #[.pointer (some ⟨R, 0, none⟩), .int .i64 c, .bool b] w fun e w' => e = .returned (.tuple #[]) ∧ ModAt lo hi R D bv w' ⟨m.p.set c (learnV (m.p.getD c 0) b), m.d⟩ ∧ Only [R] w w' := by
  suffices key : ∀ Q : Ending → World → Prop, Hid (∀ e w', (e = .returned (.tuple #[]) ∧ ModAt lo hi R D bv w' ⟨m.p.set c (learnV (m.p.getD c 0) b), m.d⟩ ∧ Only [R] w w') → Q e w') → Calls Tryz.prog 202 #[.pointer (some ⟨R, 0, none⟩), .int .i64 c, .bool b] w Q from key _ (Lib.hid fun _ _ h => h)
  intro Q HPost
  have hx := ch_at h.ok hc
  have c0 := h.cell hc
  have f0 := frozen_of_row w R c _ _ h.row
  have HL := Lib.hid (h.learn hc (learn_in b hx))
  have hci : (0 : Int) ≤ (c : Int) := by omega
  have hci2 : (c : Int) < 64 := by omega
  clear h
  generalize m.p.getD c 0 = x at *
  cases b with
  | true =>
    go_enter Tryz.func202, Tryz.ntmps202
    go_wp2_with fail
    go_region
    go_wp2_with fail
    refine bodyPost_end (results_none Tryz.results202 _ _ _) rfl (HPost.out _ _ ⟨rfl, ?_, ?_⟩)
    · exact HL.out.1.quiet (Only.refl _ _).drew
    · exact HL.out.2.drew
  | false =>
    go_enter Tryz.func202, Tryz.ntmps202
    go_wp2_with fail
    go_region
    go_wp2_with fail
    refine bodyPost_end (results_none Tryz.results202 _ _ _) rfl (HPost.out _ _ ⟨rfl, ?_, ?_⟩)
    · exact HL.out.1.quiet (Only.refl _ _).drew
    · exact HL.out.2.drew
#print axioms learn_any

theorem context_any (c : Nat) (hc : c < 64) (w : World) : Calls Tryz.prog 200 #[.int .i64 c] w fun e w' => e = .returned (.bool true) ∧ w = w' := by
  have h0 : (0 : Int) ≤ (c : Int) := by omega
  have h1 : (c : Int) < 64 := by omega
  go_enter Tryz.func200, Tryz.ntmps200
  go_wp2
  go_ret
  exact ⟨rfl, rfl⟩

/-- a coder's range decoder, gone on -/
theorem ModAt.dec' {lo hi R D : Nat} {bv : Value} {w w' : World} {m : Mod} (h : ModAt lo hi R D bv w m) {d : Rac} (o : Only [D] w w') (hd : DecAt lo hi D w' bv d) (hok : RacOk d) : ModAt lo hi R D bv w' ⟨m.p, d⟩ :=
  ⟨o.rowAt h.row (by rw [List.mem_singleton]; exact h.ne), hd, ⟨h.ok.len, h.ok.ch, hok⟩, h.hR, h.ne⟩

set_option maxRecDepth 100000 in
set_option maxHeartbeats 4000000 in
theorem bit_any {lo hi R D : Nat} {bv : Value} {w : World} {m : Mod} (h : ModAt lo hi R D bv w m) {c : Nat} (hc : c < 64) (b : Bool) (hp : m.d.pos ≤ 1000000000) :
    Calls Tryz.prog 197 #[.pointer (some ⟨R, 0, none⟩), .int .i64 c, .bool b] w fun e w' => e = .returned (.bool (bitD c m).1) ∧ ModAt lo hi R D bv w' (bitD c m).2 ∧ Only [R, D] w w' := by
  suffices key : ∀ Q : Ending → World → Prop, Hid (∀ e w', (e = .returned (.bool (bitD c m).1) ∧ ModAt lo hi R D bv w' (bitD c m).2 ∧ Only [R, D] w w') → Q e w') → Calls Tryz.prog 197 #[.pointer (some ⟨R, 0, none⟩), .int .i64 c, .bool b] w Q from key _ (Lib.hid fun _ _ h => h)
  intro Q HPost
  have hx := ch_at h.ok hc
  have c0 := h.cell hc
  have c1 := h.ptr
  obtain ⟨q1, q2⟩ := chance_w h.ok.d.lo h.ok.d.hi (p := m.p.getD c 0) (by omega) (by omega)
  have HN := Lib.hid (narrow_ok h.ok.d q1 q2)
  have HK := Lib.hid h
  have hci : (0 : Int) ≤ (c : Int) := by omega
  have hci2 : (c : Int) < 64 := by omega
  have HC := Lib.hid (fun (w' : World) (o : Only [] w w') => dcode_any (h.quiet o).dec h.ok.d (p := m.p.getD c 0) (by omega) (by omega) hp)
  have HB : Hid ((bitD c m) = ((m.d.narrow (m.d.r / 2048 * m.p.getD c 0)).1, ⟨m.p.set c (learnV (m.p.getD c 0) (m.d.narrow (m.d.r / 2048 * m.p.getD c 0)).1), (m.d.narrow (m.d.r / 2048 * m.p.getD c 0)).2⟩)) := Lib.hid rfl
  generalize hnw : m.d.narrow (m.d.r / 2048 * m.p.getD c 0) = NW at *
  obtain ⟨nb, nd⟩ := NW
  clear h q1 q2 hnw
  go_enter Tryz.func197, Tryz.ntmps197
  go_wp2_with fail
  go_at_call 200
  refine (context_any c hc _).mono ?_
  rintro e w1 ⟨rfl, rfl⟩
  go_wp2_with fail
  go_region_with (first
    | (go_at_call 201; refine (HC.out _ (Only.refl _ _).drew).mono ?_; rintro e w2 ⟨rfl, hd2, hq2⟩; have hm2 := (HK.out.quiet (Only.refl _ _).drew).dec' hq2 hd2 HN.out.1; have Hm2 := Lib.hid hm2; have Hq2 := Lib.hid hq2; clear hd2 hq2 hm2)
    | fail)
  all_goals
    go_wp2_with fail
    go_at_call 202
    refine (learn_any Hm2.out hc nb).mono ?_
    rintro e w3 ⟨rfl, hm3, hq3⟩
    have Hm3 := Lib.hid hm3
    have Hq3 := Lib.hid hq3
    clear hm3 hq3
    go_wp2_with fail
    refine HPost.out _ _ ?_
    rw [HB.out]
    refine ⟨rfl, Hm3.out, ?_⟩
    exact (((Only.refl [] _).drew.mono (U := [R, D]) (by simp)).trans Hq2.out (fun g h _ => h) (fun g h _ => by rw [List.mem_singleton] at h; simp [h])).trans Hq3.out (fun g h _ => h) (fun g h _ => by rw [List.mem_singleton] at h; simp [h])
#print axioms bit_any

set_option maxRecDepth 100000 in
set_option maxHeartbeats 4000000 in
theorem flat_any {lo hi R D : Nat} {bv : Value} {w : World} {m : Mod} (h : ModAt lo hi R D bv w m) (b : Bool) (hp : m.d.pos ≤ 1000000000) :
    Calls Tryz.prog 198 #[.pointer (some ⟨R, 0, none⟩), .bool b] w fun e w' => e = .returned (.bool (flatD m).1) ∧ ModAt lo hi R D bv w' (flatD m).2 ∧ Only [R, D] w w' := by
  have c1 := h.ptr
  have r0 := h.ok.d.lo
  have r1 := h.ok.d.hi
  have HN := Lib.hid (narrow_ok h.ok.d (w := m.d.r / 2) (by omega) (by omega))
  have HK := Lib.hid h
  have HC := Lib.hid (dflat_any h.dec h.ok.d hp)
  clear h
  go_enter Tryz.func198, Tryz.ntmps198
  go_wp2_with fail
  go_at_call 203
  refine HC.out.mono ?_
  rintro e w2 ⟨rfl, hd2, hq2⟩
  go_wp2_with fail
  go_ret
  exact ⟨rfl, HK.out.dec' hq2 hd2 HN.out.1, hq2.mono (by simp)⟩
#print axioms flat_any
end Go.Proofs.YthgpgbdkcdmbpaaGreatDoor
