/- Joined texts: NextK. Conditions: each part names its own. -/
import Derived.Test.YtmbjehnddgcboaaGreatDoorC6
import Derived.Test.YtmbjehnddgcboaaGreatDoorC5
import Derived.Test.YtmbjehnddgcboaaGreatDoorZOwnS
import Derived.Test.YtmbjehnddgcboaaGreatDoorZReadG
import Derived.Test.YtmbjehnddgcboaaGreatDoorZValue
import Derived.Test.YtmbjehnddgcboaaGreatDoorZKSum
/- kinref4.Next tells the unit that stands at a place, or why there is none. Conditions: the bytes read, the place is among them. -/
namespace Go.Proofs.YtmbjehnddgcboaaGreatDoor
open Go.RowKit
set_option linter.unusedVariables false
set_option linter.unusedSimpArgs false

/-- what Next hands back: a unit and no error, or none and the document's error -/
def KNextP (w : World) (r : Except Err UnitD) (e : Ending) (w' : World) : Prop :=
  Only [] w w' ∧ match r with
    | .ok u => ∃ dv, e = .returned (.tuple #[.agg #[.int .i64 u.kind, dv, .int .i64 u.at_, .int .i64 u.end_], .agg #[.int .i64 0, .slice none 0 0]]) ∧ Ints .u8 w.heap.size w'.heap.size w' dv u.data
    | .error er => ∃ sa scap, e = .returned (.tuple #[.agg #[.int .i64 0, .slice none 0 0, .int .i64 0, .int .i64 0], .agg #[.int .i64 er.code, .slice sa er.path.length scap]]) ∧ Cells 2 w.heap.size w'.heap.size w' (.slice sa er.path.length scap) er.path.length (flat er.path)
theorem KNextP.err {w w1 wf : World} {r : Except Err UnitD} {p c : Int} {lo : Nat} {sa : Option Addr} {scap : Nat} (hr : r = .error ⟨[(sUnit, p)], c⟩) (hq : Only [] w w1) (hs : Only [w.heap.size, w.heap.size + 1] w1 wf) (hlo : w.heap.size + 2 ≤ lo)
    (hsv : Cells 2 lo w1.heap.size w1 (.slice sa 1 scap) 1 (flat [(sUnit, p)])) :
    KNextP w r (.returned (.tuple #[.agg #[.int .i64 0, .slice none 0 0, .int .i64 0, .int .i64 0], .agg #[.int .i64 c, .slice sa 1 scap]])) wf := by
  unfold KNextP
  rw [hr]
  refine ⟨hq.trans hs (by simp) (fun x hx hlt => ?_), sa, scap, rfl, (hsv.only hs (fun x hx => ?_)).mono (by omega) hs.size⟩
  · simp only [List.mem_cons, List.not_mem_nil, or_false] at hx; omega
  · simp only [List.mem_cons, List.not_mem_nil, or_false] at hx; omega

/-- the cells of the two results behind a call -/
theorem res6 {w1 : World} {A B : Nat} {v0 v1 v2 v3 u0 u1 : Value} {t s : TypeId} (h : w1.heap[A]? = some (.cells #[v0, v1, v2, v3] t (0, 0))) (k : w1.heap[B]? = some (.cells #[u0, u1] s (0, 0))) :
    (w1.cell? ⟨A, 0, none⟩ = some v0 ∧ w1.cell? ⟨A, 1, none⟩ = some v1 ∧ w1.cell? ⟨A, 2, none⟩ = some v2 ∧ w1.cell? ⟨A, 3, none⟩ = some v3) ∧
    (w1.frozen? ⟨A, 0, none⟩ = false ∧ w1.frozen? ⟨A, 1, none⟩ = false ∧ w1.frozen? ⟨A, 2, none⟩ = false ∧ w1.frozen? ⟨A, 3, none⟩ = false) ∧
    (w1.cell? ⟨B, 0, none⟩ = some u0 ∧ w1.cell? ⟨B, 1, none⟩ = some u1 ∧ w1.frozen? ⟨B, 0, none⟩ = false ∧ w1.frozen? ⟨B, 1, none⟩ = false) := by
  obtain ⟨k0, k1, k2, k3, _⟩ := row2 k
  exact ⟨row4_cells h, ⟨frozen_of_row _ _ _ _ _ h, frozen_of_row _ _ _ _ _ h, frozen_of_row _ _ _ _ _ h, frozen_of_row _ _ _ _ _ h⟩, k0, k1, k2, k3⟩

set_option maxRecDepth 100000 in
set_option maxHeartbeats 8000000 in
theorem knext_short {lo hi b off cap p n : Nat} {d : List Int} {w : World} (hp : p < n) (hn : (n : Int) ≤ 9223372036854775807)
    (hrun : ∀ W, (Instr.slice 22 (.slice (some ⟨b, off, none⟩) n cap) (some (.int .i64 p)) none none).run Tryz.prog W = .ok (.slice (some ⟨b, off + p, none⟩) d.length (cap - p)) W)
    (h : Ints .u8 lo hi w (.slice (some ⟨b, off + p, none⟩) d.length (cap - p)) d) (hm0 : 0 < d.length) (hz : ¬ d.getD 0 0 = 0) (h4 : d.length < 4) :
    Calls Tryz.prog 65 #[.slice (some ⟨b, off, none⟩) n cap, .int .i64 p] w (KNextP w (nextD d p)) := by
  have Hr : Hid (nextD d p = .error ⟨[(sUnit, p)], 1⟩) := Lib.hid (by unfold nextD; rw [if_neg hz, if_pos (by omega)])
  have c0 := (h.open' (by omega)).2
  have hzb : (d.getD 0 0 == 0) = false := by simpa using hz
  have hpi : (p : Int) < (n : Int) := by omega
  have hp0 : (0 : Int) ≤ (p : Int) := by omega
  have hx := h.range (i := 0) (by omega)
  unfold InK at hx
  clear hz
  generalize d.getD 0 0 = q at *
  have c1 : ∀ o o', ((w.alloc o).alloc o').cell? ⟨b, off + p, none⟩ = some (.int .u8 q) := fun o o' => ((Only.new _ _).q (Only.new _ _)).cell c0 (by simp)
  clear h
  go_enter Tryz.func65, Tryz.ntmps65
  go_wp2_with fail
  clear c1
  generalize hW : (w.alloc _).alloc _ = W2
  have hO2 : Only [] w W2 := by rw [← hW]; exact (Only.new _ _).q (Only.new _ _)
  have hz2 : w.heap.size + 2 ≤ W2.heap.size := by rw [← hW]; simp
  have rU : W2.heap[w.heap.size]? = some (.cells #[.int .i64 0, .slice none 0 0, .int .i64 0, .int .i64 0] 106 (0, 0)) := by
    rw [← hW, Below.heap_alloc _ _ _ (by simp)]; exact heap_alloc_new _ _
  have rE : W2.heap[w.heap.size + 1]? = some (.cells #[.int .i64 0, .slice none 0 0] 42 (0, 0)) := by rw [← hW]; exact heap_alloc_new' (by simp)
  clear hW
  go_at_call 16
  refine (wrap_any _ _ _ _ (by omega)).mono ?_
  rintro e w1 ⟨ev, rfl, hev, hq1⟩
  obtain ⟨sv, rfl, hsv⟩ := hev
  obtain ⟨sa, scap, rfl⟩ : ∃ sa scap, sv = .slice sa 1 scap := by obtain ⟨_, sa, scap, h, _⟩ := hsv; exact ⟨sa, scap, h⟩
  obtain ⟨⟨u0, u1, u2, u3⟩, ⟨f0, f1, f2, f3⟩, m0, m1, g0, g1⟩ := res6 (hq1.row rU) (hq1.row rE)
  go_wp2_with fail
  refine bodyPost_ret (v := .tuple #[.agg #[.int .i64 0, .slice none 0 0, .int .i64 0, .int .i64 0], .agg #[.int .i64 1, .slice sa 1 scap]]) (by simp [results, Tryz.results65, go_sem, u0, u1, u2, u3, m0, m1, World.cell?_setCell_other]) rfl ?_
  generalize hWf : World.setCell _ _ _ = Wf
  refine KNextP.err Hr.out (hO2.q hq1) ?_ hz2 hsv
  rw [← hWf]
  exact ((((((Only.refl _ _).setCell (by simp) _).setCell (by simp) _).setCell (by simp) _).setCell (by simp) _).setCell (by simp) _).setCell (by simp) _

theorem getB_len {d : List Int} (h : 4 ≤ d.length) : getB ((d.take 4).drop 1) = lenU d := by
  match d, h with
  | x0 :: x1 :: x2 :: x3 :: r, _ => simp [getB, lenU]; omega
theorem getB_four {e : List Int} (h : 4 ≤ e.length) : getB (e.take 4) = e.getD 0 0 * 16777216 + e.getD 1 0 * 65536 + e.getD 2 0 * 256 + e.getD 3 0 := by
  match e, h with
  | x0 :: x1 :: x2 :: x3 :: r, _ => simp [getB]; omega
theorem getB_sum {d : List Int} {N : Nat} (h : 8 + N ≤ d.length) : getB ((d.take (8 + N)).drop (4 + N)) = sumU d N := by
  have e : (d.take (8 + N)).drop (4 + N) = (d.drop (4 + N)).take 4 := by
    rw [List.drop_take]; congr 1; omega
  rw [e, getB_four (by rw [List.length_drop]; omega)]
  simp only [sumU, getD_drop]
  rw [show 4 + N + 0 = 4 + N by omega, show 4 + N + 1 = 5 + N by omega, show 4 + N + 2 = 6 + N by omega, show 4 + N + 3 = 7 + N by omega]

set_option maxRecDepth 100000 in
set_option maxHeartbeats 8000000 in
theorem knext_bad {lo hi b off cap p n : Nat} {d : List Int} {w : World} (c : Int) (hp : p < n) (hn : (n : Int) ≤ 9223372036854775807)
    (hrun : ∀ W, (Instr.slice 22 (.slice (some ⟨b, off, none⟩) n cap) (some (.int .i64 p)) none none).run Tryz.prog W = .ok (.slice (some ⟨b, off + p, none⟩) d.length (cap - p)) W)
    (h : Ints .u8 lo hi w (.slice (some ⟨b, off + p, none⟩) d.length (cap - p)) d) (hdc : d.length ≤ cap - p) (hdl : (d.length : Int) ≤ 1000000000000) (hz : ¬ d.getD 0 0 = 0) (h4 : 4 ≤ d.length)
    (hcase : (65536 < lenU d ∧ c = 5) ∨ (¬ 65536 < lenU d ∧ (d.length : Int) - 8 < lenU d ∧ c = 1)) :
    Calls Tryz.prog 65 #[.slice (some ⟨b, off, none⟩) n cap, .int .i64 p] w (KNextP w (nextD d p)) := by
  have Hr : Hid (nextD d p = .error ⟨[(sUnit, p)], c⟩) := Lib.hid (by
    unfold nextD
    rw [if_neg hz, if_neg (by omega)]
    rcases hcase with ⟨h1, rfl⟩ | ⟨h1, h2, rfl⟩
    · rw [if_pos h1]
    · rw [if_neg h1, if_pos h2])
  have c0 := (h.open' (by omega)).2
  have hzb : (d.getD 0 0 == 0) = false := by simpa using hz
  have hpi : (p : Int) < (n : Int) := by omega
  have hp0 : (0 : Int) ≤ (p : Int) := by omega
  have h4i : ¬ (d.length : Int) < 4 := by omega
  have hx := h.range (i := 0) (by omega)
  unfold InK at hx
  obtain ⟨a1, hsl, hI1⟩ := slice_part h hdc (i := 1) (j := 4) (by omega) h4 (y := 1) (z := 4) rfl rfl
  have hgl := getB_len h4
  have hgr := getB_range 3 ((d.take 4).drop 1) (by rw [List.length_drop, List.length_take]; omega) (by omega) (fun x hx => h.2 x (List.mem_of_mem_take (List.mem_of_mem_drop hx)))
  have HV := Lib.hid (fun (W : World) (o : Only [] w W) => value_any (hI1.quiet o) (by rw [List.length_drop, List.length_take]; omega))
  rw [hgl] at HV hgr
  have hL0 := hgr.1
  have hL1 : lenU d < 16777216 := hgr.2
  clear hz hgl hgr hI1
  generalize lenU d = N at *
  generalize d.getD 0 0 = q at *
  have c1 : ∀ o o', ((w.alloc o).alloc o').cell? ⟨b, off + p, none⟩ = some (.int .u8 q) := fun o o' => ((Only.new _ _).q (Only.new _ _)).cell c0 (by simp)
  clear h
  go_enter Tryz.func65, Tryz.ntmps65
  go_wp2_with fail
  clear c1 hrun
  generalize hW : (w.alloc _).alloc _ = W2
  have hO2 : Only [] w W2 := by rw [← hW]; exact (Only.new _ _).q (Only.new _ _)
  have hz2 : w.heap.size + 2 ≤ W2.heap.size := by rw [← hW]; simp
  have rU : W2.heap[w.heap.size]? = some (.cells #[.int .i64 0, .slice none 0 0, .int .i64 0, .int .i64 0] 106 (0, 0)) := by
    rw [← hW, Below.heap_alloc _ _ _ (by simp)]; exact heap_alloc_new _ _
  have rE : W2.heap[w.heap.size + 1]? = some (.cells #[.int .i64 0, .slice none 0 0] 42 (0, 0)) := by rw [← hW]; exact heap_alloc_new' (by simp)
  clear hW
  go_at_call 66
  refine (HV.out _ hO2).mono ?_
  rintro e w' ⟨rfl, rfl⟩
  rcases hcase with ⟨h1, rfl⟩ | ⟨h1, h2, rfl⟩
  · go_wp2_with fail
    go_at_call 16
    refine (wrap_any _ _ _ _ (by omega)).mono ?_
    rintro e w1 ⟨ev, rfl, hev, hq1⟩
    obtain ⟨sv, rfl, hsv⟩ := hev
    obtain ⟨sa, scap, rfl⟩ : ∃ sa scap, sv = .slice sa 1 scap := by obtain ⟨_, sa, scap, h, _⟩ := hsv; exact ⟨sa, scap, h⟩
    obtain ⟨⟨u0, u1, u2, u3⟩, ⟨f0, f1, f2, f3⟩, m0, m1, g0, g1⟩ := res6 (hq1.row rU) (hq1.row rE)
    go_wp2_with fail
    refine bodyPost_ret (v := .tuple #[.agg #[.int .i64 0, .slice none 0 0, .int .i64 0, .int .i64 0], .agg #[.int .i64 5, .slice sa 1 scap]]) (by simp [results, Tryz.results65, go_sem, u0, u1, u2, u3, m0, m1, World.cell?_setCell_other]) rfl ?_
    generalize hWf : World.setCell _ _ _ = Wf
    refine KNextP.err Hr.out (hO2.q hq1) ?_ hz2 hsv
    rw [← hWf]
    exact ((((((Only.refl _ _).setCell (by simp) _).setCell (by simp) _).setCell (by simp) _).setCell (by simp) _).setCell (by simp) _).setCell (by simp) _
  · have h3 : (d.length : Int) < N + 8 := by omega
    go_wp2_with fail
    go_at_call 16
    refine (wrap_any _ _ _ _ (by omega)).mono ?_
    rintro e w1 ⟨ev, rfl, hev, hq1⟩
    obtain ⟨sv, rfl, hsv⟩ := hev
    obtain ⟨sa, scap, rfl⟩ : ∃ sa scap, sv = .slice sa 1 scap := by obtain ⟨_, sa, scap, h, _⟩ := hsv; exact ⟨sa, scap, h⟩
    obtain ⟨⟨u0, u1, u2, u3⟩, ⟨f0, f1, f2, f3⟩, m0, m1, g0, g1⟩ := res6 (hq1.row rU) (hq1.row rE)
    go_wp2_with fail
    refine bodyPost_ret (v := .tuple #[.agg #[.int .i64 0, .slice none 0 0, .int .i64 0, .int .i64 0], .agg #[.int .i64 1, .slice sa 1 scap]]) (by simp [results, Tryz.results65, go_sem, u0, u1, u2, u3, m0, m1, World.cell?_setCell_other]) rfl ?_
    generalize hWf : World.setCell _ _ _ = Wf
    refine KNextP.err Hr.out (hO2.q hq1) ?_ hz2 hsv
    rw [← hWf]
    exact ((((((Only.refl _ _).setCell (by simp) _).setCell (by simp) _).setCell (by simp) _).setCell (by simp) _).setCell (by simp) _).setCell (by simp) _

set_option maxRecDepth 100000 in
set_option maxHeartbeats 8000000 in
theorem knext_full {lo hi b off cap p n N : Nat} {d : List Int} {w : World} (hp : p < n) (hn : (n : Int) ≤ 1000000000000)
    (hrun : ∀ W, (Instr.slice 22 (.slice (some ⟨b, off, none⟩) n cap) (some (.int .i64 p)) none none).run Tryz.prog W = .ok (.slice (some ⟨b, off + p, none⟩) d.length (cap - p)) W)
    (h : Ints .u8 lo hi w (.slice (some ⟨b, off + p, none⟩) d.length (cap - p)) d) (hdc : d.length ≤ cap - p) (hcm : (cap : Int) ≤ 9223372036854775807) (hdl : (d.length : Int) ≤ 1000000000000) (hz : ¬ d.getD 0 0 = 0)
    (hN : lenU d = N) (h6 : N ≤ 65536) (h8 : 8 + N ≤ d.length) :
    Calls Tryz.prog 65 #[.slice (some ⟨b, off, none⟩) n cap, .int .i64 p] w (KNextP w (nextD d p)) := by
  suffices key : ∀ Q : Ending → World → Prop, Hid (∀ e w', KNextP w (nextD d p) e w' → Q e w') → Calls Tryz.prog 65 #[.slice (some ⟨b, off, none⟩) n cap, .int .i64 p] w Q from key _ (Lib.hid fun _ _ h => h)
  intro Q HPost
  have hnd : nextD d p = if (crc (d.take (4 + N)) : Int) ≠ sumU d N then .error ⟨[(sUnit, p)], 4⟩ else .ok ⟨d.getD 0 0, (d.drop 4).take N, p, p + (8 + N)⟩ := by
    unfold nextD
    rw [if_neg hz, if_neg (by omega), hN, if_neg (by omega), if_neg (by omega), Int.toNat_natCast]
  have Hnd := Lib.hid hnd
  have c0 := (h.open' (by omega)).2
  have hzb : (d.getD 0 0 == 0) = false := by simpa using hz
  have hpi : (p : Int) < (n : Int) := by omega
  have hp0 : (0 : Int) ≤ (p : Int) := by omega
  have h4i : ¬ (d.length : Int) < 4 := by omega
  have hx : 0 ≤ d.getD 0 0 ∧ d.getD 0 0 ≤ 255 := h.range (i := 0) (by omega)
  obtain ⟨a1, hsl, hI1⟩ := slice_part h hdc (i := 1) (j := 4) (by omega) (by omega) (y := 1) (z := 4) rfl rfl
  have HV := Lib.hid (fun (W : World) (o : Only [] w W) => value_any (hI1.quiet o) (by rw [List.length_drop, List.length_take]; omega))
  rw [getB_len (by omega), hN] at HV
  obtain ⟨a2, hsl2, hI2⟩ := slice_part h hdc (i := 4 + N) (j := 8 + N) (by omega) h8 (y := 4 + (N : Int)) (z := 8 + (N : Int)) (by push_cast; rfl) (by push_cast; rfl)
  have e1 : 8 + N - (4 + N) = 4 := by omega
  rw [e1] at hsl2 hI2
  generalize hk2 : cap - p - (4 + N) = k2 at *
  have HV2 := Lib.hid (fun (W : World) (o : Only [] w W) => value_any (hI2.quiet o) (by rw [List.length_drop, List.length_take]; omega))
  rw [getB_sum h8] at HV2
  obtain ⟨hsl3, hI3⟩ := slice_upto h hdc (j := 4 + N) (by omega) (z := 4 + (N : Int)) (by push_cast; rfl)
  have HS3 := Lib.hid (fun (W : World) (o : Only [] w W) => ksum_any (hI3.quiet o))
  have hcl := crc_lt _ hI3.2
  obtain ⟨a4, hsl4, hI4⟩ := slice_part h hdc (i := 4) (j := 4 + N) (by omega) (by omega) (y := 4) (z := 4 + (N : Int)) rfl (by push_cast; rfl)
  have e4 : 4 + N - 4 = N := by omega
  rw [e4] at hsl4 hI4
  have hdd : (d.take (4 + N)).drop 4 = (d.drop 4).take N := by rw [List.drop_take, e4]
  rw [hdd] at hI4
  have HI4 := Lib.hid hI4
  have Hl4 : Hid (((d.drop 4).take N).length = N) := Lib.hid (by rw [List.length_take, List.length_drop]; omega)
  have HSL2 := Lib.hid hsl2
  have HSL3 := Lib.hid hsl3
  have HSL4 := Lib.hid hsl4
  clear hz hI1 hI2 hI3 hI4 hnd e1 e4 hdd hk2 hN hsl2 hsl3 hsl4
  generalize hcq : crc (d.take (4 + N)) = C at *
  generalize hsq : sumU d N = S at *
  generalize d.getD 0 0 = q at *
  have hwC : IntKind.i64.wrap (C : Int) = C := by rw [IntKind.wrap_i64]; omega
  have hw4 : IntKind.i64.wrap (4 + (N : Int)) = 4 + N := by rw [IntKind.wrap_i64]; omega
  have hw8 : IntKind.i64.wrap (8 + (N : Int)) = 8 + N := by rw [IntKind.wrap_i64]; omega
  have HwC := Lib.hid hwC
  have Hw4 := Lib.hid hw4
  have Hw8 := Lib.hid hw8
  clear hwC hw4 hw8 hcq hsq hcl
  have c1 : ∀ o o', ((w.alloc o).alloc o').cell? ⟨b, off + p, none⟩ = some (.int .u8 q) := fun o o' => ((Only.new _ _).q (Only.new _ _)).cell c0 (by simp)
  obtain ⟨M, hM⟩ : ∃ M : Int, (N : Int) = M := ⟨_, rfl⟩
  have h6i : ¬ (65536 : Int) < M := by omega
  have h8i : ¬ (d.length : Int) < M + 8 := by omega
  have hN0 : (0 : Int) ≤ M := by omega
  rw [hM] at HV HSL2 HSL3 HSL4 Hw4 Hw8
  have HM := Lib.hid hM
  clear hM
  have H6 := Lib.hid h6
  have H8 := Lib.hid h8
  have Hcm := Lib.hid hcm
  have Hdc := Lib.hid hdc
  clear h h6 h8 hcm hdc
  go_enter Tryz.func65, Tryz.ntmps65
  go_wp2_with fail
  clear c1 hrun
  generalize hW : (w.alloc _).alloc _ = W2
  have hO2 : Only [] w W2 := by rw [← hW]; exact (Only.new _ _).q (Only.new _ _)
  have hz2 : w.heap.size + 2 ≤ W2.heap.size := by rw [← hW]; simp
  have rU : W2.heap[w.heap.size]? = some (.cells #[.int .i64 0, .slice none 0 0, .int .i64 0, .int .i64 0] 106 (0, 0)) := by
    rw [← hW, Below.heap_alloc _ _ _ (by simp)]; exact heap_alloc_new _ _
  have rE : W2.heap[w.heap.size + 1]? = some (.cells #[.int .i64 0, .slice none 0 0] 42 (0, 0)) := by rw [← hW]; exact heap_alloc_new' (by simp)
  clear hW
  go_at_call 66
  refine (HV.out _ hO2).mono ?_
  rintro e w' ⟨rfl, rfl⟩
  go_wp2_with fail
  have hsl2 := HSL2.out
  have hsl3 := HSL3.out
  have hwC := HwC.out
  have hw4 := Hw4.out
  have hw8 := Hw8.out
  have h40 : (0 : Int) ≤ 4 + M := by omega
  have h80 : (0 : Int) ≤ 8 + M := by omega
  go_quiet (first
    | (go_at_call 66; exact Calls.quiet_of_same ((HV2.out _ (hO2.drewN _)).mono fun _ _ ⟨a, b⟩ => ⟨a, b.symm⟩))
    | (go_at_call 46; exact Calls.quiet_of_same ((HS3.out _ (hO2.drewN _)).mono fun _ _ ⟨a, b⟩ => ⟨a, b.symm⟩)))
  clear hwC hw4 hw8
  have hqd : Only [] w (W2.drewN nq) := hO2.drewN nq
  have rU' : (W2.drewN nq).heap[w.heap.size]? = some (.cells #[.int .i64 0, .slice none 0 0, .int .i64 0, .int .i64 0] 106 (0, 0)) := rU
  have rE' : (W2.drewN nq).heap[w.heap.size + 1]? = some (.cells #[.int .i64 0, .slice none 0 0] 42 (0, 0)) := rE
  have hzd : w.heap.size + 2 ≤ (W2.drewN nq).heap.size := hz2
  generalize W2.drewN nq = W3 at *
  by_cases hSC : S = (C : Int)
  · subst hSC
    have hcb : ((C : Int) != (C : Int)) = false := by simp
    have Hok : Hid (nextD d p = .ok ⟨q, (d.drop 4).take N, p, p + (8 + N)⟩) := Lib.hid (by rw [Hnd.out, if_neg (by simp)])
    have c3 := hqd.cell c0 (by simp)
    go_wp2_with fail
    have hsl4 := HSL4.out
    generalize cap - p - 4 = k4 at *
    have hbw : b < w.heap.size := block_lt_of_cell c0
    have hbA : (w.heap.size = b) = False := eq_false (by omega)
    have hbB : (w.heap.size + 1 = b) = False := eq_false (by omega)
    have hw4 := Hw4.out
    have hwp : IntKind.i64.wrap ((p : Int) + M) = p + M := by rw [IntKind.wrap_i64]; omega
    have hwp8 : IntKind.i64.wrap ((p : Int) + M + 8) = p + M + 8 := by rw [IntKind.wrap_i64]; omega
    have hwq : IntKind.i64.wrap q = q := by rw [IntKind.wrap_i64]; omega
    have hm0 : (0 : Int) < (d.length : Int) := by have := H8.out; omega
    have hm0n : 0 < d.length := by omega
    have h40 : (0 : Int) ≤ 4 + M := by omega
    have HB := Lib.hid (fun (w1 : World) (o : Only [] W3.drew w1) => res6 (((Only.refl [] W3).drew.q o).row rU') (((Only.refl [] W3).drew.q o).row rE'))
    have hcp : Calls Tryz.prog 5 #[.slice a4 N k4] W3.drew (fun e w' => ∃ a5 cap5, e = .returned (.slice a5 N cap5) ∧ Own .u8 5 W3.drew.heap.size w' (.slice a5 N cap5) ((d.drop 4).take N) ∧ Only [] W3.drew w') := by
      refine (copyb_any (w := W3.drew) (HI4.out.quiet (hqd.drew)) (by rw [Hl4.out]; have := H6.out; omega)).mono ?_
      rintro e w1 ⟨v1, rfl, ho, hq⟩
      obtain ⟨a5, cap5, hv, _⟩ := ho.ints.open
      rw [Hl4.out] at hv
      subst hv
      exact ⟨a5, cap5, rfl, ho, hq⟩
    have Hc := Lib.hid hcp
    clear hcp
    go_region_held3 (fun w' => w'.cell? ⟨b, off + p, none⟩ = some (.int .u8 q))
      (first
        | (simp only [World.cell?_setCell_far, ne_eq, hbA, hbB, not_false_eq_true]; assumption)
        | (with_reducible refine hq1.cell (by assumption) (by simp))
        | (simp [*, World.cell?_alloc_some, World.cell?_setCell_far, frozen?_alloc_cells, frozen_drew, World.frozen?_setCell])
        | fail)
      (first
        | (go_at_call 5; refine Hc.out.mono ?_; rintro e w1 ⟨a5, cap5, rfl, hown1, hq1⟩; obtain ⟨⟨u0, u1, u2, u3⟩, ⟨f0, f1, f2, f3⟩, m0, m1, g0, g1⟩ := HB.out w1 hq1)
        | fail)
    all_goals
      go_wp2_with fail
      refine bodyPost_ret (v := .tuple #[.agg #[.int .i64 q, .slice a5 N cap5, .int .i64 p, .int .i64 (p + M + 8)], .agg #[.int .i64 0, .slice none 0 0]]) (by simp [results, Tryz.results65, go_sem, hwq, hwp, hwp8, u0, u1, u2, u3, m0, m1, World.cell?_setCell_other]) rfl (HPost.out _ _ ?_)
      generalize hWf : World.setCell _ _ _ = Wf
      have hs : Only [w.heap.size, w.heap.size + 1] w1 Wf := by
        rw [← hWf]
        exact ((((((Only.refl _ _).setCell (by simp) _).setCell (by simp) _).setCell (by simp) _).setCell (by simp) _).setCell (by simp) _).setCell (by simp) _
      have hz3 : w.heap.size + 2 ≤ W3.drew.heap.size := hzd
      unfold KNextP
      rw [Hok.out]
      refine ⟨(hqd.drew.q hq1).trans hs (by simp) (fun g hg hlt => ?_), _, ?_, (hown1.ints.only hs (fun g hg => ?_)).mono (by omega) hs.size⟩
      · simp only [List.mem_cons, List.not_mem_nil, or_false] at hg; omega
      · have := HM.out
        rw [show ((p + (8 + N) : Nat) : Int) = (p : Int) + M + 8 by omega]
      · simp only [List.mem_cons, List.not_mem_nil, or_false] at hg
        left; omega
  · have hcb : (S != (C : Int)) = true := by simpa using hSC
    have Hr : Hid (nextD d p = .error ⟨[(sUnit, p)], 4⟩) := Lib.hid (by rw [Hnd.out, if_pos (fun h => hSC h.symm)])
    clear hSC
    go_wp2_with fail
    go_at_call 16
    refine (wrap_any _ _ _ _ (by omega)).mono ?_
    rintro e w1 ⟨ev, rfl, hev, hq1⟩
    obtain ⟨sv, rfl, hsv⟩ := hev
    obtain ⟨sa, scap, rfl⟩ : ∃ sa scap, sv = .slice sa 1 scap := by obtain ⟨_, sa, scap, h, _⟩ := hsv; exact ⟨sa, scap, h⟩
    obtain ⟨⟨u0, u1, u2, u3⟩, ⟨f0, f1, f2, f3⟩, m0, m1, g0, g1⟩ := res6 (hq1.row rU') (hq1.row rE')
    go_wp2_with fail
    refine bodyPost_ret (v := .tuple #[.agg #[.int .i64 0, .slice none 0 0, .int .i64 0, .int .i64 0], .agg #[.int .i64 4, .slice sa 1 scap]]) (by simp [results, Tryz.results65, go_sem, u0, u1, u2, u3, m0, m1, World.cell?_setCell_other]) rfl (HPost.out _ _ ?_)
    generalize hWf : World.setCell _ _ _ = Wf
    refine KNextP.err Hr.out (hqd.q hq1) ?_ hzd hsv
    rw [← hWf]
    exact ((((((Only.refl _ _).setCell (by simp) _).setCell (by simp) _).setCell (by simp) _).setCell (by simp) _).setCell (by simp) _).setCell (by simp) _
end Go.Proofs.YtmbjehnddgcboaaGreatDoor
